/- Printed by a program of this workplace (a turned copy of the kit's optional print), out of the translation; not trusted: Lean checks it. -/
import Derived.Test.YtbhfkhcedjgpdaaDoorPx0
import Derived.Test.YtbhfkhcedjgpdaaDoorPx4
import Derived.Test.YtbhfkhcedjgpdaaDoorPx5
import Derived.Test.YtbhfkhcedjgpdaaDoorErrIs
namespace Go.Proofs.YtbhfkhcedjgpdaaDoor.P
open Go.RowKit Go.Proofs.YtbhfkhcedjgpdaaDoorW.PrintWords Go.Proofs.YtbhfkhcedjgpdaaDoorW.PrintLast Go.Proofs.YtbhfkhcedjgpdaaDoorW.PrintMore
attribute [local go_sem] max2_int min2_int max_two min_two max_three min_three max_four min_four   -- for this text's walks alone
set_option linter.unusedVariables false
set_option linter.unusedSimpArgs false

/-! ### tontinelaw20_known: function 5 -/
def tontinelaw20_known.f (k : Nat)  : Option (Bool) := (tontinehelp_Base.f).bind fun bt160 => ((check_Read.f k bt160.1 bt160.2.1 bt160.2.2.1 bt160.2.2.2 3 0).bind fun t169 => (if t169.isNone = true then ((check_Read.f k bt160.1 bt160.2.1 bt160.2.2.1 bt160.2.2.2 0 3).bind fun t171 => ((errors_Is.f t171 (some 15)).bind fun t172 => (if t172 = true then ((check_Read.f k bt160.1 bt160.2.1 bt160.2.2.1 bt160.2.2.2 0 9).bind fun t173 => ((errors_Is.f t173 (some 13)).bind fun t174 => (if t174 = true then ((check_Send.f k bt160.1 bt160.2.1 bt160.2.2.1 bt160.2.2.2 0 3).bind fun t175 => (if t175.isNone = true then ((check_Send.f k bt160.1 bt160.2.1 bt160.2.2.1 bt160.2.2.2 1 2).bind fun t177 => ((errors_Is.f t177 (some 15)).bind fun t178 => (if t178 = true then ((check_Plan.f k bt160.1 bt160.2.1 bt160.2.2.1 bt160.2.2.2 0 1).bind fun t179 => (if t179.isNone = true then ((check_Plan.f k bt160.1 bt160.2.1 bt160.2.2.1 bt160.2.2.2 0 2).bind fun t181 => ((errors_Is.f t181 (some 10)).bind fun t182 => (if t182 = true then ((check_Plan.f k bt160.1 bt160.2.1 bt160.2.2.1 bt160.2.2.2 1 1).bind fun t183 => ((errors_Is.f t183 (some 15)).bind fun t184 => (if t184 = true then ((check_Level.f k bt160.1 bt160.2.1 bt160.2.2.1 bt160.2.2.2 3 2).bind fun t185 => (if t185.isNone = true then ((check_Level.f k bt160.1 bt160.2.1 bt160.2.2.1 bt160.2.2.2 0 0).bind fun t187 => ((errors_Is.f t187 (some 10)).bind fun t188 => (some t188))) else (some false))) else (some false)))) else (some false)))) else (some false))) else (some false)))) else (some false))) else (some false)))) else (some false)))) else (some false)))
theorem tontinelaw20_known.mono : ∀ k, LeO (tontinelaw20_known.f k ) (tontinelaw20_known.f (k + 1) ) := by
 intro  k
 unfold tontinelaw20_known.f
 repeat' first
   | (with_reducible exact check_Level.mono _ _ _ _ _ _ _)
   | (with_reducible exact check_Plan.mono _ _ _ _ _ _ _)
   | (with_reducible exact check_Read.mono _ _ _ _ _ _ _)
   | (with_reducible exact check_Send.mono _ _ _ _ _ _ _)
   | (with_reducible exact LeO.refl _)
   | (with_reducible exact LeO.none _)
   | (with_reducible refine LeO.ite ?_ ?_)
   | (with_reducible refine LeO.bind ?_ (fun _ => ?_))
   | exact check_Level.mono _ _ _ _ _ _ _
   | exact check_Plan.mono _ _ _ _ _ _ _
   | exact check_Read.mono _ _ _ _ _ _ _
   | exact check_Send.mono _ _ _ _ _ _ _
   | exact LeO.none _
   | refine LeO.ite ?_ ?_
   | refine LeO.bind ?_ (fun _ => ?_)
set_option maxHeartbeats 8000000 in
set_option maxRecDepth 100000 in
theorem tontinelaw20_known.calls (k : Nat)  (r : Bool) (hrt : r = true) (w : World) (h : tontinelaw20_known.f k  = some r) :
    Calls Tryd.prog 5 #[] w fun e w' => e = .returned (.bool r) ∧ Below w.heap.size w w' := by
 have hu25 := Tryd.underlying25; have hu31 := Tryd.underlying31; have hu55 := Tryd.underlying55
 have HB := Goto.m0 (Below.refl w.heap.size w)
 have HRT := Goto.m0 hrt
 clear hrt
 have H : ((tontinehelp_Base.f).bind fun bt160 => ((check_Read.f k bt160.1 bt160.2.1 bt160.2.2.1 bt160.2.2.2 3 0).bind fun t169 => (if t169.isNone = true then ((check_Read.f k bt160.1 bt160.2.1 bt160.2.2.1 bt160.2.2.2 0 3).bind fun t171 => ((errors_Is.f t171 (some 15)).bind fun t172 => (if t172 = true then ((check_Read.f k bt160.1 bt160.2.1 bt160.2.2.1 bt160.2.2.2 0 9).bind fun t173 => ((errors_Is.f t173 (some 13)).bind fun t174 => (if t174 = true then ((check_Send.f k bt160.1 bt160.2.1 bt160.2.2.1 bt160.2.2.2 0 3).bind fun t175 => (if t175.isNone = true then ((check_Send.f k bt160.1 bt160.2.1 bt160.2.2.1 bt160.2.2.2 1 2).bind fun t177 => ((errors_Is.f t177 (some 15)).bind fun t178 => (if t178 = true then ((check_Plan.f k bt160.1 bt160.2.1 bt160.2.2.1 bt160.2.2.2 0 1).bind fun t179 => (if t179.isNone = true then ((check_Plan.f k bt160.1 bt160.2.1 bt160.2.2.1 bt160.2.2.2 0 2).bind fun t181 => ((errors_Is.f t181 (some 10)).bind fun t182 => (if t182 = true then ((check_Plan.f k bt160.1 bt160.2.1 bt160.2.2.1 bt160.2.2.2 1 1).bind fun t183 => ((errors_Is.f t183 (some 15)).bind fun t184 => (if t184 = true then ((check_Level.f k bt160.1 bt160.2.1 bt160.2.2.1 bt160.2.2.2 3 2).bind fun t185 => (if t185.isNone = true then ((check_Level.f k bt160.1 bt160.2.1 bt160.2.2.1 bt160.2.2.2 0 0).bind fun t187 => ((errors_Is.f t187 (some 10)).bind fun t188 => (some t188))) else (some false))) else (some false)))) else (some false)))) else (some false))) else (some false)))) else (some false))) else (some false)))) else (some false)))) else (some false)))) = some r := h
 clear h
 replace H := Option.bind_eq_some_iff.mp H
 obtain ⟨⟨t160, t161, t162, t165⟩, A10, H⟩ := H
 replace H : ((check_Read.f k t160 t161 t162 t165 3 0).bind fun t169 => (if t169.isNone = true then ((check_Read.f k t160 t161 t162 t165 0 3).bind fun t171 => ((errors_Is.f t171 (some 15)).bind fun t172 => (if t172 = true then ((check_Read.f k t160 t161 t162 t165 0 9).bind fun t173 => ((errors_Is.f t173 (some 13)).bind fun t174 => (if t174 = true then ((check_Send.f k t160 t161 t162 t165 0 3).bind fun t175 => (if t175.isNone = true then ((check_Send.f k t160 t161 t162 t165 1 2).bind fun t177 => ((errors_Is.f t177 (some 15)).bind fun t178 => (if t178 = true then ((check_Plan.f k t160 t161 t162 t165 0 1).bind fun t179 => (if t179.isNone = true then ((check_Plan.f k t160 t161 t162 t165 0 2).bind fun t181 => ((errors_Is.f t181 (some 10)).bind fun t182 => (if t182 = true then ((check_Plan.f k t160 t161 t162 t165 1 1).bind fun t183 => ((errors_Is.f t183 (some 15)).bind fun t184 => (if t184 = true then ((check_Level.f k t160 t161 t162 t165 3 2).bind fun t185 => (if t185.isNone = true then ((check_Level.f k t160 t161 t162 t165 0 0).bind fun t187 => ((errors_Is.f t187 (some 10)).bind fun t188 => (some t188))) else (some false))) else (some false)))) else (some false)))) else (some false))) else (some false)))) else (some false))) else (some false)))) else (some false)))) else (some false))) = some r := H
 have A1 := Goto.m0 A10
 clear A10
 replace H := Option.bind_eq_some_iff.mp H
 obtain ⟨t169, A20, H⟩ := H
 have A2 := Goto.m0 A20
 clear A20
 rcases t169 with _ | q170
 ·
  have H1 : ((check_Read.f k t160 t161 t162 t165 0 3).bind fun t171 => ((errors_Is.f t171 (some 15)).bind fun t172 => (if t172 = true then ((check_Read.f k t160 t161 t162 t165 0 9).bind fun t173 => ((errors_Is.f t173 (some 13)).bind fun t174 => (if t174 = true then ((check_Send.f k t160 t161 t162 t165 0 3).bind fun t175 => (if t175.isNone = true then ((check_Send.f k t160 t161 t162 t165 1 2).bind fun t177 => ((errors_Is.f t177 (some 15)).bind fun t178 => (if t178 = true then ((check_Plan.f k t160 t161 t162 t165 0 1).bind fun t179 => (if t179.isNone = true then ((check_Plan.f k t160 t161 t162 t165 0 2).bind fun t181 => ((errors_Is.f t181 (some 10)).bind fun t182 => (if t182 = true then ((check_Plan.f k t160 t161 t162 t165 1 1).bind fun t183 => ((errors_Is.f t183 (some 15)).bind fun t184 => (if t184 = true then ((check_Level.f k t160 t161 t162 t165 3 2).bind fun t185 => (if t185.isNone = true then ((check_Level.f k t160 t161 t162 t165 0 0).bind fun t187 => ((errors_Is.f t187 (some 10)).bind fun t188 => (some t188))) else (some false))) else (some false)))) else (some false)))) else (some false))) else (some false)))) else (some false))) else (some false)))) else (some false)))) = some r := by rw [if_pos (show (none : Option Int).isNone = true by rfl)] at H; exact H
  clear H; have H := H1; clear H1
  try simp only [errW_none, errW_some]
  replace H := Option.bind_eq_some_iff.mp H
  obtain ⟨t171, A30, H⟩ := H
  have A3 := Goto.m0 A30
  clear A30
  replace H := Option.bind_eq_some_iff.mp H
  obtain ⟨t172, A40, H⟩ := H
  have A4 := Goto.m0 A40
  clear A40
  by_cases c5 : t172 = true
  ·
   subst c5
   rw [if_pos rfl] at H
   replace H := Option.bind_eq_some_iff.mp H
   obtain ⟨t173, A60, H⟩ := H
   have A6 := Goto.m0 A60
   clear A60
   replace H := Option.bind_eq_some_iff.mp H
   obtain ⟨t174, A70, H⟩ := H
   have A7 := Goto.m0 A70
   clear A70
   by_cases c8 : t174 = true
   ·
    subst c8
    rw [if_pos rfl] at H
    replace H := Option.bind_eq_some_iff.mp H
    obtain ⟨t175, A90, H⟩ := H
    have A9 := Goto.m0 A90
    clear A90
    rcases t175 with _ | q176
    ·
     have H1 : ((check_Send.f k t160 t161 t162 t165 1 2).bind fun t177 => ((errors_Is.f t177 (some 15)).bind fun t178 => (if t178 = true then ((check_Plan.f k t160 t161 t162 t165 0 1).bind fun t179 => (if t179.isNone = true then ((check_Plan.f k t160 t161 t162 t165 0 2).bind fun t181 => ((errors_Is.f t181 (some 10)).bind fun t182 => (if t182 = true then ((check_Plan.f k t160 t161 t162 t165 1 1).bind fun t183 => ((errors_Is.f t183 (some 15)).bind fun t184 => (if t184 = true then ((check_Level.f k t160 t161 t162 t165 3 2).bind fun t185 => (if t185.isNone = true then ((check_Level.f k t160 t161 t162 t165 0 0).bind fun t187 => ((errors_Is.f t187 (some 10)).bind fun t188 => (some t188))) else (some false))) else (some false)))) else (some false)))) else (some false))) else (some false)))) = some r := by rw [if_pos (show (none : Option Int).isNone = true by rfl)] at H; exact H
     clear H; have H := H1; clear H1
     try simp only [errW_none, errW_some]
     replace H := Option.bind_eq_some_iff.mp H
     obtain ⟨t177, A100, H⟩ := H
     have A10 := Goto.m0 A100
     clear A100
     replace H := Option.bind_eq_some_iff.mp H
     obtain ⟨t178, A110, H⟩ := H
     have A11 := Goto.m0 A110
     clear A110
     by_cases c12 : t178 = true
     ·
      subst c12
      rw [if_pos rfl] at H
      replace H := Option.bind_eq_some_iff.mp H
      obtain ⟨t179, A130, H⟩ := H
      have A13 := Goto.m0 A130
      clear A130
      rcases t179 with _ | q180
      ·
       have H1 : ((check_Plan.f k t160 t161 t162 t165 0 2).bind fun t181 => ((errors_Is.f t181 (some 10)).bind fun t182 => (if t182 = true then ((check_Plan.f k t160 t161 t162 t165 1 1).bind fun t183 => ((errors_Is.f t183 (some 15)).bind fun t184 => (if t184 = true then ((check_Level.f k t160 t161 t162 t165 3 2).bind fun t185 => (if t185.isNone = true then ((check_Level.f k t160 t161 t162 t165 0 0).bind fun t187 => ((errors_Is.f t187 (some 10)).bind fun t188 => (some t188))) else (some false))) else (some false)))) else (some false)))) = some r := by rw [if_pos (show (none : Option Int).isNone = true by rfl)] at H; exact H
       clear H; have H := H1; clear H1
       try simp only [errW_none, errW_some]
       replace H := Option.bind_eq_some_iff.mp H
       obtain ⟨t181, A140, H⟩ := H
       have A14 := Goto.m0 A140
       clear A140
       replace H := Option.bind_eq_some_iff.mp H
       obtain ⟨t182, A150, H⟩ := H
       have A15 := Goto.m0 A150
       clear A150
       by_cases c16 : t182 = true
       ·
        subst c16
        rw [if_pos rfl] at H
        replace H := Option.bind_eq_some_iff.mp H
        obtain ⟨t183, A170, H⟩ := H
        have A17 := Goto.m0 A170
        clear A170
        replace H := Option.bind_eq_some_iff.mp H
        obtain ⟨t184, A180, H⟩ := H
        have A18 := Goto.m0 A180
        clear A180
        by_cases c19 : t184 = true
        ·
         subst c19
         rw [if_pos rfl] at H
         replace H := Option.bind_eq_some_iff.mp H
         obtain ⟨t185, A200, H⟩ := H
         have A20 := Goto.m0 A200
         clear A200
         rcases t185 with _ | q186
         ·
          have H1 : ((check_Level.f k t160 t161 t162 t165 0 0).bind fun t187 => ((errors_Is.f t187 (some 10)).bind fun t188 => (some t188))) = some r := by rw [if_pos (show (none : Option Int).isNone = true by rfl)] at H; exact H
          clear H; have H := H1; clear H1
          try simp only [errW_none, errW_some]
          replace H := Option.bind_eq_some_iff.mp H
          obtain ⟨t187, A210, H⟩ := H
          have A21 := Goto.m0 A210
          clear A210
          replace H := Option.bind_eq_some_iff.mp H
          obtain ⟨t188, A220, H⟩ := H
          have A22 := Goto.m0 A220
          clear A220
          obtain rfl := Option.some.inj H
          go_enter Tryd.func5, Tryd.ntmps5
          go_wp2_with (first | ((with_reducible refine gate_callee (f := 30) rfl ?_); refine goesL_ (some 2) rfl rfl Tryd.func30 (by kernel_rfl) rfl #[] rfl (by (try simp only [List.map_toArray, List.map_cons, List.map_nil]); first | done | rfl | (simp only [List.length_drop, List.length_take]; rfl)) ?_; (with_reducible refine (tontinehelp_Base.calls  t160 t161 t162 t165 _ A1.out).mono ?_); rintro e w23 ⟨v163, v166, rfl, ho0, ho1, hb⟩; refine ⟨_, rfl, ?_⟩; have HO164 := Goto.m0 (Kd.N_lower (Kd.N_mono (ok' := fun k_ => some k_ ≠ (v166 : Value).ownBlock) ho0 (fun k_ hk_ => hk_.2)) (below_size (Goto.hx HB))); have HO167 := Goto.m0 (Kd.N_lower (Kd.N_mono (ok' := fun k_ => some k_ ≠ (v163 : Value).ownBlock) ho1 (fun k_ hk_ => hk_.2)) (below_size (Goto.hx HB))); replace HB := Goto.hs HB hb; (try clear hb); (try clear hb2); (try clear hk); (try clear hi); (try clear ho0); (try clear ho1)) | ((with_reducible refine gate_dst (N := 1) rfl ?_); refine box_event ?hg (N := 1) ?hd (cs := #[.int .i64 0, .int .i64 0, .slice none 0 0, .slice none 0 0]) (t := 25) ?hr ?_; (case hd => rfl); (case hg => rfl); (case hr => first | (go_simp; done) | (go_simp; rfl)); intro gb168 hg w24 hbox hb; have BK168 := Goto.m0 (hbox); have GW168 := Goto.gs HB hg; have GE168 := Goto.gs HB hg; replace HO164 := Goto.m0 (Kd.N_below (Kd.N_elderB (by (with_reducible repeat (first | apply Kd.N_alloc | apply Kd.N_drewN | apply Kd.N_drew)); exact HO164.out) gb168 (Nat.le_of_eq hg.symm)) hb); replace HO167 := Goto.m0 (Kd.N_below (Kd.N_elderB (by (with_reducible repeat (first | apply Kd.N_alloc | apply Kd.N_drewN | apply Kd.N_drew)); exact HO167.out) gb168 (Nat.le_of_eq hg.symm)) hb); replace HB := Goto.hs HB hb; clear hb hbox hg; have hcz25_0 := Goto.bc0 BK168; have hcz25_1 := Goto.bc1 BK168; have hcz25_2 := Goto.bc2 BK168; have hcz25_3 := Goto.bc3 BK168; have hfz25_0 := Goto.bf BK168 0; have hfz25_1 := Goto.bf BK168 1; have hfz25_2 := Goto.bf BK168 2; have hfz25_3 := Goto.bf BK168 3; obtain ⟨Ao26, co26, eo26⟩ := Kd.N_slice HO164.out; subst eo26; obtain ⟨Ao27, co27, eo27⟩ := Kd.N_slice HO167.out; subst eo27) | ((with_reducible refine gate_callee (f := 9) rfl ?_); refine goesL_ (some 4) rfl rfl Tryd.func9 (by kernel_rfl) rfl #[.agg #[.int .i64 t160, .int .i64 t161, .slice Ao26 t162.length co26, .slice Ao27 t165.length co27], .int .i64 3, .int .i64 0] rfl (by (try simp only [List.map_toArray, List.map_cons, List.map_nil]); first | done | rfl | (simp only [List.length_drop, List.length_take]; rfl)) ?_; (with_reducible refine (check_Read.calls k t160 t161 _ _ t162 _ _ t165 3 0 none _ ?side1 ?side2 ?side3 ?side4 A2.out).mono ?_); (case side1 => refine (Kd.N_reads' (e := 47) (base := w.heap.size) (ok := fun k_ => (some k_ ≠ (.slice Ao27 t165.length co27 : Value).ownBlock ∧ k_ ≠ gb168)) (n := t162.length) (c := co26) ?_).2.2; exact (by (with_reducible repeat (first | apply Kd.N_alloc | apply Kd.N_drewN | apply Kd.N_drew)); exact (Kd.N_mono (Kd.N_far (p := ⟨gb168, 3, none⟩) (Kd.N_far (p := ⟨gb168, 2, none⟩) (Kd.N_far (p := ⟨gb168, 1, none⟩) (Kd.N_far (p := ⟨gb168, 0, none⟩) (Kd.N_mono HO164.out (fun k_ hk => (⟨hk, hk.2⟩ : _ ∧ k_ ≠ gb168))) (fun _ hk => hk.2) (.int .i64 t160)) (fun _ hk => hk.2) (.int .i64 t161)) (fun _ hk => hk.2) (.slice Ao26 t162.length co26)) (fun _ hk => hk.2) (.slice Ao27 t165.length co27)) (fun _ h_ => h_.1)))); (case side2 => exact (Kd.N_reads' HO164.out).2.1); (case side3 => refine (Kd.N_reads' (e := 60) (base := w.heap.size) (ok := fun k_ => (some k_ ≠ (.slice Ao26 t162.length co26 : Value).ownBlock ∧ k_ ≠ gb168)) (n := t165.length) (c := co27) ?_).2.2; exact (by (with_reducible repeat (first | apply Kd.N_alloc | apply Kd.N_drewN | apply Kd.N_drew)); exact (Kd.N_mono (Kd.N_far (p := ⟨gb168, 3, none⟩) (Kd.N_far (p := ⟨gb168, 2, none⟩) (Kd.N_far (p := ⟨gb168, 1, none⟩) (Kd.N_far (p := ⟨gb168, 0, none⟩) (Kd.N_mono HO167.out (fun k_ hk => (⟨hk, hk.2⟩ : _ ∧ k_ ≠ gb168))) (fun _ hk => hk.2) (.int .i64 t160)) (fun _ hk => hk.2) (.int .i64 t161)) (fun _ hk => hk.2) (.slice Ao26 t162.length co26)) (fun _ hk => hk.2) (.slice Ao27 t165.length co27)) (fun _ h_ => h_.1)))); (case side4 => exact (Kd.N_reads' HO167.out).2.1); rintro e w28 ⟨rfl, hb⟩; refine ⟨_, rfl, ?_⟩; replace HO164 := Goto.m0 (Kd.N_below (by (with_reducible repeat (first | apply Kd.N_alloc | apply Kd.N_drewN | apply Kd.N_drew)); exact (Kd.N_mono (Kd.N_far (p := ⟨gb168, 3, none⟩) (Kd.N_far (p := ⟨gb168, 2, none⟩) (Kd.N_far (p := ⟨gb168, 1, none⟩) (Kd.N_far (p := ⟨gb168, 0, none⟩) (Kd.N_mono HO164.out (fun k_ hk => (⟨hk, hk.2⟩ : _ ∧ k_ ≠ gb168))) (fun _ hk => hk.2) (.int .i64 t160)) (fun _ hk => hk.2) (.int .i64 t161)) (fun _ hk => hk.2) (.slice Ao26 t162.length co26)) (fun _ hk => hk.2) (.slice Ao27 t165.length co27)) (fun _ h_ => h_.1))) hb); replace HO167 := Goto.m0 (Kd.N_below (by (with_reducible repeat (first | apply Kd.N_alloc | apply Kd.N_drewN | apply Kd.N_drew)); exact (Kd.N_mono (Kd.N_far (p := ⟨gb168, 3, none⟩) (Kd.N_far (p := ⟨gb168, 2, none⟩) (Kd.N_far (p := ⟨gb168, 1, none⟩) (Kd.N_far (p := ⟨gb168, 0, none⟩) (Kd.N_mono HO167.out (fun k_ hk => (⟨hk, hk.2⟩ : _ ∧ k_ ≠ gb168))) (fun _ hk => hk.2) (.int .i64 t160)) (fun _ hk => hk.2) (.int .i64 t161)) (fun _ hk => hk.2) (.slice Ao26 t162.length co26)) (fun _ hk => hk.2) (.slice Ao27 t165.length co27)) (fun _ h_ => h_.1))) hb); replace BK168 := Goto.bp (.cells #[.int .i64 t160, .int .i64 t161, .slice Ao26 t162.length co26, .slice Ao27 t165.length co27] 25 (0, 0)) BK168 hb; replace HB := Goto.hs HB hb; (try clear hb); (try clear hb2); (try clear hk); (try clear hi); (try simp only [errW_none, errW_some]); have hcz29_0 := Goto.bc0 BK168; have hcz29_1 := Goto.bc1 BK168; have hcz29_2 := Goto.bc2 BK168; have hcz29_3 := Goto.bc3 BK168; have hfz29_0 := Goto.bf BK168 0; have hfz29_1 := Goto.bf BK168 1; have hfz29_2 := Goto.bf BK168 2; have hfz29_3 := Goto.bf BK168 3) | (go_at_call 9; (with_reducible refine (check_Read.calls k t160 t161 _ _ t162 _ _ t165 0 3 t171 _ ?side1 ?side2 ?side3 ?side4 A3.out).mono ?_); (case side1 => repeat (first | exact (Kd.N_reads' HO164.out).2.2 | (with_reducible refine Kd.C_alloc ?_ _) | (with_reducible refine Kd.C_drewN ?_ _) | (with_reducible refine Kd.C_drew ?_))); (case side2 => exact (Kd.N_reads' HO164.out).2.1); (case side3 => repeat (first | exact (Kd.N_reads' HO167.out).2.2 | (with_reducible refine Kd.C_alloc ?_ _) | (with_reducible refine Kd.C_drewN ?_ _) | (with_reducible refine Kd.C_drew ?_))); (case side4 => exact (Kd.N_reads' HO167.out).2.1); rintro e w30 ⟨rfl, hb⟩; replace HO164 := Goto.m0 (Kd.N_below (by (with_reducible repeat (first | apply Kd.N_alloc | apply Kd.N_drewN | apply Kd.N_drew)); exact HO164.out) hb); replace HO167 := Goto.m0 (Kd.N_below (by (with_reducible repeat (first | apply Kd.N_alloc | apply Kd.N_drewN | apply Kd.N_drew)); exact HO167.out) hb); replace BK168 := Goto.bb BK168 hb; replace HB := Goto.hs HB hb; (try clear hb); (try clear hb2); (try clear hk); (try clear hi); (try simp only [errW_none, errW_some]); have CA4 := fun W => errors_Is.calls t171 (some 15) true W A4.out; try simp only [errW_none, errW_some] at CA4) | (go_at_call 31; (with_reducible refine (CA4 _).mono ?_); rintro e w' ⟨rfl, ⟨nd, rfl⟩⟩; have hcz31_0 := Goto.bc0 BK168; have hcz31_1 := Goto.bc1 BK168; have hcz31_2 := Goto.bc2 BK168; have hcz31_3 := Goto.bc3 BK168; have hfz31_0 := Goto.bf BK168 0; have hfz31_1 := Goto.bf BK168 1; have hfz31_2 := Goto.bf BK168 2; have hfz31_3 := Goto.bf BK168 3) | (go_at_call 9; (with_reducible refine (check_Read.calls k t160 t161 _ _ t162 _ _ t165 0 9 t173 _ ?side1 ?side2 ?side3 ?side4 A6.out).mono ?_); (case side1 => repeat (first | exact (Kd.N_reads' HO164.out).2.2 | (with_reducible refine Kd.C_alloc ?_ _) | (with_reducible refine Kd.C_drewN ?_ _) | (with_reducible refine Kd.C_drew ?_))); (case side2 => exact (Kd.N_reads' HO164.out).2.1); (case side3 => repeat (first | exact (Kd.N_reads' HO167.out).2.2 | (with_reducible refine Kd.C_alloc ?_ _) | (with_reducible refine Kd.C_drewN ?_ _) | (with_reducible refine Kd.C_drew ?_))); (case side4 => exact (Kd.N_reads' HO167.out).2.1); rintro e w32 ⟨rfl, hb⟩; replace HO164 := Goto.m0 (Kd.N_below (by (with_reducible repeat (first | apply Kd.N_alloc | apply Kd.N_drewN | apply Kd.N_drew)); exact HO164.out) hb); replace HO167 := Goto.m0 (Kd.N_below (by (with_reducible repeat (first | apply Kd.N_alloc | apply Kd.N_drewN | apply Kd.N_drew)); exact HO167.out) hb); replace BK168 := Goto.bb BK168 hb; replace HB := Goto.hs HB hb; (try clear hb); (try clear hb2); (try clear hk); (try clear hi); (try simp only [errW_none, errW_some]); have CA7 := fun W => errors_Is.calls t173 (some 13) true W A7.out; try simp only [errW_none, errW_some] at CA7) | (go_at_call 31; (with_reducible refine (CA7 _).mono ?_); rintro e w' ⟨rfl, ⟨nd, rfl⟩⟩; have hcz33_0 := Goto.bc0 BK168; have hcz33_1 := Goto.bc1 BK168; have hcz33_2 := Goto.bc2 BK168; have hcz33_3 := Goto.bc3 BK168; have hfz33_0 := Goto.bf BK168 0; have hfz33_1 := Goto.bf BK168 1; have hfz33_2 := Goto.bf BK168 2; have hfz33_3 := Goto.bf BK168 3) | (go_at_call 11; (with_reducible refine (check_Send.calls k t160 t161 _ _ t162 _ _ t165 0 3 none _ ?side1 ?side2 ?side3 ?side4 A9.out).mono ?_); (case side1 => repeat (first | exact (Kd.N_reads' HO164.out).2.2 | (with_reducible refine Kd.C_alloc ?_ _) | (with_reducible refine Kd.C_drewN ?_ _) | (with_reducible refine Kd.C_drew ?_))); (case side2 => exact (Kd.N_reads' HO164.out).2.1); (case side3 => repeat (first | exact (Kd.N_reads' HO167.out).2.2 | (with_reducible refine Kd.C_alloc ?_ _) | (with_reducible refine Kd.C_drewN ?_ _) | (with_reducible refine Kd.C_drew ?_))); (case side4 => exact (Kd.N_reads' HO167.out).2.1); rintro e w34 ⟨rfl, hb⟩; replace HO164 := Goto.m0 (Kd.N_below (by (with_reducible repeat (first | apply Kd.N_alloc | apply Kd.N_drewN | apply Kd.N_drew)); exact HO164.out) hb); replace HO167 := Goto.m0 (Kd.N_below (by (with_reducible repeat (first | apply Kd.N_alloc | apply Kd.N_drewN | apply Kd.N_drew)); exact HO167.out) hb); replace BK168 := Goto.bb BK168 hb; replace HB := Goto.hs HB hb; (try clear hb); (try clear hb2); (try clear hk); (try clear hi); (try simp only [errW_none, errW_some]); have hcz35_0 := Goto.bc0 BK168; have hcz35_1 := Goto.bc1 BK168; have hcz35_2 := Goto.bc2 BK168; have hcz35_3 := Goto.bc3 BK168; have hfz35_0 := Goto.bf BK168 0; have hfz35_1 := Goto.bf BK168 1; have hfz35_2 := Goto.bf BK168 2; have hfz35_3 := Goto.bf BK168 3) | (go_at_call 11; (with_reducible refine (check_Send.calls k t160 t161 _ _ t162 _ _ t165 1 2 t177 _ ?side1 ?side2 ?side3 ?side4 A10.out).mono ?_); (case side1 => repeat (first | exact (Kd.N_reads' HO164.out).2.2 | (with_reducible refine Kd.C_alloc ?_ _) | (with_reducible refine Kd.C_drewN ?_ _) | (with_reducible refine Kd.C_drew ?_))); (case side2 => exact (Kd.N_reads' HO164.out).2.1); (case side3 => repeat (first | exact (Kd.N_reads' HO167.out).2.2 | (with_reducible refine Kd.C_alloc ?_ _) | (with_reducible refine Kd.C_drewN ?_ _) | (with_reducible refine Kd.C_drew ?_))); (case side4 => exact (Kd.N_reads' HO167.out).2.1); rintro e w36 ⟨rfl, hb⟩; replace HO164 := Goto.m0 (Kd.N_below (by (with_reducible repeat (first | apply Kd.N_alloc | apply Kd.N_drewN | apply Kd.N_drew)); exact HO164.out) hb); replace HO167 := Goto.m0 (Kd.N_below (by (with_reducible repeat (first | apply Kd.N_alloc | apply Kd.N_drewN | apply Kd.N_drew)); exact HO167.out) hb); replace BK168 := Goto.bb BK168 hb; replace HB := Goto.hs HB hb; (try clear hb); (try clear hb2); (try clear hk); (try clear hi); (try simp only [errW_none, errW_some]); have CA11 := fun W => errors_Is.calls t177 (some 15) true W A11.out; try simp only [errW_none, errW_some] at CA11) | (go_at_call 31; (with_reducible refine (CA11 _).mono ?_); rintro e w' ⟨rfl, ⟨nd, rfl⟩⟩; have hcz37_0 := Goto.bc0 BK168; have hcz37_1 := Goto.bc1 BK168; have hcz37_2 := Goto.bc2 BK168; have hcz37_3 := Goto.bc3 BK168; have hfz37_0 := Goto.bf BK168 0; have hfz37_1 := Goto.bf BK168 1; have hfz37_2 := Goto.bf BK168 2; have hfz37_3 := Goto.bf BK168 3) | (go_at_call 13; (with_reducible refine (check_Plan.calls k t160 t161 _ _ t162 _ _ t165 0 1 none _ ?side1 ?side2 ?side3 ?side4 A13.out).mono ?_); (case side1 => repeat (first | exact (Kd.N_reads' HO164.out).2.2 | (with_reducible refine Kd.C_alloc ?_ _) | (with_reducible refine Kd.C_drewN ?_ _) | (with_reducible refine Kd.C_drew ?_))); (case side2 => exact (Kd.N_reads' HO164.out).2.1); (case side3 => repeat (first | exact (Kd.N_reads' HO167.out).2.2 | (with_reducible refine Kd.C_alloc ?_ _) | (with_reducible refine Kd.C_drewN ?_ _) | (with_reducible refine Kd.C_drew ?_))); (case side4 => exact (Kd.N_reads' HO167.out).2.1); rintro e w38 ⟨rfl, hb⟩; replace HO164 := Goto.m0 (Kd.N_below (by (with_reducible repeat (first | apply Kd.N_alloc | apply Kd.N_drewN | apply Kd.N_drew)); exact HO164.out) hb); replace HO167 := Goto.m0 (Kd.N_below (by (with_reducible repeat (first | apply Kd.N_alloc | apply Kd.N_drewN | apply Kd.N_drew)); exact HO167.out) hb); replace BK168 := Goto.bb BK168 hb; replace HB := Goto.hs HB hb; (try clear hb); (try clear hb2); (try clear hk); (try clear hi); (try simp only [errW_none, errW_some]); have hcz39_0 := Goto.bc0 BK168; have hcz39_1 := Goto.bc1 BK168; have hcz39_2 := Goto.bc2 BK168; have hcz39_3 := Goto.bc3 BK168; have hfz39_0 := Goto.bf BK168 0; have hfz39_1 := Goto.bf BK168 1; have hfz39_2 := Goto.bf BK168 2; have hfz39_3 := Goto.bf BK168 3) | (go_at_call 13; (with_reducible refine (check_Plan.calls k t160 t161 _ _ t162 _ _ t165 0 2 t181 _ ?side1 ?side2 ?side3 ?side4 A14.out).mono ?_); (case side1 => repeat (first | exact (Kd.N_reads' HO164.out).2.2 | (with_reducible refine Kd.C_alloc ?_ _) | (with_reducible refine Kd.C_drewN ?_ _) | (with_reducible refine Kd.C_drew ?_))); (case side2 => exact (Kd.N_reads' HO164.out).2.1); (case side3 => repeat (first | exact (Kd.N_reads' HO167.out).2.2 | (with_reducible refine Kd.C_alloc ?_ _) | (with_reducible refine Kd.C_drewN ?_ _) | (with_reducible refine Kd.C_drew ?_))); (case side4 => exact (Kd.N_reads' HO167.out).2.1); rintro e w40 ⟨rfl, hb⟩; replace HO164 := Goto.m0 (Kd.N_below (by (with_reducible repeat (first | apply Kd.N_alloc | apply Kd.N_drewN | apply Kd.N_drew)); exact HO164.out) hb); replace HO167 := Goto.m0 (Kd.N_below (by (with_reducible repeat (first | apply Kd.N_alloc | apply Kd.N_drewN | apply Kd.N_drew)); exact HO167.out) hb); replace BK168 := Goto.bb BK168 hb; replace HB := Goto.hs HB hb; (try clear hb); (try clear hb2); (try clear hk); (try clear hi); (try simp only [errW_none, errW_some]); have CA15 := fun W => errors_Is.calls t181 (some 10) true W A15.out; try simp only [errW_none, errW_some] at CA15) | (go_at_call 31; (with_reducible refine (CA15 _).mono ?_); rintro e w' ⟨rfl, ⟨nd, rfl⟩⟩; have hcz41_0 := Goto.bc0 BK168; have hcz41_1 := Goto.bc1 BK168; have hcz41_2 := Goto.bc2 BK168; have hcz41_3 := Goto.bc3 BK168; have hfz41_0 := Goto.bf BK168 0; have hfz41_1 := Goto.bf BK168 1; have hfz41_2 := Goto.bf BK168 2; have hfz41_3 := Goto.bf BK168 3) | (go_at_call 13; (with_reducible refine (check_Plan.calls k t160 t161 _ _ t162 _ _ t165 1 1 t183 _ ?side1 ?side2 ?side3 ?side4 A17.out).mono ?_); (case side1 => repeat (first | exact (Kd.N_reads' HO164.out).2.2 | (with_reducible refine Kd.C_alloc ?_ _) | (with_reducible refine Kd.C_drewN ?_ _) | (with_reducible refine Kd.C_drew ?_))); (case side2 => exact (Kd.N_reads' HO164.out).2.1); (case side3 => repeat (first | exact (Kd.N_reads' HO167.out).2.2 | (with_reducible refine Kd.C_alloc ?_ _) | (with_reducible refine Kd.C_drewN ?_ _) | (with_reducible refine Kd.C_drew ?_))); (case side4 => exact (Kd.N_reads' HO167.out).2.1); rintro e w42 ⟨rfl, hb⟩; replace HO164 := Goto.m0 (Kd.N_below (by (with_reducible repeat (first | apply Kd.N_alloc | apply Kd.N_drewN | apply Kd.N_drew)); exact HO164.out) hb); replace HO167 := Goto.m0 (Kd.N_below (by (with_reducible repeat (first | apply Kd.N_alloc | apply Kd.N_drewN | apply Kd.N_drew)); exact HO167.out) hb); replace BK168 := Goto.bb BK168 hb; replace HB := Goto.hs HB hb; (try clear hb); (try clear hb2); (try clear hk); (try clear hi); (try simp only [errW_none, errW_some]); have CA18 := fun W => errors_Is.calls t183 (some 15) true W A18.out; try simp only [errW_none, errW_some] at CA18) | (go_at_call 31; (with_reducible refine (CA18 _).mono ?_); rintro e w' ⟨rfl, ⟨nd, rfl⟩⟩; have hcz43_0 := Goto.bc0 BK168; have hcz43_1 := Goto.bc1 BK168; have hcz43_2 := Goto.bc2 BK168; have hcz43_3 := Goto.bc3 BK168; have hfz43_0 := Goto.bf BK168 0; have hfz43_1 := Goto.bf BK168 1; have hfz43_2 := Goto.bf BK168 2; have hfz43_3 := Goto.bf BK168 3) | (go_at_call 15; (with_reducible refine (check_Level.calls k t160 t161 _ _ t162 _ _ t165 3 2 none _ ?side1 ?side2 ?side3 ?side4 A20.out).mono ?_); (case side1 => repeat (first | exact (Kd.N_reads' HO164.out).2.2 | (with_reducible refine Kd.C_alloc ?_ _) | (with_reducible refine Kd.C_drewN ?_ _) | (with_reducible refine Kd.C_drew ?_))); (case side2 => exact (Kd.N_reads' HO164.out).2.1); (case side3 => repeat (first | exact (Kd.N_reads' HO167.out).2.2 | (with_reducible refine Kd.C_alloc ?_ _) | (with_reducible refine Kd.C_drewN ?_ _) | (with_reducible refine Kd.C_drew ?_))); (case side4 => exact (Kd.N_reads' HO167.out).2.1); rintro e w44 ⟨rfl, hb⟩; replace HO164 := Goto.m0 (Kd.N_below (by (with_reducible repeat (first | apply Kd.N_alloc | apply Kd.N_drewN | apply Kd.N_drew)); exact HO164.out) hb); replace HO167 := Goto.m0 (Kd.N_below (by (with_reducible repeat (first | apply Kd.N_alloc | apply Kd.N_drewN | apply Kd.N_drew)); exact HO167.out) hb); replace BK168 := Goto.bb BK168 hb; replace HB := Goto.hs HB hb; (try clear hb); (try clear hb2); (try clear hk); (try clear hi); (try simp only [errW_none, errW_some]); have hcz45_0 := Goto.bc0 BK168; have hcz45_1 := Goto.bc1 BK168; have hcz45_2 := Goto.bc2 BK168; have hcz45_3 := Goto.bc3 BK168; have hfz45_0 := Goto.bf BK168 0; have hfz45_1 := Goto.bf BK168 1; have hfz45_2 := Goto.bf BK168 2; have hfz45_3 := Goto.bf BK168 3) | (go_at_call 15; (with_reducible refine (check_Level.calls k t160 t161 _ _ t162 _ _ t165 0 0 t187 _ ?side1 ?side2 ?side3 ?side4 A21.out).mono ?_); (case side1 => repeat (first | exact (Kd.N_reads' HO164.out).2.2 | (with_reducible refine Kd.C_alloc ?_ _) | (with_reducible refine Kd.C_drewN ?_ _) | (with_reducible refine Kd.C_drew ?_))); (case side2 => exact (Kd.N_reads' HO164.out).2.1); (case side3 => repeat (first | exact (Kd.N_reads' HO167.out).2.2 | (with_reducible refine Kd.C_alloc ?_ _) | (with_reducible refine Kd.C_drewN ?_ _) | (with_reducible refine Kd.C_drew ?_))); (case side4 => exact (Kd.N_reads' HO167.out).2.1); rintro e w46 ⟨rfl, hb⟩; replace HO164 := Goto.m0 (Kd.N_below (by (with_reducible repeat (first | apply Kd.N_alloc | apply Kd.N_drewN | apply Kd.N_drew)); exact HO164.out) hb); replace HO167 := Goto.m0 (Kd.N_below (by (with_reducible repeat (first | apply Kd.N_alloc | apply Kd.N_drewN | apply Kd.N_drew)); exact HO167.out) hb); replace BK168 := Goto.bb BK168 hb; replace HB := Goto.hs HB hb; (try clear hb); (try clear hb2); (try clear hk); (try clear hi); (try simp only [errW_none, errW_some]); have CA22 := fun W => errors_Is.calls t187 (some 10) t188 W A22.out; try simp only [errW_none, errW_some] at CA22) | (go_at_call 31; (with_reducible refine (CA22 _).mono ?_); rintro e w' ⟨rfl, ⟨nd, rfl⟩⟩))
          go_ret
          exact ⟨Goto.er, by repeat (first | (with_reducible first | exact HB.out | apply below_alloc | apply pw_below_drewN | apply below_drew1 | refine below_set ?_ GE168.out) | exact HB.out)⟩
         ·
          have H1 : (some false) = some r := by rw [if_neg (show ¬ (some q186).isNone = true by simp)] at H; exact H
          clear H; have H := H1; clear H1
          try simp only [errW_none, errW_some]
          exact absurd ((Option.some.inj H).trans HRT.out) (by decide)
        ·
         replace c19 := Bool.eq_false_iff.mpr c19
         subst c19
         rw [if_neg (show ¬ (false = true) by decide)] at H
         exact absurd ((Option.some.inj H).trans HRT.out) (by decide)
       ·
        replace c16 := Bool.eq_false_iff.mpr c16
        subst c16
        rw [if_neg (show ¬ (false = true) by decide)] at H
        exact absurd ((Option.some.inj H).trans HRT.out) (by decide)
      ·
       have H1 : (some false) = some r := by rw [if_neg (show ¬ (some q180).isNone = true by simp)] at H; exact H
       clear H; have H := H1; clear H1
       try simp only [errW_none, errW_some]
       exact absurd ((Option.some.inj H).trans HRT.out) (by decide)
     ·
      replace c12 := Bool.eq_false_iff.mpr c12
      subst c12
      rw [if_neg (show ¬ (false = true) by decide)] at H
      exact absurd ((Option.some.inj H).trans HRT.out) (by decide)
    ·
     have H1 : (some false) = some r := by rw [if_neg (show ¬ (some q176).isNone = true by simp)] at H; exact H
     clear H; have H := H1; clear H1
     try simp only [errW_none, errW_some]
     exact absurd ((Option.some.inj H).trans HRT.out) (by decide)
   ·
    replace c8 := Bool.eq_false_iff.mpr c8
    subst c8
    rw [if_neg (show ¬ (false = true) by decide)] at H
    exact absurd ((Option.some.inj H).trans HRT.out) (by decide)
  ·
   replace c5 := Bool.eq_false_iff.mpr c5
   subst c5
   rw [if_neg (show ¬ (false = true) by decide)] at H
   exact absurd ((Option.some.inj H).trans HRT.out) (by decide)
 ·
  have H1 : (some false) = some r := by rw [if_neg (show ¬ (some q170).isNone = true by simp)] at H; exact H
  clear H; have H := H1; clear H1
  try simp only [errW_none, errW_some]
  exact absurd ((Option.some.inj H).trans HRT.out) (by decide)

end Go.Proofs.YtbhfkhcedjgpdaaDoor.P
