/- Contracts of the program's functions, each with a plain function of the same answers; written by a program of this session over the kit's print.py, with hand-written parts; no condition but the bounds that each theorem states. -/
import Derived.Test.YtdbolkckbgacoaaPrint0
import Derived.Test.YtdbolkckbgacoaaPrint2
import Derived.Test.YtdbolkckbgacoaaPrint5
namespace Go.Proofs.Ytdbolkckbgacoaa.Print
open Go.RowKit Go.Proofs.YtdbolkckbgacoaaW.PrintWords Go.Proofs.YtdbolkckbgacoaaW.PrintLast Go.Proofs.YtdbolkckbgacoaaW.PrintMore
attribute [local go_sem] max2_int min2_int max_two min_two max_three min_three max_four min_four   -- for this text's walks alone
set_option linter.unusedVariables false
set_option linter.unusedSimpArgs false

/-! ### selvagelaw01_IntsKinds: function 10 -/
def selvagelaw01_IntsKinds.j0 : Nat → Int → Int → Bool → Int → Bool → Bool → Option (Bool)
  | 0, _, _, _, _, _, _ => none
  | k + 1, x0, x3, x4, x5, x6, x32 => if x32 = true then (some false) else (if x4 = true then ((ints_Tag.f x3).bind fun t233 => (if t233 = x0 then (if x5 = 0 then ((selvagelaw01_lives.f k).bind fun t234 => (some t234)) else (some false)) else (some false))) else (if x6 = true then (if (wrap64 (2 * x5)) = x0 then (if x3 = 0 then ((selvagelaw01_lives.f k).bind fun t235 => (some t235)) else (some false)) else (some false)) else (if x3 = 0 then (if x5 = 0 then ((selvagelaw01_lives.f k).bind fun t236 => (some t236)) else (some false)) else (some false))))
def selvagelaw01_IntsKinds.f (k : Nat) (a0 : Int) : Option (Bool) := (ints_Untag.f a0).bind fun bt229 => ((ints_At.f a0).bind fun bt231 => (if (bt229.2 != ((Int.tmod a0 2) != 0)) = true then (selvagelaw01_IntsKinds.j0 k a0 bt229.1 bt229.2 bt231.1 bt231.2 true) else (if a0 > 0 then (selvagelaw01_IntsKinds.j0 k a0 bt229.1 bt229.2 bt231.1 bt231.2 (bt231.2 != ((Int.tmod a0 2) == 0))) else (selvagelaw01_IntsKinds.j0 k a0 bt229.1 bt229.2 bt231.1 bt231.2 (bt231.2 != false)))))
theorem selvagelaw01_IntsKinds.mono_l : ∀ k, (∀ y0 y1 y2 y3 y4 y5, LeO (selvagelaw01_IntsKinds.j0 k y0 y1 y2 y3 y4 y5) (selvagelaw01_IntsKinds.j0 (k + 1) y0 y1 y2 y3 y4 y5))
  | 0 => fun _ _ _ _ _ _ r h => by simp [selvagelaw01_IntsKinds.j0] at h
  | k + 1 => by
    have ih0 := selvagelaw01_IntsKinds.mono_l k
    · intro y0 y1 y2 y3 y4 y5
      unfold selvagelaw01_IntsKinds.j0
      repeat' first
      | (with_reducible exact ih0 _ _ _ _ _ _)
      | (with_reducible exact selvagelaw01_lives.mono _)
      | (with_reducible exact LeO.refl _)
      | (with_reducible exact LeO.none _)
      | (with_reducible refine LeO.ite ?_ ?_)
      | (with_reducible refine LeO.bind ?_ (fun _ => ?_))
      | exact ih0 _ _ _ _ _ _
      | exact selvagelaw01_lives.mono _
      | exact LeO.none _
      | refine LeO.ite ?_ ?_
      | refine LeO.bind ?_ (fun _ => ?_)
theorem selvagelaw01_IntsKinds.mono : ∀ a0 k, LeO (selvagelaw01_IntsKinds.f k a0) (selvagelaw01_IntsKinds.f (k + 1) a0) := by
  intro a0 k
  have ih0 := selvagelaw01_IntsKinds.mono_l k
  unfold selvagelaw01_IntsKinds.f
  repeat' first
      | (with_reducible exact ih0 _ _ _ _ _ _)
      | (with_reducible exact selvagelaw01_lives.mono _)
      | (with_reducible exact LeO.refl _)
      | (with_reducible exact LeO.none _)
      | (with_reducible refine LeO.ite ?_ ?_)
      | (with_reducible refine LeO.bind ?_ (fun _ => ?_))
      | exact ih0 _ _ _ _ _ _
      | exact selvagelaw01_lives.mono _
      | exact LeO.none _
      | refine LeO.ite ?_ ?_
      | refine LeO.bind ?_ (fun _ => ?_)
set_option maxHeartbeats 8000000 in
set_option maxRecDepth 100000 in
theorem selvagelaw01_IntsKinds.calls (k : Nat) (a0 : Int) (r : Bool) (w : World) (h : selvagelaw01_IntsKinds.f k a0 = some r) :
    Calls Try.prog 10 #[.int .i64 a0] w fun e w' => e = .returned (.bool r) ∧ Below w.heap.size w w' := by
  have HB := Aside0.mk (Below.refl w.heap.size w)
  have H : ((ints_Untag.f a0).bind fun bt229 => ((ints_At.f a0).bind fun bt231 => (if (bt229.2 != ((Int.tmod a0 2) != 0)) = true then (selvagelaw01_IntsKinds.j0 k a0 bt229.1 bt229.2 bt231.1 bt231.2 true) else (if a0 > 0 then (selvagelaw01_IntsKinds.j0 k a0 bt229.1 bt229.2 bt231.1 bt231.2 (bt231.2 != ((Int.tmod a0 2) == 0))) else (selvagelaw01_IntsKinds.j0 k a0 bt229.1 bt229.2 bt231.1 bt231.2 (bt231.2 != false)))))) = some r := h
  clear h
  replace H := Option.bind_eq_some_iff.mp H
  obtain ⟨⟨t229, t230⟩, A20, H⟩ := H
  replace H : ((ints_At.f a0).bind fun bt231 => (if (t230 != ((Int.tmod a0 2) != 0)) = true then (selvagelaw01_IntsKinds.j0 k a0 t229 t230 bt231.1 bt231.2 true) else (if a0 > 0 then (selvagelaw01_IntsKinds.j0 k a0 t229 t230 bt231.1 bt231.2 (bt231.2 != ((Int.tmod a0 2) == 0))) else (selvagelaw01_IntsKinds.j0 k a0 t229 t230 bt231.1 bt231.2 (bt231.2 != false))))) = some r := H
  have A2 := Aside0.mk A20
  clear A20
  replace H := Option.bind_eq_some_iff.mp H
  obtain ⟨⟨t231, t232⟩, A30, H⟩ := H
  replace H : (if (t230 != ((Int.tmod a0 2) != 0)) = true then (selvagelaw01_IntsKinds.j0 k a0 t229 t230 t231 t232 true) else (if a0 > 0 then (selvagelaw01_IntsKinds.j0 k a0 t229 t230 t231 t232 (t232 != ((Int.tmod a0 2) == 0))) else (selvagelaw01_IntsKinds.j0 k a0 t229 t230 t231 t232 (t232 != false)))) = some r := H
  have A3 := Aside0.mk A30
  clear A30
  have HC4 := Aside0.mk H
  clear H
  go_enter Try.func10, Try.ntmps10
  go_upto_region 3 with (first | ((with_reducible refine gate_callee (f := 20) rfl ?_); refine goesL_ (some 9) rfl rfl Try.func20 (by kernel_rfl) rfl #[.int .i64 a0] rfl (by (try simp only [List.map_toArray, List.map_cons, List.map_nil]); first | done | rfl | (simp only [List.length_drop, List.length_take]; rfl)) ?_; (with_reducible refine (ints_Untag.calls a0 t229 t230 _ A2.out).mono ?_); rintro e w' ⟨rfl, ⟨nd, rfl⟩⟩; refine ⟨_, rfl, ?_⟩) | ((with_reducible refine gate_callee (f := 22) rfl ?_); refine goesL_ (some 14) rfl rfl Try.func22 (by kernel_rfl) rfl #[.int .i64 a0] rfl (by (try simp only [List.map_toArray, List.map_cons, List.map_nil]); first | done | rfl | (simp only [List.length_drop, List.length_take]; rfl)) ?_; (with_reducible refine (ints_At.calls a0 t231 t232 _ A3.out).mono ?_); rintro e w' ⟨rfl, ⟨nd, rfl⟩⟩; refine ⟨_, rfl, ?_⟩))
  (try simp only [Act.put, List.setIfInBounds_toArray, List.set_cons_zero, List.set_cons_succ])
  go_cut [32] (fun v32 wc => ∃ (kq : Nat) (x32_3 : Bool), v32 = .bool x32_3 ∧ Aside0 (selvagelaw01_IntsKinds.j0 kq a0 t229 t230 t231 t232 x32_3 = some r) ∧ Aside0 (kq ≤ k) ∧ Aside0 (Below w.heap.size w wc))
  case first =>
    have H := HC4.out
    clear HC4
    by_cases c5 : (t230 != ((Int.tmod a0 2) != 0)) = true
    · rw [if_pos c5] at H
      have c5b0 : (t230 != ((Int.tmod a0 2) != 0)) = true := c5
      (try (have c5b1 : decide (t230 = ((Int.tmod a0 2) != 0)) = false := by simpa using c5))
      (try (have c5b2 : (t230 == ((Int.tmod a0 2) != 0)) = false := by simpa using c5))
      (try (have c5b3 : ¬ (t230 = ((Int.tmod a0 2) != 0)) := by simpa using c5))
      clear c5
      (first | rw [c5b0] | (simp only [i64_w, i32_w]; rw [c5b0]) | skip)
      have H' := Aside0.mk H
      clear H
      go_wp2
      go_meet
      case rel => exact ⟨_, (true), (by first | rfl | (simp; done) | (simp [*]; done)), H', ⟨by first | omega | exact Nat.le_refl _⟩, ⟨by repeat (first | (with_reducible first | exact HB.out | apply below_alloc | apply pw_below_drewN | apply below_drew1) | exact HB.out)⟩⟩
    · rw [if_neg c5] at H
      have c5b0 : (t230 != ((Int.tmod a0 2) != 0)) = false := by simpa using c5
      (try (have c5b1 : decide (t230 = ((Int.tmod a0 2) != 0)) = true := by simpa using c5))
      (try (have c5b2 : (t230 == ((Int.tmod a0 2) != 0)) = true := by simpa using c5))
      clear c5
      (first | rw [c5b0] | (simp only [i64_w, i32_w]; rw [c5b0]) | skip)
      by_cases c6 : a0 > 0
      · rw [if_pos c6] at H
        have c6b0 : decide (0 < a0) = true := decide_eq_true c6
        clear c6
        have H' := Aside0.mk H
        clear H
        go_wp2
        go_meet
        case rel => exact ⟨_, ((t232 != ((Int.tmod a0 2) == 0))), (by first | rfl | (simp; done) | (simp [*]; done)), H', ⟨by first | omega | exact Nat.le_refl _⟩, ⟨by repeat (first | (with_reducible first | exact HB.out | apply below_alloc | apply pw_below_drewN | apply below_drew1) | exact HB.out)⟩⟩
      · rw [if_neg c6] at H
        have c6b0 : decide (0 < a0) = false := decide_eq_false c6
        clear c6
        have H' := Aside0.mk H
        clear H
        go_wp2
        go_meet
        case rel => exact ⟨_, ((t232 != false)), (by first | rfl | (simp; done) | (simp [*]; done)), H', ⟨by first | omega | exact Nat.le_refl _⟩, ⟨by repeat (first | (with_reducible first | exact HB.out | apply below_alloc | apply pw_below_drewN | apply below_drew1) | exact HB.out)⟩⟩
  case rest =>
    clear HC4
    try clear c1
    try clear c2
    try clear p2
    try clear c5
    try clear c5b0
    try clear c5b1
    try clear c5b2
    try clear c6
    try clear c6b0
    obtain ⟨kq, x32_3, rfl, HA, HJ3, HB⟩ := hcut
    cases kq with
    | zero => exact absurd HA.out (by simp [selvagelaw01_IntsKinds.j0])
    | succ kj3 =>
      have H := HA.out
      clear HA
      simp only [selvagelaw01_IntsKinds.j0] at H
      by_cases c7 : x32_3 = true
      · subst c7
        have H1 : (some false) = some r := by rw [if_pos rfl] at H; exact H
        clear H
        have H := H1
        clear H1
        obtain rfl := Option.some.inj H
        go_wp2
        go_ret
        exact ⟨by first | rfl | (simp [errW_none, errW_some] <;> rfl) | (simp [*, errW_none, errW_some] <;> rfl), by repeat (first | (with_reducible first | exact HB.out | apply below_alloc | apply pw_below_drewN | apply below_drew1) | exact HB.out)⟩
      · replace c7 := Bool.eq_false_iff.mpr c7
        subst c7
        have H1 : (if t230 = true then ((ints_Tag.f t229).bind fun t233 => (if t233 = a0 then (if t231 = 0 then ((selvagelaw01_lives.f kj3).bind fun t234 => (some t234)) else (some false)) else (some false))) else (if t232 = true then (if (wrap64 (2 * t231)) = a0 then (if t229 = 0 then ((selvagelaw01_lives.f kj3).bind fun t235 => (some t235)) else (some false)) else (some false)) else (if t229 = 0 then (if t231 = 0 then ((selvagelaw01_lives.f kj3).bind fun t236 => (some t236)) else (some false)) else (some false)))) = some r := by rw [if_neg (show ¬ (false = true) by decide)] at H; exact H
        clear H
        have H := H1
        clear H1
        by_cases c8 : t230 = true
        · subst c8
          have H1 : ((ints_Tag.f t229).bind fun t233 => (if t233 = a0 then (if t231 = 0 then ((selvagelaw01_lives.f kj3).bind fun t234 => (some t234)) else (some false)) else (some false))) = some r := by rw [if_pos rfl] at H; exact H
          clear H
          have H := H1
          clear H1
          replace H := Option.bind_eq_some_iff.mp H
          obtain ⟨t233, A90, H⟩ := H
          replace H : (if t233 = a0 then (if t231 = 0 then ((selvagelaw01_lives.f kj3).bind fun t234 => (some t234)) else (some false)) else (some false)) = some r := H
          have A9 := Aside0.mk A90
          clear A90
          by_cases c10 : t233 = a0
          · rw [if_pos c10] at H
            have c10b0 : (t233 == a0) = true := beq_iff_eq.mpr c10
            have c10b1 : (t233 != a0) = false := bne_eq_false_iff_eq.mpr c10
            clear c10
            by_cases c11 : t231 = 0
            · rw [if_pos c11] at H
              have c11b0 : (t231 == 0) = true := beq_iff_eq.mpr c11
              have c11b1 : (t231 != 0) = false := bne_eq_false_iff_eq.mpr c11
              clear c11
              replace H := Option.bind_eq_some_iff.mp H
              obtain ⟨t234, A120, H⟩ := H
              replace H : (some t234) = some r := H
              have A12 := Aside0.mk A120
              clear A120
              obtain rfl := Option.some.inj H
              go_wp2_with (first | ((with_reducible refine gate_callee (f := 19) rfl ?_); refine goesL_ (some 35) rfl rfl Try.func19 (by kernel_rfl) rfl #[.int .i64 t229] rfl (by (try simp only [List.map_toArray, List.map_cons, List.map_nil]); first | done | rfl | (simp only [List.length_drop, List.length_take]; rfl)) ?_; (with_reducible refine (ints_Tag.calls t229 t233 _ A9.out).mono ?_); rintro e w' ⟨rfl, ⟨nd, rfl⟩⟩; refine ⟨_, rfl, ?_⟩) | (go_at_call 15; (with_reducible refine (selvagelaw01_lives.calls kj3  t234 _ A12.out).mono ?_); rintro e w13 ⟨rfl, hb⟩; have n0_ := Aside0.mk (below_step (by repeat (first | (with_reducible first | exact HB.out | apply below_alloc | apply pw_below_drewN | apply below_drew1) | exact HB.out)) hb); clear HB; have HB := n0_; clear n0_; (try clear hb); (try clear hb2); (try clear hk); (try clear hi)))
              go_ret
              exact ⟨by first | rfl | (simp [errW_none, errW_some] <;> rfl) | (simp [*, errW_none, errW_some] <;> rfl), by repeat (first | (with_reducible first | exact HB.out | apply below_alloc | apply pw_below_drewN | apply below_drew1) | exact HB.out)⟩
            · rw [if_neg c11] at H
              have c11b0 : (t231 == 0) = false := beq_eq_false_iff_ne.mpr c11
              have c11b1 : (t231 != 0) = true := bne_iff_ne.mpr c11
              obtain rfl := Option.some.inj H
              go_wp2_with (first | ((with_reducible refine gate_callee (f := 19) rfl ?_); refine goesL_ (some 35) rfl rfl Try.func19 (by kernel_rfl) rfl #[.int .i64 t229] rfl (by (try simp only [List.map_toArray, List.map_cons, List.map_nil]); first | done | rfl | (simp only [List.length_drop, List.length_take]; rfl)) ?_; (with_reducible refine (ints_Tag.calls t229 t233 _ A9.out).mono ?_); rintro e w' ⟨rfl, ⟨nd, rfl⟩⟩; refine ⟨_, rfl, ?_⟩))
              go_ret
              exact ⟨by first | rfl | (simp [errW_none, errW_some] <;> rfl) | (simp [*, errW_none, errW_some] <;> rfl), by repeat (first | (with_reducible first | exact HB.out | apply below_alloc | apply pw_below_drewN | apply below_drew1) | exact HB.out)⟩
          · rw [if_neg c10] at H
            have c10b0 : (t233 == a0) = false := beq_eq_false_iff_ne.mpr c10
            have c10b1 : (t233 != a0) = true := bne_iff_ne.mpr c10
            obtain rfl := Option.some.inj H
            go_wp2_with (first | ((with_reducible refine gate_callee (f := 19) rfl ?_); refine goesL_ (some 35) rfl rfl Try.func19 (by kernel_rfl) rfl #[.int .i64 t229] rfl (by (try simp only [List.map_toArray, List.map_cons, List.map_nil]); first | done | rfl | (simp only [List.length_drop, List.length_take]; rfl)) ?_; (with_reducible refine (ints_Tag.calls t229 t233 _ A9.out).mono ?_); rintro e w' ⟨rfl, ⟨nd, rfl⟩⟩; refine ⟨_, rfl, ?_⟩))
            go_ret
            exact ⟨by first | rfl | (simp [errW_none, errW_some] <;> rfl) | (simp [*, errW_none, errW_some] <;> rfl), by repeat (first | (with_reducible first | exact HB.out | apply below_alloc | apply pw_below_drewN | apply below_drew1) | exact HB.out)⟩
        · replace c8 := Bool.eq_false_iff.mpr c8
          subst c8
          have H1 : (if t232 = true then (if (wrap64 (2 * t231)) = a0 then (if t229 = 0 then ((selvagelaw01_lives.f kj3).bind fun t235 => (some t235)) else (some false)) else (some false)) else (if t229 = 0 then (if t231 = 0 then ((selvagelaw01_lives.f kj3).bind fun t236 => (some t236)) else (some false)) else (some false))) = some r := by rw [if_neg (show ¬ (false = true) by decide)] at H; exact H
          clear H
          have H := H1
          clear H1
          by_cases c14 : t232 = true
          · subst c14
            have H1 : (if (wrap64 (2 * t231)) = a0 then (if t229 = 0 then ((selvagelaw01_lives.f kj3).bind fun t235 => (some t235)) else (some false)) else (some false)) = some r := by rw [if_pos rfl] at H; exact H
            clear H
            have H := H1
            clear H1
            by_cases c15 : (wrap64 (2 * t231)) = a0
            · rw [if_pos c15] at H
              have c15b0 : ((wrap64 (2 * t231)) == a0) = true := beq_iff_eq.mpr c15
              have c15b1 : ((wrap64 (2 * t231)) != a0) = false := bne_eq_false_iff_eq.mpr c15
              clear c15
              by_cases c16 : t229 = 0
              · rw [if_pos c16] at H
                have c16b0 : (t229 == 0) = true := beq_iff_eq.mpr c16
                have c16b1 : (t229 != 0) = false := bne_eq_false_iff_eq.mpr c16
                clear c16
                replace H := Option.bind_eq_some_iff.mp H
                obtain ⟨t235, A170, H⟩ := H
                replace H : (some t235) = some r := H
                have A17 := Aside0.mk A170
                clear A170
                obtain rfl := Option.some.inj H
                go_wp2_with (first | (go_at_call 15; (with_reducible refine (selvagelaw01_lives.calls kj3  t235 _ A17.out).mono ?_); rintro e w18 ⟨rfl, hb⟩; have n0_ := Aside0.mk (below_step (by repeat (first | (with_reducible first | exact HB.out | apply below_alloc | apply pw_below_drewN | apply below_drew1) | exact HB.out)) hb); clear HB; have HB := n0_; clear n0_; (try clear hb); (try clear hb2); (try clear hk); (try clear hi)))
                go_ret
                exact ⟨by first | rfl | (simp [errW_none, errW_some] <;> rfl) | (simp [*, errW_none, errW_some] <;> rfl), by repeat (first | (with_reducible first | exact HB.out | apply below_alloc | apply pw_below_drewN | apply below_drew1) | exact HB.out)⟩
              · rw [if_neg c16] at H
                have c16b0 : (t229 == 0) = false := beq_eq_false_iff_ne.mpr c16
                have c16b1 : (t229 != 0) = true := bne_iff_ne.mpr c16
                obtain rfl := Option.some.inj H
                go_wp2
                go_ret
                exact ⟨by first | rfl | (simp [errW_none, errW_some] <;> rfl) | (simp [*, errW_none, errW_some] <;> rfl), by repeat (first | (with_reducible first | exact HB.out | apply below_alloc | apply pw_below_drewN | apply below_drew1) | exact HB.out)⟩
            · rw [if_neg c15] at H
              have c15b0 : ((wrap64 (2 * t231)) == a0) = false := beq_eq_false_iff_ne.mpr c15
              have c15b1 : ((wrap64 (2 * t231)) != a0) = true := bne_iff_ne.mpr c15
              obtain rfl := Option.some.inj H
              go_wp2
              go_ret
              exact ⟨by first | rfl | (simp [errW_none, errW_some] <;> rfl) | (simp [*, errW_none, errW_some] <;> rfl), by repeat (first | (with_reducible first | exact HB.out | apply below_alloc | apply pw_below_drewN | apply below_drew1) | exact HB.out)⟩
          · replace c14 := Bool.eq_false_iff.mpr c14
            subst c14
            have H1 : (if t229 = 0 then (if t231 = 0 then ((selvagelaw01_lives.f kj3).bind fun t236 => (some t236)) else (some false)) else (some false)) = some r := by rw [if_neg (show ¬ (false = true) by decide)] at H; exact H
            clear H
            have H := H1
            clear H1
            by_cases c19 : t229 = 0
            · rw [if_pos c19] at H
              have c19b0 : (t229 == 0) = true := beq_iff_eq.mpr c19
              have c19b1 : (t229 != 0) = false := bne_eq_false_iff_eq.mpr c19
              clear c19
              by_cases c20 : t231 = 0
              · rw [if_pos c20] at H
                have c20b0 : (t231 == 0) = true := beq_iff_eq.mpr c20
                have c20b1 : (t231 != 0) = false := bne_eq_false_iff_eq.mpr c20
                clear c20
                replace H := Option.bind_eq_some_iff.mp H
                obtain ⟨t236, A210, H⟩ := H
                replace H : (some t236) = some r := H
                have A21 := Aside0.mk A210
                clear A210
                obtain rfl := Option.some.inj H
                go_wp2_with (first | (go_at_call 15; (with_reducible refine (selvagelaw01_lives.calls kj3  t236 _ A21.out).mono ?_); rintro e w22 ⟨rfl, hb⟩; have n0_ := Aside0.mk (below_step (by repeat (first | (with_reducible first | exact HB.out | apply below_alloc | apply pw_below_drewN | apply below_drew1) | exact HB.out)) hb); clear HB; have HB := n0_; clear n0_; (try clear hb); (try clear hb2); (try clear hk); (try clear hi)))
                go_ret
                exact ⟨by first | rfl | (simp [errW_none, errW_some] <;> rfl) | (simp [*, errW_none, errW_some] <;> rfl), by repeat (first | (with_reducible first | exact HB.out | apply below_alloc | apply pw_below_drewN | apply below_drew1) | exact HB.out)⟩
              · rw [if_neg c20] at H
                have c20b0 : (t231 == 0) = false := beq_eq_false_iff_ne.mpr c20
                have c20b1 : (t231 != 0) = true := bne_iff_ne.mpr c20
                obtain rfl := Option.some.inj H
                go_wp2
                go_ret
                exact ⟨by first | rfl | (simp [errW_none, errW_some] <;> rfl) | (simp [*, errW_none, errW_some] <;> rfl), by repeat (first | (with_reducible first | exact HB.out | apply below_alloc | apply pw_below_drewN | apply below_drew1) | exact HB.out)⟩
            · rw [if_neg c19] at H
              have c19b0 : (t229 == 0) = false := beq_eq_false_iff_ne.mpr c19
              have c19b1 : (t229 != 0) = true := bne_iff_ne.mpr c19
              obtain rfl := Option.some.inj H
              go_wp2
              go_ret
              exact ⟨by first | rfl | (simp [errW_none, errW_some] <;> rfl) | (simp [*, errW_none, errW_some] <;> rfl), by repeat (first | (with_reducible first | exact HB.out | apply below_alloc | apply pw_below_drewN | apply below_drew1) | exact HB.out)⟩

/-- THE ONE PURE STATEMENT of selvagelaw01_IntsKinds: yours. -/
def selvagelaw01_IntsKinds.Pure : Prop := ∀ (a0 : Int), (Lit.int .i64 a0).wf = true → ∃ k, selvagelaw01_IntsKinds.f k a0 = some true
theorem selvagelaw01_IntsKinds.walk (P : selvagelaw01_IntsKinds.Pure) (a0 : Int) (w : World) (w0 : (Lit.int .i64 a0).wf = true) :
    Calls Try.prog 10 #[.int .i64 a0] w fun e w' => e = .returned (.bool true) ∧ Below w.heap.size w w' := by
  obtain ⟨k, h⟩ := P a0 w0
  refine (selvagelaw01_IntsKinds.calls k a0 true w h).mono ?_
  rintro e w' ⟨rfl, hd⟩
  exact ⟨rfl, hd⟩

/-! ### ints_plain: function 31 -/
mutual
def ints_plain.j0 : Nat → ByteArray → Bool → Option (ByteArray × Bool × Bool)
  | 0, _, _ => none
  | k + 1, x0, x5 => if x5 = true then (if 1 ≤ (x0.size : Int) then (ints_plain.j1 k (x0.extract 1 x0.size) x5) else (none)) else (ints_plain.j1 k x0 x5)
def ints_plain.j1 : Nat → ByteArray → Bool → Option (ByteArray × Bool × Bool)
  | 0, _, _ => none
  | k + 1, x0, x5 => if x0.toList = ([] : List UInt8) then (ints_plain.j2 k x0 x5 true) else (if 0 < (x0.size : Int) then (if (bt x0 0) = 48 then (if (x0.size : Int) > 1 then (ints_plain.j2 k x0 x5 true) else (ints_plain.j2 k x0 x5 x5)) else (ints_plain.j2 k x0 x5 false)) else (none))
def ints_plain.j2 : Nat → ByteArray → Bool → Bool → Option (ByteArray × Bool × Bool)
  | 0, _, _, _ => none
  | k + 1, x0, x5, x32 => if x32 = true then (some ((⟨#[]⟩ : ByteArray), false, false)) else (ints_plain.l0 k x0 x5 (x0.size : Int) 0)
def ints_plain.l0 : Nat → ByteArray → Bool → Int → Int → Option (ByteArray × Bool × Bool)
  | 0, _, _, _, _ => none
  | k + 1, x0, x5, x34, x35 => if x35 < x34 then (if 0 ≤ x35 then (if x35 < (x0.size : Int) then (if (bt x0 x35) < 48 then (some ((⟨#[]⟩ : ByteArray), false, false)) else (if (bt x0 x35) > 57 then (some ((⟨#[]⟩ : ByteArray), false, false)) else (ints_plain.l0 k x0 x5 x34 (wrap64 (x35 + 1))))) else (none)) else (none)) else (some (x0, x5, true))
end
def ints_plain.f (k : Nat) (a0 : ByteArray) : Option (ByteArray × Bool × Bool) := if (a0.size : Int) > 0 then (if 0 < (a0.size : Int) then (ints_plain.j0 k a0 ((bt a0 0) == 45)) else (none)) else (ints_plain.j0 k a0 false)
theorem ints_plain.mono_l : ∀ k, (∀ y0 y1, LeO (ints_plain.j0 k y0 y1) (ints_plain.j0 (k + 1) y0 y1)) ∧ (∀ y0 y1, LeO (ints_plain.j1 k y0 y1) (ints_plain.j1 (k + 1) y0 y1)) ∧ (∀ y0 y1 y2, LeO (ints_plain.j2 k y0 y1 y2) (ints_plain.j2 (k + 1) y0 y1 y2)) ∧ (∀ y0 y1 y2 y3, LeO (ints_plain.l0 k y0 y1 y2 y3) (ints_plain.l0 (k + 1) y0 y1 y2 y3))
  | 0 => ⟨fun _ _ r h => by simp [ints_plain.j0] at h, fun _ _ r h => by simp [ints_plain.j1] at h, fun _ _ _ r h => by simp [ints_plain.j2] at h, fun _ _ _ _ r h => by simp [ints_plain.l0] at h⟩
  | k + 1 => by
    obtain ⟨ih0, ih1, ih2, ih3⟩ := ints_plain.mono_l k
    refine ⟨?_, ?_, ?_, ?_⟩
    · intro y0 y1
      unfold ints_plain.j0
      repeat' first
      | (with_reducible exact ih0 _ _)
      | (with_reducible exact ih1 _ _)
      | (with_reducible exact ih2 _ _ _)
      | (with_reducible exact ih3 _ _ _ _)
      | (with_reducible exact LeO.refl _)
      | (with_reducible exact LeO.none _)
      | (with_reducible refine LeO.ite ?_ ?_)
      | (with_reducible refine LeO.bind ?_ (fun _ => ?_))
      | exact ih0 _ _
      | exact ih1 _ _
      | exact ih2 _ _ _
      | exact ih3 _ _ _ _
      | exact LeO.none _
      | refine LeO.ite ?_ ?_
      | refine LeO.bind ?_ (fun _ => ?_)
    · intro y0 y1
      unfold ints_plain.j1
      repeat' first
      | (with_reducible exact ih0 _ _)
      | (with_reducible exact ih1 _ _)
      | (with_reducible exact ih2 _ _ _)
      | (with_reducible exact ih3 _ _ _ _)
      | (with_reducible exact LeO.refl _)
      | (with_reducible exact LeO.none _)
      | (with_reducible refine LeO.ite ?_ ?_)
      | (with_reducible refine LeO.bind ?_ (fun _ => ?_))
      | exact ih0 _ _
      | exact ih1 _ _
      | exact ih2 _ _ _
      | exact ih3 _ _ _ _
      | exact LeO.none _
      | refine LeO.ite ?_ ?_
      | refine LeO.bind ?_ (fun _ => ?_)
    · intro y0 y1 y2
      unfold ints_plain.j2
      repeat' first
      | (with_reducible exact ih0 _ _)
      | (with_reducible exact ih1 _ _)
      | (with_reducible exact ih2 _ _ _)
      | (with_reducible exact ih3 _ _ _ _)
      | (with_reducible exact LeO.refl _)
      | (with_reducible exact LeO.none _)
      | (with_reducible refine LeO.ite ?_ ?_)
      | (with_reducible refine LeO.bind ?_ (fun _ => ?_))
      | exact ih0 _ _
      | exact ih1 _ _
      | exact ih2 _ _ _
      | exact ih3 _ _ _ _
      | exact LeO.none _
      | refine LeO.ite ?_ ?_
      | refine LeO.bind ?_ (fun _ => ?_)
    · intro y0 y1 y2 y3
      unfold ints_plain.l0
      repeat' first
      | (with_reducible exact ih0 _ _)
      | (with_reducible exact ih1 _ _)
      | (with_reducible exact ih2 _ _ _)
      | (with_reducible exact ih3 _ _ _ _)
      | (with_reducible exact LeO.refl _)
      | (with_reducible exact LeO.none _)
      | (with_reducible refine LeO.ite ?_ ?_)
      | (with_reducible refine LeO.bind ?_ (fun _ => ?_))
      | exact ih0 _ _
      | exact ih1 _ _
      | exact ih2 _ _ _
      | exact ih3 _ _ _ _
      | exact LeO.none _
      | refine LeO.ite ?_ ?_
      | refine LeO.bind ?_ (fun _ => ?_)
theorem ints_plain.mono : ∀ a0 k, LeO (ints_plain.f k a0) (ints_plain.f (k + 1) a0) := by
  intro a0 k
  obtain ⟨ih0, ih1, ih2, ih3⟩ := ints_plain.mono_l k
  unfold ints_plain.f
  repeat' first
      | (with_reducible exact ih0 _ _)
      | (with_reducible exact ih1 _ _)
      | (with_reducible exact ih2 _ _ _)
      | (with_reducible exact ih3 _ _ _ _)
      | (with_reducible exact LeO.refl _)
      | (with_reducible exact LeO.none _)
      | (with_reducible refine LeO.ite ?_ ?_)
      | (with_reducible refine LeO.bind ?_ (fun _ => ?_))
      | exact ih0 _ _
      | exact ih1 _ _
      | exact ih2 _ _ _
      | exact ih3 _ _ _ _
      | exact LeO.none _
      | refine LeO.ite ?_ ?_
      | refine LeO.bind ?_ (fun _ => ?_)
set_option maxHeartbeats 8000000 in
set_option maxRecDepth 100000 in
theorem ints_plain.calls (k : Nat) (a0 : ByteArray) (r1 : ByteArray) (r2 : Bool) (r3 : Bool) (w : World) (h : ints_plain.f k a0 = some (r1, r2, r3)) :
    Calls Try.prog 31 #[.string a0] w fun e w' => e = .returned (.tuple #[.string r1, .bool r2, .bool r3]) ∧ Drawn0 w w' := by
  have H : (if (a0.size : Int) > 0 then (if 0 < (a0.size : Int) then (ints_plain.j0 k a0 ((bt a0 0) == 45)) else (none)) else (ints_plain.j0 k a0 false)) = some (r1, r2, r3) := h
  clear h
  have HC2 := Aside0.mk H
  clear H
  go_enter Try.func31, Try.ntmps31
  go_upto_region 1 with (fail)
  go_cut [5] (fun v5 wc => ∃ (kq : Nat) (x5_1 : Bool), v5 = .bool x5_1 ∧ Aside0 (ints_plain.j0 kq a0 x5_1 = some (r1, r2, r3)) ∧ Aside0 (kq ≤ k) ∧ Drawn0 w wc)
  case first =>
    have H := HC2.out
    clear HC2
    by_cases c3 : (a0.size : Int) > 0
    · rw [if_pos c3] at H
      have c3b0 : decide (0 < (a0.size : Int)) = true := decide_eq_true c3
      have c3b1 : decide (0 < a0.size) = true := decide_eq_true (by omega)
      clear c3
      (first | rw [c3b0] | (simp only [i64_w, i32_w]; rw [c3b0]) | skip)
      by_cases c4 : 0 < (a0.size : Int)
      · rw [if_pos c4] at H
        have c4b0 : decide (0 < (a0.size : Int)) = true := decide_eq_true c4
        have c4b1 : decide (0 < a0.size) = true := decide_eq_true (by omega)
        clear c4
        have H' := Aside0.mk H
        clear H
        have p5 : 0 ≤ (0 : Int) := (by omega)
        have q5 : 0 < a0.size := (by have : (0 : Int) < (a0.size : Int) := of_decide_eq_true (by first | (with_reducible assumption) | assumption); omega)
        have hx5 : ∀ h : 0 < a0.size, ((a0[0]'h).toNat : Int) = bt a0 0 := bt_at a0 0
        clear p5
        have qi5 : (0 < (a0.size : Int)) = True := eq_true (of_decide_eq_true (by first | (with_reducible assumption) | assumption))
        replace q5 := eq_true q5
        go_wp2
        go_meet
        case rel => exact ⟨_, (((bt a0 0) == 45)), (by first | rfl | (simp; done) | (simp [*]; done)), H', ⟨by first | omega | exact Nat.le_refl _⟩, by repeat (first | exact Drawn0.refl _ | apply Drawn0.step)⟩
      · rw [if_neg c4] at H
        exact absurd H (by simp)
    · rw [if_neg c3] at H
      have c3b0 : decide (0 < (a0.size : Int)) = false := decide_eq_false c3
      have c3b1 : decide (0 < a0.size) = false := decide_eq_false (by omega)
      clear c3
      (first | rw [c3b0] | (simp only [i64_w, i32_w]; rw [c3b0]) | skip)
      have H' := Aside0.mk H
      clear H
      go_wp2
      go_meet
      case rel => exact ⟨_, (false), (by first | rfl | (simp; done) | (simp [*]; done)), H', ⟨by first | omega | exact Nat.le_refl _⟩, by repeat (first | exact Drawn0.refl _ | apply Drawn0.step)⟩
  case rest =>
    clear HC2
    try clear p2
    try clear c3
    try clear c3b0
    try clear c3b1
    try clear c4
    try clear c4b0
    try clear c4b1
    try clear p5
    try clear q5
    try clear hx5
    try clear qi5
    try clear p5
    try clear q5
    obtain ⟨kq, x5_1, rfl, HA, HJ1, ⟨mc1, rfl⟩⟩ := hcut
    cases kq with
    | zero => exact absurd HA.out (by simp [ints_plain.j0])
    | succ kj1 =>
      have H := HA.out
      clear HA
      simp only [ints_plain.j0] at H
      have HC6 := Aside0.mk H
      clear H
      go_upto_if 15 with (fail)
      go_cut [0] (fun v0 wc => ∃ (kq : Nat) (x0_5 : ByteArray), v0 = .string x0_5 ∧ Aside0 (ints_plain.j1 kq x0_5 x5_1 = some (r1, r2, r3)) ∧ Aside0 (kq ≤ kj1) ∧ Drawn0 w wc)
      case first =>
        have H := HC6.out
        clear HC6
        by_cases c7 : x5_1 = true
        · subst c7
          have H1 : (if 1 ≤ (a0.size : Int) then (ints_plain.j1 kj1 (a0.extract 1 a0.size) true) else (none)) = some (r1, r2, r3) := by rw [if_pos rfl] at H; exact H
          clear H
          have H := H1
          clear H1
          by_cases c8 : 1 ≤ (a0.size : Int)
          · rw [if_pos c8] at H
            have c8b0 := eq_true c8
            have c8b1 : decide (1 ≤ (a0.size : Int)) = true := decide_eq_true c8
            clear c8
            have H' := Aside0.mk H
            clear H
            go_wp2
            go_meet
            case rel => exact ⟨_, (a0.extract 1 a0.size), (by first | rfl | (simp; done) | (simp [*]; done)), H', ⟨by have := HJ1.out; first | omega | exact Nat.le_refl _⟩, by repeat (first | exact Drawn0.refl _ | apply Drawn0.step)⟩
          · rw [if_neg c8] at H
            exact absurd H (by simp)
        · replace c7 := Bool.eq_false_iff.mpr c7
          subst c7
          have H1 : (ints_plain.j1 kj1 a0 false) = some (r1, r2, r3) := by rw [if_neg (show ¬ (false = true) by decide)] at H; exact H
          clear H
          have H := H1
          clear H1
          have H' := Aside0.mk H
          clear H
          go_wp2
          go_meet
          case rel => exact ⟨_, (a0), (by first | rfl | (simp; done) | (simp [*]; done)), H', ⟨by have := HJ1.out; first | omega | exact Nat.le_refl _⟩, by repeat (first | exact Drawn0.refl _ | apply Drawn0.step)⟩
      case rest =>
        clear HC6
        try clear c1
        try clear p2
        try clear c3
        try clear c3b0
        try clear c3b1
        try clear c4
        try clear c4b0
        try clear c4b1
        try clear p5
        try clear q5
        try clear hx5
        try clear qi5
        try clear c7
        try clear c8
        try clear c8b0
        try clear c8b1
        try clear p2
        try clear p5
        try clear q5
        obtain ⟨kq, x0_5, rfl, HA, HJ5, ⟨mc5, rfl⟩⟩ := hcut
        cases kq with
        | zero => exact absurd HA.out (by simp [ints_plain.j1])
        | succ kj5 =>
          have H := HA.out
          clear HA
          simp only [ints_plain.j1] at H
          have HC9 := Aside0.mk H
          clear H
          go_upto_region 4 with (fail)
          go_cut [32] (fun v32 wc => ∃ (kq : Nat) (x32_8 : Bool), v32 = .bool x32_8 ∧ Aside0 (ints_plain.j2 kq x0_5 x5_1 x32_8 = some (r1, r2, r3)) ∧ Aside0 (kq ≤ kj5) ∧ Drawn0 w wc)
          case first =>
            have H := HC9.out
            clear HC9
            by_cases c10 : x0_5.toList = ([] : List UInt8)
            · rw [if_pos c10] at H
              have c10b0 : (x0_5.toList == ([] : List UInt8)) = true := beq_iff_eq.mpr c10
              have c10b1 : (x0_5.toList != ([] : List UInt8)) = false := bne_eq_false_iff_eq.mpr c10
              clear c10
              (first | rw [c10b0] | (simp only [i64_w, i32_w]; rw [c10b0]) | skip)
              have H' := Aside0.mk H
              clear H
              go_wp2
              go_meet
              case rel => exact ⟨_, (true), (by first | rfl | (simp; done) | (simp [*]; done)), H', ⟨by have := HJ1.out; have := HJ5.out; first | omega | exact Nat.le_refl _⟩, by repeat (first | exact Drawn0.refl _ | apply Drawn0.step)⟩
            · rw [if_neg c10] at H
              have c10b0 : (x0_5.toList == ([] : List UInt8)) = false := beq_eq_false_iff_ne.mpr c10
              have c10b1 : (x0_5.toList != ([] : List UInt8)) = true := bne_iff_ne.mpr c10
              (first | rw [c10b0] | (simp only [i64_w, i32_w]; rw [c10b0]) | skip)
              by_cases c11 : 0 < (x0_5.size : Int)
              · rw [if_pos c11] at H
                have c11b0 : decide (0 < (x0_5.size : Int)) = true := decide_eq_true c11
                have c11b1 : decide (0 < x0_5.size) = true := decide_eq_true (by omega)
                clear c11
                by_cases c13 : (bt x0_5 0) = 48
                · rw [if_pos c13] at H
                  have c13b0 : ((bt x0_5 0) == 48) = true := beq_iff_eq.mpr c13
                  have c13b1 : ((bt x0_5 0) != 48) = false := bne_eq_false_iff_eq.mpr c13
                  clear c13
                  by_cases c14 : (x0_5.size : Int) > 1
                  · rw [if_pos c14] at H
                    have c14b0 : decide (1 < (x0_5.size : Int)) = true := decide_eq_true c14
                    have c14b1 : decide (1 < x0_5.size) = true := decide_eq_true (by omega)
                    clear c14
                    have H' := Aside0.mk H
                    clear H
                    have p12 : 0 ≤ (0 : Int) := (by omega)
                    have q12 : 0 < x0_5.size := (by have : (0 : Int) < (x0_5.size : Int) := of_decide_eq_true (by first | (with_reducible assumption) | assumption); omega)
                    have hx12 : ∀ h : 0 < x0_5.size, ((x0_5[0]'h).toNat : Int) = bt x0_5 0 := bt_at x0_5 0
                    clear p12
                    have qi12 : (0 < (x0_5.size : Int)) = True := eq_true (of_decide_eq_true (by first | (with_reducible assumption) | assumption))
                    replace q12 := eq_true q12
                    go_wp2
                    go_meet
                    case rel => exact ⟨_, (true), (by first | rfl | (simp; done) | (simp [*]; done)), H', ⟨by have := HJ1.out; have := HJ5.out; first | omega | exact Nat.le_refl _⟩, by repeat (first | exact Drawn0.refl _ | apply Drawn0.step)⟩
                  · rw [if_neg c14] at H
                    have c14b0 : decide (1 < (x0_5.size : Int)) = false := decide_eq_false c14
                    have c14b1 : decide (1 < x0_5.size) = false := decide_eq_false (by omega)
                    clear c14
                    have H' := Aside0.mk H
                    clear H
                    have p12 : 0 ≤ (0 : Int) := (by omega)
                    have q12 : 0 < x0_5.size := (by have : (0 : Int) < (x0_5.size : Int) := of_decide_eq_true (by first | (with_reducible assumption) | assumption); omega)
                    have hx12 : ∀ h : 0 < x0_5.size, ((x0_5[0]'h).toNat : Int) = bt x0_5 0 := bt_at x0_5 0
                    clear p12
                    have qi12 : (0 < (x0_5.size : Int)) = True := eq_true (of_decide_eq_true (by first | (with_reducible assumption) | assumption))
                    replace q12 := eq_true q12
                    go_wp2
                    go_meet
                    case rel => exact ⟨_, (x5_1), (by first | rfl | (simp; done) | (simp [*]; done)), H', ⟨by have := HJ1.out; have := HJ5.out; first | omega | exact Nat.le_refl _⟩, by repeat (first | exact Drawn0.refl _ | apply Drawn0.step)⟩
                · rw [if_neg c13] at H
                  have c13b0 : ((bt x0_5 0) == 48) = false := beq_eq_false_iff_ne.mpr c13
                  have c13b1 : ((bt x0_5 0) != 48) = true := bne_iff_ne.mpr c13
                  have H' := Aside0.mk H
                  clear H
                  have p12 : 0 ≤ (0 : Int) := (by omega)
                  have q12 : 0 < x0_5.size := (by have : (0 : Int) < (x0_5.size : Int) := of_decide_eq_true (by first | (with_reducible assumption) | assumption); omega)
                  have hx12 : ∀ h : 0 < x0_5.size, ((x0_5[0]'h).toNat : Int) = bt x0_5 0 := bt_at x0_5 0
                  clear p12
                  have qi12 : (0 < (x0_5.size : Int)) = True := eq_true (of_decide_eq_true (by first | (with_reducible assumption) | assumption))
                  replace q12 := eq_true q12
                  go_wp2
                  go_meet
                  case rel => exact ⟨_, (false), (by first | rfl | (simp; done) | (simp [*]; done)), H', ⟨by have := HJ1.out; have := HJ5.out; first | omega | exact Nat.le_refl _⟩, by repeat (first | exact Drawn0.refl _ | apply Drawn0.step)⟩
              · rw [if_neg c11] at H
                exact absurd H (by simp)
          case rest =>
            clear HC9
            try clear c1
            try clear p1
            try clear q1
            try clear hx1
            try clear qi1
            try clear p2
            try clear c3
            try clear c3b0
            try clear c3b1
            try clear c4
            try clear c4b0
            try clear c4b1
            try clear c5
            try clear p5
            try clear q5
            try clear hx5
            try clear qi5
            try clear c7
            try clear c8
            try clear c8b0
            try clear c8b1
            try clear c10
            try clear c10b0
            try clear c10b1
            try clear c11
            try clear c11b0
            try clear c11b1
            try clear p12
            try clear q12
            try clear hx12
            try clear qi12
            try clear c13
            try clear c13b0
            try clear c13b1
            try clear c14
            try clear c14b0
            try clear c14b1
            try clear p12
            try clear p2
            try clear p5
            try clear q12
            try clear q5
            obtain ⟨kq, x32_8, rfl, HA, HJ8, ⟨mc8, rfl⟩⟩ := hcut
            cases kq with
            | zero => exact absurd HA.out (by simp [ints_plain.j2])
            | succ kj8 =>
              have H := HA.out
              clear HA
              simp only [ints_plain.j2] at H
              by_cases c15 : x32_8 = true
              · subst c15
                have H1 : (some ((⟨#[]⟩ : ByteArray), false, false)) = some (r1, r2, r3) := by rw [if_pos rfl] at H; exact H
                clear H
                have H := H1
                clear H1
                simp only [Option.some.injEq, Prod.mk.injEq] at H
                obtain ⟨rfl, rfl, rfl⟩ := H
                go_wp2
                go_ret3
                exact ⟨by first | rfl | (simp; done) | (simp [*]; done), by repeat (first | exact Drawn0.refl _ | apply Drawn0.step)⟩
              · replace c15 := Bool.eq_false_iff.mpr c15
                subst c15
                have H1 : (ints_plain.l0 kj8 x0_5 x5_1 (x0_5.size : Int) 0) = some (r1, r2, r3) := by rw [if_neg (show ¬ (false = true) by decide)] at H; exact H
                clear H
                have H := H1
                clear H1
                have H' := Aside0.mk H
                clear H
                go_wp2
                go_loopg [35] kj8 (fun kq v35 w' => ∃ (x35_4 : Int), v35 = .int .i64 x35_4 ∧ Aside0 (ints_plain.l0 kq x0_5 x5_1 (x0_5.size : Int) x35_4 = some (r1, r2, r3)) ∧ Aside0 (kq ≤ kj8) ∧ Drawn0 w w')
                case atStart => exact ⟨(0), (by first | rfl | (simp; done) | (simp [*]; done)), H', ⟨Nat.le_refl _⟩, by repeat (first | exact Drawn0.refl _ | apply Drawn0.step)⟩
                case round =>
                  clear H'
                  try clear c1
                  try clear p1
                  try clear q1
                  try clear hx1
                  try clear qi1
                  try clear p2
                  try clear c3
                  try clear c3b0
                  try clear c3b1
                  try clear c4
                  try clear c4b0
                  try clear c4b1
                  try clear c5
                  try clear p5
                  try clear q5
                  try clear hx5
                  try clear qi5
                  try clear c7
                  try clear c8
                  try clear c8b0
                  try clear c8b1
                  try clear c10
                  try clear c10b0
                  try clear c10b1
                  try clear c11
                  try clear c11b0
                  try clear c11b1
                  try clear p12
                  try clear q12
                  try clear hx12
                  try clear qi12
                  try clear c13
                  try clear c13b0
                  try clear c13b1
                  try clear c14
                  try clear c14b0
                  try clear c14b1
                  try clear c15
                  try clear p1
                  try clear p12
                  try clear p2
                  try clear p5
                  try clear q1
                  try clear q12
                  try clear q5
                  obtain ⟨x35_4, rfl, HA, HK4, ⟨m4, rfl⟩⟩ := hrel
                  cases gk with
                  | zero => exact absurd HA.out (by simp [ints_plain.l0])
                  | succ k4 =>
                    have H := HA.out
                    clear HA
                    simp only [ints_plain.l0] at H
                    by_cases c16 : x35_4 < (x0_5.size : Int)
                    · rw [if_pos c16] at H
                      have c16b0 : decide (x35_4 < (x0_5.size : Int)) = true := decide_eq_true c16
                      clear c16
                      by_cases c17 : 0 ≤ x35_4
                      · rw [if_pos c17] at H
                        have c17b0 : decide (0 ≤ x35_4) = true := decide_eq_true c17
                        clear c17
                        by_cases c18 : x35_4 < (x0_5.size : Int)
                        · rw [if_pos c18] at H
                          have c18b0 : decide (x35_4 < (x0_5.size : Int)) = true := decide_eq_true c18
                          clear c18
                          by_cases c20 : (bt x0_5 x35_4) < 48
                          · rw [if_pos c20] at H
                            have c20b0 : decide ((bt x0_5 x35_4) < 48) = true := decide_eq_true c20
                            clear c20
                            simp only [Option.some.injEq, Prod.mk.injEq] at H
                            obtain ⟨rfl, rfl, rfl⟩ := H
                            have p19 : 0 ≤ (x35_4 : Int) := of_decide_eq_true (by first | (with_reducible assumption) | assumption)
                            have q19 : x35_4 < (x0_5.size : Int) := of_decide_eq_true (by first | (with_reducible assumption) | assumption)
                            have hx19 := bt_at x0_5 x35_4
                            replace p19 := eq_true p19
                            replace q19 := eq_true q19
                            go_wp2
                            go_ret3
                            exact ⟨by first | rfl | (simp; done) | (simp [*]; done), by repeat (first | exact Drawn0.refl _ | apply Drawn0.step)⟩
                          · rw [if_neg c20] at H
                            have c20b0 : decide ((bt x0_5 x35_4) < 48) = false := decide_eq_false c20
                            clear c20
                            by_cases c22 : (bt x0_5 x35_4) > 57
                            · rw [if_pos c22] at H
                              have c22b0 : decide (57 < (bt x0_5 x35_4)) = true := decide_eq_true c22
                              clear c22
                              simp only [Option.some.injEq, Prod.mk.injEq] at H
                              obtain ⟨rfl, rfl, rfl⟩ := H
                              have p19 : 0 ≤ (x35_4 : Int) := of_decide_eq_true (by first | (with_reducible assumption) | assumption)
                              have q19 : x35_4 < (x0_5.size : Int) := of_decide_eq_true (by first | (with_reducible assumption) | assumption)
                              have hx19 := bt_at x0_5 x35_4
                              replace p19 := eq_true p19
                              replace q19 := eq_true q19
                              have p21 : 0 ≤ (x35_4 : Int) := of_decide_eq_true (by first | (with_reducible assumption) | assumption)
                              have q21 : x35_4 < (x0_5.size : Int) := of_decide_eq_true (by first | (with_reducible assumption) | assumption)
                              have hx21 := bt_at x0_5 x35_4
                              replace p21 := eq_true p21
                              replace q21 := eq_true q21
                              go_wp2
                              go_ret3
                              exact ⟨by first | rfl | (simp; done) | (simp [*]; done), by repeat (first | exact Drawn0.refl _ | apply Drawn0.step)⟩
                            · rw [if_neg c22] at H
                              have c22b0 : decide (57 < (bt x0_5 x35_4)) = false := decide_eq_false c22
                              clear c22
                              have H' := Aside0.mk H
                              clear H
                              have p19 : 0 ≤ (x35_4 : Int) := of_decide_eq_true (by first | (with_reducible assumption) | assumption)
                              have q19 : x35_4 < (x0_5.size : Int) := of_decide_eq_true (by first | (with_reducible assumption) | assumption)
                              have hx19 := bt_at x0_5 x35_4
                              replace p19 := eq_true p19
                              replace q19 := eq_true q19
                              have p21 : 0 ≤ (x35_4 : Int) := of_decide_eq_true (by first | (with_reducible assumption) | assumption)
                              have q21 : x35_4 < (x0_5.size : Int) := of_decide_eq_true (by first | (with_reducible assumption) | assumption)
                              have hx21 := bt_at x0_5 x35_4
                              replace p21 := eq_true p21
                              replace q21 := eq_true q21
                              go_wp2
                              go_roundg k4
                              case measure => have := HJ1.out; have := HJ5.out; have := HJ8.out; have := HK4.out; omega
                              case rel => exact ⟨(wrap64 (x35_4 + 1)), (by first | rfl | (simp; done) | (simp [*]; done)), H', ⟨by have := HJ1.out; have := HJ5.out; have := HJ8.out; have := HK4.out; omega⟩, by repeat (first | exact Drawn0.refl _ | apply Drawn0.step)⟩
                        · rw [if_neg c18] at H
                          exact absurd H (by simp)
                      · rw [if_neg c17] at H
                        exact absurd H (by simp)
                    · rw [if_neg c16] at H
                      have c16b0 : decide (x35_4 < (x0_5.size : Int)) = false := decide_eq_false c16
                      clear c16
                      simp only [Option.some.injEq, Prod.mk.injEq] at H
                      obtain ⟨rfl, rfl, rfl⟩ := H
                      go_wp2
                      go_ret3
                      exact ⟨by first | rfl | (simp; done) | (simp [*]; done), by repeat (first | exact Drawn0.refl _ | apply Drawn0.step)⟩

end Go.Proofs.Ytdbolkckbgacoaa.Print
