/- Contracts of the program's functions, each with a plain function of the same answers; written by a program of this session over the kit's print.py, with hand-written parts; no condition but the bounds that each theorem states. -/
import Derived.Test.YtdbolkckbgacoaaPrint0
import Derived.Test.YtdbolkckbgacoaaPrint1
namespace Go.Proofs.Ytdbolkckbgacoaa.Print
open Go.RowKit Go.Proofs.YtdbolkckbgacoaaW.PrintWords Go.Proofs.YtdbolkckbgacoaaW.PrintLast Go.Proofs.YtdbolkckbgacoaaW.PrintMore
attribute [local go_sem] max2_int min2_int max_two min_two max_three min_three max_four min_four   -- for this text's walks alone
set_option linter.unusedVariables false
set_option linter.unusedSimpArgs false

/-! ### selvageref01_Do: function 14 -/
mutual
def selvageref01_Do.j0 : Nat → ByteArray → Int → Int → Bool → Option (Int × Int)
  | 0, _, _, _, _ => none
  | k + 1, x0, x1, x2, x17 => if x17 = true then (some (0, 1)) else (if x0.toList = ([43] : List UInt8) then ((selvageref01_Add.f x1 x2).bind fun t116 => (some (t116, 0))) else (if x0.toList = ([45] : List UInt8) then ((selvageref01_Wrap.f (wrap64 (x1 - x2))).bind fun t117 => (some (t117, 0))) else (if x0.toList = ([42] : List UInt8) then ((selvageref01_Mul.f k x1 x2).bind fun t118 => (some (t118, 0))) else (if x0.toList = ([47] : List UInt8) then (selvageref01_Do.j1 k x0 x1 x2 x0 (x0.toList == ([47] : List UInt8))) else (selvageref01_Do.j1 k x0 x1 x2 x0 (x0.toList == ([37] : List UInt8)))))))
def selvageref01_Do.j1 : Nat → ByteArray → Int → Int → ByteArray → Bool → Option (Int × Int)
  | 0, _, _, _, _, _ => none
  | k + 1, x0, x1, x2, x18, x35 => if x35 = true then (if x2 = 0 then (some (0, 3)) else (if x0.toList = ([37] : List UInt8) then (some (wrap64 (x1 - (wrap64 ((wrap64 (Int.tdiv x1 x2)) * x2))), 0)) else ((selvageref01_Wrap.f (wrap64 (Int.tdiv x1 x2))).bind fun t119 => (some (t119, 0))))) else (if x18.toList = ([61] : List UInt8) then (if x1 = x2 then (some (1, 0)) else (some (0, 0))) else (if x18.toList = ([60] : List UInt8) then (if x1 < x2 then (some (1, 0)) else (some (0, 0))) else (some (0, 1))))
end
def selvageref01_Do.f (k : Nat) (a0 : ByteArray) (a1 : Int) (a2 : Int) : Option (Int × Int) := (selvageref01_Is.f a1).bind fun t114 => (if t114 = true then ((selvageref01_Is.f a2).bind fun t115 => (selvageref01_Do.j0 k a0 a1 a2 (!t115))) else (selvageref01_Do.j0 k a0 a1 a2 true))
theorem selvageref01_Do.mono_l : ∀ k, (∀ y0 y1 y2 y3, LeO (selvageref01_Do.j0 k y0 y1 y2 y3) (selvageref01_Do.j0 (k + 1) y0 y1 y2 y3)) ∧ (∀ y0 y1 y2 y3 y4, LeO (selvageref01_Do.j1 k y0 y1 y2 y3 y4) (selvageref01_Do.j1 (k + 1) y0 y1 y2 y3 y4))
  | 0 => ⟨fun _ _ _ _ r h => by simp [selvageref01_Do.j0] at h, fun _ _ _ _ _ r h => by simp [selvageref01_Do.j1] at h⟩
  | k + 1 => by
    obtain ⟨ih0, ih1⟩ := selvageref01_Do.mono_l k
    refine ⟨?_, ?_⟩
    · intro y0 y1 y2 y3
      unfold selvageref01_Do.j0
      repeat' first
      | (with_reducible exact ih0 _ _ _ _)
      | (with_reducible exact ih1 _ _ _ _ _)
      | (with_reducible exact selvageref01_Mul.mono _ _ _)
      | (with_reducible exact LeO.refl _)
      | (with_reducible exact LeO.none _)
      | (with_reducible refine LeO.ite ?_ ?_)
      | (with_reducible refine LeO.bind ?_ (fun _ => ?_))
      | exact ih0 _ _ _ _
      | exact ih1 _ _ _ _ _
      | exact selvageref01_Mul.mono _ _ _
      | exact LeO.none _
      | refine LeO.ite ?_ ?_
      | refine LeO.bind ?_ (fun _ => ?_)
    · intro y0 y1 y2 y3 y4
      unfold selvageref01_Do.j1
      repeat' first
      | (with_reducible exact ih0 _ _ _ _)
      | (with_reducible exact ih1 _ _ _ _ _)
      | (with_reducible exact selvageref01_Mul.mono _ _ _)
      | (with_reducible exact LeO.refl _)
      | (with_reducible exact LeO.none _)
      | (with_reducible refine LeO.ite ?_ ?_)
      | (with_reducible refine LeO.bind ?_ (fun _ => ?_))
      | exact ih0 _ _ _ _
      | exact ih1 _ _ _ _ _
      | exact selvageref01_Mul.mono _ _ _
      | exact LeO.none _
      | refine LeO.ite ?_ ?_
      | refine LeO.bind ?_ (fun _ => ?_)
theorem selvageref01_Do.mono : ∀ a0 a1 a2 k, LeO (selvageref01_Do.f k a0 a1 a2) (selvageref01_Do.f (k + 1) a0 a1 a2) := by
  intro a0 a1 a2 k
  obtain ⟨ih0, ih1⟩ := selvageref01_Do.mono_l k
  unfold selvageref01_Do.f
  repeat' first
      | (with_reducible exact ih0 _ _ _ _)
      | (with_reducible exact ih1 _ _ _ _ _)
      | (with_reducible exact selvageref01_Mul.mono _ _ _)
      | (with_reducible exact LeO.refl _)
      | (with_reducible exact LeO.none _)
      | (with_reducible refine LeO.ite ?_ ?_)
      | (with_reducible refine LeO.bind ?_ (fun _ => ?_))
      | exact ih0 _ _ _ _
      | exact ih1 _ _ _ _ _
      | exact selvageref01_Mul.mono _ _ _
      | exact LeO.none _
      | refine LeO.ite ?_ ?_
      | refine LeO.bind ?_ (fun _ => ?_)
set_option maxHeartbeats 8000000 in
set_option maxRecDepth 100000 in
theorem selvageref01_Do.calls (k : Nat) (a0 : ByteArray) (a1 : Int) (a2 : Int) (r1 : Int) (r2 : Int) (w : World) (h : selvageref01_Do.f k a0 a1 a2 = some (r1, r2)) :
    Calls Try.prog 14 #[.string a0, .int .i64 a1, .int .i64 a2] w fun e w' => e = .returned (.tuple #[.int .i64 r1, .int .i64 r2]) ∧ Drawn0 w w' := by
  have H : ((selvageref01_Is.f a1).bind fun t114 => (if t114 = true then ((selvageref01_Is.f a2).bind fun t115 => (selvageref01_Do.j0 k a0 a1 a2 (!t115))) else (selvageref01_Do.j0 k a0 a1 a2 true))) = some (r1, r2) := h
  clear h
  have HC4 := Aside0.mk H
  clear H
  go_enter Try.func14, Try.ntmps14
  go_upto_region 1 with (fail)
  go_cut [17] (fun v17 wc => ∃ (kq : Nat) (x17_3 : Bool), v17 = .bool x17_3 ∧ Aside0 (selvageref01_Do.j0 kq a0 a1 a2 x17_3 = some (r1, r2)) ∧ Aside0 (kq ≤ k) ∧ Drawn0 w wc)
  case first =>
    have H := HC4.out
    clear HC4
    replace H := Option.bind_eq_some_iff.mp H
    obtain ⟨t114, A50, H⟩ := H
    replace H : (if t114 = true then ((selvageref01_Is.f a2).bind fun t115 => (selvageref01_Do.j0 k a0 a1 a2 (!t115))) else (selvageref01_Do.j0 k a0 a1 a2 true)) = some (r1, r2) := H
    have A5 := Aside0.mk A50
    clear A50
    by_cases c6 : t114 = true
    · subst c6
      have H1 : ((selvageref01_Is.f a2).bind fun t115 => (selvageref01_Do.j0 k a0 a1 a2 (!t115))) = some (r1, r2) := by rw [if_pos rfl] at H; exact H
      clear H
      have H := H1
      clear H1
      replace H := Option.bind_eq_some_iff.mp H
      obtain ⟨t115, A70, H⟩ := H
      replace H : (selvageref01_Do.j0 k a0 a1 a2 (!t115)) = some (r1, r2) := H
      have A7 := Aside0.mk A70
      clear A70
      have H' := Aside0.mk H
      clear H
      go_wp2_with (first | ((with_reducible refine gate_callee (f := 18) rfl ?_); refine goesL_ (some 11) rfl rfl Try.func18 (by kernel_rfl) rfl #[.int .i64 a1] rfl (by (try simp only [List.map_toArray, List.map_cons, List.map_nil]); first | done | rfl | (simp only [List.length_drop, List.length_take]; rfl)) ?_; (with_reducible refine (selvageref01_Is.calls a1 true _ A5.out).mono ?_); rintro e w' ⟨rfl, ⟨nd, rfl⟩⟩; refine ⟨_, rfl, ?_⟩) | (go_at_call 18; (with_reducible refine (selvageref01_Is.calls a2 t115 _ A7.out).mono ?_); rintro e w' ⟨rfl, ⟨nd, rfl⟩⟩))
      go_meet
      case rel => exact ⟨_, (!t115), (by first | rfl | (simp; done) | (simp [*]; done)), H', ⟨by first | omega | exact Nat.le_refl _⟩, by repeat (first | exact Drawn0.refl _ | apply Drawn0.step)⟩
    · replace c6 := Bool.eq_false_iff.mpr c6
      subst c6
      have H1 : (selvageref01_Do.j0 k a0 a1 a2 true) = some (r1, r2) := by rw [if_neg (show ¬ (false = true) by decide)] at H; exact H
      clear H
      have H := H1
      clear H1
      have H' := Aside0.mk H
      clear H
      go_wp2_with (first | ((with_reducible refine gate_callee (f := 18) rfl ?_); refine goesL_ (some 11) rfl rfl Try.func18 (by kernel_rfl) rfl #[.int .i64 a1] rfl (by (try simp only [List.map_toArray, List.map_cons, List.map_nil]); first | done | rfl | (simp only [List.length_drop, List.length_take]; rfl)) ?_; (with_reducible refine (selvageref01_Is.calls a1 false _ A5.out).mono ?_); rintro e w' ⟨rfl, ⟨nd, rfl⟩⟩; refine ⟨_, rfl, ?_⟩))
      go_meet
      case rel => exact ⟨_, (true), (by first | rfl | (simp; done) | (simp [*]; done)), H', ⟨by first | omega | exact Nat.le_refl _⟩, by repeat (first | exact Drawn0.refl _ | apply Drawn0.step)⟩
  case rest =>
    clear HC4
    try clear c1
    try clear p2
    try clear c6
    obtain ⟨kq, x17_3, rfl, HA, HJ3, ⟨mc3, rfl⟩⟩ := hcut
    cases kq with
    | zero => exact absurd HA.out (by simp [selvageref01_Do.j0])
    | succ kj3 =>
      have H := HA.out
      clear HA
      simp only [selvageref01_Do.j0] at H
      by_cases c8 : x17_3 = true
      · subst c8
        have H1 : (some (0, 1)) = some (r1, r2) := by rw [if_pos rfl] at H; exact H
        clear H
        have H := H1
        clear H1
        simp only [Option.some.injEq, Prod.mk.injEq] at H
        obtain ⟨rfl, rfl⟩ := H
        go_wp2
        go_ret2
        exact ⟨by first | rfl | (simp; done) | (simp [*]; done), by repeat (first | exact Drawn0.refl _ | apply Drawn0.step)⟩
      · replace c8 := Bool.eq_false_iff.mpr c8
        subst c8
        have H1 : (if a0.toList = ([43] : List UInt8) then ((selvageref01_Add.f a1 a2).bind fun t116 => (some (t116, 0))) else (if a0.toList = ([45] : List UInt8) then ((selvageref01_Wrap.f (wrap64 (a1 - a2))).bind fun t117 => (some (t117, 0))) else (if a0.toList = ([42] : List UInt8) then ((selvageref01_Mul.f kj3 a1 a2).bind fun t118 => (some (t118, 0))) else (if a0.toList = ([47] : List UInt8) then (selvageref01_Do.j1 kj3 a0 a1 a2 a0 (a0.toList == ([47] : List UInt8))) else (selvageref01_Do.j1 kj3 a0 a1 a2 a0 (a0.toList == ([37] : List UInt8))))))) = some (r1, r2) := by rw [if_neg (show ¬ (false = true) by decide)] at H; exact H
        clear H
        have H := H1
        clear H1
        by_cases c9 : a0.toList = ([43] : List UInt8)
        · rw [if_pos c9] at H
          have c9b0 : (a0.toList == ([43] : List UInt8)) = true := beq_iff_eq.mpr c9
          have c9b1 : (a0.toList != ([43] : List UInt8)) = false := bne_eq_false_iff_eq.mpr c9
          clear c9
          replace H := Option.bind_eq_some_iff.mp H
          obtain ⟨t116, A100, H⟩ := H
          replace H : (some (t116, 0)) = some (r1, r2) := H
          have A10 := Aside0.mk A100
          clear A100
          simp only [Option.some.injEq, Prod.mk.injEq] at H
          obtain ⟨rfl, rfl⟩ := H
          go_wp2_with (first | ((with_reducible refine gate_callee (f := 29) rfl ?_); refine goesL_ (some 23) rfl rfl Try.func29 (by kernel_rfl) rfl #[.int .i64 a1, .int .i64 a2] rfl (by (try simp only [List.map_toArray, List.map_cons, List.map_nil]); first | done | rfl | (simp only [List.length_drop, List.length_take]; rfl)) ?_; (with_reducible refine (selvageref01_Add.calls a1 a2 t116 _ A10.out).mono ?_); rintro e w' ⟨rfl, ⟨nd, rfl⟩⟩; refine ⟨_, rfl, ?_⟩))
          go_ret2
          exact ⟨by first | rfl | (simp; done) | (simp [*]; done), by repeat (first | exact Drawn0.refl _ | apply Drawn0.step)⟩
        · rw [if_neg c9] at H
          have c9b0 : (a0.toList == ([43] : List UInt8)) = false := beq_eq_false_iff_ne.mpr c9
          have c9b1 : (a0.toList != ([43] : List UInt8)) = true := bne_iff_ne.mpr c9
          by_cases c11 : a0.toList = ([45] : List UInt8)
          · rw [if_pos c11] at H
            have c11b0 : (a0.toList == ([45] : List UInt8)) = true := beq_iff_eq.mpr c11
            have c11b1 : (a0.toList != ([45] : List UInt8)) = false := bne_eq_false_iff_eq.mpr c11
            clear c11
            replace H := Option.bind_eq_some_iff.mp H
            obtain ⟨t117, A120, H⟩ := H
            replace H : (some (t117, 0)) = some (r1, r2) := H
            have A12 := Aside0.mk A120
            clear A120
            simp only [Option.some.injEq, Prod.mk.injEq] at H
            obtain ⟨rfl, rfl⟩ := H
            go_wp2_with (first | ((with_reducible refine gate_callee (f := 17) rfl ?_); refine goesL_ (some 29) rfl rfl Try.func17 (by kernel_rfl) rfl #[.int .i64 (wrap64 (a1 - a2))] rfl (by (try simp only [List.map_toArray, List.map_cons, List.map_nil]); first | done | rfl | (simp only [List.length_drop, List.length_take]; rfl)) ?_; (with_reducible refine (selvageref01_Wrap.calls (wrap64 (a1 - a2)) t117 _ A12.out).mono ?_); rintro e w' ⟨rfl, ⟨nd, rfl⟩⟩; refine ⟨_, rfl, ?_⟩))
            go_ret2
            exact ⟨by first | rfl | (simp; done) | (simp [*]; done), by repeat (first | exact Drawn0.refl _ | apply Drawn0.step)⟩
          · rw [if_neg c11] at H
            have c11b0 : (a0.toList == ([45] : List UInt8)) = false := beq_eq_false_iff_ne.mpr c11
            have c11b1 : (a0.toList != ([45] : List UInt8)) = true := bne_iff_ne.mpr c11
            by_cases c13 : a0.toList = ([42] : List UInt8)
            · rw [if_pos c13] at H
              have c13b0 : (a0.toList == ([42] : List UInt8)) = true := beq_iff_eq.mpr c13
              have c13b1 : (a0.toList != ([42] : List UInt8)) = false := bne_eq_false_iff_eq.mpr c13
              clear c13
              replace H := Option.bind_eq_some_iff.mp H
              obtain ⟨t118, A140, H⟩ := H
              replace H : (some (t118, 0)) = some (r1, r2) := H
              have A14 := Aside0.mk A140
              clear A140
              simp only [Option.some.injEq, Prod.mk.injEq] at H
              obtain ⟨rfl, rfl⟩ := H
              go_wp2_with (first | ((with_reducible refine gate_callee (f := 30) rfl ?_); refine goesL_ (some 34) rfl rfl Try.func30 (by kernel_rfl) rfl #[.int .i64 a1, .int .i64 a2] rfl (by (try simp only [List.map_toArray, List.map_cons, List.map_nil]); first | done | rfl | (simp only [List.length_drop, List.length_take]; rfl)) ?_; (with_reducible refine (selvageref01_Mul.calls kj3 a1 a2 t118 _ A14.out).mono ?_); rintro e w' ⟨rfl, ⟨nd, rfl⟩⟩; refine ⟨_, rfl, ?_⟩))
              go_ret2
              exact ⟨by first | rfl | (simp; done) | (simp [*]; done), by repeat (first | exact Drawn0.refl _ | apply Drawn0.step)⟩
            · rw [if_neg c13] at H
              have c13b0 : (a0.toList == ([42] : List UInt8)) = false := beq_eq_false_iff_ne.mpr c13
              have c13b1 : (a0.toList != ([42] : List UInt8)) = true := bne_iff_ne.mpr c13
              have HC15 := Aside0.mk H
              clear H
              go_upto_if 35 with (fail)
              go_cut [35] (fun v35 wc => ∃ (kq : Nat) (x35_14 : Bool), v35 = .bool x35_14 ∧ Aside0 (selvageref01_Do.j1 kq a0 a1 a2 a0 x35_14 = some (r1, r2)) ∧ Aside0 (kq ≤ kj3) ∧ Drawn0 w wc)
              case first =>
                have H := HC15.out
                clear HC15
                by_cases c16 : a0.toList = ([47] : List UInt8)
                · rw [if_pos c16] at H
                  have c16b0 : (a0.toList == ([47] : List UInt8)) = true := beq_iff_eq.mpr c16
                  have c16b1 : (a0.toList != ([47] : List UInt8)) = false := bne_eq_false_iff_eq.mpr c16
                  clear c16
                  (first | rw [c16b0] | (simp only [i64_w, i32_w]; rw [c16b0]) | skip)
                  have H' := Aside0.mk H
                  clear H
                  go_wp2
                  go_meet
                  case rel => exact ⟨_, ((a0.toList == ([47] : List UInt8))), (by first | rfl | (simp; done) | (simp [*]; done)), H', ⟨by have := HJ3.out; first | omega | exact Nat.le_refl _⟩, by repeat (first | exact Drawn0.refl _ | apply Drawn0.step)⟩
                · rw [if_neg c16] at H
                  have c16b0 : (a0.toList == ([47] : List UInt8)) = false := beq_eq_false_iff_ne.mpr c16
                  have c16b1 : (a0.toList != ([47] : List UInt8)) = true := bne_iff_ne.mpr c16
                  (first | rw [c16b0] | (simp only [i64_w, i32_w]; rw [c16b0]) | skip)
                  have H' := Aside0.mk H
                  clear H
                  go_wp2
                  go_meet
                  case rel => exact ⟨_, ((a0.toList == ([37] : List UInt8))), (by first | rfl | (simp; done) | (simp [*]; done)), H', ⟨by have := HJ3.out; first | omega | exact Nat.le_refl _⟩, by repeat (first | exact Drawn0.refl _ | apply Drawn0.step)⟩
              case rest =>
                clear HC15
                try clear c1
                try clear c2
                try clear p2
                try clear c3
                try clear c6
                try clear p6
                try clear c8
                try clear c9
                try clear c9b0
                try clear c9b1
                try clear c11
                try clear c11b0
                try clear c11b1
                try clear c13
                try clear c13b0
                try clear c13b1
                try clear c14
                try clear c16
                try clear c16b0
                try clear c16b1
                try clear p2
                obtain ⟨kq, x35_14, rfl, HA, HJ14, ⟨mc14, rfl⟩⟩ := hcut
                cases kq with
                | zero => exact absurd HA.out (by simp [selvageref01_Do.j1])
                | succ kj14 =>
                  have H := HA.out
                  clear HA
                  simp only [selvageref01_Do.j1] at H
                  by_cases c17 : x35_14 = true
                  · subst c17
                    have H1 : (if a2 = 0 then (some (0, 3)) else (if a0.toList = ([37] : List UInt8) then (some (wrap64 (a1 - (wrap64 ((wrap64 (Int.tdiv a1 a2)) * a2))), 0)) else ((selvageref01_Wrap.f (wrap64 (Int.tdiv a1 a2))).bind fun t119 => (some (t119, 0))))) = some (r1, r2) := by rw [if_pos rfl] at H; exact H
                    clear H
                    have H := H1
                    clear H1
                    by_cases c18 : a2 = 0
                    · rw [if_pos c18] at H
                      have c18b0 : (a2 == 0) = true := beq_iff_eq.mpr c18
                      have c18b1 : (a2 != 0) = false := bne_eq_false_iff_eq.mpr c18
                      clear c18
                      simp only [Option.some.injEq, Prod.mk.injEq] at H
                      obtain ⟨rfl, rfl⟩ := H
                      go_wp2
                      go_ret2
                      exact ⟨by first | rfl | (simp; done) | (simp [*]; done), by repeat (first | exact Drawn0.refl _ | apply Drawn0.step)⟩
                    · rw [if_neg c18] at H
                      have c18b0 : (a2 == 0) = false := beq_eq_false_iff_ne.mpr c18
                      have c18b1 : (a2 != 0) = true := bne_iff_ne.mpr c18
                      by_cases c19 : a0.toList = ([37] : List UInt8)
                      · rw [if_pos c19] at H
                        have c19b0 : (a0.toList == ([37] : List UInt8)) = true := beq_iff_eq.mpr c19
                        have c19b1 : (a0.toList != ([37] : List UInt8)) = false := bne_eq_false_iff_eq.mpr c19
                        clear c19
                        simp only [Option.some.injEq, Prod.mk.injEq] at H
                        obtain ⟨rfl, rfl⟩ := H
                        go_wp2
                        go_ret2
                        exact ⟨by first | rfl | (simp; done) | (simp [*]; done), by repeat (first | exact Drawn0.refl _ | apply Drawn0.step)⟩
                      · rw [if_neg c19] at H
                        have c19b0 : (a0.toList == ([37] : List UInt8)) = false := beq_eq_false_iff_ne.mpr c19
                        have c19b1 : (a0.toList != ([37] : List UInt8)) = true := bne_iff_ne.mpr c19
                        replace H := Option.bind_eq_some_iff.mp H
                        obtain ⟨t119, A200, H⟩ := H
                        replace H : (some (t119, 0)) = some (r1, r2) := H
                        have A20 := Aside0.mk A200
                        clear A200
                        simp only [Option.some.injEq, Prod.mk.injEq] at H
                        obtain ⟨rfl, rfl⟩ := H
                        go_wp2_with (first | ((with_reducible refine gate_callee (f := 17) rfl ?_); refine goesL_ (some 51) rfl rfl Try.func17 (by kernel_rfl) rfl #[.int .i64 (wrap64 (Int.tdiv a1 a2))] rfl (by (try simp only [List.map_toArray, List.map_cons, List.map_nil]); first | done | rfl | (simp only [List.length_drop, List.length_take]; rfl)) ?_; (with_reducible refine (selvageref01_Wrap.calls (wrap64 (Int.tdiv a1 a2)) t119 _ A20.out).mono ?_); rintro e w' ⟨rfl, ⟨nd, rfl⟩⟩; refine ⟨_, rfl, ?_⟩))
                        go_ret2
                        exact ⟨by first | rfl | (simp; done) | (simp [*]; done), by repeat (first | exact Drawn0.refl _ | apply Drawn0.step)⟩
                  · replace c17 := Bool.eq_false_iff.mpr c17
                    subst c17
                    have H1 : (if a0.toList = ([61] : List UInt8) then (if a1 = a2 then (some (1, 0)) else (some (0, 0))) else (if a0.toList = ([60] : List UInt8) then (if a1 < a2 then (some (1, 0)) else (some (0, 0))) else (some (0, 1)))) = some (r1, r2) := by rw [if_neg (show ¬ (false = true) by decide)] at H; exact H
                    clear H
                    have H := H1
                    clear H1
                    by_cases c21 : a0.toList = ([61] : List UInt8)
                    · rw [if_pos c21] at H
                      have c21b0 : (a0.toList == ([61] : List UInt8)) = true := beq_iff_eq.mpr c21
                      have c21b1 : (a0.toList != ([61] : List UInt8)) = false := bne_eq_false_iff_eq.mpr c21
                      clear c21
                      by_cases c22 : a1 = a2
                      · rw [if_pos c22] at H
                        have c22b0 : (a1 == a2) = true := beq_iff_eq.mpr c22
                        have c22b1 : (a1 != a2) = false := bne_eq_false_iff_eq.mpr c22
                        clear c22
                        simp only [Option.some.injEq, Prod.mk.injEq] at H
                        obtain ⟨rfl, rfl⟩ := H
                        go_wp2
                        go_ret2
                        exact ⟨by first | rfl | (simp; done) | (simp [*]; done), by repeat (first | exact Drawn0.refl _ | apply Drawn0.step)⟩
                      · rw [if_neg c22] at H
                        have c22b0 : (a1 == a2) = false := beq_eq_false_iff_ne.mpr c22
                        have c22b1 : (a1 != a2) = true := bne_iff_ne.mpr c22
                        simp only [Option.some.injEq, Prod.mk.injEq] at H
                        obtain ⟨rfl, rfl⟩ := H
                        go_wp2
                        go_ret2
                        exact ⟨by first | rfl | (simp; done) | (simp [*]; done), by repeat (first | exact Drawn0.refl _ | apply Drawn0.step)⟩
                    · rw [if_neg c21] at H
                      have c21b0 : (a0.toList == ([61] : List UInt8)) = false := beq_eq_false_iff_ne.mpr c21
                      have c21b1 : (a0.toList != ([61] : List UInt8)) = true := bne_iff_ne.mpr c21
                      by_cases c23 : a0.toList = ([60] : List UInt8)
                      · rw [if_pos c23] at H
                        have c23b0 : (a0.toList == ([60] : List UInt8)) = true := beq_iff_eq.mpr c23
                        have c23b1 : (a0.toList != ([60] : List UInt8)) = false := bne_eq_false_iff_eq.mpr c23
                        clear c23
                        by_cases c24 : a1 < a2
                        · rw [if_pos c24] at H
                          have c24b0 : decide (a1 < a2) = true := decide_eq_true c24
                          clear c24
                          simp only [Option.some.injEq, Prod.mk.injEq] at H
                          obtain ⟨rfl, rfl⟩ := H
                          go_wp2
                          go_ret2
                          exact ⟨by first | rfl | (simp; done) | (simp [*]; done), by repeat (first | exact Drawn0.refl _ | apply Drawn0.step)⟩
                        · rw [if_neg c24] at H
                          have c24b0 : decide (a1 < a2) = false := decide_eq_false c24
                          clear c24
                          simp only [Option.some.injEq, Prod.mk.injEq] at H
                          obtain ⟨rfl, rfl⟩ := H
                          go_wp2
                          go_ret2
                          exact ⟨by first | rfl | (simp; done) | (simp [*]; done), by repeat (first | exact Drawn0.refl _ | apply Drawn0.step)⟩
                      · rw [if_neg c23] at H
                        have c23b0 : (a0.toList == ([60] : List UInt8)) = false := beq_eq_false_iff_ne.mpr c23
                        have c23b1 : (a0.toList != ([60] : List UInt8)) = true := bne_iff_ne.mpr c23
                        simp only [Option.some.injEq, Prod.mk.injEq] at H
                        obtain ⟨rfl, rfl⟩ := H
                        go_wp2
                        go_ret2
                        exact ⟨by first | rfl | (simp; done) | (simp [*]; done), by repeat (first | exact Drawn0.refl _ | apply Drawn0.step)⟩

/-! ### ints_Tag: function 19 -/
def ints_Tag.f (a0 : Int) : Option (Int) := some (Go.bits .or .i64 (wrap64 (a0 * 2)) 1)
set_option maxHeartbeats 8000000 in
set_option maxRecDepth 100000 in
theorem ints_Tag.calls (a0 : Int) (r : Int) (w : World) (h : ints_Tag.f a0 = some r) :
    Calls Try.prog 19 #[.int .i64 a0] w fun e w' => e = .returned (.int .i64 r) ∧ Drawn0 w w' := by
  have H : (some (Go.bits .or .i64 (wrap64 (a0 * 2)) 1)) = some r := h
  clear h
  obtain rfl := Option.some.inj H
  go_enter Try.func19, Try.ntmps19
  go_wp2
  go_ret
  exact ⟨by first | rfl | (simp; done) | (simp [*]; done), by repeat (first | exact Drawn0.refl _ | apply Drawn0.step)⟩

/-! ### ints_Point: function 21 -/
def ints_Point.f (a0 : Int) : Option (Int) := if a0 < 1 then (some 0) else (if a0 > 2305843009213693952 then (some 0) else (some (wrap64 (a0 * 2))))
set_option maxHeartbeats 8000000 in
set_option maxRecDepth 100000 in
theorem ints_Point.calls (a0 : Int) (r : Int) (w : World) (h : ints_Point.f a0 = some r) :
    Calls Try.prog 21 #[.int .i64 a0] w fun e w' => e = .returned (.int .i64 r) ∧ Drawn0 w w' := by
  have H : (if a0 < 1 then (some 0) else (if a0 > 2305843009213693952 then (some 0) else (some (wrap64 (a0 * 2))))) = some r := h
  clear h
  by_cases c2 : a0 < 1
  · rw [if_pos c2] at H
    have c2b0 : decide (a0 < 1) = true := decide_eq_true c2
    clear c2
    obtain rfl := Option.some.inj H
    go_enter Try.func21, Try.ntmps21
    go_wp2
    go_ret
    exact ⟨by first | rfl | (simp; done) | (simp [*]; done), by repeat (first | exact Drawn0.refl _ | apply Drawn0.step)⟩
  · rw [if_neg c2] at H
    have c2b0 : decide (a0 < 1) = false := decide_eq_false c2
    clear c2
    by_cases c3 : a0 > 2305843009213693952
    · rw [if_pos c3] at H
      have c3b0 : decide (2305843009213693952 < a0) = true := decide_eq_true c3
      clear c3
      obtain rfl := Option.some.inj H
      go_enter Try.func21, Try.ntmps21
      go_wp2
      go_ret
      exact ⟨by first | rfl | (simp; done) | (simp [*]; done), by repeat (first | exact Drawn0.refl _ | apply Drawn0.step)⟩
    · rw [if_neg c3] at H
      have c3b0 : decide (2305843009213693952 < a0) = false := decide_eq_false c3
      clear c3
      obtain rfl := Option.some.inj H
      go_enter Try.func21, Try.ntmps21
      go_wp2
      go_ret
      exact ⟨by first | rfl | (simp; done) | (simp [*]; done), by repeat (first | exact Drawn0.refl _ | apply Drawn0.step)⟩

/-! ### ints_Show: function 23 -/
/-- A digit as Show lays it. -/
def ints_Show.dg (n : Int) : Int := 48 + (if n.tmod 10 < 0 then -(n.tmod 10) else n.tmod 10)
/-- The loop of Show: the digits ahead of those that are there. -/
def ints_Show.l0 : Nat → Int → List Int → Option (List Int)
  | 0, _, _ => none
  | k + 1, n, l => if wrap64 (n.tdiv 10) = 0 then some (ints_Show.dg n :: l) else ints_Show.l0 k (wrap64 (n.tdiv 10)) (ints_Show.dg n :: l)
def ints_Show.f (a0 : Int) : Option ByteArray :=
  (ints_Show.l0 22 (wrap64 (a0 * 2) / 2) []).map fun l => strOfNums (if wrap64 (a0 * 2) / 2 < 0 then 45 :: l else l)

/-- Block b holds 24 cells, from place at on the bytes l. -/
def ints_Show.Row (w : World) (b at' : Nat) (l : List Int) : Prop :=
  ∃ C : Array Value, w.heap[b]? = some (.cells C 40 (0, 0)) ∧ C.size = 24 ∧ C.toList.drop at' = l.map (Value.int .u8)
theorem ints_Show.Row.cell {w : World} {b n : Nat} {l : List Int} (h : ints_Show.Row w b n l) (i : Nat) (hi : i < 24) : ∃ v, w.cell? ⟨b, i, none⟩ = some v := by
  obtain ⟨C, h1, h2, _⟩ := h
  exact ⟨C[i]'(by omega), by simp [World.cell?, h1, h2, hi]⟩
theorem ints_Show.Row.free {w : World} {b n : Nat} {l : List Int} (h : ints_Show.Row w b n l) (i : Nat) : w.frozen? ⟨b, i, none⟩ = false := by
  obtain ⟨C, h1, _, _⟩ := h
  simp [World.frozen?, h1]
theorem ints_Show.Row.store {w : World} {b n : Nat} {l : List Int} (h : ints_Show.Row w b (n + 1) l) (x : Int) (hn : n < 24) : ints_Show.Row (w.setCell ⟨b, n, none⟩ (.int .u8 x)) b n (x :: l) := by
  obtain ⟨C, h1, h2, h3⟩ := h
  refine ⟨C.setIfInBounds n (.int .u8 x), by simp [World.setCell, Array.getElem?_modify, h1], by simpa using h2, ?_⟩
  rw [List.map_cons, ← h3]
  have hl : n < C.toList.length := by simpa using (by omega : n < C.size)
  rw [Array.toList_setIfInBounds, List.drop_eq_getElem_cons (by simpa using hl)]
  simp [List.drop_set]
theorem ints_Show.Row.drew {w : World} {b n : Nat} {l : List Int} (h : ints_Show.Row w b n l) : ints_Show.Row w.drew b n l := h
theorem ints_Show.Row.reads {w : World} {b n : Nat} {l : List Int} (h : ints_Show.Row w b n l) (hn : n ≤ 24) : l.length = 24 - n ∧ ∀ i, i < 24 - n → w.cell? ⟨b, n + i, none⟩ = some (.int .u8 (l.getD i 0)) := by
  obtain ⟨C, h1, h2, h3⟩ := h
  have hl : l.length = 24 - n := by have := congrArg List.length h3; simp at this; omega
  refine ⟨hl, fun i hi => ?_⟩
  have e := congrArg (fun z => z[i]?) h3
  simp only [List.getElem?_drop, List.getElem?_map] at e
  have hil : i < l.length := by omega
  simp [World.cell?, h1, List.getD, List.getElem?_eq_getElem hil] at e ⊢
  exact e

theorem ints_Show.sliced (b p : Nat) (z : Int) (hz : z = (p : Int)) (hp : p < 24) (w : World) :
    (Instr.sliceAt 40 (.pointer (some ⟨b, 0, none⟩)) (some (.int .i64 z)) none none).run Try.prog w = .ok (.slice (some ⟨b, p, none⟩) (24 - p) (24 - p)) w := by
  have hl : Try.prog.arrayLen 40 = 24 := by kernel_rfl
  have he : Try.prog.elem 40 = 5 := by kernel_rfl
  have hu : Try.prog.underlying 40 = some (.array (Try.prog.arrayLen 40) (Try.prog.elem 40)) := by rw [hl, he]; exact Try.underlying40
  rw [run_sliceAt_array_l w 40 ⟨b, 0, none⟩ hu .i64 z (by omega) (by rw [hl]; omega)]
  have hs : (sizeOf (Try.prog.elem 40)).run Try.prog w = .ok 1 w := by rw [he]; kernel_rfl
  rw [hs, hl]
  have ez : z.toNat = p := by omega
  have h24 : ¬ 24 = p := by omega
  simp only [Result.andThen, slicedAt, ez, if_neg h24, Nat.mul_one]
  have : (⟨b, 0, none⟩ : Addr).add p = ⟨b, p, none⟩ := by unfold Addr.add; split <;> simp_all
  rw [this]
theorem ints_Show.converted (b p c : Nat) (l : List Int) (hp : p ≤ 24) (hc : c = 24 - p) (w : World) (h : ints_Show.Row w b p l) :
    (convert 41 9 (.slice (some ⟨b, p, none⟩) c c)).run Try.prog w = .ok (.string (strOfNums l)) w := by
  subst hc
  exact run_convert_bytes_arg w 41 5 Try.underlying41 Try.underlying5 b p (24 - p) (24 - p) l (h.reads hp).1 (h.reads hp).2 9 Try.underlying9
theorem ints_Show.dg_neg {n : Int} (h : n.tmod 10 < 0) : ints_Show.dg n = 48 + -n.tmod 10 := by simp [ints_Show.dg, h]
theorem ints_Show.dg_pos {n : Int} (h : ¬ n.tmod 10 < 0) : ints_Show.dg n = 48 + n.tmod 10 := by simp [ints_Show.dg, h]

set_option maxHeartbeats 800000 in
set_option maxRecDepth 100000 in
theorem ints_Show.calls (a0 : Int) (r : ByteArray) (w : World) (h : ints_Show.f a0 = some r) :
    Calls Try.prog 23 #[.int .i64 a0] w fun e w' => e = .returned (.string r) ∧ Below w.heap.size w w' := by
  have huA := Try.underlying40
  have huB := Try.underlying41
  have HX : ∃ l, ints_Show.l0 22 (wrap64 (a0 * 2) / 2) [] = some l ∧ r = strOfNums (if wrap64 (a0 * 2) / 2 < 0 then 45 :: l else l) := by
    simp only [ints_Show.f, Option.map_eq_some_iff] at h
    obtain ⟨l, h1, h2⟩ := h
    exact ⟨l, h1, h2.symm⟩
  clear h
  obtain ⟨lr, H0, hr⟩ := HX
  have HR := Aside0.mk hr
  clear hr
  generalize hv : wrap64 (a0 * 2) / 2 = v at H0 HR
  have H' := Aside0.mk H0
  clear H0
  have HV : Aside0 (ints_Wrap.f a0 = some v) := ⟨by rw [← hv]; rfl⟩
  clear hv
  go_enter Try.func23, Try.ntmps23
  go_wp2_with ((go_at_call 16; (with_reducible refine (ints_Wrap.calls a0 v _ HV.out).mono ?_); rintro e w' ⟨rfl, ⟨nd, rfl⟩⟩))
  generalize hvb : decide (v < 0) = vb
  have HVB := Aside0.mk hvb
  clear hvb
  go_loopg [0, 4] 22 (fun kq v0 v4 w' => ∃ (n : Int) (l : List Int), v0 = .int .i64 n ∧ v4 = .int .i64 ((kq : Int) + 2) ∧ Aside0 (ints_Show.l0 kq n l = some lr) ∧ Aside0 (kq ≤ 22) ∧ Aside0 (ints_Show.Row w' w.heap.size (kq + 2) l) ∧ Aside0 (Below w.heap.size w w'))
  case atStart => exact ⟨v, [], rfl, rfl, H', ⟨Nat.le_refl _⟩, ⟨⟨_, heap_alloc_new (w.drewN nd) _, rfl, rfl⟩⟩, ⟨(Below.trans (Below.refl _ w) (⟨rfl, rfl, rfl, Nat.le_refl _, fun _ _ => rfl⟩ : Below w.heap.size w (w.drewN nd))).alloc (Nat.le_refl _) _⟩⟩
  case round =>
    clear H'
    obtain ⟨n, l, rfl, rfl, HA, HK1, HRow, HB⟩ := hrel
    cases gk with
    | zero => exact absurd HA.out (by simp [ints_Show.l0])
    | succ k1 =>
      have t1 : -9 ≤ n.tmod 10 := by have := Int.tmod_lt_of_pos n (show (0:Int) < 10 by decide); have := Int.lt_tmod_of_pos n (show (0:Int) < 10 by decide); omega
      have t2 : n.tmod 10 ≤ 9 := by have := Int.tmod_lt_of_pos n (show (0:Int) < 10 by decide); omega
      have hk1 : k1 ≤ 21 := by have := HK1.out; omega
      obtain ⟨cv, hcv⟩ := HRow.out.cell (k1 + 2) (by omega)
      have hfv := HRow.out.free (k1 + 2)
      have H := HA.out
      clear HA
      simp only [ints_Show.l0] at H
      by_cases c1 : n.tmod 10 < 0
      · skip
        have ed := ints_Show.dg_neg c1
        rw [ed] at H
        have R1 := HRow.out.store (48 + -n.tmod 10) (by omega : k1 + 2 < 24)
        clear ed
        by_cases c2 : wrap64 (n.tdiv 10) = 0
        · rw [if_pos c2] at H
          obtain rfl := Option.some.inj H
          have R1' := Aside0.mk R1
          have HB1 := Aside0.mk (HB.out.setCell (p := ⟨w.heap.size, k1 + 2, none⟩) (Nat.le_refl _) (.int .u8 (48 + -n.tmod 10)))
          clear H
          cases vb with
          | true =>
            have R2 := Aside0.mk (R1.store 45 (by omega : k1 + 1 < 24))
            have HB2 := Aside0.mk (HB1.out.setCell (p := ⟨w.heap.size, k1 + 1, none⟩) (Nat.le_refl _) (.int .u8 45))
            obtain ⟨cv2, hcv2⟩ := R1.cell (k1 + 1) (by omega)
            have hfv2 := R1.free (k1 + 1)
            clear R1
            have hsl := ints_Show.sliced w.heap.size (k1 + 1) (↑k1 + 1 + 2 - 1 - 1) (by omega) (by omega)
            have hcon := ints_Show.converted w.heap.size (k1 + 1) (23 - k1) _ (by omega) (by omega) _ R2.out
            go_wp2
            go_ret
            exact ⟨by rw [HR.out, if_pos (of_decide_eq_true HVB.out)]; rfl, HB2.out⟩
          | false =>
            have hsl := ints_Show.sliced w.heap.size (k1 + 2) (↑k1 + 1 + 2 - 1) (by omega) (by omega)
            have hcon := ints_Show.converted w.heap.size (k1 + 2) (22 - k1) _ (by omega) (by omega) _ R1
            clear R1
            go_wp2
            go_ret
            exact ⟨by rw [HR.out, if_neg (of_decide_eq_false HVB.out)]; rfl, HB1.out⟩
        · rw [if_neg c2] at H
          have HH := Aside0.mk H
          have R1' := Aside0.mk R1
          clear H R1
          go_wp2
          go_roundg k1
          case measure => omega
          case rel => exact ⟨_, _, rfl, by go_num, HH, ⟨by omega⟩, R1', ⟨HB.out.setCell (Nat.le_refl _) _⟩⟩
      · skip
        have ed := ints_Show.dg_pos c1
        rw [ed] at H
        have R1 := HRow.out.store (48 + n.tmod 10) (by omega : k1 + 2 < 24)
        clear ed
        by_cases c2 : wrap64 (n.tdiv 10) = 0
        · rw [if_pos c2] at H
          obtain rfl := Option.some.inj H
          have R1' := Aside0.mk R1
          have HB1 := Aside0.mk (HB.out.setCell (p := ⟨w.heap.size, k1 + 2, none⟩) (Nat.le_refl _) (.int .u8 (48 + n.tmod 10)))
          clear H
          cases vb with
          | true =>
            have R2 := Aside0.mk (R1.store 45 (by omega : k1 + 1 < 24))
            have HB2 := Aside0.mk (HB1.out.setCell (p := ⟨w.heap.size, k1 + 1, none⟩) (Nat.le_refl _) (.int .u8 45))
            obtain ⟨cv2, hcv2⟩ := R1.cell (k1 + 1) (by omega)
            have hfv2 := R1.free (k1 + 1)
            clear R1
            have hsl := ints_Show.sliced w.heap.size (k1 + 1) (↑k1 + 1 + 2 - 1 - 1) (by omega) (by omega)
            have hcon := ints_Show.converted w.heap.size (k1 + 1) (23 - k1) _ (by omega) (by omega) _ R2.out
            go_wp2
            go_ret
            exact ⟨by rw [HR.out, if_pos (of_decide_eq_true HVB.out)]; rfl, HB2.out⟩
          | false =>
            have hsl := ints_Show.sliced w.heap.size (k1 + 2) (↑k1 + 1 + 2 - 1) (by omega) (by omega)
            have hcon := ints_Show.converted w.heap.size (k1 + 2) (22 - k1) _ (by omega) (by omega) _ R1
            clear R1
            go_wp2
            go_ret
            exact ⟨by rw [HR.out, if_neg (of_decide_eq_false HVB.out)]; rfl, HB1.out⟩
        · rw [if_neg c2] at H
          have HH := Aside0.mk H
          have R1' := Aside0.mk R1
          clear H R1
          go_wp2
          go_roundg k1
          case measure => omega
          case rel => exact ⟨_, _, rfl, by go_num, HH, ⟨by omega⟩, R1', ⟨HB.out.setCell (Nat.le_refl _) _⟩⟩


/-! ### selvagelaw01_lives: function 15 -/
def selvagelaw01_lives.f (k : Nat)  : Option (Bool) := (ints_Do.f k (⟨#[43]⟩ : ByteArray) 4611686018427387903 1).bind fun bt120 => ((ints_Do.f k (⟨#[47]⟩ : ByteArray) (-7) 2).bind fun bt122 => ((ints_Do.f k (⟨#[37]⟩ : ByteArray) (-7) 2).bind fun bt124 => (if bt120.1 = (-4611686018427387904) then (if bt120.2 = 0 then (if bt122.1 = (-3) then (if bt122.2 = 0 then (if bt124.1 = (-1) then (if bt124.2 = 0 then ((ints_Tag.f 3).bind fun t126 => (if t126 = 7 then ((ints_Point.f 4).bind fun t127 => (if t127 = 8 then ((ints_Show.f (-4611686018427387904)).bind fun t128 => (some (t128.toList == ([45, 52, 54, 49, 49, 54, 56, 54, 48, 49, 56, 52, 50, 55, 51, 56, 55, 57, 48, 52] : List UInt8)))) else (some false))) else (some false))) else (some false)) else (some false)) else (some false)) else (some false)) else (some false)) else (some false))))
theorem selvagelaw01_lives.mono : ∀ k, LeO (selvagelaw01_lives.f k ) (selvagelaw01_lives.f (k + 1) ) := by
  intro  k
  unfold selvagelaw01_lives.f
  repeat' first
      | (with_reducible exact ints_Do.mono _ _ _ _)
      | (with_reducible exact LeO.refl _)
      | (with_reducible exact LeO.none _)
      | (with_reducible refine LeO.ite ?_ ?_)
      | (with_reducible refine LeO.bind ?_ (fun _ => ?_))
      | exact ints_Do.mono _ _ _ _
      | exact LeO.none _
      | refine LeO.ite ?_ ?_
      | refine LeO.bind ?_ (fun _ => ?_)
set_option maxHeartbeats 8000000 in
set_option maxRecDepth 100000 in
theorem selvagelaw01_lives.calls (k : Nat)  (r : Bool) (w : World) (h : selvagelaw01_lives.f k  = some r) :
    Calls Try.prog 15 #[] w fun e w' => e = .returned (.bool r) ∧ Below w.heap.size w w' := by
  have HB := Aside0.mk (Below.refl w.heap.size w)
  have H : ((ints_Do.f k (⟨#[43]⟩ : ByteArray) 4611686018427387903 1).bind fun bt120 => ((ints_Do.f k (⟨#[47]⟩ : ByteArray) (-7) 2).bind fun bt122 => ((ints_Do.f k (⟨#[37]⟩ : ByteArray) (-7) 2).bind fun bt124 => (if bt120.1 = (-4611686018427387904) then (if bt120.2 = 0 then (if bt122.1 = (-3) then (if bt122.2 = 0 then (if bt124.1 = (-1) then (if bt124.2 = 0 then ((ints_Tag.f 3).bind fun t126 => (if t126 = 7 then ((ints_Point.f 4).bind fun t127 => (if t127 = 8 then ((ints_Show.f (-4611686018427387904)).bind fun t128 => (some (t128.toList == ([45, 52, 54, 49, 49, 54, 56, 54, 48, 49, 56, 52, 50, 55, 51, 56, 55, 57, 48, 52] : List UInt8)))) else (some false))) else (some false))) else (some false)) else (some false)) else (some false)) else (some false)) else (some false)) else (some false))))) = some r := h
  clear h
  replace H := Option.bind_eq_some_iff.mp H
  obtain ⟨⟨t120, t121⟩, A10, H⟩ := H
  replace H : ((ints_Do.f k (⟨#[47]⟩ : ByteArray) (-7) 2).bind fun bt122 => ((ints_Do.f k (⟨#[37]⟩ : ByteArray) (-7) 2).bind fun bt124 => (if t120 = (-4611686018427387904) then (if t121 = 0 then (if bt122.1 = (-3) then (if bt122.2 = 0 then (if bt124.1 = (-1) then (if bt124.2 = 0 then ((ints_Tag.f 3).bind fun t126 => (if t126 = 7 then ((ints_Point.f 4).bind fun t127 => (if t127 = 8 then ((ints_Show.f (-4611686018427387904)).bind fun t128 => (some (t128.toList == ([45, 52, 54, 49, 49, 54, 56, 54, 48, 49, 56, 52, 50, 55, 51, 56, 55, 57, 48, 52] : List UInt8)))) else (some false))) else (some false))) else (some false)) else (some false)) else (some false)) else (some false)) else (some false)) else (some false)))) = some r := H
  have A1 := Aside0.mk A10
  clear A10
  replace H := Option.bind_eq_some_iff.mp H
  obtain ⟨⟨t122, t123⟩, A20, H⟩ := H
  replace H : ((ints_Do.f k (⟨#[37]⟩ : ByteArray) (-7) 2).bind fun bt124 => (if t120 = (-4611686018427387904) then (if t121 = 0 then (if t122 = (-3) then (if t123 = 0 then (if bt124.1 = (-1) then (if bt124.2 = 0 then ((ints_Tag.f 3).bind fun t126 => (if t126 = 7 then ((ints_Point.f 4).bind fun t127 => (if t127 = 8 then ((ints_Show.f (-4611686018427387904)).bind fun t128 => (some (t128.toList == ([45, 52, 54, 49, 49, 54, 56, 54, 48, 49, 56, 52, 50, 55, 51, 56, 55, 57, 48, 52] : List UInt8)))) else (some false))) else (some false))) else (some false)) else (some false)) else (some false)) else (some false)) else (some false)) else (some false))) = some r := H
  have A2 := Aside0.mk A20
  clear A20
  replace H := Option.bind_eq_some_iff.mp H
  obtain ⟨⟨t124, t125⟩, A30, H⟩ := H
  replace H : (if t120 = (-4611686018427387904) then (if t121 = 0 then (if t122 = (-3) then (if t123 = 0 then (if t124 = (-1) then (if t125 = 0 then ((ints_Tag.f 3).bind fun t126 => (if t126 = 7 then ((ints_Point.f 4).bind fun t127 => (if t127 = 8 then ((ints_Show.f (-4611686018427387904)).bind fun t128 => (some (t128.toList == ([45, 52, 54, 49, 49, 54, 56, 54, 48, 49, 56, 52, 50, 55, 51, 56, 55, 57, 48, 52] : List UInt8)))) else (some false))) else (some false))) else (some false)) else (some false)) else (some false)) else (some false)) else (some false)) else (some false)) = some r := H
  have A3 := Aside0.mk A30
  clear A30
  by_cases c4 : t120 = (-4611686018427387904)
  · rw [if_pos c4] at H
    have c4b0 : (t120 == (-4611686018427387904)) = true := beq_iff_eq.mpr c4
    have c4b1 : (t120 != (-4611686018427387904)) = false := bne_eq_false_iff_eq.mpr c4
    clear c4
    by_cases c5 : t121 = 0
    · rw [if_pos c5] at H
      have c5b0 : (t121 == 0) = true := beq_iff_eq.mpr c5
      have c5b1 : (t121 != 0) = false := bne_eq_false_iff_eq.mpr c5
      clear c5
      by_cases c6 : t122 = (-3)
      · rw [if_pos c6] at H
        have c6b0 : (t122 == (-3)) = true := beq_iff_eq.mpr c6
        have c6b1 : (t122 != (-3)) = false := bne_eq_false_iff_eq.mpr c6
        clear c6
        by_cases c7 : t123 = 0
        · rw [if_pos c7] at H
          have c7b0 : (t123 == 0) = true := beq_iff_eq.mpr c7
          have c7b1 : (t123 != 0) = false := bne_eq_false_iff_eq.mpr c7
          clear c7
          by_cases c8 : t124 = (-1)
          · rw [if_pos c8] at H
            have c8b0 : (t124 == (-1)) = true := beq_iff_eq.mpr c8
            have c8b1 : (t124 != (-1)) = false := bne_eq_false_iff_eq.mpr c8
            clear c8
            by_cases c9 : t125 = 0
            · rw [if_pos c9] at H
              have c9b0 : (t125 == 0) = true := beq_iff_eq.mpr c9
              have c9b1 : (t125 != 0) = false := bne_eq_false_iff_eq.mpr c9
              clear c9
              replace H := Option.bind_eq_some_iff.mp H
              obtain ⟨t126, A100, H⟩ := H
              replace H : (if t126 = 7 then ((ints_Point.f 4).bind fun t127 => (if t127 = 8 then ((ints_Show.f (-4611686018427387904)).bind fun t128 => (some (t128.toList == ([45, 52, 54, 49, 49, 54, 56, 54, 48, 49, 56, 52, 50, 55, 51, 56, 55, 57, 48, 52] : List UInt8)))) else (some false))) else (some false)) = some r := H
              have A10 := Aside0.mk A100
              clear A100
              by_cases c11 : t126 = 7
              · rw [if_pos c11] at H
                have c11b0 : (t126 == 7) = true := beq_iff_eq.mpr c11
                have c11b1 : (t126 != 7) = false := bne_eq_false_iff_eq.mpr c11
                clear c11
                replace H := Option.bind_eq_some_iff.mp H
                obtain ⟨t127, A120, H⟩ := H
                replace H : (if t127 = 8 then ((ints_Show.f (-4611686018427387904)).bind fun t128 => (some (t128.toList == ([45, 52, 54, 49, 49, 54, 56, 54, 48, 49, 56, 52, 50, 55, 51, 56, 55, 57, 48, 52] : List UInt8)))) else (some false)) = some r := H
                have A12 := Aside0.mk A120
                clear A120
                by_cases c13 : t127 = 8
                · rw [if_pos c13] at H
                  have c13b0 : (t127 == 8) = true := beq_iff_eq.mpr c13
                  have c13b1 : (t127 != 8) = false := bne_eq_false_iff_eq.mpr c13
                  clear c13
                  replace H := Option.bind_eq_some_iff.mp H
                  obtain ⟨t128, A140, H⟩ := H
                  replace H : (some (t128.toList == ([45, 52, 54, 49, 49, 54, 56, 54, 48, 49, 56, 52, 50, 55, 51, 56, 55, 57, 48, 52] : List UInt8))) = some r := H
                  have A14 := Aside0.mk A140
                  clear A140
                  obtain rfl := Option.some.inj H
                  go_enter Try.func15, Try.ntmps15
                  go_wp2_with (first | ((with_reducible refine gate_callee (f := 13) rfl ?_); refine goesL_ (some 8) rfl rfl Try.func13 (by kernel_rfl) rfl #[.string (⟨#[43]⟩ : ByteArray), .int .i64 4611686018427387903, .int .i64 1] rfl (by (try simp only [List.map_toArray, List.map_cons, List.map_nil]); first | done | rfl | (simp only [List.length_drop, List.length_take]; rfl)) ?_; (with_reducible refine (ints_Do.calls k (⟨#[43]⟩ : ByteArray) 4611686018427387903 1 t120 t121 _ A1.out).mono ?_); rintro e w' ⟨rfl, ⟨nd, rfl⟩⟩; refine ⟨_, rfl, ?_⟩) | ((with_reducible refine gate_callee (f := 13) rfl ?_); refine goesL_ (some 12) rfl rfl Try.func13 (by kernel_rfl) rfl #[.string (⟨#[47]⟩ : ByteArray), .int .i64 (-7), .int .i64 2] rfl (by (try simp only [List.map_toArray, List.map_cons, List.map_nil]); first | done | rfl | (simp only [List.length_drop, List.length_take]; rfl)) ?_; (with_reducible refine (ints_Do.calls k (⟨#[47]⟩ : ByteArray) (-7) 2 t122 t123 _ A2.out).mono ?_); rintro e w' ⟨rfl, ⟨nd, rfl⟩⟩; refine ⟨_, rfl, ?_⟩) | ((with_reducible refine gate_callee (f := 13) rfl ?_); refine goesL_ (some 16) rfl rfl Try.func13 (by kernel_rfl) rfl #[.string (⟨#[37]⟩ : ByteArray), .int .i64 (-7), .int .i64 2] rfl (by (try simp only [List.map_toArray, List.map_cons, List.map_nil]); first | done | rfl | (simp only [List.length_drop, List.length_take]; rfl)) ?_; (with_reducible refine (ints_Do.calls k (⟨#[37]⟩ : ByteArray) (-7) 2 t124 t125 _ A3.out).mono ?_); rintro e w' ⟨rfl, ⟨nd, rfl⟩⟩; refine ⟨_, rfl, ?_⟩) | (go_at_call 19; (with_reducible refine (ints_Tag.calls 3 t126 _ A10.out).mono ?_); rintro e w' ⟨rfl, ⟨nd, rfl⟩⟩) | (go_at_call 21; (with_reducible refine (ints_Point.calls 4 t127 _ A12.out).mono ?_); rintro e w' ⟨rfl, ⟨nd, rfl⟩⟩) | (go_at_call 23; (with_reducible refine (ints_Show.calls (-4611686018427387904) t128 _ A14.out).mono ?_); rintro e w15 ⟨rfl, hb⟩; have n0_ := Aside0.mk (below_step (by repeat (first | (with_reducible first | exact HB.out | apply below_alloc | apply pw_below_drewN | apply below_drew1) | exact HB.out)) hb); clear HB; have HB := n0_; clear n0_; (try clear hb); (try clear hb2); (try clear hk); (try clear hi)))
                  go_ret
                  exact ⟨by first | rfl | (simp [errW_none, errW_some] <;> rfl) | (simp [*, errW_none, errW_some] <;> rfl), by repeat (first | (with_reducible first | exact HB.out | apply below_alloc | apply pw_below_drewN | apply below_drew1) | exact HB.out)⟩
                · rw [if_neg c13] at H
                  have c13b0 : (t127 == 8) = false := beq_eq_false_iff_ne.mpr c13
                  have c13b1 : (t127 != 8) = true := bne_iff_ne.mpr c13
                  obtain rfl := Option.some.inj H
                  go_enter Try.func15, Try.ntmps15
                  go_wp2_with (first | ((with_reducible refine gate_callee (f := 13) rfl ?_); refine goesL_ (some 8) rfl rfl Try.func13 (by kernel_rfl) rfl #[.string (⟨#[43]⟩ : ByteArray), .int .i64 4611686018427387903, .int .i64 1] rfl (by (try simp only [List.map_toArray, List.map_cons, List.map_nil]); first | done | rfl | (simp only [List.length_drop, List.length_take]; rfl)) ?_; (with_reducible refine (ints_Do.calls k (⟨#[43]⟩ : ByteArray) 4611686018427387903 1 t120 t121 _ A1.out).mono ?_); rintro e w' ⟨rfl, ⟨nd, rfl⟩⟩; refine ⟨_, rfl, ?_⟩) | ((with_reducible refine gate_callee (f := 13) rfl ?_); refine goesL_ (some 12) rfl rfl Try.func13 (by kernel_rfl) rfl #[.string (⟨#[47]⟩ : ByteArray), .int .i64 (-7), .int .i64 2] rfl (by (try simp only [List.map_toArray, List.map_cons, List.map_nil]); first | done | rfl | (simp only [List.length_drop, List.length_take]; rfl)) ?_; (with_reducible refine (ints_Do.calls k (⟨#[47]⟩ : ByteArray) (-7) 2 t122 t123 _ A2.out).mono ?_); rintro e w' ⟨rfl, ⟨nd, rfl⟩⟩; refine ⟨_, rfl, ?_⟩) | ((with_reducible refine gate_callee (f := 13) rfl ?_); refine goesL_ (some 16) rfl rfl Try.func13 (by kernel_rfl) rfl #[.string (⟨#[37]⟩ : ByteArray), .int .i64 (-7), .int .i64 2] rfl (by (try simp only [List.map_toArray, List.map_cons, List.map_nil]); first | done | rfl | (simp only [List.length_drop, List.length_take]; rfl)) ?_; (with_reducible refine (ints_Do.calls k (⟨#[37]⟩ : ByteArray) (-7) 2 t124 t125 _ A3.out).mono ?_); rintro e w' ⟨rfl, ⟨nd, rfl⟩⟩; refine ⟨_, rfl, ?_⟩) | (go_at_call 19; (with_reducible refine (ints_Tag.calls 3 t126 _ A10.out).mono ?_); rintro e w' ⟨rfl, ⟨nd, rfl⟩⟩) | (go_at_call 21; (with_reducible refine (ints_Point.calls 4 t127 _ A12.out).mono ?_); rintro e w' ⟨rfl, ⟨nd, rfl⟩⟩))
                  go_ret
                  exact ⟨by first | rfl | (simp [errW_none, errW_some] <;> rfl) | (simp [*, errW_none, errW_some] <;> rfl), by repeat (first | (with_reducible first | exact HB.out | apply below_alloc | apply pw_below_drewN | apply below_drew1) | exact HB.out)⟩
              · rw [if_neg c11] at H
                have c11b0 : (t126 == 7) = false := beq_eq_false_iff_ne.mpr c11
                have c11b1 : (t126 != 7) = true := bne_iff_ne.mpr c11
                obtain rfl := Option.some.inj H
                go_enter Try.func15, Try.ntmps15
                go_wp2_with (first | ((with_reducible refine gate_callee (f := 13) rfl ?_); refine goesL_ (some 8) rfl rfl Try.func13 (by kernel_rfl) rfl #[.string (⟨#[43]⟩ : ByteArray), .int .i64 4611686018427387903, .int .i64 1] rfl (by (try simp only [List.map_toArray, List.map_cons, List.map_nil]); first | done | rfl | (simp only [List.length_drop, List.length_take]; rfl)) ?_; (with_reducible refine (ints_Do.calls k (⟨#[43]⟩ : ByteArray) 4611686018427387903 1 t120 t121 _ A1.out).mono ?_); rintro e w' ⟨rfl, ⟨nd, rfl⟩⟩; refine ⟨_, rfl, ?_⟩) | ((with_reducible refine gate_callee (f := 13) rfl ?_); refine goesL_ (some 12) rfl rfl Try.func13 (by kernel_rfl) rfl #[.string (⟨#[47]⟩ : ByteArray), .int .i64 (-7), .int .i64 2] rfl (by (try simp only [List.map_toArray, List.map_cons, List.map_nil]); first | done | rfl | (simp only [List.length_drop, List.length_take]; rfl)) ?_; (with_reducible refine (ints_Do.calls k (⟨#[47]⟩ : ByteArray) (-7) 2 t122 t123 _ A2.out).mono ?_); rintro e w' ⟨rfl, ⟨nd, rfl⟩⟩; refine ⟨_, rfl, ?_⟩) | ((with_reducible refine gate_callee (f := 13) rfl ?_); refine goesL_ (some 16) rfl rfl Try.func13 (by kernel_rfl) rfl #[.string (⟨#[37]⟩ : ByteArray), .int .i64 (-7), .int .i64 2] rfl (by (try simp only [List.map_toArray, List.map_cons, List.map_nil]); first | done | rfl | (simp only [List.length_drop, List.length_take]; rfl)) ?_; (with_reducible refine (ints_Do.calls k (⟨#[37]⟩ : ByteArray) (-7) 2 t124 t125 _ A3.out).mono ?_); rintro e w' ⟨rfl, ⟨nd, rfl⟩⟩; refine ⟨_, rfl, ?_⟩) | (go_at_call 19; (with_reducible refine (ints_Tag.calls 3 t126 _ A10.out).mono ?_); rintro e w' ⟨rfl, ⟨nd, rfl⟩⟩))
                go_ret
                exact ⟨by first | rfl | (simp [errW_none, errW_some] <;> rfl) | (simp [*, errW_none, errW_some] <;> rfl), by repeat (first | (with_reducible first | exact HB.out | apply below_alloc | apply pw_below_drewN | apply below_drew1) | exact HB.out)⟩
            · rw [if_neg c9] at H
              have c9b0 : (t125 == 0) = false := beq_eq_false_iff_ne.mpr c9
              have c9b1 : (t125 != 0) = true := bne_iff_ne.mpr c9
              obtain rfl := Option.some.inj H
              go_enter Try.func15, Try.ntmps15
              go_wp2_with (first | ((with_reducible refine gate_callee (f := 13) rfl ?_); refine goesL_ (some 8) rfl rfl Try.func13 (by kernel_rfl) rfl #[.string (⟨#[43]⟩ : ByteArray), .int .i64 4611686018427387903, .int .i64 1] rfl (by (try simp only [List.map_toArray, List.map_cons, List.map_nil]); first | done | rfl | (simp only [List.length_drop, List.length_take]; rfl)) ?_; (with_reducible refine (ints_Do.calls k (⟨#[43]⟩ : ByteArray) 4611686018427387903 1 t120 t121 _ A1.out).mono ?_); rintro e w' ⟨rfl, ⟨nd, rfl⟩⟩; refine ⟨_, rfl, ?_⟩) | ((with_reducible refine gate_callee (f := 13) rfl ?_); refine goesL_ (some 12) rfl rfl Try.func13 (by kernel_rfl) rfl #[.string (⟨#[47]⟩ : ByteArray), .int .i64 (-7), .int .i64 2] rfl (by (try simp only [List.map_toArray, List.map_cons, List.map_nil]); first | done | rfl | (simp only [List.length_drop, List.length_take]; rfl)) ?_; (with_reducible refine (ints_Do.calls k (⟨#[47]⟩ : ByteArray) (-7) 2 t122 t123 _ A2.out).mono ?_); rintro e w' ⟨rfl, ⟨nd, rfl⟩⟩; refine ⟨_, rfl, ?_⟩) | ((with_reducible refine gate_callee (f := 13) rfl ?_); refine goesL_ (some 16) rfl rfl Try.func13 (by kernel_rfl) rfl #[.string (⟨#[37]⟩ : ByteArray), .int .i64 (-7), .int .i64 2] rfl (by (try simp only [List.map_toArray, List.map_cons, List.map_nil]); first | done | rfl | (simp only [List.length_drop, List.length_take]; rfl)) ?_; (with_reducible refine (ints_Do.calls k (⟨#[37]⟩ : ByteArray) (-7) 2 t124 t125 _ A3.out).mono ?_); rintro e w' ⟨rfl, ⟨nd, rfl⟩⟩; refine ⟨_, rfl, ?_⟩))
              go_ret
              exact ⟨by first | rfl | (simp [errW_none, errW_some] <;> rfl) | (simp [*, errW_none, errW_some] <;> rfl), by repeat (first | (with_reducible first | exact HB.out | apply below_alloc | apply pw_below_drewN | apply below_drew1) | exact HB.out)⟩
          · rw [if_neg c8] at H
            have c8b0 : (t124 == (-1)) = false := beq_eq_false_iff_ne.mpr c8
            have c8b1 : (t124 != (-1)) = true := bne_iff_ne.mpr c8
            obtain rfl := Option.some.inj H
            go_enter Try.func15, Try.ntmps15
            go_wp2_with (first | ((with_reducible refine gate_callee (f := 13) rfl ?_); refine goesL_ (some 8) rfl rfl Try.func13 (by kernel_rfl) rfl #[.string (⟨#[43]⟩ : ByteArray), .int .i64 4611686018427387903, .int .i64 1] rfl (by (try simp only [List.map_toArray, List.map_cons, List.map_nil]); first | done | rfl | (simp only [List.length_drop, List.length_take]; rfl)) ?_; (with_reducible refine (ints_Do.calls k (⟨#[43]⟩ : ByteArray) 4611686018427387903 1 t120 t121 _ A1.out).mono ?_); rintro e w' ⟨rfl, ⟨nd, rfl⟩⟩; refine ⟨_, rfl, ?_⟩) | ((with_reducible refine gate_callee (f := 13) rfl ?_); refine goesL_ (some 12) rfl rfl Try.func13 (by kernel_rfl) rfl #[.string (⟨#[47]⟩ : ByteArray), .int .i64 (-7), .int .i64 2] rfl (by (try simp only [List.map_toArray, List.map_cons, List.map_nil]); first | done | rfl | (simp only [List.length_drop, List.length_take]; rfl)) ?_; (with_reducible refine (ints_Do.calls k (⟨#[47]⟩ : ByteArray) (-7) 2 t122 t123 _ A2.out).mono ?_); rintro e w' ⟨rfl, ⟨nd, rfl⟩⟩; refine ⟨_, rfl, ?_⟩) | ((with_reducible refine gate_callee (f := 13) rfl ?_); refine goesL_ (some 16) rfl rfl Try.func13 (by kernel_rfl) rfl #[.string (⟨#[37]⟩ : ByteArray), .int .i64 (-7), .int .i64 2] rfl (by (try simp only [List.map_toArray, List.map_cons, List.map_nil]); first | done | rfl | (simp only [List.length_drop, List.length_take]; rfl)) ?_; (with_reducible refine (ints_Do.calls k (⟨#[37]⟩ : ByteArray) (-7) 2 t124 t125 _ A3.out).mono ?_); rintro e w' ⟨rfl, ⟨nd, rfl⟩⟩; refine ⟨_, rfl, ?_⟩))
            go_ret
            exact ⟨by first | rfl | (simp [errW_none, errW_some] <;> rfl) | (simp [*, errW_none, errW_some] <;> rfl), by repeat (first | (with_reducible first | exact HB.out | apply below_alloc | apply pw_below_drewN | apply below_drew1) | exact HB.out)⟩
        · rw [if_neg c7] at H
          have c7b0 : (t123 == 0) = false := beq_eq_false_iff_ne.mpr c7
          have c7b1 : (t123 != 0) = true := bne_iff_ne.mpr c7
          obtain rfl := Option.some.inj H
          go_enter Try.func15, Try.ntmps15
          go_wp2_with (first | ((with_reducible refine gate_callee (f := 13) rfl ?_); refine goesL_ (some 8) rfl rfl Try.func13 (by kernel_rfl) rfl #[.string (⟨#[43]⟩ : ByteArray), .int .i64 4611686018427387903, .int .i64 1] rfl (by (try simp only [List.map_toArray, List.map_cons, List.map_nil]); first | done | rfl | (simp only [List.length_drop, List.length_take]; rfl)) ?_; (with_reducible refine (ints_Do.calls k (⟨#[43]⟩ : ByteArray) 4611686018427387903 1 t120 t121 _ A1.out).mono ?_); rintro e w' ⟨rfl, ⟨nd, rfl⟩⟩; refine ⟨_, rfl, ?_⟩) | ((with_reducible refine gate_callee (f := 13) rfl ?_); refine goesL_ (some 12) rfl rfl Try.func13 (by kernel_rfl) rfl #[.string (⟨#[47]⟩ : ByteArray), .int .i64 (-7), .int .i64 2] rfl (by (try simp only [List.map_toArray, List.map_cons, List.map_nil]); first | done | rfl | (simp only [List.length_drop, List.length_take]; rfl)) ?_; (with_reducible refine (ints_Do.calls k (⟨#[47]⟩ : ByteArray) (-7) 2 t122 t123 _ A2.out).mono ?_); rintro e w' ⟨rfl, ⟨nd, rfl⟩⟩; refine ⟨_, rfl, ?_⟩) | ((with_reducible refine gate_callee (f := 13) rfl ?_); refine goesL_ (some 16) rfl rfl Try.func13 (by kernel_rfl) rfl #[.string (⟨#[37]⟩ : ByteArray), .int .i64 (-7), .int .i64 2] rfl (by (try simp only [List.map_toArray, List.map_cons, List.map_nil]); first | done | rfl | (simp only [List.length_drop, List.length_take]; rfl)) ?_; (with_reducible refine (ints_Do.calls k (⟨#[37]⟩ : ByteArray) (-7) 2 t124 t125 _ A3.out).mono ?_); rintro e w' ⟨rfl, ⟨nd, rfl⟩⟩; refine ⟨_, rfl, ?_⟩))
          go_ret
          exact ⟨by first | rfl | (simp [errW_none, errW_some] <;> rfl) | (simp [*, errW_none, errW_some] <;> rfl), by repeat (first | (with_reducible first | exact HB.out | apply below_alloc | apply pw_below_drewN | apply below_drew1) | exact HB.out)⟩
      · rw [if_neg c6] at H
        have c6b0 : (t122 == (-3)) = false := beq_eq_false_iff_ne.mpr c6
        have c6b1 : (t122 != (-3)) = true := bne_iff_ne.mpr c6
        obtain rfl := Option.some.inj H
        go_enter Try.func15, Try.ntmps15
        go_wp2_with (first | ((with_reducible refine gate_callee (f := 13) rfl ?_); refine goesL_ (some 8) rfl rfl Try.func13 (by kernel_rfl) rfl #[.string (⟨#[43]⟩ : ByteArray), .int .i64 4611686018427387903, .int .i64 1] rfl (by (try simp only [List.map_toArray, List.map_cons, List.map_nil]); first | done | rfl | (simp only [List.length_drop, List.length_take]; rfl)) ?_; (with_reducible refine (ints_Do.calls k (⟨#[43]⟩ : ByteArray) 4611686018427387903 1 t120 t121 _ A1.out).mono ?_); rintro e w' ⟨rfl, ⟨nd, rfl⟩⟩; refine ⟨_, rfl, ?_⟩) | ((with_reducible refine gate_callee (f := 13) rfl ?_); refine goesL_ (some 12) rfl rfl Try.func13 (by kernel_rfl) rfl #[.string (⟨#[47]⟩ : ByteArray), .int .i64 (-7), .int .i64 2] rfl (by (try simp only [List.map_toArray, List.map_cons, List.map_nil]); first | done | rfl | (simp only [List.length_drop, List.length_take]; rfl)) ?_; (with_reducible refine (ints_Do.calls k (⟨#[47]⟩ : ByteArray) (-7) 2 t122 t123 _ A2.out).mono ?_); rintro e w' ⟨rfl, ⟨nd, rfl⟩⟩; refine ⟨_, rfl, ?_⟩) | ((with_reducible refine gate_callee (f := 13) rfl ?_); refine goesL_ (some 16) rfl rfl Try.func13 (by kernel_rfl) rfl #[.string (⟨#[37]⟩ : ByteArray), .int .i64 (-7), .int .i64 2] rfl (by (try simp only [List.map_toArray, List.map_cons, List.map_nil]); first | done | rfl | (simp only [List.length_drop, List.length_take]; rfl)) ?_; (with_reducible refine (ints_Do.calls k (⟨#[37]⟩ : ByteArray) (-7) 2 t124 t125 _ A3.out).mono ?_); rintro e w' ⟨rfl, ⟨nd, rfl⟩⟩; refine ⟨_, rfl, ?_⟩))
        go_ret
        exact ⟨by first | rfl | (simp [errW_none, errW_some] <;> rfl) | (simp [*, errW_none, errW_some] <;> rfl), by repeat (first | (with_reducible first | exact HB.out | apply below_alloc | apply pw_below_drewN | apply below_drew1) | exact HB.out)⟩
    · rw [if_neg c5] at H
      have c5b0 : (t121 == 0) = false := beq_eq_false_iff_ne.mpr c5
      have c5b1 : (t121 != 0) = true := bne_iff_ne.mpr c5
      obtain rfl := Option.some.inj H
      go_enter Try.func15, Try.ntmps15
      go_wp2_with (first | ((with_reducible refine gate_callee (f := 13) rfl ?_); refine goesL_ (some 8) rfl rfl Try.func13 (by kernel_rfl) rfl #[.string (⟨#[43]⟩ : ByteArray), .int .i64 4611686018427387903, .int .i64 1] rfl (by (try simp only [List.map_toArray, List.map_cons, List.map_nil]); first | done | rfl | (simp only [List.length_drop, List.length_take]; rfl)) ?_; (with_reducible refine (ints_Do.calls k (⟨#[43]⟩ : ByteArray) 4611686018427387903 1 t120 t121 _ A1.out).mono ?_); rintro e w' ⟨rfl, ⟨nd, rfl⟩⟩; refine ⟨_, rfl, ?_⟩) | ((with_reducible refine gate_callee (f := 13) rfl ?_); refine goesL_ (some 12) rfl rfl Try.func13 (by kernel_rfl) rfl #[.string (⟨#[47]⟩ : ByteArray), .int .i64 (-7), .int .i64 2] rfl (by (try simp only [List.map_toArray, List.map_cons, List.map_nil]); first | done | rfl | (simp only [List.length_drop, List.length_take]; rfl)) ?_; (with_reducible refine (ints_Do.calls k (⟨#[47]⟩ : ByteArray) (-7) 2 t122 t123 _ A2.out).mono ?_); rintro e w' ⟨rfl, ⟨nd, rfl⟩⟩; refine ⟨_, rfl, ?_⟩) | ((with_reducible refine gate_callee (f := 13) rfl ?_); refine goesL_ (some 16) rfl rfl Try.func13 (by kernel_rfl) rfl #[.string (⟨#[37]⟩ : ByteArray), .int .i64 (-7), .int .i64 2] rfl (by (try simp only [List.map_toArray, List.map_cons, List.map_nil]); first | done | rfl | (simp only [List.length_drop, List.length_take]; rfl)) ?_; (with_reducible refine (ints_Do.calls k (⟨#[37]⟩ : ByteArray) (-7) 2 t124 t125 _ A3.out).mono ?_); rintro e w' ⟨rfl, ⟨nd, rfl⟩⟩; refine ⟨_, rfl, ?_⟩))
      go_ret
      exact ⟨by first | rfl | (simp [errW_none, errW_some] <;> rfl) | (simp [*, errW_none, errW_some] <;> rfl), by repeat (first | (with_reducible first | exact HB.out | apply below_alloc | apply pw_below_drewN | apply below_drew1) | exact HB.out)⟩
  · rw [if_neg c4] at H
    have c4b0 : (t120 == (-4611686018427387904)) = false := beq_eq_false_iff_ne.mpr c4
    have c4b1 : (t120 != (-4611686018427387904)) = true := bne_iff_ne.mpr c4
    obtain rfl := Option.some.inj H
    go_enter Try.func15, Try.ntmps15
    go_wp2_with (first | ((with_reducible refine gate_callee (f := 13) rfl ?_); refine goesL_ (some 8) rfl rfl Try.func13 (by kernel_rfl) rfl #[.string (⟨#[43]⟩ : ByteArray), .int .i64 4611686018427387903, .int .i64 1] rfl (by (try simp only [List.map_toArray, List.map_cons, List.map_nil]); first | done | rfl | (simp only [List.length_drop, List.length_take]; rfl)) ?_; (with_reducible refine (ints_Do.calls k (⟨#[43]⟩ : ByteArray) 4611686018427387903 1 t120 t121 _ A1.out).mono ?_); rintro e w' ⟨rfl, ⟨nd, rfl⟩⟩; refine ⟨_, rfl, ?_⟩) | ((with_reducible refine gate_callee (f := 13) rfl ?_); refine goesL_ (some 12) rfl rfl Try.func13 (by kernel_rfl) rfl #[.string (⟨#[47]⟩ : ByteArray), .int .i64 (-7), .int .i64 2] rfl (by (try simp only [List.map_toArray, List.map_cons, List.map_nil]); first | done | rfl | (simp only [List.length_drop, List.length_take]; rfl)) ?_; (with_reducible refine (ints_Do.calls k (⟨#[47]⟩ : ByteArray) (-7) 2 t122 t123 _ A2.out).mono ?_); rintro e w' ⟨rfl, ⟨nd, rfl⟩⟩; refine ⟨_, rfl, ?_⟩) | ((with_reducible refine gate_callee (f := 13) rfl ?_); refine goesL_ (some 16) rfl rfl Try.func13 (by kernel_rfl) rfl #[.string (⟨#[37]⟩ : ByteArray), .int .i64 (-7), .int .i64 2] rfl (by (try simp only [List.map_toArray, List.map_cons, List.map_nil]); first | done | rfl | (simp only [List.length_drop, List.length_take]; rfl)) ?_; (with_reducible refine (ints_Do.calls k (⟨#[37]⟩ : ByteArray) (-7) 2 t124 t125 _ A3.out).mono ?_); rintro e w' ⟨rfl, ⟨nd, rfl⟩⟩; refine ⟨_, rfl, ?_⟩))
    go_ret
    exact ⟨by first | rfl | (simp [errW_none, errW_some] <;> rfl) | (simp [*, errW_none, errW_some] <;> rfl), by repeat (first | (with_reducible first | exact HB.out | apply below_alloc | apply pw_below_drewN | apply below_drew1) | exact HB.out)⟩

/-! ### selvagelaw01_IntsDo: function 3 -/
def selvagelaw01_IntsDo.f (k : Nat) (a0 : ByteArray) (a1 : Int) (a2 : Int) : Option (Bool) := (ints_Do.f k a0 a1 a2).bind fun bt129 => ((selvageref01_Do.f k a0 a1 a2).bind fun bt131 => (if bt129.1 = bt131.1 then (if bt129.2 = bt131.2 then ((selvagelaw01_lives.f k).bind fun t133 => (some t133)) else (some false)) else (some false)))
theorem selvagelaw01_IntsDo.mono : ∀ a0 a1 a2 k, LeO (selvagelaw01_IntsDo.f k a0 a1 a2) (selvagelaw01_IntsDo.f (k + 1) a0 a1 a2) := by
  intro a0 a1 a2 k
  unfold selvagelaw01_IntsDo.f
  repeat' first
      | (with_reducible exact ints_Do.mono _ _ _ _)
      | (with_reducible exact selvagelaw01_lives.mono _)
      | (with_reducible exact selvageref01_Do.mono _ _ _ _)
      | (with_reducible exact LeO.refl _)
      | (with_reducible exact LeO.none _)
      | (with_reducible refine LeO.ite ?_ ?_)
      | (with_reducible refine LeO.bind ?_ (fun _ => ?_))
      | exact ints_Do.mono _ _ _ _
      | exact selvagelaw01_lives.mono _
      | exact selvageref01_Do.mono _ _ _ _
      | exact LeO.none _
      | refine LeO.ite ?_ ?_
      | refine LeO.bind ?_ (fun _ => ?_)
set_option maxHeartbeats 8000000 in
set_option maxRecDepth 100000 in
theorem selvagelaw01_IntsDo.calls (k : Nat) (a0 : ByteArray) (a1 : Int) (a2 : Int) (r : Bool) (w : World) (h : selvagelaw01_IntsDo.f k a0 a1 a2 = some r) :
    Calls Try.prog 3 #[.string a0, .int .i64 a1, .int .i64 a2] w fun e w' => e = .returned (.bool r) ∧ Below w.heap.size w w' := by
  have HB := Aside0.mk (Below.refl w.heap.size w)
  have H : ((ints_Do.f k a0 a1 a2).bind fun bt129 => ((selvageref01_Do.f k a0 a1 a2).bind fun bt131 => (if bt129.1 = bt131.1 then (if bt129.2 = bt131.2 then ((selvagelaw01_lives.f k).bind fun t133 => (some t133)) else (some false)) else (some false)))) = some r := h
  clear h
  replace H := Option.bind_eq_some_iff.mp H
  obtain ⟨⟨t129, t130⟩, A40, H⟩ := H
  replace H : ((selvageref01_Do.f k a0 a1 a2).bind fun bt131 => (if t129 = bt131.1 then (if t130 = bt131.2 then ((selvagelaw01_lives.f k).bind fun t133 => (some t133)) else (some false)) else (some false))) = some r := H
  have A4 := Aside0.mk A40
  clear A40
  replace H := Option.bind_eq_some_iff.mp H
  obtain ⟨⟨t131, t132⟩, A50, H⟩ := H
  replace H : (if t129 = t131 then (if t130 = t132 then ((selvagelaw01_lives.f k).bind fun t133 => (some t133)) else (some false)) else (some false)) = some r := H
  have A5 := Aside0.mk A50
  clear A50
  by_cases c6 : t129 = t131
  · rw [if_pos c6] at H
    have c6b0 : (t129 == t131) = true := beq_iff_eq.mpr c6
    have c6b1 : (t129 != t131) = false := bne_eq_false_iff_eq.mpr c6
    clear c6
    by_cases c7 : t130 = t132
    · rw [if_pos c7] at H
      have c7b0 : (t130 == t132) = true := beq_iff_eq.mpr c7
      have c7b1 : (t130 != t132) = false := bne_eq_false_iff_eq.mpr c7
      clear c7
      replace H := Option.bind_eq_some_iff.mp H
      obtain ⟨t133, A80, H⟩ := H
      replace H : (some t133) = some r := H
      have A8 := Aside0.mk A80
      clear A80
      obtain rfl := Option.some.inj H
      go_enter Try.func3, Try.ntmps3
      go_wp2_with (first | ((with_reducible refine gate_callee (f := 13) rfl ?_); refine goesL_ (some 15) rfl rfl Try.func13 (by kernel_rfl) rfl #[.string a0, .int .i64 a1, .int .i64 a2] rfl (by (try simp only [List.map_toArray, List.map_cons, List.map_nil]); first | done | rfl | (simp only [List.length_drop, List.length_take]; rfl)) ?_; (with_reducible refine (ints_Do.calls k a0 a1 a2 t129 t130 _ A4.out).mono ?_); rintro e w' ⟨rfl, ⟨nd, rfl⟩⟩; refine ⟨_, rfl, ?_⟩) | ((with_reducible refine gate_callee (f := 14) rfl ?_); refine goesL_ (some 22) rfl rfl Try.func14 (by kernel_rfl) rfl #[.string a0, .int .i64 a1, .int .i64 a2] rfl (by (try simp only [List.map_toArray, List.map_cons, List.map_nil]); first | done | rfl | (simp only [List.length_drop, List.length_take]; rfl)) ?_; (with_reducible refine (selvageref01_Do.calls k a0 a1 a2 t131 t132 _ A5.out).mono ?_); rintro e w' ⟨rfl, ⟨nd, rfl⟩⟩; refine ⟨_, rfl, ?_⟩) | (go_at_call 15; (with_reducible refine (selvagelaw01_lives.calls k  t133 _ A8.out).mono ?_); rintro e w9 ⟨rfl, hb⟩; have n0_ := Aside0.mk (below_step (by repeat (first | (with_reducible first | exact HB.out | apply below_alloc | apply pw_below_drewN | apply below_drew1) | exact HB.out)) hb); clear HB; have HB := n0_; clear n0_; (try clear hb); (try clear hb2); (try clear hk); (try clear hi)))
      go_ret
      exact ⟨by first | rfl | (simp [errW_none, errW_some] <;> rfl) | (simp [*, errW_none, errW_some] <;> rfl), by repeat (first | (with_reducible first | exact HB.out | apply below_alloc | apply pw_below_drewN | apply below_drew1) | exact HB.out)⟩
    · rw [if_neg c7] at H
      have c7b0 : (t130 == t132) = false := beq_eq_false_iff_ne.mpr c7
      have c7b1 : (t130 != t132) = true := bne_iff_ne.mpr c7
      obtain rfl := Option.some.inj H
      go_enter Try.func3, Try.ntmps3
      go_wp2_with (first | ((with_reducible refine gate_callee (f := 13) rfl ?_); refine goesL_ (some 15) rfl rfl Try.func13 (by kernel_rfl) rfl #[.string a0, .int .i64 a1, .int .i64 a2] rfl (by (try simp only [List.map_toArray, List.map_cons, List.map_nil]); first | done | rfl | (simp only [List.length_drop, List.length_take]; rfl)) ?_; (with_reducible refine (ints_Do.calls k a0 a1 a2 t129 t130 _ A4.out).mono ?_); rintro e w' ⟨rfl, ⟨nd, rfl⟩⟩; refine ⟨_, rfl, ?_⟩) | ((with_reducible refine gate_callee (f := 14) rfl ?_); refine goesL_ (some 22) rfl rfl Try.func14 (by kernel_rfl) rfl #[.string a0, .int .i64 a1, .int .i64 a2] rfl (by (try simp only [List.map_toArray, List.map_cons, List.map_nil]); first | done | rfl | (simp only [List.length_drop, List.length_take]; rfl)) ?_; (with_reducible refine (selvageref01_Do.calls k a0 a1 a2 t131 t132 _ A5.out).mono ?_); rintro e w' ⟨rfl, ⟨nd, rfl⟩⟩; refine ⟨_, rfl, ?_⟩))
      go_ret
      exact ⟨by first | rfl | (simp [errW_none, errW_some] <;> rfl) | (simp [*, errW_none, errW_some] <;> rfl), by repeat (first | (with_reducible first | exact HB.out | apply below_alloc | apply pw_below_drewN | apply below_drew1) | exact HB.out)⟩
  · rw [if_neg c6] at H
    have c6b0 : (t129 == t131) = false := beq_eq_false_iff_ne.mpr c6
    have c6b1 : (t129 != t131) = true := bne_iff_ne.mpr c6
    obtain rfl := Option.some.inj H
    go_enter Try.func3, Try.ntmps3
    go_wp2_with (first | ((with_reducible refine gate_callee (f := 13) rfl ?_); refine goesL_ (some 15) rfl rfl Try.func13 (by kernel_rfl) rfl #[.string a0, .int .i64 a1, .int .i64 a2] rfl (by (try simp only [List.map_toArray, List.map_cons, List.map_nil]); first | done | rfl | (simp only [List.length_drop, List.length_take]; rfl)) ?_; (with_reducible refine (ints_Do.calls k a0 a1 a2 t129 t130 _ A4.out).mono ?_); rintro e w' ⟨rfl, ⟨nd, rfl⟩⟩; refine ⟨_, rfl, ?_⟩) | ((with_reducible refine gate_callee (f := 14) rfl ?_); refine goesL_ (some 22) rfl rfl Try.func14 (by kernel_rfl) rfl #[.string a0, .int .i64 a1, .int .i64 a2] rfl (by (try simp only [List.map_toArray, List.map_cons, List.map_nil]); first | done | rfl | (simp only [List.length_drop, List.length_take]; rfl)) ?_; (with_reducible refine (selvageref01_Do.calls k a0 a1 a2 t131 t132 _ A5.out).mono ?_); rintro e w' ⟨rfl, ⟨nd, rfl⟩⟩; refine ⟨_, rfl, ?_⟩))
    go_ret
    exact ⟨by first | rfl | (simp [errW_none, errW_some] <;> rfl) | (simp [*, errW_none, errW_some] <;> rfl), by repeat (first | (with_reducible first | exact HB.out | apply below_alloc | apply pw_below_drewN | apply below_drew1) | exact HB.out)⟩

/-- THE ONE PURE STATEMENT of selvagelaw01_IntsDo: yours. -/
def selvagelaw01_IntsDo.Pure : Prop := ∀ (a0 : ByteArray) (a1 : Int) (a2 : Int), a0.size ≤ 140737488351232 → (Lit.int .i64 a1).wf = true → (Lit.int .i64 a2).wf = true → ∃ k, selvagelaw01_IntsDo.f k a0 a1 a2 = some true
theorem selvagelaw01_IntsDo.walk (P : selvagelaw01_IntsDo.Pure) (a0 : ByteArray) (a1 : Int) (a2 : Int) (w : World) (w0 : a0.size ≤ 140737488351232) (w1 : (Lit.int .i64 a1).wf = true) (w2 : (Lit.int .i64 a2).wf = true) :
    Calls Try.prog 3 #[.string a0, .int .i64 a1, .int .i64 a2] w fun e w' => e = .returned (.bool true) ∧ Below w.heap.size w w' := by
  obtain ⟨k, h⟩ := P a0 a1 a2 w0 w1 w2
  refine (selvagelaw01_IntsDo.calls k a0 a1 a2 true w h).mono ?_
  rintro e w' ⟨rfl, hd⟩
  exact ⟨rfl, hd⟩

end Go.Proofs.Ytdbolkckbgacoaa.Print
