/- Contracts of the program's functions, each with a plain function of the same answers; written by a program of this session over the kit's print.py, with hand-written parts; no condition but the bounds that each theorem states. -/
import Derived.Test.YtkmoneccehbncaaPrint0
namespace Go.Proofs.Ytkmoneccehbncaa.Print
open Go.RowKit Go.Proofs.YtkmoneccehbncaaW.PrintWords Go.Proofs.YtkmoneccehbncaaW.PrintLast Go.Proofs.YtkmoneccehbncaaW.PrintMore
attribute [local go_sem] max2_int min2_int max_two min_two max_three min_three max_four min_four   -- for this text's walks alone
set_option linter.unusedVariables false
set_option linter.unusedSimpArgs false

-- NOT PRINTED: function 34 (prims_signs)

/-! ### ints_Untag: function 35 -/
def ints_Untag.f (a0 : Int) : Option (Int × Bool) := if (Go.bits .and .i64 a0 1) = 0 then (some (0, false)) else (some (a0 / 2, true))
set_option maxHeartbeats 8000000 in
set_option maxRecDepth 100000 in
theorem ints_Untag.calls (a0 : Int) (r1 : Int) (r2 : Bool) (w : World) (h : ints_Untag.f a0 = some (r1, r2)) :
    Calls Try.prog 35 #[.int .i64 a0] w fun e w' => e = .returned (.tuple #[.int .i64 r1, .bool r2]) ∧ Drawn0 w w' := by
  have H : (if (Go.bits .and .i64 a0 1) = 0 then (some (0, false)) else (some (a0 / 2, true))) = some (r1, r2) := h
  clear h
  by_cases c2 : (Go.bits .and .i64 a0 1) = 0
  · rw [if_pos c2] at H
    have c2b0 : ((Go.bits .and .i64 a0 1) == 0) = true := beq_iff_eq.mpr c2
    have c2b1 : ((Go.bits .and .i64 a0 1) != 0) = false := bne_eq_false_iff_eq.mpr c2
    clear c2
    simp only [Option.some.injEq, Prod.mk.injEq] at H
    obtain ⟨rfl, rfl⟩ := H
    go_enter Try.func35, Try.ntmps35
    go_wp2
    go_ret2
    exact ⟨by first | rfl | (simp; done) | (simp [*]; done), by repeat (first | exact Drawn0.refl _ | apply Drawn0.step)⟩
  · rw [if_neg c2] at H
    have c2b0 : ((Go.bits .and .i64 a0 1) == 0) = false := beq_eq_false_iff_ne.mpr c2
    have c2b1 : ((Go.bits .and .i64 a0 1) != 0) = true := bne_iff_ne.mpr c2
    simp only [Option.some.injEq, Prod.mk.injEq] at H
    obtain ⟨rfl, rfl⟩ := H
    go_enter Try.func35, Try.ntmps35
    go_wp2
    go_ret2
    exact ⟨by first | rfl | (simp; done) | (simp [*]; done), by repeat (first | exact Drawn0.refl _ | apply Drawn0.step)⟩

/-! ### ints_is: function 67 -/
def ints_is.f (a0 : Int) : Option (Bool) := if a0 ≥ (-4611686018427387904) then (some (decide (a0 ≤ 4611686018427387903))) else (some false)
set_option maxHeartbeats 8000000 in
set_option maxRecDepth 100000 in
theorem ints_is.calls (a0 : Int) (r : Bool) (w : World) (h : ints_is.f a0 = some r) :
    Calls Try.prog 67 #[.int .i64 a0] w fun e w' => e = .returned (.bool r) ∧ Drawn0 w w' := by
  have H : (if a0 ≥ (-4611686018427387904) then (some (decide (a0 ≤ 4611686018427387903))) else (some false)) = some r := h
  clear h
  by_cases c2 : a0 ≥ (-4611686018427387904)
  · rw [if_pos c2] at H
    have c2b0 : decide ((-4611686018427387904) ≤ a0) = true := decide_eq_true c2
    clear c2
    obtain rfl := Option.some.inj H
    go_enter Try.func67, Try.ntmps67
    go_wp2
    go_ret
    exact ⟨by first | rfl | (simp; done) | (simp [*]; done), by repeat (first | exact Drawn0.refl _ | apply Drawn0.step)⟩
  · rw [if_neg c2] at H
    have c2b0 : decide ((-4611686018427387904) ≤ a0) = false := decide_eq_false c2
    clear c2
    obtain rfl := Option.some.inj H
    go_enter Try.func67, Try.ntmps67
    go_wp2
    go_ret
    exact ⟨by first | rfl | (simp; done) | (simp [*]; done), by repeat (first | exact Drawn0.refl _ | apply Drawn0.step)⟩

/-! ### ints_Wrap: function 68 -/
def ints_Wrap.f (a0 : Int) : Option (Int) := some ((wrap64 (a0 * 2)) / 2)
set_option maxHeartbeats 8000000 in
set_option maxRecDepth 100000 in
theorem ints_Wrap.calls (a0 : Int) (r : Int) (w : World) (h : ints_Wrap.f a0 = some r) :
    Calls Try.prog 68 #[.int .i64 a0] w fun e w' => e = .returned (.int .i64 r) ∧ Drawn0 w w' := by
  have H : (some ((wrap64 (a0 * 2)) / 2)) = some r := h
  clear h
  obtain rfl := Option.some.inj H
  go_enter Try.func68, Try.ntmps68
  go_wp2
  go_ret
  exact ⟨by first | rfl | (simp; done) | (simp [*]; done), by repeat (first | exact Drawn0.refl _ | apply Drawn0.step)⟩

/-! ### ints_truth: function 69 -/
def ints_truth.f (a0 : Bool) : Option (Int) := if a0 = true then (some 1) else (some 0)
set_option maxHeartbeats 8000000 in
set_option maxRecDepth 100000 in
theorem ints_truth.calls (a0 : Bool) (r : Int) (w : World) (h : ints_truth.f a0 = some r) :
    Calls Try.prog 69 #[.bool a0] w fun e w' => e = .returned (.int .i64 r) ∧ Drawn0 w w' := by
  have H : (if a0 = true then (some 1) else (some 0)) = some r := h
  clear h
  by_cases c2 : a0 = true
  · subst c2
    have H1 : (some 1) = some r := by rw [if_pos rfl] at H; exact H
    clear H
    have H := H1
    clear H1
    obtain rfl := Option.some.inj H
    go_enter Try.func69, Try.ntmps69
    go_wp2
    go_ret
    exact ⟨by first | rfl | (simp; done) | (simp [*]; done), by repeat (first | exact Drawn0.refl _ | apply Drawn0.step)⟩
  · replace c2 := Bool.eq_false_iff.mpr c2
    subst c2
    have H1 : (some 0) = some r := by rw [if_neg (show ¬ (false = true) by decide)] at H; exact H
    clear H
    have H := H1
    clear H1
    obtain rfl := Option.some.inj H
    go_enter Try.func69, Try.ntmps69
    go_wp2
    go_ret
    exact ⟨by first | rfl | (simp; done) | (simp [*]; done), by repeat (first | exact Drawn0.refl _ | apply Drawn0.step)⟩

/-! ### ints_Do: function 36 -/
mutual
def ints_Do.j0 : Nat → ByteArray → Int → Int → Bool → Option (Int × Int)
  | 0, _, _, _, _ => none
  | k + 1, x0, x1, x2, x15 => if x15 = true then (some (0, 1)) else (if x0.toList = ([43] : List UInt8) then ((ints_Wrap.f (wrap64 (x1 + x2))).bind fun t103 => (some (t103, 0))) else (if x0.toList = ([45] : List UInt8) then ((ints_Wrap.f (wrap64 (x1 - x2))).bind fun t104 => (some (t104, 0))) else (if x0.toList = ([42] : List UInt8) then ((ints_Wrap.f (wrap64 (x1 * x2))).bind fun t108 => (some (t108, 0))) else (if x0.toList = ([47] : List UInt8) then (if x2 = 0 then (ints_Do.j1 k x1 x2) else ((ints_Wrap.f (wrap64 (Int.tdiv x1 x2))).bind fun t105 => (some (t105, 0)))) else (if x0.toList = ([37] : List UInt8) then (ints_Do.j1 k x1 x2) else (if x0.toList = ([61] : List UInt8) then ((ints_truth.f (x1 == x2)).bind fun t106 => (some (t106, 0))) else (if x0.toList = ([60] : List UInt8) then ((ints_truth.f (decide (x1 < x2))).bind fun t107 => (some (t107, 0))) else (some (0, 1)))))))))
def ints_Do.j1 : Nat → Int → Int → Option (Int × Int)
  | 0, _, _ => none
  | k + 1, x1, x2 => if x2 = 0 then (some (0, 3)) else (some (Int.tmod x1 x2, 0))
end
def ints_Do.f (k : Nat) (a0 : ByteArray) (a1 : Int) (a2 : Int) : Option (Int × Int) := (ints_is.f a1).bind fun t101 => (if t101 = true then ((ints_is.f a2).bind fun t102 => (ints_Do.j0 k a0 a1 a2 (!t102))) else (ints_Do.j0 k a0 a1 a2 true))
theorem ints_Do.mono_l : ∀ k, (∀ y0 y1 y2 y3, LeO (ints_Do.j0 k y0 y1 y2 y3) (ints_Do.j0 (k + 1) y0 y1 y2 y3)) ∧ (∀ y0 y1, LeO (ints_Do.j1 k y0 y1) (ints_Do.j1 (k + 1) y0 y1))
  | 0 => ⟨fun _ _ _ _ r h => by simp [ints_Do.j0] at h, fun _ _ r h => by simp [ints_Do.j1] at h⟩
  | k + 1 => by
    obtain ⟨ih0, ih1⟩ := ints_Do.mono_l k
    refine ⟨?_, ?_⟩
    · intro y0 y1 y2 y3
      unfold ints_Do.j0
      repeat' first
      | (with_reducible exact ih0 _ _ _ _)
      | (with_reducible exact ih1 _ _)
      | (with_reducible exact LeO.refl _)
      | (with_reducible exact LeO.none _)
      | (with_reducible refine LeO.ite ?_ ?_)
      | (with_reducible refine LeO.bind ?_ (fun _ => ?_))
      | exact ih0 _ _ _ _
      | exact ih1 _ _
      | exact LeO.none _
      | refine LeO.ite ?_ ?_
      | refine LeO.bind ?_ (fun _ => ?_)
    · intro y0 y1
      unfold ints_Do.j1
      repeat' first
      | (with_reducible exact ih0 _ _ _ _)
      | (with_reducible exact ih1 _ _)
      | (with_reducible exact LeO.refl _)
      | (with_reducible exact LeO.none _)
      | (with_reducible refine LeO.ite ?_ ?_)
      | (with_reducible refine LeO.bind ?_ (fun _ => ?_))
      | exact ih0 _ _ _ _
      | exact ih1 _ _
      | exact LeO.none _
      | refine LeO.ite ?_ ?_
      | refine LeO.bind ?_ (fun _ => ?_)
theorem ints_Do.mono : ∀ a0 a1 a2 k, LeO (ints_Do.f k a0 a1 a2) (ints_Do.f (k + 1) a0 a1 a2) := by
  intro a0 a1 a2 k
  obtain ⟨ih0, ih1⟩ := ints_Do.mono_l k
  unfold ints_Do.f
  repeat' first
      | (with_reducible exact ih0 _ _ _ _)
      | (with_reducible exact ih1 _ _)
      | (with_reducible exact LeO.refl _)
      | (with_reducible exact LeO.none _)
      | (with_reducible refine LeO.ite ?_ ?_)
      | (with_reducible refine LeO.bind ?_ (fun _ => ?_))
      | exact ih0 _ _ _ _
      | exact ih1 _ _
      | exact LeO.none _
      | refine LeO.ite ?_ ?_
      | refine LeO.bind ?_ (fun _ => ?_)
set_option maxHeartbeats 8000000 in
set_option maxRecDepth 100000 in
theorem ints_Do.calls (k : Nat) (a0 : ByteArray) (a1 : Int) (a2 : Int) (r1 : Int) (r2 : Int) (w : World) (h : ints_Do.f k a0 a1 a2 = some (r1, r2)) :
    Calls Try.prog 36 #[.string a0, .int .i64 a1, .int .i64 a2] w fun e w' => e = .returned (.tuple #[.int .i64 r1, .int .i64 r2]) ∧ Drawn0 w w' := by
  have H : ((ints_is.f a1).bind fun t101 => (if t101 = true then ((ints_is.f a2).bind fun t102 => (ints_Do.j0 k a0 a1 a2 (!t102))) else (ints_Do.j0 k a0 a1 a2 true))) = some (r1, r2) := h
  clear h
  have HC4 := Aside0.mk H
  clear H
  go_enter Try.func36, Try.ntmps36
  go_upto_region 1 with (fail)
  go_cut [15] (fun v15 wc => ∃ (kq : Nat) (x15_3 : Bool), v15 = .bool x15_3 ∧ Aside0 (ints_Do.j0 kq a0 a1 a2 x15_3 = some (r1, r2)) ∧ Aside0 (kq ≤ k) ∧ Drawn0 w wc)
  case first =>
    have H := HC4.out
    clear HC4
    replace H := Option.bind_eq_some_iff.mp H
    obtain ⟨t101, A50, H⟩ := H
    replace H : (if t101 = true then ((ints_is.f a2).bind fun t102 => (ints_Do.j0 k a0 a1 a2 (!t102))) else (ints_Do.j0 k a0 a1 a2 true)) = some (r1, r2) := H
    have A5 := Aside0.mk A50
    clear A50
    by_cases c6 : t101 = true
    · subst c6
      have H1 : ((ints_is.f a2).bind fun t102 => (ints_Do.j0 k a0 a1 a2 (!t102))) = some (r1, r2) := by rw [if_pos rfl] at H; exact H
      clear H
      have H := H1
      clear H1
      replace H := Option.bind_eq_some_iff.mp H
      obtain ⟨t102, A70, H⟩ := H
      replace H : (ints_Do.j0 k a0 a1 a2 (!t102)) = some (r1, r2) := H
      have A7 := Aside0.mk A70
      clear A70
      have H' := Aside0.mk H
      clear H
      go_wp2_with (first | ((with_reducible refine gate_callee (f := 67) rfl ?_); refine goesL_ (some 9) rfl rfl Try.func67 (by kernel_rfl) rfl #[.int .i64 a1] rfl (by (try simp only [List.map_toArray, List.map_cons, List.map_nil]); first | done | rfl | (simp only [List.length_drop, List.length_take]; rfl)) ?_; (with_reducible refine (ints_is.calls a1 true _ A5.out).mono ?_); rintro e w' ⟨rfl, ⟨nd, rfl⟩⟩; refine ⟨_, rfl, ?_⟩) | (go_at_call 67; (with_reducible refine (ints_is.calls a2 t102 _ A7.out).mono ?_); rintro e w' ⟨rfl, ⟨nd, rfl⟩⟩))
      go_meet
      case rel => exact ⟨_, (!t102), (by first | rfl | (simp; done) | (simp [*]; done)), H', ⟨by first | omega | exact Nat.le_refl _⟩, by repeat (first | exact Drawn0.refl _ | apply Drawn0.step)⟩
    · replace c6 := Bool.eq_false_iff.mpr c6
      subst c6
      have H1 : (ints_Do.j0 k a0 a1 a2 true) = some (r1, r2) := by rw [if_neg (show ¬ (false = true) by decide)] at H; exact H
      clear H
      have H := H1
      clear H1
      have H' := Aside0.mk H
      clear H
      go_wp2_with (first | ((with_reducible refine gate_callee (f := 67) rfl ?_); refine goesL_ (some 9) rfl rfl Try.func67 (by kernel_rfl) rfl #[.int .i64 a1] rfl (by (try simp only [List.map_toArray, List.map_cons, List.map_nil]); first | done | rfl | (simp only [List.length_drop, List.length_take]; rfl)) ?_; (with_reducible refine (ints_is.calls a1 false _ A5.out).mono ?_); rintro e w' ⟨rfl, ⟨nd, rfl⟩⟩; refine ⟨_, rfl, ?_⟩))
      go_meet
      case rel => exact ⟨_, (true), (by first | rfl | (simp; done) | (simp [*]; done)), H', ⟨by first | omega | exact Nat.le_refl _⟩, by repeat (first | exact Drawn0.refl _ | apply Drawn0.step)⟩
  case rest =>
    clear HC4
    try clear p2
    try clear c3
    try clear c6
    obtain ⟨kq, x15_3, rfl, HA, HJ3, ⟨mc3, rfl⟩⟩ := hcut
    cases kq with
    | zero => exact absurd HA.out (by simp [ints_Do.j0])
    | succ kj3 =>
      have H := HA.out
      clear HA
      simp only [ints_Do.j0] at H
      by_cases c8 : x15_3 = true
      · subst c8
        have H1 : (some (0, 1)) = some (r1, r2) := by rw [if_pos rfl] at H; exact H
        clear H
        have H := H1
        clear H1
        simp only [Option.some.injEq, Prod.mk.injEq] at H
        obtain ⟨rfl, rfl⟩ := H
        go_wp2
        go_ret2
        exact ⟨by first | rfl | (simp; done) | (simp [*]; done), by repeat (first | exact Drawn0.refl _ | apply Drawn0.step)⟩
      · replace c8 := Bool.eq_false_iff.mpr c8
        subst c8
        have H1 : (if a0.toList = ([43] : List UInt8) then ((ints_Wrap.f (wrap64 (a1 + a2))).bind fun t103 => (some (t103, 0))) else (if a0.toList = ([45] : List UInt8) then ((ints_Wrap.f (wrap64 (a1 - a2))).bind fun t104 => (some (t104, 0))) else (if a0.toList = ([42] : List UInt8) then ((ints_Wrap.f (wrap64 (a1 * a2))).bind fun t108 => (some (t108, 0))) else (if a0.toList = ([47] : List UInt8) then (if a2 = 0 then (ints_Do.j1 kj3 a1 a2) else ((ints_Wrap.f (wrap64 (Int.tdiv a1 a2))).bind fun t105 => (some (t105, 0)))) else (if a0.toList = ([37] : List UInt8) then (ints_Do.j1 kj3 a1 a2) else (if a0.toList = ([61] : List UInt8) then ((ints_truth.f (a1 == a2)).bind fun t106 => (some (t106, 0))) else (if a0.toList = ([60] : List UInt8) then ((ints_truth.f (decide (a1 < a2))).bind fun t107 => (some (t107, 0))) else (some (0, 1))))))))) = some (r1, r2) := by rw [if_neg (show ¬ (false = true) by decide)] at H; exact H
        clear H
        have H := H1
        clear H1
        have HC9 := Aside0.mk H
        clear H
        go_upto_block 5 with (fail)
        go_cut [] (fun wc => ∃ (kq : Nat), Aside0 (ints_Do.j1 kq a1 a2 = some (r1, r2)) ∧ Aside0 (kq ≤ kj3) ∧ Drawn0 w wc)
        case first =>
          have H := HC9.out
          clear HC9
          by_cases c10 : a0.toList = ([43] : List UInt8)
          · rw [if_pos c10] at H
            have c10b0 : (a0.toList == ([43] : List UInt8)) = true := beq_iff_eq.mpr c10
            have c10b1 : (a0.toList != ([43] : List UInt8)) = false := bne_eq_false_iff_eq.mpr c10
            clear c10
            (first | rw [c10b0] | (simp only [i64_w, i32_w]; rw [c10b0]) | skip)
            replace H := Option.bind_eq_some_iff.mp H
            obtain ⟨t103, A110, H⟩ := H
            replace H : (some (t103, 0)) = some (r1, r2) := H
            have A11 := Aside0.mk A110
            clear A110
            simp only [Option.some.injEq, Prod.mk.injEq] at H
            obtain ⟨rfl, rfl⟩ := H
            go_wp2_with (first | ((with_reducible refine gate_callee (f := 68) rfl ?_); refine goesL_ (some 34) rfl rfl Try.func68 (by kernel_rfl) rfl #[.int .i64 (wrap64 (a1 + a2))] rfl (by (try simp only [List.map_toArray, List.map_cons, List.map_nil]); first | done | rfl | (simp only [List.length_drop, List.length_take]; rfl)) ?_; (with_reducible refine (ints_Wrap.calls (wrap64 (a1 + a2)) t103 _ A11.out).mono ?_); rintro e w' ⟨rfl, ⟨nd, rfl⟩⟩; refine ⟨_, rfl, ?_⟩))
            go_ret2
            exact ⟨by first | rfl | (simp; done) | (simp [*]; done), by repeat (first | exact Drawn0.refl _ | apply Drawn0.step)⟩
          · rw [if_neg c10] at H
            have c10b0 : (a0.toList == ([43] : List UInt8)) = false := beq_eq_false_iff_ne.mpr c10
            have c10b1 : (a0.toList != ([43] : List UInt8)) = true := bne_iff_ne.mpr c10
            (first | rw [c10b0] | (simp only [i64_w, i32_w]; rw [c10b0]) | skip)
            by_cases c12 : a0.toList = ([45] : List UInt8)
            · rw [if_pos c12] at H
              have c12b0 : (a0.toList == ([45] : List UInt8)) = true := beq_iff_eq.mpr c12
              have c12b1 : (a0.toList != ([45] : List UInt8)) = false := bne_eq_false_iff_eq.mpr c12
              clear c12
              replace H := Option.bind_eq_some_iff.mp H
              obtain ⟨t104, A130, H⟩ := H
              replace H : (some (t104, 0)) = some (r1, r2) := H
              have A13 := Aside0.mk A130
              clear A130
              simp only [Option.some.injEq, Prod.mk.injEq] at H
              obtain ⟨rfl, rfl⟩ := H
              go_wp2_with (first | ((with_reducible refine gate_callee (f := 68) rfl ?_); refine goesL_ (some 38) rfl rfl Try.func68 (by kernel_rfl) rfl #[.int .i64 (wrap64 (a1 - a2))] rfl (by (try simp only [List.map_toArray, List.map_cons, List.map_nil]); first | done | rfl | (simp only [List.length_drop, List.length_take]; rfl)) ?_; (with_reducible refine (ints_Wrap.calls (wrap64 (a1 - a2)) t104 _ A13.out).mono ?_); rintro e w' ⟨rfl, ⟨nd, rfl⟩⟩; refine ⟨_, rfl, ?_⟩))
              go_ret2
              exact ⟨by first | rfl | (simp; done) | (simp [*]; done), by repeat (first | exact Drawn0.refl _ | apply Drawn0.step)⟩
            · rw [if_neg c12] at H
              have c12b0 : (a0.toList == ([45] : List UInt8)) = false := beq_eq_false_iff_ne.mpr c12
              have c12b1 : (a0.toList != ([45] : List UInt8)) = true := bne_iff_ne.mpr c12
              by_cases c14 : a0.toList = ([42] : List UInt8)
              · rw [if_pos c14] at H
                have c14b0 : (a0.toList == ([42] : List UInt8)) = true := beq_iff_eq.mpr c14
                have c14b1 : (a0.toList != ([42] : List UInt8)) = false := bne_eq_false_iff_eq.mpr c14
                clear c14
                replace H := Option.bind_eq_some_iff.mp H
                obtain ⟨t108, A150, H⟩ := H
                replace H : (some (t108, 0)) = some (r1, r2) := H
                have A15 := Aside0.mk A150
                clear A150
                simp only [Option.some.injEq, Prod.mk.injEq] at H
                obtain ⟨rfl, rfl⟩ := H
                go_wp2_with (first | ((with_reducible refine gate_callee (f := 68) rfl ?_); refine goesL_ (some 42) rfl rfl Try.func68 (by kernel_rfl) rfl #[.int .i64 (wrap64 (a1 * a2))] rfl (by (try simp only [List.map_toArray, List.map_cons, List.map_nil]); first | done | rfl | (simp only [List.length_drop, List.length_take]; rfl)) ?_; (with_reducible refine (ints_Wrap.calls (wrap64 (a1 * a2)) t108 _ A15.out).mono ?_); rintro e w' ⟨rfl, ⟨nd, rfl⟩⟩; refine ⟨_, rfl, ?_⟩))
                go_ret2
                exact ⟨by first | rfl | (simp; done) | (simp [*]; done), by repeat (first | exact Drawn0.refl _ | apply Drawn0.step)⟩
              · rw [if_neg c14] at H
                have c14b0 : (a0.toList == ([42] : List UInt8)) = false := beq_eq_false_iff_ne.mpr c14
                have c14b1 : (a0.toList != ([42] : List UInt8)) = true := bne_iff_ne.mpr c14
                by_cases c16 : a0.toList = ([47] : List UInt8)
                · rw [if_pos c16] at H
                  have c16b0 : (a0.toList == ([47] : List UInt8)) = true := beq_iff_eq.mpr c16
                  have c16b1 : (a0.toList != ([47] : List UInt8)) = false := bne_eq_false_iff_eq.mpr c16
                  clear c16
                  by_cases c17 : a2 = 0
                  · rw [if_pos c17] at H
                    have c17b0 : (a2 == 0) = true := beq_iff_eq.mpr c17
                    have c17b1 : (a2 != 0) = false := bne_eq_false_iff_eq.mpr c17
                    clear c17
                    have H' := Aside0.mk H
                    clear H
                    go_wp2
                    go_meet
                    case rel => exact ⟨_, H', ⟨by have := HJ3.out; first | omega | exact Nat.le_refl _⟩, by repeat (first | exact Drawn0.refl _ | apply Drawn0.step)⟩
                  · rw [if_neg c17] at H
                    have c17b0 : (a2 == 0) = false := beq_eq_false_iff_ne.mpr c17
                    have c17b1 : (a2 != 0) = true := bne_iff_ne.mpr c17
                    replace H := Option.bind_eq_some_iff.mp H
                    obtain ⟨t105, A180, H⟩ := H
                    replace H : (some (t105, 0)) = some (r1, r2) := H
                    have A18 := Aside0.mk A180
                    clear A180
                    simp only [Option.some.injEq, Prod.mk.injEq] at H
                    obtain ⟨rfl, rfl⟩ := H
                    go_wp2_with (first | ((with_reducible refine gate_callee (f := 68) rfl ?_); refine goesL_ (some 48) rfl rfl Try.func68 (by kernel_rfl) rfl #[.int .i64 (wrap64 (Int.tdiv a1 a2))] rfl (by (try simp only [List.map_toArray, List.map_cons, List.map_nil]); first | done | rfl | (simp only [List.length_drop, List.length_take]; rfl)) ?_; (with_reducible refine (ints_Wrap.calls (wrap64 (Int.tdiv a1 a2)) t105 _ A18.out).mono ?_); rintro e w' ⟨rfl, ⟨nd, rfl⟩⟩; refine ⟨_, rfl, ?_⟩))
                    go_ret2
                    exact ⟨by first | rfl | (simp; done) | (simp [*]; done), by repeat (first | exact Drawn0.refl _ | apply Drawn0.step)⟩
                · rw [if_neg c16] at H
                  have c16b0 : (a0.toList == ([47] : List UInt8)) = false := beq_eq_false_iff_ne.mpr c16
                  have c16b1 : (a0.toList != ([47] : List UInt8)) = true := bne_iff_ne.mpr c16
                  by_cases c19 : a0.toList = ([37] : List UInt8)
                  · rw [if_pos c19] at H
                    have c19b0 : (a0.toList == ([37] : List UInt8)) = true := beq_iff_eq.mpr c19
                    have c19b1 : (a0.toList != ([37] : List UInt8)) = false := bne_eq_false_iff_eq.mpr c19
                    clear c19
                    have H' := Aside0.mk H
                    clear H
                    go_wp2
                    go_meet
                    case rel => exact ⟨_, H', ⟨by have := HJ3.out; first | omega | exact Nat.le_refl _⟩, by repeat (first | exact Drawn0.refl _ | apply Drawn0.step)⟩
                  · rw [if_neg c19] at H
                    have c19b0 : (a0.toList == ([37] : List UInt8)) = false := beq_eq_false_iff_ne.mpr c19
                    have c19b1 : (a0.toList != ([37] : List UInt8)) = true := bne_iff_ne.mpr c19
                    by_cases c20 : a0.toList = ([61] : List UInt8)
                    · rw [if_pos c20] at H
                      have c20b0 : (a0.toList == ([61] : List UInt8)) = true := beq_iff_eq.mpr c20
                      have c20b1 : (a0.toList != ([61] : List UInt8)) = false := bne_eq_false_iff_eq.mpr c20
                      clear c20
                      replace H := Option.bind_eq_some_iff.mp H
                      obtain ⟨t106, A210, H⟩ := H
                      replace H : (some (t106, 0)) = some (r1, r2) := H
                      have A21 := Aside0.mk A210
                      clear A210
                      simp only [Option.some.injEq, Prod.mk.injEq] at H
                      obtain ⟨rfl, rfl⟩ := H
                      go_wp2_with (first | ((with_reducible refine gate_callee (f := 69) rfl ?_); refine goesL_ (some 57) rfl rfl Try.func69 (by kernel_rfl) rfl #[.bool (a1 == a2)] rfl (by (try simp only [List.map_toArray, List.map_cons, List.map_nil]); first | done | rfl | (simp only [List.length_drop, List.length_take]; rfl)) ?_; (with_reducible refine (ints_truth.calls (a1 == a2) t106 _ A21.out).mono ?_); rintro e w' ⟨rfl, ⟨nd, rfl⟩⟩; refine ⟨_, rfl, ?_⟩))
                      go_ret2
                      exact ⟨by first | rfl | (simp; done) | (simp [*]; done), by repeat (first | exact Drawn0.refl _ | apply Drawn0.step)⟩
                    · rw [if_neg c20] at H
                      have c20b0 : (a0.toList == ([61] : List UInt8)) = false := beq_eq_false_iff_ne.mpr c20
                      have c20b1 : (a0.toList != ([61] : List UInt8)) = true := bne_iff_ne.mpr c20
                      by_cases c22 : a0.toList = ([60] : List UInt8)
                      · rw [if_pos c22] at H
                        have c22b0 : (a0.toList == ([60] : List UInt8)) = true := beq_iff_eq.mpr c22
                        have c22b1 : (a0.toList != ([60] : List UInt8)) = false := bne_eq_false_iff_eq.mpr c22
                        clear c22
                        replace H := Option.bind_eq_some_iff.mp H
                        obtain ⟨t107, A230, H⟩ := H
                        replace H : (some (t107, 0)) = some (r1, r2) := H
                        have A23 := Aside0.mk A230
                        clear A230
                        simp only [Option.some.injEq, Prod.mk.injEq] at H
                        obtain ⟨rfl, rfl⟩ := H
                        go_wp2_with (first | ((with_reducible refine gate_callee (f := 69) rfl ?_); refine goesL_ (some 61) rfl rfl Try.func69 (by kernel_rfl) rfl #[.bool (decide (a1 < a2))] rfl (by (try simp only [List.map_toArray, List.map_cons, List.map_nil]); first | done | rfl | (simp only [List.length_drop, List.length_take]; rfl)) ?_; (with_reducible refine (ints_truth.calls (decide (a1 < a2)) t107 _ A23.out).mono ?_); rintro e w' ⟨rfl, ⟨nd, rfl⟩⟩; refine ⟨_, rfl, ?_⟩))
                        go_ret2
                        exact ⟨by first | rfl | (simp; done) | (simp [*]; done), by repeat (first | exact Drawn0.refl _ | apply Drawn0.step)⟩
                      · rw [if_neg c22] at H
                        have c22b0 : (a0.toList == ([60] : List UInt8)) = false := beq_eq_false_iff_ne.mpr c22
                        have c22b1 : (a0.toList != ([60] : List UInt8)) = true := bne_iff_ne.mpr c22
                        simp only [Option.some.injEq, Prod.mk.injEq] at H
                        obtain ⟨rfl, rfl⟩ := H
                        go_wp2
                        go_ret2
                        exact ⟨by first | rfl | (simp; done) | (simp [*]; done), by repeat (first | exact Drawn0.refl _ | apply Drawn0.step)⟩
        case rest =>
          clear HC9
          try clear c1
          try clear c2
          try clear p2
          try clear c3
          try clear c6
          try clear p6
          try clear c8
          try clear c10
          try clear c10b0
          try clear c10b1
          try clear c12
          try clear c12b0
          try clear c12b1
          try clear c14
          try clear c14b0
          try clear c14b1
          try clear c16
          try clear c16b0
          try clear c16b1
          try clear c17
          try clear c17b0
          try clear c17b1
          try clear c19
          try clear c19b0
          try clear c19b1
          try clear c20
          try clear c20b0
          try clear c20b1
          try clear c22
          try clear c22b0
          try clear c22b1
          try clear p2
          obtain ⟨kq, HA, HJ8, ⟨mc8, rfl⟩⟩ := hcut
          cases kq with
          | zero => exact absurd HA.out (by simp [ints_Do.j1])
          | succ kj8 =>
            have H := HA.out
            clear HA
            simp only [ints_Do.j1] at H
            by_cases c24 : a2 = 0
            · rw [if_pos c24] at H
              have c24b0 : (a2 == 0) = true := beq_iff_eq.mpr c24
              have c24b1 : (a2 != 0) = false := bne_eq_false_iff_eq.mpr c24
              clear c24
              simp only [Option.some.injEq, Prod.mk.injEq] at H
              obtain ⟨rfl, rfl⟩ := H
              go_wp2
              go_ret2
              exact ⟨by first | rfl | (simp; done) | (simp [*]; done), by repeat (first | exact Drawn0.refl _ | apply Drawn0.step)⟩
            · rw [if_neg c24] at H
              have c24b0 : (a2 == 0) = false := beq_eq_false_iff_ne.mpr c24
              have c24b1 : (a2 != 0) = true := bne_iff_ne.mpr c24
              simp only [Option.some.injEq, Prod.mk.injEq] at H
              obtain ⟨rfl, rfl⟩ := H
              go_wp2
              go_ret2
              exact ⟨by first | rfl | (simp; done) | (simp [*]; done), by repeat (first | exact Drawn0.refl _ | apply Drawn0.step)⟩

/-! ### ints_Tag: function 37 -/
def ints_Tag.f (a0 : Int) : Option (Int) := some (Go.bits .or .i64 (wrap64 (a0 * 2)) 1)
set_option maxHeartbeats 8000000 in
set_option maxRecDepth 100000 in
theorem ints_Tag.calls (a0 : Int) (r : Int) (w : World) (h : ints_Tag.f a0 = some r) :
    Calls Try.prog 37 #[.int .i64 a0] w fun e w' => e = .returned (.int .i64 r) ∧ Drawn0 w w' := by
  have H : (some (Go.bits .or .i64 (wrap64 (a0 * 2)) 1)) = some r := h
  clear h
  obtain rfl := Option.some.inj H
  go_enter Try.func37, Try.ntmps37
  go_wp2
  go_ret
  exact ⟨by first | rfl | (simp; done) | (simp [*]; done), by repeat (first | exact Drawn0.refl _ | apply Drawn0.step)⟩

-- NOT PRINTED: function 9 (prims_Sum)

/-! ### selvageref01_Wrap: function 12 -/
def selvageref01_Wrap.f (a0 : Int) : Option (Int) := if a0 > 4611686018427387903 then (some (wrap64 ((wrap64 (a0 - 4611686018427387904)) - 4611686018427387904))) else (if a0 < (-4611686018427387904) then (some (wrap64 ((wrap64 (a0 + 4611686018427387904)) + 4611686018427387904))) else (some a0))
set_option maxHeartbeats 8000000 in
set_option maxRecDepth 100000 in
theorem selvageref01_Wrap.calls (a0 : Int) (r : Int) (w : World) (h : selvageref01_Wrap.f a0 = some r) :
    Calls Try.prog 12 #[.int .i64 a0] w fun e w' => e = .returned (.int .i64 r) ∧ Drawn0 w w' := by
  have H : (if a0 > 4611686018427387903 then (some (wrap64 ((wrap64 (a0 - 4611686018427387904)) - 4611686018427387904))) else (if a0 < (-4611686018427387904) then (some (wrap64 ((wrap64 (a0 + 4611686018427387904)) + 4611686018427387904))) else (some a0))) = some r := h
  clear h
  by_cases c2 : a0 > 4611686018427387903
  · rw [if_pos c2] at H
    have c2b0 : decide (4611686018427387903 < a0) = true := decide_eq_true c2
    clear c2
    obtain rfl := Option.some.inj H
    go_enter Try.func12, Try.ntmps12
    go_wp2
    go_ret
    exact ⟨by first | rfl | (simp; done) | (simp [*]; done), by repeat (first | exact Drawn0.refl _ | apply Drawn0.step)⟩
  · rw [if_neg c2] at H
    have c2b0 : decide (4611686018427387903 < a0) = false := decide_eq_false c2
    clear c2
    by_cases c3 : a0 < (-4611686018427387904)
    · rw [if_pos c3] at H
      have c3b0 : decide (a0 < (-4611686018427387904)) = true := decide_eq_true c3
      clear c3
      obtain rfl := Option.some.inj H
      go_enter Try.func12, Try.ntmps12
      go_wp2
      go_ret
      exact ⟨by first | rfl | (simp; done) | (simp [*]; done), by repeat (first | exact Drawn0.refl _ | apply Drawn0.step)⟩
    · rw [if_neg c3] at H
      have c3b0 : decide (a0 < (-4611686018427387904)) = false := decide_eq_false c3
      clear c3
      obtain rfl := Option.some.inj H
      go_enter Try.func12, Try.ntmps12
      go_wp2
      go_ret
      exact ⟨by first | rfl | (simp; done) | (simp [*]; done), by repeat (first | exact Drawn0.refl _ | apply Drawn0.step)⟩

/-! ### selvageref01_Is: function 39 -/
def selvageref01_Is.f (a0 : Int) : Option (Bool) := if a0 ≥ (-4611686018427387904) then (some (decide (a0 ≤ 4611686018427387903))) else (some false)
set_option maxHeartbeats 8000000 in
set_option maxRecDepth 100000 in
theorem selvageref01_Is.calls (a0 : Int) (r : Bool) (w : World) (h : selvageref01_Is.f a0 = some r) :
    Calls Try.prog 39 #[.int .i64 a0] w fun e w' => e = .returned (.bool r) ∧ Drawn0 w w' := by
  have H : (if a0 ≥ (-4611686018427387904) then (some (decide (a0 ≤ 4611686018427387903))) else (some false)) = some r := h
  clear h
  by_cases c2 : a0 ≥ (-4611686018427387904)
  · rw [if_pos c2] at H
    have c2b0 : decide ((-4611686018427387904) ≤ a0) = true := decide_eq_true c2
    clear c2
    obtain rfl := Option.some.inj H
    go_enter Try.func39, Try.ntmps39
    go_wp2
    go_ret
    exact ⟨by first | rfl | (simp; done) | (simp [*]; done), by repeat (first | exact Drawn0.refl _ | apply Drawn0.step)⟩
  · rw [if_neg c2] at H
    have c2b0 : decide ((-4611686018427387904) ≤ a0) = false := decide_eq_false c2
    clear c2
    obtain rfl := Option.some.inj H
    go_enter Try.func39, Try.ntmps39
    go_wp2
    go_ret
    exact ⟨by first | rfl | (simp; done) | (simp [*]; done), by repeat (first | exact Drawn0.refl _ | apply Drawn0.step)⟩

/-! ### selvageref01_Add: function 40 -/
def selvageref01_Add.f (a0 : Int) (a1 : Int) : Option (Int) := (selvageref01_Wrap.f (wrap64 (a0 + a1))).bind fun t109 => (some t109)
set_option maxHeartbeats 8000000 in
set_option maxRecDepth 100000 in
theorem selvageref01_Add.calls (a0 : Int) (a1 : Int) (r : Int) (w : World) (h : selvageref01_Add.f a0 a1 = some r) :
    Calls Try.prog 40 #[.int .i64 a0, .int .i64 a1] w fun e w' => e = .returned (.int .i64 r) ∧ Drawn0 w w' := by
  have H : ((selvageref01_Wrap.f (wrap64 (a0 + a1))).bind fun t109 => (some t109)) = some r := h
  clear h
  replace H := Option.bind_eq_some_iff.mp H
  obtain ⟨t109, A30, H⟩ := H
  replace H : (some t109) = some r := H
  have A3 := Aside0.mk A30
  clear A30
  obtain rfl := Option.some.inj H
  go_enter Try.func40, Try.ntmps40
  go_wp2_with (first | ((with_reducible refine gate_callee (f := 12) rfl ?_); refine goesL_ (some 8) rfl rfl Try.func12 (by kernel_rfl) rfl #[.int .i64 (wrap64 (a0 + a1))] rfl (by (try simp only [List.map_toArray, List.map_cons, List.map_nil]); first | done | rfl | (simp only [List.length_drop, List.length_take]; rfl)) ?_; (with_reducible refine (selvageref01_Wrap.calls (wrap64 (a0 + a1)) t109 _ A3.out).mono ?_); rintro e w' ⟨rfl, ⟨nd, rfl⟩⟩; refine ⟨_, rfl, ?_⟩))
  go_ret
  exact ⟨by first | rfl | (simp; done) | (simp [*]; done), by repeat (first | exact Drawn0.refl _ | apply Drawn0.step)⟩

/-! ### selvageref01_Mul: function 41 -/
def selvageref01_Mul.l0 : Nat → Int → Int → Bool → Int → Int → Option (Int)
  | 0, _, _, _, _, _ => none
  | k + 1, x0, x1, x5, x6, x7 => if x7 < 63 then (if (Int.tmod x1 2) = 0 then ((selvageref01_Wrap.f (wrap64 (x0 + x0))).bind fun t111 => (selvageref01_Mul.l0 k t111 (wrap64 (Int.tdiv x1 2)) x5 x6 (wrap64 (x7 + 1)))) else ((selvageref01_Wrap.f (wrap64 (x6 + x0))).bind fun t112 => ((selvageref01_Wrap.f (wrap64 (x0 + x0))).bind fun t113 => (selvageref01_Mul.l0 k t113 (wrap64 (Int.tdiv x1 2)) x5 t112 (wrap64 (x7 + 1)))))) else (if x5 = true then ((selvageref01_Wrap.f (wrap64 (-x6))).bind fun t110 => (some t110)) else (some x6))
def selvageref01_Mul.f (k : Nat) (a0 : Int) (a1 : Int) : Option (Int) := selvageref01_Mul.l0 k a0 a1 (decide (a1 < 0)) 0 0
theorem selvageref01_Mul.mono_l : ∀ k, (∀ y0 y1 y2 y3 y4, LeO (selvageref01_Mul.l0 k y0 y1 y2 y3 y4) (selvageref01_Mul.l0 (k + 1) y0 y1 y2 y3 y4))
  | 0 => fun _ _ _ _ _ r h => by simp [selvageref01_Mul.l0] at h
  | k + 1 => by
    have ih0 := selvageref01_Mul.mono_l k
    · intro y0 y1 y2 y3 y4
      unfold selvageref01_Mul.l0
      repeat' first
      | (with_reducible exact ih0 _ _ _ _ _)
      | (with_reducible exact LeO.refl _)
      | (with_reducible exact LeO.none _)
      | (with_reducible refine LeO.ite ?_ ?_)
      | (with_reducible refine LeO.bind ?_ (fun _ => ?_))
      | exact ih0 _ _ _ _ _
      | exact LeO.none _
      | refine LeO.ite ?_ ?_
      | refine LeO.bind ?_ (fun _ => ?_)
theorem selvageref01_Mul.mono : ∀ a0 a1 k, LeO (selvageref01_Mul.f k a0 a1) (selvageref01_Mul.f (k + 1) a0 a1) := by
  intro a0 a1 k
  have ih0 := selvageref01_Mul.mono_l k
  unfold selvageref01_Mul.f
  repeat' first
      | (with_reducible exact ih0 _ _ _ _ _)
      | (with_reducible exact LeO.refl _)
      | (with_reducible exact LeO.none _)
      | (with_reducible refine LeO.ite ?_ ?_)
      | (with_reducible refine LeO.bind ?_ (fun _ => ?_))
      | exact ih0 _ _ _ _ _
      | exact LeO.none _
      | refine LeO.ite ?_ ?_
      | refine LeO.bind ?_ (fun _ => ?_)
set_option maxHeartbeats 8000000 in
set_option maxRecDepth 100000 in
theorem selvageref01_Mul.calls (k : Nat) (a0 : Int) (a1 : Int) (r : Int) (w : World) (h : selvageref01_Mul.f k a0 a1 = some r) :
    Calls Try.prog 41 #[.int .i64 a0, .int .i64 a1] w fun e w' => e = .returned (.int .i64 r) ∧ Drawn0 w w' := by
  have H : (selvageref01_Mul.l0 k a0 a1 (decide (a1 < 0)) 0 0) = some r := h
  clear h
  have H' := Aside0.mk H
  clear H
  go_enter Try.func41, Try.ntmps41
  go_wp2
  generalize decide (a1 < 0) = b5 at H' ⊢
  go_loopg [0, 1, 6, 7] k (fun kq v0 v1 v6 v7 w' => ∃ (x0_1 : Int) (x1_1 : Int) (x6_1 : Int) (x7_1 : Int), v0 = .int .i64 x0_1 ∧ v1 = .int .i64 x1_1 ∧ v6 = .int .i64 x6_1 ∧ v7 = .int .i64 x7_1 ∧ Aside0 (selvageref01_Mul.l0 kq x0_1 x1_1 b5 x6_1 x7_1 = some r) ∧ Aside0 (kq ≤ k) ∧ Drawn0 w w')
  case atStart => exact ⟨(a0), (a1), (0), (0), (by first | rfl | (simp; done) | (simp [*]; done)), (by first | rfl | (simp; done) | (simp [*]; done)), (by first | rfl | (simp; done) | (simp [*]; done)), (by first | rfl | (simp; done) | (simp [*]; done)), H', ⟨Nat.le_refl _⟩, by repeat (first | exact Drawn0.refl _ | apply Drawn0.step)⟩
  case round =>
    clear H'
    try clear p2
    obtain ⟨x0_1, x1_1, x6_1, x7_1, rfl, rfl, rfl, rfl, HA, HK1, ⟨m1, rfl⟩⟩ := hrel
    cases gk with
    | zero => exact absurd HA.out (by simp [selvageref01_Mul.l0])
    | succ k1 =>
      have H := HA.out
      clear HA
      simp only [selvageref01_Mul.l0] at H
      by_cases c3 : x7_1 < 63
      · rw [if_pos c3] at H
        have c3b0 : decide (x7_1 < 63) = true := decide_eq_true c3
        clear c3
        by_cases c4 : (Int.tmod x1_1 2) = 0
        · rw [if_pos c4] at H
          have c4b0 : ((Int.tmod x1_1 2) == 0) = true := beq_iff_eq.mpr c4
          have c4b1 : ((Int.tmod x1_1 2) != 0) = false := bne_eq_false_iff_eq.mpr c4
          clear c4
          replace H := Option.bind_eq_some_iff.mp H
          obtain ⟨t111, A50, H⟩ := H
          replace H : (selvageref01_Mul.l0 k1 t111 (wrap64 (Int.tdiv x1_1 2)) b5 x6_1 (wrap64 (x7_1 + 1))) = some r := H
          have A5 := Aside0.mk A50
          clear A50
          have H' := Aside0.mk H
          clear H
          go_wp2_with (first | ((with_reducible refine gate_callee (f := 12) rfl ?_); refine goesL_ (some 28) rfl rfl Try.func12 (by kernel_rfl) rfl #[.int .i64 (wrap64 (x0_1 + x0_1))] rfl (by (try simp only [List.map_toArray, List.map_cons, List.map_nil]); first | done | rfl | (simp only [List.length_drop, List.length_take]; rfl)) ?_; (with_reducible refine (selvageref01_Wrap.calls (wrap64 (x0_1 + x0_1)) t111 _ A5.out).mono ?_); rintro e w' ⟨rfl, ⟨nd, rfl⟩⟩; refine ⟨_, rfl, ?_⟩))
          go_roundg k1
          case measure => have := HK1.out; omega
          case rel => exact ⟨(t111), (wrap64 (Int.tdiv x1_1 2)), (x6_1), (wrap64 (x7_1 + 1)), (by first | rfl | (simp; done) | (simp [*]; done)), (by first | rfl | (simp; done) | (simp [*]; done)), (by first | rfl | (simp; done) | (simp [*]; done)), (by first | rfl | (simp; done) | (simp [*]; done)), H', ⟨by have := HK1.out; omega⟩, by repeat (first | exact Drawn0.refl _ | apply Drawn0.step)⟩
        · rw [if_neg c4] at H
          have c4b0 : ((Int.tmod x1_1 2) == 0) = false := beq_eq_false_iff_ne.mpr c4
          have c4b1 : ((Int.tmod x1_1 2) != 0) = true := bne_iff_ne.mpr c4
          replace H := Option.bind_eq_some_iff.mp H
          obtain ⟨t112, A60, H⟩ := H
          replace H : ((selvageref01_Wrap.f (wrap64 (x0_1 + x0_1))).bind fun t113 => (selvageref01_Mul.l0 k1 t113 (wrap64 (Int.tdiv x1_1 2)) b5 t112 (wrap64 (x7_1 + 1)))) = some r := H
          have A6 := Aside0.mk A60
          clear A60
          replace H := Option.bind_eq_some_iff.mp H
          obtain ⟨t113, A70, H⟩ := H
          replace H : (selvageref01_Mul.l0 k1 t113 (wrap64 (Int.tdiv x1_1 2)) b5 t112 (wrap64 (x7_1 + 1))) = some r := H
          have A7 := Aside0.mk A70
          clear A70
          have H' := Aside0.mk H
          clear H
          go_wp2_with (first | ((with_reducible refine gate_callee (f := 12) rfl ?_); refine goesL_ (some 24) rfl rfl Try.func12 (by kernel_rfl) rfl #[.int .i64 (wrap64 (x6_1 + x0_1))] rfl (by (try simp only [List.map_toArray, List.map_cons, List.map_nil]); first | done | rfl | (simp only [List.length_drop, List.length_take]; rfl)) ?_; (with_reducible refine (selvageref01_Wrap.calls (wrap64 (x6_1 + x0_1)) t112 _ A6.out).mono ?_); rintro e w' ⟨rfl, ⟨nd, rfl⟩⟩; refine ⟨_, rfl, ?_⟩) | ((with_reducible refine gate_callee (f := 12) rfl ?_); refine goesL_ (some 28) rfl rfl Try.func12 (by kernel_rfl) rfl #[.int .i64 (wrap64 (x0_1 + x0_1))] rfl (by (try simp only [List.map_toArray, List.map_cons, List.map_nil]); first | done | rfl | (simp only [List.length_drop, List.length_take]; rfl)) ?_; (with_reducible refine (selvageref01_Wrap.calls (wrap64 (x0_1 + x0_1)) t113 _ A7.out).mono ?_); rintro e w' ⟨rfl, ⟨nd, rfl⟩⟩; refine ⟨_, rfl, ?_⟩))
          go_roundg k1
          case measure => have := HK1.out; omega
          case rel => exact ⟨(t113), (wrap64 (Int.tdiv x1_1 2)), (t112), (wrap64 (x7_1 + 1)), (by first | rfl | (simp; done) | (simp [*]; done)), (by first | rfl | (simp; done) | (simp [*]; done)), (by first | rfl | (simp; done) | (simp [*]; done)), (by first | rfl | (simp; done) | (simp [*]; done)), H', ⟨by have := HK1.out; omega⟩, by repeat (first | exact Drawn0.refl _ | apply Drawn0.step)⟩
      · rw [if_neg c3] at H
        have c3b0 : decide (x7_1 < 63) = false := decide_eq_false c3
        clear c3
        by_cases c8 : b5 = true
        · subst c8
          rw [if_pos rfl] at H
          replace H := Option.bind_eq_some_iff.mp H
          obtain ⟨t110, A90, H⟩ := H
          replace H : (some t110) = some r := H
          have A9 := Aside0.mk A90
          clear A90
          obtain rfl := Option.some.inj H
          go_wp2_with (first | ((with_reducible refine gate_callee (f := 12) rfl ?_); refine goesL_ (some 32) rfl rfl Try.func12 (by kernel_rfl) rfl #[.int .i64 (wrap64 (-x6_1))] rfl (by (try simp only [List.map_toArray, List.map_cons, List.map_nil]); first | done | rfl | (simp only [List.length_drop, List.length_take]; rfl)) ?_; (with_reducible refine (selvageref01_Wrap.calls (wrap64 (-x6_1)) t110 _ A9.out).mono ?_); rintro e w' ⟨rfl, ⟨nd, rfl⟩⟩; refine ⟨_, rfl, ?_⟩))
          go_ret
          exact ⟨by first | rfl | (simp; done) | (simp [*]; done), by repeat (first | exact Drawn0.refl _ | apply Drawn0.step)⟩
        · replace c8 := Bool.eq_false_iff.mpr c8
          subst c8
          rw [if_neg (by decide)] at H
          obtain rfl := Option.some.inj H
          go_wp2
          go_ret
          exact ⟨by first | rfl | (simp; done) | (simp [*]; done), by repeat (first | exact Drawn0.refl _ | apply Drawn0.step)⟩

end Go.Proofs.Ytkmoneccehbncaa.Print
