/- Contracts of the program's functions, each with a plain function of the same answers; written by a program of this session over the kit's print.py, with hand-written parts; no condition but the bounds that each theorem states. -/
import Derived.Test.YtkmoneccehbncaaPrint0
namespace Go.Proofs.Ytkmoneccehbncaa.Print
open Go.RowKit Go.Proofs.YtkmoneccehbncaaW.PrintWords Go.Proofs.YtkmoneccehbncaaW.PrintLast Go.Proofs.YtkmoneccehbncaaW.PrintMore
attribute [local go_sem] max2_int min2_int max_two min_two max_three min_three max_four min_four   -- for this text's walks alone
set_option linter.unusedVariables false
set_option linter.unusedSimpArgs false

/-! ### selvageref03_Unpack: function 58 -/
mutual
def selvageref03_Unpack.j0 : Nat → List Int → Bool → Option (ByteArray × Int)
  | 0, _, _ => none
  | k + 1, x0, x23 => if x23 = true then (some ((⟨#[]⟩ : ByteArray), 1)) else (selvageref03_Unpack.l0 k x0 1)
def selvageref03_Unpack.l0 : Nat → List Int → Int → Option (ByteArray × Int)
  | 0, _, _ => none
  | k + 1, x0, x4 => if 0 < (x0.length : Int) then (if (wrap64 (7 * (wrap64 (x4 - 1)))) < (rd x0 0) then (selvageref03_Unpack.l0 k x0 (wrap64 (x4 + 1))) else (if (x0.length : Int) = x4 then (selvageref03_Unpack.l1 k x0 ([] : List Int) 1) else (some ((⟨#[]⟩ : ByteArray), 1)))) else (none)
def selvageref03_Unpack.l1 : Nat → List Int → List Int → Int → Option (ByteArray × Int)
  | 0, _, _, _ => none
  | k + 1, x0, x5, x6 => if x6 < (x0.length : Int) then (if 0 ≤ x6 then (if (rd x0 x6) < 0 then (some ((⟨#[]⟩ : ByteArray), 1)) else (selvageref03_Unpack.l2 k x0 x5 x6 (rd x0 x6) 0)) else (none)) else (some (strOfNums x5, 0))
def selvageref03_Unpack.l2 : Nat → List Int → List Int → Int → Int → Int → Option (ByteArray × Int)
  | 0, _, _, _, _, _ => none
  | k + 1, x0, x5, x6, x7, x8 => if x8 < 7 then (if 0 < (x0.length : Int) then (if (x5.length : Int) < (rd x0 0) then (if x5.length < 140737488355328 then (selvageref03_Unpack.l2 k x0 (x5 ++ [(Int.tmod x7 256) % 256]) x6 (wrap64 (Int.tdiv x7 256)) (wrap64 (x8 + 1))) else (none)) else (if x7 = 0 then (selvageref03_Unpack.l1 k x0 x5 (wrap64 (x6 + 1))) else (some ((⟨#[]⟩ : ByteArray), 1)))) else (none)) else (if x7 = 0 then (selvageref03_Unpack.l1 k x0 x5 (wrap64 (x6 + 1))) else (some ((⟨#[]⟩ : ByteArray), 1)))
end
def selvageref03_Unpack.f (k : Nat) (l0 : List Int) : Option (ByteArray × Int) := if (l0.length : Int) = 0 then (selvageref03_Unpack.j0 k l0 true) else (if 0 < (l0.length : Int) then (if (rd l0 0) < 0 then (selvageref03_Unpack.j0 k l0 true) else (selvageref03_Unpack.j0 k l0 (decide ((rd l0 0) > 60)))) else (none))
theorem selvageref03_Unpack.mono_l : ∀ k, (∀ y0 y1, LeO (selvageref03_Unpack.j0 k y0 y1) (selvageref03_Unpack.j0 (k + 1) y0 y1)) ∧ (∀ y0 y1, LeO (selvageref03_Unpack.l0 k y0 y1) (selvageref03_Unpack.l0 (k + 1) y0 y1)) ∧ (∀ y0 y1 y2, LeO (selvageref03_Unpack.l1 k y0 y1 y2) (selvageref03_Unpack.l1 (k + 1) y0 y1 y2)) ∧ (∀ y0 y1 y2 y3 y4, LeO (selvageref03_Unpack.l2 k y0 y1 y2 y3 y4) (selvageref03_Unpack.l2 (k + 1) y0 y1 y2 y3 y4))
  | 0 => ⟨fun _ _ r h => by simp [selvageref03_Unpack.j0] at h, fun _ _ r h => by simp [selvageref03_Unpack.l0] at h, fun _ _ _ r h => by simp [selvageref03_Unpack.l1] at h, fun _ _ _ _ _ r h => by simp [selvageref03_Unpack.l2] at h⟩
  | k + 1 => by
    obtain ⟨ih0, ih1, ih2, ih3⟩ := selvageref03_Unpack.mono_l k
    refine ⟨?_, ?_, ?_, ?_⟩
    · intro y0 y1
      unfold selvageref03_Unpack.j0
      repeat' first
      | (with_reducible exact ih0 _ _)
      | (with_reducible exact ih1 _ _)
      | (with_reducible exact ih2 _ _ _)
      | (with_reducible exact ih3 _ _ _ _ _)
      | (with_reducible exact LeO.refl _)
      | (with_reducible exact LeO.none _)
      | (with_reducible refine LeO.ite ?_ ?_)
      | (with_reducible refine LeO.bind ?_ (fun _ => ?_))
      | exact ih0 _ _
      | exact ih1 _ _
      | exact ih2 _ _ _
      | exact ih3 _ _ _ _ _
      | exact LeO.none _
      | refine LeO.ite ?_ ?_
      | refine LeO.bind ?_ (fun _ => ?_)
    · intro y0 y1
      unfold selvageref03_Unpack.l0
      repeat' first
      | (with_reducible exact ih0 _ _)
      | (with_reducible exact ih1 _ _)
      | (with_reducible exact ih2 _ _ _)
      | (with_reducible exact ih3 _ _ _ _ _)
      | (with_reducible exact LeO.refl _)
      | (with_reducible exact LeO.none _)
      | (with_reducible refine LeO.ite ?_ ?_)
      | (with_reducible refine LeO.bind ?_ (fun _ => ?_))
      | exact ih0 _ _
      | exact ih1 _ _
      | exact ih2 _ _ _
      | exact ih3 _ _ _ _ _
      | exact LeO.none _
      | refine LeO.ite ?_ ?_
      | refine LeO.bind ?_ (fun _ => ?_)
    · intro y0 y1 y2
      unfold selvageref03_Unpack.l1
      repeat' first
      | (with_reducible exact ih0 _ _)
      | (with_reducible exact ih1 _ _)
      | (with_reducible exact ih2 _ _ _)
      | (with_reducible exact ih3 _ _ _ _ _)
      | (with_reducible exact LeO.refl _)
      | (with_reducible exact LeO.none _)
      | (with_reducible refine LeO.ite ?_ ?_)
      | (with_reducible refine LeO.bind ?_ (fun _ => ?_))
      | exact ih0 _ _
      | exact ih1 _ _
      | exact ih2 _ _ _
      | exact ih3 _ _ _ _ _
      | exact LeO.none _
      | refine LeO.ite ?_ ?_
      | refine LeO.bind ?_ (fun _ => ?_)
    · intro y0 y1 y2 y3 y4
      unfold selvageref03_Unpack.l2
      repeat' first
      | (with_reducible exact ih0 _ _)
      | (with_reducible exact ih1 _ _)
      | (with_reducible exact ih2 _ _ _)
      | (with_reducible exact ih3 _ _ _ _ _)
      | (with_reducible exact LeO.refl _)
      | (with_reducible exact LeO.none _)
      | (with_reducible refine LeO.ite ?_ ?_)
      | (with_reducible refine LeO.bind ?_ (fun _ => ?_))
      | exact ih0 _ _
      | exact ih1 _ _
      | exact ih2 _ _ _
      | exact ih3 _ _ _ _ _
      | exact LeO.none _
      | refine LeO.ite ?_ ?_
      | refine LeO.bind ?_ (fun _ => ?_)
theorem selvageref03_Unpack.mono : ∀ a0 k, LeO (selvageref03_Unpack.f k a0) (selvageref03_Unpack.f (k + 1) a0) := by
  intro a0 k
  obtain ⟨ih0, ih1, ih2, ih3⟩ := selvageref03_Unpack.mono_l k
  unfold selvageref03_Unpack.f
  repeat' first
      | (with_reducible exact ih0 _ _)
      | (with_reducible exact ih1 _ _)
      | (with_reducible exact ih2 _ _ _)
      | (with_reducible exact ih3 _ _ _ _ _)
      | (with_reducible exact LeO.refl _)
      | (with_reducible exact LeO.none _)
      | (with_reducible refine LeO.ite ?_ ?_)
      | (with_reducible refine LeO.bind ?_ (fun _ => ?_))
      | exact ih0 _ _
      | exact ih1 _ _
      | exact ih2 _ _ _
      | exact ih3 _ _ _ _ _
      | exact LeO.none _
      | refine LeO.ite ?_ ?_
      | refine LeO.bind ?_ (fun _ => ?_)
set_option maxHeartbeats 8000000 in
set_option maxRecDepth 100000 in
theorem selvageref03_Unpack.calls (k : Nat) (A0 : Option Addr) (c0 : Nat) (l0 : List Int) (r1 : ByteArray) (r2 : Int) (w : World) (hr0 : Kd.C (Kd.int .i64) w A0 l0.length l0) (hc0 : l0.length ≤ c0) (h : selvageref03_Unpack.f k l0 = some (r1, r2)) :
    Calls Try.prog 58 #[.slice A0 l0.length c0] w fun e w' => e = .returned (.tuple #[.string r1, .int .i64 r2]) ∧ Below w.heap.size w w' := by
  have HR0 := Aside0.mk hr0
  have HC0 := Aside0.mk hc0
  clear hr0 hc0
  have HB := Aside0.mk (Below.refl w.heap.size w)
  have H : (if (l0.length : Int) = 0 then (selvageref03_Unpack.j0 k l0 true) else (if 0 < (l0.length : Int) then (if (rd l0 0) < 0 then (selvageref03_Unpack.j0 k l0 true) else (selvageref03_Unpack.j0 k l0 (decide ((rd l0 0) > 60)))) else (none))) = some (r1, r2) := h
  clear h
  have HC2 := Aside0.mk H
  clear H
  go_enter Try.func58, Try.ntmps58
  go_upto_region 1 with (fail)
  go_cut [23] (fun v23 wc => ∃ (kq : Nat) (x23_1 : Bool), v23 = .bool x23_1 ∧ Aside0 (selvageref03_Unpack.j0 kq l0 x23_1 = some (r1, r2)) ∧ Aside0 (kq ≤ k) ∧ Aside0 (Below w.heap.size w wc))
  case first =>
    have H := HC2.out
    clear HC2
    by_cases c3 : (l0.length : Int) = 0
    · rw [if_pos c3] at H
      have c3b0 : ((l0.length : Int) == 0) = true := beq_iff_eq.mpr c3
      have c3b1 : ((l0.length : Int) != 0) = false := bne_eq_false_iff_eq.mpr c3
      clear c3
      (first | rw [c3b0] | (simp only [i64_w, i32_w]; rw [c3b0]) | skip)
      have H' := Aside0.mk H
      clear H
      go_wp2
      go_meet
      case rel => exact ⟨_, (true), (by first | rfl | (simp; done) | (simp [*]; done)), H', ⟨by first | omega | exact Nat.le_refl _⟩, ⟨by repeat (first | (with_reducible first | exact HB.out | apply below_alloc | apply pw_below_drewN | apply below_drew1) | exact HB.out)⟩⟩
    · rw [if_neg c3] at H
      have c3b0 : ((l0.length : Int) == 0) = false := beq_eq_false_iff_ne.mpr c3
      have c3b1 : ((l0.length : Int) != 0) = true := bne_iff_ne.mpr c3
      have c3b2 : ¬ (l0 = []) := fun h_ => c3 (by rw [h_]; rfl)
      (first | rw [c3b0] | (simp only [i64_w, i32_w]; rw [c3b0]) | skip)
      by_cases c4 : 0 < (l0.length : Int)
      · rw [if_pos c4] at H
        have c4b0 : decide (0 < (l0.length : Int)) = true := decide_eq_true c4
        have c4b1 : decide (0 < l0.length) = true := decide_eq_true (by omega)
        clear c4
        by_cases c5 : (rd l0 0) < 0
        · rw [if_pos c5] at H
          have c5b0 : decide ((rd l0 0) < 0) = true := decide_eq_true c5
          clear c5
          have H' := Aside0.mk H
          clear H
          have p221 : 0 ≤ (0 : Int) := (by omega)
          have q221 : 0 < (l0.length : Int) := of_decide_eq_true (by first | (with_reducible assumption) | assumption)
          obtain ⟨ad221, e221, hx221_0⟩ := Kd.at_int HR0.out 0 p221 q221
          cases e221
          have qi221 : (0 < l0.length) = True := eq_true (by omega)
          (try rw [show ((0 : Int)).toNat = 0 from rfl] at hx221_0)
          (try rw [Addr.add_zero'] at hx221_0)
          replace hx221_0 := (HB.out.cell (World.block_lt_of_cell? w _ hx221_0)).trans hx221_0
          replace p221 := eq_true p221
          replace q221 := eq_true q221
          go_wp2
          go_meet
          case rel => exact ⟨_, (true), (by first | rfl | (simp; done) | (simp [*]; done)), H', ⟨by first | omega | exact Nat.le_refl _⟩, ⟨by repeat (first | (with_reducible first | exact HB.out | apply below_alloc | apply pw_below_drewN | apply below_drew1) | exact HB.out)⟩⟩
        · rw [if_neg c5] at H
          have c5b0 : decide ((rd l0 0) < 0) = false := decide_eq_false c5
          clear c5
          have H' := Aside0.mk H
          clear H
          have p221 : 0 ≤ (0 : Int) := (by omega)
          have q221 : 0 < (l0.length : Int) := of_decide_eq_true (by first | (with_reducible assumption) | assumption)
          obtain ⟨ad221, e221, hx221_0⟩ := Kd.at_int HR0.out 0 p221 q221
          cases e221
          have qi221 : (0 < l0.length) = True := eq_true (by omega)
          (try rw [show ((0 : Int)).toNat = 0 from rfl] at hx221_0)
          (try rw [Addr.add_zero'] at hx221_0)
          replace hx221_0 := (HB.out.cell (World.block_lt_of_cell? w _ hx221_0)).trans hx221_0
          replace p221 := eq_true p221
          replace q221 := eq_true q221
          have p222 : 0 ≤ (0 : Int) := (by omega)
          have q222 : 0 < (l0.length : Int) := of_decide_eq_true (by first | (with_reducible assumption) | assumption)
          obtain ⟨ad222, e222, hx222_0⟩ := Kd.at_int HR0.out 0 p222 q222
          obtain rfl : ad221 = ad222 := (by injection e222)
          have qi222 : (0 < l0.length) = True := eq_true (by omega)
          (try rw [show ((0 : Int)).toNat = 0 from rfl] at hx222_0)
          (try rw [Addr.add_zero'] at hx222_0)
          replace hx222_0 := (HB.out.cell (World.block_lt_of_cell? w _ hx222_0)).trans hx222_0
          replace p222 := eq_true p222
          replace q222 := eq_true q222
          go_wp2
          go_meet
          case rel => exact ⟨_, (decide ((rd l0 0) > 60)), (by first | rfl | (simp; done) | (simp [*]; done)), H', ⟨by first | omega | exact Nat.le_refl _⟩, ⟨by repeat (first | (with_reducible first | exact HB.out | apply below_alloc | apply pw_below_drewN | apply below_drew1) | exact HB.out)⟩⟩
      · rw [if_neg c4] at H
        exact absurd H (by simp)
  case rest =>
    clear HC2
    try clear p2
    try clear q2
    try clear hx2
    try clear qi2
    try clear c3
    try clear c3b0
    try clear c3b1
    try clear c3b2
    try clear c4
    try clear c4b0
    try clear c4b1
    try clear c5
    try clear c5b0
    try clear hx221_0
    try clear hx222_0
    try clear p221
    try clear p222
    try clear q221
    try clear q222
    obtain ⟨kq, x23_1, rfl, HA, HJ1, HB⟩ := hcut
    cases kq with
    | zero => exact absurd HA.out (by simp [selvageref03_Unpack.j0])
    | succ kj1 =>
      have H := HA.out
      clear HA
      simp only [selvageref03_Unpack.j0] at H
      by_cases c6 : x23_1 = true
      · subst c6
        have H1 : (some ((⟨#[]⟩ : ByteArray), 1)) = some (r1, r2) := by rw [if_pos rfl] at H; exact H
        clear H
        have H := H1
        clear H1
        simp only [Option.some.injEq, Prod.mk.injEq] at H
        obtain ⟨rfl, rfl⟩ := H
        go_wp2
        go_ret2
        exact ⟨by first | rfl | (simp [errW_none, errW_some] <;> rfl) | (simp [*, errW_none, errW_some] <;> rfl), by repeat (first | (with_reducible first | exact HB.out | apply below_alloc | apply pw_below_drewN | apply below_drew1) | exact HB.out)⟩
      · replace c6 := Bool.eq_false_iff.mpr c6
        subst c6
        have H1 : (selvageref03_Unpack.l0 kj1 l0 1) = some (r1, r2) := by rw [if_neg (show ¬ (false = true) by decide)] at H; exact H
        clear H
        have H := H1
        clear H1
        have H' := Aside0.mk H
        clear H
        go_wp2
        go_loopg [4] kj1 (fun kq v4 w' => ∃ (x4_2 : Int), v4 = .int .i64 x4_2 ∧ Aside0 (selvageref03_Unpack.l0 kq l0 x4_2 = some (r1, r2)) ∧ Aside0 (kq ≤ kj1) ∧ Aside0 (Below w.heap.size w w'))
        case atStart => exact ⟨(1), (by first | rfl | (simp; done) | (simp [*]; done)), H', ⟨Nat.le_refl _⟩, ⟨by repeat (first | (with_reducible first | exact HB.out | apply below_alloc | apply pw_below_drewN | apply below_drew1) | exact HB.out)⟩⟩
        case round =>
          clear H'
          try clear p2
          try clear q2
          try clear hx2
          try clear qi2
          try clear c3
          try clear c3b0
          try clear c3b1
          try clear c3b2
          try clear c4
          try clear c4b0
          try clear c4b1
          try clear c5
          try clear c5b0
          try clear c6
          try clear hx221_0
          try clear hx222_0
          try clear p2
          try clear p221
          try clear p222
          try clear q2
          try clear q221
          try clear q222
          obtain ⟨x4_2, rfl, HA, HK2, HB⟩ := hrel
          cases gk with
          | zero => exact absurd HA.out (by simp [selvageref03_Unpack.l0])
          | succ k2 =>
            have H := HA.out
            clear HA
            simp only [selvageref03_Unpack.l0] at H
            by_cases c7 : 0 < (l0.length : Int)
            · rw [if_pos c7] at H
              have c7b0 : decide (0 < (l0.length : Int)) = true := decide_eq_true c7
              have c7b1 : decide (0 < l0.length) = true := decide_eq_true (by omega)
              clear c7
              by_cases c8 : (wrap64 (7 * (wrap64 (x4_2 - 1)))) < (rd l0 0)
              · rw [if_pos c8] at H
                have c8b0 : decide ((wrap64 (7 * (wrap64 (x4_2 - 1)))) < (rd l0 0)) = true := decide_eq_true c8
                clear c8
                have H' := Aside0.mk H
                clear H
                have p223 : 0 ≤ (0 : Int) := (by omega)
                have q223 : 0 < (l0.length : Int) := of_decide_eq_true (by first | (with_reducible assumption) | assumption)
                obtain ⟨ad223, e223, hx223_0⟩ := Kd.at_int HR0.out 0 p223 q223
                cases e223
                have qi223 : (0 < l0.length) = True := eq_true (by omega)
                (try rw [show ((0 : Int)).toNat = 0 from rfl] at hx223_0)
                (try rw [Addr.add_zero'] at hx223_0)
                replace hx223_0 := (HB.out.cell (World.block_lt_of_cell? w _ hx223_0)).trans hx223_0
                replace p223 := eq_true p223
                replace q223 := eq_true q223
                go_wp2
                go_roundg k2
                case measure => have := HJ1.out; have := HK2.out; omega
                case rel => exact ⟨(wrap64 (x4_2 + 1)), (by first | rfl | (simp; done) | (simp [*]; done)), H', ⟨by have := HJ1.out; have := HK2.out; omega⟩, ⟨by repeat (first | (with_reducible first | exact HB.out | apply below_alloc | apply pw_below_drewN | apply below_drew1) | exact HB.out)⟩⟩
              · rw [if_neg c8] at H
                have c8b0 : decide ((wrap64 (7 * (wrap64 (x4_2 - 1)))) < (rd l0 0)) = false := decide_eq_false c8
                clear c8
                by_cases c9 : (l0.length : Int) = x4_2
                · rw [if_pos c9] at H
                  have c9b0 : ((l0.length : Int) == x4_2) = true := beq_iff_eq.mpr c9
                  have c9b1 : ((l0.length : Int) != x4_2) = false := bne_eq_false_iff_eq.mpr c9
                  clear c9
                  have H' := Aside0.mk H
                  clear H
                  have p223 : 0 ≤ (0 : Int) := (by omega)
                  have q223 : 0 < (l0.length : Int) := of_decide_eq_true (by first | (with_reducible assumption) | assumption)
                  obtain ⟨ad223, e223, hx223_0⟩ := Kd.at_int HR0.out 0 p223 q223
                  cases e223
                  have qi223 : (0 < l0.length) = True := eq_true (by omega)
                  (try rw [show ((0 : Int)).toNat = 0 from rfl] at hx223_0)
                  (try rw [Addr.add_zero'] at hx223_0)
                  replace hx223_0 := (HB.out.cell (World.block_lt_of_cell? w _ hx223_0)).trans hx223_0
                  replace p223 := eq_true p223
                  replace q223 := eq_true q223
                  go_wp2
                  go_loopg [5, 6] k2 (fun kq v5 v6 w' => ∃ (x5_3 : List Int) (x6_3 : Int), v6 = .int .i64 x6_3 ∧ Aside0 (selvageref03_Unpack.l1 kq l0 x5_3 x6_3 = some (r1, r2)) ∧ Aside0 (kq ≤ k2) ∧ Aside0 (Kd.R (Kd.int .u8) 5 w' w.heap.size (fun _ => True) v5 x5_3) ∧ Aside0 (Below w.heap.size w w'))
                  case atStart => exact ⟨(([] : List Int)), (1), (by first | rfl | (simp; done) | (simp [*]; done)), H', ⟨Nat.le_refl _⟩, ⟨by first | exact Kd.R_nil _ _ _ _ _ | exact Kd.N_nil _ _ _ _ _ | exact Kd.V_nil _ _ _ _ _ | exact Kd.Q_nil _ _ _ _ _ | exact Kd.S_nil _ _ _ _ _⟩, ⟨by repeat (first | (with_reducible first | exact HB.out | apply below_alloc | apply pw_below_drewN | apply below_drew1) | exact HB.out)⟩⟩
                  case round =>
                    clear H'
                    try clear p2
                    try clear q2
                    try clear hx2
                    try clear qi2
                    try clear c3
                    try clear c3b0
                    try clear c3b1
                    try clear c3b2
                    try clear c4
                    try clear c4b0
                    try clear c4b1
                    try clear c5
                    try clear c5b0
                    try clear c6
                    try clear p6
                    try clear c7
                    try clear c7b0
                    try clear c7b1
                    try clear c8
                    try clear c8b0
                    try clear c9
                    try clear c9b0
                    try clear c9b1
                    try clear hx221_0
                    try clear hx222_0
                    try clear hx223_0
                    try clear p2
                    try clear p221
                    try clear p222
                    try clear p223
                    try clear q2
                    try clear q221
                    try clear q222
                    try clear q223
                    obtain ⟨x5_3, x6_3, rfl, HA, HK3, HO_5, HB⟩ := hrel
                    cases gk with
                    | zero => exact absurd HA.out (by simp [selvageref03_Unpack.l1])
                    | succ k3 =>
                      have H := HA.out
                      clear HA
                      simp only [selvageref03_Unpack.l1] at H
                      by_cases c10 : x6_3 < (l0.length : Int)
                      · rw [if_pos c10] at H
                        have c10b0 : decide (x6_3 < (l0.length : Int)) = true := decide_eq_true c10
                        clear c10
                        by_cases c11 : 0 ≤ x6_3
                        · rw [if_pos c11] at H
                          have c11b0 : decide (0 ≤ x6_3) = true := decide_eq_true c11
                          clear c11
                          by_cases c12 : (rd l0 x6_3) < 0
                          · rw [if_pos c12] at H
                            have c12b0 : decide ((rd l0 x6_3) < 0) = true := decide_eq_true c12
                            clear c12
                            simp only [Option.some.injEq, Prod.mk.injEq] at H
                            obtain ⟨rfl, rfl⟩ := H
                            have p224 : 0 ≤ (x6_3 : Int) := of_decide_eq_true (by first | (with_reducible assumption) | assumption)
                            have q224 : x6_3 < (l0.length : Int) := of_decide_eq_true (by first | (with_reducible assumption) | assumption)
                            obtain ⟨ad224, e224, hx224_0⟩ := Kd.at_int HR0.out x6_3 p224 q224
                            obtain rfl : ad223 = ad224 := (by injection e224)
                            replace hx224_0 := (HB.out.cell (World.block_lt_of_cell? w _ hx224_0)).trans hx224_0
                            replace p224 := eq_true p224
                            replace q224 := eq_true q224
                            go_wp2
                            go_ret2
                            exact ⟨by first | rfl | (simp [errW_none, errW_some] <;> rfl) | (simp [*, errW_none, errW_some] <;> rfl), by repeat (first | (with_reducible first | exact HB.out | apply below_alloc | apply pw_below_drewN | apply below_drew1) | exact HB.out)⟩
                          · rw [if_neg c12] at H
                            have c12b0 : decide ((rd l0 x6_3) < 0) = false := decide_eq_false c12
                            clear c12
                            have H' := Aside0.mk H
                            clear H
                            have p224 : 0 ≤ (x6_3 : Int) := of_decide_eq_true (by first | (with_reducible assumption) | assumption)
                            have q224 : x6_3 < (l0.length : Int) := of_decide_eq_true (by first | (with_reducible assumption) | assumption)
                            obtain ⟨ad224, e224, hx224_0⟩ := Kd.at_int HR0.out x6_3 p224 q224
                            obtain rfl : ad223 = ad224 := (by injection e224)
                            replace hx224_0 := (HB.out.cell (World.block_lt_of_cell? w _ hx224_0)).trans hx224_0
                            replace p224 := eq_true p224
                            replace q224 := eq_true q224
                            go_wp2
                            go_loopg [5, 7, 8] k3 (fun kq v5 v7 v8 w' => ∃ (x5_4 : List Int) (x7_4 : Int) (x8_4 : Int), v7 = .int .i64 x7_4 ∧ v8 = .int .i64 x8_4 ∧ Aside0 (selvageref03_Unpack.l2 kq l0 x5_4 x6_3 x7_4 x8_4 = some (r1, r2)) ∧ Aside0 (kq ≤ k3) ∧ Aside0 (Kd.R (Kd.int .u8) 5 w' w.heap.size (fun _ => True) v5 x5_4) ∧ Aside0 (Below w.heap.size w w'))
                            case atStart => exact ⟨(x5_3), (rd l0 x6_3), (0), (by first | rfl | (simp; done) | (simp [*]; done)), (by first | rfl | (simp; done) | (simp [*]; done)), H', ⟨Nat.le_refl _⟩, ⟨by (with_reducible repeat (first | apply Kd.R_alloc | apply Kd.R_drewN | apply Kd.R_drew)); exact HO_5.out⟩, ⟨by repeat (first | (with_reducible first | exact HB.out | apply below_alloc | apply pw_below_drewN | apply below_drew1) | exact HB.out)⟩⟩
                            case round =>
                              clear H'
                              try clear c1
                              try clear p2
                              try clear q2
                              try clear hx2
                              try clear qi2
                              try clear c3
                              try clear c3b0
                              try clear c3b1
                              try clear c3b2
                              try clear c4
                              try clear c4b0
                              try clear c4b1
                              try clear c5
                              try clear c5b0
                              try clear c6
                              try clear p6
                              try clear c7
                              try clear c7b0
                              try clear c7b1
                              try clear c8
                              try clear c8b0
                              try clear c9
                              try clear c9b0
                              try clear c9b1
                              try clear c10
                              try clear c10b0
                              try clear c11
                              try clear c11b0
                              try clear c12
                              try clear c12b0
                              try clear hx221_0
                              try clear hx222_0
                              try clear hx223_0
                              try clear hx224_0
                              try clear p2
                              try clear p221
                              try clear p222
                              try clear p223
                              try clear p224
                              try clear p6
                              try clear q2
                              try clear q221
                              try clear q222
                              try clear q223
                              try clear q224
                              obtain ⟨x5_4, x7_4, x8_4, rfl, rfl, HA, HK4, HO_5, HB⟩ := hrel
                              cases gk with
                              | zero => exact absurd HA.out (by simp [selvageref03_Unpack.l2])
                              | succ k4 =>
                                have H := HA.out
                                clear HA
                                simp only [selvageref03_Unpack.l2] at H
                                by_cases c13 : x8_4 < 7
                                · rw [if_pos c13] at H
                                  have c13b0 : decide (x8_4 < 7) = true := decide_eq_true c13
                                  clear c13
                                  by_cases c14 : 0 < (l0.length : Int)
                                  · rw [if_pos c14] at H
                                    have c14b0 : decide (0 < (l0.length : Int)) = true := decide_eq_true c14
                                    have c14b1 : decide (0 < l0.length) = true := decide_eq_true (by omega)
                                    clear c14
                                    by_cases c15 : (x5_4.length : Int) < (rd l0 0)
                                    · rw [if_pos c15] at H
                                      have c15b0 : decide ((x5_4.length : Int) < (rd l0 0)) = true := decide_eq_true c15
                                      clear c15
                                      by_cases c16 : x5_4.length < 140737488355328
                                      · rw [if_pos c16] at H
                                        have LMc16 := Aside0.mk c16
                                        clear c16
                                        obtain ⟨y226, hy226⟩ : ∃ y_ : List Int, y_ = (x5_4 ++ [(Int.tmod x7_4 256) % 256]) := ⟨_, rfl⟩
                                        replace H : (selvageref03_Unpack.l2 k4 l0 y226 x6_3 (wrap64 (Int.tdiv x7_4 256)) (wrap64 (x8_4 + 1))) = some (r1, r2) := by first | (rw [hy226]; with_reducible exact H) | (have H2_ := (Option.bind_some _ _).symm.trans H; rw [hy226]; with_reducible exact H2_) | (have H2_ := (Option.bind_some _ _).symm.trans H; with_reducible exact H2_) | with_reducible exact H | (rw [hy226]; exact H) | exact H
                                        have Ny226 := Aside0.mk hy226
                                        clear hy226
                                        have H' := Aside0.mk H
                                        clear H
                                        obtain ⟨Ao17, co17, eo17⟩ := Kd.R_slice HO_5.out
                                        subst eo17
                                        have p225 : 0 ≤ (0 : Int) := (by omega)
                                        have q225 : 0 < (l0.length : Int) := of_decide_eq_true (by first | (with_reducible assumption) | assumption)
                                        obtain ⟨ad225, e225, hx225_0⟩ := Kd.at_int HR0.out 0 p225 q225
                                        obtain rfl : ad223 = ad225 := (by injection e225)
                                        have qi225 : (0 < l0.length) = True := eq_true (by omega)
                                        (try rw [show ((0 : Int)).toNat = 0 from rfl] at hx225_0)
                                        (try rw [Addr.add_zero'] at hx225_0)
                                        replace hx225_0 := (HB.out.cell (World.block_lt_of_cell? w _ hx225_0)).trans hx225_0
                                        replace p225 := eq_true p225
                                        replace q225 := eq_true q225
                                        go_wp2_with (first | ((with_reducible refine gate_builtin (b := .append) (xs := #[.tmp 61, .tmp 65]) rfl ?_); (try (refine gate_guard (by rfl) ?_; dsimp only)); at_builtin; refine Kd.R_append (Kd.int .u8) (w0 := w) w.heap.size rfl (.tmp 61) (.tmp 65) 97 5 (.int .u8 0) 1 rfl Try.underlying97 info5 rfl (by decide) (by omega) (.slice Ao17 x5_4.length co17) x5_4 ((Int.tmod x7_4 256) % 256) [.int .u8 ((Int.tmod x7_4 256) % 256)] (fun _ => True) (fun _ => False) rfl rfl ?aP (fun _ hk => hk.elim) ?aF ?aO ?aB ?aS ?aL ?_; (case aP => exact rfl); (case aB => exact (by repeat (first | (with_reducible first | exact HB.out | apply below_alloc | apply pw_below_drewN | apply below_drew1) | exact HB.out))); (case aF => exact (fun _ _ => trivial)); (case aO => exact (by (with_reducible repeat (first | apply Kd.R_alloc | apply Kd.R_drewN | apply Kd.R_drew)); exact HO_5.out)); (case aS => exact (below_size (by repeat (first | (with_reducible first | exact HB.out | apply below_alloc | apply pw_below_drewN | apply below_drew1) | exact HB.out)))); (case aL => have := LMc16.out; omega); intro v227 w18 ho hb hg hat; rw [← Ny226.out] at ho; have n0_ := Aside0.mk (hb); have n1_ := Aside0.mk (ho); clear HB; clear HO_5; have HB := n0_; have HO228 := n1_; clear n0_ n1_; clear ho hb hg hat))
                                        go_roundg k4
                                        case measure => have := HJ1.out; have := HK2.out; have := HK3.out; have := HK4.out; omega
                                        case rel => exact ⟨(y226), (wrap64 (Int.tdiv x7_4 256)), (wrap64 (x8_4 + 1)), (by first | rfl | (simp; done) | (simp [*]; done)), (by first | rfl | (simp; done) | (simp [*]; done)), H', ⟨by have := HJ1.out; have := HK2.out; have := HK3.out; have := HK4.out; omega⟩, ⟨by (with_reducible repeat (first | apply Kd.R_alloc | apply Kd.R_drewN | apply Kd.R_drew)); exact HO228.out⟩, ⟨by repeat (first | (with_reducible first | exact HB.out | apply below_alloc | apply pw_below_drewN | apply below_drew1) | exact HB.out)⟩⟩
                                      · rw [if_neg c16] at H
                                        exact absurd H (by simp)
                                    · rw [if_neg c15] at H
                                      have c15b0 : decide ((x5_4.length : Int) < (rd l0 0)) = false := decide_eq_false c15
                                      clear c15
                                      by_cases c19 : x7_4 = 0
                                      · rw [if_pos c19] at H
                                        have c19b0 : (x7_4 == 0) = true := beq_iff_eq.mpr c19
                                        have c19b1 : (x7_4 != 0) = false := bne_eq_false_iff_eq.mpr c19
                                        clear c19
                                        have H' := Aside0.mk H
                                        clear H
                                        obtain ⟨Ao20, co20, eo20⟩ := Kd.R_slice HO_5.out
                                        subst eo20
                                        have p225 : 0 ≤ (0 : Int) := (by omega)
                                        have q225 : 0 < (l0.length : Int) := of_decide_eq_true (by first | (with_reducible assumption) | assumption)
                                        obtain ⟨ad225, e225, hx225_0⟩ := Kd.at_int HR0.out 0 p225 q225
                                        obtain rfl : ad223 = ad225 := (by injection e225)
                                        have qi225 : (0 < l0.length) = True := eq_true (by omega)
                                        (try rw [show ((0 : Int)).toNat = 0 from rfl] at hx225_0)
                                        (try rw [Addr.add_zero'] at hx225_0)
                                        replace hx225_0 := (HB.out.cell (World.block_lt_of_cell? w _ hx225_0)).trans hx225_0
                                        replace p225 := eq_true p225
                                        replace q225 := eq_true q225
                                        go_wp2
                                        go_roundg k4
                                        case measure => have := HJ1.out; have := HK2.out; have := HK3.out; have := HK4.out; omega
                                        case rel => exact ⟨(x5_4), (wrap64 (x6_3 + 1)), (by first | rfl | (simp; done) | (simp [*]; done)), H', ⟨by have := HJ1.out; have := HK2.out; have := HK3.out; have := HK4.out; omega⟩, ⟨by (with_reducible repeat (first | apply Kd.R_alloc | apply Kd.R_drewN | apply Kd.R_drew)); exact HO_5.out⟩, ⟨by repeat (first | (with_reducible first | exact HB.out | apply below_alloc | apply pw_below_drewN | apply below_drew1) | exact HB.out)⟩⟩
                                      · rw [if_neg c19] at H
                                        have c19b0 : (x7_4 == 0) = false := beq_eq_false_iff_ne.mpr c19
                                        have c19b1 : (x7_4 != 0) = true := bne_iff_ne.mpr c19
                                        simp only [Option.some.injEq, Prod.mk.injEq] at H
                                        obtain ⟨rfl, rfl⟩ := H
                                        obtain ⟨Ao21, co21, eo21⟩ := Kd.R_slice HO_5.out
                                        subst eo21
                                        have p225 : 0 ≤ (0 : Int) := (by omega)
                                        have q225 : 0 < (l0.length : Int) := of_decide_eq_true (by first | (with_reducible assumption) | assumption)
                                        obtain ⟨ad225, e225, hx225_0⟩ := Kd.at_int HR0.out 0 p225 q225
                                        obtain rfl : ad223 = ad225 := (by injection e225)
                                        have qi225 : (0 < l0.length) = True := eq_true (by omega)
                                        (try rw [show ((0 : Int)).toNat = 0 from rfl] at hx225_0)
                                        (try rw [Addr.add_zero'] at hx225_0)
                                        replace hx225_0 := (HB.out.cell (World.block_lt_of_cell? w _ hx225_0)).trans hx225_0
                                        replace p225 := eq_true p225
                                        replace q225 := eq_true q225
                                        go_wp2
                                        go_ret2
                                        exact ⟨by first | rfl | (simp [errW_none, errW_some] <;> rfl) | (simp [*, errW_none, errW_some] <;> rfl), by repeat (first | (with_reducible first | exact HB.out | apply below_alloc | apply pw_below_drewN | apply below_drew1) | exact HB.out)⟩
                                  · rw [if_neg c14] at H
                                    exact absurd H (by simp)
                                · rw [if_neg c13] at H
                                  have c13b0 : decide (x8_4 < 7) = false := decide_eq_false c13
                                  clear c13
                                  by_cases c22 : x7_4 = 0
                                  · rw [if_pos c22] at H
                                    have c22b0 : (x7_4 == 0) = true := beq_iff_eq.mpr c22
                                    have c22b1 : (x7_4 != 0) = false := bne_eq_false_iff_eq.mpr c22
                                    clear c22
                                    have H' := Aside0.mk H
                                    clear H
                                    go_wp2
                                    go_roundg k4
                                    case measure => have := HJ1.out; have := HK2.out; have := HK3.out; have := HK4.out; omega
                                    case rel => exact ⟨(x5_4), (wrap64 (x6_3 + 1)), (by first | rfl | (simp; done) | (simp [*]; done)), H', ⟨by have := HJ1.out; have := HK2.out; have := HK3.out; have := HK4.out; omega⟩, ⟨by (with_reducible repeat (first | apply Kd.R_alloc | apply Kd.R_drewN | apply Kd.R_drew)); exact HO_5.out⟩, ⟨by repeat (first | (with_reducible first | exact HB.out | apply below_alloc | apply pw_below_drewN | apply below_drew1) | exact HB.out)⟩⟩
                                  · rw [if_neg c22] at H
                                    have c22b0 : (x7_4 == 0) = false := beq_eq_false_iff_ne.mpr c22
                                    have c22b1 : (x7_4 != 0) = true := bne_iff_ne.mpr c22
                                    simp only [Option.some.injEq, Prod.mk.injEq] at H
                                    obtain ⟨rfl, rfl⟩ := H
                                    go_wp2
                                    go_ret2
                                    exact ⟨by first | rfl | (simp [errW_none, errW_some] <;> rfl) | (simp [*, errW_none, errW_some] <;> rfl), by repeat (first | (with_reducible first | exact HB.out | apply below_alloc | apply pw_below_drewN | apply below_drew1) | exact HB.out)⟩
                        · rw [if_neg c11] at H
                          exact absurd H (by simp)
                      · rw [if_neg c10] at H
                        have c10b0 : decide (x6_3 < (l0.length : Int)) = false := decide_eq_false c10
                        clear c10
                        simp only [Option.some.injEq, Prod.mk.injEq] at H
                        obtain ⟨rfl, rfl⟩ := H
                        have hcv23 := own_string (P := Try.prog) Try.underlying97 Try.underlying5 Try.underlying9 (Kd.own_of_R HO_5.out)
                        go_wp2
                        go_ret2
                        exact ⟨by first | rfl | (simp [errW_none, errW_some] <;> rfl) | (simp [*, errW_none, errW_some] <;> rfl), by repeat (first | (with_reducible first | exact HB.out | apply below_alloc | apply pw_below_drewN | apply below_drew1) | exact HB.out)⟩
                · rw [if_neg c9] at H
                  have c9b0 : ((l0.length : Int) == x4_2) = false := beq_eq_false_iff_ne.mpr c9
                  have c9b1 : ((l0.length : Int) != x4_2) = true := bne_iff_ne.mpr c9
                  simp only [Option.some.injEq, Prod.mk.injEq] at H
                  obtain ⟨rfl, rfl⟩ := H
                  have p223 : 0 ≤ (0 : Int) := (by omega)
                  have q223 : 0 < (l0.length : Int) := of_decide_eq_true (by first | (with_reducible assumption) | assumption)
                  obtain ⟨ad223, e223, hx223_0⟩ := Kd.at_int HR0.out 0 p223 q223
                  cases e223
                  have qi223 : (0 < l0.length) = True := eq_true (by omega)
                  (try rw [show ((0 : Int)).toNat = 0 from rfl] at hx223_0)
                  (try rw [Addr.add_zero'] at hx223_0)
                  replace hx223_0 := (HB.out.cell (World.block_lt_of_cell? w _ hx223_0)).trans hx223_0
                  replace p223 := eq_true p223
                  replace q223 := eq_true q223
                  go_wp2
                  go_ret2
                  exact ⟨by first | rfl | (simp [errW_none, errW_some] <;> rfl) | (simp [*, errW_none, errW_some] <;> rfl), by repeat (first | (with_reducible first | exact HB.out | apply below_alloc | apply pw_below_drewN | apply below_drew1) | exact HB.out)⟩
            · rw [if_neg c7] at H
              exact absurd H (by simp)

-- NOT PRINTED: function 27 (selvageref16_Str)

-- NOT PRINTED: function 44 (selvageref16_Join)

-- NOT PRINTED: function 45 (selvageref16_Close)

-- NOT PRINTED: function 16 (selvagelaw16_does)

-- NOT PRINTED: function 5 (selvagelaw16_PrimsMake)

-- NOT PRINTED: function 6 (selvagelaw16_PrimsJoin)

-- NOT PRINTED: function 29 (selvageref16_Open)

-- NOT PRINTED: function 30 (prims_Case)

-- NOT PRINTED: function 31 (selvageref16_Case)

-- NOT PRINTED: function 7 (selvagelaw16_PrimsTold)

-- NOT PRINTED: function 33 (heap_Heap_Collect)

-- NOT PRINTED: function 8 (selvagelaw16_PrimsKeep)

end Go.Proofs.Ytkmoneccehbncaa.Print
