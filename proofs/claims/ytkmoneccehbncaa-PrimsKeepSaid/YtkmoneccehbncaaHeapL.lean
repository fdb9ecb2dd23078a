/- prims: Sum, with its table of signs; no condition but what each theorem states. -/
import Derived.Test.YtkmoneccehbncaaHeapK
import Derived.Outline
namespace Go.Proofs.Ytkmoneccehbncaa.Heap
open Go.RowKit Go.Proofs.YtkmoneccehbncaaW.PrintWords Go.Proofs.YtkmoneccehbncaaW.PrintLast Go.Proofs.YtkmoneccehbncaaW.PrintMore Go.Proofs.Ytkmoneccehbncaa.Print Go.Proofs.Ytkmoneccehbncaa.Ints
set_option linter.unusedVariables false
set_option linter.unusedSimpArgs false

/-- The bytes of sum number k. -/
def signOf (k : Int) : List UInt8 := if k = 0 then [43] else if k = 1 then [45] else if k = 2 then [42] else if k = 3 then [47] else if k = 4 then [37] else if k = 5 then [61] else [60]
/-- What a sum of words comes to; the second number is the error. -/
def sumOf (k a b : Int) : Int × Int :=
  if k < 0 ∨ 7 ≤ k then (0, 1)
  else if a % 2 = 0 ∨ b % 2 = 0 then (0, 4)
  else if (ans (signOf k) (a / 2) (b / 2)).2 = 0 then (2 * W (ans (signOf k) (a / 2) (b / 2)).1 + 1, 0) else (0, (ans (signOf k) (a / 2) (b / 2)).2)

set_option maxHeartbeats 800000 in
set_option maxRecDepth 100000 in
theorem signs_calls (W : World) :
    Calls Try.prog 34 #[] W fun e w' => e = .returned (.agg #[.string ⟨#[43]⟩, .string ⟨#[45]⟩, .string ⟨#[42]⟩, .string ⟨#[47]⟩, .string ⟨#[37]⟩, .string ⟨#[61]⟩, .string ⟨#[60]⟩]) ∧ Below W.heap.size W w' := by
  go_enter Try.func34, Try.ntmps34
  go_wp2
  exact bodyPost_ret (v := .agg #[.string ⟨#[43]⟩, .string ⟨#[45]⟩, .string ⟨#[42]⟩, .string ⟨#[47]⟩, .string ⟨#[37]⟩, .string ⟨#[61]⟩, .string ⟨#[60]⟩]) (by simp [results, Try.results34, go_sem]) rfl ⟨rfl, below_alloc (Below.refl _ _) _⟩

set_option maxHeartbeats 8000000 in
set_option maxRecDepth 100000 in
theorem sum_calls (k a b : Int) (W : World) :
    Calls Try.prog 9 #[.int .i64 k, .int .i64 a, .int .i64 b] W fun e w' => e = .returned (.tuple #[.int .i64 (sumOf k a b).1, .int .i64 (sumOf k a b).2]) ∧ Below W.heap.size W w' := by
  have HS := Aside0.mk (signs_calls W)
  have hua := untag_eq a
  have hub := untag_eq b
  unfold sumOf
  by_cases h1 : k < 0
  · rw [if_pos (.inl h1)]
    clear hua hub
    go_enter Try.func9, Try.ntmps9
    go_wp2_with (go_at_call 34; (with_reducible refine HS.out.mono ?_); rintro e w1 ⟨rfl, hb⟩; have HB := Aside0.mk hb; clear hb)
    go_ret2
    exact ⟨rfl, (by repeat (first | exact HB.out | apply below_alloc | apply pw_below_drewN | apply below_drew1))⟩
  by_cases h2 : 7 ≤ k
  · rw [if_pos (.inr h2)]
    clear hua hub
    go_enter Try.func9, Try.ntmps9
    go_wp2_with (go_at_call 34; (with_reducible refine HS.out.mono ?_); rintro e w1 ⟨rfl, hb⟩; have HB := Aside0.mk hb; clear hb)
    go_ret2
    exact ⟨rfl, (by repeat (first | exact HB.out | apply below_alloc | apply pw_below_drewN | apply below_drew1))⟩
  rw [if_neg (fun h => h.elim h1 h2)]
  by_cases ha : a % 2 = 0
  · rw [if_pos ha] at hua
    have HA := Aside0.mk hua
    clear hua
    rw [if_pos (.inl ha)]
    clear ha
    by_cases hb : b % 2 = 0
    · rw [if_pos hb] at hub
      have HBU := Aside0.mk hub
      clear hub
      clear hb
      go_enter Try.func9, Try.ntmps9
      go_wp2_with (first | (go_at_call 34; (with_reducible refine HS.out.mono ?_); rintro e w1 ⟨rfl, hb⟩; have HB := Aside0.mk hb; clear hb) | (go_at_call 35; (with_reducible refine (ints_Untag.calls a 0 false _ HA.out).mono ?_); rintro e w' ⟨rfl, ⟨nd, rfl⟩⟩) | (go_at_call 35; (with_reducible refine (ints_Untag.calls b 0 false _ HBU.out).mono ?_); rintro e w' ⟨rfl, ⟨nd, rfl⟩⟩))
      go_ret2
      exact ⟨rfl, (by repeat (first | exact HB.out | apply below_alloc | apply pw_below_drewN | apply below_drew1))⟩
    · rw [if_neg hb] at hub
      have HBU := Aside0.mk hub
      clear hub
      clear hb
      go_enter Try.func9, Try.ntmps9
      go_wp2_with (first | (go_at_call 34; (with_reducible refine HS.out.mono ?_); rintro e w1 ⟨rfl, hb⟩; have HB := Aside0.mk hb; clear hb) | (go_at_call 35; (with_reducible refine (ints_Untag.calls a 0 false _ HA.out).mono ?_); rintro e w' ⟨rfl, ⟨nd, rfl⟩⟩) | (go_at_call 35; (with_reducible refine (ints_Untag.calls b (b / 2) true _ HBU.out).mono ?_); rintro e w' ⟨rfl, ⟨nd, rfl⟩⟩))
      go_ret2
      exact ⟨rfl, (by repeat (first | exact HB.out | apply below_alloc | apply pw_below_drewN | apply below_drew1))⟩
  · rw [if_neg ha] at hua
    have HA := Aside0.mk hua
    clear hua
    by_cases hb : b % 2 = 0
    · rw [if_pos hb] at hub
      have HBU := Aside0.mk hub
      clear hub
      rw [if_pos (.inr hb)]
      clear hb
      clear ha
      go_enter Try.func9, Try.ntmps9
      go_wp2_with (first | (go_at_call 34; (with_reducible refine HS.out.mono ?_); rintro e w1 ⟨rfl, hb⟩; have HB := Aside0.mk hb; clear hb) | (go_at_call 35; (with_reducible refine (ints_Untag.calls a (a / 2) true _ HA.out).mono ?_); rintro e w' ⟨rfl, ⟨nd, rfl⟩⟩) | (go_at_call 35; (with_reducible refine (ints_Untag.calls b 0 false _ HBU.out).mono ?_); rintro e w' ⟨rfl, ⟨nd, rfl⟩⟩))
      go_ret2
      exact ⟨rfl, (by repeat (first | exact HB.out | apply below_alloc | apply pw_below_drewN | apply below_drew1))⟩
    · rw [if_neg hb] at hub
      have HBU := Aside0.mk hub
      clear hub
      rw [if_neg (fun h => h.elim ha hb)]
      clear ha hb
      generalize a / 2 = x at *
      generalize b / 2 = y at *
      have hk : k = 0 ∨ k = 1 ∨ k = 2 ∨ k = 3 ∨ k = 4 ∨ k = 5 ∨ k = 6 := by omega
      clear h1 h2
      rcases hk with rfl | rfl | rfl | rfl | rfl | rfl | rfl
      · have hd : ints_Do.f 2 ⟨#[43]⟩ x y = some (ans (signOf 0) x y) := by rw [show signOf 0 = (⟨#[43]⟩ : ByteArray).toList from (by decide +kernel)]; exact do_eq 0 _ x y
        generalize ans (signOf 0) x y = r at *
        obtain ⟨r1, r2⟩ := r
        have ht := tag_eq r1
        simp only
        have HD := Aside0.mk hd
        have HT := Aside0.mk ht
        clear hd ht
        by_cases hr : r2 = 0
        · subst hr
          rw [if_pos rfl]
          go_enter Try.func9, Try.ntmps9
          go_wp2_with (first | (go_at_call 34; (with_reducible refine HS.out.mono ?_); rintro e w1 ⟨rfl, hb⟩; have HB := Aside0.mk hb; clear hb) | (go_at_call 35; (with_reducible refine (ints_Untag.calls a x true _ HA.out).mono ?_); rintro e w' ⟨rfl, ⟨nd, rfl⟩⟩) | (go_at_call 35; (with_reducible refine (ints_Untag.calls b y true _ HBU.out).mono ?_); rintro e w' ⟨rfl, ⟨nd, rfl⟩⟩) | (go_at_call 36; (with_reducible refine (ints_Do.calls 2 ⟨#[43]⟩ x y r1 0 _ HD.out).mono ?_); rintro e w' ⟨rfl, ⟨nd, rfl⟩⟩) | (go_at_call 37; (with_reducible refine (ints_Tag.calls r1 (2 * Ints.W r1 + 1) _ HT.out).mono ?_); rintro e w' ⟨rfl, ⟨nd, rfl⟩⟩))
          go_ret2
          exact ⟨rfl, (by repeat (first | exact HB.out | apply below_alloc | apply pw_below_drewN | apply below_drew1))⟩
        · rw [if_neg hr]
          have n1 : (r2 != 0) = true := bne_iff_ne.2 hr
          have n2 : (r2 == 0) = false := beq_eq_false_iff_ne.2 hr
          clear hr
          go_enter Try.func9, Try.ntmps9
          go_wp2_with (first | (go_at_call 34; (with_reducible refine HS.out.mono ?_); rintro e w1 ⟨rfl, hb⟩; have HB := Aside0.mk hb; clear hb) | (go_at_call 35; (with_reducible refine (ints_Untag.calls a x true _ HA.out).mono ?_); rintro e w' ⟨rfl, ⟨nd, rfl⟩⟩) | (go_at_call 35; (with_reducible refine (ints_Untag.calls b y true _ HBU.out).mono ?_); rintro e w' ⟨rfl, ⟨nd, rfl⟩⟩) | (go_at_call 36; (with_reducible refine (ints_Do.calls 2 ⟨#[43]⟩ x y r1 r2 _ HD.out).mono ?_); rintro e w' ⟨rfl, ⟨nd, rfl⟩⟩))
          go_ret2
          exact ⟨rfl, (by repeat (first | exact HB.out | apply below_alloc | apply pw_below_drewN | apply below_drew1))⟩
      · have hd : ints_Do.f 2 ⟨#[45]⟩ x y = some (ans (signOf 1) x y) := by rw [show signOf 1 = (⟨#[45]⟩ : ByteArray).toList from (by decide +kernel)]; exact do_eq 0 _ x y
        generalize ans (signOf 1) x y = r at *
        obtain ⟨r1, r2⟩ := r
        have ht := tag_eq r1
        simp only
        have HD := Aside0.mk hd
        have HT := Aside0.mk ht
        clear hd ht
        by_cases hr : r2 = 0
        · subst hr
          rw [if_pos rfl]
          go_enter Try.func9, Try.ntmps9
          go_wp2_with (first | (go_at_call 34; (with_reducible refine HS.out.mono ?_); rintro e w1 ⟨rfl, hb⟩; have HB := Aside0.mk hb; clear hb) | (go_at_call 35; (with_reducible refine (ints_Untag.calls a x true _ HA.out).mono ?_); rintro e w' ⟨rfl, ⟨nd, rfl⟩⟩) | (go_at_call 35; (with_reducible refine (ints_Untag.calls b y true _ HBU.out).mono ?_); rintro e w' ⟨rfl, ⟨nd, rfl⟩⟩) | (go_at_call 36; (with_reducible refine (ints_Do.calls 2 ⟨#[45]⟩ x y r1 0 _ HD.out).mono ?_); rintro e w' ⟨rfl, ⟨nd, rfl⟩⟩) | (go_at_call 37; (with_reducible refine (ints_Tag.calls r1 (2 * Ints.W r1 + 1) _ HT.out).mono ?_); rintro e w' ⟨rfl, ⟨nd, rfl⟩⟩))
          go_ret2
          exact ⟨rfl, (by repeat (first | exact HB.out | apply below_alloc | apply pw_below_drewN | apply below_drew1))⟩
        · rw [if_neg hr]
          have n1 : (r2 != 0) = true := bne_iff_ne.2 hr
          have n2 : (r2 == 0) = false := beq_eq_false_iff_ne.2 hr
          clear hr
          go_enter Try.func9, Try.ntmps9
          go_wp2_with (first | (go_at_call 34; (with_reducible refine HS.out.mono ?_); rintro e w1 ⟨rfl, hb⟩; have HB := Aside0.mk hb; clear hb) | (go_at_call 35; (with_reducible refine (ints_Untag.calls a x true _ HA.out).mono ?_); rintro e w' ⟨rfl, ⟨nd, rfl⟩⟩) | (go_at_call 35; (with_reducible refine (ints_Untag.calls b y true _ HBU.out).mono ?_); rintro e w' ⟨rfl, ⟨nd, rfl⟩⟩) | (go_at_call 36; (with_reducible refine (ints_Do.calls 2 ⟨#[45]⟩ x y r1 r2 _ HD.out).mono ?_); rintro e w' ⟨rfl, ⟨nd, rfl⟩⟩))
          go_ret2
          exact ⟨rfl, (by repeat (first | exact HB.out | apply below_alloc | apply pw_below_drewN | apply below_drew1))⟩
      · have hd : ints_Do.f 2 ⟨#[42]⟩ x y = some (ans (signOf 2) x y) := by rw [show signOf 2 = (⟨#[42]⟩ : ByteArray).toList from (by decide +kernel)]; exact do_eq 0 _ x y
        generalize ans (signOf 2) x y = r at *
        obtain ⟨r1, r2⟩ := r
        have ht := tag_eq r1
        simp only
        have HD := Aside0.mk hd
        have HT := Aside0.mk ht
        clear hd ht
        by_cases hr : r2 = 0
        · subst hr
          rw [if_pos rfl]
          go_enter Try.func9, Try.ntmps9
          go_wp2_with (first | (go_at_call 34; (with_reducible refine HS.out.mono ?_); rintro e w1 ⟨rfl, hb⟩; have HB := Aside0.mk hb; clear hb) | (go_at_call 35; (with_reducible refine (ints_Untag.calls a x true _ HA.out).mono ?_); rintro e w' ⟨rfl, ⟨nd, rfl⟩⟩) | (go_at_call 35; (with_reducible refine (ints_Untag.calls b y true _ HBU.out).mono ?_); rintro e w' ⟨rfl, ⟨nd, rfl⟩⟩) | (go_at_call 36; (with_reducible refine (ints_Do.calls 2 ⟨#[42]⟩ x y r1 0 _ HD.out).mono ?_); rintro e w' ⟨rfl, ⟨nd, rfl⟩⟩) | (go_at_call 37; (with_reducible refine (ints_Tag.calls r1 (2 * Ints.W r1 + 1) _ HT.out).mono ?_); rintro e w' ⟨rfl, ⟨nd, rfl⟩⟩))
          go_ret2
          exact ⟨rfl, (by repeat (first | exact HB.out | apply below_alloc | apply pw_below_drewN | apply below_drew1))⟩
        · rw [if_neg hr]
          have n1 : (r2 != 0) = true := bne_iff_ne.2 hr
          have n2 : (r2 == 0) = false := beq_eq_false_iff_ne.2 hr
          clear hr
          go_enter Try.func9, Try.ntmps9
          go_wp2_with (first | (go_at_call 34; (with_reducible refine HS.out.mono ?_); rintro e w1 ⟨rfl, hb⟩; have HB := Aside0.mk hb; clear hb) | (go_at_call 35; (with_reducible refine (ints_Untag.calls a x true _ HA.out).mono ?_); rintro e w' ⟨rfl, ⟨nd, rfl⟩⟩) | (go_at_call 35; (with_reducible refine (ints_Untag.calls b y true _ HBU.out).mono ?_); rintro e w' ⟨rfl, ⟨nd, rfl⟩⟩) | (go_at_call 36; (with_reducible refine (ints_Do.calls 2 ⟨#[42]⟩ x y r1 r2 _ HD.out).mono ?_); rintro e w' ⟨rfl, ⟨nd, rfl⟩⟩))
          go_ret2
          exact ⟨rfl, (by repeat (first | exact HB.out | apply below_alloc | apply pw_below_drewN | apply below_drew1))⟩
      · have hd : ints_Do.f 2 ⟨#[47]⟩ x y = some (ans (signOf 3) x y) := by rw [show signOf 3 = (⟨#[47]⟩ : ByteArray).toList from (by decide +kernel)]; exact do_eq 0 _ x y
        generalize ans (signOf 3) x y = r at *
        obtain ⟨r1, r2⟩ := r
        have ht := tag_eq r1
        simp only
        have HD := Aside0.mk hd
        have HT := Aside0.mk ht
        clear hd ht
        by_cases hr : r2 = 0
        · subst hr
          rw [if_pos rfl]
          go_enter Try.func9, Try.ntmps9
          go_wp2_with (first | (go_at_call 34; (with_reducible refine HS.out.mono ?_); rintro e w1 ⟨rfl, hb⟩; have HB := Aside0.mk hb; clear hb) | (go_at_call 35; (with_reducible refine (ints_Untag.calls a x true _ HA.out).mono ?_); rintro e w' ⟨rfl, ⟨nd, rfl⟩⟩) | (go_at_call 35; (with_reducible refine (ints_Untag.calls b y true _ HBU.out).mono ?_); rintro e w' ⟨rfl, ⟨nd, rfl⟩⟩) | (go_at_call 36; (with_reducible refine (ints_Do.calls 2 ⟨#[47]⟩ x y r1 0 _ HD.out).mono ?_); rintro e w' ⟨rfl, ⟨nd, rfl⟩⟩) | (go_at_call 37; (with_reducible refine (ints_Tag.calls r1 (2 * Ints.W r1 + 1) _ HT.out).mono ?_); rintro e w' ⟨rfl, ⟨nd, rfl⟩⟩))
          go_ret2
          exact ⟨rfl, (by repeat (first | exact HB.out | apply below_alloc | apply pw_below_drewN | apply below_drew1))⟩
        · rw [if_neg hr]
          have n1 : (r2 != 0) = true := bne_iff_ne.2 hr
          have n2 : (r2 == 0) = false := beq_eq_false_iff_ne.2 hr
          clear hr
          go_enter Try.func9, Try.ntmps9
          go_wp2_with (first | (go_at_call 34; (with_reducible refine HS.out.mono ?_); rintro e w1 ⟨rfl, hb⟩; have HB := Aside0.mk hb; clear hb) | (go_at_call 35; (with_reducible refine (ints_Untag.calls a x true _ HA.out).mono ?_); rintro e w' ⟨rfl, ⟨nd, rfl⟩⟩) | (go_at_call 35; (with_reducible refine (ints_Untag.calls b y true _ HBU.out).mono ?_); rintro e w' ⟨rfl, ⟨nd, rfl⟩⟩) | (go_at_call 36; (with_reducible refine (ints_Do.calls 2 ⟨#[47]⟩ x y r1 r2 _ HD.out).mono ?_); rintro e w' ⟨rfl, ⟨nd, rfl⟩⟩))
          go_ret2
          exact ⟨rfl, (by repeat (first | exact HB.out | apply below_alloc | apply pw_below_drewN | apply below_drew1))⟩
      · have hd : ints_Do.f 2 ⟨#[37]⟩ x y = some (ans (signOf 4) x y) := by rw [show signOf 4 = (⟨#[37]⟩ : ByteArray).toList from (by decide +kernel)]; exact do_eq 0 _ x y
        generalize ans (signOf 4) x y = r at *
        obtain ⟨r1, r2⟩ := r
        have ht := tag_eq r1
        simp only
        have HD := Aside0.mk hd
        have HT := Aside0.mk ht
        clear hd ht
        by_cases hr : r2 = 0
        · subst hr
          rw [if_pos rfl]
          go_enter Try.func9, Try.ntmps9
          go_wp2_with (first | (go_at_call 34; (with_reducible refine HS.out.mono ?_); rintro e w1 ⟨rfl, hb⟩; have HB := Aside0.mk hb; clear hb) | (go_at_call 35; (with_reducible refine (ints_Untag.calls a x true _ HA.out).mono ?_); rintro e w' ⟨rfl, ⟨nd, rfl⟩⟩) | (go_at_call 35; (with_reducible refine (ints_Untag.calls b y true _ HBU.out).mono ?_); rintro e w' ⟨rfl, ⟨nd, rfl⟩⟩) | (go_at_call 36; (with_reducible refine (ints_Do.calls 2 ⟨#[37]⟩ x y r1 0 _ HD.out).mono ?_); rintro e w' ⟨rfl, ⟨nd, rfl⟩⟩) | (go_at_call 37; (with_reducible refine (ints_Tag.calls r1 (2 * Ints.W r1 + 1) _ HT.out).mono ?_); rintro e w' ⟨rfl, ⟨nd, rfl⟩⟩))
          go_ret2
          exact ⟨rfl, (by repeat (first | exact HB.out | apply below_alloc | apply pw_below_drewN | apply below_drew1))⟩
        · rw [if_neg hr]
          have n1 : (r2 != 0) = true := bne_iff_ne.2 hr
          have n2 : (r2 == 0) = false := beq_eq_false_iff_ne.2 hr
          clear hr
          go_enter Try.func9, Try.ntmps9
          go_wp2_with (first | (go_at_call 34; (with_reducible refine HS.out.mono ?_); rintro e w1 ⟨rfl, hb⟩; have HB := Aside0.mk hb; clear hb) | (go_at_call 35; (with_reducible refine (ints_Untag.calls a x true _ HA.out).mono ?_); rintro e w' ⟨rfl, ⟨nd, rfl⟩⟩) | (go_at_call 35; (with_reducible refine (ints_Untag.calls b y true _ HBU.out).mono ?_); rintro e w' ⟨rfl, ⟨nd, rfl⟩⟩) | (go_at_call 36; (with_reducible refine (ints_Do.calls 2 ⟨#[37]⟩ x y r1 r2 _ HD.out).mono ?_); rintro e w' ⟨rfl, ⟨nd, rfl⟩⟩))
          go_ret2
          exact ⟨rfl, (by repeat (first | exact HB.out | apply below_alloc | apply pw_below_drewN | apply below_drew1))⟩
      · have hd : ints_Do.f 2 ⟨#[61]⟩ x y = some (ans (signOf 5) x y) := by rw [show signOf 5 = (⟨#[61]⟩ : ByteArray).toList from (by decide +kernel)]; exact do_eq 0 _ x y
        generalize ans (signOf 5) x y = r at *
        obtain ⟨r1, r2⟩ := r
        have ht := tag_eq r1
        simp only
        have HD := Aside0.mk hd
        have HT := Aside0.mk ht
        clear hd ht
        by_cases hr : r2 = 0
        · subst hr
          rw [if_pos rfl]
          go_enter Try.func9, Try.ntmps9
          go_wp2_with (first | (go_at_call 34; (with_reducible refine HS.out.mono ?_); rintro e w1 ⟨rfl, hb⟩; have HB := Aside0.mk hb; clear hb) | (go_at_call 35; (with_reducible refine (ints_Untag.calls a x true _ HA.out).mono ?_); rintro e w' ⟨rfl, ⟨nd, rfl⟩⟩) | (go_at_call 35; (with_reducible refine (ints_Untag.calls b y true _ HBU.out).mono ?_); rintro e w' ⟨rfl, ⟨nd, rfl⟩⟩) | (go_at_call 36; (with_reducible refine (ints_Do.calls 2 ⟨#[61]⟩ x y r1 0 _ HD.out).mono ?_); rintro e w' ⟨rfl, ⟨nd, rfl⟩⟩) | (go_at_call 37; (with_reducible refine (ints_Tag.calls r1 (2 * Ints.W r1 + 1) _ HT.out).mono ?_); rintro e w' ⟨rfl, ⟨nd, rfl⟩⟩))
          go_ret2
          exact ⟨rfl, (by repeat (first | exact HB.out | apply below_alloc | apply pw_below_drewN | apply below_drew1))⟩
        · rw [if_neg hr]
          have n1 : (r2 != 0) = true := bne_iff_ne.2 hr
          have n2 : (r2 == 0) = false := beq_eq_false_iff_ne.2 hr
          clear hr
          go_enter Try.func9, Try.ntmps9
          go_wp2_with (first | (go_at_call 34; (with_reducible refine HS.out.mono ?_); rintro e w1 ⟨rfl, hb⟩; have HB := Aside0.mk hb; clear hb) | (go_at_call 35; (with_reducible refine (ints_Untag.calls a x true _ HA.out).mono ?_); rintro e w' ⟨rfl, ⟨nd, rfl⟩⟩) | (go_at_call 35; (with_reducible refine (ints_Untag.calls b y true _ HBU.out).mono ?_); rintro e w' ⟨rfl, ⟨nd, rfl⟩⟩) | (go_at_call 36; (with_reducible refine (ints_Do.calls 2 ⟨#[61]⟩ x y r1 r2 _ HD.out).mono ?_); rintro e w' ⟨rfl, ⟨nd, rfl⟩⟩))
          go_ret2
          exact ⟨rfl, (by repeat (first | exact HB.out | apply below_alloc | apply pw_below_drewN | apply below_drew1))⟩
      · have hd : ints_Do.f 2 ⟨#[60]⟩ x y = some (ans (signOf 6) x y) := by rw [show signOf 6 = (⟨#[60]⟩ : ByteArray).toList from (by decide +kernel)]; exact do_eq 0 _ x y
        generalize ans (signOf 6) x y = r at *
        obtain ⟨r1, r2⟩ := r
        have ht := tag_eq r1
        simp only
        have HD := Aside0.mk hd
        have HT := Aside0.mk ht
        clear hd ht
        by_cases hr : r2 = 0
        · subst hr
          rw [if_pos rfl]
          go_enter Try.func9, Try.ntmps9
          go_wp2_with (first | (go_at_call 34; (with_reducible refine HS.out.mono ?_); rintro e w1 ⟨rfl, hb⟩; have HB := Aside0.mk hb; clear hb) | (go_at_call 35; (with_reducible refine (ints_Untag.calls a x true _ HA.out).mono ?_); rintro e w' ⟨rfl, ⟨nd, rfl⟩⟩) | (go_at_call 35; (with_reducible refine (ints_Untag.calls b y true _ HBU.out).mono ?_); rintro e w' ⟨rfl, ⟨nd, rfl⟩⟩) | (go_at_call 36; (with_reducible refine (ints_Do.calls 2 ⟨#[60]⟩ x y r1 0 _ HD.out).mono ?_); rintro e w' ⟨rfl, ⟨nd, rfl⟩⟩) | (go_at_call 37; (with_reducible refine (ints_Tag.calls r1 (2 * Ints.W r1 + 1) _ HT.out).mono ?_); rintro e w' ⟨rfl, ⟨nd, rfl⟩⟩))
          go_ret2
          exact ⟨rfl, (by repeat (first | exact HB.out | apply below_alloc | apply pw_below_drewN | apply below_drew1))⟩
        · rw [if_neg hr]
          have n1 : (r2 != 0) = true := bne_iff_ne.2 hr
          have n2 : (r2 == 0) = false := beq_eq_false_iff_ne.2 hr
          clear hr
          go_enter Try.func9, Try.ntmps9
          go_wp2_with (first | (go_at_call 34; (with_reducible refine HS.out.mono ?_); rintro e w1 ⟨rfl, hb⟩; have HB := Aside0.mk hb; clear hb) | (go_at_call 35; (with_reducible refine (ints_Untag.calls a x true _ HA.out).mono ?_); rintro e w' ⟨rfl, ⟨nd, rfl⟩⟩) | (go_at_call 35; (with_reducible refine (ints_Untag.calls b y true _ HBU.out).mono ?_); rintro e w' ⟨rfl, ⟨nd, rfl⟩⟩) | (go_at_call 36; (with_reducible refine (ints_Do.calls 2 ⟨#[60]⟩ x y r1 r2 _ HD.out).mono ?_); rintro e w' ⟨rfl, ⟨nd, rfl⟩⟩))
          go_ret2
          exact ⟨rfl, (by repeat (first | exact HB.out | apply below_alloc | apply pw_below_drewN | apply below_drew1))⟩
end Go.Proofs.Ytkmoneccehbncaa.Heap
