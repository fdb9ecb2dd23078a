/- slices.IndexFunc and slices.ContainsFunc with a test that only reads; no condition but what each theorem states. -/
import Derived.Test.YtkmoneccehbncaaHeapE
import Derived.Outline
namespace Go.Proofs.Ytkmoneccehbncaa.Heap
open Go.RowKit Go.Proofs.YtkmoneccehbncaaW.PrintWords Go.Proofs.YtkmoneccehbncaaW.PrintLast Go.Proofs.YtkmoneccehbncaaW.PrintMore Go.Proofs.Ytkmoneccehbncaa.Print Go.Proofs.Ytkmoneccehbncaa.Ints
set_option linter.unusedVariables false
set_option linter.unusedSimpArgs false

/-- The first place from i on at which the test says yes; -1: none. -/
def idxFrom (q : Int → Bool) (i : Int) : List Int → Int
  | [] => -1
  | x :: r => if q x then i else idxFrom q (i + 1) r

theorem idx_any (q : Int → Bool) : ∀ (l : List Int) (i : Int), 0 ≤ i → decide (0 ≤ idxFrom q i l) = l.any q
  | [], _, _ => by simp [idxFrom]
  | x :: r, i, h => by
    rw [List.any_cons]
    by_cases hx : q x = true
    · have e : idxFrom q i (x :: r) = i := by simp only [idxFrom]; rw [if_pos hx]
      rw [e, hx, decide_eq_true h]; rfl
    · have e : idxFrom q i (x :: r) = idxFrom q (i + 1) r := by simp only [idxFrom]; rw [if_neg hx]
      rw [e, Bool.eq_false_iff.mpr hx, idx_any q r (i + 1) (by omega)]; rfl

set_option maxHeartbeats 800000 in
set_option maxRecDepth 100000 in
theorem indexFunc71_calls (cap : Value) (q : Int → Bool) (A : Option Addr) (c : Nat) (l : List Int) (W : World) (hr : ReadsInt W .i64 A l.length l) (hl : l.length ≤ 100000)
    (hf : ∀ n z, Calls Try.prog 71 #[.int .i64 z, cap] (W.drewN n) fun e w' => e = .returned (.bool (q z)) ∧ Drawn0 (W.drewN n) w') :
    Calls Try.prog 75 #[.slice A l.length c, .func (.func 71) #[] #[cap]] W fun e w' => e = .returned (.int .i64 (idxFrom q 0 l)) ∧ Drawn0 W w' := by
  have HF := Aside0.mk hf
  have HR := Aside0.mk hr
  clear hf hr
  go_enter Try.func75, Try.ntmps75
  go_wp2
  go_loopg [8] l.length (fun kq v8 w' => ∃ i : Nat, v8 = .int .i64 (i : Int) ∧ Aside0 (i + kq = l.length) ∧ Aside0 (idxFrom q i (l.drop i) = idxFrom q 0 l) ∧ Drawn0 W w')
  case atStart => exact ⟨0, rfl, ⟨by omega⟩, ⟨rfl⟩, Drawn0.refl _⟩
  case round =>
    obtain ⟨i, rfl, HI, HQ, ⟨m1, rfl⟩⟩ := hrel
    have hi := HI.out
    cases gk with
    | zero =>
      have h2 : l.length ≤ i := by omega
      have e : l.drop i = [] := List.drop_eq_nil_iff.2 (by omega)
      have hq := HQ.out
      rw [e] at hq
      have HQ2 := Aside0.mk hq
      clear hi hq e
      go_wp2
      go_ret
      exact ⟨by rw [← HQ2.out]; rfl, by repeat (first | exact Drawn0.refl _ | apply Drawn0.step)⟩
    | succ k =>
      have hlt : i < l.length := by omega
      obtain ⟨ad, hA, hc⟩ := HR.out.at_ (i : Int) (by omega) (by omega)
      subst hA
      have hc1 : (W.drewN m1).cell? (ad.add i) = some (.int .i64 (l.getD i 0)) := by
        have := hc
        rw [Int.toNat_natCast] at this
        unfold rd at this
        rw [Int.toNat_natCast] at this
        exact this
      have hdrop : l.drop i = l.getD i 0 :: l.drop (i + 1) := by
        rw [List.drop_eq_getElem_cons hlt]; simp [List.getD, List.getElem?_eq_getElem hlt]
      have hq := HQ.out
      rw [hdrop] at hq
      simp only [idxFrom] at hq
      clear hc hdrop HQ
      generalize l.getD i 0 = z at *
      have HC := Aside0.mk (HF.out m1 z)
      clear hi
      by_cases hz : q z = true
      · rw [if_pos hz] at hq
        have hq2 : idxFrom q 0 l = (i : Int) := hq.symm
        have HQ2 := Aside0.mk hq2
        rw [hz] at HC
        clear hq hq2 hz
        go_wp2_with (go_at_call 71; (with_reducible refine HC.out.mono ?_); rintro e w' ⟨rfl, ⟨nd, rfl⟩⟩)
        go_ret
        exact ⟨by rw [HQ2.out]; rfl, by repeat (first | exact Drawn0.refl _ | apply Drawn0.step)⟩
      · rw [if_neg hz] at hq
        have HQ2 := Aside0.mk hq
        have hz' : q z = false := Bool.eq_false_iff.mpr hz
        rw [hz'] at HC
        clear hq hz hz'
        go_wp2_with (go_at_call 71; (with_reducible refine HC.out.mono ?_); rintro e w' ⟨rfl, ⟨nd, rfl⟩⟩)
        go_roundg k
        case measure => omega
        case rel => exact ⟨i + 1, by go_num, ⟨by have := HI.out; omega⟩, ⟨HQ2.out⟩, by repeat (first | exact Drawn0.refl _ | apply Drawn0.step)⟩

set_option maxHeartbeats 800000 in
set_option maxRecDepth 100000 in
theorem containsFunc71_calls (cap : Value) (q : Int → Bool) (A : Option Addr) (c : Nat) (l : List Int) (W : World) (hr : ReadsInt W .i64 A l.length l) (hl : l.length ≤ 100000)
    (hf : ∀ n z, Calls Try.prog 71 #[.int .i64 z, cap] (W.drewN n) fun e w' => e = .returned (.bool (q z)) ∧ Drawn0 (W.drewN n) w') :
    Calls Try.prog 60 #[.slice A l.length c, .func (.func 71) #[] #[cap]] W fun e w' => e = .returned (.bool (l.any q)) ∧ Drawn0 W w' := by
  have HX := Aside0.mk (indexFunc71_calls cap q A c l W hr hl hf)
  clear hf hr
  rw [← idx_any q l 0 (Int.le_refl _)]
  go_enter Try.func60, Try.ntmps60
  go_wp2_with (go_at_call 75; (with_reducible refine HX.out.mono ?_); rintro e w' ⟨rfl, ⟨nd, rfl⟩⟩)
  go_ret
  exact ⟨rfl, by repeat (first | exact Drawn0.refl _ | apply Drawn0.step)⟩

set_option maxHeartbeats 800000 in
set_option maxRecDepth 100000 in
theorem indexFunc61_calls (cap : Value) (q : Int → Bool) (A : Option Addr) (c : Nat) (l : List Int) (W : World) (hr : ReadsInt W .i64 A l.length l) (hl : l.length ≤ 100000)
    (hf : ∀ n z, Calls Try.prog 61 #[.int .i64 z, cap] (W.drewN n) fun e w' => e = .returned (.bool (q z)) ∧ Drawn0 (W.drewN n) w') :
    Calls Try.prog 75 #[.slice A l.length c, .func (.func 61) #[] #[cap]] W fun e w' => e = .returned (.int .i64 (idxFrom q 0 l)) ∧ Drawn0 W w' := by
  have HF := Aside0.mk hf
  have HR := Aside0.mk hr
  clear hf hr
  go_enter Try.func75, Try.ntmps75
  go_wp2
  go_loopg [8] l.length (fun kq v8 w' => ∃ i : Nat, v8 = .int .i64 (i : Int) ∧ Aside0 (i + kq = l.length) ∧ Aside0 (idxFrom q i (l.drop i) = idxFrom q 0 l) ∧ Drawn0 W w')
  case atStart => exact ⟨0, rfl, ⟨by omega⟩, ⟨rfl⟩, Drawn0.refl _⟩
  case round =>
    obtain ⟨i, rfl, HI, HQ, ⟨m1, rfl⟩⟩ := hrel
    have hi := HI.out
    cases gk with
    | zero =>
      have h2 : l.length ≤ i := by omega
      have e : l.drop i = [] := List.drop_eq_nil_iff.2 (by omega)
      have hq := HQ.out
      rw [e] at hq
      have HQ2 := Aside0.mk hq
      clear hi hq e
      go_wp2
      go_ret
      exact ⟨by rw [← HQ2.out]; rfl, by repeat (first | exact Drawn0.refl _ | apply Drawn0.step)⟩
    | succ k =>
      have hlt : i < l.length := by omega
      obtain ⟨ad, hA, hc⟩ := HR.out.at_ (i : Int) (by omega) (by omega)
      subst hA
      have hc1 : (W.drewN m1).cell? (ad.add i) = some (.int .i64 (l.getD i 0)) := by
        have := hc
        rw [Int.toNat_natCast] at this
        unfold rd at this
        rw [Int.toNat_natCast] at this
        exact this
      have hdrop : l.drop i = l.getD i 0 :: l.drop (i + 1) := by
        rw [List.drop_eq_getElem_cons hlt]; simp [List.getD, List.getElem?_eq_getElem hlt]
      have hq := HQ.out
      rw [hdrop] at hq
      simp only [idxFrom] at hq
      clear hc hdrop HQ
      generalize l.getD i 0 = z at *
      have HC := Aside0.mk (HF.out m1 z)
      clear hi
      by_cases hz : q z = true
      · rw [if_pos hz] at hq
        have hq2 : idxFrom q 0 l = (i : Int) := hq.symm
        have HQ2 := Aside0.mk hq2
        rw [hz] at HC
        clear hq hq2 hz
        go_wp2_with (go_at_call 61; (with_reducible refine HC.out.mono ?_); rintro e w' ⟨rfl, ⟨nd, rfl⟩⟩)
        go_ret
        exact ⟨by rw [HQ2.out]; rfl, by repeat (first | exact Drawn0.refl _ | apply Drawn0.step)⟩
      · rw [if_neg hz] at hq
        have HQ2 := Aside0.mk hq
        have hz' : q z = false := Bool.eq_false_iff.mpr hz
        rw [hz'] at HC
        clear hq hz hz'
        go_wp2_with (go_at_call 61; (with_reducible refine HC.out.mono ?_); rintro e w' ⟨rfl, ⟨nd, rfl⟩⟩)
        go_roundg k
        case measure => omega
        case rel => exact ⟨i + 1, by go_num, ⟨by have := HI.out; omega⟩, ⟨HQ2.out⟩, by repeat (first | exact Drawn0.refl _ | apply Drawn0.step)⟩

set_option maxHeartbeats 800000 in
set_option maxRecDepth 100000 in
theorem containsFunc61_calls (cap : Value) (q : Int → Bool) (A : Option Addr) (c : Nat) (l : List Int) (W : World) (hr : ReadsInt W .i64 A l.length l) (hl : l.length ≤ 100000)
    (hf : ∀ n z, Calls Try.prog 61 #[.int .i64 z, cap] (W.drewN n) fun e w' => e = .returned (.bool (q z)) ∧ Drawn0 (W.drewN n) w') :
    Calls Try.prog 60 #[.slice A l.length c, .func (.func 61) #[] #[cap]] W fun e w' => e = .returned (.bool (l.any q)) ∧ Drawn0 W w' := by
  have HX := Aside0.mk (indexFunc61_calls cap q A c l W hr hl hf)
  clear hf hr
  rw [← idx_any q l 0 (Int.le_refl _)]
  go_enter Try.func60, Try.ntmps60
  go_wp2_with (go_at_call 75; (with_reducible refine HX.out.mono ?_); rintro e w' ⟨rfl, ⟨nd, rfl⟩⟩)
  go_ret
  exact ⟨rfl, by repeat (first | exact Drawn0.refl _ | apply Drawn0.step)⟩

end Go.Proofs.Ytkmoneccehbncaa.Heap
