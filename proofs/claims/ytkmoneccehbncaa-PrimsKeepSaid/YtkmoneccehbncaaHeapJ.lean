/- prims over the heap of layer 2 in memory: Text, Close, Open, Clip; no condition but what each theorem states. -/
import Derived.Test.YtkmoneccehbncaaHeapI
import Derived.Test.YtkmoneccehbncaaPrint3
import Derived.Outline
namespace Go.Proofs.Ytkmoneccehbncaa.Heap
open Go.RowKit Go.Proofs.YtkmoneccehbncaaW.PrintWords Go.Proofs.YtkmoneccehbncaaW.PrintLast Go.Proofs.YtkmoneccehbncaaW.PrintMore Go.Proofs.Ytkmoneccehbncaa.Print Go.Proofs.Ytkmoneccehbncaa.Ints
set_option linter.unusedVariables false
set_option linter.unusedSimpArgs false

/-- What a row of the call's own is good for. -/
theorem own_facts {w : World} {B n : Nat} {v : Value} {l : List Int} (h : w.ownsRow B 3 1 v n (nums .i64 l)) : ∃ A c, v = .slice A l.length c ∧ n = l.length ∧ l.length ≤ c ∧ ReadsInt w .i64 A l.length l ∧ ∀ ad, A = some ad → B ≤ ad.block := by
  have hn : n = l.length := by have := h.1; simp [nums] at this; omega
  subst hn
  obtain ⟨A, c, rfl, hr⟩ := own_reads h
  exact ⟨A, c, rfl, rfl, own_cap h, hr, fun ad e => own_base h ad.block (by subst e; rfl)⟩
theorem R_facts {w : World} {B : Nat} {ok : Nat → Prop} {v : Value} {l : List Int} (h : (Kd.int .i64).R 3 w B ok v l) : ∃ A c, v = .slice A l.length c ∧ l.length ≤ c ∧ ReadsInt w .i64 A l.length l ∧ ∀ ad, A = some ad → B ≤ ad.block := by
  have ho := Kd.own_of_R h
  obtain ⟨A, c, e, _, hc, hr, hb⟩ := own_facts (l := l) ho
  exact ⟨A, c, e, hc, hr, hb⟩

/-- What Text hands back, and the heap behind it: l and e: what Pack told. -/
def PH.text (H : PH) (l : List Int) (e : Int) : Int × Int × PH := if e = 0 then H.make 201 l else (0, e, H)

set_option maxHeartbeats 1600000 in
set_option maxRecDepth 100000 in
theorem text_calls (g b m : Nat) (H : PH) (s : ByteArray) (k : Nat) (l : List Int) (e : Int) (W : World) (h : At W g b m H) (hw : H.Wf) (hl : l.length ≤ 100000) (hp : strs_Pack.f k s = some (l, e)) :
    Calls Try.prog 23 #[.pointer (some ⟨g, 0, none⟩), .string s] W fun e' w' => e' = .returned (.tuple #[.int .i64 (H.text l e).1, .int .i64 (H.text l e).2.1]) ∧
      At w' g b m (H.text l e).2.2 ∧ Chg (fun k => k = g ∨ k = b ∨ k = m) W w' := by
  have HP := Aside0.mk hp
  have HM := Aside0.mk (fun A c W h hr hA => make_calls g b m H 201 A c l W h hw hr hl hA)
  have hb := blk_lt h.words
  have HH := Aside0.mk h
  have HB := Aside0.mk hb
  clear hp h hb hw
  unfold PH.text
  by_cases h0 : e = 0
  · subst h0
    rw [if_pos rfl]
    go_enter Try.func23, Try.ntmps23
    go_wp2_with (first | (go_at_call 53; (with_reducible refine (strs_Pack.calls k s l 0 W HP.out).mono ?_); rintro e1 w1 ⟨v0, rfl, ho, hb⟩; obtain ⟨A, c, rfl, hc, hr, hA⟩ := R_facts ho; have HR := Aside0.mk hr; have HA := Aside0.mk hA; have HB1 := Aside0.mk hb; clear ho hb hc hr hA) | (go_at_call 46; (with_reducible refine (HM.out A c _ (HH.out.below HB1.out) HR.out (fun ad e _ => by have := HA.out ad e; have := HB.out; omega)).mono ?_); rintro e2 w2 ⟨rfl, ha, hc⟩; have HA2 := Aside0.mk ha; have HC2 := Aside0.mk hc; clear ha hc))
    go_ret2
    exact ⟨rfl, HA2.out, (Chg.of_below _ HB1.out).trans HC2.out⟩
  · rw [if_neg h0]
    have n1 : (e != 0) = true := bne_iff_ne.2 h0
    have n2 : (e == 0) = false := beq_eq_false_iff_ne.2 h0
    clear h0
    go_enter Try.func23, Try.ntmps23
    go_wp2_with (go_at_call 53; (with_reducible refine (strs_Pack.calls k s l e W HP.out).mono ?_); rintro e1 w1 ⟨v0, rfl, ho, hb⟩; have HB1 := Aside0.mk hb; clear ho hb)
    go_ret2
    exact ⟨rfl, HH.out.below HB1.out, Chg.of_below _ HB1.out⟩

set_option maxHeartbeats 800000 in
set_option maxRecDepth 100000 in
theorem clip_calls (A : Option Addr) (n c : Nat) (hn : n ≤ c) (W : World) (h1 : n ≤ 100000) :
    Calls Try.prog 59 #[.slice A n c] W fun e w' => e = .returned (.slice A n n) ∧ w' = W := by
  go_enter Try.func59, Try.ntmps59
  go_wp2
  go_ret
  exact ⟨rfl, rfl⟩

/-- A row of the call's own that is not empty. -/
theorem own_form {w : World} {B n : Nat} {v : Value} {l : List Int} (h : w.ownsRow B 3 1 v n (nums .i64 l)) (h0 : 0 < l.length) : ∃ g c, v = .slice (some ⟨g, 0, none⟩) l.length c ∧ n = l.length ∧ l.length ≤ c ∧ B ≤ g ∧ ReadsInt w .i64 (some ⟨g, 0, none⟩) l.length l := by
  obtain ⟨A, c, e, hn, hc, hr, hb⟩ := own_facts h
  subst hn
  rcases h.2 with ⟨_, h2⟩ | ⟨g, cap, cur, e2, _⟩
  · omega
  · rw [e] at e2
    injection e2 with e3 e4 e5
    subst e3
    exact ⟨g, c, e, rfl, hc, hb _ rfl, hr⟩

theorem head_cell {w : World} {q : Nat} {x : Int} {r : List Int} (h : ReadsInt w .i64 (some ⟨q, 0, none⟩) (x :: r).length (x :: r)) : w.cell? ⟨q, 0, none⟩ = some (.int .i64 x) := by
  obtain ⟨ad, e, hc⟩ := h.at_ 0 (Int.le_refl _) (by rw [List.length_cons]; omega)
  cases e
  exact hc
/-- A word's tag; -1: it is no block's. -/
def PH.tag (H : PH) (z : Int) : Int := if H.place z = 0 then -1 else (rd H.ws (H.place z)).tmod 256
/-- What Open tells of a closure's fields. -/
def openOf : List Int → Int × List Int × Int
  | [] => (0, [], 4)
  | x :: r => if x % 2 = 0 then (0, [], 4) else if x / 2 < 0 ∨ 2147483647 < x / 2 then (0, [], 4) else (x / 2, r, 0)
def PH.open_ (H : PH) (z : Int) : Int × List Int × Int := if H.tag z = 200 then openOf (H.fields (H.place z)) else (0, [], 4)
theorem PH.fields_len (H : PH) (p : Int) (h : H.ws.length ≤ 100000) : (H.fields p).length ≤ 100000 := by
  unfold PH.fields
  split
  · simp
  · simp; omega

/-- The place of xs[1:], xs from the begin of block q on, with room for c. -/
def cutB (q c : Nat) : Addr := ⟨q, if c = 1 then 0 else 1, none⟩
theorem cut1 (q n c : Nat) (w : World) :
    (Instr.slice 36 (.slice (some ⟨q, 0, none⟩) (n + 1) c) (some (.int .i64 1)) none none).run Try.prog w = .ok (.slice (some (cutB q c)) n (c - 1)) w := by
  have hu : Try.prog.underlying 36 = some (.slice (Try.prog.elem 36)) := by rw [show Try.prog.elem 36 = 3 by kernel_rfl]; exact Try.underlying36
  rw [run_slice_l w 36 (some ⟨q, 0, none⟩) (n + 1) c hu .i64 1 (by omega) (by omega)]
  have hs : (sizeOf (Try.prog.elem 36)).run Try.prog w = .ok 1 w := by kernel_rfl
  rw [hs]
  have e1 : (1 : Int).toNat = 1 := rfl
  simp only [Result.andThen, sliced, e1, Nat.mul_one]
  unfold cutB
  by_cases h0 : c = 1
  · subst h0
    simp
  · simp only [if_neg h0]
    rfl
theorem cut_reads {w : World} {q c : Nat} {x : Int} {r : List Int} (h : ReadsInt w .i64 (some ⟨q, 0, none⟩) (x :: r).length (x :: r)) (hc : (x :: r).length ≤ c) : ReadsInt w .i64 (some (cutB q c)) r.length r := by
  have h1 := h.drop_ 1 (by simp) hc
  have e1 : (x :: r).drop 1 = r := rfl
  have e2 : (x :: r).length - 1 = r.length := by simp
  rw [e1, e2] at h1
  have e3 : (if c = 1 then some (⟨q, 0, none⟩ : Addr) else (some (⟨q, 0, none⟩ : Addr)).map (·.add 1)) = some (cutB q c) := by
    unfold cutB
    by_cases h0 : c = 1
    · rw [if_pos h0, if_pos h0]
    · rw [if_neg h0, if_neg h0]; rfl
  rwa [e3] at h1

/-- What a call hands back besides numbers: a row that is read. -/
def Row (w : World) (B : Nat) (v : Value) (l : List Int) : Prop := ∃ A c, v = .slice A l.length c ∧ l.length ≤ c ∧ ReadsInt w .i64 A l.length l ∧ ∀ ad, A = some ad → B ≤ ad.block
theorem Row.nil (w : World) (B : Nat) : Row w B (.slice none 0 0) [] := ⟨none, 0, rfl, Nat.le_refl _, ReadsInt.nil w .i64, fun _ h => by cases h⟩

set_option maxHeartbeats 4000000 in
set_option maxRecDepth 100000 in
theorem open_calls (g b m : Nat) (H : PH) (z : Int) (W : World) (h : At W g b m H) (hw : H.Wf) :
    Calls Try.prog 28 #[.pointer (some ⟨g, 0, none⟩), .int .i64 z] W fun e w' => ∃ v, e = .returned (.tuple #[.int .i64 (H.open_ z).1, v, .int .i64 (H.open_ z).2.2]) ∧ Row w' W.heap.size v (H.open_ z).2.1 ∧ Below W.heap.size W w' := by
  have HF := Aside0.mk (fields_calls g b m H z W h hw)
  have HT := Aside0.mk (fun W h => tag_calls g b m H z W h (fun hp => by have := hw.blk _ (PH.place_mem (H := H) (z := z) hp); omega))
  have HH := Aside0.mk h
  have hlen := H.fields_len (H.place z) hw.len
  unfold PH.open_
  have et : (if H.place z = 0 then -1 else (rd H.ws (H.place z)).tmod 256) = H.tag z := rfl
  rw [et] at HT
  clear et h hw
  generalize H.tag z = t at *
  generalize H.fields (H.place z) = f at *
  by_cases ht : t = 200
  · subst ht
    rw [if_pos rfl]
    cases f with
    | nil =>
      simp only [openOf]
      go_enter Try.func28, Try.ntmps28
      go_wp2_with (first | (go_at_call 20; (with_reducible refine HF.out.mono ?_); rintro e w1 ⟨v, rfl, ho, hb⟩; obtain ⟨A, c, rfl, _, hc, _, _⟩ := own_facts ho; have HB := Aside0.mk hb; clear ho hb hc) | (go_at_call 55; (with_reducible refine (HT.out _ (HH.out.below HB.out)).mono ?_); rintro e w' ⟨rfl, ⟨nd, rfl⟩⟩))
      go_ret3
      exact ⟨_, rfl, Row.nil _ _, pw_below_drewN HB.out _⟩
    | cons x r =>
      have hu := untag_eq x
      simp only [openOf]
      by_cases hx : x % 2 = 0
      · rw [if_pos hx] at hu ⊢
        have HU := Aside0.mk hu
        have hl0 : ((r.length : Int) + 1 == 0) = false := beq_eq_false_iff_ne.2 (by omega)
        clear hu hx
        go_enter Try.func28, Try.ntmps28
        go_wp2_with (first | (go_at_call 20; (with_reducible refine HF.out.mono ?_); rintro e w1 ⟨v, rfl, ho, hb⟩; obtain ⟨q, c, rfl, _, hc, hB, hr⟩ := own_form ho (by simp); have hx0 := head_cell hr; have HCC := Aside0.mk hc; have HB := Aside0.mk hb; have HBB := Aside0.mk hB; have HR := Aside0.mk hr; clear ho hb hc hr hB) | (go_at_call 55; (with_reducible refine (HT.out _ (HH.out.below HB.out)).mono ?_); rintro e w' ⟨rfl, ⟨nd, rfl⟩⟩) | (go_at_call 35; (with_reducible refine (ints_Untag.calls x 0 false _ HU.out).mono ?_); rintro e w' ⟨rfl, ⟨nd2, rfl⟩⟩))
        go_ret3
        exact ⟨_, rfl, Row.nil _ _, pw_below_drewN HB.out _⟩
      · rw [if_neg hx] at hu ⊢
        have HU := Aside0.mk hu
        have hl0 : ((r.length : Int) + 1 == 0) = false := beq_eq_false_iff_ne.2 (by omega)
        clear hu hx
        generalize x / 2 = n at *
        by_cases hn : n < 0 ∨ 2147483647 < n
        · rw [if_pos hn]
          rcases hn with hn | hn
          · skip
            go_enter Try.func28, Try.ntmps28
            go_wp2_with (first | (go_at_call 20; (with_reducible refine HF.out.mono ?_); rintro e w1 ⟨v, rfl, ho, hb⟩; obtain ⟨q, c, rfl, _, hc, hB, hr⟩ := own_form ho (by simp); have hx0 := head_cell hr; have HCC := Aside0.mk hc; have HB := Aside0.mk hb; have HBB := Aside0.mk hB; have HR := Aside0.mk hr; clear ho hb hc hr hB) | (go_at_call 55; (with_reducible refine (HT.out _ (HH.out.below HB.out)).mono ?_); rintro e w' ⟨rfl, ⟨nd, rfl⟩⟩) | (go_at_call 35; (with_reducible refine (ints_Untag.calls x n true _ HU.out).mono ?_); rintro e w' ⟨rfl, ⟨nd2, rfl⟩⟩))
            go_ret3
            exact ⟨_, rfl, Row.nil _ _, pw_below_drewN HB.out _⟩
          · have hn0 : ¬ n < 0 := by omega
            go_enter Try.func28, Try.ntmps28
            go_wp2_with (first | (go_at_call 20; (with_reducible refine HF.out.mono ?_); rintro e w1 ⟨v, rfl, ho, hb⟩; obtain ⟨q, c, rfl, _, hc, hB, hr⟩ := own_form ho (by simp); have hx0 := head_cell hr; have HCC := Aside0.mk hc; have HB := Aside0.mk hb; have HBB := Aside0.mk hB; have HR := Aside0.mk hr; clear ho hb hc hr hB) | (go_at_call 55; (with_reducible refine (HT.out _ (HH.out.below HB.out)).mono ?_); rintro e w' ⟨rfl, ⟨nd, rfl⟩⟩) | (go_at_call 35; (with_reducible refine (ints_Untag.calls x n true _ HU.out).mono ?_); rintro e w' ⟨rfl, ⟨nd2, rfl⟩⟩))
            go_ret3
            exact ⟨_, rfl, Row.nil _ _, pw_below_drewN HB.out _⟩
        · rw [if_neg hn]
          have hn0 : ¬ n < 0 := fun h => hn (.inl h)
          have hn1 : ¬ 2147483647 < n := fun h => hn (.inr h)
          have hlr : r.length ≤ 100000 := by simp at hlen; omega
          clear hn
          go_enter Try.func28, Try.ntmps28
          go_wp2_with (first | (go_at_call 20; (with_reducible refine HF.out.mono ?_); rintro e w1 ⟨v, rfl, ho, hb⟩; obtain ⟨q, c, rfl, _, hc, hB, hr⟩ := own_form ho (by simp); have hx0 := head_cell hr; have HCC := Aside0.mk hc; have HB := Aside0.mk hb; have HBB := Aside0.mk hB; have HR := Aside0.mk hr; clear ho hb hc hr hB; have hcut := fun W => cut1 q r.length c W) | (go_at_call 55; (with_reducible refine (HT.out _ (HH.out.below HB.out)).mono ?_); rintro e w' ⟨rfl, ⟨nd, rfl⟩⟩) | (go_at_call 35; (with_reducible refine (ints_Untag.calls x n true _ HU.out).mono ?_); rintro e w' ⟨rfl, ⟨nd2, rfl⟩⟩) | (go_at_call 59; (with_reducible refine (clip_calls (some (cutB q c)) r.length (c - 1) (by have := HCC.out; simp at this; omega) _ hlr).mono ?_); rintro e w' ⟨rfl, rfl⟩))
          go_ret3
          exact ⟨_, rfl, ⟨some (cutB q c), r.length, rfl, Nat.le_refl _, reads_drawn (cut_reads HR.out HCC.out) ⟨⟨_, rfl⟩⟩, fun ad e => by cases e; exact HBB.out⟩, pw_below_drewN HB.out _⟩
  · rw [if_neg ht]
    have n1 : (t != 200) = true := bne_iff_ne.2 ht
    have n2 : (t == 200) = false := beq_eq_false_iff_ne.2 ht
    clear ht
    go_enter Try.func28, Try.ntmps28
    go_wp2_with (first | (go_at_call 20; (with_reducible refine HF.out.mono ?_); rintro e w1 ⟨v, rfl, ho, hb⟩; obtain ⟨A, c, rfl, _, hc, _, _⟩ := own_facts ho; have HB := Aside0.mk hb; clear ho hb hc) | (go_at_call 55; (with_reducible refine (HT.out _ (HH.out.below HB.out)).mono ?_); rintro e w' ⟨rfl, ⟨nd, rfl⟩⟩))
    go_ret3
    exact ⟨_, rfl, Row.nil _ _, pw_below_drewN HB.out _⟩
end Go.Proofs.Ytkmoneccehbncaa.Heap
