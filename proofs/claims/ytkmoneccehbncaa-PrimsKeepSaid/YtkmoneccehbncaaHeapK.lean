/- prims over the heap of layer 2 in memory: Close; no condition but what each theorem states. -/
import Derived.Test.YtkmoneccehbncaaHeapJ
import Derived.Outline
namespace Go.Proofs.Ytkmoneccehbncaa.Heap
open Go.RowKit Go.Proofs.YtkmoneccehbncaaW.PrintWords Go.Proofs.YtkmoneccehbncaaW.PrintLast Go.Proofs.YtkmoneccehbncaaW.PrintMore Go.Proofs.Ytkmoneccehbncaa.Print Go.Proofs.Ytkmoneccehbncaa.Ints
set_option linter.unusedVariables false
set_option linter.unusedSimpArgs false

theorem blk_reads {w : World} {q : Nat} {xs : List Int} (h : w.heap[q]? = some (.cells (nums .i64 xs).toArray 3 (0, 0))) (hl : xs.length ≤ 100000) : ReadsInt w .i64 (some ⟨q, 0, none⟩) xs.length xs := by
  refine ⟨rfl, by omega, fun _ => ⟨_, rfl, fun j hj => ?_⟩⟩
  rw [add_plain, blk_cell h j]
  simp [nums, List.getElem?_eq_getElem hj, List.getD]
theorem blk_drawn {W W1 : World} {q : Nat} {o : Obj} (h : W.heap[q]? = some o) (hd : Drawn0 W W1) : W1.heap[q]? = some o := by
  obtain ⟨n, rfl⟩ := hd.out
  exact h

theorem copy_tail (q : Nat) (x : Int) (zs l : List Int) (hz : zs.length = l.length) (hl : l.length ≤ 10000) (A : Option Addr) (c : Nat) (W : World) (hb : W.heap[q]? = some (.cells (nums .i64 (x :: zs)).toArray 3 (0, 0))) (hr : ReadsInt W .i64 A l.length l) :
    ∃ W', (Builtin.copy_ #[36, 36] 3 #[.slice (some (cutB q (l.length + 1))) l.length l.length, .slice A l.length c]).run Try.prog W = .ok (goInt l.length) W' ∧
      W'.heap[q]? = some (.cells (nums .i64 (x :: l)).toArray 3 (0, 0)) ∧ Chg (· = q) W W' := by
  obtain ⟨W', h1, h2, h3⟩ := copy_at q 0 (x :: zs) l A c W hb hr (by rw [List.length_cons, hz]; omega)
  have e0 : (x :: zs).length = l.length + 1 := by rw [List.length_cons, hz]
  have e1 : cutTo q (0 + 1) (l.length + 1) = cutB q (l.length + 1) := rfl
  have e2 : l.length + 1 - (0 + 1) = l.length := by omega
  rw [e0, e1, e2] at h1
  have e3 : (x :: zs).take (0 + 1) ++ l ++ (x :: zs).drop (0 + 1 + l.length) = x :: l := by
    have : (x :: zs).drop (0 + 1 + l.length) = [] := List.drop_eq_nil_iff.2 (by rw [e0]; omega)
    rw [this]
    simp
  rw [e3] at h2
  exact ⟨W', h1, h2, h3⟩

/-- What Close hands back, and the heap behind it. -/
def PH.close (H : PH) (fn : Int) (l : List Int) : Int × Int × PH := if fn < 0 ∨ 2147483647 < fn then (0, 1, H) else H.make 200 ((2 * fn + 1) :: l)

set_option maxHeartbeats 4000000 in
set_option maxRecDepth 100000 in
theorem close_calls (g b m : Nat) (H : PH) (fn : Int) (A : Option Addr) (c : Nat) (l : List Int) (W : World) (h : At W g b m H) (hw : H.Wf)
    (hr : ReadsInt W .i64 A l.length l) (hl : l.length ≤ 10000) :
    Calls Try.prog 32 #[.pointer (some ⟨g, 0, none⟩), .int .i64 fn, .slice A l.length c] W fun e w' => e = .returned (.tuple #[.int .i64 (H.close fn l).1, .int .i64 (H.close fn l).2.1]) ∧
      At w' g b m (H.close fn l).2.2 ∧ Chg (fun k => k = g ∨ k = b ∨ k = m) W w' := by
  have HH := Aside0.mk h
  have HR := Aside0.mk hr
  have HBL := Aside0.mk (blk_lt h.words)
  unfold PH.close
  by_cases h0 : fn < 0 ∨ 2147483647 < fn
  · rw [if_pos h0]
    clear h hr hw
    rcases h0 with h0 | h0
    · go_enter Try.func32, Try.ntmps32
      go_wp2
      go_ret2
      exact ⟨rfl, HH.out, Chg.refl _ _⟩
    · have h1 : ¬ fn < 0 := by omega
      go_enter Try.func32, Try.ntmps32
      go_wp2
      go_ret2
      exact ⟨rfl, HH.out, Chg.refl _ _⟩
  · rw [if_neg h0]
    have h1 : ¬ fn < 0 := fun x => h0 (.inl x)
    have h2 : ¬ 2147483647 < fn := fun x => h0 (.inr x)
    have HT : Aside0 (ints_Tag.f fn = some (2 * fn + 1)) := ⟨by rw [tag_eq, W_of_in (by unfold In; omega)]⟩
    have hmk := print_make (P := Try.prog) 36 3 .i64 8 Try.underlying36 info3 (by decide) (l.length + 1) (by omega) W
    rw [made_nums] at hmk
    have em : ((l.length + 1 : Nat) : Int) = 1 + (l.length : Int) := by omega
    rw [em] at hmk
    have hb0 : Below W.heap.size W (W.alloc (.cells (nums .i64 (List.replicate (l.length + 1) 0)).toArray 3)) := (Below.refl _ _).alloc (Nat.le_refl _) _
    have HB0 := Aside0.mk hb0
    have HQ0 := Aside0.mk (heap_alloc_new W (.cells (nums .i64 (List.replicate (l.length + 1) 0)).toArray 3))
    have HM := Aside0.mk (fun A c W h hr hA => make_calls g b m H 200 A c ((2 * fn + 1) :: l) W h hw hr (by simp; omega) hA)
    have hzs : (List.replicate (l.length + 1) (0 : Int)) = 0 :: List.replicate l.length 0 := List.replicate_succ
    rw [hzs] at hmk HB0 HQ0
    generalize hz : List.replicate l.length (0 : Int) = zs at *
    have hzl : zs.length = l.length := by rw [← hz]; simp
    have HZ := Aside0.mk hzl
    generalize hW1 : W.alloc (.cells (nums .i64 (0 :: zs)).toArray 3) = W1 at *
    clear h hr hw h0 em hb0 hzs hz hzl
    go_enter Try.func32, Try.ntmps32
    go_wp2_with (first | (go_at_call 37; (with_reducible refine (ints_Tag.calls fn (2 * fn + 1) _ HT.out).mono ?_); rintro e w1 ⟨rfl, hd⟩; have hq1 := blk_drawn HQ0.out hd; have hc1 := (blk_cell hq1 0).trans (rfl : _ = some (Value.int .i64 0)); have hf1 := blk_frozen hq1 0; have hb1 := below_drawn HB0.out hd; have hq2 := (blk_set hq1 0 (.int .i64 (2 * fn + 1))).trans (rfl : _ = some (Obj.cells (nums .i64 ((2 * fn + 1) :: zs)).toArray 3 (0, 0))); have hb2 := hb1.setCell (p := ⟨W.heap.size, 0, none⟩) (Nat.le_refl _) (.int .i64 (2 * fn + 1)); obtain ⟨W2, hrun, hq3, hch⟩ := copy_tail W.heap.size (2 * fn + 1) zs l HZ.out hl A c _ hq2 (HR.out.below hb2); have hcut := cut1 W.heap.size l.length (l.length + 1) (w1.setCell ⟨W.heap.size, 0, none⟩ (.int .i64 (2 * fn + 1))); have HQ3 := Aside0.mk hq3; have HB3 := Aside0.mk (hch.below hb2 hb2.size (fun k hk => by omega)); clear hq1 hd hb1 hq2 hb2 hq3 hch) | (go_at_call 46; (refine (HM.out (some ⟨W.heap.size, 0, none⟩) (l.length + 1) W2 (HH.out.below HB3.out) (blk_reads HQ3.out (by simp; omega)) (fun ad e _ => by cases e; have := HBL.out; show W.heap.size ≠ b; omega)).mono ?_); rintro e w5 ⟨rfl, ha, hc⟩; have HA5 := Aside0.mk ha; have HC5 := Aside0.mk hc; clear ha hc))
    go_ret2
    exact ⟨rfl, HA5.out, (Chg.of_below _ HB3.out).trans HC5.out⟩
end Go.Proofs.Ytkmoneccehbncaa.Heap
