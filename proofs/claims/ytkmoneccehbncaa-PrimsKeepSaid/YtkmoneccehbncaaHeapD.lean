/- The heap of layer 2 in memory: a block's fields (span, slices.Clone, Fields); no condition but what each theorem states. -/
import Derived.Test.YtkmoneccehbncaaHeapC
import Derived.Lib.SliceRun
import Derived.Outline
namespace Go.Proofs.Ytkmoneccehbncaa.Heap
open Go.RowKit Go.Proofs.YtkmoneccehbncaaW.PrintWords Go.Proofs.YtkmoneccehbncaaW.PrintLast Go.Proofs.YtkmoneccehbncaaW.PrintMore Go.Proofs.Ytkmoneccehbncaa.Print Go.Proofs.Ytkmoneccehbncaa.Ints
set_option linter.unusedVariables false
set_option linter.unusedSimpArgs false

/-- The place of xs[lo:hi:hi], xs from the begin of block b on. -/
def cutAt (b lo n : Nat) : Addr := ⟨b, if n = 0 then 0 else lo, none⟩
theorem cut3 (b L lo n : Nat) (l h : Int) (hl : l = lo) (hh : h = ((lo + n : Nat) : Int)) (hL : lo + n ≤ L) (w : World) :
    (Instr.slice 36 (.slice (some ⟨b, 0, none⟩) L L) (some (.int .i64 l)) (some (.int .i64 h)) (some (.int .i64 h))).run Try.prog w = .ok (.slice (some (cutAt b lo n)) n n) w := by
  have hu : Try.prog.underlying 36 = some (.slice (Try.prog.elem 36)) := by rw [show Try.prog.elem 36 = 3 by kernel_rfl]; exact Try.underlying36
  rw [run_slice_lhm w 36 (some ⟨b, 0, none⟩) L L hu .i64 .i64 .i64 l h h (by omega) (by omega) (Int.le_refl _) (by omega)]
  have hs : (sizeOf (Try.prog.elem 36)).run Try.prog w = .ok 1 w := by kernel_rfl
  rw [hs]
  have e1 : l.toNat = lo := by omega
  have e2 : h.toNat = lo + n := by omega
  simp only [Result.andThen, sliced, e1, e2, Nat.mul_one]
  unfold cutAt
  by_cases h0 : n = 0
  · subst h0
    simp
  · have h1 : ¬ lo + n = lo := by omega
    simp only [if_neg h1, if_neg h0]
    have e3 : (⟨b, 0, none⟩ : Addr).add lo = ⟨b, lo, none⟩ := by unfold Addr.add; split <;> simp_all
    simp [e3]

set_option maxHeartbeats 800000 in
set_option maxRecDepth 100000 in
theorem span_calls (g b m : Nat) (H : PH) (p : Nat) (W : World) (h : At W g b m H) (h1 : p < H.ws.length) (hv : 0 ≤ rd H.ws p) (hf : (p : Int) + 1 + rd H.ws p / 256 ≤ H.ws.length) (hL : H.ws.length ≤ 100000) :
    Calls Try.prog 51 #[.pointer (some ⟨g, 0, none⟩), .int .i64 p] W fun e w' => e = .returned (.slice (some (cutAt b (p + 1) (rd H.ws p / 256).toNat)) (rd H.ws p / 256).toNat (rd H.ws p / 256).toNat) ∧ Drawn0 W w' := by
  have hc := (blk_cell h.head 0).trans (rfl : _ = some (Value.slice (some ⟨b, 0, none⟩) H.ws.length H.ws.length))
  have hw := word_cell h p (by omega) (by omega)
  rw [Int.toNat_natCast] at hw
  clear h
  generalize rd H.ws p = v at *
  generalize H.ws.length = L at *
  have hcut := cut3 b L (p + 1) (v / 256).toNat ((p : Int) + 1) ((p : Int) + 1 + v / 256) (by omega) (by omega) (by omega) W
  go_enter Try.func51, Try.ntmps51
  go_wp2
  go_ret
  exact ⟨rfl, by repeat (first | exact Drawn0.refl _ | apply Drawn0.step)⟩

set_option maxHeartbeats 800000 in
set_option maxRecDepth 100000 in
theorem clone_calls (ad : Addr) (c : Nat) (l : List Int) (W : World) (hr : ReadsInt W .i64 (some ad) l.length l) (hl : l.length ≤ 100000) :
    Calls Try.prog 50 #[.slice (some ad) l.length c] W fun e w' => ∃ v, e = .returned v ∧ w'.ownsRow W.heap.size 3 1 v l.length (nums .i64 l) ∧ Below W.heap.size W w' := by
  have hn := fun W => Lib.run_eql_slice_nil (P := Try.prog) W 36 3 (some ad) l.length c 0 0 Try.underlying36
  have HR := Aside0.mk hr
  clear hr
  go_enter Try.func50, Try.ntmps50
  have HO : Aside0 ((W.alloc (.cells #[] 3)).ownsRow W.heap.size 3 1 (.slice (some ⟨W.heap.size, 0, none⟩) ([] : List Int).length 0) ([] : List Int).length (nums .i64 [])) := ⟨own_lit W W.heap.size 3 .i64 [] (Nat.le_refl _) (by decide)⟩
  go_wp2_with ((with_reducible refine gate_builtin (b := .append) (xs := #[.tmp 5, .tmp 6]) rfl ?_); at_builtin; refine print_append_row (w0 := W) W.heap.size rfl (.tmp 5) (.tmp 6) 36 3 .i64 8 rfl Try.underlying36 info3 (by decide) _ [] l (some ad) l.length c rfl rfl HO.out (HR.out.allocS _) ((Below.refl _ _).alloc (Nat.le_refl _) _) ?aB ?aL ?_; (case aB => simp); (case aL => simp; omega); intro v1 w1 ho hb hg _; have HO1 := Aside0.mk ho; have HB1 := Aside0.mk hb; clear ho hb hg)
  go_ret
  exact ⟨v1, rfl, HO1.out, HB1.out⟩
end Go.Proofs.Ytkmoneccehbncaa.Heap
