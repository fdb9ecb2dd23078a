/- The heap of layer 2 in memory: a block is laid; no condition but what each theorem states. -/
import Derived.Test.YtkmoneccehbncaaHeapF
import Derived.Laws.CopyRow
import Derived.Outline
namespace Go.Proofs.Ytkmoneccehbncaa.Heap
open Go.RowKit Go.Proofs.YtkmoneccehbncaaW.PrintWords Go.Proofs.YtkmoneccehbncaaW.PrintLast Go.Proofs.YtkmoneccehbncaaW.PrintMore Go.Proofs.Ytkmoneccehbncaa.Print Go.Proofs.Ytkmoneccehbncaa.Ints
set_option linter.unusedVariables false
set_option linter.unusedSimpArgs false

/-- Nothing that was there has changed but the blocks of S. -/
structure Chg (S : Nat → Prop) (W W' : World) : Prop where
  os : W'.os = W.os
  tape : W'.tape = W.tape
  output : W'.output = W.output
  size : W.heap.size ≤ W'.heap.size
  block : ∀ k, k < W.heap.size → ¬ S k → W'.heap[k]? = W.heap[k]?
theorem Chg.refl (S : Nat → Prop) (W : World) : Chg S W W := ⟨rfl, rfl, rfl, Nat.le_refl _, fun _ _ _ => rfl⟩
theorem Chg.trans {S : Nat → Prop} {W W1 W2 : World} (h : Chg S W W1) (k : Chg S W1 W2) : Chg S W W2 :=
  ⟨k.os.trans h.os, k.tape.trans h.tape, k.output.trans h.output, Nat.le_trans h.size k.size, fun i hi hs => (k.block i (Nat.lt_of_lt_of_le hi h.size) hs).trans (h.block i hi hs)⟩
theorem Chg.mono {S T : Nat → Prop} {W W1 : World} (h : Chg S W W1) (hs : ∀ k, S k → T k) : Chg T W W1 := ⟨h.os, h.tape, h.output, h.size, fun k hk ht => h.block k hk (fun s => ht (hs k s))⟩
theorem Chg.of_below {W W1 : World} (S : Nat → Prop) (h : Below W.heap.size W W1) : Chg S W W1 := ⟨h.os, h.tape, h.output, h.size, fun k hk _ => h.block k hk⟩
theorem Chg.below {S : Nat → Prop} {B : Nat} {W0 W W1 : World} (h : Chg S W W1) (hb : Below B W0 W) (hB : B ≤ W.heap.size) (hs : ∀ k, S k → B ≤ k) : Below B W0 W1 :=
  ⟨h.os.trans hb.os, h.tape.trans hb.tape, h.output.trans hb.output, Nat.le_trans hb.size h.size, fun k hk => (h.block k (by omega) (fun s => by have := hs k s; omega)).trans (hb.block k hk)⟩
theorem Chg.set {S : Nat → Prop} {W W1 : World} (h : Chg S W W1) {p : Addr} (hp : S p.block) (u : Value) : Chg S W (W1.setCell p u) :=
  ⟨h.os, h.tape, h.output, by simpa [World.setCell] using h.size, fun k hk hs => (Below.heap_setCell W1 p u k (fun e => hs (e ▸ hp))).trans (h.block k hk hs)⟩

/-- The words with a block at place t. -/
def laid (ws : List Int) (t : Nat) (hdr : Int) (l : List Int) : List Int := ws.take t ++ hdr :: l ++ ws.drop (t + 1 + l.length)
/-- The place of xs[lo:], xs of n words from the begin of block b on. -/
def cutTo (b lo n : Nat) : Addr := ⟨b, if n = lo then 0 else lo, none⟩
theorem laid_length (ws : List Int) (t : Nat) (hdr : Int) (l : List Int) (h : t + 1 + l.length ≤ ws.length) : (laid ws t hdr l).length = ws.length := by
  unfold laid; simp; omega

theorem laid_eq (ws : List Int) (t : Nat) (hdr : Int) (l : List Int) (h : t < ws.length) : (ws.set t hdr).take (t + 1) ++ l ++ (ws.set t hdr).drop (t + 1 + l.length) = laid ws t hdr l := by
  have e1 : (ws.set t hdr).take (t + 1) = ws.take t ++ [hdr] := by
    rw [List.take_succ_eq_append_getElem (by simpa using h), List.take_set_of_le (Nat.le_refl t)]
    simp
  have e2 : (ws.set t hdr).drop (t + 1 + l.length) = ws.drop (t + 1 + l.length) := by
    rw [List.drop_set_of_lt (by omega)]
  rw [e1, e2]
  unfold laid
  simp

/-- copy(ws[t+1:], l), ws whole in block b, l elsewhere. -/
theorem copy_at (b t : Nat) (ws l : List Int) (A : Option Addr) (c : Nat) (W : World) (hb : W.heap[b]? = some (.cells (nums .i64 ws).toArray 3 (0, 0))) (hr : ReadsInt W .i64 A l.length l) (hf : t + 1 + l.length ≤ ws.length) :
    ∃ W', (Builtin.copy_ #[36, 36] 3 #[.slice (some (cutTo b (t + 1) ws.length)) (ws.length - (t + 1)) (ws.length - (t + 1)), .slice A l.length c]).run Try.prog W = .ok (goInt l.length) W' ∧
      W'.heap[b]? = some (.cells (nums .i64 (ws.take (t + 1) ++ l ++ ws.drop (t + 1 + l.length))).toArray 3 (0, 0)) ∧ Chg (· = b) W W' := by
  have hs3 : (Try.prog.info? 3).map (·.size) = some 1 := by kernel_rfl
  by_cases h0 : l.length = 0
  · obtain rfl : l = [] := List.eq_nil_of_length_eq_zero h0
    refine ⟨W, run_copy_none (P := Try.prog) W 36 36 3 3 _ _ _ _ _ _ Try.underlying36 hs3 (by simp), ?_, Chg.refl _ _⟩
    simpa using hb
  · obtain ⟨ad, rfl, hc⟩ := hr.2.2 (by omega)
    have hcut : cutTo b (t + 1) ws.length = ⟨b, t + 1, none⟩ := by unfold cutTo; rw [if_neg (by omega)]
    have hsrc : ∀ j v, (nums .i64 l)[j]? = some v → W.cell? (ad.add j) = some v := by
      intro j v hv
      have hj : j < l.length := by
        rcases Nat.lt_or_ge j l.length with h | h
        · exact h
        · simp [nums, List.getElem?_eq_none h] at hv
      rw [hc j hj]
      simp [nums, List.getElem?_eq_getElem hj] at hv
      simp [List.getD, List.getElem?_eq_getElem hj, hv]
    have hrun := run_copy_row (P := Try.prog) W 36 36 3 3 b (t + 1) (ws.length - (t + 1)) (ws.length - (t + 1)) ad l.length c (nums .i64 ws).toArray 3 (nums .i64 l) Try.underlying36 hs3 hb
      (by simp only [nums, List.length_map]; exact (Nat.min_eq_left (by omega)).symm) hsrc (by simp [nums]; omega) (by intro v hv; simp [nums] at hv; obtain ⟨x, _, rfl⟩ := hv; rfl)
    have e : ((nums .i64 ws).toArray.toList.take (t + 1) ++ nums .i64 l ++ (nums .i64 ws).toArray.toList.drop (t + 1 + (nums .i64 l).length)).toArray = (nums .i64 (ws.take (t + 1) ++ l ++ ws.drop (t + 1 + l.length))).toArray := by
      simp [nums, List.map_take, List.map_drop]
    rw [e] at hrun
    rw [hcut]
    refine ⟨_, by rw [hrun]; simp [nums], setRow_heap W b _ _ 3 _ hb, ⟨rfl, rfl, rfl, by simp [World.setRow], fun k hk hs => setRow_other W b k _ hs⟩⟩

theorem cut_to (b L lo : Nat) (l : Int) (hl : l = lo) (hL : lo ≤ L) (w : World) :
    (Instr.slice 36 (.slice (some ⟨b, 0, none⟩) L L) (some (.int .i64 l)) none none).run Try.prog w = .ok (.slice (some (cutTo b lo L)) (L - lo) (L - lo)) w := by
  have hu : Try.prog.underlying 36 = some (.slice (Try.prog.elem 36)) := by rw [show Try.prog.elem 36 = 3 by kernel_rfl]; exact Try.underlying36
  rw [run_slice_l w 36 (some ⟨b, 0, none⟩) L L hu .i64 l (by omega) (by omega)]
  have hs : (sizeOf (Try.prog.elem 36)).run Try.prog w = .ok 1 w := by kernel_rfl
  rw [hs]
  have e1 : l.toNat = lo := by omega
  simp only [Result.andThen, sliced, e1, Nat.mul_one]
  unfold cutTo
  by_cases h0 : L = lo
  · subst h0
    simp
  · simp only [if_neg h0]
    have e3 : (⟨b, 0, none⟩ : Addr).add lo = ⟨b, lo, none⟩ := by unfold Addr.add; split <;> simp_all
    simp [e3]

/-- A new key in a map of a heap's places. -/
theorem put_at (m cl : Nat) (es : Array MapEntry) (ks : List Int) (W : World) (hb : W.heap[m]? = some (.map es cl)) (hk : Keys (fun _ => .bool true) es ks) (z : Int) (hz : z ∉ ks) :
    ∃ W', (Instr.mapUpdate 69 (.map (some m)) (.int .i64 z) (.bool true)).run Try.prog W = .ok () W' ∧ (∃ es cl, W'.heap[m]? = some (.map es cl) ∧ Keys (fun _ => .bool true) es (ks ++ [z])) ∧ Chg (· = m) W W' := by
  have hlt : m < W.heap.size := (Array.getElem?_eq_some_iff.1 hb).1
  have hx : (W.heap.setIfInBounds m (.map (es.push { key := .int .i64 z, val := .bool true, born := cl }) (cl + 1)))[m]? = some (.map (es.push { key := .int .i64 z, val := .bool true, born := cl }) (cl + 1)) := by
    rw [Array.getElem?_setIfInBounds_self_of_lt hlt]
  have hy : Keys (fun _ => .bool true) (es.push { key := .int .i64 z, val := .bool true, born := cl }) (ks ++ [z]) := by
    unfold Keys at *
    simp [hk]
  exact ⟨_, run_put (P := Try.prog) 69 3 4 Try.underlying69 Try.underlying3 hb hk z hz (.bool true), ⟨_, _, hx, hy⟩, ⟨rfl, rfl, rfl, by simp, fun k hk hs => by
    have hs' : m ≠ k := fun e => hs e.symm
    simp [Array.getElem?_setIfInBounds, hs']⟩⟩

set_option maxHeartbeats 1600000 in
set_option maxRecDepth 100000 in
theorem lay_calls (g b m t : Nat) (H : PH) (tag : Int) (A : Option Addr) (c : Nat) (l : List Int) (W : World) (h : At W g b m H) (ht : H.top = (t : Int)) (hf : t + 1 + l.length ≤ H.ws.length) (hL : H.ws.length ≤ 100000)
    (hk : (t : Int) ∉ H.ks) (h0 : 0 ≤ tag) (h1 : tag ≤ 255) (hr : ReadsInt W .i64 A l.length l) (hA : ∀ ad, A = some ad → 0 < l.length → ad.block ≠ b) :
    Calls Try.prog 65 #[.pointer (some ⟨g, 0, none⟩), .int .i64 tag, .slice A l.length c] W fun e w' => e = .returned (.int .i64 t) ∧
      At w' g b m ⟨laid H.ws t (l.length * 256 + tag) l, (t + 1 + l.length : Nat), H.ks ++ [(t : Int)]⟩ ∧ Chg (fun k => k = g ∨ k = b ∨ k = m) W w' := by
  obtain ⟨es, cl, hm, hK⟩ := h.places
  have hgb : g ≠ b := blk_ne h.head h.words (by decide)
  have hgm : g ≠ m := by rintro rfl; rw [h.head] at hm; cases hm
  have hbm : b ≠ m := by rintro rfl; rw [h.words] at hm; cases hm
  -- the head
  have hc0 := (blk_cell h.head 0).trans (rfl : _ = some (Value.slice (some ⟨b, 0, none⟩) H.ws.length H.ws.length))
  have hc1 : W.cell? ⟨g, 1, none⟩ = some (.int .i64 (t : Int)) := by rw [blk_cell h.head 1]; simp [ht]
  have hcb := word_cell h (t : Int) (by omega) (by omega)
  rw [Int.toNat_natCast] at hcb
  have hfb := blk_frozen h.words t
  -- the first world: the block's head word
  obtain ⟨W1, hW1⟩ : ∃ W1, W1 = W.setCell ⟨b, t, none⟩ (.int .i64 (l.length * 256 + tag)) := ⟨_, rfl⟩
  have hb1 : W1.heap[b]? = some (.cells (nums .i64 (H.ws.set t (l.length * 256 + tag))).toArray 3 (0, 0)) := by
    rw [hW1, blk_set h.words t]
    simp [nums, List.map_set]
  have hg1 : W1.heap[g]? = some (.cells #[.slice (some ⟨b, 0, none⟩) H.ws.length H.ws.length, .int .i64 H.top, .map (some m)] 71 (0, 0)) := by
    rw [hW1, Below.heap_setCell _ _ _ g hgb]; exact h.head
  have hm1 : W1.heap[m]? = some (.map es cl) := by rw [hW1, Below.heap_setCell _ _ _ m (fun e => hbm e.symm)]; exact hm
  have hr1 : ReadsInt W1 .i64 A l.length l := by
    refine ⟨hr.1, hr.2.1, fun hn => ?_⟩
    obtain ⟨ad, e, hc⟩ := hr.2.2 hn
    refine ⟨ad, e, fun j hj => ?_⟩
    have hne := hA ad e hn
    have : (ad.add j).block ≠ (⟨b, t, none⟩ : Addr).block := by rw [add_block]; exact hne
    rw [hW1, cell_far this]
    exact hc j hj
  obtain ⟨W2, hrun2, hb2, hch2⟩ := copy_at b t (H.ws.set t (l.length * 256 + tag)) l A c W1 hb1 hr1 (by rw [List.length_set]; exact hf)
  rw [List.length_set] at hrun2
  have hg2 : W2.heap[g]? = _ := (hch2.block g (blk_lt hg1) hgb).trans hg1
  have hm2 : W2.heap[m]? = _ := (hch2.block m (blk_lt hm1) (fun e => hbm e.symm)).trans hm1
  obtain ⟨W3, hrun3, hm3, hch3⟩ := put_at m cl es H.ks W2 hm2 hK (t : Int) hk
  have hg3 : W3.heap[g]? = _ := (hch3.block g (blk_lt hg2) hgm).trans hg2
  have hb3 : W3.heap[b]? = _ := (hch3.block b (blk_lt hb2) hbm).trans hb2
  have hd1 := (blk_cell hg1 0).trans (rfl : _ = some (Value.slice (some ⟨b, 0, none⟩) H.ws.length H.ws.length))
  have hd2 := (blk_cell hg2 2).trans (rfl : _ = some (Value.map (some m)))
  have hd3 : W3.cell? ⟨g, 1, none⟩ = some (.int .i64 (t : Int)) := by rw [blk_cell hg3 1]; simp [ht]
  have hf3 := blk_frozen hg3 1
  have hcut := cut_to b H.ws.length (t + 1) ((t : Int) + 1) (by omega) (by omega) W1
  subst hW1

  have ec2 : Chg (fun k => k = g ∨ k = b ∨ k = m) W W3 := ((Chg.set (Chg.refl _ W) (p := ⟨b, t, none⟩) (.inr (.inl rfl)) _).trans (hch2.mono (fun k hk => .inr (.inl hk)))).trans (hch3.mono (fun k hk => .inr (.inr hk)))
  have hhead : (W3.setCell ⟨g, 1, none⟩ (.int .i64 ((t : Int) + (1 + (l.length : Int))))).heap[g]? = some (.cells #[.slice (some ⟨b, 0, none⟩) (laid H.ws t (l.length * 256 + tag) l).length (laid H.ws t (l.length * 256 + tag) l).length, .int .i64 ((t + 1 + l.length : Nat) : Int), .map (some m)] 71 (0, 0)) := by
    rw [blk_set hg3 1, laid_length _ _ _ _ hf]
    have e : (t : Int) + (1 + (l.length : Int)) = ((t + 1 + l.length : Nat) : Int) := by omega
    rw [e]
    simp
  have hwords : (W3.setCell ⟨g, 1, none⟩ (.int .i64 ((t : Int) + (1 + (l.length : Int))))).heap[b]? = some (.cells (nums .i64 (laid H.ws t (l.length * 256 + tag) l)).toArray 3 (0, 0)) := by
    rw [Below.heap_setCell _ _ _ b (fun e => hgb e.symm), hb3, laid_eq _ _ _ _ (by omega)]
  have hplaces : ∃ es cl, (W3.setCell ⟨g, 1, none⟩ (.int .i64 ((t : Int) + (1 + (l.length : Int))))).heap[m]? = some (.map es cl) ∧ Keys (fun _ => .bool true) es (H.ks ++ [(t : Int)]) := by
    obtain ⟨es3, cl3, q1, q2⟩ := hm3
    exact ⟨es3, cl3, by rw [Below.heap_setCell _ _ _ m (fun e => hgm e.symm)]; exact q1, q2⟩
  have AT : Aside0 (At (W3.setCell ⟨g, 1, none⟩ (.int .i64 ((t : Int) + (1 + (l.length : Int))))) g b m ⟨laid H.ws t (l.length * 256 + tag) l, ((t + 1 + l.length : Nat) : Int), H.ks ++ [(t : Int)]⟩) := ⟨⟨hhead, hwords, hplaces⟩⟩
  have EC := Aside0.mk (ec2.set (p := ⟨g, 1, none⟩) (.inl rfl) (.int .i64 ((t : Int) + (1 + (l.length : Int)))))
  have hl1 : l.length ≤ 100000 := by omega
  have htL : t < H.ws.length := by omega
  clear hhead hwords hplaces ec2 hg3 hb3 hm3 hf h hm hK hgb hgm hbm hk hr hA hb1 hg1 hm1 hr1 hb2 hch2 hg2 hm2 hch3 ht
  go_enter Try.func65, Try.ntmps65
  go_wp2
  go_ret
  exact ⟨rfl, AT.out, EC.out⟩
end Go.Proofs.Ytkmoneccehbncaa.Heap
