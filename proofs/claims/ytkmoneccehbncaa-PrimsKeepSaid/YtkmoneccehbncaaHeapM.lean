/- The heap of layer 2: what is made keeps the heap well laid; lives of selvagelaw16 answers true; no condition but what each theorem states. -/
import Derived.Test.YtkmoneccehbncaaHeapL
import Derived.Outline
namespace Go.Proofs.Ytkmoneccehbncaa.Heap
open Go.RowKit Go.Proofs.YtkmoneccehbncaaW.PrintWords Go.Proofs.YtkmoneccehbncaaW.PrintLast Go.Proofs.YtkmoneccehbncaaW.PrintMore Go.Proofs.Ytkmoneccehbncaa.Print Go.Proofs.Ytkmoneccehbncaa.Ints
set_option linter.unusedVariables false
set_option linter.unusedSimpArgs false

theorem rd_laid_lt (ws : List Int) (t : Nat) (hdr : Int) (l : List Int) (k : Nat) (hk : k < t) (ht : t ≤ ws.length) : rd (laid ws t hdr l) k = rd ws k := by
  unfold rd laid
  rw [Int.toNat_natCast]
  simp only [List.getD, List.append_assoc]
  rw [List.getElem?_append_left (by simp; omega), List.getElem?_take_of_lt hk]
theorem rd_laid_at (ws : List Int) (t : Nat) (hdr : Int) (l : List Int) (ht : t ≤ ws.length) : rd (laid ws t hdr l) t = hdr := by
  unfold rd laid
  rw [Int.toNat_natCast]
  simp only [List.getD, List.append_assoc]
  rw [List.getElem?_append_right (by simp; omega)]
  have : t - (List.take t ws).length = 0 := by simp; omega
  rw [this]
  rfl
theorem PH.odd_not {H : PH} {tag : Int} {l : List Int} (h : ¬ H.odd tag l = true) : 0 ≤ tag ∧ tag ≤ 201 ∧ l.length ≤ 60 := by
  unfold PH.odd at h
  simp only [Bool.or_eq_true, decide_eq_true_eq, not_or] at h
  omega
theorem PH.make_wf {H : PH} (h : H.Wf) (tag : Int) (l : List Int) : (H.make tag l).2.2.Wf := by
  unfold PH.make
  by_cases h1 : H.odd tag l = true
  · rw [if_pos h1]; exact h
  · rw [if_neg h1]
    obtain ⟨a1, a2, a3⟩ := PH.odd_not h1
    by_cases h2 : (H.ws.length : Int) - 1 < H.top - 1 + 1 + l.length
    · rw [if_pos h2]; exact h
    · rw [if_neg h2]
      have t1 := h.top1
      have t2 := h.top2
      obtain ⟨t, ht⟩ := Int.eq_ofNat_of_zero_le (show 0 ≤ H.top by omega)
      have e1 : H.top.toNat = t := by omega
      have hf : t + 1 + l.length ≤ H.ws.length := by omega
      refine ⟨?_, ?_, ?_, ?_⟩
      · show (laid H.ws H.top.toNat (l.length * 256 + tag) l).length ≤ 100000
        rw [e1, laid_length _ _ _ _ hf]; exact h.len
      · show 1 ≤ H.top + 1 + l.length
        omega
      · show H.top + 1 + l.length ≤ ((laid H.ws H.top.toNat (l.length * 256 + tag) l).length : Int)
        rw [e1, laid_length _ _ _ _ hf]; omega
      · intro k hk
        show 1 ≤ k ∧ k < H.top + 1 + l.length ∧ 0 ≤ rd (laid H.ws H.top.toNat (l.length * 256 + tag) l) k ∧ k + 1 + rd (laid H.ws H.top.toNat (l.length * 256 + tag) l) k / 256 ≤ H.top + 1 + l.length
        have hk' : k ∈ H.ks ∨ k = H.top := by
          have := hk
          simp only [List.mem_append, List.mem_singleton] at this
          exact this
        rw [e1]
        rcases hk' with hk' | hk'
        · obtain ⟨b1, b2, b3, b4⟩ := h.blk' k hk'
          obtain ⟨q, rfl⟩ := Int.eq_ofNat_of_zero_le (show 0 ≤ k by omega)
          rw [rd_laid_lt _ _ _ _ _ (by omega) (by omega)]
          omega
        · subst hk'
          rw [ht, rd_laid_at _ _ _ _ (by omega)]
          omega
theorem PH.text_wf {H : PH} (h : H.Wf) (l : List Int) (e : Int) : (H.text l e).2.2.Wf := by
  unfold PH.text
  split
  · exact PH.make_wf h _ _
  · exact h
theorem PH.close_wf {H : PH} (h : H.Wf) (f : Int) (l : List Int) : (H.close f l).2.2.Wf := by
  unfold PH.close
  split
  · exact h
  · exact PH.make_wf h _ _

/-- The heap of the document's example, with its text; and with its closure. -/
def exA : PH := ((PH.new 64).text [2, 25185] 0).2.2
def exB : PH := (exA.close 2 [7]).2.2
theorem exA_told : ((PH.new 64).text [2, 25185] 0).1 = 2 ∧ ((PH.new 64).text [2, 25185] 0).2.1 = 0 := by decide +kernel
theorem exA_fields : exA.fields (exA.place 2) = [2, 25185] := by decide +kernel
theorem exB_told : (exA.close 2 [7]).1 = 8 ∧ (exA.close 2 [7]).2.1 = 0 := by decide +kernel
theorem exB_open : exB.open_ 8 = (2, [7], 0) := by decide +kernel
theorem ex_pack : strs_Pack.f 20 ⟨#[97, 98]⟩ = some ([2, 25185], 0) := by decide +kernel
theorem ex_same : selvageref02_SameInts.f 20 [2, 25185] [2, 25185] = some true := by decide +kernel
theorem ex_sum : sumOf 0 3 5 = (7, 0) := by decide +kernel
theorem C_of {w : World} {A : Option Addr} {n : Nat} {l : List Int} (h : ReadsInt w .i64 A n l) : (Kd.int .i64).C w A n l := Kd.C_of_reads (d := (0 : Int)) (h1 := fun _ => rfl) h
theorem text_ex (g b m : Nat) (W : World) (h : At W g b m (PH.new 64)) : Calls Try.prog 23 #[.pointer (some ⟨g, 0, none⟩), .string ⟨#[97, 98]⟩] W fun e w' => e = .returned (.tuple #[.int .i64 2, .int .i64 0]) ∧ At w' g b m exA ∧ Chg (fun k => k = g ∨ k = b ∨ k = m) W w' := by
  have := text_calls g b m (PH.new 64) ⟨#[97, 98]⟩ 20 [2, 25185] 0 W h (PH.new_wf 64 (by decide)) (by decide) ex_pack
  rw [exA_told.1, exA_told.2] at this
  exact this
theorem exA_wf : exA.Wf := PH.text_wf (PH.new_wf 64 (by decide)) _ _
theorem exB_wf : exB.Wf := PH.close_wf exA_wf _ _
theorem fields_ex (g b m : Nat) (W : World) (h : At W g b m exA) : Calls Try.prog 20 #[.pointer (some ⟨g, 0, none⟩), .int .i64 2] W fun e w' => ∃ v, e = .returned v ∧ Row w' W.heap.size v [2, 25185] ∧ Below W.heap.size W w' := by
  have := fields_calls g b m exA 2 W h exA_wf
  rw [exA_fields] at this
  refine this.mono ?_
  rintro e w' ⟨v, he, ho, hb⟩
  obtain ⟨A, c, e1, _, e3, e4, e5⟩ := own_facts ho
  exact ⟨v, he, ⟨A, c, e1, e3, e4, e5⟩, hb⟩
theorem close_ex (g b m : Nat) (A : Option Addr) (c : Nat) (W : World) (h : At W g b m exA) (hr : ReadsInt W .i64 A 1 [7]) : Calls Try.prog 32 #[.pointer (some ⟨g, 0, none⟩), .int .i64 2, .slice A 1 c] W fun e w' => e = .returned (.tuple #[.int .i64 8, .int .i64 0]) ∧ At w' g b m exB ∧ Chg (fun k => k = g ∨ k = b ∨ k = m) W w' := by
  have := close_calls g b m exA 2 A c [7] W h exA_wf hr (by decide)
  rw [exB_told.1, exB_told.2] at this
  exact this
theorem open_ex (g b m : Nat) (W : World) (h : At W g b m exB) : Calls Try.prog 28 #[.pointer (some ⟨g, 0, none⟩), .int .i64 8] W fun e w' => ∃ v, e = .returned (.tuple #[.int .i64 2, v, .int .i64 0]) ∧ Row w' W.heap.size v [7] ∧ Below W.heap.size W w' := by
  have := open_calls g b m exB 8 W h exB_wf
  rw [exB_open] at this
  exact this
theorem sum_ex (W : World) : Calls Try.prog 9 #[.int .i64 0, .int .i64 3, .int .i64 5] W fun e w' => e = .returned (.tuple #[.int .i64 7, .int .i64 0]) ∧ Below W.heap.size W w' := by
  have := sum_calls 0 3 5 W
  rw [ex_sum] at this
  exact this
theorem same_ex (A0 A1 : Option Addr) (c0 c1 : Nat) (W : World) (h0 : ReadsInt W .i64 A0 2 [2, 25185]) (h1 : ReadsInt W .i64 A1 2 [2, 25185]) (k0 : 2 ≤ c0) (k1 : 2 ≤ c1) :
    Calls Try.prog 19 #[.slice A0 2 c0, .slice A1 2 c1] W fun e w' => e = .returned (.bool true) ∧ Drawn0 W w' :=
  selvageref02_SameInts.calls 20 A0 c0 [2, 25185] A1 c1 [2, 25185] true W (C_of h0) k0 (C_of h1) k1 ex_same
theorem lit_reads (W : World) (xs : List Int) (hl : xs.length ≤ 100000) : ReadsInt (W.alloc (.cells (nums .i64 xs).toArray 3)) .i64 (some ⟨W.heap.size, 0, none⟩) xs.length xs := blk_reads (heap_alloc_new W _) hl

theorem first_cell {w : World} {ad : Addr} {x : Int} {r : List Int} (h : w.cell? (ad.add (0 : Int).toNat) = some (.int .i64 (rd (x :: r) 0))) : w.cell? ad = some (.int .i64 x) := by
  have e : ad.add (0 : Int).toNat = ad := rfl
  rw [e] at h
  exact h

set_option maxHeartbeats 4000000 in
set_option maxRecDepth 100000 in
theorem lives_calls (W : World) : Calls Try.prog 11 #[] W fun e w' => e = .returned (.bool true) ∧ Below W.heap.size W w' := by
  have HN := Aside0.mk (new_calls 64 W (by decide) (by decide))
  go_enter Try.func11, Try.ntmps11
  go_wp2_with (first
    | (go_at_call 14; (refine HN.out.mono ?_); rintro e w1 ⟨g, b, m, rfl, ⟨hat, hwf, hg, hbb, hm⟩, hb⟩; have HA := Aside0.mk hat; have HG := Aside0.mk hg; have HBB := Aside0.mk hbb; have HM := Aside0.mk hm; have HB := Aside0.mk hb; clear hat hwf hg hbb hm hb)
    | (go_at_call 23; (refine (text_ex g b m _ HA.out).mono ?_); rintro e w2 ⟨rfl, hat, hc⟩; have HA2 := Aside0.mk hat; have HB2 := Aside0.mk (hc.below HB.out HB.out.size (fun k hk => by have := HG.out; have := HBB.out; have := HM.out; omega)); clear hat hc)
    | (go_at_call 20; (refine (fields_ex g b m _ HA2.out).mono ?_); rintro e w3 ⟨v, rfl, ⟨A, c, rfl, hc, hr, _⟩, hb⟩; have HR3 := Aside0.mk hr; have HC3 := Aside0.mk hc; have HA3 := Aside0.mk (HA2.out.below hb); have HB3 := Aside0.mk (below_then HB2.out HB2.out.size hb); clear hb hr hc)
    | (go_at_call 19; (refine (same_ex A _ c 2 _ (HR3.out.allocS _) (lit_reads w3 [2, 25185] (by decide)) HC3.out (Nat.le_refl _)).mono ?_); rintro e w4 ⟨rfl, hd⟩; have HA4 := Aside0.mk (at_drawn (HA3.out.below (below_alloc (Below.refl _ _) _)) hd); have HB4 := Aside0.mk (below_drawn (below_alloc HB3.out _) hd); clear hd)
    | (go_at_call 9; (refine (sum_ex _).mono ?_); rintro e w5 ⟨rfl, hb⟩; have HA5 := Aside0.mk (HA4.out.below hb); have HB5 := Aside0.mk (below_then HB4.out HB4.out.size hb); clear hb)
    | (go_at_call 32; (refine (close_ex g b m _ 1 _ (HA5.out.below (below_alloc (Below.refl _ _) _)) (lit_reads w5 [7] (by decide))).mono ?_); rintro e w6 ⟨rfl, hat, hc⟩; have HA6 := Aside0.mk hat; have HB6 := Aside0.mk (hc.below (below_alloc HB5.out _) (below_alloc HB5.out _).size (fun k hk => by have := HG.out; have := HBB.out; have := HM.out; omega)); clear hat hc)
    | (go_at_call 28; (refine (open_ex g b m _ HA6.out).mono ?_); rintro e w7 ⟨v7, rfl, ⟨A7, c7, rfl, hc, hr, _⟩, hb⟩; obtain ⟨ad7, rfl, hx⟩ := hr.at_ 0 (Int.le_refl _) (by decide); have hx2 := first_cell hx; have HB7 := Aside0.mk (below_then HB6.out HB6.out.size hb); clear hb hr hc hx))
  go_ret
  exact ⟨rfl, HB7.out⟩
end Go.Proofs.Ytkmoneccehbncaa.Heap
