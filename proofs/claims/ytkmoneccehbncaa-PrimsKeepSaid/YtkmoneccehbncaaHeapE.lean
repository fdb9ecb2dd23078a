/- The heap of layer 2 in memory: Fields; slices.IndexFunc and ContainsFunc with a test that only reads; no condition but what each theorem states. -/
import Derived.Test.YtkmoneccehbncaaHeapD
import Derived.Outline
namespace Go.Proofs.Ytkmoneccehbncaa.Heap
open Go.RowKit Go.Proofs.YtkmoneccehbncaaW.PrintWords Go.Proofs.YtkmoneccehbncaaW.PrintLast Go.Proofs.YtkmoneccehbncaaW.PrintMore Go.Proofs.Ytkmoneccehbncaa.Print Go.Proofs.Ytkmoneccehbncaa.Ints
set_option linter.unusedVariables false
set_option linter.unusedSimpArgs false

/-- A heap whose blocks lie in its words. -/
structure PH.Wf (H : PH) : Prop where
  len : H.ws.length ≤ 100000
  top1 : 1 ≤ H.top
  top2 : H.top ≤ H.ws.length
  blk' : ∀ k ∈ H.ks, 1 ≤ k ∧ k < H.top ∧ 0 ≤ rd H.ws k ∧ k + 1 + rd H.ws k / 256 ≤ H.top
theorem PH.Wf.blk {H : PH} (h : H.Wf) : ∀ k ∈ H.ks, 1 ≤ k ∧ k < H.ws.length ∧ 0 ≤ rd H.ws k ∧ k + 1 + rd H.ws k / 256 ≤ H.ws.length := fun k hk => by
  obtain ⟨a, b, c, d⟩ := h.blk' k hk
  have := h.top2
  exact ⟨a, by omega, c, by omega⟩
theorem PH.place_mem {H : PH} {z : Int} (h : H.place z ≠ 0) : H.place z ∈ H.ks := by
  unfold PH.place at h ⊢
  split at h
  · exact absurd rfl h
  · rename_i h1
    split at h
    · rename_i h2
      split at h
      · rename_i h3
        rw [if_neg h1, if_pos h2, if_pos h3]
        exact h3
      · exact absurd rfl h
    · exact absurd rfl h
/-- The words behind place p, as many as stands there. -/
def PH.fields (H : PH) (p : Int) : List Int := if p = 0 then [] else (H.ws.drop (p.toNat + 1)).take (rd H.ws p / 256).toNat
theorem span_reads {W : World} {g b m : Nat} {H : PH} (h : At W g b m H) (p n : Nat) (hf : p + 1 + n ≤ H.ws.length) (hL : H.ws.length ≤ 100000) : ReadsInt W .i64 (some (cutAt b (p + 1) n)) n ((H.ws.drop (p + 1)).take n) := by
  refine ⟨by simp; omega, by omega, fun hn => ⟨_, rfl, fun j hj => ?_⟩⟩
  have e : (cutAt b (p + 1) n).add j = ⟨b, p + 1 + j, none⟩ := by
    unfold cutAt
    rw [if_neg (by omega)]
    unfold Addr.add
    split <;> simp_all
  have hw := word_cell h ((p + 1 + j : Nat) : Int) (by omega) (by omega)
  rw [Int.toNat_natCast] at hw
  have e2 : rd H.ws ((p + 1 + j : Nat) : Int) = H.ws.getD (p + 1 + j) 0 := by unfold rd; rw [Int.toNat_natCast]
  rw [e, hw, e2]
  simp [List.getD, List.getElem?_take, hj, List.getElem?_drop]

set_option maxHeartbeats 800000 in
set_option maxRecDepth 100000 in
theorem fields_calls (g b m : Nat) (H : PH) (z : Int) (W : World) (h : At W g b m H) (hw : H.Wf) :
    Calls Try.prog 20 #[.pointer (some ⟨g, 0, none⟩), .int .i64 z] W fun e w' => ∃ v, e = .returned v ∧ w'.ownsRow W.heap.size 3 1 v (H.fields (H.place z)).length (nums .i64 (H.fields (H.place z))) ∧ Below W.heap.size W w' := by
  have HP := Aside0.mk (fun w => place_calls g b m H z w)
  have hmem := fun h => hw.blk _ (PH.place_mem (H := H) (z := z) h)
  generalize H.place z = p at *
  by_cases h0 : p = 0
  · subst h0
    clear hmem
    go_enter Try.func20, Try.ntmps20
    go_wp2_with (go_at_call 49; (with_reducible refine (HP.out _ h).mono ?_); rintro e w' ⟨rfl, ⟨nd, rfl⟩⟩)
    go_ret
    exact ⟨_, rfl, own_nil _ _ _ _, pw_below_drewN (Below.refl _ _) _⟩
  · obtain ⟨h1, h2, h3, h4⟩ := hmem h0
    obtain ⟨q, rfl⟩ := Int.eq_ofNat_of_zero_le (show 0 ≤ p by omega)
    have hz : ((q : Int) == 0) = false := beq_eq_false_iff_ne.2 h0
    have hq : q < H.ws.length := by omega
    have HS := Aside0.mk (fun w h => span_calls g b m H q w h hq h3 h4 hw.len)
    have hn : (rd H.ws q / 256).toNat ≤ 100000 := by have := hw.len; omega
    have hfit : q + 1 + (rd H.ws q / 256).toNat ≤ H.ws.length := by omega
    have HR := Aside0.mk (fun W (h : At W g b m H) => span_reads (W := W) h q (rd H.ws q / 256).toNat hfit hw.len)
    have ef : H.fields (q : Int) = (H.ws.drop (q + 1)).take (rd H.ws q / 256).toNat := by
      unfold PH.fields; rw [if_neg h0, Int.toNat_natCast]
    have hlen : ((H.ws.drop (q + 1)).take (rd H.ws q / 256).toNat).length = (rd H.ws q / 256).toNat := by simp; omega
    have HC := Aside0.mk (fun ad W hr => clone_calls ad (rd H.ws q / 256).toNat ((H.ws.drop (q + 1)).take (rd H.ws q / 256).toNat) W hr (by omega))
    rw [ef]
    rw [hlen] at HC ⊢
    have HH := Aside0.mk h
    generalize hll : (H.ws.drop (q + 1)).take (rd H.ws q / 256).toNat = l at *
    generalize hnn : (rd H.ws q / 256).toNat = n at *
    clear h h0 h1 h2 h3 h4 hq hn hfit ef hw hlen hll hnn
    go_enter Try.func20, Try.ntmps20
    go_wp2_with (first | (go_at_call 49; (with_reducible refine (HP.out _ HH.out).mono ?_); rintro e w' ⟨rfl, ⟨nd, rfl⟩⟩) | (go_at_call 51; (with_reducible refine (HS.out _ (HH.out.drewN _)).mono ?_); rintro e w' ⟨rfl, ⟨nd2, rfl⟩⟩) | (go_at_call 50; (with_reducible refine (HC.out _ _ (HR.out _ (HH.out.drewN _))).mono ?_); rintro e w' ⟨v, rfl, ho, hb⟩; have HO := Aside0.mk ho; have HB := Aside0.mk hb; clear ho hb))
    go_ret
    exact ⟨v, rfl, HO.out, ⟨HB.out.os, HB.out.tape, HB.out.output, HB.out.size, HB.out.block⟩⟩

set_option maxHeartbeats 800000 in
set_option maxRecDepth 100000 in
theorem make1_calls (g b m : Nat) (H : PH) (z : Int) (c : Nat) (W : World) (h : At W g b m H) (hc : W.cell? ⟨c, 0, none⟩ = some (.pointer (some ⟨g, 0, none⟩))) :
    Calls Try.prog 71 #[.int .i64 z, .pointer (some ⟨c, 0, none⟩)] W fun e w' => e = .returned (.bool (!H.may z)) ∧ Drawn0 W w' := by
  go_enter Try.func71, Try.ntmps71
  go_wp2_with (go_at_call 62; (with_reducible refine (may_calls g b m H z _ h).mono ?_); rintro e w' ⟨rfl, ⟨nd, rfl⟩⟩)
  go_ret
  exact ⟨rfl, by repeat (first | exact Drawn0.refl _ | apply Drawn0.step)⟩
end Go.Proofs.Ytkmoneccehbncaa.Heap
