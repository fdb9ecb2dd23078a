/- prims over the heap of layer 2 in memory: Str, Join, Case; no condition but what each theorem states. -/
import Derived.Test.YtkmoneccehbncaaHeapO
import Derived.Outline
namespace Go.Proofs.Ytkmoneccehbncaa.Heap
open Go.RowKit Go.Proofs.YtkmoneccehbncaaW.PrintWords Go.Proofs.YtkmoneccehbncaaW.PrintLast Go.Proofs.YtkmoneccehbncaaW.PrintMore Go.Proofs.Ytkmoneccehbncaa.Print Go.Proofs.Ytkmoneccehbncaa.Ints
set_option linter.unusedVariables false
set_option linter.unusedSimpArgs false

/-- What Str tells of a word. -/
def PH.str (H : PH) (z : Int) : ByteArray × Int := if H.tag z = 201 then (if (unp (H.fields (H.place z))).2 = 0 then ((unp (H.fields (H.place z))).1, 0) else (⟨#[]⟩, 4)) else (⟨#[]⟩, 4)
theorem unp_two (l : List Int) : (unp l).2 = 0 ∨ (unp l).2 = 1 := by
  unfold unp
  split
  · exact .inl rfl
  · exact .inr rfl

set_option maxHeartbeats 4000000 in
set_option maxRecDepth 100000 in
theorem str_calls (g b m : Nat) (H : PH) (z : Int) (W : World) (h : At W g b m H) (hw : H.Wf) :
    Calls Try.prog 25 #[.pointer (some ⟨g, 0, none⟩), .int .i64 z] W fun e w' => e = .returned (.tuple #[.string (H.str z).1, .int .i64 (H.str z).2]) ∧ Below W.heap.size W w' := by
  have HF := Aside0.mk (fun W h => fields_calls g b m H z W h hw)
  have HT := Aside0.mk (tag_calls g b m H z W h (fun hp => by have := hw.blk _ (PH.place_mem (H := H) (z := z) hp); omega))
  have HH := Aside0.mk h
  have hlen := H.fields_len (H.place z) hw.len
  unfold PH.str
  have et : (if H.place z = 0 then -1 else (rd H.ws (H.place z)).tmod 256) = H.tag z := rfl
  rw [et] at HT
  clear et h hw
  generalize H.tag z = t at *
  generalize H.fields (H.place z) = f at *
  by_cases ht : t = 201
  · subst ht
    rw [if_pos rfl]
    have hu := unp_eq 0 f hlen
    have h2 := unp_two f
    clear hlen
    generalize unp f = r at *
    obtain ⟨r1, r2⟩ := r
    have HU := Aside0.mk hu
    clear hu
    rcases h2 with h2 | h2
    · simp only at h2
      subst h2
      rw [if_pos rfl]
      go_enter Try.func25, Try.ntmps25
      go_wp2_with (first | (go_at_call 55; (with_reducible refine HT.out.mono ?_); rintro e w1 ⟨rfl, hd⟩; have HA := Aside0.mk (at_drawn HH.out hd); have HD := Aside0.mk (below_drawn (Below.refl W.heap.size W) hd); clear hd) | (go_at_call 20; (with_reducible refine (HF.out _ HA.out).mono ?_); rintro e w2 ⟨v, rfl, ho, hb⟩; obtain ⟨A, c, rfl, _, hc, hr, _⟩ := own_facts ho; have HB := Aside0.mk (below_then HD.out HD.out.size hb); have HR := Aside0.mk hr; have HC := Aside0.mk hc; clear ho hb hc hr) | (go_at_call 56; (refine (strs_Unpack.calls _ A c f r1 0 _ (C_of HR.out) HC.out HU.out).mono ?_); rintro e w3 ⟨rfl, hb⟩; have HB2 := Aside0.mk (below_then HB.out HB.out.size hb); clear hb))
      go_ret2
      exact ⟨rfl, HB2.out⟩
    · simp only at h2
      subst h2
      rw [if_neg (show ¬ (1 : Int) = 0 by decide)]
      go_enter Try.func25, Try.ntmps25
      go_wp2_with (first | (go_at_call 55; (with_reducible refine HT.out.mono ?_); rintro e w1 ⟨rfl, hd⟩; have HA := Aside0.mk (at_drawn HH.out hd); have HD := Aside0.mk (below_drawn (Below.refl W.heap.size W) hd); clear hd) | (go_at_call 20; (with_reducible refine (HF.out _ HA.out).mono ?_); rintro e w2 ⟨v, rfl, ho, hb⟩; obtain ⟨A, c, rfl, _, hc, hr, _⟩ := own_facts ho; have HB := Aside0.mk (below_then HD.out HD.out.size hb); have HR := Aside0.mk hr; have HC := Aside0.mk hc; clear ho hb hc hr) | (go_at_call 56; (refine (strs_Unpack.calls _ A c f r1 1 _ (C_of HR.out) HC.out HU.out).mono ?_); rintro e w3 ⟨rfl, hb⟩; have HB2 := Aside0.mk (below_then HB.out HB.out.size hb); clear hb))
      go_ret2
      exact ⟨rfl, HB2.out⟩
  · rw [if_neg ht]
    have n1 : (t != 201) = true := bne_iff_ne.2 ht
    have n2 : (t == 201) = false := beq_eq_false_iff_ne.2 ht
    clear ht
    go_enter Try.func25, Try.ntmps25
    go_wp2_with (go_at_call 55; (with_reducible refine HT.out.mono ?_); rintro e w1 ⟨rfl, hd⟩; have HD := Aside0.mk (below_drawn (Below.refl W.heap.size W) hd); clear hd)
    go_ret2
    exact ⟨rfl, HD.out⟩

/-- What Join hands back, and the heap behind it. -/
def PH.textS (H : PH) (s : ByteArray) : Int × Int × PH := if s.size ≤ 60 then H.text (pack s) 0 else H.text [] 12
theorem textS_calls (g b m : Nat) (H : PH) (s : ByteArray) (W : World) (h : At W g b m H) (hw : H.Wf) :
    Calls Try.prog 23 #[.pointer (some ⟨g, 0, none⟩), .string s] W fun e' w' => e' = .returned (.tuple #[.int .i64 (H.textS s).1, .int .i64 (H.textS s).2.1]) ∧
      At w' g b m (H.textS s).2.2 ∧ Chg (fun k => k = g ∨ k = b ∨ k = m) W w' := by
  have hp := pack_eq 0 s
  unfold PH.textS
  by_cases h0 : s.size ≤ 60
  · rw [if_pos h0] at hp ⊢
    exact text_calls g b m H s _ (pack s) 0 W h hw (by rw [pack_length]; omega) hp
  · rw [if_neg h0] at hp ⊢
    exact text_calls g b m H s _ [] 12 W h hw (by decide) hp
theorem PH.textS_wf {H : PH} (h : H.Wf) (s : ByteArray) : (H.textS s).2.2.Wf := by
  unfold PH.textS
  split <;> exact PH.text_wf h _ _
def PH.join (H : PH) (x y : Int) : Int × Int × PH :=
  if (H.str x).2 = 0 then (if (H.str y).2 = 0 then (if (H.str x).1.size + (H.str y).1.size ≤ 60 then H.textS ((H.str x).1 ++ (H.str y).1) else (0, 12, H)) else (0, (H.str y).2, H)) else (0, (H.str x).2, H)
theorem PH.join_wf {H : PH} (h : H.Wf) (x y : Int) : (H.join x y).2.2.Wf := by
  unfold PH.join
  repeat' split
  all_goals first | exact h | exact PH.textS_wf h _
theorem join_eq (a b : ByteArray) : strs_Join.f a b = some (if a.size + b.size ≤ 60 then (a ++ b, 0) else (⟨#[]⟩, 12)) := by
  unfold strs_Join.f
  by_cases h1 : (a.size : Int) > 60
  · rw [if_pos h1, if_neg (by omega)]
  · rw [if_neg h1]
    have e : wrap64 (60 - (a.size : Int)) = 60 - (a.size : Int) := by unfold wrap64; omega
    rw [e]
    by_cases h2 : (b.size : Int) > 60 - (a.size : Int)
    · rw [if_pos h2, if_neg (by omega)]
    · rw [if_neg h2, if_pos (by omega), if_pos (by omega)]

set_option maxHeartbeats 4000000 in
set_option maxRecDepth 100000 in
theorem join_calls (g b m : Nat) (H : PH) (x y : Int) (W : World) (h : At W g b m H) (hw : H.Wf) :
    Calls Try.prog 24 #[.pointer (some ⟨g, 0, none⟩), .int .i64 x, .int .i64 y] W fun e' w' => e' = .returned (.tuple #[.int .i64 (H.join x y).1, .int .i64 (H.join x y).2.1]) ∧
      At w' g b m (H.join x y).2.2 ∧ Chg (fun k => k = g ∨ k = b ∨ k = m) W w' := by
  have HX := Aside0.mk (fun W h => str_calls g b m H x W h hw)
  have HY := Aside0.mk (fun W h => str_calls g b m H y W h hw)
  have HT := Aside0.mk (fun s W h => textS_calls g b m H s W h hw)
  have HH := Aside0.mk h
  clear h
  unfold PH.join
  generalize H.str x = r at *
  generalize H.str y = q at *
  obtain ⟨s, e⟩ := r
  obtain ⟨t, f⟩ := q
  simp only at HX HY ⊢
  by_cases h0 : e = 0
  · subst h0
    rw [if_pos rfl]
    by_cases h1 : f = 0
    · subst h1
      rw [if_pos rfl]
      have hj := join_eq s t
      by_cases h2 : s.size + t.size ≤ 60
      · rw [if_pos h2] at hj ⊢
        have HJ := Aside0.mk hj
        clear hj h2
        go_enter Try.func24, Try.ntmps24
        go_wp2_with (first | (go_at_call 25; (with_reducible refine (HX.out _ HH.out).mono ?_); rintro e w1 ⟨rfl, hb⟩; have HA := Aside0.mk (HH.out.below hb); have HB := Aside0.mk hb; clear hb; clear HX) | (go_at_call 25; (with_reducible refine (HY.out _ HA.out).mono ?_); rintro e w2 ⟨rfl, hb⟩; have HA2 := Aside0.mk (HA.out.below hb); have HB2 := Aside0.mk (below_then HB.out HB.out.size hb); clear hb HY) | (go_at_call 54; (with_reducible refine (strs_Join.calls s t (s ++ t) 0 _ HJ.out).mono ?_); rintro e w3 ⟨rfl, hd⟩; have HA3 := Aside0.mk (at_drawn HA2.out hd); have HB3 := Aside0.mk (below_drawn HB2.out hd); clear hd) | (go_at_call 23; (with_reducible refine (HT.out (s ++ t) _ HA3.out).mono ?_); rintro e w4 ⟨rfl, ha, hc⟩; have HA4 := Aside0.mk ha; have HC4 := Aside0.mk hc; clear ha hc))
        go_ret2
        exact ⟨rfl, HA4.out, (Chg.of_below _ HB3.out).trans HC4.out⟩
      · rw [if_neg h2] at hj ⊢
        have HJ := Aside0.mk hj
        clear hj h2
        go_enter Try.func24, Try.ntmps24
        go_wp2_with (first | (go_at_call 25; (with_reducible refine (HX.out _ HH.out).mono ?_); rintro e w1 ⟨rfl, hb⟩; have HA := Aside0.mk (HH.out.below hb); have HB := Aside0.mk hb; clear hb; clear HX) | (go_at_call 25; (with_reducible refine (HY.out _ HA.out).mono ?_); rintro e w2 ⟨rfl, hb⟩; have HA2 := Aside0.mk (HA.out.below hb); have HB2 := Aside0.mk (below_then HB.out HB.out.size hb); clear hb HY) | (go_at_call 54; (with_reducible refine (strs_Join.calls s t ⟨#[]⟩ 12 _ HJ.out).mono ?_); rintro e w3 ⟨rfl, hd⟩; have HA3 := Aside0.mk (at_drawn HA2.out hd); have HB3 := Aside0.mk (below_drawn HB2.out hd); clear hd))
        go_ret2
        exact ⟨rfl, HA3.out, Chg.of_below _ HB3.out⟩
    · rw [if_neg h1]
      have n1 : (f != 0) = true := bne_iff_ne.2 h1
      have n2 : (f == 0) = false := beq_eq_false_iff_ne.2 h1
      clear h1
      go_enter Try.func24, Try.ntmps24
      go_wp2_with (first | (go_at_call 25; (with_reducible refine (HX.out _ HH.out).mono ?_); rintro e w1 ⟨rfl, hb⟩; have HA := Aside0.mk (HH.out.below hb); have HB := Aside0.mk hb; clear hb; clear HX) | (go_at_call 25; (with_reducible refine (HY.out _ HA.out).mono ?_); rintro e w2 ⟨rfl, hb⟩; have HA2 := Aside0.mk (HA.out.below hb); have HB2 := Aside0.mk (below_then HB.out HB.out.size hb); clear hb HY))
      go_ret2
      exact ⟨rfl, HA2.out, Chg.of_below _ HB2.out⟩
  · rw [if_neg h0]
    have n1 : (e != 0) = true := bne_iff_ne.2 h0
    have n2 : (e == 0) = false := beq_eq_false_iff_ne.2 h0
    clear h0
    go_enter Try.func24, Try.ntmps24
    go_wp2_with (go_at_call 25; (with_reducible refine (HX.out _ HH.out).mono ?_); rintro e w1 ⟨rfl, hb⟩; have HA := Aside0.mk (HH.out.below hb); have HB := Aside0.mk hb; clear hb; clear HX)
    go_ret2
    exact ⟨rfl, HA.out, Chg.of_below _ HB.out⟩
end Go.Proofs.Ytkmoneccehbncaa.Heap
