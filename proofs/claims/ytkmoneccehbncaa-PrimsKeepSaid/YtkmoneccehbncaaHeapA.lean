/- Maps from whole numbers to bools, all true: what a look-up and a store of a new key do; no condition but what each theorem states. -/
import Derived.Test.YtkmoneccehbncaaPrint0
namespace Go.Proofs.Ytkmoneccehbncaa.Heap
open Go.RowKit Go.Proofs.YtkmoneccehbncaaW.PrintWords Go.Proofs.YtkmoneccehbncaaW.PrintLast Go.Proofs.YtkmoneccehbncaaW.PrintMore
set_option linter.unusedVariables false
set_option linter.unusedSimpArgs false

/-- The entries are of these keys, each with the value v. -/
def Keys (v : Int → Value) (es : Array MapEntry) (ks : List Int) : Prop := es.toList.map (fun e => (e.key, e.val)) = ks.map (fun k => (Value.int .i64 k, v k))

theorem findNow_yes (v : Int → Value) (z : Int) : ∀ (es : List MapEntry) (ks : List Int) (i : Nat), es.map (fun e => (e.key, e.val)) = ks.map (fun k => (Value.int .i64 k, v k)) → z ∈ ks →
    ∃ j, Instr.findNow (.int .i64) (.int .i64 z) es i = some (some (j, v z))
  | [], [], _, _, h => by cases h
  | [], _ :: _, _, h, _ => by simp at h
  | _ :: _, [], _, h, _ => by simp at h
  | e :: es, k :: ks, i, h, hz => by
    simp only [List.map_cons, List.cons.injEq, Prod.mk.injEq] at h
    obtain ⟨⟨h1, h2⟩, h3⟩ := h
    by_cases hk : z = k
    · subst hk
      exact ⟨i, by simp [Instr.findNow, Instr.sameNow, h1, h2]⟩
    · obtain ⟨j, hj⟩ := findNow_yes v z es ks (i + 1) h3 (by simpa [hk] using hz)
      refine ⟨j, ?_⟩
      have hb : (z == k) = false := beq_eq_false_iff_ne.2 hk
      simp [Instr.findNow, Instr.sameNow, h1, hb, hj]
theorem findNow_no (v : Int → Value) (z : Int) : ∀ (es : List MapEntry) (ks : List Int) (i : Nat), es.map (fun e => (e.key, e.val)) = ks.map (fun k => (Value.int .i64 k, v k)) → z ∉ ks →
    Instr.findNow (.int .i64) (.int .i64 z) es i = some none
  | [], _, _, _, _ => rfl
  | _ :: _, [], _, h, _ => by simp at h
  | e :: es, k :: ks, i, h, hz => by
    simp only [List.map_cons, List.cons.injEq, Prod.mk.injEq] at h
    obtain ⟨⟨h1, h2⟩, h3⟩ := h
    have hk : ¬ z = k := fun e => hz (by simp [e])
    have hb : (z == k) = false := beq_eq_false_iff_ne.2 hk
    simp [Instr.findNow, Instr.sameNow, h1, hb, findNow_no v z es ks (i + 1) h3 (fun x => hz (by simp [x]))]

theorem run_look {P : Program} {W : World} (t kt et : TypeId) (ht : P.underlying t = some (.map kt et)) (hk : P.underlying kt = some (.int .i64)) {zv : Value} (hz : (zeroValue et).run P W = .ok zv W) {v : Int → Value} {m cl : Nat} {es : Array MapEntry} {ks : List Int}
    (hb : W.heap[m]? = some (.map es cl)) (hK : Keys v es ks) (z : Int) : (Instr.lookup t (.map (some m)) (.int .i64 z) false).run P W = .ok (if z ∈ ks then v z else zv) W := by
  have hc : (Instr.checkKey es.isEmpty 10000 kt (.int .i64 z)).run P W = .ok () W := MapKept.run_checkKey hk (by simp [MapKept.IsKey]) _ 9999
  by_cases h : z ∈ ks
  · obtain ⟨j, hj⟩ := findNow_yes v z _ _ 0 hK h
    simp [Instr.lookup, run_underlying ht, MapKept.run_getObj_map hb, hc, MapKept.run_findKey hk hj, Result.andThen, h]
  · have hj := findNow_no v z _ _ 0 hK h
    simp [Instr.lookup, run_underlying ht, MapKept.run_getObj_map hb, hc, MapKept.run_findKey hk hj, Result.andThen, h, hz]
theorem run_put {P : Program} {W : World} (t kt et : TypeId) (ht : P.underlying t = some (.map kt et)) (hk : P.underlying kt = some (.int .i64)) {v : Int → Value} {m cl : Nat} {es : Array MapEntry} {ks : List Int}
    (hb : W.heap[m]? = some (.map es cl)) (hK : Keys v es ks) (z : Int) (h : z ∉ ks) (x : Value) : (Instr.mapUpdate t (.map (some m)) (.int .i64 z) x).run P W = .ok () { W with heap := W.heap.setIfInBounds m (.map (es.push { key := .int .i64 z, val := x, born := cl }) (cl + 1)) } := by
  have hc : (Instr.checkKey false 10000 kt (.int .i64 z)).run P W = .ok () W := MapKept.run_checkKey hk (by simp [MapKept.IsKey]) _ 9999
  have hj := findNow_no v z _ _ 0 hK h
  simp [Instr.mapUpdate, run_underlying ht, MapKept.run_getObj_map hb, hc, MapKept.run_findKey hk hj, MapKept.run_setObj_map _ hb, Result.andThen]
end Go.Proofs.Ytkmoneccehbncaa.Heap
