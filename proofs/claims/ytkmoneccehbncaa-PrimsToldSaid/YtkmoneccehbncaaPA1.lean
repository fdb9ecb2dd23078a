/- Contracts of printed functions, each with a plain function of the same answers; no condition but the bounds that each theorem states. -/
import Derived.Test.YtkmoneccehbncaaPA0
/- Contracts of the program's functions, each with a plain function of the same answers; written by a program of this session over the kit's print.py, with hand-written parts; no condition but the bounds that each theorem states. -/
namespace Go.Proofs.Ytkmoneccehbncaa.Plaw
open Go.RowKit Go.Proofs.Ytkmoneccehbncaa.Print Go.Proofs.YtkmoneccehbncaaW.PrintWords Go.Proofs.YtkmoneccehbncaaW.PrintLast Go.Proofs.YtkmoneccehbncaaW.PrintMore
attribute [local go_sem] max2_int min2_int max_two min_two max_three min_three max_four min_four   -- for this text's walks alone
set_option linter.unusedVariables false
set_option linter.unusedSimpArgs false

-- NOT PRINTED: function 34 (prims_signs)







/-! ### prims_Sum: function 9 -/









-- NOT PRINTED: function 14 (heap_New)



-- NOT PRINTED: function 49 (heap_Heap_place)

-- NOT PRINTED: function 50 (slices_Clone_int_int)

-- NOT PRINTED: function 51 (heap_Heap_span)

-- NOT PRINTED: function 20 (heap_Heap_Fields)

-- NOT PRINTED: function 17 (heap_Heap_Used)

-- NOT PRINTED: function 75 (slices_IndexFunc_int_int)

-- NOT PRINTED: function 60 (slices_ContainsFunc_int_int)

-- NOT PRINTED: function 63 (heap_Heap_Half)

-- NOT PRINTED: function 65 (heap_Heap_lay)


-- NOT PRINTED: function 46 (heap_Heap_Make)


-- NOT PRINTED: function 23 (prims_Text)

-- NOT PRINTED: function 55 (heap_Heap_Tag)

-- NOT PRINTED: function 59 (slices_Clip_int_int)

-- NOT PRINTED: function 28 (prims_Open)

-- NOT PRINTED: function 32 (prims_Close)

/-! ### selvagelaw16_lives: function 11 -/


/-! ### selvagelaw16_PrimsSum: function 3 -/
def selvagelaw16_PrimsSum.f (k : Nat) (a0 : Int) (a1 : Int) (a2 : Int) : Option (Bool) := (prims_Sum.f a0 a1 a2).bind fun bt136 => ((selvageref16_Sum.f k a0 a1 a2).bind fun bt138 => (if bt136.1 = bt138.1 then (if bt136.2 = bt138.2 then ((selvagelaw16_lives.f).bind fun t140 => (some t140)) else (some false)) else (some false)))
theorem selvagelaw16_PrimsSum.mono : ∀ a0 a1 a2 k, LeO (selvagelaw16_PrimsSum.f k a0 a1 a2) (selvagelaw16_PrimsSum.f (k + 1) a0 a1 a2) := by
  intro a0 a1 a2 k
  unfold selvagelaw16_PrimsSum.f
  repeat' first
      | (with_reducible exact selvageref16_Sum.mono _ _ _ _)
      | (with_reducible exact LeO.refl _)
      | (with_reducible exact LeO.none _)
      | (with_reducible refine LeO.ite ?_ ?_)
      | (with_reducible refine LeO.bind ?_ (fun _ => ?_))
      | exact selvageref16_Sum.mono _ _ _ _
      | exact LeO.none _
      | refine LeO.ite ?_ ?_
      | refine LeO.bind ?_ (fun _ => ?_)
set_option maxHeartbeats 8000000 in
set_option maxRecDepth 100000 in
theorem selvagelaw16_PrimsSum.calls (k : Nat) (a0 : Int) (a1 : Int) (a2 : Int) (r : Bool) (w : World) (h : selvagelaw16_PrimsSum.f k a0 a1 a2 = some r) :
    Calls Try.prog 3 #[.int .i64 a0, .int .i64 a1, .int .i64 a2] w fun e w' => e = .returned (.bool r) ∧ Below w.heap.size w w' := by
  have HB := Aside0.mk (Below.refl w.heap.size w)
  have H : ((prims_Sum.f a0 a1 a2).bind fun bt136 => ((selvageref16_Sum.f k a0 a1 a2).bind fun bt138 => (if bt136.1 = bt138.1 then (if bt136.2 = bt138.2 then ((selvagelaw16_lives.f).bind fun t140 => (some t140)) else (some false)) else (some false)))) = some r := h
  clear h
  replace H := Option.bind_eq_some_iff.mp H
  obtain ⟨⟨t136, t137⟩, A40, H⟩ := H
  replace H : ((selvageref16_Sum.f k a0 a1 a2).bind fun bt138 => (if t136 = bt138.1 then (if t137 = bt138.2 then ((selvagelaw16_lives.f).bind fun t140 => (some t140)) else (some false)) else (some false))) = some r := H
  have A4 := Aside0.mk A40
  clear A40
  replace H := Option.bind_eq_some_iff.mp H
  obtain ⟨⟨t138, t139⟩, A50, H⟩ := H
  replace H : (if t136 = t138 then (if t137 = t139 then ((selvagelaw16_lives.f).bind fun t140 => (some t140)) else (some false)) else (some false)) = some r := H
  have A5 := Aside0.mk A50
  clear A50
  by_cases c6 : t136 = t138
  · rw [if_pos c6] at H
    have c6b0 : (t136 == t138) = true := beq_iff_eq.mpr c6
    have c6b1 : (t136 != t138) = false := bne_eq_false_iff_eq.mpr c6
    clear c6
    by_cases c7 : t137 = t139
    · rw [if_pos c7] at H
      have c7b0 : (t137 == t139) = true := beq_iff_eq.mpr c7
      have c7b1 : (t137 != t139) = false := bne_eq_false_iff_eq.mpr c7
      clear c7
      replace H := Option.bind_eq_some_iff.mp H
      obtain ⟨t140, A80, H⟩ := H
      replace H : (some t140) = some r := H
      have A8 := Aside0.mk A80
      clear A80
      obtain rfl := Option.some.inj H
      go_enter Try.func3, Try.ntmps3
      go_wp2_with (first | ((with_reducible refine gate_callee (f := 9) rfl ?_); refine goesL_ (some 15) rfl rfl Try.func9 (by kernel_rfl) rfl #[.int .i64 a0, .int .i64 a1, .int .i64 a2] rfl (by (try simp only [List.map_toArray, List.map_cons, List.map_nil]); first | done | rfl | (simp only [List.length_drop, List.length_take]; rfl)) ?_; (with_reducible refine (prims_Sum.calls a0 a1 a2 t136 t137 _ A4.out).mono ?_); rintro e w9 ⟨rfl, hb⟩; refine ⟨_, rfl, ?_⟩; have n0_ := Aside0.mk (below_step (by repeat (first | (with_reducible first | exact HB.out | apply below_alloc | apply pw_below_drewN | apply below_drew1) | exact HB.out)) hb); clear HB; have HB := n0_; clear n0_; (try clear hb); (try clear hb2); (try clear hk); (try clear hi)) | ((with_reducible refine gate_callee (f := 10) rfl ?_); refine goesL_ (some 22) rfl rfl Try.func10 (by kernel_rfl) rfl #[.int .i64 a0, .int .i64 a1, .int .i64 a2] rfl (by (try simp only [List.map_toArray, List.map_cons, List.map_nil]); first | done | rfl | (simp only [List.length_drop, List.length_take]; rfl)) ?_; (with_reducible refine (selvageref16_Sum.calls k a0 a1 a2 t138 t139 _ A5.out).mono ?_); rintro e w10 ⟨rfl, hb⟩; refine ⟨_, rfl, ?_⟩; have n0_ := Aside0.mk (below_step (by repeat (first | (with_reducible first | exact HB.out | apply below_alloc | apply pw_below_drewN | apply below_drew1) | exact HB.out)) hb); clear HB; have HB := n0_; clear n0_; (try clear hb); (try clear hb2); (try clear hk); (try clear hi)) | (go_at_call 11; (with_reducible refine (selvagelaw16_lives.calls  t140 _ A8.out).mono ?_); rintro e w11 ⟨rfl, hb⟩; have n0_ := Aside0.mk (below_step (by repeat (first | (with_reducible first | exact HB.out | apply below_alloc | apply pw_below_drewN | apply below_drew1) | exact HB.out)) hb); clear HB; have HB := n0_; clear n0_; (try clear hb); (try clear hb2); (try clear hk); (try clear hi)))
      go_ret
      exact ⟨by first | rfl | (simp [errW_none, errW_some] <;> rfl) | (simp [*, errW_none, errW_some] <;> rfl), by repeat (first | (with_reducible first | exact HB.out | apply below_alloc | apply pw_below_drewN | apply below_drew1) | exact HB.out)⟩
    · rw [if_neg c7] at H
      have c7b0 : (t137 == t139) = false := beq_eq_false_iff_ne.mpr c7
      have c7b1 : (t137 != t139) = true := bne_iff_ne.mpr c7
      obtain rfl := Option.some.inj H
      go_enter Try.func3, Try.ntmps3
      go_wp2_with (first | ((with_reducible refine gate_callee (f := 9) rfl ?_); refine goesL_ (some 15) rfl rfl Try.func9 (by kernel_rfl) rfl #[.int .i64 a0, .int .i64 a1, .int .i64 a2] rfl (by (try simp only [List.map_toArray, List.map_cons, List.map_nil]); first | done | rfl | (simp only [List.length_drop, List.length_take]; rfl)) ?_; (with_reducible refine (prims_Sum.calls a0 a1 a2 t136 t137 _ A4.out).mono ?_); rintro e w12 ⟨rfl, hb⟩; refine ⟨_, rfl, ?_⟩; have n0_ := Aside0.mk (below_step (by repeat (first | (with_reducible first | exact HB.out | apply below_alloc | apply pw_below_drewN | apply below_drew1) | exact HB.out)) hb); clear HB; have HB := n0_; clear n0_; (try clear hb); (try clear hb2); (try clear hk); (try clear hi)) | ((with_reducible refine gate_callee (f := 10) rfl ?_); refine goesL_ (some 22) rfl rfl Try.func10 (by kernel_rfl) rfl #[.int .i64 a0, .int .i64 a1, .int .i64 a2] rfl (by (try simp only [List.map_toArray, List.map_cons, List.map_nil]); first | done | rfl | (simp only [List.length_drop, List.length_take]; rfl)) ?_; (with_reducible refine (selvageref16_Sum.calls k a0 a1 a2 t138 t139 _ A5.out).mono ?_); rintro e w13 ⟨rfl, hb⟩; refine ⟨_, rfl, ?_⟩; have n0_ := Aside0.mk (below_step (by repeat (first | (with_reducible first | exact HB.out | apply below_alloc | apply pw_below_drewN | apply below_drew1) | exact HB.out)) hb); clear HB; have HB := n0_; clear n0_; (try clear hb); (try clear hb2); (try clear hk); (try clear hi)))
      go_ret
      exact ⟨by first | rfl | (simp [errW_none, errW_some] <;> rfl) | (simp [*, errW_none, errW_some] <;> rfl), by repeat (first | (with_reducible first | exact HB.out | apply below_alloc | apply pw_below_drewN | apply below_drew1) | exact HB.out)⟩
  · rw [if_neg c6] at H
    have c6b0 : (t136 == t138) = false := beq_eq_false_iff_ne.mpr c6
    have c6b1 : (t136 != t138) = true := bne_iff_ne.mpr c6
    obtain rfl := Option.some.inj H
    go_enter Try.func3, Try.ntmps3
    go_wp2_with (first | ((with_reducible refine gate_callee (f := 9) rfl ?_); refine goesL_ (some 15) rfl rfl Try.func9 (by kernel_rfl) rfl #[.int .i64 a0, .int .i64 a1, .int .i64 a2] rfl (by (try simp only [List.map_toArray, List.map_cons, List.map_nil]); first | done | rfl | (simp only [List.length_drop, List.length_take]; rfl)) ?_; (with_reducible refine (prims_Sum.calls a0 a1 a2 t136 t137 _ A4.out).mono ?_); rintro e w14 ⟨rfl, hb⟩; refine ⟨_, rfl, ?_⟩; have n0_ := Aside0.mk (below_step (by repeat (first | (with_reducible first | exact HB.out | apply below_alloc | apply pw_below_drewN | apply below_drew1) | exact HB.out)) hb); clear HB; have HB := n0_; clear n0_; (try clear hb); (try clear hb2); (try clear hk); (try clear hi)) | ((with_reducible refine gate_callee (f := 10) rfl ?_); refine goesL_ (some 22) rfl rfl Try.func10 (by kernel_rfl) rfl #[.int .i64 a0, .int .i64 a1, .int .i64 a2] rfl (by (try simp only [List.map_toArray, List.map_cons, List.map_nil]); first | done | rfl | (simp only [List.length_drop, List.length_take]; rfl)) ?_; (with_reducible refine (selvageref16_Sum.calls k a0 a1 a2 t138 t139 _ A5.out).mono ?_); rintro e w15 ⟨rfl, hb⟩; refine ⟨_, rfl, ?_⟩; have n0_ := Aside0.mk (below_step (by repeat (first | (with_reducible first | exact HB.out | apply below_alloc | apply pw_below_drewN | apply below_drew1) | exact HB.out)) hb); clear HB; have HB := n0_; clear n0_; (try clear hb); (try clear hb2); (try clear hk); (try clear hi)))
    go_ret
    exact ⟨by first | rfl | (simp [errW_none, errW_some] <;> rfl) | (simp [*, errW_none, errW_some] <;> rfl), by repeat (first | (with_reducible first | exact HB.out | apply below_alloc | apply pw_below_drewN | apply below_drew1) | exact HB.out)⟩

/-- THE ONE PURE STATEMENT of selvagelaw16_PrimsSum: yours. -/
def selvagelaw16_PrimsSum.Pure : Prop := ∀ (a0 : Int) (a1 : Int) (a2 : Int), (Lit.int .i64 a0).wf = true → (Lit.int .i64 a1).wf = true → (Lit.int .i64 a2).wf = true → ∃ k, selvagelaw16_PrimsSum.f k a0 a1 a2 = some true
theorem selvagelaw16_PrimsSum.walk (P : selvagelaw16_PrimsSum.Pure) (a0 : Int) (a1 : Int) (a2 : Int) (w : World) (w0 : (Lit.int .i64 a0).wf = true) (w1 : (Lit.int .i64 a1).wf = true) (w2 : (Lit.int .i64 a2).wf = true) :
    Calls Try.prog 3 #[.int .i64 a0, .int .i64 a1, .int .i64 a2] w fun e w' => e = .returned (.bool true) ∧ Below w.heap.size w w' := by
  obtain ⟨k, h⟩ := P a0 a1 a2 w0 w1 w2
  refine (selvagelaw16_PrimsSum.calls k a0 a1 a2 true w h).mono ?_
  rintro e w' ⟨rfl, hd⟩
  exact ⟨rfl, hd⟩

/-! ### selvagelaw16_PrimsTags: function 4 -/
def selvagelaw16_PrimsTags.j0 : Nat → Int → Int → Int → Int → Int → List ByteArray → Bool → Option (Bool)
  | 0, _, _, _, _, _, _, _ => none
  | k + 1, x0, x1, x2, x7, x8, x9, x33 => if x33 = true then (if x7 = 0 then (if x8 = 1 then ((selvagelaw16_lives.f).bind fun t148 => (some t148)) else (some false)) else (some false)) else (if 0 ≤ x0 then (if x0 < (x9.length : Int) then ((selvageref01_Do.f k (rdOf ByteArray.empty x9 x0) x1 x2).bind fun bt150 => (if bt150.2 = 0 then (if x7 = (wrap64 ((wrap64 (2 * bt150.1)) + 1)) then (if x8 = 0 then ((selvagelaw16_lives.f).bind fun t152 => (some t152)) else (some false)) else (some false)) else (if x7 = 0 then (if x8 = bt150.2 then ((selvagelaw16_lives.f).bind fun t153 => (some t153)) else (some false)) else (some false)))) else (none)) else (none))
def selvagelaw16_PrimsTags.f (k : Nat) (a0 : Int) (a1 : Int) (a2 : Int) : Option (Bool) := (selvageref01_Wrap.f a1).bind fun t141 => ((selvageref01_Wrap.f a2).bind fun t142 => ((prims_Sum.f a0 (wrap64 ((wrap64 (2 * t141)) + 1)) (wrap64 ((wrap64 (2 * t142)) + 1))).bind fun bt143 => ((some (([(⟨#[43]⟩ : ByteArray), (⟨#[45]⟩ : ByteArray), (⟨#[42]⟩ : ByteArray), (⟨#[47]⟩ : ByteArray), (⟨#[37]⟩ : ByteArray), (⟨#[61]⟩ : ByteArray), (⟨#[60]⟩ : ByteArray)] : List ByteArray) : List ByteArray)).bind fun y145 => (if a0 < 0 then (selvagelaw16_PrimsTags.j0 k a0 t141 t142 bt143.1 bt143.2 y145 true) else (selvagelaw16_PrimsTags.j0 k a0 t141 t142 bt143.1 bt143.2 y145 (decide (a0 > 6)))))))
theorem selvagelaw16_PrimsTags.mono_l : ∀ k, (∀ y0 y1 y2 y3 y4 y5 y6, LeO (selvagelaw16_PrimsTags.j0 k y0 y1 y2 y3 y4 y5 y6) (selvagelaw16_PrimsTags.j0 (k + 1) y0 y1 y2 y3 y4 y5 y6))
  | 0 => fun _ _ _ _ _ _ _ r h => by simp [selvagelaw16_PrimsTags.j0] at h
  | k + 1 => by
    have ih0 := selvagelaw16_PrimsTags.mono_l k
    · intro y0 y1 y2 y3 y4 y5 y6
      unfold selvagelaw16_PrimsTags.j0
      repeat' first
      | (with_reducible exact ih0 _ _ _ _ _ _ _)
      | (with_reducible exact selvageref01_Do.mono _ _ _ _)
      | (with_reducible exact LeO.refl _)
      | (with_reducible exact LeO.none _)
      | (with_reducible refine LeO.ite ?_ ?_)
      | (with_reducible refine LeO.bind ?_ (fun _ => ?_))
      | exact ih0 _ _ _ _ _ _ _
      | exact selvageref01_Do.mono _ _ _ _
      | exact LeO.none _
      | refine LeO.ite ?_ ?_
      | refine LeO.bind ?_ (fun _ => ?_)
theorem selvagelaw16_PrimsTags.mono : ∀ a0 a1 a2 k, LeO (selvagelaw16_PrimsTags.f k a0 a1 a2) (selvagelaw16_PrimsTags.f (k + 1) a0 a1 a2) := by
  intro a0 a1 a2 k
  have ih0 := selvagelaw16_PrimsTags.mono_l k
  unfold selvagelaw16_PrimsTags.f
  repeat' first
      | (with_reducible exact ih0 _ _ _ _ _ _ _)
      | (with_reducible exact selvageref01_Do.mono _ _ _ _)
      | (with_reducible exact LeO.refl _)
      | (with_reducible exact LeO.none _)
      | (with_reducible refine LeO.ite ?_ ?_)
      | (with_reducible refine LeO.bind ?_ (fun _ => ?_))
      | exact ih0 _ _ _ _ _ _ _
      | exact selvageref01_Do.mono _ _ _ _
      | exact LeO.none _
      | refine LeO.ite ?_ ?_
      | refine LeO.bind ?_ (fun _ => ?_)
set_option maxHeartbeats 8000000 in
set_option maxRecDepth 100000 in
theorem selvagelaw16_PrimsTags.calls (k : Nat) (a0 : Int) (a1 : Int) (a2 : Int) (r : Bool) (w : World) (h : selvagelaw16_PrimsTags.f k a0 a1 a2 = some r) :
    Calls Try.prog 4 #[.int .i64 a0, .int .i64 a1, .int .i64 a2] w fun e w' => e = .returned (.bool r) ∧ Below w.heap.size w w' := by
  have HB := Aside0.mk (Below.refl w.heap.size w)
  have H : ((selvageref01_Wrap.f a1).bind fun t141 => ((selvageref01_Wrap.f a2).bind fun t142 => ((prims_Sum.f a0 (wrap64 ((wrap64 (2 * t141)) + 1)) (wrap64 ((wrap64 (2 * t142)) + 1))).bind fun bt143 => ((some (([(⟨#[43]⟩ : ByteArray), (⟨#[45]⟩ : ByteArray), (⟨#[42]⟩ : ByteArray), (⟨#[47]⟩ : ByteArray), (⟨#[37]⟩ : ByteArray), (⟨#[61]⟩ : ByteArray), (⟨#[60]⟩ : ByteArray)] : List ByteArray) : List ByteArray)).bind fun y145 => (if a0 < 0 then (selvagelaw16_PrimsTags.j0 k a0 t141 t142 bt143.1 bt143.2 y145 true) else (selvagelaw16_PrimsTags.j0 k a0 t141 t142 bt143.1 bt143.2 y145 (decide (a0 > 6)))))))) = some r := h
  clear h
  replace H := Option.bind_eq_some_iff.mp H
  obtain ⟨t141, A40, H⟩ := H
  replace H : ((selvageref01_Wrap.f a2).bind fun t142 => ((prims_Sum.f a0 (wrap64 ((wrap64 (2 * t141)) + 1)) (wrap64 ((wrap64 (2 * t142)) + 1))).bind fun bt143 => ((some (([(⟨#[43]⟩ : ByteArray), (⟨#[45]⟩ : ByteArray), (⟨#[42]⟩ : ByteArray), (⟨#[47]⟩ : ByteArray), (⟨#[37]⟩ : ByteArray), (⟨#[61]⟩ : ByteArray), (⟨#[60]⟩ : ByteArray)] : List ByteArray) : List ByteArray)).bind fun y145 => (if a0 < 0 then (selvagelaw16_PrimsTags.j0 k a0 t141 t142 bt143.1 bt143.2 y145 true) else (selvagelaw16_PrimsTags.j0 k a0 t141 t142 bt143.1 bt143.2 y145 (decide (a0 > 6))))))) = some r := H
  have A4 := Aside0.mk A40
  clear A40
  replace H := Option.bind_eq_some_iff.mp H
  obtain ⟨t142, A50, H⟩ := H
  replace H : ((prims_Sum.f a0 (wrap64 ((wrap64 (2 * t141)) + 1)) (wrap64 ((wrap64 (2 * t142)) + 1))).bind fun bt143 => ((some (([(⟨#[43]⟩ : ByteArray), (⟨#[45]⟩ : ByteArray), (⟨#[42]⟩ : ByteArray), (⟨#[47]⟩ : ByteArray), (⟨#[37]⟩ : ByteArray), (⟨#[61]⟩ : ByteArray), (⟨#[60]⟩ : ByteArray)] : List ByteArray) : List ByteArray)).bind fun y145 => (if a0 < 0 then (selvagelaw16_PrimsTags.j0 k a0 t141 t142 bt143.1 bt143.2 y145 true) else (selvagelaw16_PrimsTags.j0 k a0 t141 t142 bt143.1 bt143.2 y145 (decide (a0 > 6)))))) = some r := H
  have A5 := Aside0.mk A50
  clear A50
  replace H := Option.bind_eq_some_iff.mp H
  obtain ⟨⟨t143, t144⟩, A60, H⟩ := H
  replace H : ((some (([(⟨#[43]⟩ : ByteArray), (⟨#[45]⟩ : ByteArray), (⟨#[42]⟩ : ByteArray), (⟨#[47]⟩ : ByteArray), (⟨#[37]⟩ : ByteArray), (⟨#[61]⟩ : ByteArray), (⟨#[60]⟩ : ByteArray)] : List ByteArray) : List ByteArray)).bind fun y145 => (if a0 < 0 then (selvagelaw16_PrimsTags.j0 k a0 t141 t142 t143 t144 y145 true) else (selvagelaw16_PrimsTags.j0 k a0 t141 t142 t143 t144 y145 (decide (a0 > 6))))) = some r := H
  have A6 := Aside0.mk A60
  clear A60
  obtain ⟨y145, hy145⟩ : ∃ y_ : List ByteArray, y_ = (([(⟨#[43]⟩ : ByteArray), (⟨#[45]⟩ : ByteArray), (⟨#[42]⟩ : ByteArray), (⟨#[47]⟩ : ByteArray), (⟨#[37]⟩ : ByteArray), (⟨#[61]⟩ : ByteArray), (⟨#[60]⟩ : ByteArray)] : List ByteArray)) := ⟨_, rfl⟩
  replace H : (if a0 < 0 then (selvagelaw16_PrimsTags.j0 k a0 t141 t142 t143 t144 y145 true) else (selvagelaw16_PrimsTags.j0 k a0 t141 t142 t143 t144 y145 (decide (a0 > 6)))) = some r := by first | (rw [hy145]; with_reducible exact H) | (have H2_ := (Option.bind_some _ _).symm.trans H; rw [hy145]; with_reducible exact H2_) | (have H2_ := (Option.bind_some _ _).symm.trans H; with_reducible exact H2_) | with_reducible exact H | (rw [hy145]; exact H) | exact H
  have Ny145 := Aside0.mk hy145
  clear hy145
  have HC7 := Aside0.mk H
  clear H
  go_enter Try.func4, Try.ntmps4
  go_upto_region 5 with (first | ((with_reducible refine gate_callee (f := 12) rfl ?_); refine goesL_ (some 13) rfl rfl Try.func12 (by kernel_rfl) rfl #[.int .i64 a1] rfl (by (try simp only [List.map_toArray, List.map_cons, List.map_nil]); first | done | rfl | (simp only [List.length_drop, List.length_take]; rfl)) ?_; (with_reducible refine (selvageref01_Wrap.calls a1 t141 _ A4.out).mono ?_); rintro e w' ⟨rfl, ⟨nd, rfl⟩⟩; refine ⟨_, rfl, ?_⟩) | ((with_reducible refine gate_callee (f := 12) rfl ?_); refine goesL_ (some 15) rfl rfl Try.func12 (by kernel_rfl) rfl #[.int .i64 a2] rfl (by (try simp only [List.map_toArray, List.map_cons, List.map_nil]); first | done | rfl | (simp only [List.length_drop, List.length_take]; rfl)) ?_; (with_reducible refine (selvageref01_Wrap.calls a2 t142 _ A5.out).mono ?_); rintro e w' ⟨rfl, ⟨nd, rfl⟩⟩; refine ⟨_, rfl, ?_⟩) | ((with_reducible refine gate_callee (f := 9) rfl ?_); refine goesL_ (some 24) rfl rfl Try.func9 (by kernel_rfl) rfl #[.int .i64 a0, .int .i64 (wrap64 ((wrap64 (2 * t141)) + 1)), .int .i64 (wrap64 ((wrap64 (2 * t142)) + 1))] rfl (by (try simp only [List.map_toArray, List.map_cons, List.map_nil]); first | done | rfl | (simp only [List.length_drop, List.length_take]; rfl)) ?_; (with_reducible refine (prims_Sum.calls a0 (wrap64 ((wrap64 (2 * t141)) + 1)) (wrap64 ((wrap64 (2 * t142)) + 1)) t143 t144 _ A6.out).mono ?_); rintro e w8 ⟨rfl, hb⟩; refine ⟨_, rfl, ?_⟩; have n0_ := Aside0.mk (below_step (by repeat (first | (with_reducible first | exact HB.out | apply below_alloc | apply pw_below_drewN | apply below_drew1) | exact HB.out)) hb); clear HB; have HB := n0_; clear n0_; (try clear hb); (try clear hb2); (try clear hk); (try clear hi)) | ((with_reducible refine gate_dst (N := 27) rfl ?_); refine Kd.R_lit Kd.string _ 9 ?hg (N := 27) ?hd (xs := ([(⟨#[43]⟩ : ByteArray), (⟨#[45]⟩ : ByteArray), (⟨#[42]⟩ : ByteArray), (⟨#[47]⟩ : ByteArray), (⟨#[37]⟩ : ByteArray), (⟨#[61]⟩ : ByteArray), (⟨#[60]⟩ : ByteArray)] : List ByteArray)) (inner := [.string (⟨#[43]⟩ : ByteArray), .string (⟨#[45]⟩ : ByteArray), .string (⟨#[42]⟩ : ByteArray), .string (⟨#[47]⟩ : ByteArray), .string (⟨#[37]⟩ : ByteArray), .string (⟨#[61]⟩ : ByteArray), .string (⟨#[60]⟩ : ByteArray)]) (ok := fun _ => True) (okp := fun _ => True) ?hr ?hp (fun _ hk => hk) trivial (Below.refl _ _) (Nat.le_refl _) (by simp) ?_; (case hd => rfl); (case hg => rfl); (case hr => first | (go_simp; done) | (go_simp; rfl)); (case hp => exact (Reps.one (show Kd.M Kd.string _ _ _ (⟨#[43]⟩ : ByteArray) [.string (⟨#[43]⟩ : ByteArray)] from rfl) (Reps.one (show Kd.M Kd.string _ _ _ (⟨#[45]⟩ : ByteArray) [.string (⟨#[45]⟩ : ByteArray)] from rfl) (Reps.one (show Kd.M Kd.string _ _ _ (⟨#[42]⟩ : ByteArray) [.string (⟨#[42]⟩ : ByteArray)] from rfl) (Reps.one (show Kd.M Kd.string _ _ _ (⟨#[47]⟩ : ByteArray) [.string (⟨#[47]⟩ : ByteArray)] from rfl) (Reps.one (show Kd.M Kd.string _ _ _ (⟨#[37]⟩ : ByteArray) [.string (⟨#[37]⟩ : ByteArray)] from rfl) (Reps.one (show Kd.M Kd.string _ _ _ (⟨#[61]⟩ : ByteArray) [.string (⟨#[61]⟩ : ByteArray)] from rfl) (Reps.one (show Kd.M Kd.string _ _ _ (⟨#[60]⟩ : ByteArray) [.string (⟨#[60]⟩ : ByteArray)] from rfl) (Reps.none _ _))))))))); intro v146 w9 ho10 hb hg_ hnew_; clear hg_ hnew_; (first | rw [← Ny145.out] at ho10 | (simp only [Int.reduceToNat] at ho10; rw [← Ny145.out] at ho10)); have n0_ := Aside0.mk (Kd.R_lower ho10 (below_size (by repeat (first | (with_reducible first | exact HB.out | apply below_alloc | apply pw_below_drewN | apply below_drew1) | exact HB.out)))); have n1_ := Aside0.mk (below_step (by repeat (first | (with_reducible first | exact HB.out | apply below_alloc | apply pw_below_drewN | apply below_drew1) | exact HB.out)) hb); clear HB; have HO147 := n0_; have HB := n1_; clear n0_ n1_; clear hb ho10))
  (try simp only [Act.put, List.setIfInBounds_toArray, List.set_cons_zero, List.set_cons_succ])
  go_cut [33] (fun v33 wc => ∃ (kq : Nat) (x33_6 : Bool), v33 = .bool x33_6 ∧ Aside0 (selvagelaw16_PrimsTags.j0 kq a0 t141 t142 t143 t144 y145 x33_6 = some r) ∧ Aside0 (kq ≤ k) ∧ Aside0 (Kd.R Kd.string 9 wc w.heap.size (fun _ => True) v146 y145) ∧ Aside0 (Below w.heap.size w wc))
  case first =>
    have H := HC7.out
    clear HC7
    by_cases c11 : a0 < 0
    · rw [if_pos c11] at H
      have c11b0 : decide (a0 < 0) = true := decide_eq_true c11
      clear c11
      (first | rw [c11b0] | (simp only [i64_w, i32_w]; rw [c11b0]) | skip)
      have H' := Aside0.mk H
      clear H
      go_wp2
      go_meet
      case rel => exact ⟨_, (true), (by first | rfl | (simp; done) | (simp [*]; done)), H', ⟨by first | omega | exact Nat.le_refl _⟩, ⟨by (with_reducible repeat (first | apply Kd.R_alloc | apply Kd.R_drewN | apply Kd.R_drew)); exact HO147.out⟩, ⟨by repeat (first | (with_reducible first | exact HB.out | apply below_alloc | apply pw_below_drewN | apply below_drew1) | exact HB.out)⟩⟩
    · rw [if_neg c11] at H
      have c11b0 : decide (a0 < 0) = false := decide_eq_false c11
      clear c11
      (first | rw [c11b0] | (simp only [i64_w, i32_w]; rw [c11b0]) | skip)
      have H' := Aside0.mk H
      clear H
      go_wp2
      go_meet
      case rel => exact ⟨_, (decide (a0 > 6)), (by first | rfl | (simp; done) | (simp [*]; done)), H', ⟨by first | omega | exact Nat.le_refl _⟩, ⟨by (with_reducible repeat (first | apply Kd.R_alloc | apply Kd.R_drewN | apply Kd.R_drew)); exact HO147.out⟩, ⟨by repeat (first | (with_reducible first | exact HB.out | apply below_alloc | apply pw_below_drewN | apply below_drew1) | exact HB.out)⟩⟩
  case rest =>
    clear HC7
    try clear c1
    try clear p2
    try clear c4
    try clear p6
    try clear c9
    try clear c11
    try clear c11b0
    obtain ⟨kq, x33_6, rfl, HA, HJ6, HO_9, HB⟩ := hcut
    cases kq with
    | zero => exact absurd HA.out (by simp [selvagelaw16_PrimsTags.j0])
    | succ kj6 =>
      have H := HA.out
      clear HA
      simp only [selvagelaw16_PrimsTags.j0] at H
      by_cases c12 : x33_6 = true
      · subst c12
        have H1 : (if t143 = 0 then (if t144 = 1 then ((selvagelaw16_lives.f).bind fun t148 => (some t148)) else (some false)) else (some false)) = some r := by rw [if_pos rfl] at H; exact H
        clear H
        have H := H1
        clear H1
        by_cases c13 : t143 = 0
        · rw [if_pos c13] at H
          have c13b0 : (t143 == 0) = true := beq_iff_eq.mpr c13
          have c13b1 : (t143 != 0) = false := bne_eq_false_iff_eq.mpr c13
          clear c13
          by_cases c14 : t144 = 1
          · rw [if_pos c14] at H
            have c14b0 : (t144 == 1) = true := beq_iff_eq.mpr c14
            have c14b1 : (t144 != 1) = false := bne_eq_false_iff_eq.mpr c14
            clear c14
            replace H := Option.bind_eq_some_iff.mp H
            obtain ⟨t148, A150, H⟩ := H
            replace H : (some t148) = some r := H
            have A15 := Aside0.mk A150
            clear A150
            obtain rfl := Option.some.inj H
            go_wp2_with (first | (go_at_call 11; (with_reducible refine (selvagelaw16_lives.calls  t148 _ A15.out).mono ?_); rintro e w16 ⟨rfl, hb⟩; have n0_ := Aside0.mk (Kd.R_below (by (with_reducible repeat (first | apply Kd.R_alloc | apply Kd.R_drewN | apply Kd.R_drew)); exact HO_9.out) hb); have n1_ := Aside0.mk (below_step (by repeat (first | (with_reducible first | exact HB.out | apply below_alloc | apply pw_below_drewN | apply below_drew1) | exact HB.out)) hb); clear HO_9; clear HB; have HO_9 := n0_; have HB := n1_; clear n0_ n1_; (try clear hb); (try clear hb2); (try clear hk); (try clear hi)))
            go_ret
            exact ⟨by first | rfl | (simp [errW_none, errW_some] <;> rfl) | (simp [*, errW_none, errW_some] <;> rfl), by repeat (first | (with_reducible first | exact HB.out | apply below_alloc | apply pw_below_drewN | apply below_drew1) | exact HB.out)⟩
          · rw [if_neg c14] at H
            have c14b0 : (t144 == 1) = false := beq_eq_false_iff_ne.mpr c14
            have c14b1 : (t144 != 1) = true := bne_iff_ne.mpr c14
            obtain rfl := Option.some.inj H
            go_wp2
            go_ret
            exact ⟨by first | rfl | (simp [errW_none, errW_some] <;> rfl) | (simp [*, errW_none, errW_some] <;> rfl), by repeat (first | (with_reducible first | exact HB.out | apply below_alloc | apply pw_below_drewN | apply below_drew1) | exact HB.out)⟩
        · rw [if_neg c13] at H
          have c13b0 : (t143 == 0) = false := beq_eq_false_iff_ne.mpr c13
          have c13b1 : (t143 != 0) = true := bne_iff_ne.mpr c13
          obtain rfl := Option.some.inj H
          go_wp2
          go_ret
          exact ⟨by first | rfl | (simp [errW_none, errW_some] <;> rfl) | (simp [*, errW_none, errW_some] <;> rfl), by repeat (first | (with_reducible first | exact HB.out | apply below_alloc | apply pw_below_drewN | apply below_drew1) | exact HB.out)⟩
      · replace c12 := Bool.eq_false_iff.mpr c12
        subst c12
        have H1 : (if 0 ≤ a0 then (if a0 < (y145.length : Int) then ((selvageref01_Do.f kj6 (rdOf ByteArray.empty y145 a0) t141 t142).bind fun bt150 => (if bt150.2 = 0 then (if t143 = (wrap64 ((wrap64 (2 * bt150.1)) + 1)) then (if t144 = 0 then ((selvagelaw16_lives.f).bind fun t152 => (some t152)) else (some false)) else (some false)) else (if t143 = 0 then (if t144 = bt150.2 then ((selvagelaw16_lives.f).bind fun t153 => (some t153)) else (some false)) else (some false)))) else (none)) else (none)) = some r := by rw [if_neg (show ¬ (false = true) by decide)] at H; exact H
        clear H
        have H := H1
        clear H1
        by_cases c17 : 0 ≤ a0
        · rw [if_pos c17] at H
          have c17b0 : decide (0 ≤ a0) = true := decide_eq_true c17
          clear c17
          by_cases c18 : a0 < (y145.length : Int)
          · rw [if_pos c18] at H
            have c18b0 : decide (a0 < (y145.length : Int)) = true := decide_eq_true c18
            clear c18
            replace H := Option.bind_eq_some_iff.mp H
            obtain ⟨⟨t150, t151⟩, A190, H⟩ := H
            replace H : (if t151 = 0 then (if t143 = (wrap64 ((wrap64 (2 * t150)) + 1)) then (if t144 = 0 then ((selvagelaw16_lives.f).bind fun t152 => (some t152)) else (some false)) else (some false)) else (if t143 = 0 then (if t144 = t151 then ((selvagelaw16_lives.f).bind fun t153 => (some t153)) else (some false)) else (some false))) = some r := H
            have A19 := Aside0.mk A190
            clear A190
            by_cases c20 : t151 = 0
            · rw [if_pos c20] at H
              have c20b0 : (t151 == 0) = true := beq_iff_eq.mpr c20
              have c20b1 : (t151 != 0) = false := bne_eq_false_iff_eq.mpr c20
              clear c20
              by_cases c21 : t143 = (wrap64 ((wrap64 (2 * t150)) + 1))
              · rw [if_pos c21] at H
                have c21b0 : (t143 == (wrap64 ((wrap64 (2 * t150)) + 1))) = true := beq_iff_eq.mpr c21
                have c21b1 : (t143 != (wrap64 ((wrap64 (2 * t150)) + 1))) = false := bne_eq_false_iff_eq.mpr c21
                clear c21
                by_cases c22 : t144 = 0
                · rw [if_pos c22] at H
                  have c22b0 : (t144 == 0) = true := beq_iff_eq.mpr c22
                  have c22b1 : (t144 != 0) = false := bne_eq_false_iff_eq.mpr c22
                  clear c22
                  replace H := Option.bind_eq_some_iff.mp H
                  obtain ⟨t152, A230, H⟩ := H
                  replace H : (some t152) = some r := H
                  have A23 := Aside0.mk A230
                  clear A230
                  obtain rfl := Option.some.inj H
                  obtain ⟨Ao24, co24, eo24⟩ := Kd.R_slice HO_9.out
                  subst eo24
                  have p149 : 0 ≤ (a0 : Int) := of_decide_eq_true (by first | (with_reducible assumption) | assumption)
                  have q149 : a0 < (y145.length : Int) := of_decide_eq_true (by first | (with_reducible assumption) | assumption)
                  obtain ⟨ad149, e149, hx149_0⟩ := Kd.at_string (Kd.R_reads' HO_9.out).2.2 a0 p149 q149
                  cases e149
                  replace p149 := eq_true p149
                  replace q149 := eq_true q149
                  go_wp2_with (first | ((with_reducible refine gate_callee (f := 13) rfl ?_); refine goesL_ (some 50) rfl rfl Try.func13 (by kernel_rfl) rfl #[.string (rdOf ByteArray.empty y145 a0), .int .i64 t141, .int .i64 t142] rfl (by (try simp only [List.map_toArray, List.map_cons, List.map_nil]); first | done | rfl | (simp only [List.length_drop, List.length_take]; rfl)) ?_; (with_reducible refine (selvageref01_Do.calls kj6 (rdOf ByteArray.empty y145 a0) t141 t142 t150 t151 _ A19.out).mono ?_); rintro e w' ⟨rfl, ⟨nd, rfl⟩⟩; refine ⟨_, rfl, ?_⟩) | (go_at_call 11; (with_reducible refine (selvagelaw16_lives.calls  t152 _ A23.out).mono ?_); rintro e w25 ⟨rfl, hb⟩; have n0_ := Aside0.mk (Kd.R_below (by (with_reducible repeat (first | apply Kd.R_alloc | apply Kd.R_drewN | apply Kd.R_drew)); exact HO_9.out) hb); have n1_ := Aside0.mk (below_step (by repeat (first | (with_reducible first | exact HB.out | apply below_alloc | apply pw_below_drewN | apply below_drew1) | exact HB.out)) hb); clear HO_9; clear HB; have HO_9 := n0_; have HB := n1_; clear n0_ n1_; (try clear hb); (try clear hb2); (try clear hk); (try clear hi)))
                  go_ret
                  exact ⟨by first | rfl | (simp [errW_none, errW_some] <;> rfl) | (simp [*, errW_none, errW_some] <;> rfl), by repeat (first | (with_reducible first | exact HB.out | apply below_alloc | apply pw_below_drewN | apply below_drew1) | exact HB.out)⟩
                · rw [if_neg c22] at H
                  have c22b0 : (t144 == 0) = false := beq_eq_false_iff_ne.mpr c22
                  have c22b1 : (t144 != 0) = true := bne_iff_ne.mpr c22
                  obtain rfl := Option.some.inj H
                  obtain ⟨Ao26, co26, eo26⟩ := Kd.R_slice HO_9.out
                  subst eo26
                  have p149 : 0 ≤ (a0 : Int) := of_decide_eq_true (by first | (with_reducible assumption) | assumption)
                  have q149 : a0 < (y145.length : Int) := of_decide_eq_true (by first | (with_reducible assumption) | assumption)
                  obtain ⟨ad149, e149, hx149_0⟩ := Kd.at_string (Kd.R_reads' HO_9.out).2.2 a0 p149 q149
                  cases e149
                  replace p149 := eq_true p149
                  replace q149 := eq_true q149
                  go_wp2_with (first | ((with_reducible refine gate_callee (f := 13) rfl ?_); refine goesL_ (some 50) rfl rfl Try.func13 (by kernel_rfl) rfl #[.string (rdOf ByteArray.empty y145 a0), .int .i64 t141, .int .i64 t142] rfl (by (try simp only [List.map_toArray, List.map_cons, List.map_nil]); first | done | rfl | (simp only [List.length_drop, List.length_take]; rfl)) ?_; (with_reducible refine (selvageref01_Do.calls kj6 (rdOf ByteArray.empty y145 a0) t141 t142 t150 t151 _ A19.out).mono ?_); rintro e w' ⟨rfl, ⟨nd, rfl⟩⟩; refine ⟨_, rfl, ?_⟩))
                  go_ret
                  exact ⟨by first | rfl | (simp [errW_none, errW_some] <;> rfl) | (simp [*, errW_none, errW_some] <;> rfl), by repeat (first | (with_reducible first | exact HB.out | apply below_alloc | apply pw_below_drewN | apply below_drew1) | exact HB.out)⟩
              · rw [if_neg c21] at H
                have c21b0 : (t143 == (wrap64 ((wrap64 (2 * t150)) + 1))) = false := beq_eq_false_iff_ne.mpr c21
                have c21b1 : (t143 != (wrap64 ((wrap64 (2 * t150)) + 1))) = true := bne_iff_ne.mpr c21
                obtain rfl := Option.some.inj H
                obtain ⟨Ao27, co27, eo27⟩ := Kd.R_slice HO_9.out
                subst eo27
                have p149 : 0 ≤ (a0 : Int) := of_decide_eq_true (by first | (with_reducible assumption) | assumption)
                have q149 : a0 < (y145.length : Int) := of_decide_eq_true (by first | (with_reducible assumption) | assumption)
                obtain ⟨ad149, e149, hx149_0⟩ := Kd.at_string (Kd.R_reads' HO_9.out).2.2 a0 p149 q149
                cases e149
                replace p149 := eq_true p149
                replace q149 := eq_true q149
                go_wp2_with (first | ((with_reducible refine gate_callee (f := 13) rfl ?_); refine goesL_ (some 50) rfl rfl Try.func13 (by kernel_rfl) rfl #[.string (rdOf ByteArray.empty y145 a0), .int .i64 t141, .int .i64 t142] rfl (by (try simp only [List.map_toArray, List.map_cons, List.map_nil]); first | done | rfl | (simp only [List.length_drop, List.length_take]; rfl)) ?_; (with_reducible refine (selvageref01_Do.calls kj6 (rdOf ByteArray.empty y145 a0) t141 t142 t150 t151 _ A19.out).mono ?_); rintro e w' ⟨rfl, ⟨nd, rfl⟩⟩; refine ⟨_, rfl, ?_⟩))
                go_ret
                exact ⟨by first | rfl | (simp [errW_none, errW_some] <;> rfl) | (simp [*, errW_none, errW_some] <;> rfl), by repeat (first | (with_reducible first | exact HB.out | apply below_alloc | apply pw_below_drewN | apply below_drew1) | exact HB.out)⟩
            · rw [if_neg c20] at H
              have c20b0 : (t151 == 0) = false := beq_eq_false_iff_ne.mpr c20
              have c20b1 : (t151 != 0) = true := bne_iff_ne.mpr c20
              by_cases c28 : t143 = 0
              · rw [if_pos c28] at H
                have c28b0 : (t143 == 0) = true := beq_iff_eq.mpr c28
                have c28b1 : (t143 != 0) = false := bne_eq_false_iff_eq.mpr c28
                clear c28
                by_cases c29 : t144 = t151
                · rw [if_pos c29] at H
                  have c29b0 : (t144 == t151) = true := beq_iff_eq.mpr c29
                  have c29b1 : (t144 != t151) = false := bne_eq_false_iff_eq.mpr c29
                  clear c29
                  replace H := Option.bind_eq_some_iff.mp H
                  obtain ⟨t153, A300, H⟩ := H
                  replace H : (some t153) = some r := H
                  have A30 := Aside0.mk A300
                  clear A300
                  obtain rfl := Option.some.inj H
                  obtain ⟨Ao31, co31, eo31⟩ := Kd.R_slice HO_9.out
                  subst eo31
                  have p149 : 0 ≤ (a0 : Int) := of_decide_eq_true (by first | (with_reducible assumption) | assumption)
                  have q149 : a0 < (y145.length : Int) := of_decide_eq_true (by first | (with_reducible assumption) | assumption)
                  obtain ⟨ad149, e149, hx149_0⟩ := Kd.at_string (Kd.R_reads' HO_9.out).2.2 a0 p149 q149
                  cases e149
                  replace p149 := eq_true p149
                  replace q149 := eq_true q149
                  go_wp2_with (first | ((with_reducible refine gate_callee (f := 13) rfl ?_); refine goesL_ (some 50) rfl rfl Try.func13 (by kernel_rfl) rfl #[.string (rdOf ByteArray.empty y145 a0), .int .i64 t141, .int .i64 t142] rfl (by (try simp only [List.map_toArray, List.map_cons, List.map_nil]); first | done | rfl | (simp only [List.length_drop, List.length_take]; rfl)) ?_; (with_reducible refine (selvageref01_Do.calls kj6 (rdOf ByteArray.empty y145 a0) t141 t142 t150 t151 _ A19.out).mono ?_); rintro e w' ⟨rfl, ⟨nd, rfl⟩⟩; refine ⟨_, rfl, ?_⟩) | (go_at_call 11; (with_reducible refine (selvagelaw16_lives.calls  t153 _ A30.out).mono ?_); rintro e w32 ⟨rfl, hb⟩; have n0_ := Aside0.mk (Kd.R_below (by (with_reducible repeat (first | apply Kd.R_alloc | apply Kd.R_drewN | apply Kd.R_drew)); exact HO_9.out) hb); have n1_ := Aside0.mk (below_step (by repeat (first | (with_reducible first | exact HB.out | apply below_alloc | apply pw_below_drewN | apply below_drew1) | exact HB.out)) hb); clear HO_9; clear HB; have HO_9 := n0_; have HB := n1_; clear n0_ n1_; (try clear hb); (try clear hb2); (try clear hk); (try clear hi)))
                  go_ret
                  exact ⟨by first | rfl | (simp [errW_none, errW_some] <;> rfl) | (simp [*, errW_none, errW_some] <;> rfl), by repeat (first | (with_reducible first | exact HB.out | apply below_alloc | apply pw_below_drewN | apply below_drew1) | exact HB.out)⟩
                · rw [if_neg c29] at H
                  have c29b0 : (t144 == t151) = false := beq_eq_false_iff_ne.mpr c29
                  have c29b1 : (t144 != t151) = true := bne_iff_ne.mpr c29
                  obtain rfl := Option.some.inj H
                  obtain ⟨Ao33, co33, eo33⟩ := Kd.R_slice HO_9.out
                  subst eo33
                  have p149 : 0 ≤ (a0 : Int) := of_decide_eq_true (by first | (with_reducible assumption) | assumption)
                  have q149 : a0 < (y145.length : Int) := of_decide_eq_true (by first | (with_reducible assumption) | assumption)
                  obtain ⟨ad149, e149, hx149_0⟩ := Kd.at_string (Kd.R_reads' HO_9.out).2.2 a0 p149 q149
                  cases e149
                  replace p149 := eq_true p149
                  replace q149 := eq_true q149
                  go_wp2_with (first | ((with_reducible refine gate_callee (f := 13) rfl ?_); refine goesL_ (some 50) rfl rfl Try.func13 (by kernel_rfl) rfl #[.string (rdOf ByteArray.empty y145 a0), .int .i64 t141, .int .i64 t142] rfl (by (try simp only [List.map_toArray, List.map_cons, List.map_nil]); first | done | rfl | (simp only [List.length_drop, List.length_take]; rfl)) ?_; (with_reducible refine (selvageref01_Do.calls kj6 (rdOf ByteArray.empty y145 a0) t141 t142 t150 t151 _ A19.out).mono ?_); rintro e w' ⟨rfl, ⟨nd, rfl⟩⟩; refine ⟨_, rfl, ?_⟩))
                  go_ret
                  exact ⟨by first | rfl | (simp [errW_none, errW_some] <;> rfl) | (simp [*, errW_none, errW_some] <;> rfl), by repeat (first | (with_reducible first | exact HB.out | apply below_alloc | apply pw_below_drewN | apply below_drew1) | exact HB.out)⟩
              · rw [if_neg c28] at H
                have c28b0 : (t143 == 0) = false := beq_eq_false_iff_ne.mpr c28
                have c28b1 : (t143 != 0) = true := bne_iff_ne.mpr c28
                obtain rfl := Option.some.inj H
                obtain ⟨Ao34, co34, eo34⟩ := Kd.R_slice HO_9.out
                subst eo34
                have p149 : 0 ≤ (a0 : Int) := of_decide_eq_true (by first | (with_reducible assumption) | assumption)
                have q149 : a0 < (y145.length : Int) := of_decide_eq_true (by first | (with_reducible assumption) | assumption)
                obtain ⟨ad149, e149, hx149_0⟩ := Kd.at_string (Kd.R_reads' HO_9.out).2.2 a0 p149 q149
                cases e149
                replace p149 := eq_true p149
                replace q149 := eq_true q149
                go_wp2_with (first | ((with_reducible refine gate_callee (f := 13) rfl ?_); refine goesL_ (some 50) rfl rfl Try.func13 (by kernel_rfl) rfl #[.string (rdOf ByteArray.empty y145 a0), .int .i64 t141, .int .i64 t142] rfl (by (try simp only [List.map_toArray, List.map_cons, List.map_nil]); first | done | rfl | (simp only [List.length_drop, List.length_take]; rfl)) ?_; (with_reducible refine (selvageref01_Do.calls kj6 (rdOf ByteArray.empty y145 a0) t141 t142 t150 t151 _ A19.out).mono ?_); rintro e w' ⟨rfl, ⟨nd, rfl⟩⟩; refine ⟨_, rfl, ?_⟩))
                go_ret
                exact ⟨by first | rfl | (simp [errW_none, errW_some] <;> rfl) | (simp [*, errW_none, errW_some] <;> rfl), by repeat (first | (with_reducible first | exact HB.out | apply below_alloc | apply pw_below_drewN | apply below_drew1) | exact HB.out)⟩
          · rw [if_neg c18] at H
            exact absurd H (by simp)
        · rw [if_neg c17] at H
          exact absurd H (by simp)

/-- THE ONE PURE STATEMENT of selvagelaw16_PrimsTags: yours. -/
def selvagelaw16_PrimsTags.Pure : Prop := ∀ (a0 : Int) (a1 : Int) (a2 : Int), (Lit.int .i64 a0).wf = true → (Lit.int .i64 a1).wf = true → (Lit.int .i64 a2).wf = true → ∃ k, selvagelaw16_PrimsTags.f k a0 a1 a2 = some true
theorem selvagelaw16_PrimsTags.walk (P : selvagelaw16_PrimsTags.Pure) (a0 : Int) (a1 : Int) (a2 : Int) (w : World) (w0 : (Lit.int .i64 a0).wf = true) (w1 : (Lit.int .i64 a1).wf = true) (w2 : (Lit.int .i64 a2).wf = true) :
    Calls Try.prog 4 #[.int .i64 a0, .int .i64 a1, .int .i64 a2] w fun e w' => e = .returned (.bool true) ∧ Below w.heap.size w w' := by
  obtain ⟨k, h⟩ := P a0 a1 a2 w0 w1 w2
  refine (selvagelaw16_PrimsTags.calls k a0 a1 a2 true w h).mono ?_
  rintro e w' ⟨rfl, hd⟩
  exact ⟨rfl, hd⟩

end Go.Proofs.Ytkmoneccehbncaa.Plaw
