/- Contracts of the program's functions, each with a plain function of the same answers; written by a program of this session over the kit's print.py, with hand-written parts; no condition but the bounds that each theorem states. -/
import Derived.Test.YtdbolkckbgacoaaPrint0
import Derived.Test.YtdbolkckbgacoaaPrint2
import Derived.Test.YtdbolkckbgacoaaPrint7
import Derived.Test.YtdbolkckbgacoaaPrint8
namespace Go.Proofs.Ytdbolkckbgacoaa.Print
open Go.RowKit Go.Proofs.YtdbolkckbgacoaaW.PrintWords Go.Proofs.YtdbolkckbgacoaaW.PrintLast Go.Proofs.YtdbolkckbgacoaaW.PrintMore
attribute [local go_sem] max2_int min2_int max_two min_two max_three min_three max_four min_four   -- for this text's walks alone
set_option linter.unusedVariables false
set_option linter.unusedSimpArgs false

/-! ### selvagelaw01_IntsReads: function 12 -/
def selvagelaw01_IntsReads.f (k : Nat) (a0 : ByteArray) : Option (Bool) := if (a0.size : Int) > 60 then (if 0 ≤ 60 then (if 60 ≤ (a0.size : Int) then ((ints_Read.f k (a0.extract 0 60)).bind fun bt255 => ((selvageref01_Read.f k (a0.extract 0 60)).bind fun bt257 => (if bt255.1 = bt257.1 then (if bt255.2 = bt257.2 then ((selvagelaw01_lives.f k).bind fun t259 => (some t259)) else (some false)) else (some false)))) else (none)) else (none)) else ((ints_Read.f k a0).bind fun bt260 => ((selvageref01_Read.f k a0).bind fun bt262 => (if bt260.1 = bt262.1 then (if bt260.2 = bt262.2 then ((selvagelaw01_lives.f k).bind fun t264 => (some t264)) else (some false)) else (some false))))
theorem selvagelaw01_IntsReads.mono : ∀ a0 k, LeO (selvagelaw01_IntsReads.f k a0) (selvagelaw01_IntsReads.f (k + 1) a0) := by
  intro a0 k
  unfold selvagelaw01_IntsReads.f
  repeat' first
      | (with_reducible exact ints_Read.mono _ _)
      | (with_reducible exact selvagelaw01_lives.mono _)
      | (with_reducible exact selvageref01_Read.mono _ _)
      | (with_reducible exact LeO.refl _)
      | (with_reducible exact LeO.none _)
      | (with_reducible refine LeO.ite ?_ ?_)
      | (with_reducible refine LeO.bind ?_ (fun _ => ?_))
      | exact ints_Read.mono _ _
      | exact selvagelaw01_lives.mono _
      | exact selvageref01_Read.mono _ _
      | exact LeO.none _
      | refine LeO.ite ?_ ?_
      | refine LeO.bind ?_ (fun _ => ?_)
set_option maxHeartbeats 8000000 in
set_option maxRecDepth 100000 in
theorem selvagelaw01_IntsReads.calls (k : Nat) (a0 : ByteArray) (r : Bool) (w : World) (h : selvagelaw01_IntsReads.f k a0 = some r) :
    Calls Try.prog 12 #[.string a0] w fun e w' => e = .returned (.bool r) ∧ Below w.heap.size w w' := by
  have HB := Aside0.mk (Below.refl w.heap.size w)
  have H : (if (a0.size : Int) > 60 then (if 0 ≤ 60 then (if 60 ≤ (a0.size : Int) then ((ints_Read.f k (a0.extract 0 60)).bind fun bt255 => ((selvageref01_Read.f k (a0.extract 0 60)).bind fun bt257 => (if bt255.1 = bt257.1 then (if bt255.2 = bt257.2 then ((selvagelaw01_lives.f k).bind fun t259 => (some t259)) else (some false)) else (some false)))) else (none)) else (none)) else ((ints_Read.f k a0).bind fun bt260 => ((selvageref01_Read.f k a0).bind fun bt262 => (if bt260.1 = bt262.1 then (if bt260.2 = bt262.2 then ((selvagelaw01_lives.f k).bind fun t264 => (some t264)) else (some false)) else (some false))))) = some r := h
  clear h
  by_cases c2 : (a0.size : Int) > 60
  · rw [if_pos c2] at H
    have c2b0 : decide (60 < (a0.size : Int)) = true := decide_eq_true c2
    have c2b1 : decide (60 < a0.size) = true := decide_eq_true (by omega)
    clear c2
    by_cases c3 : 0 ≤ 60
    · rw [if_pos c3] at H
      have c3b0 := eq_true c3
      have c3b1 : decide (0 ≤ 60) = true := decide_eq_true c3
      clear c3
      by_cases c4 : 60 ≤ (a0.size : Int)
      · rw [if_pos c4] at H
        have c4b0 := eq_true c4
        have c4b1 : decide (60 ≤ (a0.size : Int)) = true := decide_eq_true c4
        clear c4
        replace H := Option.bind_eq_some_iff.mp H
        obtain ⟨⟨t255, t256⟩, A50, H⟩ := H
        replace H : ((selvageref01_Read.f k (a0.extract 0 60)).bind fun bt257 => (if t255 = bt257.1 then (if t256 = bt257.2 then ((selvagelaw01_lives.f k).bind fun t259 => (some t259)) else (some false)) else (some false))) = some r := H
        have A5 := Aside0.mk A50
        clear A50
        replace H := Option.bind_eq_some_iff.mp H
        obtain ⟨⟨t257, t258⟩, A60, H⟩ := H
        replace H : (if t255 = t257 then (if t256 = t258 then ((selvagelaw01_lives.f k).bind fun t259 => (some t259)) else (some false)) else (some false)) = some r := H
        have A6 := Aside0.mk A60
        clear A60
        by_cases c7 : t255 = t257
        · rw [if_pos c7] at H
          have c7b0 : (t255 == t257) = true := beq_iff_eq.mpr c7
          have c7b1 : (t255 != t257) = false := bne_eq_false_iff_eq.mpr c7
          clear c7
          by_cases c8 : t256 = t258
          · rw [if_pos c8] at H
            have c8b0 : (t256 == t258) = true := beq_iff_eq.mpr c8
            have c8b1 : (t256 != t258) = false := bne_eq_false_iff_eq.mpr c8
            clear c8
            replace H := Option.bind_eq_some_iff.mp H
            obtain ⟨t259, A90, H⟩ := H
            replace H : (some t259) = some r := H
            have A9 := Aside0.mk A90
            clear A90
            obtain rfl := Option.some.inj H
            go_enter Try.func12, Try.ntmps12
            go_wp2_with (first | ((with_reducible refine gate_callee (f := 24) rfl ?_); refine goesL_ (some 14) rfl rfl Try.func24 (by kernel_rfl) rfl #[.string (a0.extract 0 60)] rfl (by (try simp only [List.map_toArray, List.map_cons, List.map_nil]); first | done | rfl | (simp only [List.length_drop, List.length_take]; rfl)) ?_; (with_reducible refine (ints_Read.calls k (a0.extract 0 60) t255 t256 _ A5.out).mono ?_); rintro e w' ⟨rfl, ⟨nd, rfl⟩⟩; refine ⟨_, rfl, ?_⟩) | ((with_reducible refine gate_callee (f := 26) rfl ?_); refine goesL_ (some 19) rfl rfl Try.func26 (by kernel_rfl) rfl #[.string (a0.extract 0 60)] rfl (by (try simp only [List.map_toArray, List.map_cons, List.map_nil]); first | done | rfl | (simp only [List.length_drop, List.length_take]; rfl)) ?_; (with_reducible refine (selvageref01_Read.calls k (a0.extract 0 60) t257 t258 _ A6.out).mono ?_); rintro e w' ⟨rfl, ⟨nd, rfl⟩⟩; refine ⟨_, rfl, ?_⟩) | (go_at_call 15; (with_reducible refine (selvagelaw01_lives.calls k  t259 _ A9.out).mono ?_); rintro e w10 ⟨rfl, hb⟩; have n0_ := Aside0.mk (below_step (by repeat (first | (with_reducible first | exact HB.out | apply below_alloc | apply pw_below_drewN | apply below_drew1) | exact HB.out)) hb); clear HB; have HB := n0_; clear n0_; (try clear hb); (try clear hb2); (try clear hk); (try clear hi)))
            go_ret
            exact ⟨by first | rfl | (simp [errW_none, errW_some] <;> rfl) | (simp [*, errW_none, errW_some] <;> rfl), by repeat (first | (with_reducible first | exact HB.out | apply below_alloc | apply pw_below_drewN | apply below_drew1) | exact HB.out)⟩
          · rw [if_neg c8] at H
            have c8b0 : (t256 == t258) = false := beq_eq_false_iff_ne.mpr c8
            have c8b1 : (t256 != t258) = true := bne_iff_ne.mpr c8
            obtain rfl := Option.some.inj H
            go_enter Try.func12, Try.ntmps12
            go_wp2_with (first | ((with_reducible refine gate_callee (f := 24) rfl ?_); refine goesL_ (some 14) rfl rfl Try.func24 (by kernel_rfl) rfl #[.string (a0.extract 0 60)] rfl (by (try simp only [List.map_toArray, List.map_cons, List.map_nil]); first | done | rfl | (simp only [List.length_drop, List.length_take]; rfl)) ?_; (with_reducible refine (ints_Read.calls k (a0.extract 0 60) t255 t256 _ A5.out).mono ?_); rintro e w' ⟨rfl, ⟨nd, rfl⟩⟩; refine ⟨_, rfl, ?_⟩) | ((with_reducible refine gate_callee (f := 26) rfl ?_); refine goesL_ (some 19) rfl rfl Try.func26 (by kernel_rfl) rfl #[.string (a0.extract 0 60)] rfl (by (try simp only [List.map_toArray, List.map_cons, List.map_nil]); first | done | rfl | (simp only [List.length_drop, List.length_take]; rfl)) ?_; (with_reducible refine (selvageref01_Read.calls k (a0.extract 0 60) t257 t258 _ A6.out).mono ?_); rintro e w' ⟨rfl, ⟨nd, rfl⟩⟩; refine ⟨_, rfl, ?_⟩))
            go_ret
            exact ⟨by first | rfl | (simp [errW_none, errW_some] <;> rfl) | (simp [*, errW_none, errW_some] <;> rfl), by repeat (first | (with_reducible first | exact HB.out | apply below_alloc | apply pw_below_drewN | apply below_drew1) | exact HB.out)⟩
        · rw [if_neg c7] at H
          have c7b0 : (t255 == t257) = false := beq_eq_false_iff_ne.mpr c7
          have c7b1 : (t255 != t257) = true := bne_iff_ne.mpr c7
          obtain rfl := Option.some.inj H
          go_enter Try.func12, Try.ntmps12
          go_wp2_with (first | ((with_reducible refine gate_callee (f := 24) rfl ?_); refine goesL_ (some 14) rfl rfl Try.func24 (by kernel_rfl) rfl #[.string (a0.extract 0 60)] rfl (by (try simp only [List.map_toArray, List.map_cons, List.map_nil]); first | done | rfl | (simp only [List.length_drop, List.length_take]; rfl)) ?_; (with_reducible refine (ints_Read.calls k (a0.extract 0 60) t255 t256 _ A5.out).mono ?_); rintro e w' ⟨rfl, ⟨nd, rfl⟩⟩; refine ⟨_, rfl, ?_⟩) | ((with_reducible refine gate_callee (f := 26) rfl ?_); refine goesL_ (some 19) rfl rfl Try.func26 (by kernel_rfl) rfl #[.string (a0.extract 0 60)] rfl (by (try simp only [List.map_toArray, List.map_cons, List.map_nil]); first | done | rfl | (simp only [List.length_drop, List.length_take]; rfl)) ?_; (with_reducible refine (selvageref01_Read.calls k (a0.extract 0 60) t257 t258 _ A6.out).mono ?_); rintro e w' ⟨rfl, ⟨nd, rfl⟩⟩; refine ⟨_, rfl, ?_⟩))
          go_ret
          exact ⟨by first | rfl | (simp [errW_none, errW_some] <;> rfl) | (simp [*, errW_none, errW_some] <;> rfl), by repeat (first | (with_reducible first | exact HB.out | apply below_alloc | apply pw_below_drewN | apply below_drew1) | exact HB.out)⟩
      · rw [if_neg c4] at H
        exact absurd H (by simp)
    · rw [if_neg c3] at H
      exact absurd H (by simp)
  · rw [if_neg c2] at H
    have c2b0 : decide (60 < (a0.size : Int)) = false := decide_eq_false c2
    have c2b1 : decide (60 < a0.size) = false := decide_eq_false (by omega)
    clear c2
    replace H := Option.bind_eq_some_iff.mp H
    obtain ⟨⟨t260, t261⟩, A110, H⟩ := H
    replace H : ((selvageref01_Read.f k a0).bind fun bt262 => (if t260 = bt262.1 then (if t261 = bt262.2 then ((selvagelaw01_lives.f k).bind fun t264 => (some t264)) else (some false)) else (some false))) = some r := H
    have A11 := Aside0.mk A110
    clear A110
    replace H := Option.bind_eq_some_iff.mp H
    obtain ⟨⟨t262, t263⟩, A120, H⟩ := H
    replace H : (if t260 = t262 then (if t261 = t263 then ((selvagelaw01_lives.f k).bind fun t264 => (some t264)) else (some false)) else (some false)) = some r := H
    have A12 := Aside0.mk A120
    clear A120
    by_cases c13 : t260 = t262
    · rw [if_pos c13] at H
      have c13b0 : (t260 == t262) = true := beq_iff_eq.mpr c13
      have c13b1 : (t260 != t262) = false := bne_eq_false_iff_eq.mpr c13
      clear c13
      by_cases c14 : t261 = t263
      · rw [if_pos c14] at H
        have c14b0 : (t261 == t263) = true := beq_iff_eq.mpr c14
        have c14b1 : (t261 != t263) = false := bne_eq_false_iff_eq.mpr c14
        clear c14
        replace H := Option.bind_eq_some_iff.mp H
        obtain ⟨t264, A150, H⟩ := H
        replace H : (some t264) = some r := H
        have A15 := Aside0.mk A150
        clear A150
        obtain rfl := Option.some.inj H
        go_enter Try.func12, Try.ntmps12
        go_wp2_with (first | ((with_reducible refine gate_callee (f := 24) rfl ?_); refine goesL_ (some 14) rfl rfl Try.func24 (by kernel_rfl) rfl #[.string a0] rfl (by (try simp only [List.map_toArray, List.map_cons, List.map_nil]); first | done | rfl | (simp only [List.length_drop, List.length_take]; rfl)) ?_; (with_reducible refine (ints_Read.calls k a0 t260 t261 _ A11.out).mono ?_); rintro e w' ⟨rfl, ⟨nd, rfl⟩⟩; refine ⟨_, rfl, ?_⟩) | ((with_reducible refine gate_callee (f := 26) rfl ?_); refine goesL_ (some 19) rfl rfl Try.func26 (by kernel_rfl) rfl #[.string a0] rfl (by (try simp only [List.map_toArray, List.map_cons, List.map_nil]); first | done | rfl | (simp only [List.length_drop, List.length_take]; rfl)) ?_; (with_reducible refine (selvageref01_Read.calls k a0 t262 t263 _ A12.out).mono ?_); rintro e w' ⟨rfl, ⟨nd, rfl⟩⟩; refine ⟨_, rfl, ?_⟩) | (go_at_call 15; (with_reducible refine (selvagelaw01_lives.calls k  t264 _ A15.out).mono ?_); rintro e w16 ⟨rfl, hb⟩; have n0_ := Aside0.mk (below_step (by repeat (first | (with_reducible first | exact HB.out | apply below_alloc | apply pw_below_drewN | apply below_drew1) | exact HB.out)) hb); clear HB; have HB := n0_; clear n0_; (try clear hb); (try clear hb2); (try clear hk); (try clear hi)))
        go_ret
        exact ⟨by first | rfl | (simp [errW_none, errW_some] <;> rfl) | (simp [*, errW_none, errW_some] <;> rfl), by repeat (first | (with_reducible first | exact HB.out | apply below_alloc | apply pw_below_drewN | apply below_drew1) | exact HB.out)⟩
      · rw [if_neg c14] at H
        have c14b0 : (t261 == t263) = false := beq_eq_false_iff_ne.mpr c14
        have c14b1 : (t261 != t263) = true := bne_iff_ne.mpr c14
        obtain rfl := Option.some.inj H
        go_enter Try.func12, Try.ntmps12
        go_wp2_with (first | ((with_reducible refine gate_callee (f := 24) rfl ?_); refine goesL_ (some 14) rfl rfl Try.func24 (by kernel_rfl) rfl #[.string a0] rfl (by (try simp only [List.map_toArray, List.map_cons, List.map_nil]); first | done | rfl | (simp only [List.length_drop, List.length_take]; rfl)) ?_; (with_reducible refine (ints_Read.calls k a0 t260 t261 _ A11.out).mono ?_); rintro e w' ⟨rfl, ⟨nd, rfl⟩⟩; refine ⟨_, rfl, ?_⟩) | ((with_reducible refine gate_callee (f := 26) rfl ?_); refine goesL_ (some 19) rfl rfl Try.func26 (by kernel_rfl) rfl #[.string a0] rfl (by (try simp only [List.map_toArray, List.map_cons, List.map_nil]); first | done | rfl | (simp only [List.length_drop, List.length_take]; rfl)) ?_; (with_reducible refine (selvageref01_Read.calls k a0 t262 t263 _ A12.out).mono ?_); rintro e w' ⟨rfl, ⟨nd, rfl⟩⟩; refine ⟨_, rfl, ?_⟩))
        go_ret
        exact ⟨by first | rfl | (simp [errW_none, errW_some] <;> rfl) | (simp [*, errW_none, errW_some] <;> rfl), by repeat (first | (with_reducible first | exact HB.out | apply below_alloc | apply pw_below_drewN | apply below_drew1) | exact HB.out)⟩
    · rw [if_neg c13] at H
      have c13b0 : (t260 == t262) = false := beq_eq_false_iff_ne.mpr c13
      have c13b1 : (t260 != t262) = true := bne_iff_ne.mpr c13
      obtain rfl := Option.some.inj H
      go_enter Try.func12, Try.ntmps12
      go_wp2_with (first | ((with_reducible refine gate_callee (f := 24) rfl ?_); refine goesL_ (some 14) rfl rfl Try.func24 (by kernel_rfl) rfl #[.string a0] rfl (by (try simp only [List.map_toArray, List.map_cons, List.map_nil]); first | done | rfl | (simp only [List.length_drop, List.length_take]; rfl)) ?_; (with_reducible refine (ints_Read.calls k a0 t260 t261 _ A11.out).mono ?_); rintro e w' ⟨rfl, ⟨nd, rfl⟩⟩; refine ⟨_, rfl, ?_⟩) | ((with_reducible refine gate_callee (f := 26) rfl ?_); refine goesL_ (some 19) rfl rfl Try.func26 (by kernel_rfl) rfl #[.string a0] rfl (by (try simp only [List.map_toArray, List.map_cons, List.map_nil]); first | done | rfl | (simp only [List.length_drop, List.length_take]; rfl)) ?_; (with_reducible refine (selvageref01_Read.calls k a0 t262 t263 _ A12.out).mono ?_); rintro e w' ⟨rfl, ⟨nd, rfl⟩⟩; refine ⟨_, rfl, ?_⟩))
      go_ret
      exact ⟨by first | rfl | (simp [errW_none, errW_some] <;> rfl) | (simp [*, errW_none, errW_some] <;> rfl), by repeat (first | (with_reducible first | exact HB.out | apply below_alloc | apply pw_below_drewN | apply below_drew1) | exact HB.out)⟩

/-- THE ONE PURE STATEMENT of selvagelaw01_IntsReads: yours. -/
def selvagelaw01_IntsReads.Pure : Prop := ∀ (a0 : ByteArray), a0.size ≤ 140737488351232 → ∃ k, selvagelaw01_IntsReads.f k a0 = some true
theorem selvagelaw01_IntsReads.walk (P : selvagelaw01_IntsReads.Pure) (a0 : ByteArray) (w : World) (w0 : a0.size ≤ 140737488351232) :
    Calls Try.prog 12 #[.string a0] w fun e w' => e = .returned (.bool true) ∧ Below w.heap.size w w' := by
  obtain ⟨k, h⟩ := P a0 w0
  refine (selvagelaw01_IntsReads.calls k a0 true w h).mono ?_
  rintro e w' ⟨rfl, hd⟩
  exact ⟨rfl, hd⟩

end Go.Proofs.Ytdbolkckbgacoaa.Print
