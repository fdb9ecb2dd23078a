/- Contracts of the program's functions, each with a plain function of the same answers; written by a program of this session over the kit's print.py, with hand-written parts; no condition but the bounds that each theorem states. -/
import Derived.Test.YtdbolkckbgacoaaPrint0
import Derived.Test.YtdbolkckbgacoaaPrint1
import Derived.Test.YtdbolkckbgacoaaPrint2
namespace Go.Proofs.Ytdbolkckbgacoaa.Print
open Go.RowKit Go.Proofs.YtdbolkckbgacoaaW.PrintWords Go.Proofs.YtdbolkckbgacoaaW.PrintLast Go.Proofs.YtdbolkckbgacoaaW.PrintMore
attribute [local go_sem] max2_int min2_int max_two min_two max_three min_three max_four min_four   -- for this text's walks alone
set_option linter.unusedVariables false
set_option linter.unusedSimpArgs false

/-! ### selvagelaw01_IntsBack: function 8 -/
def selvagelaw01_IntsBack.f (k : Nat) (a0 : Int) (a1 : Int) : Option (Bool) := (selvageref01_Wrap.f a0).bind fun t200 => ((selvageref01_Wrap.f a1).bind fun t201 => ((ints_Do.f k (⟨#[45]⟩ : ByteArray) t200 t201).bind fun bt202 => ((ints_Do.f k (⟨#[43]⟩ : ByteArray) bt202.1 t201).bind fun bt204 => ((ints_Do.f k (⟨#[45]⟩ : ByteArray) t201 t200).bind fun bt206 => ((ints_Do.f k (⟨#[45]⟩ : ByteArray) 0 bt202.1).bind fun bt208 => ((ints_Do.f k (⟨#[42]⟩ : ByteArray) bt202.1 (-1)).bind fun bt210 => (if bt204.1 = t200 then (if bt206.1 = bt208.1 then (if bt210.1 = bt208.1 then ((selvagelaw01_lives.f k).bind fun t212 => (some t212)) else (some false)) else (some false)) else (some false))))))))
theorem selvagelaw01_IntsBack.mono : ∀ a0 a1 k, LeO (selvagelaw01_IntsBack.f k a0 a1) (selvagelaw01_IntsBack.f (k + 1) a0 a1) := by
  intro a0 a1 k
  unfold selvagelaw01_IntsBack.f
  repeat' first
      | (with_reducible exact ints_Do.mono _ _ _ _)
      | (with_reducible exact selvagelaw01_lives.mono _)
      | (with_reducible exact LeO.refl _)
      | (with_reducible exact LeO.none _)
      | (with_reducible refine LeO.ite ?_ ?_)
      | (with_reducible refine LeO.bind ?_ (fun _ => ?_))
      | exact ints_Do.mono _ _ _ _
      | exact selvagelaw01_lives.mono _
      | exact LeO.none _
      | refine LeO.ite ?_ ?_
      | refine LeO.bind ?_ (fun _ => ?_)
set_option maxHeartbeats 8000000 in
set_option maxRecDepth 100000 in
theorem selvagelaw01_IntsBack.calls (k : Nat) (a0 : Int) (a1 : Int) (r : Bool) (w : World) (h : selvagelaw01_IntsBack.f k a0 a1 = some r) :
    Calls Try.prog 8 #[.int .i64 a0, .int .i64 a1] w fun e w' => e = .returned (.bool r) ∧ Below w.heap.size w w' := by
  have HB := Aside0.mk (Below.refl w.heap.size w)
  have H : ((selvageref01_Wrap.f a0).bind fun t200 => ((selvageref01_Wrap.f a1).bind fun t201 => ((ints_Do.f k (⟨#[45]⟩ : ByteArray) t200 t201).bind fun bt202 => ((ints_Do.f k (⟨#[43]⟩ : ByteArray) bt202.1 t201).bind fun bt204 => ((ints_Do.f k (⟨#[45]⟩ : ByteArray) t201 t200).bind fun bt206 => ((ints_Do.f k (⟨#[45]⟩ : ByteArray) 0 bt202.1).bind fun bt208 => ((ints_Do.f k (⟨#[42]⟩ : ByteArray) bt202.1 (-1)).bind fun bt210 => (if bt204.1 = t200 then (if bt206.1 = bt208.1 then (if bt210.1 = bt208.1 then ((selvagelaw01_lives.f k).bind fun t212 => (some t212)) else (some false)) else (some false)) else (some false))))))))) = some r := h
  clear h
  replace H := Option.bind_eq_some_iff.mp H
  obtain ⟨t200, A30, H⟩ := H
  replace H : ((selvageref01_Wrap.f a1).bind fun t201 => ((ints_Do.f k (⟨#[45]⟩ : ByteArray) t200 t201).bind fun bt202 => ((ints_Do.f k (⟨#[43]⟩ : ByteArray) bt202.1 t201).bind fun bt204 => ((ints_Do.f k (⟨#[45]⟩ : ByteArray) t201 t200).bind fun bt206 => ((ints_Do.f k (⟨#[45]⟩ : ByteArray) 0 bt202.1).bind fun bt208 => ((ints_Do.f k (⟨#[42]⟩ : ByteArray) bt202.1 (-1)).bind fun bt210 => (if bt204.1 = t200 then (if bt206.1 = bt208.1 then (if bt210.1 = bt208.1 then ((selvagelaw01_lives.f k).bind fun t212 => (some t212)) else (some false)) else (some false)) else (some false)))))))) = some r := H
  have A3 := Aside0.mk A30
  clear A30
  replace H := Option.bind_eq_some_iff.mp H
  obtain ⟨t201, A40, H⟩ := H
  replace H : ((ints_Do.f k (⟨#[45]⟩ : ByteArray) t200 t201).bind fun bt202 => ((ints_Do.f k (⟨#[43]⟩ : ByteArray) bt202.1 t201).bind fun bt204 => ((ints_Do.f k (⟨#[45]⟩ : ByteArray) t201 t200).bind fun bt206 => ((ints_Do.f k (⟨#[45]⟩ : ByteArray) 0 bt202.1).bind fun bt208 => ((ints_Do.f k (⟨#[42]⟩ : ByteArray) bt202.1 (-1)).bind fun bt210 => (if bt204.1 = t200 then (if bt206.1 = bt208.1 then (if bt210.1 = bt208.1 then ((selvagelaw01_lives.f k).bind fun t212 => (some t212)) else (some false)) else (some false)) else (some false))))))) = some r := H
  have A4 := Aside0.mk A40
  clear A40
  replace H := Option.bind_eq_some_iff.mp H
  obtain ⟨⟨t202, t203⟩, A50, H⟩ := H
  replace H : ((ints_Do.f k (⟨#[43]⟩ : ByteArray) t202 t201).bind fun bt204 => ((ints_Do.f k (⟨#[45]⟩ : ByteArray) t201 t200).bind fun bt206 => ((ints_Do.f k (⟨#[45]⟩ : ByteArray) 0 t202).bind fun bt208 => ((ints_Do.f k (⟨#[42]⟩ : ByteArray) t202 (-1)).bind fun bt210 => (if bt204.1 = t200 then (if bt206.1 = bt208.1 then (if bt210.1 = bt208.1 then ((selvagelaw01_lives.f k).bind fun t212 => (some t212)) else (some false)) else (some false)) else (some false)))))) = some r := H
  have A5 := Aside0.mk A50
  clear A50
  replace H := Option.bind_eq_some_iff.mp H
  obtain ⟨⟨t204, t205⟩, A60, H⟩ := H
  replace H : ((ints_Do.f k (⟨#[45]⟩ : ByteArray) t201 t200).bind fun bt206 => ((ints_Do.f k (⟨#[45]⟩ : ByteArray) 0 t202).bind fun bt208 => ((ints_Do.f k (⟨#[42]⟩ : ByteArray) t202 (-1)).bind fun bt210 => (if t204 = t200 then (if bt206.1 = bt208.1 then (if bt210.1 = bt208.1 then ((selvagelaw01_lives.f k).bind fun t212 => (some t212)) else (some false)) else (some false)) else (some false))))) = some r := H
  have A6 := Aside0.mk A60
  clear A60
  replace H := Option.bind_eq_some_iff.mp H
  obtain ⟨⟨t206, t207⟩, A70, H⟩ := H
  replace H : ((ints_Do.f k (⟨#[45]⟩ : ByteArray) 0 t202).bind fun bt208 => ((ints_Do.f k (⟨#[42]⟩ : ByteArray) t202 (-1)).bind fun bt210 => (if t204 = t200 then (if t206 = bt208.1 then (if bt210.1 = bt208.1 then ((selvagelaw01_lives.f k).bind fun t212 => (some t212)) else (some false)) else (some false)) else (some false)))) = some r := H
  have A7 := Aside0.mk A70
  clear A70
  replace H := Option.bind_eq_some_iff.mp H
  obtain ⟨⟨t208, t209⟩, A80, H⟩ := H
  replace H : ((ints_Do.f k (⟨#[42]⟩ : ByteArray) t202 (-1)).bind fun bt210 => (if t204 = t200 then (if t206 = t208 then (if bt210.1 = t208 then ((selvagelaw01_lives.f k).bind fun t212 => (some t212)) else (some false)) else (some false)) else (some false))) = some r := H
  have A8 := Aside0.mk A80
  clear A80
  replace H := Option.bind_eq_some_iff.mp H
  obtain ⟨⟨t210, t211⟩, A90, H⟩ := H
  replace H : (if t204 = t200 then (if t206 = t208 then (if t210 = t208 then ((selvagelaw01_lives.f k).bind fun t212 => (some t212)) else (some false)) else (some false)) else (some false)) = some r := H
  have A9 := Aside0.mk A90
  clear A90
  by_cases c10 : t204 = t200
  · rw [if_pos c10] at H
    have c10b0 : (t204 == t200) = true := beq_iff_eq.mpr c10
    have c10b1 : (t204 != t200) = false := bne_eq_false_iff_eq.mpr c10
    clear c10
    by_cases c11 : t206 = t208
    · rw [if_pos c11] at H
      have c11b0 : (t206 == t208) = true := beq_iff_eq.mpr c11
      have c11b1 : (t206 != t208) = false := bne_eq_false_iff_eq.mpr c11
      clear c11
      by_cases c12 : t210 = t208
      · rw [if_pos c12] at H
        have c12b0 : (t210 == t208) = true := beq_iff_eq.mpr c12
        have c12b1 : (t210 != t208) = false := bne_eq_false_iff_eq.mpr c12
        clear c12
        replace H := Option.bind_eq_some_iff.mp H
        obtain ⟨t212, A130, H⟩ := H
        replace H : (some t212) = some r := H
        have A13 := Aside0.mk A130
        clear A130
        obtain rfl := Option.some.inj H
        go_enter Try.func8, Try.ntmps8
        go_wp2_with (first | ((with_reducible refine gate_callee (f := 17) rfl ?_); refine goesL_ (some 16) rfl rfl Try.func17 (by kernel_rfl) rfl #[.int .i64 a0] rfl (by (try simp only [List.map_toArray, List.map_cons, List.map_nil]); first | done | rfl | (simp only [List.length_drop, List.length_take]; rfl)) ?_; (with_reducible refine (selvageref01_Wrap.calls a0 t200 _ A3.out).mono ?_); rintro e w' ⟨rfl, ⟨nd, rfl⟩⟩; refine ⟨_, rfl, ?_⟩) | ((with_reducible refine gate_callee (f := 17) rfl ?_); refine goesL_ (some 18) rfl rfl Try.func17 (by kernel_rfl) rfl #[.int .i64 a1] rfl (by (try simp only [List.map_toArray, List.map_cons, List.map_nil]); first | done | rfl | (simp only [List.length_drop, List.length_take]; rfl)) ?_; (with_reducible refine (selvageref01_Wrap.calls a1 t201 _ A4.out).mono ?_); rintro e w' ⟨rfl, ⟨nd, rfl⟩⟩; refine ⟨_, rfl, ?_⟩) | ((with_reducible refine gate_callee (f := 13) rfl ?_); refine goesL_ (some 22) rfl rfl Try.func13 (by kernel_rfl) rfl #[.string (⟨#[45]⟩ : ByteArray), .int .i64 t200, .int .i64 t201] rfl (by (try simp only [List.map_toArray, List.map_cons, List.map_nil]); first | done | rfl | (simp only [List.length_drop, List.length_take]; rfl)) ?_; (with_reducible refine (ints_Do.calls k (⟨#[45]⟩ : ByteArray) t200 t201 t202 t203 _ A5.out).mono ?_); rintro e w' ⟨rfl, ⟨nd, rfl⟩⟩; refine ⟨_, rfl, ?_⟩) | ((with_reducible refine gate_callee (f := 13) rfl ?_); refine goesL_ (some 28) rfl rfl Try.func13 (by kernel_rfl) rfl #[.string (⟨#[43]⟩ : ByteArray), .int .i64 t202, .int .i64 t201] rfl (by (try simp only [List.map_toArray, List.map_cons, List.map_nil]); first | done | rfl | (simp only [List.length_drop, List.length_take]; rfl)) ?_; (with_reducible refine (ints_Do.calls k (⟨#[43]⟩ : ByteArray) t202 t201 t204 t205 _ A6.out).mono ?_); rintro e w' ⟨rfl, ⟨nd, rfl⟩⟩; refine ⟨_, rfl, ?_⟩) | ((with_reducible refine gate_callee (f := 13) rfl ?_); refine goesL_ (some 34) rfl rfl Try.func13 (by kernel_rfl) rfl #[.string (⟨#[45]⟩ : ByteArray), .int .i64 t201, .int .i64 t200] rfl (by (try simp only [List.map_toArray, List.map_cons, List.map_nil]); first | done | rfl | (simp only [List.length_drop, List.length_take]; rfl)) ?_; (with_reducible refine (ints_Do.calls k (⟨#[45]⟩ : ByteArray) t201 t200 t206 t207 _ A7.out).mono ?_); rintro e w' ⟨rfl, ⟨nd, rfl⟩⟩; refine ⟨_, rfl, ?_⟩) | ((with_reducible refine gate_callee (f := 13) rfl ?_); refine goesL_ (some 39) rfl rfl Try.func13 (by kernel_rfl) rfl #[.string (⟨#[45]⟩ : ByteArray), .int .i64 0, .int .i64 t202] rfl (by (try simp only [List.map_toArray, List.map_cons, List.map_nil]); first | done | rfl | (simp only [List.length_drop, List.length_take]; rfl)) ?_; (with_reducible refine (ints_Do.calls k (⟨#[45]⟩ : ByteArray) 0 t202 t208 t209 _ A8.out).mono ?_); rintro e w' ⟨rfl, ⟨nd, rfl⟩⟩; refine ⟨_, rfl, ?_⟩) | ((with_reducible refine gate_callee (f := 13) rfl ?_); refine goesL_ (some 44) rfl rfl Try.func13 (by kernel_rfl) rfl #[.string (⟨#[42]⟩ : ByteArray), .int .i64 t202, .int .i64 (-1)] rfl (by (try simp only [List.map_toArray, List.map_cons, List.map_nil]); first | done | rfl | (simp only [List.length_drop, List.length_take]; rfl)) ?_; (with_reducible refine (ints_Do.calls k (⟨#[42]⟩ : ByteArray) t202 (-1) t210 t211 _ A9.out).mono ?_); rintro e w' ⟨rfl, ⟨nd, rfl⟩⟩; refine ⟨_, rfl, ?_⟩) | (go_at_call 15; (with_reducible refine (selvagelaw01_lives.calls k  t212 _ A13.out).mono ?_); rintro e w14 ⟨rfl, hb⟩; have n0_ := Aside0.mk (below_step (by repeat (first | (with_reducible first | exact HB.out | apply below_alloc | apply pw_below_drewN | apply below_drew1) | exact HB.out)) hb); clear HB; have HB := n0_; clear n0_; (try clear hb); (try clear hb2); (try clear hk); (try clear hi)))
        go_ret
        exact ⟨by first | rfl | (simp [errW_none, errW_some] <;> rfl) | (simp [*, errW_none, errW_some] <;> rfl), by repeat (first | (with_reducible first | exact HB.out | apply below_alloc | apply pw_below_drewN | apply below_drew1) | exact HB.out)⟩
      · rw [if_neg c12] at H
        have c12b0 : (t210 == t208) = false := beq_eq_false_iff_ne.mpr c12
        have c12b1 : (t210 != t208) = true := bne_iff_ne.mpr c12
        obtain rfl := Option.some.inj H
        go_enter Try.func8, Try.ntmps8
        go_wp2_with (first | ((with_reducible refine gate_callee (f := 17) rfl ?_); refine goesL_ (some 16) rfl rfl Try.func17 (by kernel_rfl) rfl #[.int .i64 a0] rfl (by (try simp only [List.map_toArray, List.map_cons, List.map_nil]); first | done | rfl | (simp only [List.length_drop, List.length_take]; rfl)) ?_; (with_reducible refine (selvageref01_Wrap.calls a0 t200 _ A3.out).mono ?_); rintro e w' ⟨rfl, ⟨nd, rfl⟩⟩; refine ⟨_, rfl, ?_⟩) | ((with_reducible refine gate_callee (f := 17) rfl ?_); refine goesL_ (some 18) rfl rfl Try.func17 (by kernel_rfl) rfl #[.int .i64 a1] rfl (by (try simp only [List.map_toArray, List.map_cons, List.map_nil]); first | done | rfl | (simp only [List.length_drop, List.length_take]; rfl)) ?_; (with_reducible refine (selvageref01_Wrap.calls a1 t201 _ A4.out).mono ?_); rintro e w' ⟨rfl, ⟨nd, rfl⟩⟩; refine ⟨_, rfl, ?_⟩) | ((with_reducible refine gate_callee (f := 13) rfl ?_); refine goesL_ (some 22) rfl rfl Try.func13 (by kernel_rfl) rfl #[.string (⟨#[45]⟩ : ByteArray), .int .i64 t200, .int .i64 t201] rfl (by (try simp only [List.map_toArray, List.map_cons, List.map_nil]); first | done | rfl | (simp only [List.length_drop, List.length_take]; rfl)) ?_; (with_reducible refine (ints_Do.calls k (⟨#[45]⟩ : ByteArray) t200 t201 t202 t203 _ A5.out).mono ?_); rintro e w' ⟨rfl, ⟨nd, rfl⟩⟩; refine ⟨_, rfl, ?_⟩) | ((with_reducible refine gate_callee (f := 13) rfl ?_); refine goesL_ (some 28) rfl rfl Try.func13 (by kernel_rfl) rfl #[.string (⟨#[43]⟩ : ByteArray), .int .i64 t202, .int .i64 t201] rfl (by (try simp only [List.map_toArray, List.map_cons, List.map_nil]); first | done | rfl | (simp only [List.length_drop, List.length_take]; rfl)) ?_; (with_reducible refine (ints_Do.calls k (⟨#[43]⟩ : ByteArray) t202 t201 t204 t205 _ A6.out).mono ?_); rintro e w' ⟨rfl, ⟨nd, rfl⟩⟩; refine ⟨_, rfl, ?_⟩) | ((with_reducible refine gate_callee (f := 13) rfl ?_); refine goesL_ (some 34) rfl rfl Try.func13 (by kernel_rfl) rfl #[.string (⟨#[45]⟩ : ByteArray), .int .i64 t201, .int .i64 t200] rfl (by (try simp only [List.map_toArray, List.map_cons, List.map_nil]); first | done | rfl | (simp only [List.length_drop, List.length_take]; rfl)) ?_; (with_reducible refine (ints_Do.calls k (⟨#[45]⟩ : ByteArray) t201 t200 t206 t207 _ A7.out).mono ?_); rintro e w' ⟨rfl, ⟨nd, rfl⟩⟩; refine ⟨_, rfl, ?_⟩) | ((with_reducible refine gate_callee (f := 13) rfl ?_); refine goesL_ (some 39) rfl rfl Try.func13 (by kernel_rfl) rfl #[.string (⟨#[45]⟩ : ByteArray), .int .i64 0, .int .i64 t202] rfl (by (try simp only [List.map_toArray, List.map_cons, List.map_nil]); first | done | rfl | (simp only [List.length_drop, List.length_take]; rfl)) ?_; (with_reducible refine (ints_Do.calls k (⟨#[45]⟩ : ByteArray) 0 t202 t208 t209 _ A8.out).mono ?_); rintro e w' ⟨rfl, ⟨nd, rfl⟩⟩; refine ⟨_, rfl, ?_⟩) | ((with_reducible refine gate_callee (f := 13) rfl ?_); refine goesL_ (some 44) rfl rfl Try.func13 (by kernel_rfl) rfl #[.string (⟨#[42]⟩ : ByteArray), .int .i64 t202, .int .i64 (-1)] rfl (by (try simp only [List.map_toArray, List.map_cons, List.map_nil]); first | done | rfl | (simp only [List.length_drop, List.length_take]; rfl)) ?_; (with_reducible refine (ints_Do.calls k (⟨#[42]⟩ : ByteArray) t202 (-1) t210 t211 _ A9.out).mono ?_); rintro e w' ⟨rfl, ⟨nd, rfl⟩⟩; refine ⟨_, rfl, ?_⟩))
        go_ret
        exact ⟨by first | rfl | (simp [errW_none, errW_some] <;> rfl) | (simp [*, errW_none, errW_some] <;> rfl), by repeat (first | (with_reducible first | exact HB.out | apply below_alloc | apply pw_below_drewN | apply below_drew1) | exact HB.out)⟩
    · rw [if_neg c11] at H
      have c11b0 : (t206 == t208) = false := beq_eq_false_iff_ne.mpr c11
      have c11b1 : (t206 != t208) = true := bne_iff_ne.mpr c11
      obtain rfl := Option.some.inj H
      go_enter Try.func8, Try.ntmps8
      go_wp2_with (first | ((with_reducible refine gate_callee (f := 17) rfl ?_); refine goesL_ (some 16) rfl rfl Try.func17 (by kernel_rfl) rfl #[.int .i64 a0] rfl (by (try simp only [List.map_toArray, List.map_cons, List.map_nil]); first | done | rfl | (simp only [List.length_drop, List.length_take]; rfl)) ?_; (with_reducible refine (selvageref01_Wrap.calls a0 t200 _ A3.out).mono ?_); rintro e w' ⟨rfl, ⟨nd, rfl⟩⟩; refine ⟨_, rfl, ?_⟩) | ((with_reducible refine gate_callee (f := 17) rfl ?_); refine goesL_ (some 18) rfl rfl Try.func17 (by kernel_rfl) rfl #[.int .i64 a1] rfl (by (try simp only [List.map_toArray, List.map_cons, List.map_nil]); first | done | rfl | (simp only [List.length_drop, List.length_take]; rfl)) ?_; (with_reducible refine (selvageref01_Wrap.calls a1 t201 _ A4.out).mono ?_); rintro e w' ⟨rfl, ⟨nd, rfl⟩⟩; refine ⟨_, rfl, ?_⟩) | ((with_reducible refine gate_callee (f := 13) rfl ?_); refine goesL_ (some 22) rfl rfl Try.func13 (by kernel_rfl) rfl #[.string (⟨#[45]⟩ : ByteArray), .int .i64 t200, .int .i64 t201] rfl (by (try simp only [List.map_toArray, List.map_cons, List.map_nil]); first | done | rfl | (simp only [List.length_drop, List.length_take]; rfl)) ?_; (with_reducible refine (ints_Do.calls k (⟨#[45]⟩ : ByteArray) t200 t201 t202 t203 _ A5.out).mono ?_); rintro e w' ⟨rfl, ⟨nd, rfl⟩⟩; refine ⟨_, rfl, ?_⟩) | ((with_reducible refine gate_callee (f := 13) rfl ?_); refine goesL_ (some 28) rfl rfl Try.func13 (by kernel_rfl) rfl #[.string (⟨#[43]⟩ : ByteArray), .int .i64 t202, .int .i64 t201] rfl (by (try simp only [List.map_toArray, List.map_cons, List.map_nil]); first | done | rfl | (simp only [List.length_drop, List.length_take]; rfl)) ?_; (with_reducible refine (ints_Do.calls k (⟨#[43]⟩ : ByteArray) t202 t201 t204 t205 _ A6.out).mono ?_); rintro e w' ⟨rfl, ⟨nd, rfl⟩⟩; refine ⟨_, rfl, ?_⟩) | ((with_reducible refine gate_callee (f := 13) rfl ?_); refine goesL_ (some 34) rfl rfl Try.func13 (by kernel_rfl) rfl #[.string (⟨#[45]⟩ : ByteArray), .int .i64 t201, .int .i64 t200] rfl (by (try simp only [List.map_toArray, List.map_cons, List.map_nil]); first | done | rfl | (simp only [List.length_drop, List.length_take]; rfl)) ?_; (with_reducible refine (ints_Do.calls k (⟨#[45]⟩ : ByteArray) t201 t200 t206 t207 _ A7.out).mono ?_); rintro e w' ⟨rfl, ⟨nd, rfl⟩⟩; refine ⟨_, rfl, ?_⟩) | ((with_reducible refine gate_callee (f := 13) rfl ?_); refine goesL_ (some 39) rfl rfl Try.func13 (by kernel_rfl) rfl #[.string (⟨#[45]⟩ : ByteArray), .int .i64 0, .int .i64 t202] rfl (by (try simp only [List.map_toArray, List.map_cons, List.map_nil]); first | done | rfl | (simp only [List.length_drop, List.length_take]; rfl)) ?_; (with_reducible refine (ints_Do.calls k (⟨#[45]⟩ : ByteArray) 0 t202 t208 t209 _ A8.out).mono ?_); rintro e w' ⟨rfl, ⟨nd, rfl⟩⟩; refine ⟨_, rfl, ?_⟩) | ((with_reducible refine gate_callee (f := 13) rfl ?_); refine goesL_ (some 44) rfl rfl Try.func13 (by kernel_rfl) rfl #[.string (⟨#[42]⟩ : ByteArray), .int .i64 t202, .int .i64 (-1)] rfl (by (try simp only [List.map_toArray, List.map_cons, List.map_nil]); first | done | rfl | (simp only [List.length_drop, List.length_take]; rfl)) ?_; (with_reducible refine (ints_Do.calls k (⟨#[42]⟩ : ByteArray) t202 (-1) t210 t211 _ A9.out).mono ?_); rintro e w' ⟨rfl, ⟨nd, rfl⟩⟩; refine ⟨_, rfl, ?_⟩))
      go_ret
      exact ⟨by first | rfl | (simp [errW_none, errW_some] <;> rfl) | (simp [*, errW_none, errW_some] <;> rfl), by repeat (first | (with_reducible first | exact HB.out | apply below_alloc | apply pw_below_drewN | apply below_drew1) | exact HB.out)⟩
  · rw [if_neg c10] at H
    have c10b0 : (t204 == t200) = false := beq_eq_false_iff_ne.mpr c10
    have c10b1 : (t204 != t200) = true := bne_iff_ne.mpr c10
    obtain rfl := Option.some.inj H
    go_enter Try.func8, Try.ntmps8
    go_wp2_with (first | ((with_reducible refine gate_callee (f := 17) rfl ?_); refine goesL_ (some 16) rfl rfl Try.func17 (by kernel_rfl) rfl #[.int .i64 a0] rfl (by (try simp only [List.map_toArray, List.map_cons, List.map_nil]); first | done | rfl | (simp only [List.length_drop, List.length_take]; rfl)) ?_; (with_reducible refine (selvageref01_Wrap.calls a0 t200 _ A3.out).mono ?_); rintro e w' ⟨rfl, ⟨nd, rfl⟩⟩; refine ⟨_, rfl, ?_⟩) | ((with_reducible refine gate_callee (f := 17) rfl ?_); refine goesL_ (some 18) rfl rfl Try.func17 (by kernel_rfl) rfl #[.int .i64 a1] rfl (by (try simp only [List.map_toArray, List.map_cons, List.map_nil]); first | done | rfl | (simp only [List.length_drop, List.length_take]; rfl)) ?_; (with_reducible refine (selvageref01_Wrap.calls a1 t201 _ A4.out).mono ?_); rintro e w' ⟨rfl, ⟨nd, rfl⟩⟩; refine ⟨_, rfl, ?_⟩) | ((with_reducible refine gate_callee (f := 13) rfl ?_); refine goesL_ (some 22) rfl rfl Try.func13 (by kernel_rfl) rfl #[.string (⟨#[45]⟩ : ByteArray), .int .i64 t200, .int .i64 t201] rfl (by (try simp only [List.map_toArray, List.map_cons, List.map_nil]); first | done | rfl | (simp only [List.length_drop, List.length_take]; rfl)) ?_; (with_reducible refine (ints_Do.calls k (⟨#[45]⟩ : ByteArray) t200 t201 t202 t203 _ A5.out).mono ?_); rintro e w' ⟨rfl, ⟨nd, rfl⟩⟩; refine ⟨_, rfl, ?_⟩) | ((with_reducible refine gate_callee (f := 13) rfl ?_); refine goesL_ (some 28) rfl rfl Try.func13 (by kernel_rfl) rfl #[.string (⟨#[43]⟩ : ByteArray), .int .i64 t202, .int .i64 t201] rfl (by (try simp only [List.map_toArray, List.map_cons, List.map_nil]); first | done | rfl | (simp only [List.length_drop, List.length_take]; rfl)) ?_; (with_reducible refine (ints_Do.calls k (⟨#[43]⟩ : ByteArray) t202 t201 t204 t205 _ A6.out).mono ?_); rintro e w' ⟨rfl, ⟨nd, rfl⟩⟩; refine ⟨_, rfl, ?_⟩) | ((with_reducible refine gate_callee (f := 13) rfl ?_); refine goesL_ (some 34) rfl rfl Try.func13 (by kernel_rfl) rfl #[.string (⟨#[45]⟩ : ByteArray), .int .i64 t201, .int .i64 t200] rfl (by (try simp only [List.map_toArray, List.map_cons, List.map_nil]); first | done | rfl | (simp only [List.length_drop, List.length_take]; rfl)) ?_; (with_reducible refine (ints_Do.calls k (⟨#[45]⟩ : ByteArray) t201 t200 t206 t207 _ A7.out).mono ?_); rintro e w' ⟨rfl, ⟨nd, rfl⟩⟩; refine ⟨_, rfl, ?_⟩) | ((with_reducible refine gate_callee (f := 13) rfl ?_); refine goesL_ (some 39) rfl rfl Try.func13 (by kernel_rfl) rfl #[.string (⟨#[45]⟩ : ByteArray), .int .i64 0, .int .i64 t202] rfl (by (try simp only [List.map_toArray, List.map_cons, List.map_nil]); first | done | rfl | (simp only [List.length_drop, List.length_take]; rfl)) ?_; (with_reducible refine (ints_Do.calls k (⟨#[45]⟩ : ByteArray) 0 t202 t208 t209 _ A8.out).mono ?_); rintro e w' ⟨rfl, ⟨nd, rfl⟩⟩; refine ⟨_, rfl, ?_⟩) | ((with_reducible refine gate_callee (f := 13) rfl ?_); refine goesL_ (some 44) rfl rfl Try.func13 (by kernel_rfl) rfl #[.string (⟨#[42]⟩ : ByteArray), .int .i64 t202, .int .i64 (-1)] rfl (by (try simp only [List.map_toArray, List.map_cons, List.map_nil]); first | done | rfl | (simp only [List.length_drop, List.length_take]; rfl)) ?_; (with_reducible refine (ints_Do.calls k (⟨#[42]⟩ : ByteArray) t202 (-1) t210 t211 _ A9.out).mono ?_); rintro e w' ⟨rfl, ⟨nd, rfl⟩⟩; refine ⟨_, rfl, ?_⟩))
    go_ret
    exact ⟨by first | rfl | (simp [errW_none, errW_some] <;> rfl) | (simp [*, errW_none, errW_some] <;> rfl), by repeat (first | (with_reducible first | exact HB.out | apply below_alloc | apply pw_below_drewN | apply below_drew1) | exact HB.out)⟩

/-- THE ONE PURE STATEMENT of selvagelaw01_IntsBack: yours. -/
def selvagelaw01_IntsBack.Pure : Prop := ∀ (a0 : Int) (a1 : Int), (Lit.int .i64 a0).wf = true → (Lit.int .i64 a1).wf = true → ∃ k, selvagelaw01_IntsBack.f k a0 a1 = some true
theorem selvagelaw01_IntsBack.walk (P : selvagelaw01_IntsBack.Pure) (a0 : Int) (a1 : Int) (w : World) (w0 : (Lit.int .i64 a0).wf = true) (w1 : (Lit.int .i64 a1).wf = true) :
    Calls Try.prog 8 #[.int .i64 a0, .int .i64 a1] w fun e w' => e = .returned (.bool true) ∧ Below w.heap.size w w' := by
  obtain ⟨k, h⟩ := P a0 a1 w0 w1
  refine (selvagelaw01_IntsBack.calls k a0 a1 true w h).mono ?_
  rintro e w' ⟨rfl, hd⟩
  exact ⟨rfl, hd⟩

/-! ### ints_Untag: function 20 -/
def ints_Untag.f (a0 : Int) : Option (Int × Bool) := if (Go.bits .and .i64 a0 1) = 0 then (some (0, false)) else (some (a0 / 2, true))
set_option maxHeartbeats 8000000 in
set_option maxRecDepth 100000 in
theorem ints_Untag.calls (a0 : Int) (r1 : Int) (r2 : Bool) (w : World) (h : ints_Untag.f a0 = some (r1, r2)) :
    Calls Try.prog 20 #[.int .i64 a0] w fun e w' => e = .returned (.tuple #[.int .i64 r1, .bool r2]) ∧ Drawn0 w w' := by
  have H : (if (Go.bits .and .i64 a0 1) = 0 then (some (0, false)) else (some (a0 / 2, true))) = some (r1, r2) := h
  clear h
  by_cases c2 : (Go.bits .and .i64 a0 1) = 0
  · rw [if_pos c2] at H
    have c2b0 : ((Go.bits .and .i64 a0 1) == 0) = true := beq_iff_eq.mpr c2
    have c2b1 : ((Go.bits .and .i64 a0 1) != 0) = false := bne_eq_false_iff_eq.mpr c2
    clear c2
    simp only [Option.some.injEq, Prod.mk.injEq] at H
    obtain ⟨rfl, rfl⟩ := H
    go_enter Try.func20, Try.ntmps20
    go_wp2
    go_ret2
    exact ⟨by first | rfl | (simp; done) | (simp [*]; done), by repeat (first | exact Drawn0.refl _ | apply Drawn0.step)⟩
  · rw [if_neg c2] at H
    have c2b0 : ((Go.bits .and .i64 a0 1) == 0) = false := beq_eq_false_iff_ne.mpr c2
    have c2b1 : ((Go.bits .and .i64 a0 1) != 0) = true := bne_iff_ne.mpr c2
    simp only [Option.some.injEq, Prod.mk.injEq] at H
    obtain ⟨rfl, rfl⟩ := H
    go_enter Try.func20, Try.ntmps20
    go_wp2
    go_ret2
    exact ⟨by first | rfl | (simp; done) | (simp [*]; done), by repeat (first | exact Drawn0.refl _ | apply Drawn0.step)⟩

/-! ### ints_At: function 22 -/
def ints_At.f (a0 : Int) : Option (Int × Bool) := if a0 ≤ 0 then (some (0, false)) else (if (Go.bits .and .i64 a0 1) = 0 then (some (a0 / 2, true)) else (some (0, false)))
set_option maxHeartbeats 8000000 in
set_option maxRecDepth 100000 in
theorem ints_At.calls (a0 : Int) (r1 : Int) (r2 : Bool) (w : World) (h : ints_At.f a0 = some (r1, r2)) :
    Calls Try.prog 22 #[.int .i64 a0] w fun e w' => e = .returned (.tuple #[.int .i64 r1, .bool r2]) ∧ Drawn0 w w' := by
  have H : (if a0 ≤ 0 then (some (0, false)) else (if (Go.bits .and .i64 a0 1) = 0 then (some (a0 / 2, true)) else (some (0, false)))) = some (r1, r2) := h
  clear h
  by_cases c2 : a0 ≤ 0
  · rw [if_pos c2] at H
    have c2b0 : decide (a0 ≤ 0) = true := decide_eq_true c2
    clear c2
    simp only [Option.some.injEq, Prod.mk.injEq] at H
    obtain ⟨rfl, rfl⟩ := H
    go_enter Try.func22, Try.ntmps22
    go_wp2
    go_ret2
    exact ⟨by first | rfl | (simp; done) | (simp [*]; done), by repeat (first | exact Drawn0.refl _ | apply Drawn0.step)⟩
  · rw [if_neg c2] at H
    have c2b0 : decide (a0 ≤ 0) = false := decide_eq_false c2
    clear c2
    by_cases c3 : (Go.bits .and .i64 a0 1) = 0
    · rw [if_pos c3] at H
      have c3b0 : ((Go.bits .and .i64 a0 1) == 0) = true := beq_iff_eq.mpr c3
      have c3b1 : ((Go.bits .and .i64 a0 1) != 0) = false := bne_eq_false_iff_eq.mpr c3
      clear c3
      simp only [Option.some.injEq, Prod.mk.injEq] at H
      obtain ⟨rfl, rfl⟩ := H
      go_enter Try.func22, Try.ntmps22
      go_wp2
      go_ret2
      exact ⟨by first | rfl | (simp; done) | (simp [*]; done), by repeat (first | exact Drawn0.refl _ | apply Drawn0.step)⟩
    · rw [if_neg c3] at H
      have c3b0 : ((Go.bits .and .i64 a0 1) == 0) = false := beq_eq_false_iff_ne.mpr c3
      have c3b1 : ((Go.bits .and .i64 a0 1) != 0) = true := bne_iff_ne.mpr c3
      simp only [Option.some.injEq, Prod.mk.injEq] at H
      obtain ⟨rfl, rfl⟩ := H
      go_enter Try.func22, Try.ntmps22
      go_wp2
      go_ret2
      exact ⟨by first | rfl | (simp; done) | (simp [*]; done), by repeat (first | exact Drawn0.refl _ | apply Drawn0.step)⟩

/-! ### selvagelaw01_IntsWords: function 9 -/
mutual
def selvagelaw01_IntsWords.j0 : Nat → Int → Int → Int → Bool → Option (Bool)
  | 0, _, _, _, _ => none
  | k + 1, x2, x3, x9, x50 => if x50 = true then (some false) else ((ints_Point.f x2).bind fun t220 => ((ints_Point.f x3).bind fun t221 => (if x2 ≥ 1 then (selvagelaw01_IntsWords.j1 k x2 x3 x9 t220 t221 (decide (x2 ≤ 2305843009213693952))) else (selvagelaw01_IntsWords.j1 k x2 x3 x9 t220 t221 false))))
def selvagelaw01_IntsWords.j1 : Nat → Int → Int → Int → Int → Int → Bool → Option (Bool)
  | 0, _, _, _, _, _, _ => none
  | k + 1, x2, x3, x9, x13, x14, x15 => if x3 ≥ 1 then (selvagelaw01_IntsWords.j2 k x2 x3 x9 x13 x14 x15 (decide (x3 ≤ 2305843009213693952))) else (selvagelaw01_IntsWords.j2 k x2 x3 x9 x13 x14 x15 false)
def selvagelaw01_IntsWords.j2 : Nat → Int → Int → Int → Int → Int → Bool → Bool → Option (Bool)
  | 0, _, _, _, _, _, _, _ => none
  | k + 1, x2, x3, x9, x13, x14, x15, x16 => (ints_At.f x13).bind fun bt222 => (if (bt222.2 != x15) = true then (selvagelaw01_IntsWords.j3 k x2 x3 x9 x13 x14 x15 x16 true) else (if x15 = true then (if bt222.1 = x2 then (selvagelaw01_IntsWords.j3 k x2 x3 x9 x13 x14 x15 x16 false) else (selvagelaw01_IntsWords.j3 k x2 x3 x9 x13 x14 x15 x16 true)) else (if x13 = 0 then (selvagelaw01_IntsWords.j3 k x2 x3 x9 x13 x14 x15 x16 (bt222.1 != 0)) else (selvagelaw01_IntsWords.j3 k x2 x3 x9 x13 x14 x15 x16 true))))
def selvagelaw01_IntsWords.j3 : Nat → Int → Int → Int → Int → Int → Bool → Bool → Bool → Option (Bool)
  | 0, _, _, _, _, _, _, _, _ => none
  | k + 1, x2, x3, x9, x13, x14, x15, x16, x94 => if x94 = true then (some false) else (if x15 = true then (if x16 = true then (selvagelaw01_IntsWords.j4 k x9 x13 ((x13 == x14) != (x2 == x3))) else (selvagelaw01_IntsWords.j4 k x9 x13 false)) else (selvagelaw01_IntsWords.j4 k x9 x13 false))
def selvagelaw01_IntsWords.j4 : Nat → Int → Int → Bool → Option (Bool)
  | 0, _, _, _ => none
  | k + 1, x9, x13, x107 => if x107 = true then (some false) else ((ints_Untag.f x13).bind fun bt224 => ((ints_At.f x9).bind fun bt226 => (if bt224.2 = true then (some false) else (if bt226.2 = true then (some false) else ((selvagelaw01_lives.f k).bind fun t228 => (some t228))))))
end
def selvagelaw01_IntsWords.f (k : Nat) (a0 : Int) (a1 : Int) (a2 : Int) (a3 : Int) : Option (Bool) := (ints_Tag.f a0).bind fun t213 => ((ints_Tag.f a1).bind fun t214 => ((ints_Untag.f t213).bind fun bt215 => ((selvageref01_Wrap.f a0).bind fun t217 => (if bt215.1 = t217 then (if bt215.2 = true then ((selvageref01_Wrap.f a0).bind fun t218 => ((selvageref01_Wrap.f a1).bind fun t219 => (selvagelaw01_IntsWords.j0 k a2 a3 t213 ((t213 == t214) != (t218 == t219))))) else (selvagelaw01_IntsWords.j0 k a2 a3 t213 true)) else (selvagelaw01_IntsWords.j0 k a2 a3 t213 true)))))
theorem selvagelaw01_IntsWords.mono_l : ∀ k, (∀ y0 y1 y2 y3, LeO (selvagelaw01_IntsWords.j0 k y0 y1 y2 y3) (selvagelaw01_IntsWords.j0 (k + 1) y0 y1 y2 y3)) ∧ (∀ y0 y1 y2 y3 y4 y5, LeO (selvagelaw01_IntsWords.j1 k y0 y1 y2 y3 y4 y5) (selvagelaw01_IntsWords.j1 (k + 1) y0 y1 y2 y3 y4 y5)) ∧ (∀ y0 y1 y2 y3 y4 y5 y6, LeO (selvagelaw01_IntsWords.j2 k y0 y1 y2 y3 y4 y5 y6) (selvagelaw01_IntsWords.j2 (k + 1) y0 y1 y2 y3 y4 y5 y6)) ∧ (∀ y0 y1 y2 y3 y4 y5 y6 y7, LeO (selvagelaw01_IntsWords.j3 k y0 y1 y2 y3 y4 y5 y6 y7) (selvagelaw01_IntsWords.j3 (k + 1) y0 y1 y2 y3 y4 y5 y6 y7)) ∧ (∀ y0 y1 y2, LeO (selvagelaw01_IntsWords.j4 k y0 y1 y2) (selvagelaw01_IntsWords.j4 (k + 1) y0 y1 y2))
  | 0 => ⟨fun _ _ _ _ r h => by simp [selvagelaw01_IntsWords.j0] at h, fun _ _ _ _ _ _ r h => by simp [selvagelaw01_IntsWords.j1] at h, fun _ _ _ _ _ _ _ r h => by simp [selvagelaw01_IntsWords.j2] at h, fun _ _ _ _ _ _ _ _ r h => by simp [selvagelaw01_IntsWords.j3] at h, fun _ _ _ r h => by simp [selvagelaw01_IntsWords.j4] at h⟩
  | k + 1 => by
    obtain ⟨ih0, ih1, ih2, ih3, ih4⟩ := selvagelaw01_IntsWords.mono_l k
    refine ⟨?_, ?_, ?_, ?_, ?_⟩
    · intro y0 y1 y2 y3
      unfold selvagelaw01_IntsWords.j0
      repeat' first
      | (with_reducible exact ih0 _ _ _ _)
      | (with_reducible exact ih1 _ _ _ _ _ _)
      | (with_reducible exact ih2 _ _ _ _ _ _ _)
      | (with_reducible exact ih3 _ _ _ _ _ _ _ _)
      | (with_reducible exact ih4 _ _ _)
      | (with_reducible exact selvagelaw01_lives.mono _)
      | (with_reducible exact LeO.refl _)
      | (with_reducible exact LeO.none _)
      | (with_reducible refine LeO.ite ?_ ?_)
      | (with_reducible refine LeO.bind ?_ (fun _ => ?_))
      | exact ih0 _ _ _ _
      | exact ih1 _ _ _ _ _ _
      | exact ih2 _ _ _ _ _ _ _
      | exact ih3 _ _ _ _ _ _ _ _
      | exact ih4 _ _ _
      | exact selvagelaw01_lives.mono _
      | exact LeO.none _
      | refine LeO.ite ?_ ?_
      | refine LeO.bind ?_ (fun _ => ?_)
    · intro y0 y1 y2 y3 y4 y5
      unfold selvagelaw01_IntsWords.j1
      repeat' first
      | (with_reducible exact ih0 _ _ _ _)
      | (with_reducible exact ih1 _ _ _ _ _ _)
      | (with_reducible exact ih2 _ _ _ _ _ _ _)
      | (with_reducible exact ih3 _ _ _ _ _ _ _ _)
      | (with_reducible exact ih4 _ _ _)
      | (with_reducible exact selvagelaw01_lives.mono _)
      | (with_reducible exact LeO.refl _)
      | (with_reducible exact LeO.none _)
      | (with_reducible refine LeO.ite ?_ ?_)
      | (with_reducible refine LeO.bind ?_ (fun _ => ?_))
      | exact ih0 _ _ _ _
      | exact ih1 _ _ _ _ _ _
      | exact ih2 _ _ _ _ _ _ _
      | exact ih3 _ _ _ _ _ _ _ _
      | exact ih4 _ _ _
      | exact selvagelaw01_lives.mono _
      | exact LeO.none _
      | refine LeO.ite ?_ ?_
      | refine LeO.bind ?_ (fun _ => ?_)
    · intro y0 y1 y2 y3 y4 y5 y6
      unfold selvagelaw01_IntsWords.j2
      repeat' first
      | (with_reducible exact ih0 _ _ _ _)
      | (with_reducible exact ih1 _ _ _ _ _ _)
      | (with_reducible exact ih2 _ _ _ _ _ _ _)
      | (with_reducible exact ih3 _ _ _ _ _ _ _ _)
      | (with_reducible exact ih4 _ _ _)
      | (with_reducible exact selvagelaw01_lives.mono _)
      | (with_reducible exact LeO.refl _)
      | (with_reducible exact LeO.none _)
      | (with_reducible refine LeO.ite ?_ ?_)
      | (with_reducible refine LeO.bind ?_ (fun _ => ?_))
      | exact ih0 _ _ _ _
      | exact ih1 _ _ _ _ _ _
      | exact ih2 _ _ _ _ _ _ _
      | exact ih3 _ _ _ _ _ _ _ _
      | exact ih4 _ _ _
      | exact selvagelaw01_lives.mono _
      | exact LeO.none _
      | refine LeO.ite ?_ ?_
      | refine LeO.bind ?_ (fun _ => ?_)
    · intro y0 y1 y2 y3 y4 y5 y6 y7
      unfold selvagelaw01_IntsWords.j3
      repeat' first
      | (with_reducible exact ih0 _ _ _ _)
      | (with_reducible exact ih1 _ _ _ _ _ _)
      | (with_reducible exact ih2 _ _ _ _ _ _ _)
      | (with_reducible exact ih3 _ _ _ _ _ _ _ _)
      | (with_reducible exact ih4 _ _ _)
      | (with_reducible exact selvagelaw01_lives.mono _)
      | (with_reducible exact LeO.refl _)
      | (with_reducible exact LeO.none _)
      | (with_reducible refine LeO.ite ?_ ?_)
      | (with_reducible refine LeO.bind ?_ (fun _ => ?_))
      | exact ih0 _ _ _ _
      | exact ih1 _ _ _ _ _ _
      | exact ih2 _ _ _ _ _ _ _
      | exact ih3 _ _ _ _ _ _ _ _
      | exact ih4 _ _ _
      | exact selvagelaw01_lives.mono _
      | exact LeO.none _
      | refine LeO.ite ?_ ?_
      | refine LeO.bind ?_ (fun _ => ?_)
    · intro y0 y1 y2
      unfold selvagelaw01_IntsWords.j4
      repeat' first
      | (with_reducible exact ih0 _ _ _ _)
      | (with_reducible exact ih1 _ _ _ _ _ _)
      | (with_reducible exact ih2 _ _ _ _ _ _ _)
      | (with_reducible exact ih3 _ _ _ _ _ _ _ _)
      | (with_reducible exact ih4 _ _ _)
      | (with_reducible exact selvagelaw01_lives.mono _)
      | (with_reducible exact LeO.refl _)
      | (with_reducible exact LeO.none _)
      | (with_reducible refine LeO.ite ?_ ?_)
      | (with_reducible refine LeO.bind ?_ (fun _ => ?_))
      | exact ih0 _ _ _ _
      | exact ih1 _ _ _ _ _ _
      | exact ih2 _ _ _ _ _ _ _
      | exact ih3 _ _ _ _ _ _ _ _
      | exact ih4 _ _ _
      | exact selvagelaw01_lives.mono _
      | exact LeO.none _
      | refine LeO.ite ?_ ?_
      | refine LeO.bind ?_ (fun _ => ?_)
theorem selvagelaw01_IntsWords.mono : ∀ a0 a1 a2 a3 k, LeO (selvagelaw01_IntsWords.f k a0 a1 a2 a3) (selvagelaw01_IntsWords.f (k + 1) a0 a1 a2 a3) := by
  intro a0 a1 a2 a3 k
  obtain ⟨ih0, ih1, ih2, ih3, ih4⟩ := selvagelaw01_IntsWords.mono_l k
  unfold selvagelaw01_IntsWords.f
  repeat' first
      | (with_reducible exact ih0 _ _ _ _)
      | (with_reducible exact ih1 _ _ _ _ _ _)
      | (with_reducible exact ih2 _ _ _ _ _ _ _)
      | (with_reducible exact ih3 _ _ _ _ _ _ _ _)
      | (with_reducible exact ih4 _ _ _)
      | (with_reducible exact selvagelaw01_lives.mono _)
      | (with_reducible exact LeO.refl _)
      | (with_reducible exact LeO.none _)
      | (with_reducible refine LeO.ite ?_ ?_)
      | (with_reducible refine LeO.bind ?_ (fun _ => ?_))
      | exact ih0 _ _ _ _
      | exact ih1 _ _ _ _ _ _
      | exact ih2 _ _ _ _ _ _ _
      | exact ih3 _ _ _ _ _ _ _ _
      | exact ih4 _ _ _
      | exact selvagelaw01_lives.mono _
      | exact LeO.none _
      | refine LeO.ite ?_ ?_
      | refine LeO.bind ?_ (fun _ => ?_)
set_option maxHeartbeats 8000000 in
set_option maxRecDepth 100000 in
theorem selvagelaw01_IntsWords.calls (k : Nat) (a0 : Int) (a1 : Int) (a2 : Int) (a3 : Int) (r : Bool) (w : World) (h : selvagelaw01_IntsWords.f k a0 a1 a2 a3 = some r) :
    Calls Try.prog 9 #[.int .i64 a0, .int .i64 a1, .int .i64 a2, .int .i64 a3] w fun e w' => e = .returned (.bool r) ∧ Below w.heap.size w w' := by
  have HB := Aside0.mk (Below.refl w.heap.size w)
  have H : ((ints_Tag.f a0).bind fun t213 => ((ints_Tag.f a1).bind fun t214 => ((ints_Untag.f t213).bind fun bt215 => ((selvageref01_Wrap.f a0).bind fun t217 => (if bt215.1 = t217 then (if bt215.2 = true then ((selvageref01_Wrap.f a0).bind fun t218 => ((selvageref01_Wrap.f a1).bind fun t219 => (selvagelaw01_IntsWords.j0 k a2 a3 t213 ((t213 == t214) != (t218 == t219))))) else (selvagelaw01_IntsWords.j0 k a2 a3 t213 true)) else (selvagelaw01_IntsWords.j0 k a2 a3 t213 true)))))) = some r := h
  clear h
  replace H := Option.bind_eq_some_iff.mp H
  obtain ⟨t213, A50, H⟩ := H
  replace H : ((ints_Tag.f a1).bind fun t214 => ((ints_Untag.f t213).bind fun bt215 => ((selvageref01_Wrap.f a0).bind fun t217 => (if bt215.1 = t217 then (if bt215.2 = true then ((selvageref01_Wrap.f a0).bind fun t218 => ((selvageref01_Wrap.f a1).bind fun t219 => (selvagelaw01_IntsWords.j0 k a2 a3 t213 ((t213 == t214) != (t218 == t219))))) else (selvagelaw01_IntsWords.j0 k a2 a3 t213 true)) else (selvagelaw01_IntsWords.j0 k a2 a3 t213 true))))) = some r := H
  have A5 := Aside0.mk A50
  clear A50
  replace H := Option.bind_eq_some_iff.mp H
  obtain ⟨t214, A60, H⟩ := H
  replace H : ((ints_Untag.f t213).bind fun bt215 => ((selvageref01_Wrap.f a0).bind fun t217 => (if bt215.1 = t217 then (if bt215.2 = true then ((selvageref01_Wrap.f a0).bind fun t218 => ((selvageref01_Wrap.f a1).bind fun t219 => (selvagelaw01_IntsWords.j0 k a2 a3 t213 ((t213 == t214) != (t218 == t219))))) else (selvagelaw01_IntsWords.j0 k a2 a3 t213 true)) else (selvagelaw01_IntsWords.j0 k a2 a3 t213 true)))) = some r := H
  have A6 := Aside0.mk A60
  clear A60
  replace H := Option.bind_eq_some_iff.mp H
  obtain ⟨⟨t215, t216⟩, A70, H⟩ := H
  replace H : ((selvageref01_Wrap.f a0).bind fun t217 => (if t215 = t217 then (if t216 = true then ((selvageref01_Wrap.f a0).bind fun t218 => ((selvageref01_Wrap.f a1).bind fun t219 => (selvagelaw01_IntsWords.j0 k a2 a3 t213 ((t213 == t214) != (t218 == t219))))) else (selvagelaw01_IntsWords.j0 k a2 a3 t213 true)) else (selvagelaw01_IntsWords.j0 k a2 a3 t213 true))) = some r := H
  have A7 := Aside0.mk A70
  clear A70
  have HC8 := Aside0.mk H
  clear H
  go_enter Try.func9, Try.ntmps9
  go_upto_region 4 with (first | ((with_reducible refine gate_callee (f := 19) rfl ?_); refine goesL_ (some 24) rfl rfl Try.func19 (by kernel_rfl) rfl #[.int .i64 a0] rfl (by (try simp only [List.map_toArray, List.map_cons, List.map_nil]); first | done | rfl | (simp only [List.length_drop, List.length_take]; rfl)) ?_; (with_reducible refine (ints_Tag.calls a0 t213 _ A5.out).mono ?_); rintro e w' ⟨rfl, ⟨nd, rfl⟩⟩; refine ⟨_, rfl, ?_⟩) | ((with_reducible refine gate_callee (f := 19) rfl ?_); refine goesL_ (some 26) rfl rfl Try.func19 (by kernel_rfl) rfl #[.int .i64 a1] rfl (by (try simp only [List.map_toArray, List.map_cons, List.map_nil]); first | done | rfl | (simp only [List.length_drop, List.length_take]; rfl)) ?_; (with_reducible refine (ints_Tag.calls a1 t214 _ A6.out).mono ?_); rintro e w' ⟨rfl, ⟨nd, rfl⟩⟩; refine ⟨_, rfl, ?_⟩) | ((with_reducible refine gate_callee (f := 20) rfl ?_); refine goesL_ (some 29) rfl rfl Try.func20 (by kernel_rfl) rfl #[.int .i64 t213] rfl (by (try simp only [List.map_toArray, List.map_cons, List.map_nil]); first | done | rfl | (simp only [List.length_drop, List.length_take]; rfl)) ?_; (with_reducible refine (ints_Untag.calls t213 t215 t216 _ A7.out).mono ?_); rintro e w' ⟨rfl, ⟨nd, rfl⟩⟩; refine ⟨_, rfl, ?_⟩))
  (try simp only [Act.put, List.setIfInBounds_toArray, List.set_cons_zero, List.set_cons_succ])
  go_cut [50] (fun v50 wc => ∃ (kq : Nat) (x50_7 : Bool), v50 = .bool x50_7 ∧ Aside0 (selvagelaw01_IntsWords.j0 kq a2 a3 t213 x50_7 = some r) ∧ Aside0 (kq ≤ k) ∧ Aside0 (Below w.heap.size w wc))
  case first =>
    have H := HC8.out
    clear HC8
    replace H := Option.bind_eq_some_iff.mp H
    obtain ⟨t217, A90, H⟩ := H
    replace H : (if t215 = t217 then (if t216 = true then ((selvageref01_Wrap.f a0).bind fun t218 => ((selvageref01_Wrap.f a1).bind fun t219 => (selvagelaw01_IntsWords.j0 k a2 a3 t213 ((t213 == t214) != (t218 == t219))))) else (selvagelaw01_IntsWords.j0 k a2 a3 t213 true)) else (selvagelaw01_IntsWords.j0 k a2 a3 t213 true)) = some r := H
    have A9 := Aside0.mk A90
    clear A90
    by_cases c10 : t215 = t217
    · rw [if_pos c10] at H
      have c10b0 : (t215 == t217) = true := beq_iff_eq.mpr c10
      have c10b1 : (t215 != t217) = false := bne_eq_false_iff_eq.mpr c10
      clear c10
      (first | rw [c10b0] | (simp only [i64_w, i32_w]; rw [c10b0]) | skip)
      by_cases c11 : t216 = true
      · subst c11
        have H1 : ((selvageref01_Wrap.f a0).bind fun t218 => ((selvageref01_Wrap.f a1).bind fun t219 => (selvagelaw01_IntsWords.j0 k a2 a3 t213 ((t213 == t214) != (t218 == t219))))) = some r := by rw [if_pos rfl] at H; exact H
        clear H
        have H := H1
        clear H1
        replace H := Option.bind_eq_some_iff.mp H
        obtain ⟨t218, A120, H⟩ := H
        replace H : ((selvageref01_Wrap.f a1).bind fun t219 => (selvagelaw01_IntsWords.j0 k a2 a3 t213 ((t213 == t214) != (t218 == t219)))) = some r := H
        have A12 := Aside0.mk A120
        clear A120
        replace H := Option.bind_eq_some_iff.mp H
        obtain ⟨t219, A130, H⟩ := H
        replace H : (selvagelaw01_IntsWords.j0 k a2 a3 t213 ((t213 == t214) != (t218 == t219))) = some r := H
        have A13 := Aside0.mk A130
        clear A130
        have H' := Aside0.mk H
        clear H
        go_wp2_with (first | ((with_reducible refine gate_callee (f := 17) rfl ?_); refine goesL_ (some 34) rfl rfl Try.func17 (by kernel_rfl) rfl #[.int .i64 a0] rfl (by (try simp only [List.map_toArray, List.map_cons, List.map_nil]); first | done | rfl | (simp only [List.length_drop, List.length_take]; rfl)) ?_; (with_reducible refine (selvageref01_Wrap.calls a0 t217 _ A9.out).mono ?_); rintro e w' ⟨rfl, ⟨nd, rfl⟩⟩; refine ⟨_, rfl, ?_⟩) | (go_at_call 17; (with_reducible refine (selvageref01_Wrap.calls a0 t218 _ A12.out).mono ?_); rintro e w' ⟨rfl, ⟨nd, rfl⟩⟩) | (go_at_call 17; (with_reducible refine (selvageref01_Wrap.calls a1 t219 _ A13.out).mono ?_); rintro e w' ⟨rfl, ⟨nd, rfl⟩⟩))
        go_meet
        case rel => exact ⟨_, (((t213 == t214) != (t218 == t219))), (by first | rfl | (simp; done) | (simp [*]; done)), H', ⟨by first | omega | exact Nat.le_refl _⟩, ⟨by repeat (first | (with_reducible first | exact HB.out | apply below_alloc | apply pw_below_drewN | apply below_drew1) | exact HB.out)⟩⟩
      · replace c11 := Bool.eq_false_iff.mpr c11
        subst c11
        have H1 : (selvagelaw01_IntsWords.j0 k a2 a3 t213 true) = some r := by rw [if_neg (show ¬ (false = true) by decide)] at H; exact H
        clear H
        have H := H1
        clear H1
        have H' := Aside0.mk H
        clear H
        go_wp2_with (first | ((with_reducible refine gate_callee (f := 17) rfl ?_); refine goesL_ (some 34) rfl rfl Try.func17 (by kernel_rfl) rfl #[.int .i64 a0] rfl (by (try simp only [List.map_toArray, List.map_cons, List.map_nil]); first | done | rfl | (simp only [List.length_drop, List.length_take]; rfl)) ?_; (with_reducible refine (selvageref01_Wrap.calls a0 t217 _ A9.out).mono ?_); rintro e w' ⟨rfl, ⟨nd, rfl⟩⟩; refine ⟨_, rfl, ?_⟩))
        go_meet
        case rel => exact ⟨_, (true), (by first | rfl | (simp; done) | (simp [*]; done)), H', ⟨by first | omega | exact Nat.le_refl _⟩, ⟨by repeat (first | (with_reducible first | exact HB.out | apply below_alloc | apply pw_below_drewN | apply below_drew1) | exact HB.out)⟩⟩
    · rw [if_neg c10] at H
      have c10b0 : (t215 == t217) = false := beq_eq_false_iff_ne.mpr c10
      have c10b1 : (t215 != t217) = true := bne_iff_ne.mpr c10
      (first | rw [c10b0] | (simp only [i64_w, i32_w]; rw [c10b0]) | skip)
      have H' := Aside0.mk H
      clear H
      go_wp2_with (first | ((with_reducible refine gate_callee (f := 17) rfl ?_); refine goesL_ (some 34) rfl rfl Try.func17 (by kernel_rfl) rfl #[.int .i64 a0] rfl (by (try simp only [List.map_toArray, List.map_cons, List.map_nil]); first | done | rfl | (simp only [List.length_drop, List.length_take]; rfl)) ?_; (with_reducible refine (selvageref01_Wrap.calls a0 t217 _ A9.out).mono ?_); rintro e w' ⟨rfl, ⟨nd, rfl⟩⟩; refine ⟨_, rfl, ?_⟩))
      go_meet
      case rel => exact ⟨_, (true), (by first | rfl | (simp; done) | (simp [*]; done)), H', ⟨by first | omega | exact Nat.le_refl _⟩, ⟨by repeat (first | (with_reducible first | exact HB.out | apply below_alloc | apply pw_below_drewN | apply below_drew1) | exact HB.out)⟩⟩
  case rest =>
    clear HC8
    try clear c1
    try clear c2
    try clear p2
    try clear c9
    try clear c10
    try clear c10b0
    try clear c10b1
    try clear c11
    obtain ⟨kq, x50_7, rfl, HA, HJ7, HB⟩ := hcut
    cases kq with
    | zero => exact absurd HA.out (by simp [selvagelaw01_IntsWords.j0])
    | succ kj7 =>
      have H := HA.out
      clear HA
      simp only [selvagelaw01_IntsWords.j0] at H
      by_cases c14 : x50_7 = true
      · subst c14
        have H1 : (some false) = some r := by rw [if_pos rfl] at H; exact H
        clear H
        have H := H1
        clear H1
        obtain rfl := Option.some.inj H
        go_wp2
        go_ret
        exact ⟨by first | rfl | (simp [errW_none, errW_some] <;> rfl) | (simp [*, errW_none, errW_some] <;> rfl), by repeat (first | (with_reducible first | exact HB.out | apply below_alloc | apply pw_below_drewN | apply below_drew1) | exact HB.out)⟩
      · replace c14 := Bool.eq_false_iff.mpr c14
        subst c14
        have H1 : ((ints_Point.f a2).bind fun t220 => ((ints_Point.f a3).bind fun t221 => (if a2 ≥ 1 then (selvagelaw01_IntsWords.j1 kj7 a2 a3 t213 t220 t221 (decide (a2 ≤ 2305843009213693952))) else (selvagelaw01_IntsWords.j1 kj7 a2 a3 t213 t220 t221 false)))) = some r := by rw [if_neg (show ¬ (false = true) by decide)] at H; exact H
        clear H
        have H := H1
        clear H1
        replace H := Option.bind_eq_some_iff.mp H
        obtain ⟨t220, A150, H⟩ := H
        replace H : ((ints_Point.f a3).bind fun t221 => (if a2 ≥ 1 then (selvagelaw01_IntsWords.j1 kj7 a2 a3 t213 t220 t221 (decide (a2 ≤ 2305843009213693952))) else (selvagelaw01_IntsWords.j1 kj7 a2 a3 t213 t220 t221 false))) = some r := H
        have A15 := Aside0.mk A150
        clear A150
        replace H := Option.bind_eq_some_iff.mp H
        obtain ⟨t221, A160, H⟩ := H
        replace H : (if a2 ≥ 1 then (selvagelaw01_IntsWords.j1 kj7 a2 a3 t213 t220 t221 (decide (a2 ≤ 2305843009213693952))) else (selvagelaw01_IntsWords.j1 kj7 a2 a3 t213 t220 t221 false)) = some r := H
        have A16 := Aside0.mk A160
        clear A160
        have HC17 := Aside0.mk H
        clear H
        go_upto_region 8 with (first | ((with_reducible refine gate_callee (f := 21) rfl ?_); refine goesL_ (some 52) rfl rfl Try.func21 (by kernel_rfl) rfl #[.int .i64 a2] rfl (by (try simp only [List.map_toArray, List.map_cons, List.map_nil]); first | done | rfl | (simp only [List.length_drop, List.length_take]; rfl)) ?_; (with_reducible refine (ints_Point.calls a2 t220 _ A15.out).mono ?_); rintro e w' ⟨rfl, ⟨nd, rfl⟩⟩; refine ⟨_, rfl, ?_⟩) | ((with_reducible refine gate_callee (f := 21) rfl ?_); refine goesL_ (some 54) rfl rfl Try.func21 (by kernel_rfl) rfl #[.int .i64 a3] rfl (by (try simp only [List.map_toArray, List.map_cons, List.map_nil]); first | done | rfl | (simp only [List.length_drop, List.length_take]; rfl)) ?_; (with_reducible refine (ints_Point.calls a3 t221 _ A16.out).mono ?_); rintro e w' ⟨rfl, ⟨nd, rfl⟩⟩; refine ⟨_, rfl, ?_⟩))
        (try simp only [Act.put, List.setIfInBounds_toArray, List.set_cons_zero, List.set_cons_succ])
        go_cut [15] (fun v15 wc => ∃ (kq : Nat) (x15_16 : Bool), v15 = .bool x15_16 ∧ Aside0 (selvagelaw01_IntsWords.j1 kq a2 a3 t213 t220 t221 x15_16 = some r) ∧ Aside0 (kq ≤ kj7) ∧ Aside0 (Below w.heap.size w wc))
        case first =>
          have H := HC17.out
          clear HC17
          by_cases c18 : a2 ≥ 1
          · rw [if_pos c18] at H
            have c18b0 : decide (1 ≤ a2) = true := decide_eq_true c18
            clear c18
            (first | rw [c18b0] | (simp only [i64_w, i32_w]; rw [c18b0]) | skip)
            have H' := Aside0.mk H
            clear H
            go_wp2
            go_meet
            case rel => exact ⟨_, (decide (a2 ≤ 2305843009213693952)), (by first | rfl | (simp; done) | (simp [*]; done)), H', ⟨by have := HJ7.out; first | omega | exact Nat.le_refl _⟩, ⟨by repeat (first | (with_reducible first | exact HB.out | apply below_alloc | apply pw_below_drewN | apply below_drew1) | exact HB.out)⟩⟩
          · rw [if_neg c18] at H
            have c18b0 : decide (1 ≤ a2) = false := decide_eq_false c18
            clear c18
            (first | rw [c18b0] | (simp only [i64_w, i32_w]; rw [c18b0]) | skip)
            have H' := Aside0.mk H
            clear H
            go_wp2
            go_meet
            case rel => exact ⟨_, (false), (by first | rfl | (simp; done) | (simp [*]; done)), H', ⟨by have := HJ7.out; first | omega | exact Nat.le_refl _⟩, ⟨by repeat (first | (with_reducible first | exact HB.out | apply below_alloc | apply pw_below_drewN | apply below_drew1) | exact HB.out)⟩⟩
        case rest =>
          clear HC17
          try clear c1
          try clear c2
          try clear p2
          try clear c9
          try clear c10
          try clear c10b0
          try clear c10b1
          try clear c11
          try clear c14
          try clear c17
          try clear c18
          try clear c18b0
          try clear p2
          obtain ⟨kq, x15_16, rfl, HA, HJ16, HB⟩ := hcut
          cases kq with
          | zero => exact absurd HA.out (by simp [selvagelaw01_IntsWords.j1])
          | succ kj16 =>
            have H := HA.out
            clear HA
            simp only [selvagelaw01_IntsWords.j1] at H
            have HC19 := Aside0.mk H
            clear H
            go_upto_region 9 with (fail)
            go_cut [16] (fun v16 wc => ∃ (kq : Nat) (x16_18 : Bool), v16 = .bool x16_18 ∧ Aside0 (selvagelaw01_IntsWords.j2 kq a2 a3 t213 t220 t221 x15_16 x16_18 = some r) ∧ Aside0 (kq ≤ kj16) ∧ Aside0 (Below w.heap.size w wc))
            case first =>
              have H := HC19.out
              clear HC19
              by_cases c20 : a3 ≥ 1
              · rw [if_pos c20] at H
                have c20b0 : decide (1 ≤ a3) = true := decide_eq_true c20
                clear c20
                (first | rw [c20b0] | (simp only [i64_w, i32_w]; rw [c20b0]) | skip)
                have H' := Aside0.mk H
                clear H
                go_wp2
                go_meet
                case rel => exact ⟨_, (decide (a3 ≤ 2305843009213693952)), (by first | rfl | (simp; done) | (simp [*]; done)), H', ⟨by have := HJ7.out; have := HJ16.out; first | omega | exact Nat.le_refl _⟩, ⟨by repeat (first | (with_reducible first | exact HB.out | apply below_alloc | apply pw_below_drewN | apply below_drew1) | exact HB.out)⟩⟩
              · rw [if_neg c20] at H
                have c20b0 : decide (1 ≤ a3) = false := decide_eq_false c20
                clear c20
                (first | rw [c20b0] | (simp only [i64_w, i32_w]; rw [c20b0]) | skip)
                have H' := Aside0.mk H
                clear H
                go_wp2
                go_meet
                case rel => exact ⟨_, (false), (by first | rfl | (simp; done) | (simp [*]; done)), H', ⟨by have := HJ7.out; have := HJ16.out; first | omega | exact Nat.le_refl _⟩, ⟨by repeat (first | (with_reducible first | exact HB.out | apply below_alloc | apply pw_below_drewN | apply below_drew1) | exact HB.out)⟩⟩
            case rest =>
              clear HC19
              try clear c1
              try clear c2
              try clear p2
              try clear c9
              try clear c10
              try clear c10b0
              try clear c10b1
              try clear c11
              try clear c14
              try clear c17
              try clear c18
              try clear c18b0
              try clear c19
              try clear c20
              try clear c20b0
              try clear p2
              obtain ⟨kq, x16_18, rfl, HA, HJ18, HB⟩ := hcut
              cases kq with
              | zero => exact absurd HA.out (by simp [selvagelaw01_IntsWords.j2])
              | succ kj18 =>
                have H := HA.out
                clear HA
                simp only [selvagelaw01_IntsWords.j2] at H
                replace H := Option.bind_eq_some_iff.mp H
                obtain ⟨⟨t222, t223⟩, A210, H⟩ := H
                replace H : (if (t223 != x15_16) = true then (selvagelaw01_IntsWords.j3 kj18 a2 a3 t213 t220 t221 x15_16 x16_18 true) else (if x15_16 = true then (if t222 = a2 then (selvagelaw01_IntsWords.j3 kj18 a2 a3 t213 t220 t221 x15_16 x16_18 false) else (selvagelaw01_IntsWords.j3 kj18 a2 a3 t213 t220 t221 x15_16 x16_18 true)) else (if t220 = 0 then (selvagelaw01_IntsWords.j3 kj18 a2 a3 t213 t220 t221 x15_16 x16_18 (t222 != 0)) else (selvagelaw01_IntsWords.j3 kj18 a2 a3 t213 t220 t221 x15_16 x16_18 true)))) = some r := H
                have A21 := Aside0.mk A210
                clear A210
                have HC22 := Aside0.mk H
                clear H
                go_upto_region 11 with (first | ((with_reducible refine gate_callee (f := 22) rfl ?_); refine goesL_ (some 69) rfl rfl Try.func22 (by kernel_rfl) rfl #[.int .i64 t220] rfl (by (try simp only [List.map_toArray, List.map_cons, List.map_nil]); first | done | rfl | (simp only [List.length_drop, List.length_take]; rfl)) ?_; (with_reducible refine (ints_At.calls t220 t222 t223 _ A21.out).mono ?_); rintro e w' ⟨rfl, ⟨nd, rfl⟩⟩; refine ⟨_, rfl, ?_⟩))
                (try simp only [Act.put, List.setIfInBounds_toArray, List.set_cons_zero, List.set_cons_succ])
                go_cut [94] (fun v94 wc => ∃ (kq : Nat) (x94_21 : Bool), v94 = .bool x94_21 ∧ Aside0 (selvagelaw01_IntsWords.j3 kq a2 a3 t213 t220 t221 x15_16 x16_18 x94_21 = some r) ∧ Aside0 (kq ≤ kj18) ∧ Aside0 (Below w.heap.size w wc))
                case first =>
                  have H := HC22.out
                  clear HC22
                  by_cases c23 : (t223 != x15_16) = true
                  · rw [if_pos c23] at H
                    have c23b0 : (t223 != x15_16) = true := c23
                    (try (have c23b1 : decide (t223 = x15_16) = false := by simpa using c23))
                    (try (have c23b2 : (t223 == x15_16) = false := by simpa using c23))
                    (try (have c23b3 : ¬ (t223 = x15_16) := by simpa using c23))
                    clear c23
                    (first | rw [c23b0] | (simp only [i64_w, i32_w]; rw [c23b0]) | skip)
                    have H' := Aside0.mk H
                    clear H
                    go_wp2
                    go_meet
                    case rel => exact ⟨_, (true), (by first | rfl | (simp; done) | (simp [*]; done)), H', ⟨by have := HJ7.out; have := HJ16.out; have := HJ18.out; first | omega | exact Nat.le_refl _⟩, ⟨by repeat (first | (with_reducible first | exact HB.out | apply below_alloc | apply pw_below_drewN | apply below_drew1) | exact HB.out)⟩⟩
                  · rw [if_neg c23] at H
                    have c23b0 : (t223 != x15_16) = false := by simpa using c23
                    (try (have c23b1 : decide (t223 = x15_16) = true := by simpa using c23))
                    (try (have c23b2 : (t223 == x15_16) = true := by simpa using c23))
                    clear c23
                    (first | rw [c23b0] | (simp only [i64_w, i32_w]; rw [c23b0]) | skip)
                    by_cases c24 : x15_16 = true
                    · subst c24
                      have H1 : (if t222 = a2 then (selvagelaw01_IntsWords.j3 kj18 a2 a3 t213 t220 t221 true x16_18 false) else (selvagelaw01_IntsWords.j3 kj18 a2 a3 t213 t220 t221 true x16_18 true)) = some r := by rw [if_pos rfl] at H; exact H
                      clear H
                      have H := H1
                      clear H1
                      by_cases c25 : t222 = a2
                      · rw [if_pos c25] at H
                        have c25b0 : (t222 == a2) = true := beq_iff_eq.mpr c25
                        have c25b1 : (t222 != a2) = false := bne_eq_false_iff_eq.mpr c25
                        clear c25
                        have H' := Aside0.mk H
                        clear H
                        go_wp2
                        go_meet
                        case rel => exact ⟨_, (false), (by first | rfl | (simp; done) | (simp [*]; done)), H', ⟨by have := HJ7.out; have := HJ16.out; have := HJ18.out; first | omega | exact Nat.le_refl _⟩, ⟨by repeat (first | (with_reducible first | exact HB.out | apply below_alloc | apply pw_below_drewN | apply below_drew1) | exact HB.out)⟩⟩
                      · rw [if_neg c25] at H
                        have c25b0 : (t222 == a2) = false := beq_eq_false_iff_ne.mpr c25
                        have c25b1 : (t222 != a2) = true := bne_iff_ne.mpr c25
                        have H' := Aside0.mk H
                        clear H
                        go_wp2
                        go_meet
                        case rel => exact ⟨_, (true), (by first | rfl | (simp; done) | (simp [*]; done)), H', ⟨by have := HJ7.out; have := HJ16.out; have := HJ18.out; first | omega | exact Nat.le_refl _⟩, ⟨by repeat (first | (with_reducible first | exact HB.out | apply below_alloc | apply pw_below_drewN | apply below_drew1) | exact HB.out)⟩⟩
                    · replace c24 := Bool.eq_false_iff.mpr c24
                      subst c24
                      have H1 : (if t220 = 0 then (selvagelaw01_IntsWords.j3 kj18 a2 a3 t213 t220 t221 false x16_18 (t222 != 0)) else (selvagelaw01_IntsWords.j3 kj18 a2 a3 t213 t220 t221 false x16_18 true)) = some r := by rw [if_neg (show ¬ (false = true) by decide)] at H; exact H
                      clear H
                      have H := H1
                      clear H1
                      by_cases c26 : t220 = 0
                      · rw [if_pos c26] at H
                        have c26b0 : (t220 == 0) = true := beq_iff_eq.mpr c26
                        have c26b1 : (t220 != 0) = false := bne_eq_false_iff_eq.mpr c26
                        clear c26
                        have H' := Aside0.mk H
                        clear H
                        go_wp2
                        go_meet
                        case rel => exact ⟨_, ((t222 != 0)), (by first | rfl | (simp; done) | (simp [*]; done)), H', ⟨by have := HJ7.out; have := HJ16.out; have := HJ18.out; first | omega | exact Nat.le_refl _⟩, ⟨by repeat (first | (with_reducible first | exact HB.out | apply below_alloc | apply pw_below_drewN | apply below_drew1) | exact HB.out)⟩⟩
                      · rw [if_neg c26] at H
                        have c26b0 : (t220 == 0) = false := beq_eq_false_iff_ne.mpr c26
                        have c26b1 : (t220 != 0) = true := bne_iff_ne.mpr c26
                        have H' := Aside0.mk H
                        clear H
                        go_wp2
                        go_meet
                        case rel => exact ⟨_, (true), (by first | rfl | (simp; done) | (simp [*]; done)), H', ⟨by have := HJ7.out; have := HJ16.out; have := HJ18.out; first | omega | exact Nat.le_refl _⟩, ⟨by repeat (first | (with_reducible first | exact HB.out | apply below_alloc | apply pw_below_drewN | apply below_drew1) | exact HB.out)⟩⟩
                case rest =>
                  clear HC22
                  try clear c1
                  try clear c2
                  try clear p2
                  try clear c9
                  try clear c10
                  try clear c10b0
                  try clear c10b1
                  try clear c11
                  try clear c14
                  try clear c17
                  try clear c18
                  try clear c18b0
                  try clear c19
                  try clear c20
                  try clear c20b0
                  try clear c21
                  try clear c22
                  try clear c23
                  try clear c23b0
                  try clear c23b1
                  try clear c23b2
                  try clear c24
                  try clear c25
                  try clear c25b0
                  try clear c25b1
                  try clear c26
                  try clear c26b0
                  try clear c26b1
                  try clear p2
                  obtain ⟨kq, x94_21, rfl, HA, HJ21, HB⟩ := hcut
                  cases kq with
                  | zero => exact absurd HA.out (by simp [selvagelaw01_IntsWords.j3])
                  | succ kj21 =>
                    have H := HA.out
                    clear HA
                    simp only [selvagelaw01_IntsWords.j3] at H
                    by_cases c27 : x94_21 = true
                    · subst c27
                      have H1 : (some false) = some r := by rw [if_pos rfl] at H; exact H
                      clear H
                      have H := H1
                      clear H1
                      obtain rfl := Option.some.inj H
                      go_wp2
                      go_ret
                      exact ⟨by first | rfl | (simp [errW_none, errW_some] <;> rfl) | (simp [*, errW_none, errW_some] <;> rfl), by repeat (first | (with_reducible first | exact HB.out | apply below_alloc | apply pw_below_drewN | apply below_drew1) | exact HB.out)⟩
                    · replace c27 := Bool.eq_false_iff.mpr c27
                      subst c27
                      have H1 : (if x15_16 = true then (if x16_18 = true then (selvagelaw01_IntsWords.j4 kj21 t213 t220 ((t220 == t221) != (a2 == a3))) else (selvagelaw01_IntsWords.j4 kj21 t213 t220 false)) else (selvagelaw01_IntsWords.j4 kj21 t213 t220 false)) = some r := by rw [if_neg (show ¬ (false = true) by decide)] at H; exact H
                      clear H
                      have H := H1
                      clear H1
                      have HC28 := Aside0.mk H
                      clear H
                      go_upto_region 13 with (fail)
                      go_cut [107] (fun v107 wc => ∃ (kq : Nat) (x107_27 : Bool), v107 = .bool x107_27 ∧ Aside0 (selvagelaw01_IntsWords.j4 kq t213 t220 x107_27 = some r) ∧ Aside0 (kq ≤ kj21) ∧ Aside0 (Below w.heap.size w wc))
                      case first =>
                        have H := HC28.out
                        clear HC28
                        by_cases c29 : x15_16 = true
                        · subst c29
                          have H1 : (if x16_18 = true then (selvagelaw01_IntsWords.j4 kj21 t213 t220 ((t220 == t221) != (a2 == a3))) else (selvagelaw01_IntsWords.j4 kj21 t213 t220 false)) = some r := by rw [if_pos rfl] at H; exact H
                          clear H
                          have H := H1
                          clear H1
                          by_cases c30 : x16_18 = true
                          · subst c30
                            have H1 : (selvagelaw01_IntsWords.j4 kj21 t213 t220 ((t220 == t221) != (a2 == a3))) = some r := by rw [if_pos rfl] at H; exact H
                            clear H
                            have H := H1
                            clear H1
                            have H' := Aside0.mk H
                            clear H
                            go_wp2
                            go_meet
                            case rel => exact ⟨_, (((t220 == t221) != (a2 == a3))), (by first | rfl | (simp; done) | (simp [*]; done)), H', ⟨by have := HJ7.out; have := HJ16.out; have := HJ18.out; have := HJ21.out; first | omega | exact Nat.le_refl _⟩, ⟨by repeat (first | (with_reducible first | exact HB.out | apply below_alloc | apply pw_below_drewN | apply below_drew1) | exact HB.out)⟩⟩
                          · replace c30 := Bool.eq_false_iff.mpr c30
                            subst c30
                            have H1 : (selvagelaw01_IntsWords.j4 kj21 t213 t220 false) = some r := by rw [if_neg (show ¬ (false = true) by decide)] at H; exact H
                            clear H
                            have H := H1
                            clear H1
                            have H' := Aside0.mk H
                            clear H
                            go_wp2
                            go_meet
                            case rel => exact ⟨_, (false), (by first | rfl | (simp; done) | (simp [*]; done)), H', ⟨by have := HJ7.out; have := HJ16.out; have := HJ18.out; have := HJ21.out; first | omega | exact Nat.le_refl _⟩, ⟨by repeat (first | (with_reducible first | exact HB.out | apply below_alloc | apply pw_below_drewN | apply below_drew1) | exact HB.out)⟩⟩
                        · replace c29 := Bool.eq_false_iff.mpr c29
                          subst c29
                          have H1 : (selvagelaw01_IntsWords.j4 kj21 t213 t220 false) = some r := by rw [if_neg (show ¬ (false = true) by decide)] at H; exact H
                          clear H
                          have H := H1
                          clear H1
                          have H' := Aside0.mk H
                          clear H
                          go_wp2
                          go_meet
                          case rel => exact ⟨_, (false), (by first | rfl | (simp; done) | (simp [*]; done)), H', ⟨by have := HJ7.out; have := HJ16.out; have := HJ18.out; have := HJ21.out; first | omega | exact Nat.le_refl _⟩, ⟨by repeat (first | (with_reducible first | exact HB.out | apply below_alloc | apply pw_below_drewN | apply below_drew1) | exact HB.out)⟩⟩
                      case rest =>
                        clear HC28
                        try clear c1
                        try clear c2
                        try clear p2
                        try clear c3
                        try clear c9
                        try clear c10
                        try clear c10b0
                        try clear c10b1
                        try clear c11
                        try clear c14
                        try clear c17
                        try clear c18
                        try clear c18b0
                        try clear c19
                        try clear c20
                        try clear c20b0
                        try clear c21
                        try clear c22
                        try clear c23
                        try clear c23b0
                        try clear c23b1
                        try clear c23b2
                        try clear c24
                        try clear c25
                        try clear c25b0
                        try clear c25b1
                        try clear c26
                        try clear c26b0
                        try clear c26b1
                        try clear c27
                        try clear c29
                        try clear c30
                        try clear p2
                        obtain ⟨kq, x107_27, rfl, HA, HJ27, HB⟩ := hcut
                        cases kq with
                        | zero => exact absurd HA.out (by simp [selvagelaw01_IntsWords.j4])
                        | succ kj27 =>
                          have H := HA.out
                          clear HA
                          simp only [selvagelaw01_IntsWords.j4] at H
                          by_cases c31 : x107_27 = true
                          · subst c31
                            have H1 : (some false) = some r := by rw [if_pos rfl] at H; exact H
                            clear H
                            have H := H1
                            clear H1
                            obtain rfl := Option.some.inj H
                            go_wp2
                            go_ret
                            exact ⟨by first | rfl | (simp [errW_none, errW_some] <;> rfl) | (simp [*, errW_none, errW_some] <;> rfl), by repeat (first | (with_reducible first | exact HB.out | apply below_alloc | apply pw_below_drewN | apply below_drew1) | exact HB.out)⟩
                          · replace c31 := Bool.eq_false_iff.mpr c31
                            subst c31
                            have H1 : ((ints_Untag.f t220).bind fun bt224 => ((ints_At.f t213).bind fun bt226 => (if bt224.2 = true then (some false) else (if bt226.2 = true then (some false) else ((selvagelaw01_lives.f kj27).bind fun t228 => (some t228)))))) = some r := by rw [if_neg (show ¬ (false = true) by decide)] at H; exact H
                            clear H
                            have H := H1
                            clear H1
                            replace H := Option.bind_eq_some_iff.mp H
                            obtain ⟨⟨t224, t225⟩, A320, H⟩ := H
                            replace H : ((ints_At.f t213).bind fun bt226 => (if t225 = true then (some false) else (if bt226.2 = true then (some false) else ((selvagelaw01_lives.f kj27).bind fun t228 => (some t228))))) = some r := H
                            have A32 := Aside0.mk A320
                            clear A320
                            replace H := Option.bind_eq_some_iff.mp H
                            obtain ⟨⟨t226, t227⟩, A330, H⟩ := H
                            replace H : (if t225 = true then (some false) else (if t227 = true then (some false) else ((selvagelaw01_lives.f kj27).bind fun t228 => (some t228)))) = some r := H
                            have A33 := Aside0.mk A330
                            clear A330
                            by_cases c34 : t225 = true
                            · subst c34
                              have H1 : (some false) = some r := by rw [if_pos rfl] at H; exact H
                              clear H
                              have H := H1
                              clear H1
                              obtain rfl := Option.some.inj H
                              go_wp2_with (first | ((with_reducible refine gate_callee (f := 20) rfl ?_); refine goesL_ (some 110) rfl rfl Try.func20 (by kernel_rfl) rfl #[.int .i64 t220] rfl (by (try simp only [List.map_toArray, List.map_cons, List.map_nil]); first | done | rfl | (simp only [List.length_drop, List.length_take]; rfl)) ?_; (with_reducible refine (ints_Untag.calls t220 t224 true _ A32.out).mono ?_); rintro e w' ⟨rfl, ⟨nd, rfl⟩⟩; refine ⟨_, rfl, ?_⟩) | ((with_reducible refine gate_callee (f := 22) rfl ?_); refine goesL_ (some 115) rfl rfl Try.func22 (by kernel_rfl) rfl #[.int .i64 t213] rfl (by (try simp only [List.map_toArray, List.map_cons, List.map_nil]); first | done | rfl | (simp only [List.length_drop, List.length_take]; rfl)) ?_; (with_reducible refine (ints_At.calls t213 t226 t227 _ A33.out).mono ?_); rintro e w' ⟨rfl, ⟨nd, rfl⟩⟩; refine ⟨_, rfl, ?_⟩))
                              go_ret
                              exact ⟨by first | rfl | (simp [errW_none, errW_some] <;> rfl) | (simp [*, errW_none, errW_some] <;> rfl), by repeat (first | (with_reducible first | exact HB.out | apply below_alloc | apply pw_below_drewN | apply below_drew1) | exact HB.out)⟩
                            · replace c34 := Bool.eq_false_iff.mpr c34
                              subst c34
                              have H1 : (if t227 = true then (some false) else ((selvagelaw01_lives.f kj27).bind fun t228 => (some t228))) = some r := by rw [if_neg (show ¬ (false = true) by decide)] at H; exact H
                              clear H
                              have H := H1
                              clear H1
                              by_cases c35 : t227 = true
                              · subst c35
                                have H1 : (some false) = some r := by rw [if_pos rfl] at H; exact H
                                clear H
                                have H := H1
                                clear H1
                                obtain rfl := Option.some.inj H
                                go_wp2_with (first | ((with_reducible refine gate_callee (f := 20) rfl ?_); refine goesL_ (some 110) rfl rfl Try.func20 (by kernel_rfl) rfl #[.int .i64 t220] rfl (by (try simp only [List.map_toArray, List.map_cons, List.map_nil]); first | done | rfl | (simp only [List.length_drop, List.length_take]; rfl)) ?_; (with_reducible refine (ints_Untag.calls t220 t224 false _ A32.out).mono ?_); rintro e w' ⟨rfl, ⟨nd, rfl⟩⟩; refine ⟨_, rfl, ?_⟩) | ((with_reducible refine gate_callee (f := 22) rfl ?_); refine goesL_ (some 115) rfl rfl Try.func22 (by kernel_rfl) rfl #[.int .i64 t213] rfl (by (try simp only [List.map_toArray, List.map_cons, List.map_nil]); first | done | rfl | (simp only [List.length_drop, List.length_take]; rfl)) ?_; (with_reducible refine (ints_At.calls t213 t226 true _ A33.out).mono ?_); rintro e w' ⟨rfl, ⟨nd, rfl⟩⟩; refine ⟨_, rfl, ?_⟩))
                                go_ret
                                exact ⟨by first | rfl | (simp [errW_none, errW_some] <;> rfl) | (simp [*, errW_none, errW_some] <;> rfl), by repeat (first | (with_reducible first | exact HB.out | apply below_alloc | apply pw_below_drewN | apply below_drew1) | exact HB.out)⟩
                              · replace c35 := Bool.eq_false_iff.mpr c35
                                subst c35
                                have H1 : ((selvagelaw01_lives.f kj27).bind fun t228 => (some t228)) = some r := by rw [if_neg (show ¬ (false = true) by decide)] at H; exact H
                                clear H
                                have H := H1
                                clear H1
                                replace H := Option.bind_eq_some_iff.mp H
                                obtain ⟨t228, A360, H⟩ := H
                                replace H : (some t228) = some r := H
                                have A36 := Aside0.mk A360
                                clear A360
                                obtain rfl := Option.some.inj H
                                go_wp2_with (first | ((with_reducible refine gate_callee (f := 20) rfl ?_); refine goesL_ (some 110) rfl rfl Try.func20 (by kernel_rfl) rfl #[.int .i64 t220] rfl (by (try simp only [List.map_toArray, List.map_cons, List.map_nil]); first | done | rfl | (simp only [List.length_drop, List.length_take]; rfl)) ?_; (with_reducible refine (ints_Untag.calls t220 t224 false _ A32.out).mono ?_); rintro e w' ⟨rfl, ⟨nd, rfl⟩⟩; refine ⟨_, rfl, ?_⟩) | ((with_reducible refine gate_callee (f := 22) rfl ?_); refine goesL_ (some 115) rfl rfl Try.func22 (by kernel_rfl) rfl #[.int .i64 t213] rfl (by (try simp only [List.map_toArray, List.map_cons, List.map_nil]); first | done | rfl | (simp only [List.length_drop, List.length_take]; rfl)) ?_; (with_reducible refine (ints_At.calls t213 t226 false _ A33.out).mono ?_); rintro e w' ⟨rfl, ⟨nd, rfl⟩⟩; refine ⟨_, rfl, ?_⟩) | (go_at_call 15; (with_reducible refine (selvagelaw01_lives.calls kj27  t228 _ A36.out).mono ?_); rintro e w37 ⟨rfl, hb⟩; have n0_ := Aside0.mk (below_step (by repeat (first | (with_reducible first | exact HB.out | apply below_alloc | apply pw_below_drewN | apply below_drew1) | exact HB.out)) hb); clear HB; have HB := n0_; clear n0_; (try clear hb); (try clear hb2); (try clear hk); (try clear hi)))
                                go_ret
                                exact ⟨by first | rfl | (simp [errW_none, errW_some] <;> rfl) | (simp [*, errW_none, errW_some] <;> rfl), by repeat (first | (with_reducible first | exact HB.out | apply below_alloc | apply pw_below_drewN | apply below_drew1) | exact HB.out)⟩

/-- THE ONE PURE STATEMENT of selvagelaw01_IntsWords: yours. -/
def selvagelaw01_IntsWords.Pure : Prop := ∀ (a0 : Int) (a1 : Int) (a2 : Int) (a3 : Int), (Lit.int .i64 a0).wf = true → (Lit.int .i64 a1).wf = true → (Lit.int .i64 a2).wf = true → (Lit.int .i64 a3).wf = true → ∃ k, selvagelaw01_IntsWords.f k a0 a1 a2 a3 = some true
theorem selvagelaw01_IntsWords.walk (P : selvagelaw01_IntsWords.Pure) (a0 : Int) (a1 : Int) (a2 : Int) (a3 : Int) (w : World) (w0 : (Lit.int .i64 a0).wf = true) (w1 : (Lit.int .i64 a1).wf = true) (w2 : (Lit.int .i64 a2).wf = true) (w3 : (Lit.int .i64 a3).wf = true) :
    Calls Try.prog 9 #[.int .i64 a0, .int .i64 a1, .int .i64 a2, .int .i64 a3] w fun e w' => e = .returned (.bool true) ∧ Below w.heap.size w w' := by
  obtain ⟨k, h⟩ := P a0 a1 a2 a3 w0 w1 w2 w3
  refine (selvagelaw01_IntsWords.calls k a0 a1 a2 a3 true w h).mono ?_
  rintro e w' ⟨rfl, hd⟩
  exact ⟨rfl, hd⟩

end Go.Proofs.Ytdbolkckbgacoaa.Print
