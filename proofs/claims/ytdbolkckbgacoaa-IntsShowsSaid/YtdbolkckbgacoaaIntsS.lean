/- Digits, plainly: what ints.Show and selvageref01.Show come to at any number, and that a text of digits is read as the number. -/
import Derived.Test.YtdbolkckbgacoaaIntsR
namespace Go.Proofs.Ytdbolkckbgacoaa.Ints
open Go.RowKit Go.Proofs.Ytdbolkckbgacoaa.Print Go.Proofs.YtdbolkckbgacoaaW.PrintWords Go.Proofs.YtdbolkckbgacoaaW.PrintLast
set_option linter.unusedVariables false
set_option linter.unusedSimpArgs false

/-- The digits of a number, as bytes, of as many places as are asked for; none of nought. -/
def dgs : Nat → Nat → List UInt8
  | 0, _ => []
  | f + 1, m => if m = 0 then [] else dgs f (m / 10) ++ [UInt8.ofNat (48 + m % 10)]
theorem dgs_zero (f : Nat) : dgs f 0 = [] := by cases f <;> simp [dgs]
theorem dgs_step (f m : Nat) (h : m ≠ 0) : dgs (f + 1) m = dgs f (m / 10) ++ [UInt8.ofNat (48 + m % 10)] := by simp [dgs, h]
theorem dig_toNat (m : Nat) : (UInt8.ofNat (48 + m % 10)).toNat = 48 + m % 10 := by
  rw [UInt8.toNat_ofNat']; omega
theorem dgs_all (f : Nat) : ∀ m, (dgs f m).all isDig = true := by
  induction f with
  | zero => intro m; rfl
  | succ f ih =>
    intro m
    by_cases h : m = 0
    · rw [h, dgs_zero]; rfl
    · rw [dgs_step f m h, List.all_append, ih]
      simp only [List.all_cons, List.all_nil, isDig, dig_toNat]
      simp
      omega
theorem dgs_len (f : Nat) : ∀ m, (dgs f m).length ≤ f := by
  induction f with
  | zero => intro m; simp [dgs]
  | succ f ih =>
    intro m
    by_cases h : m = 0
    · rw [h, dgs_zero]; simp
    · rw [dgs_step f m h, List.length_append]
      have := ih (m / 10)
      simp
      omega
theorem dgs_V (f : Nat) : ∀ m, m < P10 f → V 0 (dgs f m) = m := by
  induction f with
  | zero => intro m h; have e : P10 0 = 1 := rfl
            rw [e] at h
            have : m = 0 := by omega
            subst this
            exact V_nil 0
  | succ f ih =>
    intro m h
    by_cases h0 : m = 0
    · rw [h0, dgs_zero, V_nil]
    · have hq : m / 10 < P10 f := by
        have e : P10 (f + 1) = 10 * P10 f := rfl
        rw [e] at h
        omega
      rw [dgs_step f m h0, V_snoc, ih _ hq, dig_toNat]
      omega
theorem dgs_head (f : Nat) : ∀ m, m < P10 f → m ≠ 0 → dgs f m ≠ [] ∧ (dgs f m).getD 0 0 ≠ 48 ∧ (dgs f m).getD 0 0 ≠ 45 := by
  induction f with
  | zero => intro m h h0; have e : P10 0 = 1 := rfl
            rw [e] at h
            omega
  | succ f ih =>
    intro m h h0
    have hq : m / 10 < P10 f := by
      have e : P10 (f + 1) = 10 * P10 f := rfl
      rw [e] at h
      omega
    rw [dgs_step f m h0]
    by_cases h1 : m / 10 = 0
    · rw [h1, dgs_zero, List.nil_append]
      have hm : (UInt8.ofNat (48 + m % 10)).toNat = 48 + m % 10 := dig_toNat m
      refine ⟨by simp, ?_, ?_⟩
      · intro e
        have e' : (UInt8.ofNat (48 + m % 10)) = 48 := e
        rw [e'] at hm
        have : (48 : UInt8).toNat = 48 := rfl
        omega
      · intro e
        have e' : (UInt8.ofNat (48 + m % 10)) = 45 := e
        rw [e'] at hm
        have : (45 : UInt8).toNat = 45 := rfl
        omega
    · obtain ⟨g1, g2, g3⟩ := ih _ hq h1
      have hap : ∀ (x : List UInt8) (y : UInt8), x ≠ [] → (x ++ [y]).getD 0 0 = x.getD 0 0 := by
        intro x y hx
        cases x with
        | nil => exact absurd rfl hx
        | cons a b => rfl
      rw [hap _ _ g1]
      exact ⟨by simp, g2, g3⟩

/-- The text of an integer. -/
def show63 (n : Int) : List UInt8 := if n = 0 then [48] else if n < 0 then 45 :: dgs 19 n.natAbs else dgs 19 n.natAbs

theorem lim19 {n : Int} (h : In n) : n.natAbs < P10 19 := by
  have e : P10 19 = 10000000000000000000 := rfl
  rw [e]
  unfold In at h
  omega

theorem rd_show {n : Int} (h : In n) : rd (show63 n) = (n, 0) := by
  by_cases h0 : n = 0
  · subst h0; decide +kernel
  have hl := lim19 h
  obtain ⟨g1, g2, g3⟩ := dgs_head 19 n.natAbs hl (by omega)
  have hV := dgs_V 19 n.natAbs hl
  have hall := dgs_all 19 n.natAbs
  unfold show63
  rw [if_neg h0]
  unfold In at h
  by_cases hn : n < 0
  · rw [if_pos hn]
    unfold rd
    have e1 : (45 :: dgs 19 n.natAbs).getD 0 0 = 45 := rfl
    have e2 : (45 :: dgs 19 n.natAbs).drop 1 = dgs 19 n.natAbs := rfl
    rw [if_pos e1, e2]
    unfold rdD
    have c1 : ¬ (dgs 19 n.natAbs = [] ∨ ((dgs 19 n.natAbs).getD 0 0 = 48 ∧ (1 < (dgs 19 n.natAbs).length ∨ true = true))) := fun x => x.elim g1 (fun y => g2 y.1)
    have c2 : ¬ (4611686018427387904 < n.natAbs ∨ (n.natAbs = 4611686018427387904 ∧ true = false)) := by
      rintro (x | ⟨_, x⟩)
      · omega
      · cases x
    rw [if_neg c1, hall, hV, if_neg (by decide), if_neg c2, if_pos rfl]
    congr 1
    omega
  · rw [if_neg hn]
    unfold rd
    rw [if_neg g3]
    unfold rdD
    have c1 : ¬ (dgs 19 n.natAbs = [] ∨ ((dgs 19 n.natAbs).getD 0 0 = 48 ∧ (1 < (dgs 19 n.natAbs).length ∨ false = true))) := fun x => x.elim g1 (fun y => g2 y.1)
    have c2 : ¬ (4611686018427387904 < n.natAbs ∨ (n.natAbs = 4611686018427387904 ∧ false = false)) := by
      rintro (x | ⟨x, _⟩)
      · omega
      · omega
    rw [if_neg c1, hall, hV, if_neg (by decide), if_neg c2, if_neg (by decide)]
    congr 1
    omega
theorem show_len (n : Int) : (show63 n).length ≤ 20 := by
  unfold show63
  split
  · simp
  · have := dgs_len 19 n.natAbs
    split
    · rw [List.length_cons]; omega
    · omega

/-! The program's loop. -/
theorem tmod10_abs (n : Int) : (n.tmod 10).natAbs = n.natAbs % 10 := by rw [Int.natAbs_tmod]; rfl
theorem tdiv10_abs (n : Int) : (n.tdiv 10).natAbs = n.natAbs / 10 := by rw [Int.natAbs_tdiv]; rfl
theorem dg_eq (n : Int) : ints_Show.dg n = ((48 + n.natAbs % 10 : Nat) : Int) := by
  unfold ints_Show.dg
  have := tmod10_abs n
  split <;> omega
/-- The bytes of numbers. -/
def byt (l : List Int) : List UInt8 := l.map fun n => UInt8.ofNat n.toNat
theorem strOf (l : List Int) : strOfNums l = tx (byt l) := rfl
theorem byt_cons (m : Nat) (l : List Int) : byt (((48 + m % 10 : Nat) : Int) :: l) = UInt8.ofNat (48 + m % 10) :: byt l := rfl
theorem quo_in {n : Int} (h : In n) : In (n.tdiv 10) ∧ wrap64 (n.tdiv 10) = n.tdiv 10 := by
  have := tdiv10_abs n
  have h1 : In (n.tdiv 10) := by unfold In at *; omega
  exact ⟨h1, wrap64_in (in_i64 h1)⟩

theorem show_loop (f : Nat) : ∀ (k : Nat) (n : Int) (l : List Int), In n → n.natAbs < P10 (f + 1) → f < k →
    ∃ r, ints_Show.l0 k n l = some r ∧ byt r = (if n.natAbs = 0 then [48] else dgs (f + 1) n.natAbs) ++ byt l := by
  induction f with
  | zero =>
    intro k n l hn hp hk
    obtain ⟨k, rfl⟩ : ∃ m, k = m + 1 := ⟨k - 1, by omega⟩
    obtain ⟨q1, q2⟩ := quo_in hn
    have hq := tdiv10_abs n
    have e : P10 (0 + 1) = 10 := rfl
    rw [e] at hp
    have hz : n.tdiv 10 = 0 := by omega
    refine ⟨_, by simp only [ints_Show.l0]; rw [q2, if_pos hz], ?_⟩
    rw [dg_eq, byt_cons]
    by_cases h0 : n.natAbs = 0
    · rw [if_pos h0, h0]; rfl
    · rw [if_neg h0, dgs_step _ _ h0]
      have : n.natAbs / 10 = 0 := by omega
      rw [this, dgs_zero]
      rfl
  | succ f ih =>
    intro k n l hn hp hk
    obtain ⟨k, rfl⟩ : ∃ m, k = m + 1 := ⟨k - 1, by omega⟩
    obtain ⟨q1, q2⟩ := quo_in hn
    have hq := tdiv10_abs n
    simp only [ints_Show.l0]
    rw [q2]
    by_cases hz : n.tdiv 10 = 0
    · refine ⟨_, if_pos hz, ?_⟩
      rw [dg_eq, byt_cons]
      have h10 : n.natAbs / 10 = 0 := by omega
      by_cases h0 : n.natAbs = 0
      · rw [if_pos h0, h0]; rfl
      · rw [if_neg h0, dgs_step _ _ h0, h10, dgs_zero]
        rfl
    · have hp' : n.natAbs / 10 < P10 (f + 1) := by
        have e : P10 (f + 1 + 1) = 10 * P10 (f + 1) := rfl
        rw [e] at hp
        omega
      obtain ⟨r, hr, hb⟩ := ih k (n.tdiv 10) (ints_Show.dg n :: l) q1 (by rw [hq]; exact hp') (by omega)
      refine ⟨r, by rw [if_neg hz]; exact hr, ?_⟩
      have h0 : n.natAbs ≠ 0 := by omega
      have h1 : ¬ n.natAbs / 10 = 0 := by omega
      rw [hb, dg_eq, byt_cons, hq, if_neg h1, if_neg h0, dgs_step _ _ h0, List.append_assoc]
      rfl
theorem Show_eq (a : Int) : ints_Show.f a = some (tx (show63 (W a))) := by
  have hi := W_in a
  unfold ints_Show.f
  rw [wrap2]
  generalize W a = n at *
  obtain ⟨r, hr, hb⟩ := show_loop 18 22 n [] hi (lim19 hi) (by decide)
  have hb' : byt r = if n.natAbs = 0 then [48] else dgs 19 n.natAbs := by
    rw [hb]; exact List.append_nil _
  rw [hr]
  show some (strOfNums (if n < 0 then 45 :: r else r)) = _
  rw [strOf]
  congr 2
  unfold show63
  by_cases h0 : n = 0
  · subst h0
    exact hb'
  · have h0' : ¬ n.natAbs = 0 := by omega
    rw [if_neg h0'] at hb'
    rw [if_neg h0]
    by_cases hn : n < 0
    · rw [if_pos hn, if_pos hn]
      show (45 : UInt8) :: byt r = _
      rw [hb']
    · rw [if_neg hn, if_neg hn, hb']

/-! The reference's loop. -/
theorem refShow_loop (s : Bool) (f : Nat) : ∀ (k : Nat) (n : Int) (l : List UInt8), In n → n.natAbs < P10 f → f < k → l.length + f ≤ 40 →
    selvageref01_Show.l0 k n (tx l) s = some (tx (if s = true then 45 :: (dgs f n.natAbs ++ l) else dgs f n.natAbs ++ l)) := by
  have one : ∀ (c : UInt8) (l : List UInt8), (⟨#[c]⟩ : ByteArray) ++ tx l = tx (c :: l) := fun c l => rfl
  have fin : ∀ (k : Nat) (l : List UInt8), l.length ≤ 40 → selvageref01_Show.l0 (k + 1) 0 (tx l) s = some (tx (if s = true then 45 :: l else l)) := by
    intro k l hl
    simp only [selvageref01_Show.l0, tx_size]
    cases s
    · simp
    · simp only [if_true]
      rw [if_pos (by omega)]
      rfl
  induction f with
  | zero =>
    intro k n l hn hp hk hl
    obtain ⟨k, rfl⟩ : ∃ m, k = m + 1 := ⟨k - 1, by omega⟩
    have e : P10 0 = 1 := rfl
    rw [e] at hp
    have : n = 0 := by omega
    subst this
    rw [fin k l (by omega)]
    rfl
  | succ f ih =>
    intro k n l hn hp hk hl
    obtain ⟨k, rfl⟩ : ∃ m, k = m + 1 := ⟨k - 1, by omega⟩
    by_cases h0 : n = 0
    · subst h0
      rw [fin k l (by omega)]
      rfl
    · obtain ⟨q1, q2⟩ := quo_in hn
      have hq := tdiv10_abs n
      have hm := tmod10_abs n
      have h0' : n.natAbs ≠ 0 := by omega
      have hp' : n.natAbs / 10 < P10 f := by
        have e : P10 (f + 1) = 10 * P10 f := rfl
        rw [e] at hp
        omega
      have hs : ∀ z : Int, z = ((48 + n.natAbs % 10 : Nat) : Int) → strOfNums [z % 256] ++ tx l = tx (UInt8.ofNat (48 + n.natAbs % 10) :: l) := by
        intro z hz
        subst hz
        have : ((48 + n.natAbs % 10 : Nat) : Int) % 256 = ((48 + n.natAbs % 10 : Nat) : Int) := by omega
        rw [this]
        rfl
      have hz1 : ∀ z : Int, (strOfNums [z]).size = 1 := fun z => rfl
      simp only [selvageref01_Show.l0, Option.bind_some, hz1, tx_size, q2]
      rw [if_neg h0]
      have hstep := ih k (n.tdiv 10) (UInt8.ofNat (48 + n.natAbs % 10) :: l) q1 (by rw [hq]; exact hp') (by omega) (by rw [List.length_cons]; omega)
      rw [hq] at hstep
      have hfit : 1 + l.length ≤ 9223372036854775807 := by omega
      by_cases hneg : n.tmod 10 < 0
      · have e : wrap64 (48 + wrap64 (-(n.tmod 10))) = ((48 + n.natAbs % 10 : Nat) : Int) := by unfold wrap64; omega
        rw [if_pos hneg, if_pos hfit, hs _ e, hstep, dgs_step f _ h0']
        simp
      · have e : wrap64 (48 + n.tmod 10) = ((48 + n.natAbs % 10 : Nat) : Int) := by unfold wrap64; omega
        rw [if_neg hneg, if_pos hfit, hs _ e, hstep, dgs_step f _ h0']
        simp
theorem refShow_eq (k : Nat) (hk : 19 < k) {a : Int} (h : I64 a) : selvageref01_Show.f k a = some (tx (show63 (W a))) := by
  have hi := W_in a
  unfold selvageref01_Show.f
  rw [refWrap_eq h]
  simp only [Option.bind_some]
  generalize W a = n at *
  unfold show63
  by_cases h0 : n = 0
  · rw [if_pos h0, if_pos h0]
  · rw [if_neg h0, if_neg h0]
    have := refShow_loop (decide (n < 0)) 19 k n [] hi (lim19 hi) hk (by decide)
    show selvageref01_Show.l0 k n (tx []) _ = _
    rw [this, List.append_nil]
    by_cases hn : n < 0
    · rw [if_pos hn, if_pos (decide_eq_true hn)]
    · rw [if_neg hn, if_neg (by rw [decide_eq_false hn]; decide)]
end Go.Proofs.Ytdbolkckbgacoaa.Ints
