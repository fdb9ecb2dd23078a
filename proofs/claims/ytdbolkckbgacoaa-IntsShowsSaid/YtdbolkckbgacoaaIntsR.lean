/- Texts of integers, plainly: what ints.Read and selvageref01.Read come to at any text of at most 60 bytes, given as a list of bytes. -/
import Derived.Test.YtdbolkckbgacoaaIntsB
import Derived.Test.YtdbolkckbgacoaaPrint7
import Derived.Test.YtdbolkckbgacoaaPrint8
import Derived.Lib.IndexBytes
namespace Go.Proofs.Ytdbolkckbgacoaa.Ints
open Go.RowKit Go.Proofs.Ytdbolkckbgacoaa.Print Go.Proofs.YtdbolkckbgacoaaW.PrintWords Go.Proofs.YtdbolkckbgacoaaW.PrintLast
set_option linter.unusedVariables false
set_option linter.unusedSimpArgs false

/-- The text of a list of bytes. -/
abbrev tx (l : List UInt8) : ByteArray := ⟨l.toArray⟩
theorem tx_data (s : ByteArray) : tx s.data.toList = s := rfl
theorem tx_size (l : List UInt8) : (tx l).size = l.length := by simp [ByteArray.size]
theorem tx_list (l : List UInt8) : (tx l).toList = l := ByteArray.toList_mk l
theorem tx_bt (l : List UInt8) (i : Nat) : bt (tx l) (i : Int) = (((l.getD i 0).toNat : Nat) : Int) := by
  unfold bt
  split
  · rename_i h
    have h' : i < l.length := by simpa [ByteArray.size] using h
    simp only [Int.toNat_natCast, List.getD, List.getElem?_eq_getElem h', Option.getD_some]
    rfl
  · rename_i h
    have h' : l.length ≤ i := by simpa [ByteArray.size] using h
    simp [List.getD, List.getElem?_eq_none h']
theorem tx_drop1 (l : List UInt8) : (tx l).extract 1 (tx l).size = tx (l.drop 1) := by
  have h := Lib.extract_to_end (tx l) 1
  have e : (tx l).data.toList = l := rfl
  rw [e] at h
  rw [← tx_data ((tx l).extract 1 (tx l).size), h]
theorem tx_drop (l : List UInt8) : (tx l).extract 1 l.length = tx (l.drop 1) := by
  have := tx_drop1 l
  rwa [tx_size] at this
theorem tx_take (l : List UInt8) (n : Nat) : (tx l).extract 0 n = tx (l.take n) := by
  rw [← tx_data ((tx l).extract 0 n)]
  congr 1
  simp

def isDig (c : UInt8) : Bool := decide (48 ≤ c.toNat) && decide (c.toNat ≤ 57)
/-- The number that digits are, behind a number. -/
def V (acc : Nat) (l : List UInt8) : Nat := l.foldl (fun a c => 10 * a + (c.toNat - 48)) acc
theorem V_nil (a : Nat) : V a [] = a := by unfold V; rw [List.foldl_nil]
theorem V_cons (a : Nat) (c : UInt8) (r : List UInt8) : V a (c :: r) = V (10 * a + (c.toNat - 48)) r := by unfold V; rw [List.foldl_cons]
/-- A power of ten, kept whole. -/
def P10 : Nat → Nat
  | 0 => 1
  | n + 1 => 10 * P10 n
theorem P10_pos : ∀ n, 1 ≤ P10 n
  | 0 => Nat.le_refl _
  | n + 1 => by have := P10_pos n; simp only [P10]; omega
theorem P10_mono {m : Nat} : ∀ {n : Nat}, m ≤ n → P10 m ≤ P10 n
  | 0, h => by obtain rfl : m = 0 := by omega
               exact Nat.le_refl _
  | n + 1, h => by
    by_cases e : m = n + 1
    · subst e; exact Nat.le_refl _
    · have := P10_mono (m := m) (n := n) (by omega)
      have := P10_pos n
      simp only [P10]
      omega
theorem le_ten (a c : Nat) : a ≤ 10 * a + c := by omega
theorem ten_le (a c : Nat) : a * 10 ≤ 10 * a + c := by omega
theorem V_ge (l : List UInt8) : ∀ a, a * P10 l.length ≤ V a l := by
  induction l with
  | nil => intro a; rw [V_nil]; show a * 1 ≤ a; omega
  | cons c r ih =>
    intro a
    rw [V_cons]
    show a * (10 * P10 r.length) ≤ _
    have h3 := Nat.mul_le_mul_right (P10 r.length) (ten_le a (c.toNat - 48))
    rw [← Nat.mul_assoc]
    exact Nat.le_trans h3 (ih _)
theorem V_ge' (l : List UInt8) : ∀ a, a ≤ V a l := by
  induction l with
  | nil => intro a; rw [V_nil]; exact Nat.le_refl a
  | cons c r ih =>
    intro a
    have h := ih (10 * a + (c.toNat - 48))
    rw [V_cons]
    exact Nat.le_trans (le_ten a (c.toNat - 48)) h
theorem V_snoc (l : List UInt8) (c : UInt8) : ∀ a, V a (l ++ [c]) = 10 * V a l + (c.toNat - 48) := by
  induction l with
  | nil => intro a; rw [List.nil_append, V_cons, V_nil, V_nil]
  | cons d r ih => intro a; rw [List.cons_append, V_cons, V_cons]; exact ih _

/-- What a text is read as, behind its sign. -/
def rdD (below : Bool) (d : List UInt8) : Int × Int :=
  if d = [] ∨ (d.getD 0 0 = 48 ∧ (1 < d.length ∨ below = true)) then (0, 1)
  else if d.all isDig = false then (0, 1)
  else if 4611686018427387904 < V 0 d ∨ (V 0 d = 4611686018427387904 ∧ below = false) then (0, 13)
  else (if below = true then -(V 0 d : Int) else (V 0 d : Int), 0)
def rd (l : List UInt8) : Int × Int := if l.getD 0 0 = 45 then rdD true (l.drop 1) else rdD false l

theorem drop_cons (l : List UInt8) (i : Nat) (h : i < l.length) : l.drop i = l.getD i 0 :: l.drop (i + 1) := by
  rw [List.drop_eq_getElem_cons h]; simp [List.getD, List.getElem?_eq_getElem h]
theorem take_snoc (l : List UInt8) (i : Nat) (h : i < l.length) : l.take (i + 1) = l.take i ++ [l.getD i 0] := by
  rw [List.take_succ_eq_append_getElem h]; simp [List.getD, List.getElem?_eq_getElem h]
theorem next_i (i n : Nat) (h : i < n) (hn : n ≤ 60) : wrap64 ((i : Int) + 1) = ((i + 1 : Nat) : Int) := by unfold wrap64; omega

/-! The program's Read. -/
theorem plain_loop (l : List UInt8) (b : Bool) (hn : l.length ≤ 60) (d : Nat) : ∀ (k i : Nat), i ≤ l.length → l.length - i = d → d < k →
    ints_plain.l0 k (tx l) b (l.length : Int) (i : Int) = some (if (l.drop i).all isDig = true then (tx l, b, true) else (tx [], false, false)) := by
  induction d with
  | zero =>
    intro k i h1 h2 hk
    obtain ⟨k, rfl⟩ : ∃ m, k = m + 1 := ⟨k - 1, by omega⟩
    have e : l.drop i = [] := List.drop_eq_nil_iff.2 (by omega)
    simp only [ints_plain.l0]
    rw [if_neg (by omega), e]
    simp
  | succ d ih =>
    intro k i h1 h2 hk
    obtain ⟨k, rfl⟩ : ∃ m, k = m + 1 := ⟨k - 1, by omega⟩
    have hlt : i < l.length := by omega
    simp only [ints_plain.l0, tx_size, tx_bt]
    rw [if_pos (by omega), if_pos (by omega), if_pos (by omega), next_i i _ hlt hn, ih k (i + 1) (by omega) (by omega) (by omega), drop_cons l i hlt]
    generalize hc : l.getD i 0 = c
    simp only [List.all_cons]
    by_cases c1 : (c.toNat : Int) < 48
    · have : isDig c = false := by simp [isDig]; omega
      rw [if_pos c1]
      simp [this]
    · rw [if_neg c1]
      by_cases c2 : (c.toNat : Int) > 57
      · have : isDig c = false := by simp [isDig]; omega
        rw [if_pos c2]
        simp [this]
      · have : isDig c = true := by simp [isDig]; omega
        rw [if_neg c2]
        simp [this]
/-- What 'plain' tells of the text behind its sign. -/
def plD (b : Bool) (d : List UInt8) : ByteArray × Bool × Bool :=
  if (d = [] ∨ (d.getD 0 0 = 48 ∧ (1 < d.length ∨ b = true))) ∨ d.all isDig = false then (tx [], false, false) else (tx d, b, true)
theorem byte_eq (c d : UInt8) : ((((c.toNat : Nat) : Int)) = ((d.toNat : Nat) : Int)) = (c = d) := by
  apply propext
  constructor
  · intro h; exact UInt8.toNat_inj.1 (by omega)
  · intro h; subst h; rfl
theorem byte_eq48 (c : UInt8) : (((c.toNat : Nat) : Int) = 48) = (c = 48) := byte_eq c 48
theorem byte_beq45 (c : UInt8) : (((c.toNat : Nat) : Int) == 45) = decide (c = 45) := by
  by_cases h : c = 45
  · subst h; rfl
  · have : ¬ ((c.toNat : Nat) : Int) = 45 := by
      have e := byte_eq c 45
      intro h2
      exact h (e.mp h2)
    rw [beq_eq_false_iff_ne.2 this, decide_eq_false h]
theorem plain_j1 (l : List UInt8) (b : Bool) (hn : l.length ≤ 60) (k : Nat) (hk : 63 < k) : ints_plain.j1 k (tx l) b = some (plD b l) := by
  obtain ⟨k, rfl⟩ : ∃ m, k = m + 2 := ⟨k - 2, by omega⟩
  have h2 : ∀ c : Bool, ints_plain.j2 (k + 1) (tx l) b c = some (if c = true ∨ l.all isDig = false then (tx [], false, false) else (tx l, b, true)) := by
    intro c
    simp only [ints_plain.j2, tx_size]
    cases c
    · rw [if_neg (by decide)]
      have := plain_loop l b hn l.length k 0 (by omega) (by omega) (by omega)
      rw [show ((0 : Nat) : Int) = 0 from rfl] at this
      rw [this, List.drop_zero]
      cases l.all isDig <;> simp
    · simp
  have h0 : bt (tx l) 0 = (((l.getD 0 0).toNat : Nat) : Int) := tx_bt l 0
  unfold plD
  simp only [ints_plain.j1, tx_size, tx_list, h2, h0]
  cases l with
  | nil => simp
  | cons c r =>
    have e0 : (c :: r).getD 0 0 = c := rfl
    have p0 : ¬ (c :: r) = [] := by simp
    have p1 : (0 : Int) < ((c :: r).length : Int) := by rw [List.length_cons]; omega
    have e2 : (((c :: r).length : Int) > 1) = (1 < (c :: r).length) := by apply propext; constructor <;> intro h <;> omega
    rw [e0, if_neg p0, if_pos p1]
    simp only [byte_eq48, e2]
    generalize (c :: r).all isDig = q
    generalize hL : (c :: r).length = n
    by_cases hc : c = 48
    · by_cases hr : 1 < n
      · simp [hc, hr]
      · cases b <;> simp [hc, hr]
    · simp [hc]
theorem plain_eq (l : List UInt8) (hn : l.length ≤ 60) (k : Nat) (hk : 64 < k) :
    ints_plain.f k (tx l) = some (if l.getD 0 0 = 45 then plD true (l.drop 1) else plD false l) := by
  obtain ⟨k, rfl⟩ : ∃ m, k = m + 1 := ⟨k - 1, by omega⟩
  have h0 : bt (tx l) 0 = (((l.getD 0 0).toNat : Nat) : Int) := tx_bt l 0
  have hd : (l.drop 1).length ≤ 60 := by rw [List.length_drop]; omega
  unfold ints_plain.f
  simp only [ints_plain.j0, tx_size, tx_drop, h0, plain_j1 _ _ hd k (by omega), plain_j1 _ _ hn k (by omega)]
  cases l with
  | nil => simp
  | cons c r =>
    have e0 : (c :: r).getD 0 0 = c := rfl
    have p1 : ((c :: r).length : Int) > 0 := by rw [List.length_cons]; omega
    have p2 : (0 : Int) < ((c :: r).length : Int) := p1
    have p3 : (1 : Int) ≤ ((c :: r).length : Int) := p1
    rw [e0, if_pos p1, if_pos p2, if_pos p3, byte_beq45]
    by_cases h : c = 45
    · rw [if_pos (decide_eq_true h), if_pos h, decide_eq_true h]
    · rw [decide_eq_false h, if_neg (by decide), if_neg h]

theorem w10 (h c : Nat) (hh : h < 10000000000) (hc : c ≤ 9) : wrap64 (wrap64 (10 * (h : Int)) + (c : Int)) = ((10 * h + c : Nat) : Int) := by unfold wrap64; omega
theorem wlen (n i : Nat) (hn : n ≤ 60) (h : i < n) : wrap64 ((n : Int) - (i : Int)) = ((n - i : Nat) : Int) := by unfold wrap64; omega
theorem wfin (h o : Nat) (hh : h ≤ 4611686018) (ho : o < 1000000000) : wrap64 (wrap64 ((h : Int) * 1000000000) + (o : Int)) = ((h * 1000000000 + o : Nat) : Int) := by unfold wrap64; omega
theorem wneg (n : Nat) (h : n ≤ 4611686018427387904) : wrap64 (-(n : Int)) = -(n : Int) := by unfold wrap64; omega
theorem wsub (a c : Nat) (h : 10 * a + c ≤ 4611686018427387904) : wrap64 (wrap64 (10 * -(a : Int)) - (c : Int)) = -((10 * a + c : Nat) : Int) := by unfold wrap64; omega
theorem tdiv_test (a c : Nat) (hc : c ≤ 9) : (-(a : Int) < Int.tdiv (-4611686018427387904 + (c : Int)) 10) ↔ 4611686018427387904 < 10 * a + c := by
  have e : (-4611686018427387904 + (c : Int)) = -((4611686018427387904 - c : Nat) : Int) := by omega
  rw [e, Int.neg_tdiv, Int.tdiv_eq_ediv_of_nonneg (by omega)]
  omega

theorem read_loop (l : List UInt8) (b : Bool) (hn : l.length ≤ 60) (hall : l.all isDig = true) (d : Nat) : ∀ (k i a : Nat), i ≤ l.length → l.length - i = d → d < k → a ≤ 4611686018427387904 →
    ints_Read.l0 k (tx l) b (-(a : Int)) (l.length : Int) (i : Int) = some (if 4611686018427387904 < V a (l.drop i) ∨ (V a (l.drop i) = 4611686018427387904 ∧ b = false) then (0, 13) else (if b = true then -(V a (l.drop i) : Int) else (V a (l.drop i) : Int), 0)) := by
  induction d with
  | zero =>
    intro k i a h1 h2 hk ha
    obtain ⟨k, rfl⟩ : ∃ m, k = m + 1 := ⟨k - 1, by omega⟩
    have e : l.drop i = [] := List.drop_eq_nil_iff.2 (by omega)
    simp only [ints_Read.l0, is_eq, Option.bind_some]
    rw [if_neg (by omega), e, V_nil]
    have hw : wrap64 (-(-(a : Int))) = (a : Int) := by unfold wrap64; omega
    rw [hw]
    cases b with
    | true =>
      have : In (-(a : Int)) := by unfold In; omega
      simp [this]
      omega
    | false =>
      by_cases h : a = 4611686018427387904
      · have : ¬ In (a : Int) := by unfold In; omega
        rw [decide_eq_false this]
        simp [h]
      · have : In (a : Int) := by unfold In; omega
        have h' : ¬ 4611686018427387904 < a := by omega
        simp [this, h, h']
  | succ d ih =>
    intro k i a h1 h2 hk ha
    obtain ⟨k, rfl⟩ : ∃ m, k = m + 1 := ⟨k - 1, by omega⟩
    have hlt : i < l.length := by omega
    simp only [ints_Read.l0, tx_size, tx_bt]
    rw [if_pos (by omega), if_pos (by omega), if_pos (by omega), next_i i _ hlt hn, drop_cons l i hlt]
    have hdig : isDig (l.getD i 0) = true := by
      have := List.all_eq_true.1 hall (l[i]) (List.getElem_mem hlt)
      simpa [List.getD, List.getElem?_eq_getElem hlt] using this
    generalize hc : l.getD i 0 = c at *
    have hb : 48 ≤ c.toNat ∧ c.toNat ≤ 57 := by simpa [isDig] using hdig
    have ec : ((c.toNat : Int) - 48) % 256 = ((c.toNat - 48 : Nat) : Int) := by omega
    have hV : V a (c :: l.drop (i + 1)) = V (10 * a + (c.toNat - 48)) (l.drop (i + 1)) := V_cons _ _ _
    rw [hV, ec]
    clear hV ec
    by_cases ht : 4611686018427387904 < 10 * a + (c.toNat - 48)
    · have ht' := (tdiv_test a (c.toNat - 48) (by omega)).2 ht
      simp only [if_pos ht']
      have := V_ge' (l.drop (i + 1)) (10 * a + (c.toNat - 48))
      have hbig : 4611686018427387904 < V (10 * a + (c.toNat - 48)) (l.drop (i + 1)) ∨ (V (10 * a + (c.toNat - 48)) (l.drop (i + 1)) = 4611686018427387904 ∧ b = false) := .inl (by omega)
      rw [if_pos hbig]
    · have ht' : ¬ -(a : Int) < Int.tdiv (-4611686018427387904 + ((c.toNat - 48 : Nat) : Int)) 10 := fun h => ht ((tdiv_test a (c.toNat - 48) (by omega)).1 h)
      simp only [if_neg ht']
      rw [wsub a (c.toNat - 48) (by omega), ih k (i + 1) _ (by omega) (by omega) (by omega) (by omega)]

theorem read_eq (l : List UInt8) (hn : l.length ≤ 60) (k : Nat) (hk : 64 < k) : ints_Read.f k (tx l) = some (rd l) := by
  unfold ints_Read.f
  rw [plain_eq l hn k hk]
  simp only [Option.bind_some]
  have key : ∀ (b : Bool) (d : List UInt8), d.length ≤ 60 →
      (if (plD b d).2.2 = true then ints_Read.l0 k (plD b d).1 (plD b d).2.1 0 ((plD b d).1.size : Int) 0 else some (0, 1)) = some (rdD b d) := by
    intro b d hd
    unfold plD rdD
    by_cases h1 : d = [] ∨ (d.getD 0 0 = 48 ∧ (1 < d.length ∨ b = true))
    · simp only [if_pos (Or.inl h1 : (d = [] ∨ (d.getD 0 0 = 48 ∧ (1 < d.length ∨ b = true))) ∨ d.all isDig = false), if_pos h1]
      simp
    · rw [if_neg h1]
      cases hall : d.all isDig with
      | false =>
        simp only [if_pos (Or.inr rfl : (d = [] ∨ (d.getD 0 0 = 48 ∧ (1 < d.length ∨ b = true))) ∨ false = false)]
        simp
      | true =>
        have h : ¬ ((d = [] ∨ (d.getD 0 0 = 48 ∧ (1 < d.length ∨ b = true))) ∨ true = false) := fun x => x.elim h1 (by simp)
        simp only [if_neg h, if_true, tx_size]
        have := read_loop d b hd hall d.length k 0 0 (by omega) (by omega) (by omega) (by omega)
        rw [show (-((0 : Nat) : Int)) = 0 from rfl, show ((0 : Nat) : Int) = 0 from rfl] at this
        rw [this, List.drop_zero]
        simp
  unfold rd
  by_cases h : l.getD 0 0 = 45
  · have hk := key true (l.drop 1) (by rw [List.length_drop]; omega)
    rw [if_pos h, if_pos h]
    exact hk
  · have hk := key false l hn
    rw [if_neg h, if_neg h]
    exact hk

/-! The reference's Read. -/
theorem refRead_dig (s : ByteArray) (l : List UInt8) (hn : l.length ≤ 60) (d : Nat) : ∀ (k i : Nat), i ≤ l.length → l.length - i = d → d < k →
    (∀ k', d < k → k - d ≤ k' + 1 → True) →
    selvageref01_Read.l0 k s (tx l) (i : Int) = if (l.drop i).all isDig = true then (if (l.length : Int) > 19 then some (0, 13) else selvageref01_Read.l1 (k - d - 1) s (tx l) 0 0 0) else some (0, 1) := by
  induction d with
  | zero =>
    intro k i h1 h2 hk _
    obtain ⟨k, rfl⟩ : ∃ m, k = m + 1 := ⟨k - 1, by omega⟩
    have e : l.drop i = [] := List.drop_eq_nil_iff.2 (by omega)
    simp only [selvageref01_Read.l0, tx_size]
    rw [if_neg (by omega), e]
    simp
  | succ d ih =>
    intro k i h1 h2 hk _
    obtain ⟨k, rfl⟩ : ∃ m, k = m + 1 := ⟨k - 1, by omega⟩
    have hlt : i < l.length := by omega
    simp only [selvageref01_Read.l0, tx_size, tx_bt]
    rw [if_pos (by omega), if_pos (by omega), next_i i _ hlt hn, ih k (i + 1) (by omega) (by omega) (by omega) (fun _ _ _ => trivial), drop_cons l i hlt]
    generalize hc : l.getD i 0 = c
    simp only [List.all_cons]
    rw [show k + 1 - (d + 1) - 1 = k - d - 1 by omega]
    by_cases c1 : (c.toNat : Int) < 48
    · have : isDig c = false := by simp [isDig]; omega
      rw [if_pos c1]
      simp [this]
    · rw [if_neg c1]
      by_cases c2 : (c.toNat : Int) > 57
      · have : isDig c = false := by simp [isDig]; omega
        rw [if_pos c2]
        simp [this]
      · have : isDig c = true := by simp [isDig]; omega
        rw [if_neg c2]
        simp [this]

/-- What the halves say of the digits that are read. -/
structure Half (l : List UInt8) (i hi lo : Nat) : Prop where
  v : V 0 (l.take i) = hi * P10 (i - (l.length - 9)) + lo
  lo_lt : lo < P10 (i - (l.length - 9))
  hi_lt : hi < P10 (i - (i - (l.length - 9)))

theorem pow_le_10 {n : Nat} (h : n ≤ 10) : P10 n ≤ 10000000000 := P10_mono (n := 10) h
theorem pow_le_9 {n : Nat} (h : n ≤ 9) : P10 n ≤ 1000000000 := P10_mono (n := 9) h

theorem half_e0 {n i : Nat} (h : ((n - i : Nat) : Int) > 9) : i - (n - 9) = 0 := by omega
theorem half_e1 {n i : Nat} (h : ((n - i : Nat) : Int) > 9) : i + 1 - (n - 9) = 0 := by omega
theorem half_e2 {n i : Nat} (h : ¬ ((n - i : Nat) : Int) > 9) (_ : i < n) : i + 1 - (n - 9) = (i - (n - 9)) + 1 := by omega
theorem half_e3 {a i : Nat} : i + 1 - (a + 1) = i - a := by omega
theorem half_v (hi lo c : Nat) (h : lo < P10 0) : 10 * (hi * P10 0 + lo) + c = (10 * hi + c) * P10 0 + lo := by
  have e : P10 0 = 1 := rfl
  rw [e] at h ⊢
  omega
theorem half_w (hi lo c n : Nat) : 10 * (hi * P10 n + lo) + c = hi * P10 (n + 1) + (10 * lo + c) := by
  have e : hi * P10 (n + 1) = 10 * (hi * P10 n) := by
    show hi * (10 * P10 n) = 10 * (hi * P10 n)
    rw [← Nat.mul_assoc, Nat.mul_comm hi 10, Nat.mul_assoc]
  rw [e]
  omega
theorem half_lt {x c n : Nat} (h : x < P10 n) (hc : c ≤ 9) : 10 * x + c < P10 (n + 1) := by
  show 10 * x + c < 10 * P10 n
  omega
def fin (s l : List UInt8) : Int × Int :=
  if 4611686018427387904 < V 0 l ∨ (V 0 l = 4611686018427387904 ∧ l.length = s.length) then (0, 13) else (if l.length < s.length then -(V 0 l : Int) else (V 0 l : Int), 0)

theorem refRead_halves (s l : List UInt8) (hn : l.length ≤ 19) (hs : l.length ≤ s.length) (hall : l.all isDig = true) (d : Nat) : ∀ (k i hi lo : Nat), i ≤ l.length → l.length - i = d → d + 1 < k → Half l i hi lo →
    selvageref01_Read.l1 k (tx s) (tx l) (hi : Int) (lo : Int) (i : Int) = some (fin s l) := by
  induction d with
  | zero =>
    intro k i hi lo h1 h2 hk H
    obtain ⟨k, rfl⟩ : ∃ m, k = m + 2 := ⟨k - 2, by omega⟩
    obtain rfl : i = l.length := by omega
    have hlo : lo < 1000000000 := Nat.lt_of_lt_of_le H.lo_lt (pow_le_9 (by omega))
    have hhi : hi < 10000000000 := Nat.lt_of_lt_of_le H.hi_lt (pow_le_10 (by omega))
    have hv : V 0 l = hi * 1000000000 + lo := by
      have e := H.v
      rw [List.take_of_length_le (Nat.le_refl _)] at e
      by_cases h9 : 9 ≤ l.length
      · rw [show l.length - (l.length - 9) = 9 by omega] at e
        exact e
      · have h0 := H.hi_lt
        rw [show l.length - (l.length - (l.length - 9)) = 0 by omega] at h0
        have : hi = 0 := by simp only [P10] at h0; omega
        subst this
        simpa using e
    have hj : ∀ c : Bool, (c = false → hi ≤ 4611686018 ∧ V 0 l ≤ 4611686018427387904) → selvageref01_Read.j5 (k + 1) (tx s) (tx l) (hi : Int) (lo : Int) c = some (if c = true then (0, 13) else (if l.length < s.length then -(V 0 l : Int) else (V 0 l : Int), 0)) := by
      intro c hc
      simp only [selvageref01_Read.j5, tx_size]
      cases c
      · obtain ⟨q1, q2⟩ := hc rfl
        have hw : wrap64 (wrap64 ((hi : Int) * 1000000000) + (lo : Int)) = (V 0 l : Int) := by rw [hv]; exact wfin hi lo q1 hlo
        have hneg := wneg (V 0 l) q2
        rw [hw, hneg]
        by_cases hl : l.length < s.length
        · have : (l.length : Int) < (s.length : Int) := by omega
          simp [hl, this]
        · have : ¬ (l.length : Int) < (s.length : Int) := by omega
          simp [hl, this]
      · simp
    have hf : ∀ c : Bool, (c = true ↔ (4611686018427387904 < V 0 l ∨ (V 0 l = 4611686018427387904 ∧ l.length = s.length))) → some (if c = true then ((0, 13) : Int × Int) else (if l.length < s.length then -(V 0 l : Int) else (V 0 l : Int), 0)) = some (fin s l) := by
      intro c hc
      unfold fin
      simp only [hc]
    simp only [selvageref01_Read.l1, tx_size]
    rw [if_neg (by omega)]
    by_cases c1 : (hi : Int) > 4611686018
    · rw [if_pos c1, hj true (by simp), hf]
      simp only [true_iff]
      exact .inl (by omega)
    · rw [if_neg c1]
      by_cases c2 : (hi : Int) = 4611686018
      · rw [if_pos c2]
        by_cases c3 : (lo : Int) > 427387904
        · rw [if_pos c3, hj true (by simp), hf]
          simp only [true_iff]
          exact .inl (by omega)
        · rw [if_neg c3]
          by_cases c4 : (lo : Int) = 427387904
          · rw [if_pos c4, hj _ (fun _ => ⟨by omega, by omega⟩), hf]
            rw [beq_iff_eq]
            constructor
            · intro h; exact .inr ⟨by omega, by omega⟩
            · rintro (h | ⟨_, h⟩)
              · omega
              · omega
          · rw [if_neg c4, hj false (fun _ => ⟨by omega, by omega⟩), hf]
            simp
            omega
      · rw [if_neg c2, hj false (fun _ => ⟨by omega, by omega⟩), hf]
        simp
        omega
  | succ d ih =>
    intro k i hi lo h1 h2 hk H
    obtain ⟨k, rfl⟩ : ∃ m, k = m + 1 := ⟨k - 1, by omega⟩
    have hlt : i < l.length := by omega
    simp only [selvageref01_Read.l1, tx_size, tx_bt]
    have hdig : isDig (l.getD i 0) = true := by
      have := List.all_eq_true.1 hall (l[i]) (List.getElem_mem hlt)
      simpa [List.getD, List.getElem?_eq_getElem hlt] using this
    have ets := take_snoc l i hlt
    generalize hc : l.getD i 0 = c at *
    have hb : 48 ≤ c.toNat ∧ c.toNat ≤ 57 := by simpa [isDig] using hdig
    have ec : ((c.toNat : Int) - 48) % 256 = ((c.toNat - 48 : Nat) : Int) := by omega
    have hlo : lo < 1000000000 := Nat.lt_of_lt_of_le H.lo_lt (pow_le_9 (by omega))
    have hhi : hi < 10000000000 := Nat.lt_of_lt_of_le H.hi_lt (pow_le_10 (by omega))
    have hwl := wlen l.length i (by omega) hlt
    have hc9 : c.toNat - 48 ≤ 9 := by omega
    have hi' : (i : Int) < (l.length : Int) := by omega
    have hi0 : (0 : Int) ≤ (i : Int) := by omega
    have hi1 : i + 1 ≤ l.length := hlt
    have hi2 : l.length - (i + 1) = d := by omega
    have hk1 : d + 1 < k := by omega
    rw [if_pos hi', hwl, ec, next_i i _ hlt (by omega)]
    have hv := H.v
    by_cases h9 : ((l.length - i : Nat) : Int) > 9
    · rw [if_pos h9, if_pos hi0, w10 hi (c.toNat - 48) hhi hc9]
      have e0 : i - (l.length - 9) = 0 := half_e0 h9
      have e1 : i + 1 - (l.length - 9) = 0 := half_e1 h9
      have hl0 := H.lo_lt
      have hh0 := H.hi_lt
      rw [e0] at hv hl0 hh0
      have g1 : V 0 (l.take (i + 1)) = (10 * hi + (c.toNat - 48)) * P10 (i + 1 - (l.length - 9)) + lo := by
        rw [ets, V_snoc, hv, e1]
        exact half_v hi lo _ hl0
      have g2 : lo < P10 (i + 1 - (l.length - 9)) := by rw [e1]; exact hl0
      have g3 : 10 * hi + (c.toNat - 48) < P10 (i + 1 - (i + 1 - (l.length - 9))) := by
        rw [e1, Nat.sub_zero]
        rw [Nat.sub_zero] at hh0
        exact half_lt hh0 hc9
      exact ih k (i + 1) _ _ hi1 hi2 hk1 ⟨g1, g2, g3⟩
    · rw [if_neg h9, if_pos hi0, w10 lo (c.toNat - 48) (Nat.lt_trans hlo (by decide)) hc9]
      have e1 : i + 1 - (l.length - 9) = (i - (l.length - 9)) + 1 := half_e2 h9 hlt
      have e2 : i + 1 - ((i - (l.length - 9)) + 1) = i - (i - (l.length - 9)) := half_e3
      have hl0 := H.lo_lt
      have hh0 := H.hi_lt
      have g1 : V 0 (l.take (i + 1)) = hi * P10 (i + 1 - (l.length - 9)) + (10 * lo + (c.toNat - 48)) := by
        rw [ets, V_snoc, hv, e1]
        exact half_w hi lo _ _
      have g2 : 10 * lo + (c.toNat - 48) < P10 (i + 1 - (l.length - 9)) := by rw [e1]; exact half_lt hl0 hc9
      have g3 : hi < P10 (i + 1 - (i + 1 - (l.length - 9))) := by rw [e1, e2]; exact hh0
      exact ih k (i + 1) _ _ hi1 hi2 hk1 ⟨g1, g2, g3⟩

theorem refRead_j1 (s l : List UInt8) (hn : l.length ≤ 60) (hs : l.length ≤ s.length) (hsl : l = s ∨ (s.getD 0 0 = 45 ∧ l.length < s.length)) (k : Nat) (hk : 130 < k) :
    selvageref01_Read.j1 k (tx s) (tx l) = some (rdD (decide (l.length < s.length)) l) := by
  obtain ⟨k, rfl⟩ : ∃ m, k = m + 2 := ⟨k - 2, by omega⟩
  have h0 : bt (tx l) 0 = (((l.getD 0 0).toNat : Nat) : Int) := tx_bt l 0
  have h2 : ∀ c : Bool, (c = false → l.length > 19 → l.all isDig = true → 4611686018427387904 < V 0 l) → selvageref01_Read.j2 (k + 1) (tx s) (tx l) c = some (if c = true ∨ l.all isDig = false then (0, 1) else fin s l) := by
    intro c hc
    simp only [selvageref01_Read.j2]
    cases c
    · have := refRead_dig (tx s) l hn l.length k 0 (by omega) (by omega) (by omega) (fun _ _ _ => trivial)
      rw [show ((0 : Nat) : Int) = 0 from rfl] at this
      rw [if_neg (by decide), this, List.drop_zero]
      cases hall : l.all isDig
      · simp
      · by_cases h19 : (l.length : Int) > 19
        · have := hc rfl (by omega) hall
          simp only [if_pos h19, if_true]
          unfold fin
          rw [if_neg (by simp), if_pos (.inl this)]
        · simp only [if_neg h19, if_true]
          have := refRead_halves s l (by omega) hs hall l.length (k - l.length - 1) 0 0 0 (by omega) (by omega) (by omega) ⟨by rw [List.take_zero, V_nil]; simp, by simp [P10], by simp [P10]⟩
          rw [show ((0 : Nat) : Int) = 0 from rfl] at this
          rw [this]
          simp
    · simp
  have hfin : fin s l = if 4611686018427387904 < V 0 l ∨ (V 0 l = 4611686018427387904 ∧ decide (l.length < s.length) = false) then (0, 13) else (if decide (l.length < s.length) = true then -(V 0 l : Int) else (V 0 l : Int), 0) := by
    unfold fin
    have e : (l.length = s.length) = (decide (l.length < s.length) = false) := by
      apply propext; simp; omega
    simp only [e, decide_eq_true_eq]
  simp only [selvageref01_Read.j1, tx_size, tx_list, h0]
  unfold rdD
  cases l with
  | nil =>
    rw [h2 true (by simp)]
    simp
  | cons c r =>
    have e0 : (c :: r).getD 0 0 = c := rfl
    have p1 : ¬ ((c :: r).length : Int) = 0 := by rw [List.length_cons]; omega
    have p2 : (0 : Int) < ((c :: r).length : Int) := by rw [List.length_cons]; omega
    rw [e0, if_neg p1, if_pos p2]
    simp only [byte_eq48]
    have rest : ∀ b : Bool, (if b = true ∨ (c :: r).all isDig = false then ((0, 1) : Int × Int) else fin s (c :: r)) = if b = true then (0, 1) else if (c :: r).all isDig = false then (0, 1) else fin s (c :: r) := by
      intro b; cases b <;> simp
    have hne : ¬ (c :: r) = [] := by simp
    by_cases hc : c = 48
    · rw [if_pos hc]
      have hq : (s != [48]) = decide (1 < (c :: r).length ∨ decide ((c :: r).length < s.length) = true) := by
        rcases hsl with e | ⟨e, e'⟩
        · subst e
          subst hc
          cases r with
          | nil => rfl
          | cons x y => simp
        · have h1 : (s != [48]) = true := by
            rw [bne_iff_ne]; intro h; subst h; simp at e
          have h3 : (1 < (c :: r).length ∨ decide ((c :: r).length < s.length) = true) := .inr (decide_eq_true e')
          rw [h1, decide_eq_true h3]
      rw [hq]
      by_cases hx : 1 < (c :: r).length ∨ decide ((c :: r).length < s.length) = true
      · rw [decide_eq_true hx, h2 true (by simp), if_pos (.inl rfl), if_pos (.inr ⟨hc, hx⟩)]
      · have hno : ¬ ((c :: r) = [] ∨ (c = 48 ∧ (1 < (c :: r).length ∨ decide ((c :: r).length < s.length) = true))) := fun h => h.elim hne (fun h => hx h.2)
        rw [decide_eq_false hx, h2 false (fun _ h => absurd (.inl (by omega)) hx), rest, if_neg (by decide : ¬ (false = true)), hfin, if_neg hno]
    · have hno : ¬ ((c :: r) = [] ∨ (c = 48 ∧ (1 < (c :: r).length ∨ decide ((c :: r).length < s.length) = true))) := fun h => h.elim hne (fun h => hc h.1)
      have hbig : false = false → (c :: r).length > 19 → (c :: r).all isDig = true → 4611686018427387904 < V 0 (c :: r) := by
        intro _ hlen hall
        have hdig : isDig c = true := by simp at hall; exact hall.1
        have hb : 48 ≤ c.toNat ∧ c.toNat ≤ 57 := by simpa [isDig] using hdig
        have hne : c.toNat ≠ 48 := fun h => hc (UInt8.toNat_inj.1 h)
        have h1 : 1 ≤ 10 * 0 + (c.toNat - 48) := by omega
        have hlen' : 19 ≤ r.length := by rw [List.length_cons] at hlen; omega
        have hV := V_ge r (10 * 0 + (c.toNat - 48))
        have hp : P10 19 ≤ P10 r.length := P10_mono hlen'
        have h3 : P10 r.length ≤ (10 * 0 + (c.toNat - 48)) * P10 r.length := Nat.le_mul_of_pos_left _ h1
        have h10 : P10 19 = 10000000000000000000 := rfl
        have hall' := Nat.le_trans hp (Nat.le_trans h3 hV)
        rw [h10] at hall'
        rw [V_cons]
        exact Nat.lt_of_lt_of_le (by decide) hall'
      rw [if_neg hc, h2 false hbig, rest, if_neg (by decide : ¬ (false = true)), hfin, if_neg hno]

theorem refRead_eq (l : List UInt8) (hn : l.length ≤ 60) (k : Nat) (hk : 131 < k) : selvageref01_Read.f k (tx l) = some (rd l) := by
  obtain ⟨k, rfl⟩ : ∃ m, k = m + 1 := ⟨k - 1, by omega⟩
  have h0 : bt (tx l) 0 = (((l.getD 0 0).toNat : Nat) : Int) := tx_bt l 0
  unfold selvageref01_Read.f
  simp only [selvageref01_Read.j0, tx_size, tx_drop, h0]
  unfold rd
  cases l with
  | nil =>
    have := refRead_j1 [] [] (by simp) (by simp) (.inl rfl) k (by omega)
    simp [this]
  | cons c r =>
    have e0 : (c :: r).getD 0 0 = c := rfl
    have p1 : ((c :: r).length : Int) > 0 := by rw [List.length_cons]; omega
    have p2 : (0 : Int) < ((c :: r).length : Int) := p1
    have p3 : (1 : Int) ≤ ((c :: r).length : Int) := p1
    rw [e0, if_pos p1, if_pos p2, if_pos p3, byte_beq45]
    by_cases h : c = 45
    · have := refRead_j1 (c :: r) r (by simp at hn; omega) (by simp) (.inr ⟨h, by simp⟩) k (by omega)
      rw [if_pos (decide_eq_true h), if_pos h]
      have hd : (c :: r).drop 1 = r := rfl
      rw [hd, this, decide_eq_true (by simp)]
    · have := refRead_j1 (c :: r) (c :: r) hn (Nat.le_refl _) (.inl rfl) k (by omega)
      rw [decide_eq_false h, if_neg (by decide : ¬ (false = true)), if_neg h, this, decide_eq_false (by simp)]
end Go.Proofs.Ytdbolkckbgacoaa.Ints
