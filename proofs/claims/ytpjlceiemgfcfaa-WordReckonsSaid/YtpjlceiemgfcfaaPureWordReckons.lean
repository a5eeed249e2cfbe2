/- WordReckons: for any two words, with signs or without, High, Quotient and Rest answer as the document's do: the printed law answers true; no condition but that the arguments are of their kinds. -/
import Derived.Test.YtpjlceiemgfcfaaRkHigh
import Derived.Test.YtpjlceiemgfcfaaMth
namespace Go.Proofs.Ytpjlceiemgfcfaa.Pure
open Go.RowKit Go.Proofs.Ytpjlceiemgfcfaa.PWordReckons Go.Proofs.YtpjlceiemgfcfaaW.PrintWords Go.Proofs.YtpjlceiemgfcfaaW.PrintLast
open Go.Proofs.Ytpjlceiemgfcfaa

/-- The chapter's examples. -/
theorem awake_true : curtilagelaw01_awake.f 200 = some true := by kernel_rfl

/-- A product's upper half. -/
theorem word_high_eq (k : Nat) (a b : Int) (f s : Bool) (ha0 : 0 ≤ a) (ha1 : a < 18446744073709551616) (hb0 : 0 ≤ b) (hb1 : b < 18446744073709551616) :
    word_High.f (k + 1) a b f s = some (Mth.hi a b f s) := by
  have hp := Mth.hi0 a b ha0 ha1 hb0 hb1
  have na := Mth.neg_iff ha0 ha1
  have nb := Mth.neg_iff hb0 hb1
  unfold word_High.f bits_Mul64.f
  rw [Mth.mul_core a b ha0 ha1 hb0 hb1]
  unfold Mth.hi
  simp only [Option.bind_some, word_High.j0, decide_eq_true_eq, na, nb, Mth.wrap_u64]
  generalize a * b / 18446744073709551616 = x at *
  clear na nb
  by_cases ca : 9223372036854775808 ≤ a <;> by_cases cb : 9223372036854775808 ≤ b <;> cases f <;> cases s <;>
    simp only [ca, cb, Bool.false_eq_true, false_and, true_and, if_true, if_false, Option.some.injEq] <;> omega

theorem word_size_eq (a : Int) (ha0 : 0 ≤ a) (ha1 : a < 18446744073709551616) : word_size.f a = some (Mth.sz a) := by
  have na := Mth.neg_iff ha0 ha1
  unfold word_size.f Mth.sz
  simp only [na, Mth.wrap_u64]
  by_cases ca : 9223372036854775808 ≤ a
  · rw [if_pos ca, if_pos ca, show -a % 18446744073709551616 = 18446744073709551616 - a by omega]
  · rw [if_neg ca, if_neg ca]
/-- A quotient. -/
theorem word_quot_eq (a b : Int) (s : Bool) (ha0 : 0 ≤ a) (ha1 : a < 18446744073709551616) (hb0 : 0 ≤ b) (hb1 : b < 18446744073709551616) : word_Quotient.f a b s = some (Mth.quo a b s) := by
  have na := Mth.neg_iff ha0 ha1
  have nb := Mth.neg_iff hb0 hb1
  have sa := Mth.sz_in ha0 ha1
  have sb := Mth.sz_in hb0 hb1
  unfold word_Quotient.f Mth.quo
  rw [word_size_eq a ha0 ha1, word_size_eq b hb0 hb1]
  simp only [Option.bind_some, na, nb]
  by_cases hb : b = 0
  · rw [if_pos hb, if_pos hb]
  rw [if_neg hb, if_neg hb]
  have hq := Mth.div_in sa.1 (sb.2.2 hb)
  cases s
  · have hq2 := Mth.div_in ha0 (show 0 < b by omega)
    rw [if_neg (by decide), if_neg (by decide), Int.tdiv_eq_ediv_of_nonneg ha0, Mth.wrap_u64, Int.emod_eq_of_lt hq2.1 (by omega)]
  · rw [if_pos rfl, if_pos rfl, if_neg (by omega), Int.tdiv_eq_ediv_of_nonneg sa.1]
    rw [show IntKind.u64.wrap (Mth.sz a / Mth.sz b) = Mth.sz a / Mth.sz b by rw [Mth.wrap_u64, Int.emod_eq_of_lt hq.1 (by omega)], Mth.wrap_u64]
    split <;> rfl
/-- What is left. -/
theorem word_rest_eq (a b : Int) (s : Bool) (ha0 : 0 ≤ a) (ha1 : a < 18446744073709551616) (hb0 : 0 ≤ b) (hb1 : b < 18446744073709551616) : word_Rest.f a b s = some (Mth.rst a b s) := by
  have na := Mth.neg_iff ha0 ha1
  have sa := Mth.sz_in ha0 ha1
  have sb := Mth.sz_in hb0 hb1
  unfold word_Rest.f Mth.rst
  rw [word_size_eq a ha0 ha1, word_size_eq b hb0 hb1]
  simp only [Option.bind_some, na]
  by_cases hb : b = 0
  · rw [if_pos hb, if_pos hb]
  rw [if_neg hb, if_neg hb]
  cases s
  · rw [if_neg (by decide), if_neg (by decide), Int.tmod_eq_emod_of_nonneg ha0]
  · have := sb.2.2 hb
    rw [if_pos rfl, if_pos rfl, if_neg (by omega), Int.tmod_eq_emod_of_nonneg sa.1, Mth.wrap_u64]
    split <;> rfl

/-- The document's bit. -/
theorem ref_bit (w i : Nat) (hw : w < 2 ^ 64) (hi : i ≤ 64) : curtilageref01_bit.f (w : Int) (i : Int) = some ((w.testBit i).toNat : Int) := by
  unfold curtilageref01_bit.f
  rw [if_pos (by omega), Mth.bit_core w i hw hi]

theorem ref_add_two {ah al bh bl y z : Int} (t : Mth.Two ah al y) (u : Mth.Two bh bl z) : ∃ h l, curtilageref01_add.f ah al bh bl = some (h, l) ∧ Mth.Two h l (y + z) := by
  unfold curtilageref01_add.f
  by_cases c : IntKind.u64.wrap (al + bl) < al
  · rw [if_pos c]
    exact ⟨_, _, rfl, Mth.two_add t u c⟩
  · rw [if_neg c]
    exact ⟨_, _, rfl, Mth.two_add0 t u c⟩
theorem ref_high_end (k : Nat) (b : Int) (s : Bool) (h l ah al : Int) : curtilageref01_High.l0 (k + 1) b s h l ah al 64 = some h := by
  simp only [curtilageref01_High.l0]
  rw [if_neg (by decide)]
theorem bit63 (b : Nat) (hb : b < 2 ^ 64) : b.testBit 63 = decide (9223372036854775808 ≤ (b : Int)) := by
  rw [Nat.testBit_eq_decide_div_mod_eq]
  congr 1
  rw [eq_iff_iff]
  omega
theorem ref_high_l (b : Nat) (hb : b < 2 ^ 64) (s : Bool) (X : Int) (d : Nat) : ∀ (k i : Nat) (h l ah al : Int), i + d = 63 → 2 * d + 4 < k → Mth.Two h l (X * ((b % 2 ^ i : Nat) : Int)) → Mth.Two ah al (X * ((2 ^ i : Nat) : Int)) →
    ∃ r l', curtilageref01_High.l0 k (b : Int) s h l ah al (i : Int) = some r ∧ Mth.Two r l' (X * ((b : Int) - if s = true ∧ 9223372036854775808 ≤ (b : Int) then 18446744073709551616 else 0)) := by
  induction d with
  | zero =>
    intro k i h l ah al hd hk t u
    obtain rfl : i = 63 := by omega
    obtain ⟨k, rfl⟩ : ∃ n, k = n + 1 + 1 + 1 := ⟨k - 3, by omega⟩
    have h63 := bit63 b hb
    rw [curtilageref01_High.l0]
    rw [if_pos (by omega), ref_bit b 63 hb (by omega)]
    simp only [Option.bind_some]
    have hw : wrap64 (((63 : Nat) : Int) + 1) = 64 := by unfold wrap64; omega
    rw [hw]
    by_cases c : 9223372036854775808 ≤ (b : Int)
    · rw [h63, decide_eq_true c, if_pos (show ((true.toNat : Nat) : Int) = 1 from rfl), if_pos (show ((63 : Nat) : Int) = 63 from rfl), curtilageref01_High.j3]
      cases s
      · rw [if_neg (by decide)]
        obtain ⟨r, l', e, tr⟩ := ref_add_two t u
        rw [e]
        simp only [Option.bind_some]
        rw [hw, ref_high_end]
        refine ⟨r, l', rfl, Mth.two_to tr ?_⟩
        rw [if_neg (by simp), ← Int.mul_add]
        congr 1
        omega
      · rw [if_pos rfl]
        obtain ⟨x, y, e1, t1⟩ := ref_add_two (Mth.two_turn u) Mth.two_one
        rw [e1]
        simp only [Option.bind_some]
        obtain ⟨r, l', e, tr⟩ := ref_add_two t t1
        rw [e]
        simp only [Option.bind_some]
        rw [hw, ref_high_end]
        refine ⟨r, l', rfl, Mth.two_to tr ?_⟩
        rw [if_pos (by simp [c])]
        have e2 : X * ((b % 2 ^ 63 : Nat) : Int) + (-(X * ((2 ^ 63 : Nat) : Int)) - 1 + 1) = X * (((b % 2 ^ 63 : Nat) : Int) - ((2 ^ 63 : Nat) : Int)) := by grind
        rw [e2]
        congr 1
        omega
    · rw [h63, decide_eq_false c, if_neg (by decide), ref_high_end]
      refine ⟨h, l, rfl, Mth.two_to t ?_⟩
      rw [if_neg (by simp [c])]
      congr 1
      omega
  | succ d ih =>
    intro k i h l ah al hd hk t u
    obtain ⟨k, rfl⟩ : ∃ n, k = n + 1 + 1 := ⟨k - 2, by omega⟩
    have e2 : (2 : Nat) ^ (i + 1) = 2 * 2 ^ i := Nat.pow_succ'
    have e3 : b % 2 ^ (i + 1) = b % 2 ^ i + 2 ^ i * (b.testBit i).toNat := by
      rw [Nat.mod_pow_succ, Nat.testBit_eq_decide_div_mod_eq]
      congr 2
      generalize b / 2 ^ i = x
      have h3 : x % 2 = 0 ∨ x % 2 = 1 := by omega
      rcases h3 with h | h <;> simp [h]
    have u' := Mth.two_to (Mth.two_shift u) (show 2 * (X * ((2 ^ i : Nat) : Int)) = X * ((2 ^ (i + 1) : Nat) : Int) by rw [e2]; grind)
    rw [curtilageref01_High.l0]
    rw [if_pos (by omega), ref_bit b i hb (by omega)]
    simp only [Option.bind_some]
    have hw : wrap64 ((i : Int) + 1) = ((i + 1 : Nat) : Int) := by unfold wrap64; omega
    rw [hw]
    cases c : b.testBit i
    · rw [if_neg (by decide)]
      have e4 : b % 2 ^ (i + 1) = b % 2 ^ i := by rw [e3, c]; simp
      rw [← e4] at t
      exact ih (k + 1) (i + 1) _ _ _ _ (by omega) (by omega) t u'
    · rw [if_pos (show ((true.toNat : Nat) : Int) = 1 from rfl), if_neg (by omega), curtilageref01_High.j3, if_neg (by decide)]
      obtain ⟨h', l', e, tr⟩ := ref_add_two t u
      rw [e]
      simp only [Option.bind_some]
      rw [hw]
      rw [c, Bool.toNat_true, Nat.mul_one] at e3
      have tr' := Mth.two_to tr (show X * ((b % 2 ^ i : Nat) : Int) + X * ((2 ^ i : Nat) : Int) = X * ((b % 2 ^ (i + 1) : Nat) : Int) by rw [e3, ← Int.mul_add, ← Int.natCast_add])
      exact ih k (i + 1) _ _ _ _ (by omega) (by omega) tr' u'
/-- The document's upper half. -/
theorem ref_high_eq (k a b : Nat) (f s : Bool) (ha : a < 2 ^ 64) (hb : b < 2 ^ 64) (hk : 140 < k) : curtilageref01_High.f k (a : Int) (b : Int) f s = some (Mth.hi a b f s) := by
  obtain ⟨k, rfl⟩ : ∃ n, k = n + 1 + 1 := ⟨k - 2, by omega⟩
  have key : ∀ ah : Int, Mth.Two ah (a : Int) ((a : Int) - if f = true ∧ 9223372036854775808 ≤ (a : Int) then 18446744073709551616 else 0) → curtilageref01_High.l0 k (b : Int) s 0 0 ah (a : Int) 0 = some (Mth.hi a b f s) := by
    intro ah u
    obtain ⟨r, l', e, t⟩ := ref_high_l b hb s ((a : Int) - if f = true ∧ 9223372036854775808 ≤ (a : Int) then 18446744073709551616 else 0) 63 k 0 0 0 ah (a : Int) (by omega) (by omega)
      (Mth.two_to (show Mth.Two 0 0 0 from ⟨by decide, by decide, by decide, by decide, 0, by decide⟩) (by simp [Nat.mod_one])) (Mth.two_to u (by simp))
    rw [show ((0 : Nat) : Int) = 0 from rfl] at e
    rw [e, Mth.hi_of_two a b f s r l' t]
  have h63 := bit63 a ha
  have plain : ∀ y, y = (a : Int) → Mth.Two 0 (a : Int) y := fun y h => by subst h; exact ⟨by decide, by decide, by omega, by omega, 0, by omega⟩
  unfold curtilageref01_High.f
  cases f
  · rw [if_neg (by decide), curtilageref01_High.j0, if_neg (by decide), curtilageref01_High.j1]
    exact key 0 (plain _ (by simp))
  · rw [if_pos rfl, show (63 : Int) = ((63 : Nat) : Int) from rfl, ref_bit a 63 ha (by omega)]
    simp only [Option.bind_some]
    rw [h63, curtilageref01_High.j0]
    by_cases c : 9223372036854775808 ≤ (a : Int)
    · rw [decide_eq_true c, if_pos (by decide), curtilageref01_High.j1]
      refine key _ ⟨by decide, by decide, by omega, by omega, 1, ?_⟩
      rw [if_pos ⟨rfl, c⟩]
      omega
    · rw [decide_eq_false c, if_neg (by decide), curtilageref01_High.j1]
      exact key 0 (plain _ (by simp [c]))

theorem ref_divide_l (a b : Nat) (ha : a < 2 ^ 64) (hb0 : 0 < b) (hb : b < 2 ^ 64) (n : Nat) : ∀ (k Q r : Nat), n ≤ 64 → n < k → a / 2 ^ n = Q * b + r → r < b →
    curtilageref01_divide.l0 k (a : Int) (b : Int) ((Q * 2 ^ n : Nat) : Int) (r : Int) ((n : Int) - 1) = some (((a / b : Nat) : Int), ((a % b : Nat) : Int)) := by
  induction n with
  | zero =>
    intro k Q r hn hk h hr
    obtain ⟨k, rfl⟩ : ∃ n, k = n + 1 := ⟨k - 1, by omega⟩
    rw [Nat.pow_zero, Nat.div_one] at h
    have e1 : a / b = Q := by rw [h, Nat.mul_comm, Nat.mul_add_div hb0, Nat.div_eq_of_lt hr, Nat.add_zero]
    have e2 : a % b = r := by rw [h, Nat.mul_comm, Nat.mul_add_mod, Nat.mod_eq_of_lt hr]
    rw [curtilageref01_divide.l0, if_neg (by omega), e1, e2, Nat.pow_zero, Nat.mul_one]
  | succ n ih =>
    intro k Q r hn hk h hr
    obtain ⟨k, rfl⟩ : ∃ n, k = n + 1 := ⟨k - 1, by omega⟩
    have hbit : a / 2 ^ n = 2 * (a / 2 ^ (n + 1)) + (a.testBit n).toNat := by
      rw [Nat.pow_succ, ← Nat.div_div_eq_div_mul, Nat.testBit_eq_decide_div_mod_eq]
      generalize a / 2 ^ n = x
      have h3 : x % 2 = 0 ∨ x % 2 = 1 := by omega
      rcases h3 with h | h <;> simp [h] <;> omega
    have hQ : Q * 2 ^ (n + 1) < 2 ^ 64 := by
      have h1 : Q ≤ a / 2 ^ (n + 1) := by rw [h]; exact Nat.le_trans (Nat.le_mul_of_pos_right Q hb0) (Nat.le_add_right _ _)
      exact Nat.lt_of_le_of_lt (Nat.mul_le_mul_right _ h1) (Nat.lt_of_le_of_lt (Nat.div_mul_le_self _ _) ha)
    have hp : (2 : Nat) ^ n < 2 ^ 64 := Nat.pow_lt_pow_right (by decide) (by omega)
    have e2 : Q * 2 ^ (n + 1) = 2 * Q * 2 ^ n := by rw [Nat.pow_succ]; grind
    have hor : Go.bits .or .u64 ((Q * 2 ^ (n + 1) : Nat) : Int) (shl .u64 1 (n : Int)) = (((2 * Q + 1) * 2 ^ n : Nat) : Int) := by
      have h1 := Mth.shl_nat 1 n (by omega)
      rw [show ((1 : Nat) : Int) = 1 from rfl, Nat.one_mul, Nat.mod_eq_of_lt hp] at h1
      rw [h1, Mth.or_nat _ _ hQ hp, Mth.or_low Q (2 ^ n) (n + 1) (Nat.pow_lt_pow_right (by decide) (by omega)), e2, Nat.add_mul, Nat.one_mul]
    have ht : (a.testBit n).toNat < 2 := by cases a.testBit n <;> decide
    rw [h] at hbit
    generalize hB : (a.testBit n).toNat = t at *
    have hr1 : Go.bits .or .u64 (IntKind.u64.wrap ((r : Int) * 2)) (t : Int) = (r : Int) * 2 % 18446744073709551616 + (t : Int) := by
      rw [Mth.wrap_u64, Mth.or_one _ _ (by omega) (by omega) (by omega) (by omega) (by omega)]
    have hsum : 2 * (Q * b + r) = 2 * Q * b + 2 * r := by rw [Nat.mul_add, Nat.mul_assoc]
    rw [hsum] at hbit
    have more : (2 * Q + 1) * b = 2 * Q * b + b := by rw [Nat.add_mul, Nat.one_mul]
    have hbt := ref_bit a n ha (by omega)
    rw [hB] at hbt
    rw [curtilageref01_divide.l0, show ((n + 1 : Nat) : Int) - 1 = (n : Int) by omega, if_pos (by omega), hbt]
    simp only [Option.bind_some]
    rw [hr1, show wrap64 ((n : Int) - 1) = (n : Int) - 1 by unfold wrap64; omega, hor, Mth.wrap_u64]
    by_cases c : (r : Int) / 9223372036854775808 = 1
    · rw [if_pos c, if_pos (by omega), show ((r : Int) * 2 % 18446744073709551616 + (t : Int) - (b : Int)) % 18446744073709551616 = ((2 * r + t - b : Nat) : Int) by omega]
      exact ih k (2 * Q + 1) (2 * r + t - b) (by omega) (by omega) (by omega) (by omega)
    · rw [if_neg c]
      by_cases c2 : (r : Int) * 2 % 18446744073709551616 + (t : Int) ≥ (b : Int)
      · rw [if_pos c2, if_pos (by omega), show ((r : Int) * 2 % 18446744073709551616 + (t : Int) - (b : Int)) % 18446744073709551616 = ((2 * r + t - b : Nat) : Int) by omega]
        exact ih k (2 * Q + 1) (2 * r + t - b) (by omega) (by omega) (by omega) (by omega)
      · rw [if_neg c2, e2, show (r : Int) * 2 % 18446744073709551616 + (t : Int) = ((2 * r + t : Nat) : Int) by omega]
        exact ih k (2 * Q) (2 * r + t) (by omega) (by omega) (by omega) (by omega)
/-- The document's long division. -/
theorem ref_divide_eq (k : Nat) (a b : Int) (ha0 : 0 ≤ a) (ha1 : a < 18446744073709551616) (hb0 : 0 < b) (hb1 : b < 18446744073709551616) (hk : 64 < k) : curtilageref01_divide.f k a b = some (a / b, a % b) := by
  obtain ⟨a, rfl, ha⟩ := Mth.to_nat ha0 ha1
  obtain ⟨b, rfl, hb⟩ := Mth.to_nat (show 0 ≤ b by omega) hb1
  have h := ref_divide_l a b ha (by omega) hb 64 k 0 0 (by omega) (by omega) (by rw [Nat.div_eq_of_lt ha]; simp) (by omega)
  unfold curtilageref01_divide.f
  rw [Nat.zero_mul, show ((0 : Nat) : Int) = 0 from rfl, show ((64 : Nat) : Int) - 1 = 63 from rfl] at h
  rw [h, Int.natCast_ediv, Int.natCast_emod]
/-- The document's quotient and rest. -/
theorem ref_both_eq (k : Nat) (a b : Int) (s : Bool) (ha0 : 0 ≤ a) (ha1 : a < 18446744073709551616) (hb0 : 0 ≤ b) (hb1 : b < 18446744073709551616) (hk : 70 < k) : curtilageref01_both.f k a b s = some (Mth.quo a b s, Mth.rst a b s) := by
  obtain ⟨k, rfl⟩ : ∃ n, k = n + 1 + 1 + 1 + 1 + 1 := ⟨k - 5, by omega⟩
  have sa := Mth.sz_in ha0 ha1
  have sb := Mth.sz_in hb0 hb1
  unfold curtilageref01_both.f Mth.quo Mth.rst
  by_cases hb : b = 0
  · rw [if_pos hb, if_pos hb, if_pos hb]
  rw [if_neg hb, if_neg hb, if_neg hb]
  have hB := sb.2.2 hb
  cases s
  · have hd := ref_divide_eq (k + 1) a b ha0 ha1 (by omega) hb1 (by omega)
    rw [if_neg (by decide), if_neg (by decide), if_neg (by decide), curtilageref01_both.j0, if_neg (by decide), curtilageref01_both.j1, if_neg (by decide), curtilageref01_both.j2, if_neg (by decide), curtilageref01_both.j3,
      hd]
    simp only [Option.bind_some]
    rw [if_neg (by decide), curtilageref01_both.j4, if_neg (by decide), if_neg (by decide)]
  · have hx : (if decide (a ≥ 9223372036854775808) = true then IntKind.u64.wrap (-a) else a) = Mth.sz a := by
      unfold Mth.sz
      rw [Mth.wrap_u64]
      by_cases c : 9223372036854775808 ≤ a
      · rw [if_pos (decide_eq_true c), if_pos c]; omega
      · rw [if_neg (by simp only [decide_eq_true_eq]; omega), if_neg c]
    have hy : (if decide (b ≥ 9223372036854775808) = true then IntKind.u64.wrap (-b) else b) = Mth.sz b := by
      unfold Mth.sz
      rw [Mth.wrap_u64]
      by_cases c : 9223372036854775808 ≤ b
      · rw [if_pos (decide_eq_true c), if_pos c]; omega
      · rw [if_neg (by simp only [decide_eq_true_eq]; omega), if_neg c]
    have j3 : ∀ x y : Int, x = Mth.sz a → y = Mth.sz b → curtilageref01_both.j3 (k + 1 + 1) a b true x y =
        some (if (decide (9223372036854775808 ≤ a) != decide (9223372036854775808 ≤ b)) = true then (-(Mth.sz a / Mth.sz b)) % 18446744073709551616 else Mth.sz a / Mth.sz b, if 9223372036854775808 ≤ a then (-(Mth.sz a % Mth.sz b)) % 18446744073709551616 else Mth.sz a % Mth.sz b) := by
      intro x y ex ey
      subst ex ey
      have hd := ref_divide_eq (k + 1) _ _ sa.1 (by omega) hB (by omega) (by omega)
      rw [curtilageref01_both.j3, hd]
      simp only [Option.bind_some, if_true, curtilageref01_low.f, ge_iff_le]
      rw [curtilageref01_both.j4]
      simp only [if_true, curtilageref01_low.f, ge_iff_le, Option.bind_some, Mth.wrap_u64, decide_eq_true_eq]
      by_cases c1 : (decide (9223372036854775808 ≤ a) != decide (9223372036854775808 ≤ b)) = true <;> by_cases c2 : 9223372036854775808 ≤ a
      · rw [if_pos c1, if_pos c2, if_pos c1, if_pos c2]
      · rw [if_pos c1, if_neg c2, if_pos c1, if_neg c2]
      · rw [if_neg c1, if_pos c2, if_neg c1, if_pos c2]
      · rw [if_neg c1, if_neg c2, if_neg c1, if_neg c2]
    rw [if_pos rfl, if_pos rfl, if_pos rfl]
    simp only [curtilageref01_low.f, Option.bind_some]
    rw [curtilageref01_both.j0]
    by_cases ca : decide (a ≥ 9223372036854775808) = true
    · rw [if_pos ca] at hx
      rw [if_pos ca, curtilageref01_both.j1, if_pos rfl]
      simp only [curtilageref01_low.f, Option.bind_some]
      rw [curtilageref01_both.j2]
      by_cases cb : decide (b ≥ 9223372036854775808) = true
      · rw [if_pos cb] at hy
        rw [if_pos cb]
        exact j3 _ _ hx hy
      · rw [if_neg cb] at hy
        rw [if_neg cb]
        exact j3 _ _ hx hy
    · rw [if_neg ca] at hx
      rw [if_neg ca, curtilageref01_both.j1, if_pos rfl]
      simp only [curtilageref01_low.f, Option.bind_some]
      rw [curtilageref01_both.j2]
      by_cases cb : decide (b ≥ 9223372036854775808) = true
      · rw [if_pos cb] at hy
        rw [if_pos cb]
        exact j3 _ _ hx hy
      · rw [if_neg cb] at hy
        rw [if_neg cb]
        exact j3 _ _ hx hy

/-- The law. -/
theorem WordReckons : curtilagelaw01_WordReckons.Pure := by
  intro a0 b0 f s h0 h1
  have ba := Mth.wf_u64 h0
  have bb := Mth.wf_u64 h1
  obtain ⟨a, rfl, ha⟩ := Mth.to_nat ba.1 ba.2
  obtain ⟨b, rfl, hb⟩ := Mth.to_nat bb.1 bb.2
  refine ⟨200, ?_⟩
  unfold curtilagelaw01_WordReckons.f curtilageref01_Quotient.f curtilageref01_Rest.f
  rw [awake_true, word_high_eq 199 a b f s ba.1 ba.2 bb.1 bb.2, word_quot_eq a b f ba.1 ba.2 bb.1 bb.2, word_rest_eq a b f ba.1 ba.2 bb.1 bb.2, ref_high_eq 200 a b f s ha hb (by omega), ref_both_eq 200 a b f ba.1 ba.2 bb.1 bb.2 (by omega)]
  simp

end Go.Proofs.Ytpjlceiemgfcfaa.Pure
