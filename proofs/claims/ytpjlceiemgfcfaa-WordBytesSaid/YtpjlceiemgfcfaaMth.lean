/- Plain laws on words of 64 bits, in the spelling of the printed functions (shifts, wraps, bitwise words): what they are as numbers; no program in sight; each under the bounds that it names. -/
import Derived.Test.YtpjlceiemgfcfaaWMore
namespace Go.Proofs.Ytpjlceiemgfcfaa.Mth
open Go.RowKit Go.Proofs.YtpjlceiemgfcfaaW.PrintWords

theorem wrap_u64 (n : Int) : IntKind.u64.wrap n = n % 18446744073709551616 := by simp [IntKind.wrap, IntKind.bits, IntKind.signed]
theorem wf_u64 {x : Int} (h : (Lit.int .u64 x).wf = true) : 0 ≤ x ∧ x < 18446744073709551616 := by
  simp [Lit.wf, IntKind.min, IntKind.max, IntKind.bits, IntKind.signed] at h; omega
theorem wf_i64 {x : Int} (h : (Lit.int .i64 x).wf = true) : -9223372036854775808 ≤ x ∧ x < 9223372036854775808 := by
  simp [Lit.wf, IntKind.min, IntKind.max, IntKind.bits, IntKind.signed] at h; omega
theorem wf_u8 {x : Int} (h : (Lit.int .u8 x).wf = true) : 0 ≤ x ∧ x < 256 := by
  simp [Lit.wf, IntKind.min, IntKind.max, IntKind.bits, IntKind.signed] at h; omega
theorem wrap64_in {x : Int} (h0 : -9223372036854775808 ≤ x) (h1 : x < 9223372036854775808) : wrap64 x = x := by
  unfold wrap64; omega
theorem neg_iff {x : Int} (h0 : 0 ≤ x) (h1 : x < 18446744073709551616) : wrap64 x < 0 ↔ 9223372036854775808 ≤ x := by
  unfold wrap64; omega
theorem back_u64 {x : Int} (h0 : 0 ≤ x) (h1 : x < 18446744073709551616) : IntKind.u64.wrap (wrap64 x) = x := by
  rw [wrap_u64]; unfold wrap64; omega
/-- A word is a number of Nat. -/
theorem to_nat {x : Int} (h0 : 0 ≤ x) (h1 : x < 18446744073709551616) : ∃ w : Nat, x = (w : Int) ∧ w < 2 ^ 64 := by
  exact ⟨x.toNat, by omega, by omega⟩

theorem shl_nat (w n : Nat) (hn : n ≤ 64) : shl .u64 (w : Int) (n : Int) = ((w * 2 ^ n % 2 ^ 64 : Nat) : Int) := by
  unfold shl
  rw [Int.toNat_natCast, show IntKind.u64.bits = 64 from rfl, Nat.min_eq_left hn, wrap_u64, Int.natCast_emod, Int.natCast_mul, Int.natCast_pow]
  rfl
theorem shr_nat (w n : Nat) (hn : n ≤ 64) : shr .u64 (w : Int) (n : Int) = ((w / 2 ^ n : Nat) : Int) := by
  unfold shr
  rw [Int.toNat_natCast, show IntKind.u64.bits = 64 from rfl, Nat.min_eq_left hn]
  norm_cast
theorem wraps_u64 (n : Int) (h₀ : 0 ≤ n) (h₁ : n < 2 ^ 64) : IntKind.u64.wrap n = n := by rw [wrap_u64]; omega
theorem or_nat (a b : Nat) (ha : a < 2 ^ 64) (hb : b < 2 ^ 64) : Go.bits .or .u64 (a : Int) (b : Int) = ((a ||| b : Nat) : Int) :=
  (bits_nat .u64 64 (by decide) wraps_u64 a b ha hb).2
theorem and_nat (a b : Nat) (ha : a < 2 ^ 64) (hb : b < 2 ^ 64) : Go.bits .and .u64 (a : Int) (b : Int) = ((a &&& b : Nat) : Int) :=
  (bits_nat .u64 64 (by decide) wraps_u64 a b ha hb).1
theorem xor_nat (a b : Nat) (ha : a < 2 ^ 64) (hb : b < 2 ^ 64) : Go.bits .xor .u64 (a : Int) (b : Int) = ((a ^^^ b : Nat) : Int) := by
  have h : a ^^^ b < 2 ^ 64 := Nat.xor_lt_two_pow ha hb
  simp only [Go.bits, show IntKind.u64.bits = 64 from rfl, BitVec.ofInt_natCast, BitVec.toNat_xor, BitVec.toNat_ofNat, Nat.mod_eq_of_lt ha, Nat.mod_eq_of_lt hb]
  exact wraps_u64 _ (by omega) (by exact_mod_cast h)

/-- Side by side, the low part first or last: their sum. -/
theorem or_low (hi lo i : Nat) (h : lo < 2 ^ i) : (hi * 2 ^ i) ||| lo = hi * 2 ^ i + lo := by
  rw [Nat.mul_comm, ← Nat.two_pow_add_eq_or_of_lt h]
theorem low_or (hi lo i : Nat) (h : lo < 2 ^ i) : lo ||| (hi * 2 ^ i) = hi * 2 ^ i + lo := by
  rw [Nat.or_comm, or_low hi lo i h]

/-- Some bits, by two shifts. -/
theorem bits_nat_core (w f m : Nat) (hfm : f + m ≤ 64) : w * 2 ^ (64 - f - m) % 2 ^ 64 / 2 ^ (64 - m) = w / 2 ^ f % 2 ^ m := by
  have e1 : (2 : Nat) ^ 64 = 2 ^ (f + m) * 2 ^ (64 - f - m) := by rw [← Nat.pow_add]; congr 1; omega
  have e2 : (2 : Nat) ^ (64 - m) = 2 ^ f * 2 ^ (64 - f - m) := by rw [← Nat.pow_add]; congr 1; omega
  rw [e1, e2, Nat.mul_mod_mul_right, Nat.mul_div_mul_right _ _ (Nat.two_pow_pos _), Nat.pow_add, Nat.mod_mul_right_div_self]
theorem bits_core (w f m : Nat) (hfm : f + m ≤ 64) (hf : f ≤ 63) (hm : 1 ≤ m) :
    shr .u64 (shl .u64 (w : Int) (wrap64 (wrap64 (64 - (f : Int)) - (m : Int)))) (wrap64 (64 - (m : Int))) = ((w / 2 ^ f % 2 ^ m : Nat) : Int) := by
  have e1 : wrap64 (wrap64 (64 - (f : Int)) - (m : Int)) = ((64 - f - m : Nat) : Int) := by unfold wrap64; omega
  have e2 : wrap64 (64 - (m : Int)) = ((64 - m : Nat) : Int) := by unfold wrap64; omega
  rw [e1, e2, shl_nat _ _ (by omega), shr_nat _ _ (by omega), bits_nat_core w f m hfm]

/-- A word of m bits with a sign, as a word of 64. -/
def signN (w m : Nat) : Nat := if w % 2 ^ m < 2 ^ (m - 1) then w % 2 ^ m else w % 2 ^ m + (2 ^ 64 - 2 ^ m)

theorem shl_low (w m : Nat) (hm : m ≤ 64) : w * 2 ^ (64 - m) % 2 ^ 64 = w % 2 ^ m * 2 ^ (64 - m) := by
  have e1 : (2 : Nat) ^ 64 = 2 ^ m * 2 ^ (64 - m) := by rw [← Nat.pow_add]; congr 1; omega
  rw [e1, Nat.mul_mod_mul_right]

theorem sign_core (w m : Nat) (hm1 : 1 ≤ m) (hm : m ≤ 64) :
    IntKind.u64.wrap (shr .i64 (wrap64 (shl .u64 (w : Int) (wrap64 (64 - (m : Int))))) (wrap64 (64 - (m : Int)))) = ((signN w m : Nat) : Int) := by
  have e2 : wrap64 (64 - (m : Int)) = ((64 - m : Nat) : Int) := by unfold wrap64; omega
  have hv : w % 2 ^ m < 2 ^ m := Nat.mod_lt _ (Nat.two_pow_pos _)
  have hp : (2 : Nat) ^ m = 2 * 2 ^ (m - 1) := by rw [← Nat.pow_succ']; congr 1; omega
  have he : (2 : Nat) ^ (m - 1) * 2 ^ (64 - m) = 9223372036854775808 := by
    rw [← Nat.pow_add, show m - 1 + (64 - m) = 63 by omega]
  have hm64 : (2 : Nat) ^ m ≤ 2 ^ 64 := Nat.pow_le_pow_right (by decide) hm
  rw [e2, shl_nat _ _ (by omega), shl_low w m hm, wrap_u64]
  unfold shr signN
  rw [Int.toNat_natCast, show IntKind.i64.bits = 64 from rfl, Nat.min_eq_left (show 64 - m ≤ 64 by omega)]
  generalize hvv : w % 2 ^ m = v at hv
  generalize hP : (2 : Nat) ^ (m - 1) = p at he hp
  generalize hE : (2 : Nat) ^ (64 - m) = e at he
  have hE' : (2 : Int) ^ (64 - m) = (e : Int) := by rw [← hE]; norm_cast
  have hepos : 0 < e := by rw [← hE]; exact Nat.two_pow_pos _
  rw [hE', hp]
  rw [hp] at hv hm64
  by_cases hlt : v < p
  · rw [if_pos hlt]
    have h1 : v * e < 9223372036854775808 := by rw [← he]; exact Nat.mul_lt_mul_of_pos_right hlt hepos
    rw [wrap64_in (by omega) (by omega)]
    rw [← Int.natCast_ediv, Nat.mul_div_cancel _ hepos]
    omega
  · rw [if_neg hlt]
    have h1 : 9223372036854775808 ≤ v * e := by rw [← he]; exact Nat.mul_le_mul_right _ (by omega)
    have h2 : v * e < 18446744073709551616 := by
      have h3 : v * e < 2 * p * e := Nat.mul_lt_mul_of_pos_right hv hepos
      have h4 : 2 * p * e = 2 * (p * e) := Nat.mul_assoc _ _ _
      omega
    have h5 : wrap64 ((v * e : Nat) : Int) = ((v : Int) - 2 * p) * e := by
      have h6 : ((v : Int) - 2 * p) * e = (v : Int) * e - 2 * (p * e) := by grind
      have h7 : ((p : Int) * e) = 9223372036854775808 := by rw [← Int.natCast_mul, he]; rfl
      rw [h6, h7]
      have h8 : ((v : Int) * e) = ((v * e : Nat) : Int) := by push_cast; rfl
      rw [h8]
      generalize v * e = x at *
      unfold wrap64
      omega
    rw [h5, Int.mul_ediv_cancel _ (by omega)]
    push_cast
    omega

theorem signN_lt (w m : Nat) (hm : m ≤ 64) : signN w m < 2 ^ 64 := by
  unfold signN
  have hv : w % 2 ^ m < 2 ^ m := Nat.mod_lt _ (Nat.two_pow_pos _)
  have hm64 : (2 : Nat) ^ m ≤ 2 ^ 64 := Nat.pow_le_pow_right (by decide) hm
  split <;> omega

/-- Its bits: below m the word's, from there on the highest of them. -/
theorem signN_bit (w m j : Nat) (hm1 : 1 ≤ m) (hm : m ≤ 64) : (signN w m).testBit j = (decide (j < 64) && w.testBit (min j (m - 1))) := by
  have hv : w % 2 ^ m < 2 ^ m := Nat.mod_lt _ (Nat.two_pow_pos _)
  have hp : (2 : Nat) ^ m = 2 * 2 ^ (m - 1) := by rw [← Nat.pow_succ']; congr 1; omega
  have htop : w.testBit (m - 1) = decide (¬ w % 2 ^ m < 2 ^ (m - 1)) := by
    have h1 : (w % 2 ^ m).testBit (m - 1) = w.testBit (m - 1) := by
      rw [Nat.testBit_mod_two_pow]; simp; omega
    rw [← h1, Nat.testBit_eq_decide_div_mod_eq]
    congr 1
    rw [eq_iff_iff]
    generalize w % 2 ^ m = v at *
    generalize (2 : Nat) ^ (m - 1) = p at *
    have hp0 : 0 < p := by omega
    constructor
    · intro h hlt
      rw [Nat.div_eq_of_lt hlt] at h
      omega
    · intro h
      have : v / p = 1 := by
        apply Nat.div_eq_of_lt_le <;> omega
      rw [this]
  unfold signN
  by_cases hlt : w % 2 ^ m < 2 ^ (m - 1)
  · rw [if_pos hlt, Nat.testBit_mod_two_pow]
    by_cases hj : j < m
    · rw [show min j (m - 1) = j by omega]; simp [hj]; omega
    · rw [show min j (m - 1) = m - 1 by omega, htop]; simp [hj, hlt]
  · rw [if_neg hlt]
    have e1 : w % 2 ^ m + (2 ^ 64 - 2 ^ m) = 2 ^ m * (2 ^ (64 - m) - 1) + w % 2 ^ m := by
      have e2 : (2 : Nat) ^ 64 = 2 ^ m * 2 ^ (64 - m) := by rw [← Nat.pow_add]; congr 1; omega
      rw [Nat.mul_sub, ← e2, Nat.mul_one, Nat.add_comm]
    rw [e1, Nat.testBit_two_pow_mul_add _ hv]
    by_cases hj : j < m
    · rw [if_pos hj, show min j (m - 1) = j by omega, Nat.testBit_mod_two_pow]; simp [hj]; omega
    · rw [if_neg hj, show min j (m - 1) = m - 1 by omega, htop, Nat.testBit_two_pow_sub_one]
      simp [hlt]; omega

/-- One of a word's bits. -/
theorem bit_core (w i : Nat) (hw : w < 2 ^ 64) (hi : i ≤ 64) : Go.bits .and .u64 (shr .u64 (w : Int) (i : Int)) 1 = ((w.testBit i).toNat : Int) := by
  have h1 : w / 2 ^ i < 2 ^ 64 := Nat.lt_of_le_of_lt (Nat.div_le_self _ _) hw
  have h2 := and_nat (w / 2 ^ i) 1 h1 (by decide)
  rw [shr_nat _ _ hi, show (1 : Int) = ((1 : Nat) : Int) from rfl, h2, Nat.and_one_is_mod, Nat.testBit_eq_decide_div_mod_eq]
  have h3 : w / 2 ^ i % 2 = 0 ∨ w / 2 ^ i % 2 = 1 := by omega
  rcases h3 with h | h <;> simp [h]

/-- The number whose bits are given, i of them. -/
def acc (g : Nat → Bool) : Nat → Nat
  | 0 => 0
  | i + 1 => acc g i + (g i).toNat * 2 ^ i
theorem acc_lt (g : Nat → Bool) (i : Nat) : acc g i < 2 ^ i := by
  induction i with
  | zero => simp [acc]
  | succ i ih =>
    simp only [acc, Nat.pow_succ]
    cases g i <;> simp only [Bool.toNat_false, Bool.toNat_true] <;> omega
theorem acc_bit (g : Nat → Bool) (i j : Nat) : (acc g i).testBit j = (decide (j < i) && g j) := by
  induction i with
  | zero => simp [acc]
  | succ i ih =>
    have e : acc g (i + 1) = 2 ^ i * (g i).toNat + acc g i := by simp only [acc]; rw [Nat.add_comm, Nat.mul_comm]
    rw [e, Nat.testBit_two_pow_mul_add _ (acc_lt g i)]
    by_cases hj : j < i
    · rw [if_pos hj, ih]; simp [hj, Nat.lt_succ_of_lt hj]
    · rw [if_neg hj]
      by_cases h2 : j = i
      · subst h2; simp only [Nat.sub_self]; cases g j <;> simp
      · obtain ⟨t, ht⟩ : ∃ t, j - i = t + 1 := ⟨j - i - 1, by omega⟩
        rw [ht, Nat.testBit_succ]
        have h0 : (g i).toNat / 2 = 0 := by cases g i <;> rfl
        rw [h0, Nat.zero_testBit]
        have : ¬ j < i + 1 := by omega
        simp [this]
theorem acc_lt64 (g : Nat → Bool) (i : Nat) (hi : i ≤ 64) : acc g i < 2 ^ 64 := Nat.lt_of_lt_of_le (acc_lt g i) (Nat.pow_le_pow_right (by decide) hi)
theorem shl_bool (b : Bool) (i : Nat) (hi : i < 64) : shl .u64 (b.toNat : Int) (i : Int) = ((b.toNat * 2 ^ i : Nat) : Int) := by
  have h : b.toNat * 2 ^ i < 2 ^ 64 := by
    have h1 : (2 : Nat) ^ i < 2 ^ 64 := Nat.pow_lt_pow_right (by decide) hi
    cases b
    · simp
    · simpa using h1
  rw [shl_nat _ _ (by omega), Nat.mod_eq_of_lt h]
theorem acc_step (g : Nat → Bool) (i : Nat) (hi : i < 64) : Go.bits .or .u64 (acc g i : Int) (shl .u64 ((g i).toNat : Int) (i : Int)) = (acc g (i + 1) : Int) := by
  have h1 := acc_lt64 g (i + 1) (by omega)
  simp only [acc] at h1
  rw [shl_bool _ _ hi, or_nat _ _ (acc_lt64 g i (by omega)) (by omega), low_or _ _ _ (acc_lt g i)]
  simp only [acc]
  rw [Nat.add_comm]
theorem acc_bits (w f m : Nat) : acc (fun j => w.testBit (f + j)) m = w / 2 ^ f % 2 ^ m := by
  apply Nat.eq_of_testBit_eq
  intro j
  rw [acc_bit, Nat.testBit_mod_two_pow, Nat.testBit_div_two_pow, Nat.add_comm f j]
theorem acc_sign (w m : Nat) (hm1 : 1 ≤ m) (hm : m ≤ 64) : acc (fun j => w.testBit (min j (m - 1))) 64 = signN w m := by
  apply Nat.eq_of_testBit_eq
  intro j
  rw [acc_bit, signN_bit w m j hm1 hm]

/-- A word has so few bits just where all of its higher ones are one. -/
theorem fits_iff (w m : Nat) (hw : w < 2 ^ 64) (hm1 : 1 ≤ m) (hm : m ≤ 64) : signN w m = w ↔ ∀ j, m - 1 ≤ j → j < 64 → w.testBit j = w.testBit 63 := by
  constructor
  · intro h
    have key : ∀ j, m - 1 ≤ j → j < 64 → w.testBit j = w.testBit (m - 1) := by
      intro j h1 h2
      have h3 := signN_bit w m j hm1 hm
      rw [h, show min j (m - 1) = m - 1 by omega] at h3
      simpa [h2] using h3
    intro j h1 h2
    rw [key j h1 h2, key 63 (by omega) (by omega)]
  · intro h
    apply Nat.eq_of_testBit_eq
    intro j
    rw [signN_bit w m j hm1 hm]
    by_cases hj : j < 64
    · by_cases hjm : j < m - 1
      · rw [show min j (m - 1) = j by omega]; simp [hj]
      · rw [show min j (m - 1) = m - 1 by omega, h (m - 1) (by omega) (by omega), h j (by omega) hj]; simp [hj]
    · have : w.testBit j = false := Nat.testBit_lt_two_pow (Nat.lt_of_lt_of_le hw (Nat.pow_le_pow_right (by decide) (by omega)))
      simp [hj, this]

/-- Go's product of 128 bits, by four products of halves: the upper word. -/
theorem mask32 (x : Int) (h0 : 0 ≤ x) (h1 : x < 18446744073709551616) : Go.bits .and .u64 x 4294967295 = x % 4294967296 :=
  bits_mask .u64 64 (by decide) wraps_u64 32 (by decide) x h0 h1
theorem prod_le {x y m n : Int} (hx0 : 0 ≤ x) (hx : x ≤ m) (hy0 : 0 ≤ y) (hy : y ≤ n) : 0 ≤ x * y ∧ x * y ≤ m * n :=
  ⟨Int.mul_nonneg hx0 hy0, Int.mul_le_mul hx hy hy0 (Int.le_trans hx0 hx)⟩
theorem mul_core (a0 a1 : Int) (ha0 : 0 ≤ a0) (ha1 : a0 < 18446744073709551616) (hb0 : 0 ≤ a1) (hb1 : a1 < 18446744073709551616) :
    IntKind.u64.wrap ((IntKind.u64.wrap ((IntKind.u64.wrap ((a0 / 4294967296) * (a1 / 4294967296))) + ((IntKind.u64.wrap ((IntKind.u64.wrap ((a0 / 4294967296) * (Go.bits .and .u64 a1 4294967295))) + ((IntKind.u64.wrap ((Go.bits .and .u64 a0 4294967295) * (Go.bits .and .u64 a1 4294967295))) / 4294967296))) / 4294967296))) + ((IntKind.u64.wrap ((Go.bits .and .u64 (IntKind.u64.wrap ((IntKind.u64.wrap ((a0 / 4294967296) * (Go.bits .and .u64 a1 4294967295))) + ((IntKind.u64.wrap ((Go.bits .and .u64 a0 4294967295) * (Go.bits .and .u64 a1 4294967295))) / 4294967296))) 4294967295) + (IntKind.u64.wrap ((Go.bits .and .u64 a0 4294967295) * (a1 / 4294967296))))) / 4294967296)) = a0 * a1 / 18446744073709551616 := by
  rw [mask32 a0 ha0 ha1, mask32 a1 hb0 hb1]
  have e0 : a0 = a0 / 4294967296 * 4294967296 + a0 % 4294967296 := by omega
  have e1 : a1 = a1 / 4294967296 * 4294967296 + a1 % 4294967296 := by omega
  have hA : 0 ≤ a0 / 4294967296 ∧ a0 / 4294967296 ≤ 4294967295 := by omega
  have ha : 0 ≤ a0 % 4294967296 ∧ a0 % 4294967296 ≤ 4294967295 := by omega
  have hB : 0 ≤ a1 / 4294967296 ∧ a1 / 4294967296 ≤ 4294967295 := by omega
  have hb : 0 ≤ a1 % 4294967296 ∧ a1 % 4294967296 ≤ 4294967295 := by omega
  have hprod : a0 * a1 = (a0 / 4294967296 * 4294967296 + a0 % 4294967296) * (a1 / 4294967296 * 4294967296 + a1 % 4294967296) := by rw [← e0, ← e1]
  rw [hprod]
  clear e0 e1 hprod
  generalize a0 / 4294967296 = A at *
  generalize a0 % 4294967296 = a at *
  generalize a1 / 4294967296 = B at *
  generalize a1 % 4294967296 = b at *
  have hAB := prod_le hA.1 hA.2 hB.1 hB.2
  have hAb := prod_le hA.1 hA.2 hb.1 hb.2
  have haB := prod_le ha.1 ha.2 hB.1 hB.2
  have hab := prod_le ha.1 ha.2 hb.1 hb.2
  have e : (A * 4294967296 + a) * (B * 4294967296 + b) = A * B * 18446744073709551616 + (A * b + a * B) * 4294967296 + a * b := by grind
  rw [e]
  clear e
  generalize A * B = p at *
  generalize A * b = q at *
  generalize a * B = r at *
  generalize a * b = s at *
  have w1 : IntKind.u64.wrap s = s := by rw [wrap_u64]; omega
  have w2 : IntKind.u64.wrap q = q := by rw [wrap_u64]; omega
  have w3 : IntKind.u64.wrap r = r := by rw [wrap_u64]; omega
  have w4 : IntKind.u64.wrap p = p := by rw [wrap_u64]; omega
  have w5 : IntKind.u64.wrap (q + s / 4294967296) = q + s / 4294967296 := by rw [wrap_u64]; omega
  rw [w1, w2, w3, w4, w5, mask32 _ (by omega) (by omega)]
  simp only [wrap_u64]
  omega

/-- The upper half of a product of two words, each with a sign or without. -/
def hi (a b : Int) (f s : Bool) : Int :=
  (a * b / 18446744073709551616 - (if f = true ∧ 9223372036854775808 ≤ a then b else 0) - (if s = true ∧ 9223372036854775808 ≤ b then a else 0)) % 18446744073709551616
theorem hi0 (a b : Int) (ha0 : 0 ≤ a) (ha1 : a < 18446744073709551616) (hb0 : 0 ≤ b) (hb1 : b < 18446744073709551616) : 0 ≤ a * b / 18446744073709551616 ∧ a * b / 18446744073709551616 < 18446744073709551616 := by
  have h := prod_le ha0 (show a ≤ 18446744073709551615 by omega) hb0 (show b ≤ 18446744073709551615 by omega)
  omega

/-- A word's lowest n bytes, the lowest first. -/
def bytes (w n : Nat) : List Int := (List.range n).map fun j => ((w / 2 ^ (8 * j) % 256 : Nat) : Int)
theorem bytes_length (w n : Nat) : (bytes w n).length = n := by simp [bytes]
theorem bytes_snoc (w n : Nat) : bytes w (n + 1) = bytes w n ++ [((w / 2 ^ (8 * n) % 256 : Nat) : Int)] := by
  simp [bytes, List.range_succ]
theorem bytes_rd (w n i : Nat) (hi : i < n) : rd (bytes w n) (i : Int) = ((w / 2 ^ (8 * i) % 256 : Nat) : Int) := by
  simp [rd, bytes, List.getD, hi]
theorem byte_core (w i : Nat) (hi : i < 8) : shr .u64 (w : Int) (wrap64 (8 * (i : Int))) % 256 = ((w / 2 ^ (8 * i) % 256 : Nat) : Int) := by
  rw [show wrap64 (8 * (i : Int)) = ((8 * i : Nat) : Int) by unfold wrap64; omega, shr_nat _ _ (by omega)]
  rfl

/-- The number of the first i bytes, the lowest first. -/
def ofN (l : List Int) : Nat → Nat
  | 0 => 0
  | i + 1 => ofN l i + (rd l (i : Int)).toNat * 2 ^ (8 * i)
theorem rd_byte {l : List Int} (h : ∀ x ∈ l, 0 ≤ x ∧ x < 256) (i : Nat) : 0 ≤ rd l (i : Int) ∧ rd l (i : Int) < 256 := by
  unfold rd
  rw [Int.toNat_natCast, List.getD_eq_getElem?_getD]
  by_cases hi : i < l.length
  · rw [List.getElem?_eq_getElem hi]
    exact h _ (List.getElem_mem hi)
  · rw [List.getElem?_eq_none (by omega)]
    simp
theorem ofN_lt {l : List Int} (h : ∀ x ∈ l, 0 ≤ x ∧ x < 256) (i : Nat) : ofN l i < 2 ^ (8 * i) := by
  induction i with
  | zero => simp [ofN]
  | succ i ih =>
    have hb := rd_byte h i
    have e : (2 : Nat) ^ (8 * (i + 1)) = 2 ^ (8 * i) * 256 := by rw [Nat.mul_succ, Nat.pow_add]
    simp only [ofN]
    rw [e]
    have hm : (rd l (i : Int)).toNat * 2 ^ (8 * i) ≤ 255 * 2 ^ (8 * i) := Nat.mul_le_mul_right _ (by omega)
    omega
theorem ofN_lt64 {l : List Int} (h : ∀ x ∈ l, 0 ≤ x ∧ x < 256) (i : Nat) (hi : i ≤ 8) : ofN l i < 2 ^ 64 :=
  Nat.lt_of_lt_of_le (ofN_lt h i) (Nat.pow_le_pow_right (by decide) (by omega))
theorem ofN_step {l : List Int} (h : ∀ x ∈ l, 0 ≤ x ∧ x < 256) (i : Nat) (hi : i < 8) :
    Go.bits .or .u64 (ofN l i : Int) (shl .u64 (IntKind.u64.wrap (rd l (i : Int))) (wrap64 (8 * (i : Int)))) = (ofN l (i + 1) : Int) := by
  have hb := rd_byte h i
  have h1 := ofN_lt64 h (i + 1) (by omega)
  have h0 := ofN_lt64 h i (by omega)
  simp only [ofN] at h1
  rw [show wrap64 (8 * (i : Int)) = ((8 * i : Nat) : Int) by unfold wrap64; omega, show IntKind.u64.wrap (rd l (i : Int)) = ((rd l (i : Int)).toNat : Int) by rw [wrap_u64]; omega, shl_nat _ _ (by omega),
    Nat.mod_eq_of_lt (by omega), or_nat _ _ h0 (by omega), low_or _ _ _ (ofN_lt h i)]
  simp only [ofN]
  rw [Nat.add_comm]
theorem ofN_sum {l : List Int} (h : ∀ x ∈ l, 0 ≤ x ∧ x < 256) (i : Nat) (hi : i < 8) :
    IntKind.u64.wrap ((ofN l i : Int) + IntKind.u64.wrap (IntKind.u64.wrap (rd l (i : Int)) * ((2 ^ (8 * i) % 2 ^ 64 : Nat) : Int))) = (ofN l (i + 1) : Int) := by
  have hb := rd_byte h i
  have h1 := ofN_lt64 h (i + 1) (by omega)
  have hp : (2 : Nat) ^ (8 * i) < 2 ^ 64 := Nat.pow_lt_pow_right (by decide) (by omega)
  simp only [ofN] at h1
  rw [show IntKind.u64.wrap (rd l (i : Int)) = ((rd l (i : Int)).toNat : Int) by rw [wrap_u64]; omega, Nat.mod_eq_of_lt hp, ← Int.natCast_mul]
  simp only [wrap_u64, ofN]
  omega
theorem times_step (i : Nat) : IntKind.u64.wrap (((2 ^ (8 * i) % 2 ^ 64 : Nat) : Int) * 256) = ((2 ^ (8 * (i + 1)) % 2 ^ 64 : Nat) : Int) := by
  have e : (2 : Nat) ^ (8 * (i + 1)) = 2 ^ (8 * i) * 256 := by rw [Nat.mul_succ, Nat.pow_add]
  rw [e, wrap_u64]
  generalize (2 : Nat) ^ (8 * i) = x
  omega
/-- A word's bytes are it again. -/
theorem ofN_bytes (w n i : Nat) (hi : i ≤ n) : ofN (bytes w n) i = w % 2 ^ (8 * i) := by
  induction i with
  | zero => simp [ofN, Nat.mod_one]
  | succ i ih =>
    have e : (2 : Nat) ^ (8 * (i + 1)) = 2 ^ (8 * i) * 256 := by rw [Nat.mul_succ, Nat.pow_add]
    simp only [ofN]
    rw [ih (by omega), bytes_rd w n i (by omega), e, Nat.mod_mul, Int.toNat_natCast, Nat.mul_comm (2 ^ (8 * i))]
theorem bytes_in (w n : Nat) : ∀ x ∈ bytes w n, 0 ≤ x ∧ x < 256 := by
  intro x hx
  simp only [bytes, List.mem_map] at hx
  obtain ⟨j, _, rfl⟩ := hx
  omega

/-- A number without its sign. -/
def sz (a : Int) : Int := if 9223372036854775808 ≤ a then 18446744073709551616 - a else a
theorem sz_in {a : Int} (h0 : 0 ≤ a) (h1 : a < 18446744073709551616) : 0 ≤ sz a ∧ sz a ≤ 9223372036854775808 ∧ (a ≠ 0 → 0 < sz a) := by
  unfold sz; split <;> omega
/-- A quotient, of numbers with signs or without; rounded toward 0. -/
def quo (a b : Int) (s : Bool) : Int :=
  if b = 0 then 18446744073709551615 else if s = true then (if (decide (9223372036854775808 ≤ a) != decide (9223372036854775808 ≤ b)) = true then (-(sz a / sz b)) % 18446744073709551616 else sz a / sz b) else a / b
/-- What is left. -/
def rst (a b : Int) (s : Bool) : Int :=
  if b = 0 then a else if s = true then (if 9223372036854775808 ≤ a then (-(sz a % sz b)) % 18446744073709551616 else sz a % sz b) else a % b
theorem div_in {A B : Int} (hA : 0 ≤ A) (_hB : 0 < B) : 0 ≤ A / B ∧ A / B ≤ A :=
  ⟨Int.ediv_nonneg hA (by omega), Int.ediv_le_self _ hA⟩
/-- A product and a rest that are a number but for what wraps round. -/
theorem whole {q b r a : Int} (q' b' r' t u v z : Int) (hq : q = q' + 18446744073709551616 * t) (hb : b = b' + 18446744073709551616 * u) (hr : r = r' + 18446744073709551616 * v) (h : q' * b' + r' = a + 18446744073709551616 * z)
    (ha0 : 0 ≤ a) (ha1 : a < 18446744073709551616) : IntKind.u64.wrap (IntKind.u64.wrap (q * b) + r) = a := by
  have e : q * b + r = a + 18446744073709551616 * (z + t * b' + q' * u + 18446744073709551616 * (t * u) + v) := by subst hq hb hr; grind
  rw [wrap_u64, wrap_u64, Int.emod_add_emod, e, Int.add_mul_emod_self_left, Int.emod_eq_of_lt ha0 ha1]
theorem whole_signed {a b : Int} (ha0 : 0 ≤ a) (ha1 : a < 18446744073709551616) (hb : b ≠ 0) : IntKind.u64.wrap (IntKind.u64.wrap (quo a b true * b) + rst a b true) = a := by
  have e := Int.mul_ediv_add_emod (sz a) (sz b)
  have m1 := Int.emod_def (-(sz a / sz b)) 18446744073709551616
  have m2 := Int.emod_def (-(sz a % sz b)) 18446744073709551616
  unfold quo rst
  rw [if_neg hb, if_neg hb, if_pos rfl, if_pos rfl]
  have sa : sz a = if 9223372036854775808 ≤ a then 18446744073709551616 - a else a := rfl
  have sb : sz b = if 9223372036854775808 ≤ b then 18446744073709551616 - b else b := rfl
  generalize sz a = A at *
  generalize sz b = B at *
  generalize A / B = Q at *
  generalize A % B = R at *
  by_cases ca : 9223372036854775808 ≤ a <;> by_cases cb : 9223372036854775808 ≤ b
  · rw [if_pos ca] at sa; rw [if_pos cb] at sb
    rw [if_neg (by simp [ca, cb]), if_pos ca]
    exact whole Q (-B) (-R) 0 1 (-(-R / 18446744073709551616)) (-1) (by omega) (by omega) (by omega) (by grind) ha0 ha1
  · rw [if_pos ca] at sa; rw [if_neg cb] at sb
    rw [if_pos (by simp [ca, cb]), if_pos ca]
    exact whole (-Q) B (-R) (-(-Q / 18446744073709551616)) 0 (-(-R / 18446744073709551616)) (-1) (by omega) (by omega) (by omega) (by grind) ha0 ha1
  · rw [if_neg ca] at sa; rw [if_pos cb] at sb
    rw [if_pos (by simp [ca, cb]), if_neg ca]
    exact whole (-Q) (-B) R (-(-Q / 18446744073709551616)) 1 0 0 (by omega) (by omega) (by omega) (by grind) ha0 ha1
  · rw [if_neg ca] at sa; rw [if_neg cb] at sb
    rw [if_neg (by simp [ca, cb]), if_neg ca]
    exact whole Q B R 0 0 0 0 (by omega) (by omega) (by omega) (by grind) ha0 ha1
theorem whole_plain {a b : Int} (ha0 : 0 ≤ a) (ha1 : a < 18446744073709551616) (hb : b ≠ 0) : IntKind.u64.wrap (IntKind.u64.wrap (quo a b false * b) + rst a b false) = a := by
  have e := Int.mul_ediv_add_emod a b
  unfold quo rst
  rw [if_neg hb, if_neg hb, if_neg (by decide), if_neg (by decide)]
  exact whole (a / b) b (a % b) 0 0 0 0 (by omega) (by omega) (by omega) (by grind) ha0 ha1

/-- All bits turned. -/
theorem turn (x : Int) (h0 : 0 ≤ x) (h1 : x < 18446744073709551616) : Go.bits .xor .u64 18446744073709551615 x = 18446744073709551615 - x := by
  obtain ⟨w, rfl, hw⟩ := to_nat h0 h1
  have e : BitVec.ofInt 64 18446744073709551615 = BitVec.allOnes 64 := by decide
  show IntKind.u64.wrap (((BitVec.ofInt 64 18446744073709551615 ^^^ BitVec.ofInt 64 (w : Int)).toNat : Nat) : Int) = _
  rw [e, BitVec.allOnes_xor, BitVec.toNat_not, BitVec.ofInt_natCast, BitVec.toNat_ofNat, Nat.mod_eq_of_lt hw, wrap_u64]
  omega
/-- A bit beside an even number. -/
theorem or_one (x y : Int) (h0 : 0 ≤ x) (h1 : x < 18446744073709551616) (h2 : x % 2 = 0) (g0 : 0 ≤ y) (g1 : y < 2) : Go.bits .or .u64 x y = x + y :=
  bits_join .u64 64 (by decide) wraps_u64 1 x y h0 h2 h1 g0 g1 (by omega)

/-- Two words as one number of 128 bits, but for what wraps round: it is y. -/
def Two (h l y : Int) : Prop := 0 ≤ h ∧ h < 18446744073709551616 ∧ 0 ≤ l ∧ l < 18446744073709551616 ∧ ∃ e, h * 18446744073709551616 + l = y + 340282366920938463463374607431768211456 * e
theorem two_shift {h l y : Int} (t : Two h l y) :
    Two (Go.bits .or .u64 (IntKind.u64.wrap (h * 2)) (l / 9223372036854775808)) (IntKind.u64.wrap (l * 2)) (2 * y) := by
  obtain ⟨h0, h1, l0, l1, e, he⟩ := t
  rw [wrap_u64, wrap_u64, or_one _ _ (by omega) (by omega) (by omega) (by omega) (by omega)]
  exact ⟨by omega, by omega, by omega, by omega, 2 * e - h * 2 / 18446744073709551616, by omega⟩
theorem two_turn {h l y : Int} (t : Two h l y) : Two (Go.bits .xor .u64 18446744073709551615 h) (Go.bits .xor .u64 18446744073709551615 l) (-y - 1) := by
  obtain ⟨h0, h1, l0, l1, e, he⟩ := t
  rw [turn h h0 h1, turn l l0 l1]
  exact ⟨by omega, by omega, by omega, by omega, 1 - e, by omega⟩
theorem two_one : Two 0 1 1 := ⟨by decide, by decide, by decide, by decide, 0, by decide⟩
theorem two_add {ah al bh bl y z : Int} (t : Two ah al y) (u : Two bh bl z) (c : IntKind.u64.wrap (al + bl) < al) :
    Two (IntKind.u64.wrap (IntKind.u64.wrap (ah + bh) + 1)) (IntKind.u64.wrap (al + bl)) (y + z) := by
  obtain ⟨h0, h1, l0, l1, e, he⟩ := t
  obtain ⟨g0, g1, m0, m1, e', he'⟩ := u
  simp only [wrap_u64] at c ⊢
  exact ⟨by omega, by omega, by omega, by omega, e + e' - (ah + bh + 1) / 18446744073709551616, by omega⟩
theorem two_add0 {ah al bh bl y z : Int} (t : Two ah al y) (u : Two bh bl z) (c : ¬ IntKind.u64.wrap (al + bl) < al) :
    Two (IntKind.u64.wrap (ah + bh)) (IntKind.u64.wrap (al + bl)) (y + z) := by
  obtain ⟨h0, h1, l0, l1, e, he⟩ := t
  obtain ⟨g0, g1, m0, m1, e', he'⟩ := u
  simp only [wrap_u64] at c ⊢
  exact ⟨by omega, by omega, by omega, by omega, e + e' - (ah + bh) / 18446744073709551616, by omega⟩
theorem two_to {h l y z : Int} (t : Two h l y) (e : y = z) : Two h l z := e ▸ t
theorem two_of {h l y z e : Int} (t : Two h l y) (he : y = z + 340282366920938463463374607431768211456 * e) : Two h l z := by
  obtain ⟨h0, h1, l0, l1, e', he'⟩ := t
  exact ⟨h0, h1, l0, l1, e + e', by omega⟩

/-- The upper half of what was added up is the product's. -/
theorem hi_of_two (a b : Int) (f s : Bool) (r l : Int)
    (t : Two r l ((a - if f = true ∧ 9223372036854775808 ≤ a then 18446744073709551616 else 0) * (b - if s = true ∧ 9223372036854775808 ≤ b then 18446744073709551616 else 0))) : r = hi a b f s := by
  obtain ⟨h0, h1, l0, l1, e, he⟩ := t
  unfold hi
  by_cases ca : f = true ∧ 9223372036854775808 ≤ a <;> by_cases cb : s = true ∧ 9223372036854775808 ≤ b
  · rw [if_pos ca, if_pos cb] at he ⊢
    have e1 : (a - 18446744073709551616) * (b - 18446744073709551616) = a * b - 18446744073709551616 * a - 18446744073709551616 * b + 340282366920938463463374607431768211456 := by grind
    rw [e1] at he
    generalize a * b = x at *
    clear e1 ca cb
    omega
  · rw [if_pos ca, if_neg cb] at he ⊢
    have e1 : (a - 18446744073709551616) * (b - 0) = a * b - 18446744073709551616 * b := by grind
    rw [e1] at he
    generalize a * b = x at *
    clear e1 ca cb
    omega
  · rw [if_neg ca, if_pos cb] at he ⊢
    have e1 : (a - 0) * (b - 18446744073709551616) = a * b - 18446744073709551616 * a := by grind
    rw [e1] at he
    generalize a * b = x at *
    clear e1 ca cb
    omega
  · rw [if_neg ca, if_neg cb] at he ⊢
    have e1 : (a - 0) * (b - 0) = a * b := by grind
    rw [e1] at he
    generalize a * b = x at *
    clear e1 ca cb
    omega

end Go.Proofs.Ytpjlceiemgfcfaa.Mth
