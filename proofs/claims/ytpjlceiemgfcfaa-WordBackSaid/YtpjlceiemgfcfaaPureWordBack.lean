/- WordBack: for any word and number, a word's eight bytes are the word again, and so are its low and high bits: the printed law answers true; no condition but that the arguments are of their kinds. -/
import Derived.Test.YtpjlceiemgfcfaaPWordBackx2
import Derived.Test.YtpjlceiemgfcfaaMth
namespace Go.Proofs.Ytpjlceiemgfcfaa.Pure
open Go.RowKit Go.Proofs.Ytpjlceiemgfcfaa.PWordBack Go.Proofs.YtpjlceiemgfcfaaW.PrintWords Go.Proofs.YtpjlceiemgfcfaaW.PrintLast
open Go.Proofs.Ytpjlceiemgfcfaa

/-- The chapter's examples. -/
theorem awake_true : curtilagelaw01_awake.f 200 = some true := by kernel_rfl

/-- Bits of a word, inside the bounds. -/
theorem word_bits_in (w f m : Nat) (hf : f ≤ 63) (hm : 1 ≤ m) (hfm : f + m ≤ 64) : word_Bits.f (w : Int) (f : Int) (m : Int) = some ((w / 2 ^ f % 2 ^ m : Nat) : Int) := by
  unfold word_Bits.f
  rw [if_neg (by omega), if_neg (by omega), if_neg (by omega), if_neg (by unfold wrap64; omega), if_pos (by unfold wrap64; omega), if_pos (by unfold wrap64; omega), Mth.bits_core w f m hfm hf hm]

/-- A word of fewer bits with a sign, inside the bounds. -/
theorem word_sign_in (w m : Nat) (hm1 : 1 ≤ m) (hm : m ≤ 64) : word_Sign.f (w : Int) (m : Int) = some ((Mth.signN w m : Nat) : Int) := by
  unfold word_Sign.f
  rw [if_neg (by omega), if_neg (by omega), if_pos (by unfold wrap64; omega), Mth.sign_core w m hm1 hm]
/-- Whether a word, as a number with a sign, has so few bits. -/
theorem word_fits_in (w m : Nat) (hw : w < 2 ^ 64) (hm1 : 1 ≤ m) (hm : m ≤ 64) : word_Fits.f (wrap64 (w : Int)) (m : Int) = some (decide (Mth.signN w m = w)) := by
  unfold word_Fits.f
  rw [if_pos (by omega), if_pos (by omega), Mth.back_u64 (by omega) (by omega), word_sign_in w m hm1 hm]
  simp only [Option.bind_some, Option.some.injEq]
  rw [Bool.eq_iff_iff]
  simp only [beq_iff_eq, decide_eq_true_eq]
  omega

theorem word_little_l (w n : Nat) (hn : n ≤ 8) (d : Nat) : ∀ (k i : Nat), i + d = n → d < k → word_Little.l0 k (w : Int) (Mth.bytes w i) (n : Int) (i : Int) = some (Mth.bytes w n) := by
  induction d with
  | zero =>
    intro k i hd hk
    obtain ⟨k, rfl⟩ : ∃ n, k = n + 1 := ⟨k - 1, by omega⟩
    simp only [word_Little.l0]
    rw [if_neg (by omega), show i = n by omega]
  | succ d ih =>
    intro k i hd hk
    obtain ⟨k, rfl⟩ : ∃ n, k = n + 1 := ⟨k - 1, by omega⟩
    have hl := Mth.bytes_length w i
    simp only [word_Little.l0]
    rw [if_pos (by omega), if_pos (by unfold wrap64; omega), if_pos (by omega), Mth.byte_core w i (by omega), ← Mth.bytes_snoc, show wrap64 ((i : Int) + 1) = ((i + 1 : Nat) : Int) by unfold wrap64; omega]
    exact ih k (i + 1) (by omega) (by omega)
/-- A word's bytes, inside the bounds. -/
theorem word_little_in (k w n : Nat) (hn1 : 1 ≤ n) (hn : n ≤ 8) (hk : 10 < k) : word_Little.f k (w : Int) (n : Int) = some (Mth.bytes w n) := by
  obtain ⟨k, rfl⟩ : ∃ n, k = n + 1 := ⟨k - 1, by omega⟩
  unfold word_Little.f
  rw [if_neg (by omega)]
  simp only [word_Little.j0, decide_eq_true_eq]
  rw [if_neg (by omega)]
  exact word_little_l w n hn n k 0 (by omega) (by omega)

theorem word_of_l (l : List Int) (h : ∀ x ∈ l, 0 ≤ x ∧ x < 256) (n : Nat) (hn : n ≤ 8) (hl : n ≤ l.length) (d : Nat) : ∀ (k i : Nat), i + d = n → d < k → word_Of.l0 k l (Mth.ofN l i : Int) (n : Int) (i : Int) = some (Mth.ofN l n : Int) := by
  induction d with
  | zero =>
    intro k i hd hk
    obtain ⟨k, rfl⟩ : ∃ n, k = n + 1 := ⟨k - 1, by omega⟩
    simp only [word_Of.l0]
    rw [if_neg (by omega), show i = n by omega]
  | succ d ih =>
    intro k i hd hk
    obtain ⟨k, rfl⟩ : ∃ n, k = n + 1 := ⟨k - 1, by omega⟩
    simp only [word_Of.l0]
    rw [if_pos (by omega), if_pos (by omega), if_pos (by omega), if_pos (by unfold wrap64; omega), Mth.ofN_step h i (by omega), show wrap64 ((i : Int) + 1) = ((i + 1 : Nat) : Int) by unfold wrap64; omega]
    exact ih k (i + 1) (by omega) (by omega)
/-- The word of bytes. -/
theorem word_of_eq (k : Nat) (l : List Int) (h : ∀ x ∈ l, 0 ≤ x ∧ x < 256) (hk : 10 < k) : word_Of.f k l = some (Mth.ofN l (min l.length 8) : Int) := by
  unfold word_Of.f
  rw [show mn (l.length : Int) 8 = ((min l.length 8 : Nat) : Int) by unfold mn; omega]
  exact word_of_l l h (min l.length 8) (by omega) (by omega) (min l.length 8) k 0 (by omega) (by omega)

/-- The high bits and the low ones, side by side. -/
theorem high_low (w n : Nat) (hw : w < 2 ^ 64) (hn1 : 1 ≤ n) (hn : n ≤ 63) :
    Go.bits .or .u64 (shl .u64 ((w / 2 ^ n % 2 ^ (64 - n) : Nat) : Int) (n : Int)) ((w / 2 ^ 0 % 2 ^ n : Nat) : Int) = (w : Int) := by
  have e1 : (2 : Nat) ^ 64 = 2 ^ (64 - n) * 2 ^ n := by rw [← Nat.pow_add]; congr 1; omega
  have h1 : w / 2 ^ n < 2 ^ (64 - n) := by
    rw [Nat.div_lt_iff_lt_mul (Nat.two_pow_pos _), ← e1]; exact hw
  have h2 : w / 2 ^ n * 2 ^ n < 2 ^ 64 := Nat.lt_of_le_of_lt (Nat.div_mul_le_self _ _) hw
  have h3 : w % 2 ^ n < 2 ^ n := Nat.mod_lt _ (Nat.two_pow_pos _)
  have h4 : (2 : Nat) ^ n ≤ 2 ^ 64 := Nat.pow_le_pow_right (by decide) (by omega)
  rw [Nat.mod_eq_of_lt h1, Nat.pow_zero, Nat.div_one, Mth.shl_nat _ _ (by omega), Nat.mod_eq_of_lt h2, Mth.or_nat _ _ h2 (by omega), Mth.or_low _ _ _ h3, Nat.mul_comm, Nat.div_add_mod]
/-- A number of few bits with a sign: shifted up, it is the word shifted up. -/
theorem sign_up (w n : Nat) (hn1 : 1 ≤ n) (hn : n ≤ 63) : shl .u64 ((Mth.signN (w / 2 ^ 0 % 2 ^ n) n : Nat) : Int) (wrap64 (64 - (n : Int))) = shl .u64 (w : Int) (wrap64 (64 - (n : Int))) := by
  have e : (Mth.signN (w / 2 ^ 0 % 2 ^ n) n) % 2 ^ n = w % 2 ^ n := by
    apply Nat.eq_of_testBit_eq
    intro j
    rw [Nat.testBit_mod_two_pow, Nat.testBit_mod_two_pow, Mth.signN_bit _ _ _ hn1 (by omega), Nat.pow_zero, Nat.div_one, Nat.testBit_mod_two_pow]
    by_cases hj : j < n
    · rw [show min j (n - 1) = j by omega]; simp [hj]; omega
    · simp [hj]
  rw [show wrap64 (64 - (n : Int)) = ((64 - n : Nat) : Int) by unfold wrap64; omega, Mth.shl_nat _ _ (by omega), Mth.shl_nat _ _ (by omega), Mth.shl_low _ _ (by omega), Mth.shl_low _ _ (by omega), e]
/-- It has so few bits. -/
theorem sign_fits (w n : Nat) (hn1 : 1 ≤ n) (hn : n ≤ 64) : Mth.signN (Mth.signN w n) n = Mth.signN w n := by
  apply Nat.eq_of_testBit_eq
  intro j
  rw [Mth.signN_bit _ _ _ hn1 hn, Mth.signN_bit _ _ _ hn1 hn, Mth.signN_bit _ _ _ hn1 hn, show min (min j (n - 1)) (n - 1) = min j (n - 1) by omega]
  have h : min j (n - 1) < 64 := by omega
  simp [h]

/-- The law. -/
theorem WordBack : curtilagelaw01_WordBack.Pure := by
  intro a0 n h0 h1
  obtain ⟨w, rfl, hw⟩ := Mth.to_nat (Mth.wf_u64 h0).1 (Mth.wf_u64 h0).2
  have b1 := Mth.wf_i64 h1
  refine ⟨200, ?_⟩
  unfold curtilagelaw01_WordBack.f
  have hL := word_little_in 200 w 8 (by omega) (by omega) (by omega)
  have hO : word_Of.f 200 (Mth.bytes w 8) = some (w : Int) := by
    rw [word_of_eq 200 _ (Mth.bytes_in w 8) (by omega), Mth.bytes_length, Mth.ofN_bytes w 8 _ (by omega), Nat.mod_eq_of_lt (by simpa using hw)]
  rw [awake_true, show (8 : Int) = ((8 : Nat) : Int) from rfl, hL]
  simp only [Option.bind_some]
  rw [hO]
  simp only [Option.bind_some]
  by_cases c1 : n < 1
  · rw [if_pos c1]; simp [curtilagelaw01_WordBack.j0]
  rw [if_neg c1]
  by_cases c2 : n > 63
  · simp [curtilagelaw01_WordBack.j0, c2]
  simp only [curtilagelaw01_WordBack.j0, decide_eq_true_eq]
  rw [if_neg c2]
  obtain ⟨n, rfl⟩ := Int.eq_ofNat_of_zero_le (show 0 ≤ n by omega)
  have e1 := word_bits_in w 0 n (by omega) (by omega) (by omega)
  have e2 := word_bits_in w n (64 - n) (by omega) (by omega) (by omega)
  have e3 : wrap64 (64 - (n : Int)) = ((64 - n : Nat) : Int) := by unfold wrap64; omega
  have e4 := word_sign_in (w / 2 ^ 0 % 2 ^ n) n (by omega) (by omega)
  have e5 := word_fits_in (Mth.signN (w / 2 ^ 0 % 2 ^ n) n) n (Mth.signN_lt _ n (by omega)) (by omega) (by omega)
  have e6 := high_low w n hw (by omega) (by omega)
  have e7 := sign_up w n (by omega) (by omega)
  rw [sign_fits _ n (by omega) (by omega), decide_eq_true rfl] at e5
  rw [show ((0 : Nat) : Int) = 0 from rfl] at e1
  rw [e1, e3, e2]
  simp only [Option.bind_some]
  rw [e4]
  simp only [Option.bind_some]
  rw [e5]
  simp only [Option.bind_some, if_true]
  rw [if_pos (by omega), e6, if_pos rfl, if_pos (by omega)]
  rw [e3] at e7
  rw [e7, if_pos rfl]

end Go.Proofs.Ytpjlceiemgfcfaa.Pure
