/- WordBits: for any word and two numbers, Bits, Sign and Fits answer as the document's do: the printed law answers true; no condition but that the arguments are of their kinds. -/
import Derived.Test.YtpjlceiemgfcfaaPWordBitsx3
import Derived.Test.YtpjlceiemgfcfaaMth
namespace Go.Proofs.Ytpjlceiemgfcfaa.Pure
open Go.RowKit Go.Proofs.Ytpjlceiemgfcfaa.PWordBits Go.Proofs.YtpjlceiemgfcfaaW.PrintWords Go.Proofs.YtpjlceiemgfcfaaW.PrintLast
open Go.Proofs.Ytpjlceiemgfcfaa

/-- The chapter's examples. -/
theorem awake_true : curtilagelaw01_awake.f 200 = some true := by kernel_rfl

/-- Bits of a word, inside the bounds. -/
theorem word_bits_in (w f m : Nat) (hf : f ≤ 63) (hm : 1 ≤ m) (hfm : f + m ≤ 64) : word_Bits.f (w : Int) (f : Int) (m : Int) = some ((w / 2 ^ f % 2 ^ m : Nat) : Int) := by
  unfold word_Bits.f
  rw [if_neg (by omega), if_neg (by omega), if_neg (by omega), if_neg (by unfold wrap64; omega), if_pos (by unfold wrap64; omega), if_pos (by unfold wrap64; omega), Mth.bits_core w f m hfm hf hm]

/-- A word of fewer bits with a sign, inside the bounds. -/
theorem word_sign_in (w m : Nat) (hm1 : 1 ≤ m) (hm : m ≤ 64) : word_Sign.f (w : Int) (m : Int) = some ((Mth.signN w m : Nat) : Int) := by
  unfold word_Sign.f
  rw [if_neg (by omega), if_neg (by omega), if_pos (by unfold wrap64; omega), Mth.sign_core w m hm1 hm]
/-- Whether a word, as a number with a sign, has so few bits. -/
theorem word_fits_in (w m : Nat) (hw : w < 2 ^ 64) (hm1 : 1 ≤ m) (hm : m ≤ 64) : word_Fits.f (wrap64 (w : Int)) (m : Int) = some (decide (Mth.signN w m = w)) := by
  unfold word_Fits.f
  rw [if_pos (by omega), if_pos (by omega), Mth.back_u64 (by omega) (by omega), word_sign_in w m hm1 hm]
  simp only [Option.bind_some, Option.some.injEq]
  rw [Bool.eq_iff_iff]
  simp only [beq_iff_eq, decide_eq_true_eq]
  omega

/-- The document's bit. -/
theorem ref_bit (w i : Nat) (hw : w < 2 ^ 64) (hi : i ≤ 64) : curtilageref01_bit.f (w : Int) (i : Int) = some ((w.testBit i).toNat : Int) := by
  unfold curtilageref01_bit.f
  rw [if_pos (by omega), Mth.bit_core w i hw hi]

theorem ref_bits_l (w f m : Nat) (hw : w < 2 ^ 64) (hfm : f + m ≤ 64) (d : Nat) : ∀ (k i : Nat), i + d = m → d < k →
    curtilageref01_Bits.l0 k (w : Int) (f : Int) (m : Int) (Mth.acc (fun j => w.testBit (f + j)) i : Int) (i : Int) = some (Mth.acc (fun j => w.testBit (f + j)) m : Int) := by
  induction d with
  | zero =>
    intro k i hd hk
    obtain ⟨k, rfl⟩ : ∃ n, k = n + 1 := ⟨k - 1, by omega⟩
    simp only [curtilageref01_Bits.l0]
    rw [if_neg (by omega), show i = m by omega]
  | succ d ih =>
    intro k i hd hk
    obtain ⟨k, rfl⟩ : ∃ n, k = n + 1 := ⟨k - 1, by omega⟩
    simp only [curtilageref01_Bits.l0]
    rw [if_pos (by omega), show wrap64 ((f : Int) + (i : Int)) = ((f + i : Nat) : Int) by unfold wrap64; omega, ref_bit w (f + i) hw (by omega)]
    simp only [Option.bind_some]
    rw [if_pos (by omega), Mth.acc_step (fun j => w.testBit (f + j)) i (by omega), show wrap64 ((i : Int) + 1) = ((i + 1 : Nat) : Int) by unfold wrap64; omega]
    exact ih k (i + 1) (by omega) (by omega)
/-- The document's bits of a word, inside the bounds. -/
theorem ref_bits_in (k w f m : Nat) (hw : w < 2 ^ 64) (hf : f ≤ 63) (hm : 1 ≤ m) (hfm : f + m ≤ 64) (hk : 66 < k) : curtilageref01_Bits.f k (w : Int) (f : Int) (m : Int) = some ((w / 2 ^ f % 2 ^ m : Nat) : Int) := by
  obtain ⟨k, rfl⟩ : ∃ n, k = n + 1 := ⟨k - 1, by omega⟩
  unfold curtilageref01_Bits.f
  rw [if_neg (by omega), if_neg (by omega), if_neg (by omega)]
  simp only [curtilageref01_Bits.j0, decide_eq_true_eq]
  rw [if_neg (by unfold wrap64; omega)]
  have h := ref_bits_l w f m hw hfm m k 0 (by omega) (by omega)
  rw [Mth.acc_bits w f m] at h
  exact h

/-- Outside of the bounds both tell 0. -/
theorem bits_both (w : Nat) (hw : w < 2 ^ 64) (f m : Int) (hf0 : -9223372036854775808 ≤ f) (hf1 : f < 9223372036854775808) (hm0 : -9223372036854775808 ≤ m) (hm1 : m < 9223372036854775808) :
    ∃ r, word_Bits.f (w : Int) f m = some r ∧ curtilageref01_Bits.f 200 (w : Int) f m = some r := by
  by_cases h1 : f < 0
  · refine ⟨0, ?_, ?_⟩
    · unfold word_Bits.f; rw [if_pos h1]
    · unfold curtilageref01_Bits.f; rw [if_pos h1]; simp only [curtilageref01_Bits.j0, if_true]
  by_cases h2 : f > 63
  · refine ⟨0, ?_, ?_⟩
    · unfold word_Bits.f; rw [if_neg h1, if_pos h2]
    · unfold curtilageref01_Bits.f; rw [if_neg h1, if_pos h2]; simp only [curtilageref01_Bits.j0, if_true]
  by_cases h3 : m < 1
  · refine ⟨0, ?_, ?_⟩
    · unfold word_Bits.f; rw [if_neg h1, if_neg h2, if_pos h3]
    · unfold curtilageref01_Bits.f; rw [if_neg h1, if_neg h2, if_pos h3]; simp only [curtilageref01_Bits.j0, if_true]
  by_cases h4 : m > wrap64 (64 - f)
  · refine ⟨0, ?_, ?_⟩
    · unfold word_Bits.f; rw [if_neg h1, if_neg h2, if_neg h3, if_pos h4]
    · unfold curtilageref01_Bits.f; rw [if_neg h1, if_neg h2, if_neg h3]; simp only [curtilageref01_Bits.j0, decide_eq_true h4, if_true]
  have h5 : wrap64 (64 - f) = 64 - f := Mth.wrap64_in (by omega) (by omega)
  obtain ⟨f, rfl⟩ := Int.eq_ofNat_of_zero_le (show 0 ≤ f by omega)
  obtain ⟨m, rfl⟩ := Int.eq_ofNat_of_zero_le (show 0 ≤ m by omega)
  exact ⟨_, word_bits_in w f m (by omega) (by omega) (by omega), ref_bits_in 200 w f m hw (by omega) (by omega) (by omega) (by omega)⟩

theorem ref_sign_l (w m : Nat) (hw : w < 2 ^ 64) (hm1 : 1 ≤ m) (hm : m ≤ 64) (d : Nat) : ∀ (k i : Nat), i + d = 64 → d < k →
    curtilageref01_Sign.l0 k (w : Int) (m : Int) (Mth.acc (fun j => w.testBit (min j (m - 1))) i : Int) (i : Int) = some (Mth.acc (fun j => w.testBit (min j (m - 1))) 64 : Int) := by
  induction d with
  | zero =>
    intro k i hd hk
    obtain ⟨k, rfl⟩ : ∃ n, k = n + 1 := ⟨k - 1, by omega⟩
    simp only [curtilageref01_Sign.l0]
    rw [if_neg (by omega), show i = 64 by omega]
  | succ d ih =>
    intro k i hd hk
    obtain ⟨k, rfl⟩ : ∃ n, k = n + 1 := ⟨k - 1, by omega⟩
    have hmn : mn (i : Int) (wrap64 ((m : Int) - 1)) = ((min i (m - 1) : Nat) : Int) := by
      rw [Mth.wrap64_in (by omega) (by omega)]; unfold mn; omega
    simp only [curtilageref01_Sign.l0]
    rw [if_pos (by omega), hmn, ref_bit w (min i (m - 1)) hw (by omega)]
    simp only [Option.bind_some]
    rw [if_pos (by omega), Mth.acc_step (fun j => w.testBit (min j (m - 1))) i (by omega), show wrap64 ((i : Int) + 1) = ((i + 1 : Nat) : Int) by unfold wrap64; omega]
    exact ih k (i + 1) (by omega) (by omega)
theorem sign_both (w : Nat) (hw : w < 2 ^ 64) (m : Int) : ∃ r, word_Sign.f (w : Int) m = some r ∧ curtilageref01_Sign.f 200 (w : Int) m = some r := by
  by_cases h1 : m < 1
  · refine ⟨0, ?_, ?_⟩
    · unfold word_Sign.f; rw [if_pos h1]
    · unfold curtilageref01_Sign.f; rw [if_pos h1]; simp only [curtilageref01_Sign.j0, if_true]
  by_cases h2 : m > 64
  · refine ⟨0, ?_, ?_⟩
    · unfold word_Sign.f; rw [if_neg h1, if_pos h2]
    · unfold curtilageref01_Sign.f; rw [if_neg h1]; simp only [curtilageref01_Sign.j0, decide_eq_true h2, if_true]
  obtain ⟨m, rfl⟩ := Int.eq_ofNat_of_zero_le (show 0 ≤ m by omega)
  refine ⟨_, word_sign_in w m (by omega) (by omega), ?_⟩
  unfold curtilageref01_Sign.f
  rw [if_neg h1]
  simp only [curtilageref01_Sign.j0, decide_eq_true_eq]
  rw [if_neg h2]
  have h := ref_sign_l w m hw (by omega) (by omega) 64 199 0 (by omega) (by omega)
  rw [Mth.acc_sign w m (by omega) (by omega)] at h
  exact h

theorem ref_fits_l (w : Nat) (hw : w < 2 ^ 64) (d : Nat) : ∀ (k i : Nat), i + d = 64 → d < k →
    ∃ b, curtilageref01_Fits.l0 k (wrap64 (w : Int)) (i : Int) = some b ∧ (b = true ↔ ∀ j, i ≤ j → j < 64 → w.testBit j = w.testBit 63) := by
  induction d with
  | zero =>
    intro k i hd hk
    obtain ⟨k, rfl⟩ : ∃ n, k = n + 1 := ⟨k - 1, by omega⟩
    refine ⟨true, ?_, by simp; omega⟩
    simp only [curtilageref01_Fits.l0]
    rw [if_neg (by omega)]
  | succ d ih =>
    intro k i hd hk
    obtain ⟨k, rfl⟩ : ∃ n, k = n + 1 := ⟨k - 1, by omega⟩
    obtain ⟨b, hb, hiff⟩ := ih k (i + 1) (by omega) (by omega)
    simp only [curtilageref01_Fits.l0]
    rw [if_pos (by omega), Mth.back_u64 (by omega) (by omega), ref_bit w i hw (by omega), show (63 : Int) = ((63 : Nat) : Int) from rfl, ref_bit w 63 hw (by omega)]
    simp only [Option.bind_some]
    rw [show wrap64 ((i : Int) + 1) = ((i + 1 : Nat) : Int) by unfold wrap64; omega, hb]
    by_cases e : w.testBit i = w.testBit 63
    · refine ⟨b, by rw [e]; exact if_pos rfl, ?_⟩
      rw [hiff]
      constructor
      · intro h j h1 h2
        by_cases hj : j = i
        · rw [hj]; exact e
        · exact h j (by omega) h2
      · intro h j h1 h2
        exact h j (by omega) h2
    · refine ⟨false, ?_, ?_⟩
      · rw [if_neg]
        intro h
        apply e
        revert h
        cases w.testBit i <;> cases w.testBit 63 <;> simp
      · simp only [Bool.false_eq_true, false_iff]
        intro h
        exact e (h i (by omega) (by omega))
theorem fits_both (w : Nat) (hw : w < 2 ^ 64) (m : Int) : ∃ r, word_Fits.f (wrap64 (w : Int)) m = some r ∧ curtilageref01_Fits.f 200 (wrap64 (w : Int)) m = some r := by
  by_cases h1 : m < 1
  · refine ⟨false, ?_, ?_⟩
    · unfold word_Fits.f; rw [if_neg (by omega)]
    · unfold curtilageref01_Fits.f; rw [if_pos h1]; simp only [curtilageref01_Fits.j0, if_true]
  by_cases h2 : m > 64
  · refine ⟨false, ?_, ?_⟩
    · unfold word_Fits.f; rw [if_pos (by omega), if_neg (by omega)]
    · unfold curtilageref01_Fits.f; rw [if_neg h1]; simp only [curtilageref01_Fits.j0, decide_eq_true h2, if_true]
  obtain ⟨m, rfl⟩ := Int.eq_ofNat_of_zero_le (show 0 ≤ m by omega)
  refine ⟨_, word_fits_in w m hw (by omega) (by omega), ?_⟩
  unfold curtilageref01_Fits.f
  rw [if_neg h1]
  simp only [curtilageref01_Fits.j0, decide_eq_true_eq]
  rw [if_neg h2, show wrap64 ((m : Int) - 1) = ((m - 1 : Nat) : Int) by unfold wrap64; omega]
  obtain ⟨b, hb, hiff⟩ := ref_fits_l w hw (64 - (m - 1)) 199 (m - 1) (by omega) (by omega)
  rw [hb]
  congr 1
  rw [Bool.eq_iff_iff, hiff, decide_eq_true_eq, Mth.fits_iff w m hw (by omega) (by omega)]

/-- The law. -/
theorem WordBits : curtilagelaw01_WordBits.Pure := by
  intro a0 a1 a2 h0 h1 h2
  obtain ⟨w, rfl, hw⟩ := Mth.to_nat (Mth.wf_u64 h0).1 (Mth.wf_u64 h0).2
  have b1 := Mth.wf_i64 h1
  have b2 := Mth.wf_i64 h2
  obtain ⟨r, hr1, hr2⟩ := bits_both w hw a1 a2 b1.1 b1.2 b2.1 b2.2
  obtain ⟨s, hs1, hs2⟩ := sign_both w hw a2
  obtain ⟨t, ht1, ht2⟩ := fits_both w hw a2
  refine ⟨200, ?_⟩
  unfold curtilagelaw01_WordBits.f
  rw [awake_true, hr1, hs1, ht1, hr2, hs2, ht2]
  simp

end Go.Proofs.Ytpjlceiemgfcfaa.Pure
