/- WordParts: for any word and four numbers, some bits of some bits are bits of the word, and side by side they are more of them: the printed law answers true; no condition but that the arguments are of their kinds. -/
import Derived.Test.YtpjlceiemgfcfaaPWordPartsx2
import Derived.Test.YtpjlceiemgfcfaaMth
namespace Go.Proofs.Ytpjlceiemgfcfaa.Pure
open Go.RowKit Go.Proofs.Ytpjlceiemgfcfaa.PWordParts Go.Proofs.YtpjlceiemgfcfaaW.PrintWords Go.Proofs.YtpjlceiemgfcfaaW.PrintLast
open Go.Proofs.Ytpjlceiemgfcfaa

/-- The chapter's examples. -/
theorem awake_true : curtilagelaw01_awake.f 200 = some true := by kernel_rfl

/-- Bits of a word, inside the bounds. -/
theorem word_bits_in (w f m : Nat) (hf : f ≤ 63) (hm : 1 ≤ m) (hfm : f + m ≤ 64) : word_Bits.f (w : Int) (f : Int) (m : Int) = some ((w / 2 ^ f % 2 ^ m : Nat) : Int) := by
  unfold word_Bits.f
  rw [if_neg (by omega), if_neg (by omega), if_neg (by omega), if_neg (by unfold wrap64; omega), if_pos (by unfold wrap64; omega), if_pos (by unfold wrap64; omega), Mth.bits_core w f m hfm hf hm]

/-- Side by side they are more of them. -/
theorem side_by_side (w f m n : Nat) : w / 2 ^ f % 2 ^ (m + n) = (w / 2 ^ (f + m) % 2 ^ n) * 2 ^ m + w / 2 ^ f % 2 ^ m := by
  rw [Nat.pow_add 2 m n, Nat.mod_mul, Nat.pow_add 2 f m, ← Nat.div_div_eq_div_mul, Nat.mul_comm, Nat.add_comm]

/-- The law. -/
theorem WordParts : curtilagelaw01_WordParts.Pure := by
  intro a0 f m n h0 h1 h2 h3
  obtain ⟨w, rfl, hw⟩ := Mth.to_nat (Mth.wf_u64 h0).1 (Mth.wf_u64 h0).2
  have b1 := Mth.wf_i64 h1
  have b2 := Mth.wf_i64 h2
  have b3 := Mth.wf_i64 h3
  refine ⟨200, ?_⟩
  unfold curtilagelaw01_WordParts.f
  rw [awake_true]
  simp only [Option.bind_some]
  by_cases c1 : f < 0
  · rw [if_pos c1]; simp only [curtilagelaw01_WordParts.j0, if_true]
  rw [if_neg c1]
  by_cases c2 : m < 1
  · rw [if_pos c2]; simp only [curtilagelaw01_WordParts.j0, if_true]
  rw [if_neg c2]
  by_cases c3 : n < 1
  · rw [if_pos c3]; simp only [curtilagelaw01_WordParts.j0, if_true]
  rw [if_neg c3]
  by_cases c4 : f > 63
  · rw [if_pos c4]; simp only [curtilagelaw01_WordParts.j0, if_true]
  rw [if_neg c4]
  by_cases c5 : m > 64
  · rw [if_pos c5]; simp only [curtilagelaw01_WordParts.j0, if_true]
  rw [if_neg c5]
  by_cases c6 : n > 64
  · rw [if_pos c6]; simp only [curtilagelaw01_WordParts.j0, if_true]
  rw [if_neg c6]
  have e : wrap64 (wrap64 (f + m) + n) = f + m + n := by unfold wrap64; omega
  rw [e]
  by_cases c7 : f + m + n > 64
  · simp only [curtilagelaw01_WordParts.j0, decide_eq_true c7, if_true]
  simp only [curtilagelaw01_WordParts.j0, decide_eq_true_eq]
  rw [if_neg c7]
  clear e
  obtain ⟨f, rfl⟩ := Int.eq_ofNat_of_zero_le (show 0 ≤ f by omega)
  obtain ⟨m, rfl⟩ := Int.eq_ofNat_of_zero_le (show 0 ≤ m by omega)
  obtain ⟨n, rfl⟩ := Int.eq_ofNat_of_zero_le (show 0 ≤ n by omega)
  have e1 : wrap64 ((f : Int) + (m : Int)) = ((f + m : Nat) : Int) := by unfold wrap64; omega
  have e2 : wrap64 ((m : Int) + (n : Int)) = ((m + n : Nat) : Int) := by unfold wrap64; omega
  have e3 := word_bits_in w f m (by omega) (by omega) (by omega)
  have e4 := word_bits_in w (f + m) n (by omega) (by omega) (by omega)
  have e5 := word_bits_in w f (m + n) (by omega) (by omega) (by omega)
  have e6 := word_bits_in (w / 2 ^ f % 2 ^ (m + n)) 0 m (by omega) (by omega) (by omega)
  have e7 := word_bits_in (w / 2 ^ f % 2 ^ (m + n)) m n (by omega) (by omega) (by omega)
  rw [e1, e2, e3, e4, e5]
  simp only [Option.bind_some]
  rw [show (0 : Int) = ((0 : Nat) : Int) from rfl, e6, e7]
  simp only [Option.bind_some, if_true]
  have hlo : w / 2 ^ f % 2 ^ m < 2 ^ m := Nat.mod_lt _ (Nat.two_pow_pos _)
  have hhi : w / 2 ^ (f + m) % 2 ^ n < 2 ^ n := Nat.mod_lt _ (Nat.two_pow_pos _)
  have hmn : (w / 2 ^ (f + m) % 2 ^ n) * 2 ^ m < 2 ^ 64 := by
    have h1 : (w / 2 ^ (f + m) % 2 ^ n) * 2 ^ m < 2 ^ n * 2 ^ m := Nat.mul_lt_mul_of_pos_right hhi (Nat.two_pow_pos _)
    rw [← Nat.pow_add] at h1
    exact Nat.lt_of_lt_of_le h1 (Nat.pow_le_pow_right (by decide) (by omega))
  have hm64 : (2 : Nat) ^ m ≤ 2 ^ 64 := Nat.pow_le_pow_right (by decide) (by omega)
  rw [if_pos (by omega), Mth.shl_nat _ _ (by omega), Nat.mod_eq_of_lt hmn, Mth.or_nat _ _ (by omega) hmn, Mth.low_or _ _ _ hlo, if_pos (by rw [side_by_side]), side_by_side]
  generalize hX : w / 2 ^ (f + m) % 2 ^ n = X at *
  generalize hY : w / 2 ^ f % 2 ^ m = Y at *
  have g1 : (X * 2 ^ m + Y) / 2 ^ 0 % 2 ^ m = Y := by
    rw [Nat.pow_zero, Nat.div_one, Nat.add_comm, Nat.add_mul_mod_self_right, Nat.mod_eq_of_lt hlo]
  have g2 : (X * 2 ^ m + Y) / 2 ^ m % 2 ^ n = X := by
    rw [Nat.mul_comm, Nat.mul_add_div (Nat.two_pow_pos _), Nat.div_eq_of_lt hlo, Nat.add_zero, Nat.mod_eq_of_lt hhi]
  rw [g1, g2, if_pos rfl]
  simp

end Go.Proofs.Ytpjlceiemgfcfaa.Pure
