/- WordBytes: for any word, number and bytes, Little and Of answer as the document's do: the printed law answers true; no condition but that the arguments are of their kinds. -/
import Derived.Test.YtpjlceiemgfcfaaPWordBytesx3
import Derived.Test.YtpjlceiemgfcfaaMth
namespace Go.Proofs.Ytpjlceiemgfcfaa.Pure
open Go.RowKit Go.Proofs.Ytpjlceiemgfcfaa.PWordBytes Go.Proofs.YtpjlceiemgfcfaaW.PrintWords Go.Proofs.YtpjlceiemgfcfaaW.PrintLast
open Go.Proofs.Ytpjlceiemgfcfaa

/-- The chapter's examples. -/
theorem awake_true : curtilagelaw01_awake.f 200 = some true := by kernel_rfl

theorem word_little_l (w n : Nat) (hn : n ≤ 8) (d : Nat) : ∀ (k i : Nat), i + d = n → d < k → word_Little.l0 k (w : Int) (Mth.bytes w i) (n : Int) (i : Int) = some (Mth.bytes w n) := by
  induction d with
  | zero =>
    intro k i hd hk
    obtain ⟨k, rfl⟩ : ∃ n, k = n + 1 := ⟨k - 1, by omega⟩
    simp only [word_Little.l0]
    rw [if_neg (by omega), show i = n by omega]
  | succ d ih =>
    intro k i hd hk
    obtain ⟨k, rfl⟩ : ∃ n, k = n + 1 := ⟨k - 1, by omega⟩
    have hl := Mth.bytes_length w i
    simp only [word_Little.l0]
    rw [if_pos (by omega), if_pos (by unfold wrap64; omega), if_pos (by omega), Mth.byte_core w i (by omega), ← Mth.bytes_snoc, show wrap64 ((i : Int) + 1) = ((i + 1 : Nat) : Int) by unfold wrap64; omega]
    exact ih k (i + 1) (by omega) (by omega)
/-- A word's bytes, inside the bounds. -/
theorem word_little_in (k w n : Nat) (hn1 : 1 ≤ n) (hn : n ≤ 8) (hk : 10 < k) : word_Little.f k (w : Int) (n : Int) = some (Mth.bytes w n) := by
  obtain ⟨k, rfl⟩ : ∃ n, k = n + 1 := ⟨k - 1, by omega⟩
  unfold word_Little.f
  rw [if_neg (by omega)]
  simp only [word_Little.j0, decide_eq_true_eq]
  rw [if_neg (by omega)]
  exact word_little_l w n hn n k 0 (by omega) (by omega)

theorem word_of_l (l : List Int) (h : ∀ x ∈ l, 0 ≤ x ∧ x < 256) (n : Nat) (hn : n ≤ 8) (hl : n ≤ l.length) (d : Nat) : ∀ (k i : Nat), i + d = n → d < k → word_Of.l0 k l (Mth.ofN l i : Int) (n : Int) (i : Int) = some (Mth.ofN l n : Int) := by
  induction d with
  | zero =>
    intro k i hd hk
    obtain ⟨k, rfl⟩ : ∃ n, k = n + 1 := ⟨k - 1, by omega⟩
    simp only [word_Of.l0]
    rw [if_neg (by omega), show i = n by omega]
  | succ d ih =>
    intro k i hd hk
    obtain ⟨k, rfl⟩ : ∃ n, k = n + 1 := ⟨k - 1, by omega⟩
    simp only [word_Of.l0]
    rw [if_pos (by omega), if_pos (by omega), if_pos (by omega), if_pos (by unfold wrap64; omega), Mth.ofN_step h i (by omega), show wrap64 ((i : Int) + 1) = ((i + 1 : Nat) : Int) by unfold wrap64; omega]
    exact ih k (i + 1) (by omega) (by omega)
/-- The word of bytes. -/
theorem word_of_eq (k : Nat) (l : List Int) (h : ∀ x ∈ l, 0 ≤ x ∧ x < 256) (hk : 10 < k) : word_Of.f k l = some (Mth.ofN l (min l.length 8) : Int) := by
  unfold word_Of.f
  rw [show mn (l.length : Int) 8 = ((min l.length 8 : Nat) : Int) by unfold mn; omega]
  exact word_of_l l h (min l.length 8) (by omega) (by omega) (min l.length 8) k 0 (by omega) (by omega)

theorem same_l (l : List Int) (hl : l.length ≤ 100) (d : Nat) : ∀ (k i : Nat), i + d = l.length → d < k → curtilageref01_Same.l0 k l l (i : Int) = some true := by
  induction d with
  | zero =>
    intro k i hd hk
    obtain ⟨k, rfl⟩ : ∃ n, k = n + 1 := ⟨k - 1, by omega⟩
    simp only [curtilageref01_Same.l0]
    rw [if_neg (by omega)]
  | succ d ih =>
    intro k i hd hk
    obtain ⟨k, rfl⟩ : ∃ n, k = n + 1 := ⟨k - 1, by omega⟩
    simp only [curtilageref01_Same.l0]
    rw [if_pos (by omega), if_pos (by omega), if_pos (by omega), if_pos trivial, show wrap64 ((i : Int) + 1) = ((i + 1 : Nat) : Int) by unfold wrap64; omega]
    exact ih k (i + 1) (by omega) (by omega)
/-- A list is the same as itself. -/
theorem same_self (k : Nat) (l : List Int) (hl : l.length ≤ 100) (hk : 101 < k) : curtilageref01_Same.f k l l = some true := by
  unfold curtilageref01_Same.f
  rw [if_pos rfl]
  exact same_l l hl l.length k 0 (by omega) (by omega)

/-- The document's bit. -/
theorem ref_bit (w i : Nat) (hw : w < 2 ^ 64) (hi : i ≤ 64) : curtilageref01_bit.f (w : Int) (i : Int) = some ((w.testBit i).toNat : Int) := by
  unfold curtilageref01_bit.f
  rw [if_pos (by omega), Mth.bit_core w i hw hi]

theorem ref_bits_l (w f m : Nat) (hw : w < 2 ^ 64) (hfm : f + m ≤ 64) (d : Nat) : ∀ (k i : Nat), i + d = m → d < k →
    curtilageref01_Bits.l0 k (w : Int) (f : Int) (m : Int) (Mth.acc (fun j => w.testBit (f + j)) i : Int) (i : Int) = some (Mth.acc (fun j => w.testBit (f + j)) m : Int) := by
  induction d with
  | zero =>
    intro k i hd hk
    obtain ⟨k, rfl⟩ : ∃ n, k = n + 1 := ⟨k - 1, by omega⟩
    simp only [curtilageref01_Bits.l0]
    rw [if_neg (by omega), show i = m by omega]
  | succ d ih =>
    intro k i hd hk
    obtain ⟨k, rfl⟩ : ∃ n, k = n + 1 := ⟨k - 1, by omega⟩
    simp only [curtilageref01_Bits.l0]
    rw [if_pos (by omega), show wrap64 ((f : Int) + (i : Int)) = ((f + i : Nat) : Int) by unfold wrap64; omega, ref_bit w (f + i) hw (by omega)]
    simp only [Option.bind_some]
    rw [if_pos (by omega), Mth.acc_step (fun j => w.testBit (f + j)) i (by omega), show wrap64 ((i : Int) + 1) = ((i + 1 : Nat) : Int) by unfold wrap64; omega]
    exact ih k (i + 1) (by omega) (by omega)
/-- The document's bits of a word, inside the bounds. -/
theorem ref_bits_in (k w f m : Nat) (hw : w < 2 ^ 64) (hf : f ≤ 63) (hm : 1 ≤ m) (hfm : f + m ≤ 64) (hk : 66 < k) : curtilageref01_Bits.f k (w : Int) (f : Int) (m : Int) = some ((w / 2 ^ f % 2 ^ m : Nat) : Int) := by
  obtain ⟨k, rfl⟩ : ∃ n, k = n + 1 := ⟨k - 1, by omega⟩
  unfold curtilageref01_Bits.f
  rw [if_neg (by omega), if_neg (by omega), if_neg (by omega)]
  simp only [curtilageref01_Bits.j0, decide_eq_true_eq]
  rw [if_neg (by unfold wrap64; omega)]
  have h := ref_bits_l w f m hw hfm m k 0 (by omega) (by omega)
  rw [Mth.acc_bits w f m] at h
  exact h

theorem ref_little_l (w n : Nat) (hw : w < 2 ^ 64) (hn : n ≤ 8) (d : Nat) : ∀ (k i : Nat), i + d = n → d + 67 < k → curtilageref01_Little.l0 k (w : Int) (n : Int) (Mth.bytes w i) (i : Int) = some (Mth.bytes w n) := by
  induction d with
  | zero =>
    intro k i hd hk
    obtain ⟨k, rfl⟩ : ∃ n, k = n + 1 := ⟨k - 1, by omega⟩
    simp only [curtilageref01_Little.l0]
    rw [if_neg (by omega), show i = n by omega]
  | succ d ih =>
    intro k i hd hk
    obtain ⟨k, rfl⟩ : ∃ n, k = n + 1 := ⟨k - 1, by omega⟩
    have hl := Mth.bytes_length w i
    have hB := ref_bits_in k w (8 * i) 8 hw (by omega) (by omega) (by omega) (by omega)
    simp only [curtilageref01_Little.l0]
    rw [if_pos (by omega), show wrap64 (8 * (i : Int)) = ((8 * i : Nat) : Int) by unfold wrap64; omega]
    rw [show ((8 : Nat) : Int) = 8 from rfl] at hB
    rw [hB]
    simp only [Option.bind_some]
    rw [if_pos (by omega), show ((w / 2 ^ (8 * i) % 2 ^ 8 : Nat) : Int) % 256 = ((w / 2 ^ (8 * i) % 256 : Nat) : Int) by omega, ← Mth.bytes_snoc, show wrap64 ((i : Int) + 1) = ((i + 1 : Nat) : Int) by unfold wrap64; omega]
    exact ih k (i + 1) (by omega) (by omega)
theorem ref_little_none (k : Nat) (w n : Int) (h1 : n < 1) : curtilageref01_Little.l0 (k + 1) w n [] 0 = some [] := by
  simp only [curtilageref01_Little.l0]
  rw [if_neg (by omega)]
theorem little_both (w : Nat) (hw : w < 2 ^ 64) (n : Int) : ∃ l, l.length ≤ 100 ∧ word_Little.f 200 (w : Int) n = some l ∧ curtilageref01_Little.f 200 (w : Int) n = some l := by
  by_cases h1 : n < 1
  · refine ⟨[], by simp, ?_, ?_⟩
    · unfold word_Little.f; rw [if_pos h1]; simp only [word_Little.j0, if_true]
    · unfold curtilageref01_Little.f; rw [if_neg (by omega)]; exact ref_little_none 199 _ _ h1
  by_cases h2 : n > 8
  · refine ⟨[], by simp, ?_, ?_⟩
    · unfold word_Little.f; rw [if_neg h1]; simp only [word_Little.j0, decide_eq_true h2, if_true]
    · unfold curtilageref01_Little.f; rw [if_pos h2]
  obtain ⟨n, rfl⟩ := Int.eq_ofNat_of_zero_le (show 0 ≤ n by omega)
  refine ⟨Mth.bytes w n, by rw [Mth.bytes_length]; omega, word_little_in 200 w n (by omega) (by omega) (by omega), ?_⟩
  unfold curtilageref01_Little.f
  rw [if_neg h2]
  exact ref_little_l w n hw (by omega) n 200 0 (by omega) (by omega)

theorem ref_of_l (l : List Int) (h : ∀ x ∈ l, 0 ≤ x ∧ x < 256) (d : Nat) : ∀ (k i : Nat), i + d = min l.length 8 → d < k →
    curtilageref01_Of.l0 k l (Mth.ofN l i : Int) ((2 ^ (8 * i) % 2 ^ 64 : Nat) : Int) (i : Int) = some (Mth.ofN l (min l.length 8) : Int) := by
  induction d with
  | zero =>
    intro k i hd hk
    obtain ⟨k, rfl⟩ : ∃ n, k = n + 1 := ⟨k - 1, by omega⟩
    simp only [curtilageref01_Of.l0]
    rw [show min l.length 8 = i by omega]
    by_cases c : (i : Int) < (l.length : Int)
    · rw [if_pos c, if_neg (by omega)]
    · rw [if_neg c]
  | succ d ih =>
    intro k i hd hk
    obtain ⟨k, rfl⟩ : ∃ n, k = n + 1 := ⟨k - 1, by omega⟩
    simp only [curtilageref01_Of.l0]
    rw [if_pos (by omega), if_pos (by omega), if_pos (by omega), Mth.ofN_sum h i (by omega), Mth.times_step, show wrap64 ((i : Int) + 1) = ((i + 1 : Nat) : Int) by unfold wrap64; omega]
    exact ih k (i + 1) (by omega) (by omega)
theorem ref_of_eq (l : List Int) (h : ∀ x ∈ l, 0 ≤ x ∧ x < 256) : curtilageref01_Of.f 200 l = some (Mth.ofN l (min l.length 8) : Int) := by
  unfold curtilageref01_Of.f
  exact ref_of_l l h (min l.length 8) 200 0 (by omega) (by omega)

/-- The law. -/
theorem WordBytes : curtilagelaw01_WordBytes.Pure := by
  intro a0 n l h0 _ _ _ hb
  obtain ⟨w, rfl, hw⟩ := Mth.to_nat (Mth.wf_u64 h0).1 (Mth.wf_u64 h0).2
  have hb' : ∀ x ∈ l, 0 ≤ x ∧ x < 256 := fun x hx => Mth.wf_u8 (hb x hx)
  obtain ⟨r, hr, hr1, hr2⟩ := little_both w hw n
  refine ⟨200, ?_⟩
  unfold curtilagelaw01_WordBytes.f
  rw [awake_true, hr1, word_of_eq 200 l hb' (by omega)]
  simp only [Option.bind_some, if_true]
  rw [hr2]
  simp only [Option.bind_some]
  rw [same_self 200 r hr (by omega)]
  simp only [Option.bind_some, if_true]
  rw [ref_of_eq l hb']
  simp

end Go.Proofs.Ytpjlceiemgfcfaa.Pure
