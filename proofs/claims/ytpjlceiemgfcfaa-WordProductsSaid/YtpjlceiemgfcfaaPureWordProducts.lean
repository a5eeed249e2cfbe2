/- WordProducts: for any two words, the upper halves of products are the same when both change places, by 1 they are 0 or a sign, and a sign takes the other number away: the printed law answers true; no condition but that the arguments are of their kinds. -/
import Derived.Test.YtpjlceiemgfcfaaPWordProductsx2
import Derived.Test.YtpjlceiemgfcfaaMth
namespace Go.Proofs.Ytpjlceiemgfcfaa.Pure
open Go.RowKit Go.Proofs.Ytpjlceiemgfcfaa.PWordProducts Go.Proofs.YtpjlceiemgfcfaaW.PrintWords Go.Proofs.YtpjlceiemgfcfaaW.PrintLast
open Go.Proofs.Ytpjlceiemgfcfaa

/-- The chapter's examples. -/
theorem awake_true : curtilagelaw01_awake.f 200 = some true := by kernel_rfl

/-- A product's upper half. -/
theorem word_high_eq (k : Nat) (a b : Int) (f s : Bool) (ha0 : 0 ≤ a) (ha1 : a < 18446744073709551616) (hb0 : 0 ≤ b) (hb1 : b < 18446744073709551616) :
    word_High.f (k + 1) a b f s = some (Mth.hi a b f s) := by
  have hp := Mth.hi0 a b ha0 ha1 hb0 hb1
  have na := Mth.neg_iff ha0 ha1
  have nb := Mth.neg_iff hb0 hb1
  unfold word_High.f bits_Mul64.f
  rw [Mth.mul_core a b ha0 ha1 hb0 hb1]
  unfold Mth.hi
  simp only [Option.bind_some, word_High.j0, decide_eq_true_eq, na, nb, Mth.wrap_u64]
  generalize a * b / 18446744073709551616 = x at *
  clear na nb
  by_cases ca : 9223372036854775808 ≤ a <;> by_cases cb : 9223372036854775808 ≤ b <;> cases f <;> cases s <;>
    simp only [ca, cb, Bool.false_eq_true, false_and, true_and, if_true, if_false, Option.some.injEq] <;> omega

/-- The law. -/
theorem WordProducts : curtilagelaw01_WordProducts.Pure := by
  intro a b h0 h1
  have ba := Mth.wf_u64 h0
  have bb := Mth.wf_u64 h1
  have hp := Mth.hi0 a b ba.1 ba.2 bb.1 bb.2
  have na := Mth.neg_iff ba.1 ba.2
  refine ⟨200, ?_⟩
  unfold curtilagelaw01_WordProducts.f
  rw [awake_true, word_high_eq 199 a b _ _ ba.1 ba.2 bb.1 bb.2, word_high_eq 199 b a _ _ bb.1 bb.2 ba.1 ba.2, word_high_eq 199 a b _ _ ba.1 ba.2 bb.1 bb.2, word_high_eq 199 b a _ _ bb.1 bb.2 ba.1 ba.2,
    word_high_eq 199 a b _ _ ba.1 ba.2 bb.1 bb.2, word_high_eq 199 b a _ _ bb.1 bb.2 ba.1 ba.2, word_high_eq 199 a 1 _ _ ba.1 ba.2 (by decide) (by decide), word_high_eq 199 a 1 _ _ ba.1 ba.2 (by decide) (by decide)]
  simp only [Option.bind_some, na, Mth.wrap_u64, if_true]
  have h1 : a * 1 / 18446744073709551616 = 0 := by omega
  unfold Mth.hi
  rw [Int.mul_comm b a, h1]
  generalize a * b / 18446744073709551616 = x at *
  clear na
  by_cases ca : 9223372036854775808 ≤ a
  · rw [if_pos ca, if_pos (by simp), if_pos (by simp only [true_and]; omega), if_pos (by simp), if_pos (by simp [ca]), if_pos (by simp)]
    simp [ca]
  · rw [if_neg ca, if_pos (by simp), if_pos (by simp only [true_and]; omega), if_pos (by simp), if_pos (by simp [ca]), if_pos (by simp)]
    simp [ca]

end Go.Proofs.Ytpjlceiemgfcfaa.Pure
