/- WordDivides: for any two words, with signs or without, a quotient times the divisor and the rest are the number again, and the rest is the smaller: the printed law answers true; no condition but that the arguments are of their kinds. -/
import Derived.Test.YtpjlceiemgfcfaaPWordDividesx2
import Derived.Test.YtpjlceiemgfcfaaMth
namespace Go.Proofs.Ytpjlceiemgfcfaa.Pure
open Go.RowKit Go.Proofs.Ytpjlceiemgfcfaa.PWordDivides Go.Proofs.YtpjlceiemgfcfaaW.PrintWords Go.Proofs.YtpjlceiemgfcfaaW.PrintLast
open Go.Proofs.Ytpjlceiemgfcfaa

/-- The chapter's examples. -/
theorem awake_true : curtilagelaw01_awake.f 200 = some true := by kernel_rfl

theorem word_size_eq (a : Int) (ha0 : 0 ≤ a) (ha1 : a < 18446744073709551616) : word_size.f a = some (Mth.sz a) := by
  have na := Mth.neg_iff ha0 ha1
  unfold word_size.f Mth.sz
  simp only [na, Mth.wrap_u64]
  by_cases ca : 9223372036854775808 ≤ a
  · rw [if_pos ca, if_pos ca, show -a % 18446744073709551616 = 18446744073709551616 - a by omega]
  · rw [if_neg ca, if_neg ca]
/-- A quotient. -/
theorem word_quot_eq (a b : Int) (s : Bool) (ha0 : 0 ≤ a) (ha1 : a < 18446744073709551616) (hb0 : 0 ≤ b) (hb1 : b < 18446744073709551616) : word_Quotient.f a b s = some (Mth.quo a b s) := by
  have na := Mth.neg_iff ha0 ha1
  have nb := Mth.neg_iff hb0 hb1
  have sa := Mth.sz_in ha0 ha1
  have sb := Mth.sz_in hb0 hb1
  unfold word_Quotient.f Mth.quo
  rw [word_size_eq a ha0 ha1, word_size_eq b hb0 hb1]
  simp only [Option.bind_some, na, nb]
  by_cases hb : b = 0
  · rw [if_pos hb, if_pos hb]
  rw [if_neg hb, if_neg hb]
  have hq := Mth.div_in sa.1 (sb.2.2 hb)
  cases s
  · have hq2 := Mth.div_in ha0 (show 0 < b by omega)
    rw [if_neg (by decide), if_neg (by decide), Int.tdiv_eq_ediv_of_nonneg ha0, Mth.wrap_u64, Int.emod_eq_of_lt hq2.1 (by omega)]
  · rw [if_pos rfl, if_pos rfl, if_neg (by omega), Int.tdiv_eq_ediv_of_nonneg sa.1]
    rw [show IntKind.u64.wrap (Mth.sz a / Mth.sz b) = Mth.sz a / Mth.sz b by rw [Mth.wrap_u64, Int.emod_eq_of_lt hq.1 (by omega)], Mth.wrap_u64]
    split <;> rfl
/-- What is left. -/
theorem word_rest_eq (a b : Int) (s : Bool) (ha0 : 0 ≤ a) (ha1 : a < 18446744073709551616) (hb0 : 0 ≤ b) (hb1 : b < 18446744073709551616) : word_Rest.f a b s = some (Mth.rst a b s) := by
  have na := Mth.neg_iff ha0 ha1
  have sa := Mth.sz_in ha0 ha1
  have sb := Mth.sz_in hb0 hb1
  unfold word_Rest.f Mth.rst
  rw [word_size_eq a ha0 ha1, word_size_eq b hb0 hb1]
  simp only [Option.bind_some, na]
  by_cases hb : b = 0
  · rw [if_pos hb, if_pos hb]
  rw [if_neg hb, if_neg hb]
  cases s
  · rw [if_neg (by decide), if_neg (by decide), Int.tmod_eq_emod_of_nonneg ha0]
  · have := sb.2.2 hb
    rw [if_pos rfl, if_pos rfl, if_neg (by omega), Int.tmod_eq_emod_of_nonneg sa.1, Mth.wrap_u64]
    split <;> rfl

/-- What is left, with signs: its size is that of a rest; its sign is the divided number's. -/
theorem rest_signed (a b : Int) (ha0 : 0 ≤ a) (ha1 : a < 18446744073709551616) (hb0 : 0 ≤ b) (hb1 : b < 18446744073709551616) (hb : b ≠ 0) :
    0 ≤ Mth.rst a b true ∧ Mth.rst a b true < 18446744073709551616 ∧
    (9223372036854775808 ≤ Mth.rst a b true → (-Mth.rst a b true) % 18446744073709551616 < Mth.sz b) ∧ (¬ 9223372036854775808 ≤ Mth.rst a b true → Mth.rst a b true < Mth.sz b) ∧
    (Mth.rst a b true ≠ 0 → (9223372036854775808 ≤ Mth.rst a b true ↔ 9223372036854775808 ≤ a)) := by
  have sb := Mth.sz_in hb0 hb1
  have hB := sb.2.2 hb
  have h1 := Int.emod_nonneg (Mth.sz a) (show Mth.sz b ≠ 0 by omega)
  have h2 := Int.emod_lt_of_pos (Mth.sz a) hB
  unfold Mth.rst
  rw [if_neg hb, if_pos rfl]
  generalize Mth.sz a % Mth.sz b = R at *
  by_cases ca : 9223372036854775808 ≤ a
  · rw [if_pos ca]; omega
  · rw [if_neg ca]; omega

/-- The law. -/
theorem WordDivides : curtilagelaw01_WordDivides.Pure := by
  intro a b s h0 h1
  have ba := Mth.wf_u64 h0
  have bb := Mth.wf_u64 h1
  refine ⟨200, ?_⟩
  unfold curtilagelaw01_WordDivides.f
  rw [awake_true, word_quot_eq a b s ba.1 ba.2 bb.1 bb.2, word_rest_eq a b s ba.1 ba.2 bb.1 bb.2]
  simp only [Option.bind_some, if_true]
  by_cases hb : b = 0
  · rw [if_pos hb, if_pos (by unfold Mth.quo; rw [if_pos hb])]
    unfold Mth.rst
    rw [if_pos hb]
    simp
  rw [if_neg hb]
  cases s
  · have hw := Mth.whole_plain ba.1 ba.2 hb
    have hr : Mth.rst a b false < b := by
      unfold Mth.rst
      rw [if_neg hb, if_neg (by decide)]
      exact Int.emod_lt_of_pos _ (by omega)
    have hq : Mth.quo a b false ≤ a := by
      unfold Mth.quo
      rw [if_neg hb, if_neg (by decide)]
      exact (Mth.div_in ba.1 (by omega)).2
    rw [if_neg (by decide), if_pos hw, if_pos hr, decide_eq_true hq]
  · have hw := Mth.whole_signed ba.1 ba.2 hb
    obtain ⟨r0, r1, r2, r3, r4⟩ := rest_signed a b ba.1 ba.2 bb.1 bb.2 hb
    have na := Mth.neg_iff ba.1 ba.2
    have nb := Mth.neg_iff bb.1 bb.2
    have nr := Mth.neg_iff r0 r1
    rw [if_pos rfl]
    simp only [na, nb, nr, hw, if_true]
    generalize Mth.rst a b true = r at *
    clear hw na nb nr
    have last : (if r = 0 then some true else some (decide (9223372036854775808 ≤ r) == decide (9223372036854775808 ≤ a))) = some true := by
      by_cases hr : r = 0
      · rw [if_pos hr]
      · rw [if_neg hr]
        simp [r4 hr]
    rw [last]
    unfold Mth.sz at r2 r3
    simp only [Mth.wrap_u64]
    by_cases cr : 9223372036854775808 ≤ r <;> by_cases cb : 9223372036854775808 ≤ b
    · have := r2 cr; rw [if_pos cb] at this
      rw [if_pos cr, if_pos cb, if_pos (by omega)]
    · have := r2 cr; rw [if_neg cb] at this
      rw [if_pos cr, if_neg cb, if_pos (by omega)]
    · have := r3 cr; rw [if_pos cb] at this
      rw [if_neg cr, if_pos cb, if_pos (by omega)]
    · have := r3 cr; rw [if_neg cb] at this
      rw [if_neg cr, if_neg cb, if_pos (by omega)]

end Go.Proofs.Ytpjlceiemgfcfaa.Pure
