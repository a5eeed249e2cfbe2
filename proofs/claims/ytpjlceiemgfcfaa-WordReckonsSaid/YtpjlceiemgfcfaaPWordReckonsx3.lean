-- PRINTED BY print.sh 35421559b90ae4d0a3588c463048766b98c2df88dd9212a6774a882060cdf62d: not written by this session
import Derived.Test.YtpjlceiemgfcfaaPWordReckonsx0
import Derived.Test.YtpjlceiemgfcfaaPWordReckonsx2
namespace Go.Proofs.Ytpjlceiemgfcfaa.PWordReckons
open Go.RowKit Go.Proofs.YtpjlceiemgfcfaaW.PrintWords Go.Proofs.YtpjlceiemgfcfaaW.PrintLast Go.Proofs.YtpjlceiemgfcfaaW.PrintMore
attribute [local go_sem] max2_int min2_int max_two min_two max_three min_three max_four min_four   -- for this text's walks alone
set_option linter.unusedVariables false
set_option linter.unusedSimpArgs false

/-! ### curtilageref01_both: function 33 -/
mutual
def curtilageref01_both.j0 : Nat → Int → Int → Bool → Int → Int → Bool → Option (Int × Int)
  | 0, _, _, _, _, _, _ => none
  | k + 1, x0, x1, x2, x8, x9, x21 => if x21 = true then (curtilageref01_both.j1 k x0 x1 x2 (IntKind.u64.wrap (-x0)) x9) else (curtilageref01_both.j1 k x0 x1 x2 x8 x9)
def curtilageref01_both.j1 : Nat → Int → Int → Bool → Int → Int → Option (Int × Int)
  | 0, _, _, _, _, _ => none
  | k + 1, x0, x1, x2, x8, x9 => if x2 = true then ((curtilageref01_low.f x1).bind fun t138 => (curtilageref01_both.j2 k x0 x1 x2 x8 x9 t138)) else (curtilageref01_both.j2 k x0 x1 x2 x8 x9 false)
def curtilageref01_both.j2 : Nat → Int → Int → Bool → Int → Int → Bool → Option (Int × Int)
  | 0, _, _, _, _, _, _ => none
  | k + 1, x0, x1, x2, x8, x9, x28 => if x28 = true then (curtilageref01_both.j3 k x0 x1 x2 x8 (IntKind.u64.wrap (-x1))) else (curtilageref01_both.j3 k x0 x1 x2 x8 x9)
def curtilageref01_both.j3 : Nat → Int → Int → Bool → Int → Int → Option (Int × Int)
  | 0, _, _, _, _, _ => none
  | k + 1, x0, x1, x2, x8, x9 => (curtilageref01_divide.f k x8 x9).bind fun bt139 => (if x2 = true then ((curtilageref01_low.f x0).bind fun t141 => ((curtilageref01_low.f x1).bind fun t142 => (curtilageref01_both.j4 k x0 x2 bt139.1 bt139.2 (t141 != t142)))) else (curtilageref01_both.j4 k x0 x2 bt139.1 bt139.2 false))
def curtilageref01_both.j4 : Nat → Int → Bool → Int → Int → Bool → Option (Int × Int)
  | 0, _, _, _, _, _ => none
  | k + 1, x0, x2, x10, x11, x44 => if x44 = true then (if x2 = true then ((curtilageref01_low.f x0).bind fun t143 => (if t143 = true then (some (IntKind.u64.wrap (-x10), IntKind.u64.wrap (-x11))) else (some (IntKind.u64.wrap (-x10), x11)))) else (some (IntKind.u64.wrap (-x10), x11))) else (if x2 = true then ((curtilageref01_low.f x0).bind fun t144 => (if t144 = true then (some (x10, IntKind.u64.wrap (-x11))) else (some (x10, x11)))) else (some (x10, x11)))
end
def curtilageref01_both.f (k : Nat) (a0 : Int) (a1 : Int) (a2 : Bool) : Option (Int × Int) := if a1 = 0 then (some (18446744073709551615, a0)) else (if a2 = true then ((curtilageref01_low.f a0).bind fun t137 => (curtilageref01_both.j0 k a0 a1 a2 a0 a1 t137)) else (curtilageref01_both.j0 k a0 a1 a2 a0 a1 false))
theorem curtilageref01_both.mono_l : ∀ k, (∀ y0 y1 y2 y3 y4 y5, LeO (curtilageref01_both.j0 k y0 y1 y2 y3 y4 y5) (curtilageref01_both.j0 (k + 1) y0 y1 y2 y3 y4 y5)) ∧ (∀ y0 y1 y2 y3 y4, LeO (curtilageref01_both.j1 k y0 y1 y2 y3 y4) (curtilageref01_both.j1 (k + 1) y0 y1 y2 y3 y4)) ∧ (∀ y0 y1 y2 y3 y4 y5, LeO (curtilageref01_both.j2 k y0 y1 y2 y3 y4 y5) (curtilageref01_both.j2 (k + 1) y0 y1 y2 y3 y4 y5)) ∧ (∀ y0 y1 y2 y3 y4, LeO (curtilageref01_both.j3 k y0 y1 y2 y3 y4) (curtilageref01_both.j3 (k + 1) y0 y1 y2 y3 y4)) ∧ (∀ y0 y1 y2 y3 y4, LeO (curtilageref01_both.j4 k y0 y1 y2 y3 y4) (curtilageref01_both.j4 (k + 1) y0 y1 y2 y3 y4))
  | 0 => ⟨fun _ _ _ _ _ _ r h => by simp [curtilageref01_both.j0] at h, fun _ _ _ _ _ r h => by simp [curtilageref01_both.j1] at h, fun _ _ _ _ _ _ r h => by simp [curtilageref01_both.j2] at h, fun _ _ _ _ _ r h => by simp [curtilageref01_both.j3] at h, fun _ _ _ _ _ r h => by simp [curtilageref01_both.j4] at h⟩
  | k + 1 => by
    obtain ⟨ih0, ih1, ih2, ih3, ih4⟩ := curtilageref01_both.mono_l k
    refine ⟨?_, ?_, ?_, ?_, ?_⟩
    · intro y0 y1 y2 y3 y4 y5
      unfold curtilageref01_both.j0
      repeat' first
      | (with_reducible exact ih0 _ _ _ _ _ _)
      | (with_reducible exact ih1 _ _ _ _ _)
      | (with_reducible exact ih2 _ _ _ _ _ _)
      | (with_reducible exact ih3 _ _ _ _ _)
      | (with_reducible exact ih4 _ _ _ _ _)
      | (with_reducible exact curtilageref01_divide.mono _ _ _)
      | (with_reducible exact LeO.refl _)
      | (with_reducible exact LeO.none _)
      | (with_reducible refine LeO.ite ?_ ?_)
      | (with_reducible refine LeO.bind ?_ (fun _ => ?_))
      | exact ih0 _ _ _ _ _ _
      | exact ih1 _ _ _ _ _
      | exact ih2 _ _ _ _ _ _
      | exact ih3 _ _ _ _ _
      | exact ih4 _ _ _ _ _
      | exact curtilageref01_divide.mono _ _ _
      | exact LeO.none _
      | refine LeO.ite ?_ ?_
      | refine LeO.bind ?_ (fun _ => ?_)
    · intro y0 y1 y2 y3 y4
      unfold curtilageref01_both.j1
      repeat' first
      | (with_reducible exact ih0 _ _ _ _ _ _)
      | (with_reducible exact ih1 _ _ _ _ _)
      | (with_reducible exact ih2 _ _ _ _ _ _)
      | (with_reducible exact ih3 _ _ _ _ _)
      | (with_reducible exact ih4 _ _ _ _ _)
      | (with_reducible exact curtilageref01_divide.mono _ _ _)
      | (with_reducible exact LeO.refl _)
      | (with_reducible exact LeO.none _)
      | (with_reducible refine LeO.ite ?_ ?_)
      | (with_reducible refine LeO.bind ?_ (fun _ => ?_))
      | exact ih0 _ _ _ _ _ _
      | exact ih1 _ _ _ _ _
      | exact ih2 _ _ _ _ _ _
      | exact ih3 _ _ _ _ _
      | exact ih4 _ _ _ _ _
      | exact curtilageref01_divide.mono _ _ _
      | exact LeO.none _
      | refine LeO.ite ?_ ?_
      | refine LeO.bind ?_ (fun _ => ?_)
    · intro y0 y1 y2 y3 y4 y5
      unfold curtilageref01_both.j2
      repeat' first
      | (with_reducible exact ih0 _ _ _ _ _ _)
      | (with_reducible exact ih1 _ _ _ _ _)
      | (with_reducible exact ih2 _ _ _ _ _ _)
      | (with_reducible exact ih3 _ _ _ _ _)
      | (with_reducible exact ih4 _ _ _ _ _)
      | (with_reducible exact curtilageref01_divide.mono _ _ _)
      | (with_reducible exact LeO.refl _)
      | (with_reducible exact LeO.none _)
      | (with_reducible refine LeO.ite ?_ ?_)
      | (with_reducible refine LeO.bind ?_ (fun _ => ?_))
      | exact ih0 _ _ _ _ _ _
      | exact ih1 _ _ _ _ _
      | exact ih2 _ _ _ _ _ _
      | exact ih3 _ _ _ _ _
      | exact ih4 _ _ _ _ _
      | exact curtilageref01_divide.mono _ _ _
      | exact LeO.none _
      | refine LeO.ite ?_ ?_
      | refine LeO.bind ?_ (fun _ => ?_)
    · intro y0 y1 y2 y3 y4
      unfold curtilageref01_both.j3
      repeat' first
      | (with_reducible exact ih0 _ _ _ _ _ _)
      | (with_reducible exact ih1 _ _ _ _ _)
      | (with_reducible exact ih2 _ _ _ _ _ _)
      | (with_reducible exact ih3 _ _ _ _ _)
      | (with_reducible exact ih4 _ _ _ _ _)
      | (with_reducible exact curtilageref01_divide.mono _ _ _)
      | (with_reducible exact LeO.refl _)
      | (with_reducible exact LeO.none _)
      | (with_reducible refine LeO.ite ?_ ?_)
      | (with_reducible refine LeO.bind ?_ (fun _ => ?_))
      | exact ih0 _ _ _ _ _ _
      | exact ih1 _ _ _ _ _
      | exact ih2 _ _ _ _ _ _
      | exact ih3 _ _ _ _ _
      | exact ih4 _ _ _ _ _
      | exact curtilageref01_divide.mono _ _ _
      | exact LeO.none _
      | refine LeO.ite ?_ ?_
      | refine LeO.bind ?_ (fun _ => ?_)
    · intro y0 y1 y2 y3 y4
      unfold curtilageref01_both.j4
      repeat' first
      | (with_reducible exact ih0 _ _ _ _ _ _)
      | (with_reducible exact ih1 _ _ _ _ _)
      | (with_reducible exact ih2 _ _ _ _ _ _)
      | (with_reducible exact ih3 _ _ _ _ _)
      | (with_reducible exact ih4 _ _ _ _ _)
      | (with_reducible exact curtilageref01_divide.mono _ _ _)
      | (with_reducible exact LeO.refl _)
      | (with_reducible exact LeO.none _)
      | (with_reducible refine LeO.ite ?_ ?_)
      | (with_reducible refine LeO.bind ?_ (fun _ => ?_))
      | exact ih0 _ _ _ _ _ _
      | exact ih1 _ _ _ _ _
      | exact ih2 _ _ _ _ _ _
      | exact ih3 _ _ _ _ _
      | exact ih4 _ _ _ _ _
      | exact curtilageref01_divide.mono _ _ _
      | exact LeO.none _
      | refine LeO.ite ?_ ?_
      | refine LeO.bind ?_ (fun _ => ?_)
theorem curtilageref01_both.mono : ∀ a0 a1 a2 k, LeO (curtilageref01_both.f k a0 a1 a2) (curtilageref01_both.f (k + 1) a0 a1 a2) := by
  intro a0 a1 a2 k
  obtain ⟨ih0, ih1, ih2, ih3, ih4⟩ := curtilageref01_both.mono_l k
  unfold curtilageref01_both.f
  repeat' first
      | (with_reducible exact ih0 _ _ _ _ _ _)
      | (with_reducible exact ih1 _ _ _ _ _)
      | (with_reducible exact ih2 _ _ _ _ _ _)
      | (with_reducible exact ih3 _ _ _ _ _)
      | (with_reducible exact ih4 _ _ _ _ _)
      | (with_reducible exact curtilageref01_divide.mono _ _ _)
      | (with_reducible exact LeO.refl _)
      | (with_reducible exact LeO.none _)
      | (with_reducible refine LeO.ite ?_ ?_)
      | (with_reducible refine LeO.bind ?_ (fun _ => ?_))
      | exact ih0 _ _ _ _ _ _
      | exact ih1 _ _ _ _ _
      | exact ih2 _ _ _ _ _ _
      | exact ih3 _ _ _ _ _
      | exact ih4 _ _ _ _ _
      | exact curtilageref01_divide.mono _ _ _
      | exact LeO.none _
      | refine LeO.ite ?_ ?_
      | refine LeO.bind ?_ (fun _ => ?_)
set_option maxHeartbeats 8000000 in
set_option maxRecDepth 100000 in
theorem curtilageref01_both.calls (k : Nat) (a0 : Int) (a1 : Int) (a2 : Bool) (r1 : Int) (r2 : Int) (w : World) (h : curtilageref01_both.f k a0 a1 a2 = some (r1, r2)) :
    Calls Try.prog 33 #[.int .u64 a0, .int .u64 a1, .bool a2] w fun e w' => e = .returned (.tuple #[.int .u64 r1, .int .u64 r2]) ∧ Drawn0 w w' := by
  have H : (if a1 = 0 then (some (18446744073709551615, a0)) else (if a2 = true then ((curtilageref01_low.f a0).bind fun t137 => (curtilageref01_both.j0 k a0 a1 a2 a0 a1 t137)) else (curtilageref01_both.j0 k a0 a1 a2 a0 a1 false))) = some (r1, r2) := h
  clear h
  by_cases c4 : a1 = 0
  · rw [if_pos c4] at H
    have c4b0 : (a1 == 0) = true := beq_iff_eq.mpr c4
    have c4b1 : (a1 != 0) = false := bne_eq_false_iff_eq.mpr c4
    clear c4
    simp only [Option.some.injEq, Prod.mk.injEq] at H
    obtain ⟨rfl, rfl⟩ := H
    go_enter Try.func33, Try.ntmps33
    go_wp2
    go_ret2
    exact ⟨by first | rfl | (simp; done) | (simp [*]; done), by repeat (first | exact Drawn0.refl _ | apply Drawn0.step)⟩
  · rw [if_neg c4] at H
    have c4b0 : (a1 == 0) = false := beq_eq_false_iff_ne.mpr c4
    have c4b1 : (a1 != 0) = true := bne_iff_ne.mpr c4
    have HC5 := Aside0.mk H
    clear H
    go_enter Try.func33, Try.ntmps33
    go_upto_region 5 with (fail)
    go_cut [21] (fun v21 wc => ∃ (kq : Nat) (x21_4 : Bool), v21 = .bool x21_4 ∧ Aside0 (curtilageref01_both.j0 kq a0 a1 a2 a0 a1 x21_4 = some (r1, r2)) ∧ Aside0 (kq ≤ k) ∧ Drawn0 w wc)
    case first =>
      have H := HC5.out
      clear HC5
      by_cases c6 : a2 = true
      · subst c6
        have H1 : ((curtilageref01_low.f a0).bind fun t137 => (curtilageref01_both.j0 k a0 a1 true a0 a1 t137)) = some (r1, r2) := by rw [if_pos rfl] at H; exact H
        clear H
        have H := H1
        clear H1
        replace H := Option.bind_eq_some_iff.mp H
        obtain ⟨t137, A70, H⟩ := H
        replace H : (curtilageref01_both.j0 k a0 a1 true a0 a1 t137) = some (r1, r2) := H
        have A7 := Aside0.mk A70
        clear A70
        have H' := Aside0.mk H
        clear H
        go_wp2_with (first | (go_at_call 34; (with_reducible refine (curtilageref01_low.calls a0 t137 _ A7.out).mono ?_); rintro e w' ⟨rfl, ⟨nd, rfl⟩⟩))
        go_meet
        case rel => exact ⟨_, (t137), (by first | rfl | (simp; done) | (simp [*]; done)), H', ⟨by first | omega | exact Nat.le_refl _⟩, by repeat (first | exact Drawn0.refl _ | apply Drawn0.step)⟩
      · replace c6 := Bool.eq_false_iff.mpr c6
        subst c6
        have H1 : (curtilageref01_both.j0 k a0 a1 false a0 a1 false) = some (r1, r2) := by rw [if_neg (show ¬ (false = true) by decide)] at H; exact H
        clear H
        have H := H1
        clear H1
        have H' := Aside0.mk H
        clear H
        go_wp2
        go_meet
        case rel => exact ⟨_, (false), (by first | rfl | (simp; done) | (simp [*]; done)), H', ⟨by first | omega | exact Nat.le_refl _⟩, by repeat (first | exact Drawn0.refl _ | apply Drawn0.step)⟩
    case rest =>
      clear HC5
      try clear p2
      try clear c3
      try clear c4
      try clear c4b0
      try clear c4b1
      try clear c6
      obtain ⟨kq, x21_4, rfl, HA, HJ4, ⟨mc4, rfl⟩⟩ := hcut
      cases kq with
      | zero => exact absurd HA.out (by simp [curtilageref01_both.j0])
      | succ kj4 =>
        have H := HA.out
        clear HA
        simp only [curtilageref01_both.j0] at H
        have HC8 := Aside0.mk H
        clear H
        go_upto_if 21 with (fail)
        go_cut [8] (fun v8 wc => ∃ (kq : Nat) (x8_7 : Int), v8 = .int .u64 x8_7 ∧ Aside0 (curtilageref01_both.j1 kq a0 a1 a2 x8_7 a1 = some (r1, r2)) ∧ Aside0 (kq ≤ kj4) ∧ Drawn0 w wc)
        case first =>
          have H := HC8.out
          clear HC8
          by_cases c9 : x21_4 = true
          · subst c9
            have H1 : (curtilageref01_both.j1 kj4 a0 a1 a2 (IntKind.u64.wrap (-a0)) a1) = some (r1, r2) := by rw [if_pos rfl] at H; exact H
            clear H
            have H := H1
            clear H1
            have H' := Aside0.mk H
            clear H
            go_wp2
            go_meet
            case rel => exact ⟨_, (IntKind.u64.wrap (-a0)), (by first | rfl | (simp; done) | (simp [*]; done)), H', ⟨by have := HJ4.out; first | omega | exact Nat.le_refl _⟩, by repeat (first | exact Drawn0.refl _ | apply Drawn0.step)⟩
          · replace c9 := Bool.eq_false_iff.mpr c9
            subst c9
            have H1 : (curtilageref01_both.j1 kj4 a0 a1 a2 a0 a1) = some (r1, r2) := by rw [if_neg (show ¬ (false = true) by decide)] at H; exact H
            clear H
            have H := H1
            clear H1
            have H' := Aside0.mk H
            clear H
            go_wp2
            go_meet
            case rel => exact ⟨_, (a0), (by first | rfl | (simp; done) | (simp [*]; done)), H', ⟨by have := HJ4.out; first | omega | exact Nat.le_refl _⟩, by repeat (first | exact Drawn0.refl _ | apply Drawn0.step)⟩
        case rest =>
          clear HC8
          try clear p2
          try clear c3
          try clear c4
          try clear c4b0
          try clear c4b1
          try clear c6
          try clear c9
          try clear p2
          obtain ⟨kq, x8_7, rfl, HA, HJ7, ⟨mc7, rfl⟩⟩ := hcut
          cases kq with
          | zero => exact absurd HA.out (by simp [curtilageref01_both.j1])
          | succ kj7 =>
            have H := HA.out
            clear HA
            simp only [curtilageref01_both.j1] at H
            have HC10 := Aside0.mk H
            clear H
            go_upto_region 7 with (fail)
            go_cut [28] (fun v28 wc => ∃ (kq : Nat) (x28_9 : Bool), v28 = .bool x28_9 ∧ Aside0 (curtilageref01_both.j2 kq a0 a1 a2 x8_7 a1 x28_9 = some (r1, r2)) ∧ Aside0 (kq ≤ kj7) ∧ Drawn0 w wc)
            case first =>
              have H := HC10.out
              clear HC10
              by_cases c11 : a2 = true
              · subst c11
                have H1 : ((curtilageref01_low.f a1).bind fun t138 => (curtilageref01_both.j2 kj7 a0 a1 true x8_7 a1 t138)) = some (r1, r2) := by rw [if_pos rfl] at H; exact H
                clear H
                have H := H1
                clear H1
                replace H := Option.bind_eq_some_iff.mp H
                obtain ⟨t138, A120, H⟩ := H
                replace H : (curtilageref01_both.j2 kj7 a0 a1 true x8_7 a1 t138) = some (r1, r2) := H
                have A12 := Aside0.mk A120
                clear A120
                have H' := Aside0.mk H
                clear H
                go_wp2_with (first | (go_at_call 34; (with_reducible refine (curtilageref01_low.calls a1 t138 _ A12.out).mono ?_); rintro e w' ⟨rfl, ⟨nd, rfl⟩⟩))
                go_meet
                case rel => exact ⟨_, (t138), (by first | rfl | (simp; done) | (simp [*]; done)), H', ⟨by have := HJ4.out; have := HJ7.out; first | omega | exact Nat.le_refl _⟩, by repeat (first | exact Drawn0.refl _ | apply Drawn0.step)⟩
              · replace c11 := Bool.eq_false_iff.mpr c11
                subst c11
                have H1 : (curtilageref01_both.j2 kj7 a0 a1 false x8_7 a1 false) = some (r1, r2) := by rw [if_neg (show ¬ (false = true) by decide)] at H; exact H
                clear H
                have H := H1
                clear H1
                have H' := Aside0.mk H
                clear H
                go_wp2
                go_meet
                case rel => exact ⟨_, (false), (by first | rfl | (simp; done) | (simp [*]; done)), H', ⟨by have := HJ4.out; have := HJ7.out; first | omega | exact Nat.le_refl _⟩, by repeat (first | exact Drawn0.refl _ | apply Drawn0.step)⟩
            case rest =>
              clear HC10
              try clear c1
              try clear p2
              try clear c3
              try clear c4
              try clear c4b0
              try clear c4b1
              try clear c6
              try clear c7
              try clear c9
              try clear c11
              try clear p2
              obtain ⟨kq, x28_9, rfl, HA, HJ9, ⟨mc9, rfl⟩⟩ := hcut
              cases kq with
              | zero => exact absurd HA.out (by simp [curtilageref01_both.j2])
              | succ kj9 =>
                have H := HA.out
                clear HA
                simp only [curtilageref01_both.j2] at H
                have HC13 := Aside0.mk H
                clear H
                go_upto_if 28 with (fail)
                go_cut [9] (fun v9 wc => ∃ (kq : Nat) (x9_12 : Int), v9 = .int .u64 x9_12 ∧ Aside0 (curtilageref01_both.j3 kq a0 a1 a2 x8_7 x9_12 = some (r1, r2)) ∧ Aside0 (kq ≤ kj9) ∧ Drawn0 w wc)
                case first =>
                  have H := HC13.out
                  clear HC13
                  by_cases c14 : x28_9 = true
                  · subst c14
                    have H1 : (curtilageref01_both.j3 kj9 a0 a1 a2 x8_7 (IntKind.u64.wrap (-a1))) = some (r1, r2) := by rw [if_pos rfl] at H; exact H
                    clear H
                    have H := H1
                    clear H1
                    have H' := Aside0.mk H
                    clear H
                    go_wp2
                    go_meet
                    case rel => exact ⟨_, (IntKind.u64.wrap (-a1)), (by first | rfl | (simp; done) | (simp [*]; done)), H', ⟨by have := HJ4.out; have := HJ7.out; have := HJ9.out; first | omega | exact Nat.le_refl _⟩, by repeat (first | exact Drawn0.refl _ | apply Drawn0.step)⟩
                  · replace c14 := Bool.eq_false_iff.mpr c14
                    subst c14
                    have H1 : (curtilageref01_both.j3 kj9 a0 a1 a2 x8_7 a1) = some (r1, r2) := by rw [if_neg (show ¬ (false = true) by decide)] at H; exact H
                    clear H
                    have H := H1
                    clear H1
                    have H' := Aside0.mk H
                    clear H
                    go_wp2
                    go_meet
                    case rel => exact ⟨_, (a1), (by first | rfl | (simp; done) | (simp [*]; done)), H', ⟨by have := HJ4.out; have := HJ7.out; have := HJ9.out; first | omega | exact Nat.le_refl _⟩, by repeat (first | exact Drawn0.refl _ | apply Drawn0.step)⟩
                case rest =>
                  clear HC13
                  try clear c1
                  try clear p2
                  try clear c3
                  try clear c4
                  try clear c4b0
                  try clear c4b1
                  try clear c6
                  try clear c7
                  try clear c9
                  try clear c11
                  try clear c14
                  try clear p2
                  obtain ⟨kq, x9_12, rfl, HA, HJ12, ⟨mc12, rfl⟩⟩ := hcut
                  cases kq with
                  | zero => exact absurd HA.out (by simp [curtilageref01_both.j3])
                  | succ kj12 =>
                    have H := HA.out
                    clear HA
                    simp only [curtilageref01_both.j3] at H
                    replace H := Option.bind_eq_some_iff.mp H
                    obtain ⟨⟨t139, t140⟩, A150, H⟩ := H
                    replace H : (if a2 = true then ((curtilageref01_low.f a0).bind fun t141 => ((curtilageref01_low.f a1).bind fun t142 => (curtilageref01_both.j4 kj12 a0 a2 t139 t140 (t141 != t142)))) else (curtilageref01_both.j4 kj12 a0 a2 t139 t140 false)) = some (r1, r2) := H
                    have A15 := Aside0.mk A150
                    clear A150
                    have HC16 := Aside0.mk H
                    clear H
                    go_upto_region 10 with (first | ((with_reducible refine gate_callee (f := 35) rfl ?_); refine goesL_ (some 34) rfl rfl Try.func35 (by kernel_rfl) rfl #[.int .u64 x8_7, .int .u64 x9_12] rfl (by (try simp only [List.map_toArray, List.map_cons, List.map_nil]); first | done | rfl | (simp only [List.length_drop, List.length_take]; rfl)) ?_; (with_reducible refine (curtilageref01_divide.calls kj12 x8_7 x9_12 t139 t140 _ A15.out).mono ?_); rintro e w' ⟨rfl, ⟨nd, rfl⟩⟩; refine ⟨_, rfl, ?_⟩))
                    (try simp only [Act.put, List.setIfInBounds_toArray, List.set_cons_zero, List.set_cons_succ])
                    go_cut [44] (fun v44 wc => ∃ (kq : Nat) (x44_15 : Bool), v44 = .bool x44_15 ∧ Aside0 (curtilageref01_both.j4 kq a0 a2 t139 t140 x44_15 = some (r1, r2)) ∧ Aside0 (kq ≤ kj12) ∧ Drawn0 w wc)
                    case first =>
                      have H := HC16.out
                      clear HC16
                      by_cases c17 : a2 = true
                      · subst c17
                        have H1 : ((curtilageref01_low.f a0).bind fun t141 => ((curtilageref01_low.f a1).bind fun t142 => (curtilageref01_both.j4 kj12 a0 true t139 t140 (t141 != t142)))) = some (r1, r2) := by rw [if_pos rfl] at H; exact H
                        clear H
                        have H := H1
                        clear H1
                        replace H := Option.bind_eq_some_iff.mp H
                        obtain ⟨t141, A180, H⟩ := H
                        replace H : ((curtilageref01_low.f a1).bind fun t142 => (curtilageref01_both.j4 kj12 a0 true t139 t140 (t141 != t142))) = some (r1, r2) := H
                        have A18 := Aside0.mk A180
                        clear A180
                        replace H := Option.bind_eq_some_iff.mp H
                        obtain ⟨t142, A190, H⟩ := H
                        replace H : (curtilageref01_both.j4 kj12 a0 true t139 t140 (t141 != t142)) = some (r1, r2) := H
                        have A19 := Aside0.mk A190
                        clear A190
                        have H' := Aside0.mk H
                        clear H
                        go_wp2_with (first | (go_at_call 34; (with_reducible refine (curtilageref01_low.calls a0 t141 _ A18.out).mono ?_); rintro e w' ⟨rfl, ⟨nd, rfl⟩⟩) | (go_at_call 34; (with_reducible refine (curtilageref01_low.calls a1 t142 _ A19.out).mono ?_); rintro e w' ⟨rfl, ⟨nd, rfl⟩⟩))
                        go_meet
                        case rel => exact ⟨_, ((t141 != t142)), (by first | rfl | (simp; done) | (simp [*]; done)), H', ⟨by have := HJ4.out; have := HJ7.out; have := HJ9.out; have := HJ12.out; first | omega | exact Nat.le_refl _⟩, by repeat (first | exact Drawn0.refl _ | apply Drawn0.step)⟩
                      · replace c17 := Bool.eq_false_iff.mpr c17
                        subst c17
                        have H1 : (curtilageref01_both.j4 kj12 a0 false t139 t140 false) = some (r1, r2) := by rw [if_neg (show ¬ (false = true) by decide)] at H; exact H
                        clear H
                        have H := H1
                        clear H1
                        have H' := Aside0.mk H
                        clear H
                        go_wp2
                        go_meet
                        case rel => exact ⟨_, (false), (by first | rfl | (simp; done) | (simp [*]; done)), H', ⟨by have := HJ4.out; have := HJ7.out; have := HJ9.out; have := HJ12.out; first | omega | exact Nat.le_refl _⟩, by repeat (first | exact Drawn0.refl _ | apply Drawn0.step)⟩
                    case rest =>
                      clear HC16
                      try clear c1
                      try clear p2
                      try clear c3
                      try clear c4
                      try clear c4b0
                      try clear c4b1
                      try clear c6
                      try clear c7
                      try clear c9
                      try clear c11
                      try clear c12
                      try clear c14
                      try clear c17
                      try clear p2
                      obtain ⟨kq, x44_15, rfl, HA, HJ15, ⟨mc15, rfl⟩⟩ := hcut
                      cases kq with
                      | zero => exact absurd HA.out (by simp [curtilageref01_both.j4])
                      | succ kj15 =>
                        have H := HA.out
                        clear HA
                        simp only [curtilageref01_both.j4] at H
                        by_cases c20 : x44_15 = true
                        · subst c20
                          have H1 : (if a2 = true then ((curtilageref01_low.f a0).bind fun t143 => (if t143 = true then (some (IntKind.u64.wrap (-t139), IntKind.u64.wrap (-t140))) else (some (IntKind.u64.wrap (-t139), t140)))) else (some (IntKind.u64.wrap (-t139), t140))) = some (r1, r2) := by rw [if_pos rfl] at H; exact H
                          clear H
                          have H := H1
                          clear H1
                          by_cases c21 : a2 = true
                          · subst c21
                            have H1 : ((curtilageref01_low.f a0).bind fun t143 => (if t143 = true then (some (IntKind.u64.wrap (-t139), IntKind.u64.wrap (-t140))) else (some (IntKind.u64.wrap (-t139), t140)))) = some (r1, r2) := by rw [if_pos rfl] at H; exact H
                            clear H
                            have H := H1
                            clear H1
                            replace H := Option.bind_eq_some_iff.mp H
                            obtain ⟨t143, A220, H⟩ := H
                            replace H : (if t143 = true then (some (IntKind.u64.wrap (-t139), IntKind.u64.wrap (-t140))) else (some (IntKind.u64.wrap (-t139), t140))) = some (r1, r2) := H
                            have A22 := Aside0.mk A220
                            clear A220
                            by_cases c23 : t143 = true
                            · subst c23
                              have H1 : (some (IntKind.u64.wrap (-t139), IntKind.u64.wrap (-t140))) = some (r1, r2) := by rw [if_pos rfl] at H; exact H
                              clear H
                              have H := H1
                              clear H1
                              simp only [Option.some.injEq, Prod.mk.injEq] at H
                              obtain ⟨rfl, rfl⟩ := H
                              go_wp2_with (first | (go_at_call 34; (with_reducible refine (curtilageref01_low.calls a0 true _ A22.out).mono ?_); rintro e w' ⟨rfl, ⟨nd, rfl⟩⟩))
                              go_ret2
                              exact ⟨by first | rfl | (simp; done) | (simp [*]; done), by repeat (first | exact Drawn0.refl _ | apply Drawn0.step)⟩
                            · replace c23 := Bool.eq_false_iff.mpr c23
                              subst c23
                              have H1 : (some (IntKind.u64.wrap (-t139), t140)) = some (r1, r2) := by rw [if_neg (show ¬ (false = true) by decide)] at H; exact H
                              clear H
                              have H := H1
                              clear H1
                              simp only [Option.some.injEq, Prod.mk.injEq] at H
                              obtain ⟨rfl, rfl⟩ := H
                              go_wp2_with (first | (go_at_call 34; (with_reducible refine (curtilageref01_low.calls a0 false _ A22.out).mono ?_); rintro e w' ⟨rfl, ⟨nd, rfl⟩⟩))
                              go_ret2
                              exact ⟨by first | rfl | (simp; done) | (simp [*]; done), by repeat (first | exact Drawn0.refl _ | apply Drawn0.step)⟩
                          · replace c21 := Bool.eq_false_iff.mpr c21
                            subst c21
                            have H1 : (some (IntKind.u64.wrap (-t139), t140)) = some (r1, r2) := by rw [if_neg (show ¬ (false = true) by decide)] at H; exact H
                            clear H
                            have H := H1
                            clear H1
                            simp only [Option.some.injEq, Prod.mk.injEq] at H
                            obtain ⟨rfl, rfl⟩ := H
                            go_wp2
                            go_ret2
                            exact ⟨by first | rfl | (simp; done) | (simp [*]; done), by repeat (first | exact Drawn0.refl _ | apply Drawn0.step)⟩
                        · replace c20 := Bool.eq_false_iff.mpr c20
                          subst c20
                          have H1 : (if a2 = true then ((curtilageref01_low.f a0).bind fun t144 => (if t144 = true then (some (t139, IntKind.u64.wrap (-t140))) else (some (t139, t140)))) else (some (t139, t140))) = some (r1, r2) := by rw [if_neg (show ¬ (false = true) by decide)] at H; exact H
                          clear H
                          have H := H1
                          clear H1
                          by_cases c24 : a2 = true
                          · subst c24
                            have H1 : ((curtilageref01_low.f a0).bind fun t144 => (if t144 = true then (some (t139, IntKind.u64.wrap (-t140))) else (some (t139, t140)))) = some (r1, r2) := by rw [if_pos rfl] at H; exact H
                            clear H
                            have H := H1
                            clear H1
                            replace H := Option.bind_eq_some_iff.mp H
                            obtain ⟨t144, A250, H⟩ := H
                            replace H : (if t144 = true then (some (t139, IntKind.u64.wrap (-t140))) else (some (t139, t140))) = some (r1, r2) := H
                            have A25 := Aside0.mk A250
                            clear A250
                            by_cases c26 : t144 = true
                            · subst c26
                              have H1 : (some (t139, IntKind.u64.wrap (-t140))) = some (r1, r2) := by rw [if_pos rfl] at H; exact H
                              clear H
                              have H := H1
                              clear H1
                              simp only [Option.some.injEq, Prod.mk.injEq] at H
                              obtain ⟨rfl, rfl⟩ := H
                              go_wp2_with (first | (go_at_call 34; (with_reducible refine (curtilageref01_low.calls a0 true _ A25.out).mono ?_); rintro e w' ⟨rfl, ⟨nd, rfl⟩⟩))
                              go_ret2
                              exact ⟨by first | rfl | (simp; done) | (simp [*]; done), by repeat (first | exact Drawn0.refl _ | apply Drawn0.step)⟩
                            · replace c26 := Bool.eq_false_iff.mpr c26
                              subst c26
                              have H1 : (some (t139, t140)) = some (r1, r2) := by rw [if_neg (show ¬ (false = true) by decide)] at H; exact H
                              clear H
                              have H := H1
                              clear H1
                              simp only [Option.some.injEq, Prod.mk.injEq] at H
                              obtain ⟨rfl, rfl⟩ := H
                              go_wp2_with (first | (go_at_call 34; (with_reducible refine (curtilageref01_low.calls a0 false _ A25.out).mono ?_); rintro e w' ⟨rfl, ⟨nd, rfl⟩⟩))
                              go_ret2
                              exact ⟨by first | rfl | (simp; done) | (simp [*]; done), by repeat (first | exact Drawn0.refl _ | apply Drawn0.step)⟩
                          · replace c24 := Bool.eq_false_iff.mpr c24
                            subst c24
                            have H1 : (some (t139, t140)) = some (r1, r2) := by rw [if_neg (show ¬ (false = true) by decide)] at H; exact H
                            clear H
                            have H := H1
                            clear H1
                            simp only [Option.some.injEq, Prod.mk.injEq] at H
                            obtain ⟨rfl, rfl⟩ := H
                            go_wp2
                            go_ret2
                            exact ⟨by first | rfl | (simp; done) | (simp [*]; done), by repeat (first | exact Drawn0.refl _ | apply Drawn0.step)⟩

/-! ### curtilageref01_Quotient: function 22 -/
def curtilageref01_Quotient.f (k : Nat) (a0 : Int) (a1 : Int) (a2 : Bool) : Option (Int) := (curtilageref01_both.f k a0 a1 a2).bind fun bt145 => (some bt145.1)
theorem curtilageref01_Quotient.mono : ∀ a0 a1 a2 k, LeO (curtilageref01_Quotient.f k a0 a1 a2) (curtilageref01_Quotient.f (k + 1) a0 a1 a2) := by
  intro a0 a1 a2 k
  unfold curtilageref01_Quotient.f
  repeat' first
      | (with_reducible exact curtilageref01_both.mono _ _ _ _)
      | (with_reducible exact LeO.refl _)
      | (with_reducible exact LeO.none _)
      | (with_reducible refine LeO.ite ?_ ?_)
      | (with_reducible refine LeO.bind ?_ (fun _ => ?_))
      | exact curtilageref01_both.mono _ _ _ _
      | exact LeO.none _
      | refine LeO.ite ?_ ?_
      | refine LeO.bind ?_ (fun _ => ?_)
set_option maxHeartbeats 8000000 in
set_option maxRecDepth 100000 in
theorem curtilageref01_Quotient.calls (k : Nat) (a0 : Int) (a1 : Int) (a2 : Bool) (r : Int) (w : World) (h : curtilageref01_Quotient.f k a0 a1 a2 = some r) :
    Calls Try.prog 22 #[.int .u64 a0, .int .u64 a1, .bool a2] w fun e w' => e = .returned (.int .u64 r) ∧ Drawn0 w w' := by
  have H : ((curtilageref01_both.f k a0 a1 a2).bind fun bt145 => (some bt145.1)) = some r := h
  clear h
  replace H := Option.bind_eq_some_iff.mp H
  obtain ⟨⟨t145, t146⟩, A40, H⟩ := H
  replace H : (some t145) = some r := H
  have A4 := Aside0.mk A40
  clear A40
  obtain rfl := Option.some.inj H
  go_enter Try.func22, Try.ntmps22
  go_wp2_with (first | ((with_reducible refine gate_callee (f := 33) rfl ?_); refine goesL_ (some 13) rfl rfl Try.func33 (by kernel_rfl) rfl #[.int .u64 a0, .int .u64 a1, .bool a2] rfl (by (try simp only [List.map_toArray, List.map_cons, List.map_nil]); first | done | rfl | (simp only [List.length_drop, List.length_take]; rfl)) ?_; (with_reducible refine (curtilageref01_both.calls k a0 a1 a2 t145 t146 _ A4.out).mono ?_); rintro e w' ⟨rfl, ⟨nd, rfl⟩⟩; refine ⟨_, rfl, ?_⟩))
  go_ret
  exact ⟨by first | rfl | (simp; done) | (simp [*]; done), by repeat (first | exact Drawn0.refl _ | apply Drawn0.step)⟩

/-! ### curtilageref01_Rest: function 23 -/
def curtilageref01_Rest.f (k : Nat) (a0 : Int) (a1 : Int) (a2 : Bool) : Option (Int) := (curtilageref01_both.f k a0 a1 a2).bind fun bt147 => (some bt147.2)
theorem curtilageref01_Rest.mono : ∀ a0 a1 a2 k, LeO (curtilageref01_Rest.f k a0 a1 a2) (curtilageref01_Rest.f (k + 1) a0 a1 a2) := by
  intro a0 a1 a2 k
  unfold curtilageref01_Rest.f
  repeat' first
      | (with_reducible exact curtilageref01_both.mono _ _ _ _)
      | (with_reducible exact LeO.refl _)
      | (with_reducible exact LeO.none _)
      | (with_reducible refine LeO.ite ?_ ?_)
      | (with_reducible refine LeO.bind ?_ (fun _ => ?_))
      | exact curtilageref01_both.mono _ _ _ _
      | exact LeO.none _
      | refine LeO.ite ?_ ?_
      | refine LeO.bind ?_ (fun _ => ?_)
set_option maxHeartbeats 8000000 in
set_option maxRecDepth 100000 in
theorem curtilageref01_Rest.calls (k : Nat) (a0 : Int) (a1 : Int) (a2 : Bool) (r : Int) (w : World) (h : curtilageref01_Rest.f k a0 a1 a2 = some r) :
    Calls Try.prog 23 #[.int .u64 a0, .int .u64 a1, .bool a2] w fun e w' => e = .returned (.int .u64 r) ∧ Drawn0 w w' := by
  have H : ((curtilageref01_both.f k a0 a1 a2).bind fun bt147 => (some bt147.2)) = some r := h
  clear h
  replace H := Option.bind_eq_some_iff.mp H
  obtain ⟨⟨t147, t148⟩, A40, H⟩ := H
  replace H : (some t148) = some r := H
  have A4 := Aside0.mk A40
  clear A40
  obtain rfl := Option.some.inj H
  go_enter Try.func23, Try.ntmps23
  go_wp2_with (first | ((with_reducible refine gate_callee (f := 33) rfl ?_); refine goesL_ (some 13) rfl rfl Try.func33 (by kernel_rfl) rfl #[.int .u64 a0, .int .u64 a1, .bool a2] rfl (by (try simp only [List.map_toArray, List.map_cons, List.map_nil]); first | done | rfl | (simp only [List.length_drop, List.length_take]; rfl)) ?_; (with_reducible refine (curtilageref01_both.calls k a0 a1 a2 t147 t148 _ A4.out).mono ?_); rintro e w' ⟨rfl, ⟨nd, rfl⟩⟩; refine ⟨_, rfl, ?_⟩))
  go_ret
  exact ⟨by first | rfl | (simp; done) | (simp [*]; done), by repeat (first | exact Drawn0.refl _ | apply Drawn0.step)⟩

-- NOT PRINTED: function 4 (curtilagelaw01_WordReckons)

end Go.Proofs.Ytpjlceiemgfcfaa.PWordReckons
