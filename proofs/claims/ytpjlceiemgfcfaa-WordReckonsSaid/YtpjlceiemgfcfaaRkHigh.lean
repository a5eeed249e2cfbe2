/- WordReckons, the machine's side of two functions: the reference's High (an upper half of a product, by addition of 128 bits) and the law itself come to what the functions printed here tell; no condition but that these tell an answer. -/
import Derived.Test.YtpjlceiemgfcfaaPWordReckonsx0
import Derived.Test.YtpjlceiemgfcfaaPWordReckonsx3
namespace Go.Proofs.Ytpjlceiemgfcfaa.PWordReckons
open Go.RowKit Go.Proofs.YtpjlceiemgfcfaaW.PrintWords Go.Proofs.YtpjlceiemgfcfaaW.PrintLast Go.Proofs.YtpjlceiemgfcfaaW.PrintMore
attribute [local go_sem] max2_int min2_int max_two min_two max_three min_three max_four min_four
set_option linter.unusedVariables false
set_option linter.unusedSimpArgs false

/-! ### curtilageref01_High: function 21 -/
mutual
def curtilageref01_High.j0 : Nat → Int → Bool → Int → Int → Int → Int → Bool → Option (Int)
  | 0, _, _, _, _, _, _, _ => none
  | k + 1, x1, x3, x9, x10, x11, x12, x22 => if x22 = true then (curtilageref01_High.j1 k x1 x3 x9 x10 18446744073709551615 x12) else (curtilageref01_High.j1 k x1 x3 x9 x10 x11 x12)
def curtilageref01_High.j1 : Nat → Int → Bool → Int → Int → Int → Int → Option (Int)
  | 0, _, _, _, _, _, _ => none
  | k + 1, x1, x3, x9, x10, x11, x12 => curtilageref01_High.l0 k x1 x3 x9 x10 x11 x12 0
def curtilageref01_High.l0 : Nat → Int → Bool → Int → Int → Int → Int → Int → Option (Int)
  | 0, _, _, _, _, _, _, _ => none
  | k + 1, x1, x3, x9, x10, x11, x12, x13 => if x13 < 64 then ((curtilageref01_bit.f x1 x13).bind fun t135 => (if t135 = 1 then (if x13 = 63 then (curtilageref01_High.j3 k x1 x3 x9 x10 x11 x12 x13 x11 x12 x3) else (curtilageref01_High.j3 k x1 x3 x9 x10 x11 x12 x13 x11 x12 false)) else (curtilageref01_High.l0 k x1 x3 x9 x10 (Go.bits .or .u64 (IntKind.u64.wrap (x11 * 2)) (x12 / 9223372036854775808)) (IntKind.u64.wrap (x12 * 2)) (wrap64 (x13 + 1))))) else (some x9)
def curtilageref01_High.j3 : Nat → Int → Bool → Int → Int → Int → Int → Int → Int → Int → Bool → Option (Int)
  | 0, _, _, _, _, _, _, _, _, _, _ => none
  | k + 1, x1, x3, x9, x10, x11, x12, x13, x14, x15, x37 => if x37 = true then ((curtilageref01_add.f (Go.bits .xor .u64 18446744073709551615 x11) (Go.bits .xor .u64 18446744073709551615 x12) 0 1).bind fun bt136 => ((curtilageref01_add.f x9 x10 bt136.1 bt136.2).bind fun bt138 => (curtilageref01_High.l0 k x1 x3 bt138.1 bt138.2 (Go.bits .or .u64 (IntKind.u64.wrap (x11 * 2)) (x12 / 9223372036854775808)) (IntKind.u64.wrap (x12 * 2)) (wrap64 (x13 + 1))))) else ((curtilageref01_add.f x9 x10 x14 x15).bind fun bt140 => (curtilageref01_High.l0 k x1 x3 bt140.1 bt140.2 (Go.bits .or .u64 (IntKind.u64.wrap (x11 * 2)) (x12 / 9223372036854775808)) (IntKind.u64.wrap (x12 * 2)) (wrap64 (x13 + 1))))
end
def curtilageref01_High.f (k : Nat) (a0 : Int) (a1 : Int) (a2 : Bool) (a3 : Bool) : Option (Int) := if a2 = true then ((curtilageref01_bit.f a0 63).bind fun t134 => (curtilageref01_High.j0 k a1 a3 0 0 0 a0 (t134 == 1))) else (curtilageref01_High.j0 k a1 a3 0 0 0 a0 false)
theorem curtilageref01_High.mono_l : ∀ k, (∀ y0 y1 y2 y3 y4 y5 y6, LeO (curtilageref01_High.j0 k y0 y1 y2 y3 y4 y5 y6) (curtilageref01_High.j0 (k + 1) y0 y1 y2 y3 y4 y5 y6)) ∧ (∀ y0 y1 y2 y3 y4 y5, LeO (curtilageref01_High.j1 k y0 y1 y2 y3 y4 y5) (curtilageref01_High.j1 (k + 1) y0 y1 y2 y3 y4 y5)) ∧ (∀ y0 y1 y2 y3 y4 y5 y6, LeO (curtilageref01_High.l0 k y0 y1 y2 y3 y4 y5 y6) (curtilageref01_High.l0 (k + 1) y0 y1 y2 y3 y4 y5 y6)) ∧ (∀ y0 y1 y2 y3 y4 y5 y6 y7 y8 y9, LeO (curtilageref01_High.j3 k y0 y1 y2 y3 y4 y5 y6 y7 y8 y9) (curtilageref01_High.j3 (k + 1) y0 y1 y2 y3 y4 y5 y6 y7 y8 y9))
  | 0 => ⟨fun _ _ _ _ _ _ _ r h => by simp [curtilageref01_High.j0] at h, fun _ _ _ _ _ _ r h => by simp [curtilageref01_High.j1] at h, fun _ _ _ _ _ _ _ r h => by simp [curtilageref01_High.l0] at h, fun _ _ _ _ _ _ _ _ _ _ r h => by simp [curtilageref01_High.j3] at h⟩
  | k + 1 => by
    obtain ⟨ih0, ih1, ih2, ih3⟩ := curtilageref01_High.mono_l k
    refine ⟨?_, ?_, ?_, ?_⟩
    · intro y0 y1 y2 y3 y4 y5 y6
      unfold curtilageref01_High.j0
      repeat' first
      | (with_reducible exact ih0 _ _ _ _ _ _ _)
      | (with_reducible exact ih1 _ _ _ _ _ _)
      | (with_reducible exact ih2 _ _ _ _ _ _ _)
      | (with_reducible exact ih3 _ _ _ _ _ _ _ _ _ _)
      | (with_reducible exact LeO.refl _)
      | (with_reducible exact LeO.none _)
      | (with_reducible refine LeO.ite ?_ ?_)
      | (with_reducible refine LeO.bind ?_ (fun _ => ?_))
      | exact ih0 _ _ _ _ _ _ _
      | exact ih1 _ _ _ _ _ _
      | exact ih2 _ _ _ _ _ _ _
      | exact ih3 _ _ _ _ _ _ _ _ _ _
      | exact LeO.none _
      | refine LeO.ite ?_ ?_
      | refine LeO.bind ?_ (fun _ => ?_)
    · intro y0 y1 y2 y3 y4 y5
      unfold curtilageref01_High.j1
      repeat' first
      | (with_reducible exact ih0 _ _ _ _ _ _ _)
      | (with_reducible exact ih1 _ _ _ _ _ _)
      | (with_reducible exact ih2 _ _ _ _ _ _ _)
      | (with_reducible exact ih3 _ _ _ _ _ _ _ _ _ _)
      | (with_reducible exact LeO.refl _)
      | (with_reducible exact LeO.none _)
      | (with_reducible refine LeO.ite ?_ ?_)
      | (with_reducible refine LeO.bind ?_ (fun _ => ?_))
      | exact ih0 _ _ _ _ _ _ _
      | exact ih1 _ _ _ _ _ _
      | exact ih2 _ _ _ _ _ _ _
      | exact ih3 _ _ _ _ _ _ _ _ _ _
      | exact LeO.none _
      | refine LeO.ite ?_ ?_
      | refine LeO.bind ?_ (fun _ => ?_)
    · intro y0 y1 y2 y3 y4 y5 y6
      unfold curtilageref01_High.l0
      repeat' first
      | (with_reducible exact ih0 _ _ _ _ _ _ _)
      | (with_reducible exact ih1 _ _ _ _ _ _)
      | (with_reducible exact ih2 _ _ _ _ _ _ _)
      | (with_reducible exact ih3 _ _ _ _ _ _ _ _ _ _)
      | (with_reducible exact LeO.refl _)
      | (with_reducible exact LeO.none _)
      | (with_reducible refine LeO.ite ?_ ?_)
      | (with_reducible refine LeO.bind ?_ (fun _ => ?_))
      | exact ih0 _ _ _ _ _ _ _
      | exact ih1 _ _ _ _ _ _
      | exact ih2 _ _ _ _ _ _ _
      | exact ih3 _ _ _ _ _ _ _ _ _ _
      | exact LeO.none _
      | refine LeO.ite ?_ ?_
      | refine LeO.bind ?_ (fun _ => ?_)
    · intro y0 y1 y2 y3 y4 y5 y6 y7 y8 y9
      unfold curtilageref01_High.j3
      repeat' first
      | (with_reducible exact ih0 _ _ _ _ _ _ _)
      | (with_reducible exact ih1 _ _ _ _ _ _)
      | (with_reducible exact ih2 _ _ _ _ _ _ _)
      | (with_reducible exact ih3 _ _ _ _ _ _ _ _ _ _)
      | (with_reducible exact LeO.refl _)
      | (with_reducible exact LeO.none _)
      | (with_reducible refine LeO.ite ?_ ?_)
      | (with_reducible refine LeO.bind ?_ (fun _ => ?_))
      | exact ih0 _ _ _ _ _ _ _
      | exact ih1 _ _ _ _ _ _
      | exact ih2 _ _ _ _ _ _ _
      | exact ih3 _ _ _ _ _ _ _ _ _ _
      | exact LeO.none _
      | refine LeO.ite ?_ ?_
      | refine LeO.bind ?_ (fun _ => ?_)
theorem curtilageref01_High.mono : ∀ a0 a1 a2 a3 k, LeO (curtilageref01_High.f k a0 a1 a2 a3) (curtilageref01_High.f (k + 1) a0 a1 a2 a3) := by
  intro a0 a1 a2 a3 k
  obtain ⟨ih0, ih1, ih2, ih3⟩ := curtilageref01_High.mono_l k
  unfold curtilageref01_High.f
  repeat' first
      | (with_reducible exact ih0 _ _ _ _ _ _ _)
      | (with_reducible exact ih1 _ _ _ _ _ _)
      | (with_reducible exact ih2 _ _ _ _ _ _ _)
      | (with_reducible exact ih3 _ _ _ _ _ _ _ _ _ _)
      | (with_reducible exact LeO.refl _)
      | (with_reducible exact LeO.none _)
      | (with_reducible refine LeO.ite ?_ ?_)
      | (with_reducible refine LeO.bind ?_ (fun _ => ?_))
      | exact ih0 _ _ _ _ _ _ _
      | exact ih1 _ _ _ _ _ _
      | exact ih2 _ _ _ _ _ _ _
      | exact ih3 _ _ _ _ _ _ _ _ _ _
      | exact LeO.none _
      | refine LeO.ite ?_ ?_
      | refine LeO.bind ?_ (fun _ => ?_)
set_option maxHeartbeats 8000000 in
set_option maxRecDepth 100000 in
theorem curtilageref01_High.calls (k : Nat) (a0 : Int) (a1 : Int) (a2 : Bool) (a3 : Bool) (r : Int) (w : World) (h : curtilageref01_High.f k a0 a1 a2 a3 = some r) :
    Calls Try.prog 21 #[.int .u64 a0, .int .u64 a1, .bool a2, .bool a3] w fun e w' => e = .returned (.int .u64 r) ∧ Drawn0 w w' := by
  have H : (if a2 = true then ((curtilageref01_bit.f a0 63).bind fun t134 => (curtilageref01_High.j0 k a1 a3 0 0 0 a0 (t134 == 1))) else (curtilageref01_High.j0 k a1 a3 0 0 0 a0 false)) = some r := h
  clear h
  have HC5 := Aside0.mk H
  clear H
  go_enter Try.func21, Try.ntmps21
  go_upto_region 5 with (fail)
  go_cut [22] (fun v22 wc => ∃ (kq : Nat) (x22_4 : Bool), v22 = .bool x22_4 ∧ Aside0 (curtilageref01_High.j0 kq a1 a3 0 0 0 a0 x22_4 = some r) ∧ Aside0 (kq ≤ k) ∧ Drawn0 w wc)
  case first =>
    have H := HC5.out
    clear HC5
    by_cases c6 : a2 = true
    · subst c6
      have H1 : ((curtilageref01_bit.f a0 63).bind fun t134 => (curtilageref01_High.j0 k a1 a3 0 0 0 a0 (t134 == 1))) = some r := by rw [if_pos rfl] at H; exact H
      clear H
      have H := H1
      clear H1
      replace H := Option.bind_eq_some_iff.mp H
      obtain ⟨t134, A70, H⟩ := H
      replace H : (curtilageref01_High.j0 k a1 a3 0 0 0 a0 (t134 == 1)) = some r := H
      have A7 := Aside0.mk A70
      clear A70
      have H' := Aside0.mk H
      clear H
      go_wp2_with (first | (go_at_call 29; (with_reducible refine (curtilageref01_bit.calls a0 63 t134 _ A7.out).mono ?_); rintro e w' ⟨rfl, ⟨nd, rfl⟩⟩))
      go_meet
      case rel => exact ⟨_, ((t134 == 1)), (by first | rfl | (simp; done) | (simp [*]; done)), H', ⟨by first | omega | exact Nat.le_refl _⟩, by repeat (first | exact Drawn0.refl _ | apply Drawn0.step)⟩
    · replace c6 := Bool.eq_false_iff.mpr c6
      subst c6
      have H1 : (curtilageref01_High.j0 k a1 a3 0 0 0 a0 false) = some r := by rw [if_neg (show ¬ (false = true) by decide)] at H; exact H
      clear H
      have H := H1
      clear H1
      have H' := Aside0.mk H
      clear H
      go_wp2
      go_meet
      case rel => exact ⟨_, (false), (by first | rfl | (simp; done) | (simp [*]; done)), H', ⟨by first | omega | exact Nat.le_refl _⟩, by repeat (first | exact Drawn0.refl _ | apply Drawn0.step)⟩
  case rest =>
    clear HC5
    try clear c2
    try clear p2
    try clear c6
    obtain ⟨kq, x22_4, rfl, HA, HJ4, ⟨mc4, rfl⟩⟩ := hcut
    cases kq with
    | zero => exact absurd HA.out (by simp [curtilageref01_High.j0])
    | succ kj4 =>
      have H := HA.out
      clear HA
      simp only [curtilageref01_High.j0] at H
      have HC8 := Aside0.mk H
      clear H
      go_upto_if 22 with (fail)
      go_cut [11] (fun v11 wc => ∃ (kq : Nat) (x11_7 : Int), v11 = .int .u64 x11_7 ∧ Aside0 (curtilageref01_High.j1 kq a1 a3 0 0 x11_7 a0 = some r) ∧ Aside0 (kq ≤ kj4) ∧ Drawn0 w wc)
      case first =>
        have H := HC8.out
        clear HC8
        by_cases c9 : x22_4 = true
        · subst c9
          have H1 : (curtilageref01_High.j1 kj4 a1 a3 0 0 18446744073709551615 a0) = some r := by rw [if_pos rfl] at H; exact H
          clear H
          have H := H1
          clear H1
          have H' := Aside0.mk H
          clear H
          go_wp2
          go_meet
          case rel => exact ⟨_, (18446744073709551615), (by first | rfl | (simp; done) | (simp [*]; done)), H', ⟨by have := HJ4.out; first | omega | exact Nat.le_refl _⟩, by repeat (first | exact Drawn0.refl _ | apply Drawn0.step)⟩
        · replace c9 := Bool.eq_false_iff.mpr c9
          subst c9
          have H1 : (curtilageref01_High.j1 kj4 a1 a3 0 0 0 a0) = some r := by rw [if_neg (show ¬ (false = true) by decide)] at H; exact H
          clear H
          have H := H1
          clear H1
          have H' := Aside0.mk H
          clear H
          go_wp2
          go_meet
          case rel => exact ⟨_, (0), (by first | rfl | (simp; done) | (simp [*]; done)), H', ⟨by have := HJ4.out; first | omega | exact Nat.le_refl _⟩, by repeat (first | exact Drawn0.refl _ | apply Drawn0.step)⟩
      case rest =>
        clear HC8
        try clear c2
        try clear p2
        try clear c4
        try clear c6
        try clear c9
        try clear p2
        obtain ⟨kq, x11_7, rfl, HA, HJ7, ⟨mc7, rfl⟩⟩ := hcut
        cases kq with
        | zero => exact absurd HA.out (by simp [curtilageref01_High.j1])
        | succ kj7 =>
          have H := HA.out
          clear HA
          simp only [curtilageref01_High.j1] at H
          have H' := Aside0.mk H
          clear H
          go_wp2
          go_loopg [9, 10, 11, 12, 13] kj7 (fun kq v9 v10 v11 v12 v13 w' => ∃ (x9_3 : Int) (x10_3 : Int) (x11_3 : Int) (x12_3 : Int) (x13_3 : Int), v9 = .int .u64 x9_3 ∧ v10 = .int .u64 x10_3 ∧ v11 = .int .u64 x11_3 ∧ v12 = .int .u64 x12_3 ∧ v13 = .int .i64 x13_3 ∧ Aside0 (curtilageref01_High.l0 kq a1 a3 x9_3 x10_3 x11_3 x12_3 x13_3 = some r) ∧ Aside0 (kq ≤ kj7) ∧ Drawn0 w w')
          case atStart => exact ⟨(0), (0), (x11_7), (a0), (0), (by first | rfl | (simp; done) | (simp [*]; done)), (by first | rfl | (simp; done) | (simp [*]; done)), (by first | rfl | (simp; done) | (simp [*]; done)), (by first | rfl | (simp; done) | (simp [*]; done)), (by first | rfl | (simp; done) | (simp [*]; done)), H', ⟨Nat.le_refl _⟩, by repeat (first | exact Drawn0.refl _ | apply Drawn0.step)⟩
          case round =>
            clear H'
            try clear c2
            try clear p2
            try clear c4
            try clear c6
            try clear c7
            try clear c9
            try clear p2
            obtain ⟨x9_3, x10_3, x11_3, x12_3, x13_3, rfl, rfl, rfl, rfl, rfl, HA, HK3, ⟨m3, rfl⟩⟩ := hrel
            cases gk with
            | zero => exact absurd HA.out (by simp [curtilageref01_High.l0])
            | succ k3 =>
              have H := HA.out
              clear HA
              simp only [curtilageref01_High.l0] at H
              by_cases c10 : x13_3 < 64
              · rw [if_pos c10] at H
                have c10b0 : decide (x13_3 < 64) = true := decide_eq_true c10
                clear c10
                replace H := Option.bind_eq_some_iff.mp H
                obtain ⟨t135, A110, H⟩ := H
                replace H : (if t135 = 1 then (if x13_3 = 63 then (curtilageref01_High.j3 k3 a1 a3 x9_3 x10_3 x11_3 x12_3 x13_3 x11_3 x12_3 a3) else (curtilageref01_High.j3 k3 a1 a3 x9_3 x10_3 x11_3 x12_3 x13_3 x11_3 x12_3 false)) else (curtilageref01_High.l0 k3 a1 a3 x9_3 x10_3 (Go.bits .or .u64 (IntKind.u64.wrap (x11_3 * 2)) (x12_3 / 9223372036854775808)) (IntKind.u64.wrap (x12_3 * 2)) (wrap64 (x13_3 + 1)))) = some r := H
                have A11 := Aside0.mk A110
                clear A110
                by_cases c12 : t135 = 1
                · rw [if_pos c12] at H
                  have c12b0 : (t135 == 1) = true := beq_iff_eq.mpr c12
                  have c12b1 : (t135 != 1) = false := bne_eq_false_iff_eq.mpr c12
                  clear c12
                  have HC13 := Aside0.mk H
                  clear H
                  go_upto_region 13 with (first | ((with_reducible refine gate_callee (f := 29) rfl ?_); refine goesL_ (some 29) rfl rfl Try.func29 (by kernel_rfl) rfl #[.int .u64 a1, .int .i64 x13_3] rfl (by (try simp only [List.map_toArray, List.map_cons, List.map_nil]); first | done | rfl | (simp only [List.length_drop, List.length_take]; rfl)) ?_; (with_reducible refine (curtilageref01_bit.calls a1 x13_3 t135 _ A11.out).mono ?_); rintro e w' ⟨rfl, ⟨nd, rfl⟩⟩; refine ⟨_, rfl, ?_⟩))
                  (try simp only [Act.put, List.setIfInBounds_toArray, List.set_cons_zero, List.set_cons_succ])
                  go_cut [37] (fun v37 wc => ∃ (kq : Nat) (x37_12 : Bool), v37 = .bool x37_12 ∧ Aside0 (curtilageref01_High.j3 kq a1 a3 x9_3 x10_3 x11_3 x12_3 x13_3 x11_3 x12_3 x37_12 = some r) ∧ Aside0 (kq ≤ k3) ∧ Drawn0 w wc)
                  case first =>
                    have H := HC13.out
                    clear HC13
                    by_cases c14 : x13_3 = 63
                    · rw [if_pos c14] at H
                      have c14b0 : (x13_3 == 63) = true := beq_iff_eq.mpr c14
                      have c14b1 : (x13_3 != 63) = false := bne_eq_false_iff_eq.mpr c14
                      clear c14
                      (first | rw [c14b0] | (simp only [i64_w, i32_w]; rw [c14b0]) | skip)
                      have H' := Aside0.mk H
                      clear H
                      go_wp2
                      go_meet
                      case rel => exact ⟨_, (a3), (by first | rfl | (simp; done) | (simp [*]; done)), H', ⟨by have := HJ4.out; have := HJ7.out; have := HK3.out; first | omega | exact Nat.le_refl _⟩, by repeat (first | exact Drawn0.refl _ | apply Drawn0.step)⟩
                    · rw [if_neg c14] at H
                      have c14b0 : (x13_3 == 63) = false := beq_eq_false_iff_ne.mpr c14
                      have c14b1 : (x13_3 != 63) = true := bne_iff_ne.mpr c14
                      (first | rw [c14b0] | (simp only [i64_w, i32_w]; rw [c14b0]) | skip)
                      have H' := Aside0.mk H
                      clear H
                      go_wp2
                      go_meet
                      case rel => exact ⟨_, (false), (by first | rfl | (simp; done) | (simp [*]; done)), H', ⟨by have := HJ4.out; have := HJ7.out; have := HK3.out; first | omega | exact Nat.le_refl _⟩, by repeat (first | exact Drawn0.refl _ | apply Drawn0.step)⟩
                  case rest =>
                    clear HC13
                    try clear c1
                    try clear c2
                    try clear p2
                    try clear c4
                    try clear c6
                    try clear p6
                    try clear c7
                    try clear c9
                    try clear c10
                    try clear c10b0
                    try clear c12
                    try clear c12b0
                    try clear c12b1
                    try clear c14
                    try clear c14b0
                    try clear c14b1
                    try clear p2
                    obtain ⟨kq, x37_12, rfl, HA, HJ12, ⟨mc12, rfl⟩⟩ := hcut
                    cases kq with
                    | zero => exact absurd HA.out (by simp [curtilageref01_High.j3])
                    | succ kj12 =>
                      have H := HA.out
                      clear HA
                      simp only [curtilageref01_High.j3] at H
                      by_cases c15 : x37_12 = true
                      · subst c15
                        have H1 : ((curtilageref01_add.f (Go.bits .xor .u64 18446744073709551615 x11_3) (Go.bits .xor .u64 18446744073709551615 x12_3) 0 1).bind fun bt136 => ((curtilageref01_add.f x9_3 x10_3 bt136.1 bt136.2).bind fun bt138 => (curtilageref01_High.l0 kj12 a1 a3 bt138.1 bt138.2 (Go.bits .or .u64 (IntKind.u64.wrap (x11_3 * 2)) (x12_3 / 9223372036854775808)) (IntKind.u64.wrap (x12_3 * 2)) (wrap64 (x13_3 + 1))))) = some r := by rw [if_pos rfl] at H; exact H
                        clear H
                        have H := H1
                        clear H1
                        replace H := Option.bind_eq_some_iff.mp H
                        obtain ⟨⟨t136, t137⟩, A160, H⟩ := H
                        replace H : ((curtilageref01_add.f x9_3 x10_3 t136 t137).bind fun bt138 => (curtilageref01_High.l0 kj12 a1 a3 bt138.1 bt138.2 (Go.bits .or .u64 (IntKind.u64.wrap (x11_3 * 2)) (x12_3 / 9223372036854775808)) (IntKind.u64.wrap (x12_3 * 2)) (wrap64 (x13_3 + 1)))) = some r := H
                        have A16 := Aside0.mk A160
                        clear A160
                        replace H := Option.bind_eq_some_iff.mp H
                        obtain ⟨⟨t138, t139⟩, A170, H⟩ := H
                        replace H : (curtilageref01_High.l0 kj12 a1 a3 t138 t139 (Go.bits .or .u64 (IntKind.u64.wrap (x11_3 * 2)) (x12_3 / 9223372036854775808)) (IntKind.u64.wrap (x12_3 * 2)) (wrap64 (x13_3 + 1))) = some r := H
                        have A17 := Aside0.mk A170
                        clear A170
                        have H' := Aside0.mk H
                        clear H
                        go_wp2_with (first | ((with_reducible refine gate_callee (f := 32) rfl ?_); refine goesL_ (some 43) rfl rfl Try.func32 (by kernel_rfl) rfl #[.int .u64 (Go.bits .xor .u64 18446744073709551615 x11_3), .int .u64 (Go.bits .xor .u64 18446744073709551615 x12_3), .int .u64 0, .int .u64 1] rfl (by (try simp only [List.map_toArray, List.map_cons, List.map_nil]); first | done | rfl | (simp only [List.length_drop, List.length_take]; rfl)) ?_; (with_reducible refine (curtilageref01_add.calls (Go.bits .xor .u64 18446744073709551615 x11_3) (Go.bits .xor .u64 18446744073709551615 x12_3) 0 1 t136 t137 _ A16.out).mono ?_); rintro e w' ⟨rfl, ⟨nd, rfl⟩⟩; refine ⟨_, rfl, ?_⟩) | ((with_reducible refine gate_callee (f := 32) rfl ?_); refine goesL_ (some 51) rfl rfl Try.func32 (by kernel_rfl) rfl #[.int .u64 x9_3, .int .u64 x10_3, .int .u64 t136, .int .u64 t137] rfl (by (try simp only [List.map_toArray, List.map_cons, List.map_nil]); first | done | rfl | (simp only [List.length_drop, List.length_take]; rfl)) ?_; (with_reducible refine (curtilageref01_add.calls x9_3 x10_3 t136 t137 t138 t139 _ A17.out).mono ?_); rintro e w' ⟨rfl, ⟨nd, rfl⟩⟩; refine ⟨_, rfl, ?_⟩))
                        go_roundg kj12
                        case measure => have := HJ4.out; have := HJ7.out; have := HK3.out; have := HJ12.out; omega
                        case rel => exact ⟨(t138), (t139), (Go.bits .or .u64 (IntKind.u64.wrap (x11_3 * 2)) (x12_3 / 9223372036854775808)), (IntKind.u64.wrap (x12_3 * 2)), (wrap64 (x13_3 + 1)), (by first | rfl | (simp; done) | (simp [*]; done)), (by first | rfl | (simp; done) | (simp [*]; done)), (by first | rfl | (simp; done) | (simp [*]; done)), (by first | rfl | (simp; done) | (simp [*]; done)), (by first | rfl | (simp; done) | (simp [*]; done)), H', ⟨by have := HJ4.out; have := HJ7.out; have := HK3.out; have := HJ12.out; omega⟩, by repeat (first | exact Drawn0.refl _ | apply Drawn0.step)⟩
                      · replace c15 := Bool.eq_false_iff.mpr c15
                        subst c15
                        have H1 : ((curtilageref01_add.f x9_3 x10_3 x11_3 x12_3).bind fun bt140 => (curtilageref01_High.l0 kj12 a1 a3 bt140.1 bt140.2 (Go.bits .or .u64 (IntKind.u64.wrap (x11_3 * 2)) (x12_3 / 9223372036854775808)) (IntKind.u64.wrap (x12_3 * 2)) (wrap64 (x13_3 + 1)))) = some r := by rw [if_neg (show ¬ (false = true) by decide)] at H; exact H
                        clear H
                        have H := H1
                        clear H1
                        replace H := Option.bind_eq_some_iff.mp H
                        obtain ⟨⟨t140, t141⟩, A180, H⟩ := H
                        replace H : (curtilageref01_High.l0 kj12 a1 a3 t140 t141 (Go.bits .or .u64 (IntKind.u64.wrap (x11_3 * 2)) (x12_3 / 9223372036854775808)) (IntKind.u64.wrap (x12_3 * 2)) (wrap64 (x13_3 + 1))) = some r := H
                        have A18 := Aside0.mk A180
                        clear A180
                        have H' := Aside0.mk H
                        clear H
                        go_wp2_with (first | ((with_reducible refine gate_callee (f := 32) rfl ?_); refine goesL_ (some 51) rfl rfl Try.func32 (by kernel_rfl) rfl #[.int .u64 x9_3, .int .u64 x10_3, .int .u64 x11_3, .int .u64 x12_3] rfl (by (try simp only [List.map_toArray, List.map_cons, List.map_nil]); first | done | rfl | (simp only [List.length_drop, List.length_take]; rfl)) ?_; (with_reducible refine (curtilageref01_add.calls x9_3 x10_3 x11_3 x12_3 t140 t141 _ A18.out).mono ?_); rintro e w' ⟨rfl, ⟨nd, rfl⟩⟩; refine ⟨_, rfl, ?_⟩))
                        go_roundg kj12
                        case measure => have := HJ4.out; have := HJ7.out; have := HK3.out; have := HJ12.out; omega
                        case rel => exact ⟨(t140), (t141), (Go.bits .or .u64 (IntKind.u64.wrap (x11_3 * 2)) (x12_3 / 9223372036854775808)), (IntKind.u64.wrap (x12_3 * 2)), (wrap64 (x13_3 + 1)), (by first | rfl | (simp; done) | (simp [*]; done)), (by first | rfl | (simp; done) | (simp [*]; done)), (by first | rfl | (simp; done) | (simp [*]; done)), (by first | rfl | (simp; done) | (simp [*]; done)), (by first | rfl | (simp; done) | (simp [*]; done)), H', ⟨by have := HJ4.out; have := HJ7.out; have := HK3.out; have := HJ12.out; omega⟩, by repeat (first | exact Drawn0.refl _ | apply Drawn0.step)⟩
                · rw [if_neg c12] at H
                  have c12b0 : (t135 == 1) = false := beq_eq_false_iff_ne.mpr c12
                  have c12b1 : (t135 != 1) = true := bne_iff_ne.mpr c12
                  have H' := Aside0.mk H
                  clear H
                  go_wp2_with (first | ((with_reducible refine gate_callee (f := 29) rfl ?_); refine goesL_ (some 29) rfl rfl Try.func29 (by kernel_rfl) rfl #[.int .u64 a1, .int .i64 x13_3] rfl (by (try simp only [List.map_toArray, List.map_cons, List.map_nil]); first | done | rfl | (simp only [List.length_drop, List.length_take]; rfl)) ?_; (with_reducible refine (curtilageref01_bit.calls a1 x13_3 t135 _ A11.out).mono ?_); rintro e w' ⟨rfl, ⟨nd, rfl⟩⟩; refine ⟨_, rfl, ?_⟩))
                  go_roundg k3
                  case measure => have := HJ4.out; have := HJ7.out; have := HK3.out; omega
                  case rel => exact ⟨(x9_3), (x10_3), (Go.bits .or .u64 (IntKind.u64.wrap (x11_3 * 2)) (x12_3 / 9223372036854775808)), (IntKind.u64.wrap (x12_3 * 2)), (wrap64 (x13_3 + 1)), (by first | rfl | (simp; done) | (simp [*]; done)), (by first | rfl | (simp; done) | (simp [*]; done)), (by first | rfl | (simp; done) | (simp [*]; done)), (by first | rfl | (simp; done) | (simp [*]; done)), (by first | rfl | (simp; done) | (simp [*]; done)), H', ⟨by have := HJ4.out; have := HJ7.out; have := HK3.out; omega⟩, by repeat (first | exact Drawn0.refl _ | apply Drawn0.step)⟩
              · rw [if_neg c10] at H
                have c10b0 : decide (x13_3 < 64) = false := decide_eq_false c10
                clear c10
                obtain rfl := Option.some.inj H
                go_wp2
                go_ret
                exact ⟨by first | rfl | (simp; done) | (simp [*]; done), by repeat (first | exact Drawn0.refl _ | apply Drawn0.step)⟩

/-! ### curtilagelaw01_WordReckons: function 4 -/
def curtilagelaw01_WordReckons.f (k : Nat) (a0 : Int) (a1 : Int) (a2 : Bool) (a3 : Bool) : Option (Bool) := (curtilagelaw01_awake.f k).bind fun t155 => ((word_High.f k a0 a1 a2 a3).bind fun t156 => ((word_Quotient.f a0 a1 a2).bind fun t157 => ((word_Rest.f a0 a1 a2).bind fun t158 => (if t155 = true then ((curtilageref01_High.f k a0 a1 a2 a3).bind fun t159 => (if t156 = t159 then ((curtilageref01_Quotient.f k a0 a1 a2).bind fun t160 => (if t157 = t160 then ((curtilageref01_Rest.f k a0 a1 a2).bind fun t161 => (some (t158 == t161))) else (some false))) else (some false))) else (some false)))))
theorem curtilagelaw01_WordReckons.mono : ∀ a0 a1 a2 a3 k, LeO (curtilagelaw01_WordReckons.f k a0 a1 a2 a3) (curtilagelaw01_WordReckons.f (k + 1) a0 a1 a2 a3) := by
  intro a0 a1 a2 a3 k
  unfold curtilagelaw01_WordReckons.f
  repeat' first
      | (with_reducible exact curtilagelaw01_awake.mono _)
      | (with_reducible exact curtilageref01_High.mono _ _ _ _ _)
      | (with_reducible exact curtilageref01_Quotient.mono _ _ _ _)
      | (with_reducible exact curtilageref01_Rest.mono _ _ _ _)
      | (with_reducible exact word_High.mono _ _ _ _ _)
      | (with_reducible exact LeO.refl _)
      | (with_reducible exact LeO.none _)
      | (with_reducible refine LeO.ite ?_ ?_)
      | (with_reducible refine LeO.bind ?_ (fun _ => ?_))
      | exact curtilagelaw01_awake.mono _
      | exact curtilageref01_High.mono _ _ _ _ _
      | exact curtilageref01_Quotient.mono _ _ _ _
      | exact curtilageref01_Rest.mono _ _ _ _
      | exact word_High.mono _ _ _ _ _
      | exact LeO.none _
      | refine LeO.ite ?_ ?_
      | refine LeO.bind ?_ (fun _ => ?_)
set_option maxHeartbeats 8000000 in
set_option maxRecDepth 100000 in
theorem curtilagelaw01_WordReckons.calls (k : Nat) (a0 : Int) (a1 : Int) (a2 : Bool) (a3 : Bool) (r : Bool) (w : World) (h : curtilagelaw01_WordReckons.f k a0 a1 a2 a3 = some r) :
    Calls Try.prog 4 #[.int .u64 a0, .int .u64 a1, .bool a2, .bool a3] w fun e w' => e = .returned (.bool r) ∧ Below w.heap.size w w' := by
  have HB := Aside0.mk (Below.refl w.heap.size w)
  have H : ((curtilagelaw01_awake.f k).bind fun t155 => ((word_High.f k a0 a1 a2 a3).bind fun t156 => ((word_Quotient.f a0 a1 a2).bind fun t157 => ((word_Rest.f a0 a1 a2).bind fun t158 => (if t155 = true then ((curtilageref01_High.f k a0 a1 a2 a3).bind fun t159 => (if t156 = t159 then ((curtilageref01_Quotient.f k a0 a1 a2).bind fun t160 => (if t157 = t160 then ((curtilageref01_Rest.f k a0 a1 a2).bind fun t161 => (some (t158 == t161))) else (some false))) else (some false))) else (some false)))))) = some r := h
  clear h
  replace H := Option.bind_eq_some_iff.mp H
  obtain ⟨t155, A50, H⟩ := H
  replace H : ((word_High.f k a0 a1 a2 a3).bind fun t156 => ((word_Quotient.f a0 a1 a2).bind fun t157 => ((word_Rest.f a0 a1 a2).bind fun t158 => (if t155 = true then ((curtilageref01_High.f k a0 a1 a2 a3).bind fun t159 => (if t156 = t159 then ((curtilageref01_Quotient.f k a0 a1 a2).bind fun t160 => (if t157 = t160 then ((curtilageref01_Rest.f k a0 a1 a2).bind fun t161 => (some (t158 == t161))) else (some false))) else (some false))) else (some false))))) = some r := H
  have A5 := Aside0.mk A50
  clear A50
  replace H := Option.bind_eq_some_iff.mp H
  obtain ⟨t156, A60, H⟩ := H
  replace H : ((word_Quotient.f a0 a1 a2).bind fun t157 => ((word_Rest.f a0 a1 a2).bind fun t158 => (if t155 = true then ((curtilageref01_High.f k a0 a1 a2 a3).bind fun t159 => (if t156 = t159 then ((curtilageref01_Quotient.f k a0 a1 a2).bind fun t160 => (if t157 = t160 then ((curtilageref01_Rest.f k a0 a1 a2).bind fun t161 => (some (t158 == t161))) else (some false))) else (some false))) else (some false)))) = some r := H
  have A6 := Aside0.mk A60
  clear A60
  replace H := Option.bind_eq_some_iff.mp H
  obtain ⟨t157, A70, H⟩ := H
  replace H : ((word_Rest.f a0 a1 a2).bind fun t158 => (if t155 = true then ((curtilageref01_High.f k a0 a1 a2 a3).bind fun t159 => (if t156 = t159 then ((curtilageref01_Quotient.f k a0 a1 a2).bind fun t160 => (if t157 = t160 then ((curtilageref01_Rest.f k a0 a1 a2).bind fun t161 => (some (t158 == t161))) else (some false))) else (some false))) else (some false))) = some r := H
  have A7 := Aside0.mk A70
  clear A70
  replace H := Option.bind_eq_some_iff.mp H
  obtain ⟨t158, A80, H⟩ := H
  replace H : (if t155 = true then ((curtilageref01_High.f k a0 a1 a2 a3).bind fun t159 => (if t156 = t159 then ((curtilageref01_Quotient.f k a0 a1 a2).bind fun t160 => (if t157 = t160 then ((curtilageref01_Rest.f k a0 a1 a2).bind fun t161 => (some (t158 == t161))) else (some false))) else (some false))) else (some false)) = some r := H
  have A8 := Aside0.mk A80
  clear A80
  by_cases c9 : t155 = true
  · subst c9
    have H1 : ((curtilageref01_High.f k a0 a1 a2 a3).bind fun t159 => (if t156 = t159 then ((curtilageref01_Quotient.f k a0 a1 a2).bind fun t160 => (if t157 = t160 then ((curtilageref01_Rest.f k a0 a1 a2).bind fun t161 => (some (t158 == t161))) else (some false))) else (some false))) = some r := by rw [if_pos rfl] at H; exact H
    clear H
    have H := H1
    clear H1
    replace H := Option.bind_eq_some_iff.mp H
    obtain ⟨t159, A100, H⟩ := H
    replace H : (if t156 = t159 then ((curtilageref01_Quotient.f k a0 a1 a2).bind fun t160 => (if t157 = t160 then ((curtilageref01_Rest.f k a0 a1 a2).bind fun t161 => (some (t158 == t161))) else (some false))) else (some false)) = some r := H
    have A10 := Aside0.mk A100
    clear A100
    by_cases c11 : t156 = t159
    · rw [if_pos c11] at H
      have c11b0 : (t156 == t159) = true := beq_iff_eq.mpr c11
      have c11b1 : (t156 != t159) = false := bne_eq_false_iff_eq.mpr c11
      clear c11
      replace H := Option.bind_eq_some_iff.mp H
      obtain ⟨t160, A120, H⟩ := H
      replace H : (if t157 = t160 then ((curtilageref01_Rest.f k a0 a1 a2).bind fun t161 => (some (t158 == t161))) else (some false)) = some r := H
      have A12 := Aside0.mk A120
      clear A120
      by_cases c13 : t157 = t160
      · rw [if_pos c13] at H
        have c13b0 : (t157 == t160) = true := beq_iff_eq.mpr c13
        have c13b1 : (t157 != t160) = false := bne_eq_false_iff_eq.mpr c13
        clear c13
        replace H := Option.bind_eq_some_iff.mp H
        obtain ⟨t161, A140, H⟩ := H
        replace H : (some (t158 == t161)) = some r := H
        have A14 := Aside0.mk A140
        clear A140
        obtain rfl := Option.some.inj H
        go_enter Try.func4, Try.ntmps4
        go_wp2_with (first | ((with_reducible refine gate_callee (f := 11) rfl ?_); refine goesL_ (some 13) rfl rfl Try.func11 (by kernel_rfl) rfl #[] rfl (by (try simp only [List.map_toArray, List.map_cons, List.map_nil]); first | done | rfl | (simp only [List.length_drop, List.length_take]; rfl)) ?_; (with_reducible refine (curtilagelaw01_awake.calls k  true _ A5.out).mono ?_); rintro e w15 ⟨rfl, hb⟩; refine ⟨_, rfl, ?_⟩; have n0_ := Aside0.mk (below_step (by repeat (first | (with_reducible first | exact HB.out | apply below_alloc | apply pw_below_drewN | apply below_drew1) | exact HB.out)) hb); clear HB; have HB := n0_; clear n0_; (try clear hb); (try clear hb2); (try clear hk); (try clear hi)) | ((with_reducible refine gate_callee (f := 18) rfl ?_); refine goesL_ (some 18) rfl rfl Try.func18 (by kernel_rfl) rfl #[.int .u64 a0, .int .u64 a1, .bool a2, .bool a3] rfl (by (try simp only [List.map_toArray, List.map_cons, List.map_nil]); first | done | rfl | (simp only [List.length_drop, List.length_take]; rfl)) ?_; (with_reducible refine (word_High.calls k a0 a1 a2 a3 t156 _ A6.out).mono ?_); rintro e w' ⟨rfl, ⟨nd, rfl⟩⟩; refine ⟨_, rfl, ?_⟩) | ((with_reducible refine gate_callee (f := 19) rfl ?_); refine goesL_ (some 22) rfl rfl Try.func19 (by kernel_rfl) rfl #[.int .u64 a0, .int .u64 a1, .bool a2] rfl (by (try simp only [List.map_toArray, List.map_cons, List.map_nil]); first | done | rfl | (simp only [List.length_drop, List.length_take]; rfl)) ?_; (with_reducible refine (word_Quotient.calls a0 a1 a2 t157 _ A7.out).mono ?_); rintro e w' ⟨rfl, ⟨nd, rfl⟩⟩; refine ⟨_, rfl, ?_⟩) | ((with_reducible refine gate_callee (f := 20) rfl ?_); refine goesL_ (some 26) rfl rfl Try.func20 (by kernel_rfl) rfl #[.int .u64 a0, .int .u64 a1, .bool a2] rfl (by (try simp only [List.map_toArray, List.map_cons, List.map_nil]); first | done | rfl | (simp only [List.length_drop, List.length_take]; rfl)) ?_; (with_reducible refine (word_Rest.calls a0 a1 a2 t158 _ A8.out).mono ?_); rintro e w' ⟨rfl, ⟨nd, rfl⟩⟩; refine ⟨_, rfl, ?_⟩) | (go_at_call 21; (with_reducible refine (curtilageref01_High.calls k a0 a1 a2 a3 t159 _ A10.out).mono ?_); rintro e w' ⟨rfl, ⟨nd, rfl⟩⟩) | (go_at_call 22; (with_reducible refine (curtilageref01_Quotient.calls k a0 a1 a2 t160 _ A12.out).mono ?_); rintro e w' ⟨rfl, ⟨nd, rfl⟩⟩) | (go_at_call 23; (with_reducible refine (curtilageref01_Rest.calls k a0 a1 a2 t161 _ A14.out).mono ?_); rintro e w' ⟨rfl, ⟨nd, rfl⟩⟩))
        go_ret
        exact ⟨by first | rfl | (simp [errW_none, errW_some] <;> rfl) | (simp [*, errW_none, errW_some] <;> rfl), by repeat (first | (with_reducible first | exact HB.out | apply below_alloc | apply pw_below_drewN | apply below_drew1) | exact HB.out)⟩
      · rw [if_neg c13] at H
        have c13b0 : (t157 == t160) = false := beq_eq_false_iff_ne.mpr c13
        have c13b1 : (t157 != t160) = true := bne_iff_ne.mpr c13
        obtain rfl := Option.some.inj H
        go_enter Try.func4, Try.ntmps4
        go_wp2_with (first | ((with_reducible refine gate_callee (f := 11) rfl ?_); refine goesL_ (some 13) rfl rfl Try.func11 (by kernel_rfl) rfl #[] rfl (by (try simp only [List.map_toArray, List.map_cons, List.map_nil]); first | done | rfl | (simp only [List.length_drop, List.length_take]; rfl)) ?_; (with_reducible refine (curtilagelaw01_awake.calls k  true _ A5.out).mono ?_); rintro e w16 ⟨rfl, hb⟩; refine ⟨_, rfl, ?_⟩; have n0_ := Aside0.mk (below_step (by repeat (first | (with_reducible first | exact HB.out | apply below_alloc | apply pw_below_drewN | apply below_drew1) | exact HB.out)) hb); clear HB; have HB := n0_; clear n0_; (try clear hb); (try clear hb2); (try clear hk); (try clear hi)) | ((with_reducible refine gate_callee (f := 18) rfl ?_); refine goesL_ (some 18) rfl rfl Try.func18 (by kernel_rfl) rfl #[.int .u64 a0, .int .u64 a1, .bool a2, .bool a3] rfl (by (try simp only [List.map_toArray, List.map_cons, List.map_nil]); first | done | rfl | (simp only [List.length_drop, List.length_take]; rfl)) ?_; (with_reducible refine (word_High.calls k a0 a1 a2 a3 t156 _ A6.out).mono ?_); rintro e w' ⟨rfl, ⟨nd, rfl⟩⟩; refine ⟨_, rfl, ?_⟩) | ((with_reducible refine gate_callee (f := 19) rfl ?_); refine goesL_ (some 22) rfl rfl Try.func19 (by kernel_rfl) rfl #[.int .u64 a0, .int .u64 a1, .bool a2] rfl (by (try simp only [List.map_toArray, List.map_cons, List.map_nil]); first | done | rfl | (simp only [List.length_drop, List.length_take]; rfl)) ?_; (with_reducible refine (word_Quotient.calls a0 a1 a2 t157 _ A7.out).mono ?_); rintro e w' ⟨rfl, ⟨nd, rfl⟩⟩; refine ⟨_, rfl, ?_⟩) | ((with_reducible refine gate_callee (f := 20) rfl ?_); refine goesL_ (some 26) rfl rfl Try.func20 (by kernel_rfl) rfl #[.int .u64 a0, .int .u64 a1, .bool a2] rfl (by (try simp only [List.map_toArray, List.map_cons, List.map_nil]); first | done | rfl | (simp only [List.length_drop, List.length_take]; rfl)) ?_; (with_reducible refine (word_Rest.calls a0 a1 a2 t158 _ A8.out).mono ?_); rintro e w' ⟨rfl, ⟨nd, rfl⟩⟩; refine ⟨_, rfl, ?_⟩) | (go_at_call 21; (with_reducible refine (curtilageref01_High.calls k a0 a1 a2 a3 t159 _ A10.out).mono ?_); rintro e w' ⟨rfl, ⟨nd, rfl⟩⟩) | (go_at_call 22; (with_reducible refine (curtilageref01_Quotient.calls k a0 a1 a2 t160 _ A12.out).mono ?_); rintro e w' ⟨rfl, ⟨nd, rfl⟩⟩))
        go_ret
        exact ⟨by first | rfl | (simp [errW_none, errW_some] <;> rfl) | (simp [*, errW_none, errW_some] <;> rfl), by repeat (first | (with_reducible first | exact HB.out | apply below_alloc | apply pw_below_drewN | apply below_drew1) | exact HB.out)⟩
    · rw [if_neg c11] at H
      have c11b0 : (t156 == t159) = false := beq_eq_false_iff_ne.mpr c11
      have c11b1 : (t156 != t159) = true := bne_iff_ne.mpr c11
      obtain rfl := Option.some.inj H
      go_enter Try.func4, Try.ntmps4
      go_wp2_with (first | ((with_reducible refine gate_callee (f := 11) rfl ?_); refine goesL_ (some 13) rfl rfl Try.func11 (by kernel_rfl) rfl #[] rfl (by (try simp only [List.map_toArray, List.map_cons, List.map_nil]); first | done | rfl | (simp only [List.length_drop, List.length_take]; rfl)) ?_; (with_reducible refine (curtilagelaw01_awake.calls k  true _ A5.out).mono ?_); rintro e w17 ⟨rfl, hb⟩; refine ⟨_, rfl, ?_⟩; have n0_ := Aside0.mk (below_step (by repeat (first | (with_reducible first | exact HB.out | apply below_alloc | apply pw_below_drewN | apply below_drew1) | exact HB.out)) hb); clear HB; have HB := n0_; clear n0_; (try clear hb); (try clear hb2); (try clear hk); (try clear hi)) | ((with_reducible refine gate_callee (f := 18) rfl ?_); refine goesL_ (some 18) rfl rfl Try.func18 (by kernel_rfl) rfl #[.int .u64 a0, .int .u64 a1, .bool a2, .bool a3] rfl (by (try simp only [List.map_toArray, List.map_cons, List.map_nil]); first | done | rfl | (simp only [List.length_drop, List.length_take]; rfl)) ?_; (with_reducible refine (word_High.calls k a0 a1 a2 a3 t156 _ A6.out).mono ?_); rintro e w' ⟨rfl, ⟨nd, rfl⟩⟩; refine ⟨_, rfl, ?_⟩) | ((with_reducible refine gate_callee (f := 19) rfl ?_); refine goesL_ (some 22) rfl rfl Try.func19 (by kernel_rfl) rfl #[.int .u64 a0, .int .u64 a1, .bool a2] rfl (by (try simp only [List.map_toArray, List.map_cons, List.map_nil]); first | done | rfl | (simp only [List.length_drop, List.length_take]; rfl)) ?_; (with_reducible refine (word_Quotient.calls a0 a1 a2 t157 _ A7.out).mono ?_); rintro e w' ⟨rfl, ⟨nd, rfl⟩⟩; refine ⟨_, rfl, ?_⟩) | ((with_reducible refine gate_callee (f := 20) rfl ?_); refine goesL_ (some 26) rfl rfl Try.func20 (by kernel_rfl) rfl #[.int .u64 a0, .int .u64 a1, .bool a2] rfl (by (try simp only [List.map_toArray, List.map_cons, List.map_nil]); first | done | rfl | (simp only [List.length_drop, List.length_take]; rfl)) ?_; (with_reducible refine (word_Rest.calls a0 a1 a2 t158 _ A8.out).mono ?_); rintro e w' ⟨rfl, ⟨nd, rfl⟩⟩; refine ⟨_, rfl, ?_⟩) | (go_at_call 21; (with_reducible refine (curtilageref01_High.calls k a0 a1 a2 a3 t159 _ A10.out).mono ?_); rintro e w' ⟨rfl, ⟨nd, rfl⟩⟩))
      go_ret
      exact ⟨by first | rfl | (simp [errW_none, errW_some] <;> rfl) | (simp [*, errW_none, errW_some] <;> rfl), by repeat (first | (with_reducible first | exact HB.out | apply below_alloc | apply pw_below_drewN | apply below_drew1) | exact HB.out)⟩
  · replace c9 := Bool.eq_false_iff.mpr c9
    subst c9
    have H1 : (some false) = some r := by rw [if_neg (show ¬ (false = true) by decide)] at H; exact H
    clear H
    have H := H1
    clear H1
    obtain rfl := Option.some.inj H
    go_enter Try.func4, Try.ntmps4
    go_wp2_with (first | ((with_reducible refine gate_callee (f := 11) rfl ?_); refine goesL_ (some 13) rfl rfl Try.func11 (by kernel_rfl) rfl #[] rfl (by (try simp only [List.map_toArray, List.map_cons, List.map_nil]); first | done | rfl | (simp only [List.length_drop, List.length_take]; rfl)) ?_; (with_reducible refine (curtilagelaw01_awake.calls k  false _ A5.out).mono ?_); rintro e w18 ⟨rfl, hb⟩; refine ⟨_, rfl, ?_⟩; have n0_ := Aside0.mk (below_step (by repeat (first | (with_reducible first | exact HB.out | apply below_alloc | apply pw_below_drewN | apply below_drew1) | exact HB.out)) hb); clear HB; have HB := n0_; clear n0_; (try clear hb); (try clear hb2); (try clear hk); (try clear hi)) | ((with_reducible refine gate_callee (f := 18) rfl ?_); refine goesL_ (some 18) rfl rfl Try.func18 (by kernel_rfl) rfl #[.int .u64 a0, .int .u64 a1, .bool a2, .bool a3] rfl (by (try simp only [List.map_toArray, List.map_cons, List.map_nil]); first | done | rfl | (simp only [List.length_drop, List.length_take]; rfl)) ?_; (with_reducible refine (word_High.calls k a0 a1 a2 a3 t156 _ A6.out).mono ?_); rintro e w' ⟨rfl, ⟨nd, rfl⟩⟩; refine ⟨_, rfl, ?_⟩) | ((with_reducible refine gate_callee (f := 19) rfl ?_); refine goesL_ (some 22) rfl rfl Try.func19 (by kernel_rfl) rfl #[.int .u64 a0, .int .u64 a1, .bool a2] rfl (by (try simp only [List.map_toArray, List.map_cons, List.map_nil]); first | done | rfl | (simp only [List.length_drop, List.length_take]; rfl)) ?_; (with_reducible refine (word_Quotient.calls a0 a1 a2 t157 _ A7.out).mono ?_); rintro e w' ⟨rfl, ⟨nd, rfl⟩⟩; refine ⟨_, rfl, ?_⟩) | ((with_reducible refine gate_callee (f := 20) rfl ?_); refine goesL_ (some 26) rfl rfl Try.func20 (by kernel_rfl) rfl #[.int .u64 a0, .int .u64 a1, .bool a2] rfl (by (try simp only [List.map_toArray, List.map_cons, List.map_nil]); first | done | rfl | (simp only [List.length_drop, List.length_take]; rfl)) ?_; (with_reducible refine (word_Rest.calls a0 a1 a2 t158 _ A8.out).mono ?_); rintro e w' ⟨rfl, ⟨nd, rfl⟩⟩; refine ⟨_, rfl, ?_⟩))
    go_ret
    exact ⟨by first | rfl | (simp [errW_none, errW_some] <;> rfl) | (simp [*, errW_none, errW_some] <;> rfl), by repeat (first | (with_reducible first | exact HB.out | apply below_alloc | apply pw_below_drewN | apply below_drew1) | exact HB.out)⟩

/-- THE ONE PURE STATEMENT of curtilagelaw01_WordReckons: yours. -/
def curtilagelaw01_WordReckons.Pure : Prop := ∀ (a0 : Int) (a1 : Int) (a2 : Bool) (a3 : Bool), (Lit.int .u64 a0).wf = true → (Lit.int .u64 a1).wf = true → ∃ k, curtilagelaw01_WordReckons.f k a0 a1 a2 a3 = some true
theorem curtilagelaw01_WordReckons.walk (P : curtilagelaw01_WordReckons.Pure) (a0 : Int) (a1 : Int) (a2 : Bool) (a3 : Bool) (w : World) (w0 : (Lit.int .u64 a0).wf = true) (w1 : (Lit.int .u64 a1).wf = true) :
    Calls Try.prog 4 #[.int .u64 a0, .int .u64 a1, .bool a2, .bool a3] w fun e w' => e = .returned (.bool true) ∧ Below w.heap.size w w' := by
  obtain ⟨k, h⟩ := P a0 a1 a2 a3 w0 w1
  refine (curtilagelaw01_WordReckons.calls k a0 a1 a2 a3 true w h).mono ?_
  rintro e w' ⟨rfl, hd⟩
  exact ⟨rfl, hd⟩

end Go.Proofs.Ytpjlceiemgfcfaa.PWordReckons
