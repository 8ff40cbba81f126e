-- Written by this session's own program (wip/hprint.py) out of the translation, over hand-proved contracts. Lean checks it.
import Derived.Test.YtpfjoeagblkonaaHbx0
namespace Go.Proofs.Ytpfjoeagblkonaa.Hb
open Go.RowKit Go.Proofs.YtpfjoeagblkonaaW.PrintWords Go.Proofs.YtpfjoeagblkonaaW.PrintLast Go.Proofs.YtpfjoeagblkonaaW.PrintMore
attribute [local go_sem] max2_int min2_int max_two min_two max_three min_three max_four min_four   -- for this text's walks alone
set_option linter.unusedVariables false
set_option linter.unusedSimpArgs false

/-! ### binout_Code: function 11 -/
def binout_Code.j0 : Nat → Int → Bool → Option (Int)
  | 0, _, _ => none
  | k + 1, x3, x4 => if x4 = true then (some 0) else (if x3 = 1 then (some 1) else (if x3 = 4 then (some 2) else (if x3 = 3 then (some 5) else (if x3 = 8 then (some 6) else (if x3 = 9 then (some 130) else (some 132))))))
def binout_Code.f (k : Nat) (a0 : Int) : Option (Int) := if a0 = 0 then (binout_Code.j0 k a0 (a0 == 0)) else (if a0 = 2 then (binout_Code.j0 k a0 (a0 == 2)) else (if a0 = 5 then (binout_Code.j0 k a0 (a0 == 5)) else (if a0 = 6 then (binout_Code.j0 k a0 (a0 == 6)) else (if a0 = 7 then (binout_Code.j0 k a0 (a0 == 7)) else (if a0 = 10 then (binout_Code.j0 k a0 (a0 == 10)) else (binout_Code.j0 k a0 (a0 == 11)))))))
theorem binout_Code.mono_l : ∀ k, (∀ y0 y1, LeO (binout_Code.j0 k y0 y1) (binout_Code.j0 (k + 1) y0 y1))
  | 0 => fun _ _ r h => by simp [binout_Code.j0] at h
  | k + 1 => by
    have ih0 := binout_Code.mono_l k
    · intro y0 y1
      unfold binout_Code.j0
      repeat' first
      | (with_reducible exact ih0 _ _)
      | (with_reducible exact LeO.refl _)
      | (with_reducible exact LeO.none _)
      | (with_reducible refine LeO.ite ?_ ?_)
      | (with_reducible refine LeO.bind ?_ (fun _ => ?_))
      | exact ih0 _ _
      | exact LeO.none _
      | refine LeO.ite ?_ ?_
      | refine LeO.bind ?_ (fun _ => ?_)
theorem binout_Code.mono : ∀ a0 k, LeO (binout_Code.f k a0) (binout_Code.f (k + 1) a0) := by
  intro a0 k
  have ih0 := binout_Code.mono_l k
  unfold binout_Code.f
  repeat' first
      | (with_reducible exact ih0 _ _)
      | (with_reducible exact LeO.refl _)
      | (with_reducible exact LeO.none _)
      | (with_reducible refine LeO.ite ?_ ?_)
      | (with_reducible refine LeO.bind ?_ (fun _ => ?_))
      | exact ih0 _ _
      | exact LeO.none _
      | refine LeO.ite ?_ ?_
      | refine LeO.bind ?_ (fun _ => ?_)
set_option maxHeartbeats 8000000 in
set_option maxRecDepth 100000 in
theorem binout_Code.calls (k : Nat) (a0 : Int) (r : Int) (w : World) (h : binout_Code.f k a0 = some r) :
    Calls Try.prog 11 #[.int .i64 a0] w fun e w' => e = .returned (.int .u16 r) ∧ Drawn0 w w' := by
  have H : (if a0 = 0 then (binout_Code.j0 k a0 (a0 == 0)) else (if a0 = 2 then (binout_Code.j0 k a0 (a0 == 2)) else (if a0 = 5 then (binout_Code.j0 k a0 (a0 == 5)) else (if a0 = 6 then (binout_Code.j0 k a0 (a0 == 6)) else (if a0 = 7 then (binout_Code.j0 k a0 (a0 == 7)) else (if a0 = 10 then (binout_Code.j0 k a0 (a0 == 10)) else (binout_Code.j0 k a0 (a0 == 11)))))))) = some r := h
  clear h
  have HC2 := Aside0.mk H
  clear H
  go_enter Try.func11, Try.ntmps11
  go_upto_if 4 with (fail)
  go_cut [4] (fun v4 wc => ∃ (kq : Nat) (x4_1 : Bool), v4 = .bool x4_1 ∧ Aside0 (binout_Code.j0 kq a0 x4_1 = some r) ∧ Aside0 (kq ≤ k) ∧ Drawn0 w wc)
  case first =>
    have H := HC2.out
    clear HC2
    by_cases c3 : a0 = 0
    · rw [if_pos c3] at H
      have c3b0 : (a0 == 0) = true := beq_iff_eq.mpr c3
      have c3b1 : (a0 != 0) = false := bne_eq_false_iff_eq.mpr c3
      clear c3
      (first | rw [c3b0] | (simp only [i64_w, i32_w]; rw [c3b0]) | skip)
      have H' := Aside0.mk H
      clear H
      go_wp2
      go_meet
      case rel => exact ⟨_, ((a0 == 0)), (by first | rfl | (simp; done) | (simp [*]; done)), H', ⟨by first | omega | exact Nat.le_refl _⟩, by repeat (first | exact Drawn0.refl _ | apply Drawn0.step)⟩
    · rw [if_neg c3] at H
      have c3b0 : (a0 == 0) = false := beq_eq_false_iff_ne.mpr c3
      have c3b1 : (a0 != 0) = true := bne_iff_ne.mpr c3
      (first | rw [c3b0] | (simp only [i64_w, i32_w]; rw [c3b0]) | skip)
      by_cases c4 : a0 = 2
      · rw [if_pos c4] at H
        have c4b0 : (a0 == 2) = true := beq_iff_eq.mpr c4
        have c4b1 : (a0 != 2) = false := bne_eq_false_iff_eq.mpr c4
        clear c4
        have H' := Aside0.mk H
        clear H
        go_wp2
        go_meet
        case rel => exact ⟨_, ((a0 == 2)), (by first | rfl | (simp; done) | (simp [*]; done)), H', ⟨by first | omega | exact Nat.le_refl _⟩, by repeat (first | exact Drawn0.refl _ | apply Drawn0.step)⟩
      · rw [if_neg c4] at H
        have c4b0 : (a0 == 2) = false := beq_eq_false_iff_ne.mpr c4
        have c4b1 : (a0 != 2) = true := bne_iff_ne.mpr c4
        by_cases c5 : a0 = 5
        · rw [if_pos c5] at H
          have c5b0 : (a0 == 5) = true := beq_iff_eq.mpr c5
          have c5b1 : (a0 != 5) = false := bne_eq_false_iff_eq.mpr c5
          clear c5
          have H' := Aside0.mk H
          clear H
          go_wp2
          go_meet
          case rel => exact ⟨_, ((a0 == 5)), (by first | rfl | (simp; done) | (simp [*]; done)), H', ⟨by first | omega | exact Nat.le_refl _⟩, by repeat (first | exact Drawn0.refl _ | apply Drawn0.step)⟩
        · rw [if_neg c5] at H
          have c5b0 : (a0 == 5) = false := beq_eq_false_iff_ne.mpr c5
          have c5b1 : (a0 != 5) = true := bne_iff_ne.mpr c5
          by_cases c6 : a0 = 6
          · rw [if_pos c6] at H
            have c6b0 : (a0 == 6) = true := beq_iff_eq.mpr c6
            have c6b1 : (a0 != 6) = false := bne_eq_false_iff_eq.mpr c6
            clear c6
            have H' := Aside0.mk H
            clear H
            go_wp2
            go_meet
            case rel => exact ⟨_, ((a0 == 6)), (by first | rfl | (simp; done) | (simp [*]; done)), H', ⟨by first | omega | exact Nat.le_refl _⟩, by repeat (first | exact Drawn0.refl _ | apply Drawn0.step)⟩
          · rw [if_neg c6] at H
            have c6b0 : (a0 == 6) = false := beq_eq_false_iff_ne.mpr c6
            have c6b1 : (a0 != 6) = true := bne_iff_ne.mpr c6
            by_cases c7 : a0 = 7
            · rw [if_pos c7] at H
              have c7b0 : (a0 == 7) = true := beq_iff_eq.mpr c7
              have c7b1 : (a0 != 7) = false := bne_eq_false_iff_eq.mpr c7
              clear c7
              have H' := Aside0.mk H
              clear H
              go_wp2
              go_meet
              case rel => exact ⟨_, ((a0 == 7)), (by first | rfl | (simp; done) | (simp [*]; done)), H', ⟨by first | omega | exact Nat.le_refl _⟩, by repeat (first | exact Drawn0.refl _ | apply Drawn0.step)⟩
            · rw [if_neg c7] at H
              have c7b0 : (a0 == 7) = false := beq_eq_false_iff_ne.mpr c7
              have c7b1 : (a0 != 7) = true := bne_iff_ne.mpr c7
              by_cases c8 : a0 = 10
              · rw [if_pos c8] at H
                have c8b0 : (a0 == 10) = true := beq_iff_eq.mpr c8
                have c8b1 : (a0 != 10) = false := bne_eq_false_iff_eq.mpr c8
                clear c8
                have H' := Aside0.mk H
                clear H
                go_wp2
                go_meet
                case rel => exact ⟨_, ((a0 == 10)), (by first | rfl | (simp; done) | (simp [*]; done)), H', ⟨by first | omega | exact Nat.le_refl _⟩, by repeat (first | exact Drawn0.refl _ | apply Drawn0.step)⟩
              · rw [if_neg c8] at H
                have c8b0 : (a0 == 10) = false := beq_eq_false_iff_ne.mpr c8
                have c8b1 : (a0 != 10) = true := bne_iff_ne.mpr c8
                have H' := Aside0.mk H
                clear H
                go_wp2
                go_meet
                case rel => exact ⟨_, ((a0 == 11)), (by first | rfl | (simp; done) | (simp [*]; done)), H', ⟨by first | omega | exact Nat.le_refl _⟩, by repeat (first | exact Drawn0.refl _ | apply Drawn0.step)⟩
  case rest =>
    clear HC2
    try clear c1
    try clear p2
    try clear c3
    try clear c3b0
    try clear c3b1
    try clear c4
    try clear c4b0
    try clear c4b1
    try clear c5
    try clear c5b0
    try clear c5b1
    try clear c6
    try clear c6b0
    try clear c6b1
    try clear c7
    try clear c7b0
    try clear c7b1
    try clear c8
    try clear c8b0
    try clear c8b1
    obtain ⟨kq, x4_1, rfl, HA, HJ1, ⟨mc1, rfl⟩⟩ := hcut
    cases kq with
    | zero => exact absurd HA.out (by simp [binout_Code.j0])
    | succ kj1 =>
      have H := HA.out
      clear HA
      simp only [binout_Code.j0] at H
      by_cases c9 : x4_1 = true
      · subst c9
        have H1 : (some 0) = some r := by rw [if_pos rfl] at H; exact H
        clear H
        have H := H1
        clear H1
        obtain rfl := Option.some.inj H
        go_wp2
        go_ret
        exact ⟨by first | rfl | (simp; done) | (simp [*]; done), by repeat (first | exact Drawn0.refl _ | apply Drawn0.step)⟩
      · replace c9 := Bool.eq_false_iff.mpr c9
        subst c9
        have H1 : (if a0 = 1 then (some 1) else (if a0 = 4 then (some 2) else (if a0 = 3 then (some 5) else (if a0 = 8 then (some 6) else (if a0 = 9 then (some 130) else (some 132)))))) = some r := by rw [if_neg (show ¬ (false = true) by decide)] at H; exact H
        clear H
        have H := H1
        clear H1
        by_cases c10 : a0 = 1
        · rw [if_pos c10] at H
          have c10b0 : (a0 == 1) = true := beq_iff_eq.mpr c10
          have c10b1 : (a0 != 1) = false := bne_eq_false_iff_eq.mpr c10
          clear c10
          obtain rfl := Option.some.inj H
          go_wp2
          go_ret
          exact ⟨by first | rfl | (simp; done) | (simp [*]; done), by repeat (first | exact Drawn0.refl _ | apply Drawn0.step)⟩
        · rw [if_neg c10] at H
          have c10b0 : (a0 == 1) = false := beq_eq_false_iff_ne.mpr c10
          have c10b1 : (a0 != 1) = true := bne_iff_ne.mpr c10
          by_cases c11 : a0 = 4
          · rw [if_pos c11] at H
            have c11b0 : (a0 == 4) = true := beq_iff_eq.mpr c11
            have c11b1 : (a0 != 4) = false := bne_eq_false_iff_eq.mpr c11
            clear c11
            obtain rfl := Option.some.inj H
            go_wp2
            go_ret
            exact ⟨by first | rfl | (simp; done) | (simp [*]; done), by repeat (first | exact Drawn0.refl _ | apply Drawn0.step)⟩
          · rw [if_neg c11] at H
            have c11b0 : (a0 == 4) = false := beq_eq_false_iff_ne.mpr c11
            have c11b1 : (a0 != 4) = true := bne_iff_ne.mpr c11
            by_cases c12 : a0 = 3
            · rw [if_pos c12] at H
              have c12b0 : (a0 == 3) = true := beq_iff_eq.mpr c12
              have c12b1 : (a0 != 3) = false := bne_eq_false_iff_eq.mpr c12
              clear c12
              obtain rfl := Option.some.inj H
              go_wp2
              go_ret
              exact ⟨by first | rfl | (simp; done) | (simp [*]; done), by repeat (first | exact Drawn0.refl _ | apply Drawn0.step)⟩
            · rw [if_neg c12] at H
              have c12b0 : (a0 == 3) = false := beq_eq_false_iff_ne.mpr c12
              have c12b1 : (a0 != 3) = true := bne_iff_ne.mpr c12
              by_cases c13 : a0 = 8
              · rw [if_pos c13] at H
                have c13b0 : (a0 == 8) = true := beq_iff_eq.mpr c13
                have c13b1 : (a0 != 8) = false := bne_eq_false_iff_eq.mpr c13
                clear c13
                obtain rfl := Option.some.inj H
                go_wp2
                go_ret
                exact ⟨by first | rfl | (simp; done) | (simp [*]; done), by repeat (first | exact Drawn0.refl _ | apply Drawn0.step)⟩
              · rw [if_neg c13] at H
                have c13b0 : (a0 == 8) = false := beq_eq_false_iff_ne.mpr c13
                have c13b1 : (a0 != 8) = true := bne_iff_ne.mpr c13
                by_cases c14 : a0 = 9
                · rw [if_pos c14] at H
                  have c14b0 : (a0 == 9) = true := beq_iff_eq.mpr c14
                  have c14b1 : (a0 != 9) = false := bne_eq_false_iff_eq.mpr c14
                  clear c14
                  obtain rfl := Option.some.inj H
                  go_wp2
                  go_ret
                  exact ⟨by first | rfl | (simp; done) | (simp [*]; done), by repeat (first | exact Drawn0.refl _ | apply Drawn0.step)⟩
                · rw [if_neg c14] at H
                  have c14b0 : (a0 == 9) = false := beq_eq_false_iff_ne.mpr c14
                  have c14b1 : (a0 != 9) = true := bne_iff_ne.mpr c14
                  obtain rfl := Option.some.inj H
                  go_wp2
                  go_ret
                  exact ⟨by first | rfl | (simp; done) | (simp [*]; done), by repeat (first | exact Drawn0.refl _ | apply Drawn0.step)⟩

/-! ### binout_silent: function 15 -/
def binout_silent.f (k : Nat) (l0_0 : List (S44)) (a0_1 : Int) (a0_2 : ByteArray) (a0_3 : Int) (a0_4 : Int) (a0_5 : Bool) (a0_6 : Bool) (a0_7 : ByteArray) (l0_8 : List ByteArray) (l0_9 : List ByteArray) (a0_10 : Bool) (a1_0 : Int) (l1_1 : List Int) (a1_2 : Int) (a1_3 : Int) (a1_4 : Int) (a1_5 : Int) (a1_6 : Bool) (a1_7 : Bool) (a1_8 : Bool) : Option (Bool) := if 0 < (l0_0.length : Int) then (if ((rd_T44 l0_0 0).f0) = 0 then (if a0_5 = true then (some (a1_0 == 1)) else (some false)) else (if ((rd_T44 l0_0 0).f0) = 1 then (if a0_5 = true then (some (a1_0 == 1)) else (some false)) else (if a0_5 = true then ((binout_Code.f k a1_0).bind fun t106 => (some (t106 == 0))) else (some false)))) else (none)
theorem binout_silent.mono : ∀ a0 a1 a2 a3 a4 a5 a6 a7 a8 a9 a10 a11 a12 a13 a14 a15 a16 a17 a18 a19 k, LeO (binout_silent.f k a0 a1 a2 a3 a4 a5 a6 a7 a8 a9 a10 a11 a12 a13 a14 a15 a16 a17 a18 a19) (binout_silent.f (k + 1) a0 a1 a2 a3 a4 a5 a6 a7 a8 a9 a10 a11 a12 a13 a14 a15 a16 a17 a18 a19) := by
  intro a0 a1 a2 a3 a4 a5 a6 a7 a8 a9 a10 a11 a12 a13 a14 a15 a16 a17 a18 a19 k
  unfold binout_silent.f
  repeat' first
      | (with_reducible exact binout_Code.mono _ _)
      | (with_reducible exact LeO.refl _)
      | (with_reducible exact LeO.none _)
      | (with_reducible refine LeO.ite ?_ ?_)
      | (with_reducible refine LeO.bind ?_ (fun _ => ?_))
      | exact binout_Code.mono _ _
      | exact LeO.none _
      | refine LeO.ite ?_ ?_
      | refine LeO.bind ?_ (fun _ => ?_)
set_option maxHeartbeats 8000000 in
set_option maxRecDepth 100000 in
theorem binout_silent.calls (k : Nat) (A0_0 : Option Addr) (c0_0 : Nat) (l0_0 : List (S44)) (a0_1 : Int) (a0_2 : ByteArray) (a0_3 : Int) (a0_4 : Int) (a0_5 : Bool) (a0_6 : Bool) (a0_7 : ByteArray) (A0_8 : Option Addr) (c0_8 : Nat) (l0_8 : List ByteArray) (A0_9 : Option Addr) (c0_9 : Nat) (l0_9 : List ByteArray) (a0_10 : Bool) (a1_0 : Int) (A1_1 : Option Addr) (c1_1 : Nat) (l1_1 : List Int) (a1_2 : Int) (a1_3 : Int) (a1_4 : Int) (a1_5 : Int) (a1_6 : Bool) (a1_7 : Bool) (a1_8 : Bool) (r : Bool) (w : World) (hr0_0 : Kd.C k44 w A0_0 l0_0.length l0_0) (hc0_0 : l0_0.length ≤ c0_0) (hr0_8 : Kd.C Kd.string w A0_8 l0_8.length l0_8) (hc0_8 : l0_8.length ≤ c0_8) (hr0_9 : Kd.C Kd.string w A0_9 l0_9.length l0_9) (hc0_9 : l0_9.length ≤ c0_9) (hr1_1 : Kd.C (Kd.int .u8) w A1_1 l1_1.length l1_1) (hc1_1 : l1_1.length ≤ c1_1) (h : binout_silent.f k l0_0 a0_1 a0_2 a0_3 a0_4 a0_5 a0_6 a0_7 l0_8 l0_9 a0_10 a1_0 l1_1 a1_2 a1_3 a1_4 a1_5 a1_6 a1_7 a1_8 = some r) :
    Calls Try.prog 15 #[.agg #[.slice A0_0 l0_0.length c0_0, .int .i64 a0_1, .string a0_2, .int .i64 a0_3, .int .u32 a0_4, .bool a0_5, .bool a0_6, .string a0_7, .slice A0_8 l0_8.length c0_8, .slice A0_9 l0_9.length c0_9, .bool a0_10], .agg #[.int .i64 a1_0, .slice A1_1 l1_1.length c1_1, .int .u32 a1_2, .int .u64 a1_3, .int .i64 a1_4, .int .u64 a1_5, .bool a1_6, .bool a1_7, .bool a1_8]] w fun e w' => e = .returned (.bool r) ∧ Below w.heap.size w w' := by
  have hu39 := Try.underlying39
  have hu46 := Try.underlying46
  have HR0_0 := Aside0.mk hr0_0
  have HC0_0 := Aside0.mk hc0_0
  clear hr0_0 hc0_0
  have HR0_8 := Aside0.mk hr0_8
  have HC0_8 := Aside0.mk hc0_8
  clear hr0_8 hc0_8
  have HR0_9 := Aside0.mk hr0_9
  have HC0_9 := Aside0.mk hc0_9
  clear hr0_9 hc0_9
  have HR1_1 := Aside0.mk hr1_1
  have HC1_1 := Aside0.mk hc1_1
  clear hr1_1 hc1_1
  have HB := Aside0.mk (Below.refl w.heap.size w)
  have H : (if 0 < (l0_0.length : Int) then (if ((rd_T44 l0_0 0).f0) = 0 then (if a0_5 = true then (some (a1_0 == 1)) else (some false)) else (if ((rd_T44 l0_0 0).f0) = 1 then (if a0_5 = true then (some (a1_0 == 1)) else (some false)) else (if a0_5 = true then ((binout_Code.f k a1_0).bind fun t106 => (some (t106 == 0))) else (some false)))) else (none)) = some r := h
  clear h
  by_cases c3 : 0 < (l0_0.length : Int)
  · rw [if_pos c3] at H
    have c3b0 : decide (0 < (l0_0.length : Int)) = true := decide_eq_true c3
    have c3b1 : decide (0 < l0_0.length) = true := decide_eq_true (by omega)
    clear c3
    by_cases c4 : ((rd_T44 l0_0 0).f0) = 0
    · rw [if_pos c4] at H
      have c4b0 : (((rd_T44 l0_0 0).f0) == 0) = true := beq_iff_eq.mpr c4
      have c4b1 : (((rd_T44 l0_0 0).f0) != 0) = false := bne_eq_false_iff_eq.mpr c4
      clear c4
      by_cases c5 : a0_5 = true
      · subst c5
        have H1 : (some (a1_0 == 1)) = some r := by rw [if_pos rfl] at H; exact H
        clear H
        have H := H1
        clear H1
        obtain rfl := Option.some.inj H
        go_enter Try.func15, Try.ntmps15
        go_wp2_with (first | ((with_reducible refine gate_dst (N := 2) rfl ?_); refine box_event ?hg (N := 2) ?hd (cs := #[.slice A0_0 l0_0.length c0_0, .int .i64 a0_1, .string a0_2, .int .i64 a0_3, .int .u32 a0_4, .bool true, .bool a0_6, .string a0_7, .slice A0_8 l0_8.length c0_8, .slice A0_9 l0_9.length c0_9, .bool a0_10]) (t := 39) ?hr ?_; (case hd => rfl); (case hg => rfl); (case hr => first | (go_simp; done) | (go_simp; rfl)); intro gb103 hg w6 hbox hb; have n0_ := Aside0.mk (below_step (by repeat (first | (with_reducible first | exact HB.out | apply below_alloc | apply pw_below_drewN | apply below_drew1) | exact HB.out)) hb); have n1_ := Aside0.mk (hbox); have n2_ := Aside0.mk ((by rw [hg]; exact (below_size (by repeat (first | (with_reducible first | exact HB.out | apply below_alloc | apply pw_below_drewN | apply below_drew1) | exact HB.out))) : w.heap.size ≤ gb103)); have n3_ := Aside0.mk ((by rw [hg]; exact (below_size (by repeat (first | (with_reducible first | exact HB.out | apply below_alloc | apply pw_below_drewN | apply below_drew1) | exact HB.out))) : w.heap.size ≤ gb103)); clear HB; have HB := n0_; have BK103 := n1_; have GW103 := n2_; have GE103 := n3_; clear n0_ n1_ n2_ n3_; clear hb hbox hg) | ((with_reducible refine gate_dst (N := 3) rfl ?_); refine box_event ?hg (N := 3) ?hd (cs := #[.int .i64 a1_0, .slice A1_1 l1_1.length c1_1, .int .u32 a1_2, .int .u64 a1_3, .int .i64 a1_4, .int .u64 a1_5, .bool a1_6, .bool a1_7, .bool a1_8]) (t := 46) ?hr ?_; (case hd => rfl); (case hg => rfl); (case hr => first | (go_simp; done) | (go_simp; rfl)); intro gb104 hg w7 hbox hb; have n0_ := Aside0.mk (blk_below (g := gb103) (o := .cells #[.slice A0_0 l0_0.length c0_0, .int .i64 a0_1, .string a0_2, .int .i64 a0_3, .int .u32 a0_4, .bool true, .bool a0_6, .string a0_7, .slice A0_8 l0_8.length c0_8, .slice A0_9 l0_9.length c0_9, .bool a0_10] 39 (0, 0)) (by (with_reducible repeat (first | refine blk_drewN ?_ _ | refine blk_drew ?_ | refine blk_alloc ?_ _)); exact BK103.out) hb); have n1_ := Aside0.mk (below_step (by repeat (first | (with_reducible first | exact HB.out | apply below_alloc | apply pw_below_drewN | apply below_drew1 | refine below_set ?_ GE103.out) | exact HB.out)) hb); have n2_ := Aside0.mk (hbox); have n3_ := Aside0.mk ((by rw [hg]; exact (below_size (by repeat (first | (with_reducible first | exact HB.out | apply below_alloc | apply pw_below_drewN | apply below_drew1 | refine below_set ?_ GE103.out) | exact HB.out))) : w.heap.size ≤ gb104)); have n4_ := Aside0.mk ((by rw [hg]; exact (below_size (by repeat (first | (with_reducible first | exact HB.out | apply below_alloc | apply pw_below_drewN | apply below_drew1 | refine below_set ?_ GE103.out) | exact HB.out))) : w.heap.size ≤ gb104)); have n5_ := Aside0.mk ((by rw [hg]; exact Nat.ne_of_lt (blk_lt (g := gb103) (o := .cells #[.slice A0_0 l0_0.length c0_0, .int .i64 a0_1, .string a0_2, .int .i64 a0_3, .int .u32 a0_4, .bool true, .bool a0_6, .string a0_7, .slice A0_8 l0_8.length c0_8, .slice A0_9 l0_9.length c0_9, .bool a0_10] 39 (0, 0)) (by (with_reducible repeat (first | refine blk_drewN ?_ _ | refine blk_drew ?_ | refine blk_alloc ?_ _)); exact BK103.out)) : gb103 ≠ gb104)); have n6_ := Aside0.mk ((by rw [hg]; exact Nat.ne_of_gt (blk_lt (g := gb103) (o := .cells #[.slice A0_0 l0_0.length c0_0, .int .i64 a0_1, .string a0_2, .int .i64 a0_3, .int .u32 a0_4, .bool true, .bool a0_6, .string a0_7, .slice A0_8 l0_8.length c0_8, .slice A0_9 l0_9.length c0_9, .bool a0_10] 39 (0, 0)) (by (with_reducible repeat (first | refine blk_drewN ?_ _ | refine blk_drew ?_ | refine blk_alloc ?_ _)); exact BK103.out)) : gb104 ≠ gb103)); clear BK103; clear HB; have BK103 := n0_; have HB := n1_; have BK104 := n2_; have GW104 := n3_; have GE104 := n4_; have NB103_104 := n5_; have NB104_103 := n6_; clear n0_ n1_ n2_ n3_ n4_ n5_ n6_; clear hb hbox hg; have hnb8 := NB103_104.out; have hnc8 := NB104_103.out; have hcz9_0 : w7.cell? ⟨gb103, 0, none⟩ = some (.slice A0_0 l0_0.length c0_0) := (blk_cell BK103.out 0).trans rfl; have hcz9_1 : w7.cell? ⟨gb103, 1, none⟩ = some (.int .i64 a0_1) := (blk_cell BK103.out 1).trans rfl; have hcz9_2 : w7.cell? ⟨gb103, 2, none⟩ = some (.string a0_2) := (blk_cell BK103.out 2).trans rfl; have hcz9_3 : w7.cell? ⟨gb103, 3, none⟩ = some (.int .i64 a0_3) := (blk_cell BK103.out 3).trans rfl; have hcz9_4 : w7.cell? ⟨gb103, 4, none⟩ = some (.int .u32 a0_4) := (blk_cell BK103.out 4).trans rfl; have hcz9_5 : w7.cell? ⟨gb103, 5, none⟩ = some (.bool true) := (blk_cell BK103.out 5).trans rfl; have hcz9_6 : w7.cell? ⟨gb103, 6, none⟩ = some (.bool a0_6) := (blk_cell BK103.out 6).trans rfl; have hcz9_7 : w7.cell? ⟨gb103, 7, none⟩ = some (.string a0_7) := (blk_cell BK103.out 7).trans rfl; have hcz9_8 : w7.cell? ⟨gb103, 8, none⟩ = some (.slice A0_8 l0_8.length c0_8) := (blk_cell BK103.out 8).trans rfl; have hcz9_9 : w7.cell? ⟨gb103, 9, none⟩ = some (.slice A0_9 l0_9.length c0_9) := (blk_cell BK103.out 9).trans rfl; have hcz9_10 : w7.cell? ⟨gb103, 10, none⟩ = some (.bool a0_10) := (blk_cell BK103.out 10).trans rfl; have hfz9_0 := blk_frozen BK103.out 0; have hfz9_1 := blk_frozen BK103.out 1; have hfz9_2 := blk_frozen BK103.out 2; have hfz9_3 := blk_frozen BK103.out 3; have hfz9_4 := blk_frozen BK103.out 4; have hfz9_5 := blk_frozen BK103.out 5; have hfz9_6 := blk_frozen BK103.out 6; have hfz9_7 := blk_frozen BK103.out 7; have hfz9_8 := blk_frozen BK103.out 8; have hfz9_9 := blk_frozen BK103.out 9; have hfz9_10 := blk_frozen BK103.out 10; have p105 : 0 ≤ (0 : Int) := (by omega); have q105 : 0 < (l0_0.length : Int) := of_decide_eq_true (by first | (with_reducible assumption) | assumption); obtain ⟨ad105, A105_2, c105_2, e105, hx105_0, hx105_1, hx105_2, hx105_3, hx105_4, hx105_5, hx105_6, hx105_7, hx105_8, hx105_9, hl105_2, hi105_2⟩ := at_T44 HR0_0.out 0 p105 q105; cases e105; have qi105 : (0 < l0_0.length) = True := eq_true (by omega); (try rw [show ((0 : Int)).toNat = 0 from rfl] at hx105_0); (try rw [show 0 * 10 = 0 from rfl] at hx105_0); (try rw [Addr.add_zero'] at hx105_0); (try rw [show ((0 : Int)).toNat = 0 from rfl] at hx105_1); (try rw [show 0 * 10 = 0 from rfl] at hx105_1); (try rw [Addr.add_zero'] at hx105_1); (try rw [show ((0 : Int)).toNat = 0 from rfl] at hx105_2); (try rw [show 0 * 10 = 0 from rfl] at hx105_2); (try rw [Addr.add_zero'] at hx105_2); (try rw [show ((0 : Int)).toNat = 0 from rfl] at hx105_3); (try rw [show 0 * 10 = 0 from rfl] at hx105_3); (try rw [Addr.add_zero'] at hx105_3); (try rw [show ((0 : Int)).toNat = 0 from rfl] at hx105_4); (try rw [show 0 * 10 = 0 from rfl] at hx105_4); (try rw [Addr.add_zero'] at hx105_4); (try rw [show ((0 : Int)).toNat = 0 from rfl] at hx105_5); (try rw [show 0 * 10 = 0 from rfl] at hx105_5); (try rw [Addr.add_zero'] at hx105_5); (try rw [show ((0 : Int)).toNat = 0 from rfl] at hx105_6); (try rw [show 0 * 10 = 0 from rfl] at hx105_6); (try rw [Addr.add_zero'] at hx105_6); (try rw [show ((0 : Int)).toNat = 0 from rfl] at hx105_7); (try rw [show 0 * 10 = 0 from rfl] at hx105_7); (try rw [Addr.add_zero'] at hx105_7); (try rw [show ((0 : Int)).toNat = 0 from rfl] at hx105_8); (try rw [show 0 * 10 = 0 from rfl] at hx105_8); (try rw [Addr.add_zero'] at hx105_8); (try rw [show ((0 : Int)).toNat = 0 from rfl] at hx105_9); (try rw [show 0 * 10 = 0 from rfl] at hx105_9); (try rw [Addr.add_zero'] at hx105_9); replace hx105_0 := (HB.out.cell (World.block_lt_of_cell? w _ hx105_0)).trans hx105_0; replace hx105_1 := (HB.out.cell (World.block_lt_of_cell? w _ hx105_1)).trans hx105_1; replace hx105_2 := (HB.out.cell (World.block_lt_of_cell? w _ hx105_2)).trans hx105_2; replace hx105_3 := (HB.out.cell (World.block_lt_of_cell? w _ hx105_3)).trans hx105_3; replace hx105_4 := (HB.out.cell (World.block_lt_of_cell? w _ hx105_4)).trans hx105_4; replace hx105_5 := (HB.out.cell (World.block_lt_of_cell? w _ hx105_5)).trans hx105_5; replace hx105_6 := (HB.out.cell (World.block_lt_of_cell? w _ hx105_6)).trans hx105_6; replace hx105_7 := (HB.out.cell (World.block_lt_of_cell? w _ hx105_7)).trans hx105_7; replace hx105_8 := (HB.out.cell (World.block_lt_of_cell? w _ hx105_8)).trans hx105_8; replace hx105_9 := (HB.out.cell (World.block_lt_of_cell? w _ hx105_9)).trans hx105_9; have HR105_2 := Aside0.mk hi105_2; have HC105_2 := Aside0.mk hl105_2; clear hi105_2 hl105_2; replace p105 := eq_true p105; replace q105 := eq_true q105; have hcz10_0 : w7.cell? ⟨gb104, 0, none⟩ = some (.int .i64 a1_0) := (blk_cell BK104.out 0).trans rfl; have hcz10_1 : w7.cell? ⟨gb104, 1, none⟩ = some (.slice A1_1 l1_1.length c1_1) := (blk_cell BK104.out 1).trans rfl; have hcz10_2 : w7.cell? ⟨gb104, 2, none⟩ = some (.int .u32 a1_2) := (blk_cell BK104.out 2).trans rfl; have hcz10_3 : w7.cell? ⟨gb104, 3, none⟩ = some (.int .u64 a1_3) := (blk_cell BK104.out 3).trans rfl; have hcz10_4 : w7.cell? ⟨gb104, 4, none⟩ = some (.int .i64 a1_4) := (blk_cell BK104.out 4).trans rfl; have hcz10_5 : w7.cell? ⟨gb104, 5, none⟩ = some (.int .u64 a1_5) := (blk_cell BK104.out 5).trans rfl; have hcz10_6 : w7.cell? ⟨gb104, 6, none⟩ = some (.bool a1_6) := (blk_cell BK104.out 6).trans rfl; have hcz10_7 : w7.cell? ⟨gb104, 7, none⟩ = some (.bool a1_7) := (blk_cell BK104.out 7).trans rfl; have hcz10_8 : w7.cell? ⟨gb104, 8, none⟩ = some (.bool a1_8) := (blk_cell BK104.out 8).trans rfl; have hfz10_0 := blk_frozen BK104.out 0; have hfz10_1 := blk_frozen BK104.out 1; have hfz10_2 := blk_frozen BK104.out 2; have hfz10_3 := blk_frozen BK104.out 3; have hfz10_4 := blk_frozen BK104.out 4; have hfz10_5 := blk_frozen BK104.out 5; have hfz10_6 := blk_frozen BK104.out 6; have hfz10_7 := blk_frozen BK104.out 7; have hfz10_8 := blk_frozen BK104.out 8))
        go_ret
        exact ⟨by first | rfl | (simp [errW_none, errW_some] <;> rfl) | (simp [*, errW_none, errW_some] <;> rfl), by repeat (first | (with_reducible first | exact HB.out | apply below_alloc | apply pw_below_drewN | apply below_drew1 | refine below_set ?_ GE103.out | refine below_set ?_ GE104.out) | exact HB.out)⟩
      · replace c5 := Bool.eq_false_iff.mpr c5
        subst c5
        have H1 : (some false) = some r := by rw [if_neg (show ¬ (false = true) by decide)] at H; exact H
        clear H
        have H := H1
        clear H1
        obtain rfl := Option.some.inj H
        go_enter Try.func15, Try.ntmps15
        go_wp2_with (first | ((with_reducible refine gate_dst (N := 2) rfl ?_); refine box_event ?hg (N := 2) ?hd (cs := #[.slice A0_0 l0_0.length c0_0, .int .i64 a0_1, .string a0_2, .int .i64 a0_3, .int .u32 a0_4, .bool false, .bool a0_6, .string a0_7, .slice A0_8 l0_8.length c0_8, .slice A0_9 l0_9.length c0_9, .bool a0_10]) (t := 39) ?hr ?_; (case hd => rfl); (case hg => rfl); (case hr => first | (go_simp; done) | (go_simp; rfl)); intro gb103 hg w11 hbox hb; have n0_ := Aside0.mk (below_step (by repeat (first | (with_reducible first | exact HB.out | apply below_alloc | apply pw_below_drewN | apply below_drew1) | exact HB.out)) hb); have n1_ := Aside0.mk (hbox); have n2_ := Aside0.mk ((by rw [hg]; exact (below_size (by repeat (first | (with_reducible first | exact HB.out | apply below_alloc | apply pw_below_drewN | apply below_drew1) | exact HB.out))) : w.heap.size ≤ gb103)); have n3_ := Aside0.mk ((by rw [hg]; exact (below_size (by repeat (first | (with_reducible first | exact HB.out | apply below_alloc | apply pw_below_drewN | apply below_drew1) | exact HB.out))) : w.heap.size ≤ gb103)); clear HB; have HB := n0_; have BK103 := n1_; have GW103 := n2_; have GE103 := n3_; clear n0_ n1_ n2_ n3_; clear hb hbox hg) | ((with_reducible refine gate_dst (N := 3) rfl ?_); refine box_event ?hg (N := 3) ?hd (cs := #[.int .i64 a1_0, .slice A1_1 l1_1.length c1_1, .int .u32 a1_2, .int .u64 a1_3, .int .i64 a1_4, .int .u64 a1_5, .bool a1_6, .bool a1_7, .bool a1_8]) (t := 46) ?hr ?_; (case hd => rfl); (case hg => rfl); (case hr => first | (go_simp; done) | (go_simp; rfl)); intro gb104 hg w12 hbox hb; have n0_ := Aside0.mk (blk_below (g := gb103) (o := .cells #[.slice A0_0 l0_0.length c0_0, .int .i64 a0_1, .string a0_2, .int .i64 a0_3, .int .u32 a0_4, .bool false, .bool a0_6, .string a0_7, .slice A0_8 l0_8.length c0_8, .slice A0_9 l0_9.length c0_9, .bool a0_10] 39 (0, 0)) (by (with_reducible repeat (first | refine blk_drewN ?_ _ | refine blk_drew ?_ | refine blk_alloc ?_ _)); exact BK103.out) hb); have n1_ := Aside0.mk (below_step (by repeat (first | (with_reducible first | exact HB.out | apply below_alloc | apply pw_below_drewN | apply below_drew1 | refine below_set ?_ GE103.out) | exact HB.out)) hb); have n2_ := Aside0.mk (hbox); have n3_ := Aside0.mk ((by rw [hg]; exact (below_size (by repeat (first | (with_reducible first | exact HB.out | apply below_alloc | apply pw_below_drewN | apply below_drew1 | refine below_set ?_ GE103.out) | exact HB.out))) : w.heap.size ≤ gb104)); have n4_ := Aside0.mk ((by rw [hg]; exact (below_size (by repeat (first | (with_reducible first | exact HB.out | apply below_alloc | apply pw_below_drewN | apply below_drew1 | refine below_set ?_ GE103.out) | exact HB.out))) : w.heap.size ≤ gb104)); have n5_ := Aside0.mk ((by rw [hg]; exact Nat.ne_of_lt (blk_lt (g := gb103) (o := .cells #[.slice A0_0 l0_0.length c0_0, .int .i64 a0_1, .string a0_2, .int .i64 a0_3, .int .u32 a0_4, .bool false, .bool a0_6, .string a0_7, .slice A0_8 l0_8.length c0_8, .slice A0_9 l0_9.length c0_9, .bool a0_10] 39 (0, 0)) (by (with_reducible repeat (first | refine blk_drewN ?_ _ | refine blk_drew ?_ | refine blk_alloc ?_ _)); exact BK103.out)) : gb103 ≠ gb104)); have n6_ := Aside0.mk ((by rw [hg]; exact Nat.ne_of_gt (blk_lt (g := gb103) (o := .cells #[.slice A0_0 l0_0.length c0_0, .int .i64 a0_1, .string a0_2, .int .i64 a0_3, .int .u32 a0_4, .bool false, .bool a0_6, .string a0_7, .slice A0_8 l0_8.length c0_8, .slice A0_9 l0_9.length c0_9, .bool a0_10] 39 (0, 0)) (by (with_reducible repeat (first | refine blk_drewN ?_ _ | refine blk_drew ?_ | refine blk_alloc ?_ _)); exact BK103.out)) : gb104 ≠ gb103)); clear BK103; clear HB; have BK103 := n0_; have HB := n1_; have BK104 := n2_; have GW104 := n3_; have GE104 := n4_; have NB103_104 := n5_; have NB104_103 := n6_; clear n0_ n1_ n2_ n3_ n4_ n5_ n6_; clear hb hbox hg; have hnb13 := NB103_104.out; have hnc13 := NB104_103.out; have hcz14_0 : w12.cell? ⟨gb103, 0, none⟩ = some (.slice A0_0 l0_0.length c0_0) := (blk_cell BK103.out 0).trans rfl; have hcz14_1 : w12.cell? ⟨gb103, 1, none⟩ = some (.int .i64 a0_1) := (blk_cell BK103.out 1).trans rfl; have hcz14_2 : w12.cell? ⟨gb103, 2, none⟩ = some (.string a0_2) := (blk_cell BK103.out 2).trans rfl; have hcz14_3 : w12.cell? ⟨gb103, 3, none⟩ = some (.int .i64 a0_3) := (blk_cell BK103.out 3).trans rfl; have hcz14_4 : w12.cell? ⟨gb103, 4, none⟩ = some (.int .u32 a0_4) := (blk_cell BK103.out 4).trans rfl; have hcz14_5 : w12.cell? ⟨gb103, 5, none⟩ = some (.bool false) := (blk_cell BK103.out 5).trans rfl; have hcz14_6 : w12.cell? ⟨gb103, 6, none⟩ = some (.bool a0_6) := (blk_cell BK103.out 6).trans rfl; have hcz14_7 : w12.cell? ⟨gb103, 7, none⟩ = some (.string a0_7) := (blk_cell BK103.out 7).trans rfl; have hcz14_8 : w12.cell? ⟨gb103, 8, none⟩ = some (.slice A0_8 l0_8.length c0_8) := (blk_cell BK103.out 8).trans rfl; have hcz14_9 : w12.cell? ⟨gb103, 9, none⟩ = some (.slice A0_9 l0_9.length c0_9) := (blk_cell BK103.out 9).trans rfl; have hcz14_10 : w12.cell? ⟨gb103, 10, none⟩ = some (.bool a0_10) := (blk_cell BK103.out 10).trans rfl; have hfz14_0 := blk_frozen BK103.out 0; have hfz14_1 := blk_frozen BK103.out 1; have hfz14_2 := blk_frozen BK103.out 2; have hfz14_3 := blk_frozen BK103.out 3; have hfz14_4 := blk_frozen BK103.out 4; have hfz14_5 := blk_frozen BK103.out 5; have hfz14_6 := blk_frozen BK103.out 6; have hfz14_7 := blk_frozen BK103.out 7; have hfz14_8 := blk_frozen BK103.out 8; have hfz14_9 := blk_frozen BK103.out 9; have hfz14_10 := blk_frozen BK103.out 10; have p105 : 0 ≤ (0 : Int) := (by omega); have q105 : 0 < (l0_0.length : Int) := of_decide_eq_true (by first | (with_reducible assumption) | assumption); obtain ⟨ad105, A105_2, c105_2, e105, hx105_0, hx105_1, hx105_2, hx105_3, hx105_4, hx105_5, hx105_6, hx105_7, hx105_8, hx105_9, hl105_2, hi105_2⟩ := at_T44 HR0_0.out 0 p105 q105; cases e105; have qi105 : (0 < l0_0.length) = True := eq_true (by omega); (try rw [show ((0 : Int)).toNat = 0 from rfl] at hx105_0); (try rw [show 0 * 10 = 0 from rfl] at hx105_0); (try rw [Addr.add_zero'] at hx105_0); (try rw [show ((0 : Int)).toNat = 0 from rfl] at hx105_1); (try rw [show 0 * 10 = 0 from rfl] at hx105_1); (try rw [Addr.add_zero'] at hx105_1); (try rw [show ((0 : Int)).toNat = 0 from rfl] at hx105_2); (try rw [show 0 * 10 = 0 from rfl] at hx105_2); (try rw [Addr.add_zero'] at hx105_2); (try rw [show ((0 : Int)).toNat = 0 from rfl] at hx105_3); (try rw [show 0 * 10 = 0 from rfl] at hx105_3); (try rw [Addr.add_zero'] at hx105_3); (try rw [show ((0 : Int)).toNat = 0 from rfl] at hx105_4); (try rw [show 0 * 10 = 0 from rfl] at hx105_4); (try rw [Addr.add_zero'] at hx105_4); (try rw [show ((0 : Int)).toNat = 0 from rfl] at hx105_5); (try rw [show 0 * 10 = 0 from rfl] at hx105_5); (try rw [Addr.add_zero'] at hx105_5); (try rw [show ((0 : Int)).toNat = 0 from rfl] at hx105_6); (try rw [show 0 * 10 = 0 from rfl] at hx105_6); (try rw [Addr.add_zero'] at hx105_6); (try rw [show ((0 : Int)).toNat = 0 from rfl] at hx105_7); (try rw [show 0 * 10 = 0 from rfl] at hx105_7); (try rw [Addr.add_zero'] at hx105_7); (try rw [show ((0 : Int)).toNat = 0 from rfl] at hx105_8); (try rw [show 0 * 10 = 0 from rfl] at hx105_8); (try rw [Addr.add_zero'] at hx105_8); (try rw [show ((0 : Int)).toNat = 0 from rfl] at hx105_9); (try rw [show 0 * 10 = 0 from rfl] at hx105_9); (try rw [Addr.add_zero'] at hx105_9); replace hx105_0 := (HB.out.cell (World.block_lt_of_cell? w _ hx105_0)).trans hx105_0; replace hx105_1 := (HB.out.cell (World.block_lt_of_cell? w _ hx105_1)).trans hx105_1; replace hx105_2 := (HB.out.cell (World.block_lt_of_cell? w _ hx105_2)).trans hx105_2; replace hx105_3 := (HB.out.cell (World.block_lt_of_cell? w _ hx105_3)).trans hx105_3; replace hx105_4 := (HB.out.cell (World.block_lt_of_cell? w _ hx105_4)).trans hx105_4; replace hx105_5 := (HB.out.cell (World.block_lt_of_cell? w _ hx105_5)).trans hx105_5; replace hx105_6 := (HB.out.cell (World.block_lt_of_cell? w _ hx105_6)).trans hx105_6; replace hx105_7 := (HB.out.cell (World.block_lt_of_cell? w _ hx105_7)).trans hx105_7; replace hx105_8 := (HB.out.cell (World.block_lt_of_cell? w _ hx105_8)).trans hx105_8; replace hx105_9 := (HB.out.cell (World.block_lt_of_cell? w _ hx105_9)).trans hx105_9; have HR105_2 := Aside0.mk hi105_2; have HC105_2 := Aside0.mk hl105_2; clear hi105_2 hl105_2; replace p105 := eq_true p105; replace q105 := eq_true q105))
        go_ret
        exact ⟨by first | rfl | (simp [errW_none, errW_some] <;> rfl) | (simp [*, errW_none, errW_some] <;> rfl), by repeat (first | (with_reducible first | exact HB.out | apply below_alloc | apply pw_below_drewN | apply below_drew1 | refine below_set ?_ GE103.out | refine below_set ?_ GE104.out) | exact HB.out)⟩
    · rw [if_neg c4] at H
      have c4b0 : (((rd_T44 l0_0 0).f0) == 0) = false := beq_eq_false_iff_ne.mpr c4
      have c4b1 : (((rd_T44 l0_0 0).f0) != 0) = true := bne_iff_ne.mpr c4
      by_cases c15 : ((rd_T44 l0_0 0).f0) = 1
      · rw [if_pos c15] at H
        have c15b0 : (((rd_T44 l0_0 0).f0) == 1) = true := beq_iff_eq.mpr c15
        have c15b1 : (((rd_T44 l0_0 0).f0) != 1) = false := bne_eq_false_iff_eq.mpr c15
        clear c15
        by_cases c16 : a0_5 = true
        · subst c16
          have H1 : (some (a1_0 == 1)) = some r := by rw [if_pos rfl] at H; exact H
          clear H
          have H := H1
          clear H1
          obtain rfl := Option.some.inj H
          go_enter Try.func15, Try.ntmps15
          go_wp2_with (first | ((with_reducible refine gate_dst (N := 2) rfl ?_); refine box_event ?hg (N := 2) ?hd (cs := #[.slice A0_0 l0_0.length c0_0, .int .i64 a0_1, .string a0_2, .int .i64 a0_3, .int .u32 a0_4, .bool true, .bool a0_6, .string a0_7, .slice A0_8 l0_8.length c0_8, .slice A0_9 l0_9.length c0_9, .bool a0_10]) (t := 39) ?hr ?_; (case hd => rfl); (case hg => rfl); (case hr => first | (go_simp; done) | (go_simp; rfl)); intro gb103 hg w17 hbox hb; have n0_ := Aside0.mk (below_step (by repeat (first | (with_reducible first | exact HB.out | apply below_alloc | apply pw_below_drewN | apply below_drew1) | exact HB.out)) hb); have n1_ := Aside0.mk (hbox); have n2_ := Aside0.mk ((by rw [hg]; exact (below_size (by repeat (first | (with_reducible first | exact HB.out | apply below_alloc | apply pw_below_drewN | apply below_drew1) | exact HB.out))) : w.heap.size ≤ gb103)); have n3_ := Aside0.mk ((by rw [hg]; exact (below_size (by repeat (first | (with_reducible first | exact HB.out | apply below_alloc | apply pw_below_drewN | apply below_drew1) | exact HB.out))) : w.heap.size ≤ gb103)); clear HB; have HB := n0_; have BK103 := n1_; have GW103 := n2_; have GE103 := n3_; clear n0_ n1_ n2_ n3_; clear hb hbox hg) | ((with_reducible refine gate_dst (N := 3) rfl ?_); refine box_event ?hg (N := 3) ?hd (cs := #[.int .i64 a1_0, .slice A1_1 l1_1.length c1_1, .int .u32 a1_2, .int .u64 a1_3, .int .i64 a1_4, .int .u64 a1_5, .bool a1_6, .bool a1_7, .bool a1_8]) (t := 46) ?hr ?_; (case hd => rfl); (case hg => rfl); (case hr => first | (go_simp; done) | (go_simp; rfl)); intro gb104 hg w18 hbox hb; have n0_ := Aside0.mk (blk_below (g := gb103) (o := .cells #[.slice A0_0 l0_0.length c0_0, .int .i64 a0_1, .string a0_2, .int .i64 a0_3, .int .u32 a0_4, .bool true, .bool a0_6, .string a0_7, .slice A0_8 l0_8.length c0_8, .slice A0_9 l0_9.length c0_9, .bool a0_10] 39 (0, 0)) (by (with_reducible repeat (first | refine blk_drewN ?_ _ | refine blk_drew ?_ | refine blk_alloc ?_ _)); exact BK103.out) hb); have n1_ := Aside0.mk (below_step (by repeat (first | (with_reducible first | exact HB.out | apply below_alloc | apply pw_below_drewN | apply below_drew1 | refine below_set ?_ GE103.out) | exact HB.out)) hb); have n2_ := Aside0.mk (hbox); have n3_ := Aside0.mk ((by rw [hg]; exact (below_size (by repeat (first | (with_reducible first | exact HB.out | apply below_alloc | apply pw_below_drewN | apply below_drew1 | refine below_set ?_ GE103.out) | exact HB.out))) : w.heap.size ≤ gb104)); have n4_ := Aside0.mk ((by rw [hg]; exact (below_size (by repeat (first | (with_reducible first | exact HB.out | apply below_alloc | apply pw_below_drewN | apply below_drew1 | refine below_set ?_ GE103.out) | exact HB.out))) : w.heap.size ≤ gb104)); have n5_ := Aside0.mk ((by rw [hg]; exact Nat.ne_of_lt (blk_lt (g := gb103) (o := .cells #[.slice A0_0 l0_0.length c0_0, .int .i64 a0_1, .string a0_2, .int .i64 a0_3, .int .u32 a0_4, .bool true, .bool a0_6, .string a0_7, .slice A0_8 l0_8.length c0_8, .slice A0_9 l0_9.length c0_9, .bool a0_10] 39 (0, 0)) (by (with_reducible repeat (first | refine blk_drewN ?_ _ | refine blk_drew ?_ | refine blk_alloc ?_ _)); exact BK103.out)) : gb103 ≠ gb104)); have n6_ := Aside0.mk ((by rw [hg]; exact Nat.ne_of_gt (blk_lt (g := gb103) (o := .cells #[.slice A0_0 l0_0.length c0_0, .int .i64 a0_1, .string a0_2, .int .i64 a0_3, .int .u32 a0_4, .bool true, .bool a0_6, .string a0_7, .slice A0_8 l0_8.length c0_8, .slice A0_9 l0_9.length c0_9, .bool a0_10] 39 (0, 0)) (by (with_reducible repeat (first | refine blk_drewN ?_ _ | refine blk_drew ?_ | refine blk_alloc ?_ _)); exact BK103.out)) : gb104 ≠ gb103)); clear BK103; clear HB; have BK103 := n0_; have HB := n1_; have BK104 := n2_; have GW104 := n3_; have GE104 := n4_; have NB103_104 := n5_; have NB104_103 := n6_; clear n0_ n1_ n2_ n3_ n4_ n5_ n6_; clear hb hbox hg; have hnb19 := NB103_104.out; have hnc19 := NB104_103.out; have hcz20_0 : w18.cell? ⟨gb103, 0, none⟩ = some (.slice A0_0 l0_0.length c0_0) := (blk_cell BK103.out 0).trans rfl; have hcz20_1 : w18.cell? ⟨gb103, 1, none⟩ = some (.int .i64 a0_1) := (blk_cell BK103.out 1).trans rfl; have hcz20_2 : w18.cell? ⟨gb103, 2, none⟩ = some (.string a0_2) := (blk_cell BK103.out 2).trans rfl; have hcz20_3 : w18.cell? ⟨gb103, 3, none⟩ = some (.int .i64 a0_3) := (blk_cell BK103.out 3).trans rfl; have hcz20_4 : w18.cell? ⟨gb103, 4, none⟩ = some (.int .u32 a0_4) := (blk_cell BK103.out 4).trans rfl; have hcz20_5 : w18.cell? ⟨gb103, 5, none⟩ = some (.bool true) := (blk_cell BK103.out 5).trans rfl; have hcz20_6 : w18.cell? ⟨gb103, 6, none⟩ = some (.bool a0_6) := (blk_cell BK103.out 6).trans rfl; have hcz20_7 : w18.cell? ⟨gb103, 7, none⟩ = some (.string a0_7) := (blk_cell BK103.out 7).trans rfl; have hcz20_8 : w18.cell? ⟨gb103, 8, none⟩ = some (.slice A0_8 l0_8.length c0_8) := (blk_cell BK103.out 8).trans rfl; have hcz20_9 : w18.cell? ⟨gb103, 9, none⟩ = some (.slice A0_9 l0_9.length c0_9) := (blk_cell BK103.out 9).trans rfl; have hcz20_10 : w18.cell? ⟨gb103, 10, none⟩ = some (.bool a0_10) := (blk_cell BK103.out 10).trans rfl; have hfz20_0 := blk_frozen BK103.out 0; have hfz20_1 := blk_frozen BK103.out 1; have hfz20_2 := blk_frozen BK103.out 2; have hfz20_3 := blk_frozen BK103.out 3; have hfz20_4 := blk_frozen BK103.out 4; have hfz20_5 := blk_frozen BK103.out 5; have hfz20_6 := blk_frozen BK103.out 6; have hfz20_7 := blk_frozen BK103.out 7; have hfz20_8 := blk_frozen BK103.out 8; have hfz20_9 := blk_frozen BK103.out 9; have hfz20_10 := blk_frozen BK103.out 10; have p105 : 0 ≤ (0 : Int) := (by omega); have q105 : 0 < (l0_0.length : Int) := of_decide_eq_true (by first | (with_reducible assumption) | assumption); obtain ⟨ad105, A105_2, c105_2, e105, hx105_0, hx105_1, hx105_2, hx105_3, hx105_4, hx105_5, hx105_6, hx105_7, hx105_8, hx105_9, hl105_2, hi105_2⟩ := at_T44 HR0_0.out 0 p105 q105; cases e105; have qi105 : (0 < l0_0.length) = True := eq_true (by omega); (try rw [show ((0 : Int)).toNat = 0 from rfl] at hx105_0); (try rw [show 0 * 10 = 0 from rfl] at hx105_0); (try rw [Addr.add_zero'] at hx105_0); (try rw [show ((0 : Int)).toNat = 0 from rfl] at hx105_1); (try rw [show 0 * 10 = 0 from rfl] at hx105_1); (try rw [Addr.add_zero'] at hx105_1); (try rw [show ((0 : Int)).toNat = 0 from rfl] at hx105_2); (try rw [show 0 * 10 = 0 from rfl] at hx105_2); (try rw [Addr.add_zero'] at hx105_2); (try rw [show ((0 : Int)).toNat = 0 from rfl] at hx105_3); (try rw [show 0 * 10 = 0 from rfl] at hx105_3); (try rw [Addr.add_zero'] at hx105_3); (try rw [show ((0 : Int)).toNat = 0 from rfl] at hx105_4); (try rw [show 0 * 10 = 0 from rfl] at hx105_4); (try rw [Addr.add_zero'] at hx105_4); (try rw [show ((0 : Int)).toNat = 0 from rfl] at hx105_5); (try rw [show 0 * 10 = 0 from rfl] at hx105_5); (try rw [Addr.add_zero'] at hx105_5); (try rw [show ((0 : Int)).toNat = 0 from rfl] at hx105_6); (try rw [show 0 * 10 = 0 from rfl] at hx105_6); (try rw [Addr.add_zero'] at hx105_6); (try rw [show ((0 : Int)).toNat = 0 from rfl] at hx105_7); (try rw [show 0 * 10 = 0 from rfl] at hx105_7); (try rw [Addr.add_zero'] at hx105_7); (try rw [show ((0 : Int)).toNat = 0 from rfl] at hx105_8); (try rw [show 0 * 10 = 0 from rfl] at hx105_8); (try rw [Addr.add_zero'] at hx105_8); (try rw [show ((0 : Int)).toNat = 0 from rfl] at hx105_9); (try rw [show 0 * 10 = 0 from rfl] at hx105_9); (try rw [Addr.add_zero'] at hx105_9); replace hx105_0 := (HB.out.cell (World.block_lt_of_cell? w _ hx105_0)).trans hx105_0; replace hx105_1 := (HB.out.cell (World.block_lt_of_cell? w _ hx105_1)).trans hx105_1; replace hx105_2 := (HB.out.cell (World.block_lt_of_cell? w _ hx105_2)).trans hx105_2; replace hx105_3 := (HB.out.cell (World.block_lt_of_cell? w _ hx105_3)).trans hx105_3; replace hx105_4 := (HB.out.cell (World.block_lt_of_cell? w _ hx105_4)).trans hx105_4; replace hx105_5 := (HB.out.cell (World.block_lt_of_cell? w _ hx105_5)).trans hx105_5; replace hx105_6 := (HB.out.cell (World.block_lt_of_cell? w _ hx105_6)).trans hx105_6; replace hx105_7 := (HB.out.cell (World.block_lt_of_cell? w _ hx105_7)).trans hx105_7; replace hx105_8 := (HB.out.cell (World.block_lt_of_cell? w _ hx105_8)).trans hx105_8; replace hx105_9 := (HB.out.cell (World.block_lt_of_cell? w _ hx105_9)).trans hx105_9; have HR105_2 := Aside0.mk hi105_2; have HC105_2 := Aside0.mk hl105_2; clear hi105_2 hl105_2; replace p105 := eq_true p105; replace q105 := eq_true q105; have hcz21_0 : w18.cell? ⟨gb104, 0, none⟩ = some (.int .i64 a1_0) := (blk_cell BK104.out 0).trans rfl; have hcz21_1 : w18.cell? ⟨gb104, 1, none⟩ = some (.slice A1_1 l1_1.length c1_1) := (blk_cell BK104.out 1).trans rfl; have hcz21_2 : w18.cell? ⟨gb104, 2, none⟩ = some (.int .u32 a1_2) := (blk_cell BK104.out 2).trans rfl; have hcz21_3 : w18.cell? ⟨gb104, 3, none⟩ = some (.int .u64 a1_3) := (blk_cell BK104.out 3).trans rfl; have hcz21_4 : w18.cell? ⟨gb104, 4, none⟩ = some (.int .i64 a1_4) := (blk_cell BK104.out 4).trans rfl; have hcz21_5 : w18.cell? ⟨gb104, 5, none⟩ = some (.int .u64 a1_5) := (blk_cell BK104.out 5).trans rfl; have hcz21_6 : w18.cell? ⟨gb104, 6, none⟩ = some (.bool a1_6) := (blk_cell BK104.out 6).trans rfl; have hcz21_7 : w18.cell? ⟨gb104, 7, none⟩ = some (.bool a1_7) := (blk_cell BK104.out 7).trans rfl; have hcz21_8 : w18.cell? ⟨gb104, 8, none⟩ = some (.bool a1_8) := (blk_cell BK104.out 8).trans rfl; have hfz21_0 := blk_frozen BK104.out 0; have hfz21_1 := blk_frozen BK104.out 1; have hfz21_2 := blk_frozen BK104.out 2; have hfz21_3 := blk_frozen BK104.out 3; have hfz21_4 := blk_frozen BK104.out 4; have hfz21_5 := blk_frozen BK104.out 5; have hfz21_6 := blk_frozen BK104.out 6; have hfz21_7 := blk_frozen BK104.out 7; have hfz21_8 := blk_frozen BK104.out 8))
          go_ret
          exact ⟨by first | rfl | (simp [errW_none, errW_some] <;> rfl) | (simp [*, errW_none, errW_some] <;> rfl), by repeat (first | (with_reducible first | exact HB.out | apply below_alloc | apply pw_below_drewN | apply below_drew1 | refine below_set ?_ GE103.out | refine below_set ?_ GE104.out) | exact HB.out)⟩
        · replace c16 := Bool.eq_false_iff.mpr c16
          subst c16
          have H1 : (some false) = some r := by rw [if_neg (show ¬ (false = true) by decide)] at H; exact H
          clear H
          have H := H1
          clear H1
          obtain rfl := Option.some.inj H
          go_enter Try.func15, Try.ntmps15
          go_wp2_with (first | ((with_reducible refine gate_dst (N := 2) rfl ?_); refine box_event ?hg (N := 2) ?hd (cs := #[.slice A0_0 l0_0.length c0_0, .int .i64 a0_1, .string a0_2, .int .i64 a0_3, .int .u32 a0_4, .bool false, .bool a0_6, .string a0_7, .slice A0_8 l0_8.length c0_8, .slice A0_9 l0_9.length c0_9, .bool a0_10]) (t := 39) ?hr ?_; (case hd => rfl); (case hg => rfl); (case hr => first | (go_simp; done) | (go_simp; rfl)); intro gb103 hg w22 hbox hb; have n0_ := Aside0.mk (below_step (by repeat (first | (with_reducible first | exact HB.out | apply below_alloc | apply pw_below_drewN | apply below_drew1) | exact HB.out)) hb); have n1_ := Aside0.mk (hbox); have n2_ := Aside0.mk ((by rw [hg]; exact (below_size (by repeat (first | (with_reducible first | exact HB.out | apply below_alloc | apply pw_below_drewN | apply below_drew1) | exact HB.out))) : w.heap.size ≤ gb103)); have n3_ := Aside0.mk ((by rw [hg]; exact (below_size (by repeat (first | (with_reducible first | exact HB.out | apply below_alloc | apply pw_below_drewN | apply below_drew1) | exact HB.out))) : w.heap.size ≤ gb103)); clear HB; have HB := n0_; have BK103 := n1_; have GW103 := n2_; have GE103 := n3_; clear n0_ n1_ n2_ n3_; clear hb hbox hg) | ((with_reducible refine gate_dst (N := 3) rfl ?_); refine box_event ?hg (N := 3) ?hd (cs := #[.int .i64 a1_0, .slice A1_1 l1_1.length c1_1, .int .u32 a1_2, .int .u64 a1_3, .int .i64 a1_4, .int .u64 a1_5, .bool a1_6, .bool a1_7, .bool a1_8]) (t := 46) ?hr ?_; (case hd => rfl); (case hg => rfl); (case hr => first | (go_simp; done) | (go_simp; rfl)); intro gb104 hg w23 hbox hb; have n0_ := Aside0.mk (blk_below (g := gb103) (o := .cells #[.slice A0_0 l0_0.length c0_0, .int .i64 a0_1, .string a0_2, .int .i64 a0_3, .int .u32 a0_4, .bool false, .bool a0_6, .string a0_7, .slice A0_8 l0_8.length c0_8, .slice A0_9 l0_9.length c0_9, .bool a0_10] 39 (0, 0)) (by (with_reducible repeat (first | refine blk_drewN ?_ _ | refine blk_drew ?_ | refine blk_alloc ?_ _)); exact BK103.out) hb); have n1_ := Aside0.mk (below_step (by repeat (first | (with_reducible first | exact HB.out | apply below_alloc | apply pw_below_drewN | apply below_drew1 | refine below_set ?_ GE103.out) | exact HB.out)) hb); have n2_ := Aside0.mk (hbox); have n3_ := Aside0.mk ((by rw [hg]; exact (below_size (by repeat (first | (with_reducible first | exact HB.out | apply below_alloc | apply pw_below_drewN | apply below_drew1 | refine below_set ?_ GE103.out) | exact HB.out))) : w.heap.size ≤ gb104)); have n4_ := Aside0.mk ((by rw [hg]; exact (below_size (by repeat (first | (with_reducible first | exact HB.out | apply below_alloc | apply pw_below_drewN | apply below_drew1 | refine below_set ?_ GE103.out) | exact HB.out))) : w.heap.size ≤ gb104)); have n5_ := Aside0.mk ((by rw [hg]; exact Nat.ne_of_lt (blk_lt (g := gb103) (o := .cells #[.slice A0_0 l0_0.length c0_0, .int .i64 a0_1, .string a0_2, .int .i64 a0_3, .int .u32 a0_4, .bool false, .bool a0_6, .string a0_7, .slice A0_8 l0_8.length c0_8, .slice A0_9 l0_9.length c0_9, .bool a0_10] 39 (0, 0)) (by (with_reducible repeat (first | refine blk_drewN ?_ _ | refine blk_drew ?_ | refine blk_alloc ?_ _)); exact BK103.out)) : gb103 ≠ gb104)); have n6_ := Aside0.mk ((by rw [hg]; exact Nat.ne_of_gt (blk_lt (g := gb103) (o := .cells #[.slice A0_0 l0_0.length c0_0, .int .i64 a0_1, .string a0_2, .int .i64 a0_3, .int .u32 a0_4, .bool false, .bool a0_6, .string a0_7, .slice A0_8 l0_8.length c0_8, .slice A0_9 l0_9.length c0_9, .bool a0_10] 39 (0, 0)) (by (with_reducible repeat (first | refine blk_drewN ?_ _ | refine blk_drew ?_ | refine blk_alloc ?_ _)); exact BK103.out)) : gb104 ≠ gb103)); clear BK103; clear HB; have BK103 := n0_; have HB := n1_; have BK104 := n2_; have GW104 := n3_; have GE104 := n4_; have NB103_104 := n5_; have NB104_103 := n6_; clear n0_ n1_ n2_ n3_ n4_ n5_ n6_; clear hb hbox hg; have hnb24 := NB103_104.out; have hnc24 := NB104_103.out; have hcz25_0 : w23.cell? ⟨gb103, 0, none⟩ = some (.slice A0_0 l0_0.length c0_0) := (blk_cell BK103.out 0).trans rfl; have hcz25_1 : w23.cell? ⟨gb103, 1, none⟩ = some (.int .i64 a0_1) := (blk_cell BK103.out 1).trans rfl; have hcz25_2 : w23.cell? ⟨gb103, 2, none⟩ = some (.string a0_2) := (blk_cell BK103.out 2).trans rfl; have hcz25_3 : w23.cell? ⟨gb103, 3, none⟩ = some (.int .i64 a0_3) := (blk_cell BK103.out 3).trans rfl; have hcz25_4 : w23.cell? ⟨gb103, 4, none⟩ = some (.int .u32 a0_4) := (blk_cell BK103.out 4).trans rfl; have hcz25_5 : w23.cell? ⟨gb103, 5, none⟩ = some (.bool false) := (blk_cell BK103.out 5).trans rfl; have hcz25_6 : w23.cell? ⟨gb103, 6, none⟩ = some (.bool a0_6) := (blk_cell BK103.out 6).trans rfl; have hcz25_7 : w23.cell? ⟨gb103, 7, none⟩ = some (.string a0_7) := (blk_cell BK103.out 7).trans rfl; have hcz25_8 : w23.cell? ⟨gb103, 8, none⟩ = some (.slice A0_8 l0_8.length c0_8) := (blk_cell BK103.out 8).trans rfl; have hcz25_9 : w23.cell? ⟨gb103, 9, none⟩ = some (.slice A0_9 l0_9.length c0_9) := (blk_cell BK103.out 9).trans rfl; have hcz25_10 : w23.cell? ⟨gb103, 10, none⟩ = some (.bool a0_10) := (blk_cell BK103.out 10).trans rfl; have hfz25_0 := blk_frozen BK103.out 0; have hfz25_1 := blk_frozen BK103.out 1; have hfz25_2 := blk_frozen BK103.out 2; have hfz25_3 := blk_frozen BK103.out 3; have hfz25_4 := blk_frozen BK103.out 4; have hfz25_5 := blk_frozen BK103.out 5; have hfz25_6 := blk_frozen BK103.out 6; have hfz25_7 := blk_frozen BK103.out 7; have hfz25_8 := blk_frozen BK103.out 8; have hfz25_9 := blk_frozen BK103.out 9; have hfz25_10 := blk_frozen BK103.out 10; have p105 : 0 ≤ (0 : Int) := (by omega); have q105 : 0 < (l0_0.length : Int) := of_decide_eq_true (by first | (with_reducible assumption) | assumption); obtain ⟨ad105, A105_2, c105_2, e105, hx105_0, hx105_1, hx105_2, hx105_3, hx105_4, hx105_5, hx105_6, hx105_7, hx105_8, hx105_9, hl105_2, hi105_2⟩ := at_T44 HR0_0.out 0 p105 q105; cases e105; have qi105 : (0 < l0_0.length) = True := eq_true (by omega); (try rw [show ((0 : Int)).toNat = 0 from rfl] at hx105_0); (try rw [show 0 * 10 = 0 from rfl] at hx105_0); (try rw [Addr.add_zero'] at hx105_0); (try rw [show ((0 : Int)).toNat = 0 from rfl] at hx105_1); (try rw [show 0 * 10 = 0 from rfl] at hx105_1); (try rw [Addr.add_zero'] at hx105_1); (try rw [show ((0 : Int)).toNat = 0 from rfl] at hx105_2); (try rw [show 0 * 10 = 0 from rfl] at hx105_2); (try rw [Addr.add_zero'] at hx105_2); (try rw [show ((0 : Int)).toNat = 0 from rfl] at hx105_3); (try rw [show 0 * 10 = 0 from rfl] at hx105_3); (try rw [Addr.add_zero'] at hx105_3); (try rw [show ((0 : Int)).toNat = 0 from rfl] at hx105_4); (try rw [show 0 * 10 = 0 from rfl] at hx105_4); (try rw [Addr.add_zero'] at hx105_4); (try rw [show ((0 : Int)).toNat = 0 from rfl] at hx105_5); (try rw [show 0 * 10 = 0 from rfl] at hx105_5); (try rw [Addr.add_zero'] at hx105_5); (try rw [show ((0 : Int)).toNat = 0 from rfl] at hx105_6); (try rw [show 0 * 10 = 0 from rfl] at hx105_6); (try rw [Addr.add_zero'] at hx105_6); (try rw [show ((0 : Int)).toNat = 0 from rfl] at hx105_7); (try rw [show 0 * 10 = 0 from rfl] at hx105_7); (try rw [Addr.add_zero'] at hx105_7); (try rw [show ((0 : Int)).toNat = 0 from rfl] at hx105_8); (try rw [show 0 * 10 = 0 from rfl] at hx105_8); (try rw [Addr.add_zero'] at hx105_8); (try rw [show ((0 : Int)).toNat = 0 from rfl] at hx105_9); (try rw [show 0 * 10 = 0 from rfl] at hx105_9); (try rw [Addr.add_zero'] at hx105_9); replace hx105_0 := (HB.out.cell (World.block_lt_of_cell? w _ hx105_0)).trans hx105_0; replace hx105_1 := (HB.out.cell (World.block_lt_of_cell? w _ hx105_1)).trans hx105_1; replace hx105_2 := (HB.out.cell (World.block_lt_of_cell? w _ hx105_2)).trans hx105_2; replace hx105_3 := (HB.out.cell (World.block_lt_of_cell? w _ hx105_3)).trans hx105_3; replace hx105_4 := (HB.out.cell (World.block_lt_of_cell? w _ hx105_4)).trans hx105_4; replace hx105_5 := (HB.out.cell (World.block_lt_of_cell? w _ hx105_5)).trans hx105_5; replace hx105_6 := (HB.out.cell (World.block_lt_of_cell? w _ hx105_6)).trans hx105_6; replace hx105_7 := (HB.out.cell (World.block_lt_of_cell? w _ hx105_7)).trans hx105_7; replace hx105_8 := (HB.out.cell (World.block_lt_of_cell? w _ hx105_8)).trans hx105_8; replace hx105_9 := (HB.out.cell (World.block_lt_of_cell? w _ hx105_9)).trans hx105_9; have HR105_2 := Aside0.mk hi105_2; have HC105_2 := Aside0.mk hl105_2; clear hi105_2 hl105_2; replace p105 := eq_true p105; replace q105 := eq_true q105))
          go_ret
          exact ⟨by first | rfl | (simp [errW_none, errW_some] <;> rfl) | (simp [*, errW_none, errW_some] <;> rfl), by repeat (first | (with_reducible first | exact HB.out | apply below_alloc | apply pw_below_drewN | apply below_drew1 | refine below_set ?_ GE103.out | refine below_set ?_ GE104.out) | exact HB.out)⟩
      · rw [if_neg c15] at H
        have c15b0 : (((rd_T44 l0_0 0).f0) == 1) = false := beq_eq_false_iff_ne.mpr c15
        have c15b1 : (((rd_T44 l0_0 0).f0) != 1) = true := bne_iff_ne.mpr c15
        by_cases c26 : a0_5 = true
        · subst c26
          have H1 : ((binout_Code.f k a1_0).bind fun t106 => (some (t106 == 0))) = some r := by rw [if_pos rfl] at H; exact H
          clear H
          have H := H1
          clear H1
          replace H := Option.bind_eq_some_iff.mp H
          obtain ⟨t106, A270, H⟩ := H
          replace H : (some (t106 == 0)) = some r := H
          have A27 := Aside0.mk A270
          clear A270
          obtain rfl := Option.some.inj H
          go_enter Try.func15, Try.ntmps15
          go_wp2_with (first | ((with_reducible refine gate_dst (N := 2) rfl ?_); refine box_event ?hg (N := 2) ?hd (cs := #[.slice A0_0 l0_0.length c0_0, .int .i64 a0_1, .string a0_2, .int .i64 a0_3, .int .u32 a0_4, .bool true, .bool a0_6, .string a0_7, .slice A0_8 l0_8.length c0_8, .slice A0_9 l0_9.length c0_9, .bool a0_10]) (t := 39) ?hr ?_; (case hd => rfl); (case hg => rfl); (case hr => first | (go_simp; done) | (go_simp; rfl)); intro gb103 hg w28 hbox hb; have n0_ := Aside0.mk (below_step (by repeat (first | (with_reducible first | exact HB.out | apply below_alloc | apply pw_below_drewN | apply below_drew1) | exact HB.out)) hb); have n1_ := Aside0.mk (hbox); have n2_ := Aside0.mk ((by rw [hg]; exact (below_size (by repeat (first | (with_reducible first | exact HB.out | apply below_alloc | apply pw_below_drewN | apply below_drew1) | exact HB.out))) : w.heap.size ≤ gb103)); have n3_ := Aside0.mk ((by rw [hg]; exact (below_size (by repeat (first | (with_reducible first | exact HB.out | apply below_alloc | apply pw_below_drewN | apply below_drew1) | exact HB.out))) : w.heap.size ≤ gb103)); clear HB; have HB := n0_; have BK103 := n1_; have GW103 := n2_; have GE103 := n3_; clear n0_ n1_ n2_ n3_; clear hb hbox hg) | ((with_reducible refine gate_dst (N := 3) rfl ?_); refine box_event ?hg (N := 3) ?hd (cs := #[.int .i64 a1_0, .slice A1_1 l1_1.length c1_1, .int .u32 a1_2, .int .u64 a1_3, .int .i64 a1_4, .int .u64 a1_5, .bool a1_6, .bool a1_7, .bool a1_8]) (t := 46) ?hr ?_; (case hd => rfl); (case hg => rfl); (case hr => first | (go_simp; done) | (go_simp; rfl)); intro gb104 hg w29 hbox hb; have n0_ := Aside0.mk (blk_below (g := gb103) (o := .cells #[.slice A0_0 l0_0.length c0_0, .int .i64 a0_1, .string a0_2, .int .i64 a0_3, .int .u32 a0_4, .bool true, .bool a0_6, .string a0_7, .slice A0_8 l0_8.length c0_8, .slice A0_9 l0_9.length c0_9, .bool a0_10] 39 (0, 0)) (by (with_reducible repeat (first | refine blk_drewN ?_ _ | refine blk_drew ?_ | refine blk_alloc ?_ _)); exact BK103.out) hb); have n1_ := Aside0.mk (below_step (by repeat (first | (with_reducible first | exact HB.out | apply below_alloc | apply pw_below_drewN | apply below_drew1 | refine below_set ?_ GE103.out) | exact HB.out)) hb); have n2_ := Aside0.mk (hbox); have n3_ := Aside0.mk ((by rw [hg]; exact (below_size (by repeat (first | (with_reducible first | exact HB.out | apply below_alloc | apply pw_below_drewN | apply below_drew1 | refine below_set ?_ GE103.out) | exact HB.out))) : w.heap.size ≤ gb104)); have n4_ := Aside0.mk ((by rw [hg]; exact (below_size (by repeat (first | (with_reducible first | exact HB.out | apply below_alloc | apply pw_below_drewN | apply below_drew1 | refine below_set ?_ GE103.out) | exact HB.out))) : w.heap.size ≤ gb104)); have n5_ := Aside0.mk ((by rw [hg]; exact Nat.ne_of_lt (blk_lt (g := gb103) (o := .cells #[.slice A0_0 l0_0.length c0_0, .int .i64 a0_1, .string a0_2, .int .i64 a0_3, .int .u32 a0_4, .bool true, .bool a0_6, .string a0_7, .slice A0_8 l0_8.length c0_8, .slice A0_9 l0_9.length c0_9, .bool a0_10] 39 (0, 0)) (by (with_reducible repeat (first | refine blk_drewN ?_ _ | refine blk_drew ?_ | refine blk_alloc ?_ _)); exact BK103.out)) : gb103 ≠ gb104)); have n6_ := Aside0.mk ((by rw [hg]; exact Nat.ne_of_gt (blk_lt (g := gb103) (o := .cells #[.slice A0_0 l0_0.length c0_0, .int .i64 a0_1, .string a0_2, .int .i64 a0_3, .int .u32 a0_4, .bool true, .bool a0_6, .string a0_7, .slice A0_8 l0_8.length c0_8, .slice A0_9 l0_9.length c0_9, .bool a0_10] 39 (0, 0)) (by (with_reducible repeat (first | refine blk_drewN ?_ _ | refine blk_drew ?_ | refine blk_alloc ?_ _)); exact BK103.out)) : gb104 ≠ gb103)); clear BK103; clear HB; have BK103 := n0_; have HB := n1_; have BK104 := n2_; have GW104 := n3_; have GE104 := n4_; have NB103_104 := n5_; have NB104_103 := n6_; clear n0_ n1_ n2_ n3_ n4_ n5_ n6_; clear hb hbox hg; have hnb30 := NB103_104.out; have hnc30 := NB104_103.out; have hcz31_0 : w29.cell? ⟨gb103, 0, none⟩ = some (.slice A0_0 l0_0.length c0_0) := (blk_cell BK103.out 0).trans rfl; have hcz31_1 : w29.cell? ⟨gb103, 1, none⟩ = some (.int .i64 a0_1) := (blk_cell BK103.out 1).trans rfl; have hcz31_2 : w29.cell? ⟨gb103, 2, none⟩ = some (.string a0_2) := (blk_cell BK103.out 2).trans rfl; have hcz31_3 : w29.cell? ⟨gb103, 3, none⟩ = some (.int .i64 a0_3) := (blk_cell BK103.out 3).trans rfl; have hcz31_4 : w29.cell? ⟨gb103, 4, none⟩ = some (.int .u32 a0_4) := (blk_cell BK103.out 4).trans rfl; have hcz31_5 : w29.cell? ⟨gb103, 5, none⟩ = some (.bool true) := (blk_cell BK103.out 5).trans rfl; have hcz31_6 : w29.cell? ⟨gb103, 6, none⟩ = some (.bool a0_6) := (blk_cell BK103.out 6).trans rfl; have hcz31_7 : w29.cell? ⟨gb103, 7, none⟩ = some (.string a0_7) := (blk_cell BK103.out 7).trans rfl; have hcz31_8 : w29.cell? ⟨gb103, 8, none⟩ = some (.slice A0_8 l0_8.length c0_8) := (blk_cell BK103.out 8).trans rfl; have hcz31_9 : w29.cell? ⟨gb103, 9, none⟩ = some (.slice A0_9 l0_9.length c0_9) := (blk_cell BK103.out 9).trans rfl; have hcz31_10 : w29.cell? ⟨gb103, 10, none⟩ = some (.bool a0_10) := (blk_cell BK103.out 10).trans rfl; have hfz31_0 := blk_frozen BK103.out 0; have hfz31_1 := blk_frozen BK103.out 1; have hfz31_2 := blk_frozen BK103.out 2; have hfz31_3 := blk_frozen BK103.out 3; have hfz31_4 := blk_frozen BK103.out 4; have hfz31_5 := blk_frozen BK103.out 5; have hfz31_6 := blk_frozen BK103.out 6; have hfz31_7 := blk_frozen BK103.out 7; have hfz31_8 := blk_frozen BK103.out 8; have hfz31_9 := blk_frozen BK103.out 9; have hfz31_10 := blk_frozen BK103.out 10; have p105 : 0 ≤ (0 : Int) := (by omega); have q105 : 0 < (l0_0.length : Int) := of_decide_eq_true (by first | (with_reducible assumption) | assumption); obtain ⟨ad105, A105_2, c105_2, e105, hx105_0, hx105_1, hx105_2, hx105_3, hx105_4, hx105_5, hx105_6, hx105_7, hx105_8, hx105_9, hl105_2, hi105_2⟩ := at_T44 HR0_0.out 0 p105 q105; cases e105; have qi105 : (0 < l0_0.length) = True := eq_true (by omega); (try rw [show ((0 : Int)).toNat = 0 from rfl] at hx105_0); (try rw [show 0 * 10 = 0 from rfl] at hx105_0); (try rw [Addr.add_zero'] at hx105_0); (try rw [show ((0 : Int)).toNat = 0 from rfl] at hx105_1); (try rw [show 0 * 10 = 0 from rfl] at hx105_1); (try rw [Addr.add_zero'] at hx105_1); (try rw [show ((0 : Int)).toNat = 0 from rfl] at hx105_2); (try rw [show 0 * 10 = 0 from rfl] at hx105_2); (try rw [Addr.add_zero'] at hx105_2); (try rw [show ((0 : Int)).toNat = 0 from rfl] at hx105_3); (try rw [show 0 * 10 = 0 from rfl] at hx105_3); (try rw [Addr.add_zero'] at hx105_3); (try rw [show ((0 : Int)).toNat = 0 from rfl] at hx105_4); (try rw [show 0 * 10 = 0 from rfl] at hx105_4); (try rw [Addr.add_zero'] at hx105_4); (try rw [show ((0 : Int)).toNat = 0 from rfl] at hx105_5); (try rw [show 0 * 10 = 0 from rfl] at hx105_5); (try rw [Addr.add_zero'] at hx105_5); (try rw [show ((0 : Int)).toNat = 0 from rfl] at hx105_6); (try rw [show 0 * 10 = 0 from rfl] at hx105_6); (try rw [Addr.add_zero'] at hx105_6); (try rw [show ((0 : Int)).toNat = 0 from rfl] at hx105_7); (try rw [show 0 * 10 = 0 from rfl] at hx105_7); (try rw [Addr.add_zero'] at hx105_7); (try rw [show ((0 : Int)).toNat = 0 from rfl] at hx105_8); (try rw [show 0 * 10 = 0 from rfl] at hx105_8); (try rw [Addr.add_zero'] at hx105_8); (try rw [show ((0 : Int)).toNat = 0 from rfl] at hx105_9); (try rw [show 0 * 10 = 0 from rfl] at hx105_9); (try rw [Addr.add_zero'] at hx105_9); replace hx105_0 := (HB.out.cell (World.block_lt_of_cell? w _ hx105_0)).trans hx105_0; replace hx105_1 := (HB.out.cell (World.block_lt_of_cell? w _ hx105_1)).trans hx105_1; replace hx105_2 := (HB.out.cell (World.block_lt_of_cell? w _ hx105_2)).trans hx105_2; replace hx105_3 := (HB.out.cell (World.block_lt_of_cell? w _ hx105_3)).trans hx105_3; replace hx105_4 := (HB.out.cell (World.block_lt_of_cell? w _ hx105_4)).trans hx105_4; replace hx105_5 := (HB.out.cell (World.block_lt_of_cell? w _ hx105_5)).trans hx105_5; replace hx105_6 := (HB.out.cell (World.block_lt_of_cell? w _ hx105_6)).trans hx105_6; replace hx105_7 := (HB.out.cell (World.block_lt_of_cell? w _ hx105_7)).trans hx105_7; replace hx105_8 := (HB.out.cell (World.block_lt_of_cell? w _ hx105_8)).trans hx105_8; replace hx105_9 := (HB.out.cell (World.block_lt_of_cell? w _ hx105_9)).trans hx105_9; have HR105_2 := Aside0.mk hi105_2; have HC105_2 := Aside0.mk hl105_2; clear hi105_2 hl105_2; replace p105 := eq_true p105; replace q105 := eq_true q105; have hcz32_0 : w29.cell? ⟨gb104, 0, none⟩ = some (.int .i64 a1_0) := (blk_cell BK104.out 0).trans rfl; have hcz32_1 : w29.cell? ⟨gb104, 1, none⟩ = some (.slice A1_1 l1_1.length c1_1) := (blk_cell BK104.out 1).trans rfl; have hcz32_2 : w29.cell? ⟨gb104, 2, none⟩ = some (.int .u32 a1_2) := (blk_cell BK104.out 2).trans rfl; have hcz32_3 : w29.cell? ⟨gb104, 3, none⟩ = some (.int .u64 a1_3) := (blk_cell BK104.out 3).trans rfl; have hcz32_4 : w29.cell? ⟨gb104, 4, none⟩ = some (.int .i64 a1_4) := (blk_cell BK104.out 4).trans rfl; have hcz32_5 : w29.cell? ⟨gb104, 5, none⟩ = some (.int .u64 a1_5) := (blk_cell BK104.out 5).trans rfl; have hcz32_6 : w29.cell? ⟨gb104, 6, none⟩ = some (.bool a1_6) := (blk_cell BK104.out 6).trans rfl; have hcz32_7 : w29.cell? ⟨gb104, 7, none⟩ = some (.bool a1_7) := (blk_cell BK104.out 7).trans rfl; have hcz32_8 : w29.cell? ⟨gb104, 8, none⟩ = some (.bool a1_8) := (blk_cell BK104.out 8).trans rfl; have hfz32_0 := blk_frozen BK104.out 0; have hfz32_1 := blk_frozen BK104.out 1; have hfz32_2 := blk_frozen BK104.out 2; have hfz32_3 := blk_frozen BK104.out 3; have hfz32_4 := blk_frozen BK104.out 4; have hfz32_5 := blk_frozen BK104.out 5; have hfz32_6 := blk_frozen BK104.out 6; have hfz32_7 := blk_frozen BK104.out 7; have hfz32_8 := blk_frozen BK104.out 8) | (go_at_call 11; (with_reducible refine (binout_Code.calls k a1_0 t106 _ A27.out).mono ?_); rintro e w' ⟨rfl, ⟨nd, rfl⟩⟩))
          go_ret
          exact ⟨by first | rfl | (simp [errW_none, errW_some] <;> rfl) | (simp [*, errW_none, errW_some] <;> rfl), by repeat (first | (with_reducible first | exact HB.out | apply below_alloc | apply pw_below_drewN | apply below_drew1 | refine below_set ?_ GE103.out | refine below_set ?_ GE104.out) | exact HB.out)⟩
        · replace c26 := Bool.eq_false_iff.mpr c26
          subst c26
          have H1 : (some false) = some r := by rw [if_neg (show ¬ (false = true) by decide)] at H; exact H
          clear H
          have H := H1
          clear H1
          obtain rfl := Option.some.inj H
          go_enter Try.func15, Try.ntmps15
          go_wp2_with (first | ((with_reducible refine gate_dst (N := 2) rfl ?_); refine box_event ?hg (N := 2) ?hd (cs := #[.slice A0_0 l0_0.length c0_0, .int .i64 a0_1, .string a0_2, .int .i64 a0_3, .int .u32 a0_4, .bool false, .bool a0_6, .string a0_7, .slice A0_8 l0_8.length c0_8, .slice A0_9 l0_9.length c0_9, .bool a0_10]) (t := 39) ?hr ?_; (case hd => rfl); (case hg => rfl); (case hr => first | (go_simp; done) | (go_simp; rfl)); intro gb103 hg w33 hbox hb; have n0_ := Aside0.mk (below_step (by repeat (first | (with_reducible first | exact HB.out | apply below_alloc | apply pw_below_drewN | apply below_drew1) | exact HB.out)) hb); have n1_ := Aside0.mk (hbox); have n2_ := Aside0.mk ((by rw [hg]; exact (below_size (by repeat (first | (with_reducible first | exact HB.out | apply below_alloc | apply pw_below_drewN | apply below_drew1) | exact HB.out))) : w.heap.size ≤ gb103)); have n3_ := Aside0.mk ((by rw [hg]; exact (below_size (by repeat (first | (with_reducible first | exact HB.out | apply below_alloc | apply pw_below_drewN | apply below_drew1) | exact HB.out))) : w.heap.size ≤ gb103)); clear HB; have HB := n0_; have BK103 := n1_; have GW103 := n2_; have GE103 := n3_; clear n0_ n1_ n2_ n3_; clear hb hbox hg) | ((with_reducible refine gate_dst (N := 3) rfl ?_); refine box_event ?hg (N := 3) ?hd (cs := #[.int .i64 a1_0, .slice A1_1 l1_1.length c1_1, .int .u32 a1_2, .int .u64 a1_3, .int .i64 a1_4, .int .u64 a1_5, .bool a1_6, .bool a1_7, .bool a1_8]) (t := 46) ?hr ?_; (case hd => rfl); (case hg => rfl); (case hr => first | (go_simp; done) | (go_simp; rfl)); intro gb104 hg w34 hbox hb; have n0_ := Aside0.mk (blk_below (g := gb103) (o := .cells #[.slice A0_0 l0_0.length c0_0, .int .i64 a0_1, .string a0_2, .int .i64 a0_3, .int .u32 a0_4, .bool false, .bool a0_6, .string a0_7, .slice A0_8 l0_8.length c0_8, .slice A0_9 l0_9.length c0_9, .bool a0_10] 39 (0, 0)) (by (with_reducible repeat (first | refine blk_drewN ?_ _ | refine blk_drew ?_ | refine blk_alloc ?_ _)); exact BK103.out) hb); have n1_ := Aside0.mk (below_step (by repeat (first | (with_reducible first | exact HB.out | apply below_alloc | apply pw_below_drewN | apply below_drew1 | refine below_set ?_ GE103.out) | exact HB.out)) hb); have n2_ := Aside0.mk (hbox); have n3_ := Aside0.mk ((by rw [hg]; exact (below_size (by repeat (first | (with_reducible first | exact HB.out | apply below_alloc | apply pw_below_drewN | apply below_drew1 | refine below_set ?_ GE103.out) | exact HB.out))) : w.heap.size ≤ gb104)); have n4_ := Aside0.mk ((by rw [hg]; exact (below_size (by repeat (first | (with_reducible first | exact HB.out | apply below_alloc | apply pw_below_drewN | apply below_drew1 | refine below_set ?_ GE103.out) | exact HB.out))) : w.heap.size ≤ gb104)); have n5_ := Aside0.mk ((by rw [hg]; exact Nat.ne_of_lt (blk_lt (g := gb103) (o := .cells #[.slice A0_0 l0_0.length c0_0, .int .i64 a0_1, .string a0_2, .int .i64 a0_3, .int .u32 a0_4, .bool false, .bool a0_6, .string a0_7, .slice A0_8 l0_8.length c0_8, .slice A0_9 l0_9.length c0_9, .bool a0_10] 39 (0, 0)) (by (with_reducible repeat (first | refine blk_drewN ?_ _ | refine blk_drew ?_ | refine blk_alloc ?_ _)); exact BK103.out)) : gb103 ≠ gb104)); have n6_ := Aside0.mk ((by rw [hg]; exact Nat.ne_of_gt (blk_lt (g := gb103) (o := .cells #[.slice A0_0 l0_0.length c0_0, .int .i64 a0_1, .string a0_2, .int .i64 a0_3, .int .u32 a0_4, .bool false, .bool a0_6, .string a0_7, .slice A0_8 l0_8.length c0_8, .slice A0_9 l0_9.length c0_9, .bool a0_10] 39 (0, 0)) (by (with_reducible repeat (first | refine blk_drewN ?_ _ | refine blk_drew ?_ | refine blk_alloc ?_ _)); exact BK103.out)) : gb104 ≠ gb103)); clear BK103; clear HB; have BK103 := n0_; have HB := n1_; have BK104 := n2_; have GW104 := n3_; have GE104 := n4_; have NB103_104 := n5_; have NB104_103 := n6_; clear n0_ n1_ n2_ n3_ n4_ n5_ n6_; clear hb hbox hg; have hnb35 := NB103_104.out; have hnc35 := NB104_103.out; have hcz36_0 : w34.cell? ⟨gb103, 0, none⟩ = some (.slice A0_0 l0_0.length c0_0) := (blk_cell BK103.out 0).trans rfl; have hcz36_1 : w34.cell? ⟨gb103, 1, none⟩ = some (.int .i64 a0_1) := (blk_cell BK103.out 1).trans rfl; have hcz36_2 : w34.cell? ⟨gb103, 2, none⟩ = some (.string a0_2) := (blk_cell BK103.out 2).trans rfl; have hcz36_3 : w34.cell? ⟨gb103, 3, none⟩ = some (.int .i64 a0_3) := (blk_cell BK103.out 3).trans rfl; have hcz36_4 : w34.cell? ⟨gb103, 4, none⟩ = some (.int .u32 a0_4) := (blk_cell BK103.out 4).trans rfl; have hcz36_5 : w34.cell? ⟨gb103, 5, none⟩ = some (.bool false) := (blk_cell BK103.out 5).trans rfl; have hcz36_6 : w34.cell? ⟨gb103, 6, none⟩ = some (.bool a0_6) := (blk_cell BK103.out 6).trans rfl; have hcz36_7 : w34.cell? ⟨gb103, 7, none⟩ = some (.string a0_7) := (blk_cell BK103.out 7).trans rfl; have hcz36_8 : w34.cell? ⟨gb103, 8, none⟩ = some (.slice A0_8 l0_8.length c0_8) := (blk_cell BK103.out 8).trans rfl; have hcz36_9 : w34.cell? ⟨gb103, 9, none⟩ = some (.slice A0_9 l0_9.length c0_9) := (blk_cell BK103.out 9).trans rfl; have hcz36_10 : w34.cell? ⟨gb103, 10, none⟩ = some (.bool a0_10) := (blk_cell BK103.out 10).trans rfl; have hfz36_0 := blk_frozen BK103.out 0; have hfz36_1 := blk_frozen BK103.out 1; have hfz36_2 := blk_frozen BK103.out 2; have hfz36_3 := blk_frozen BK103.out 3; have hfz36_4 := blk_frozen BK103.out 4; have hfz36_5 := blk_frozen BK103.out 5; have hfz36_6 := blk_frozen BK103.out 6; have hfz36_7 := blk_frozen BK103.out 7; have hfz36_8 := blk_frozen BK103.out 8; have hfz36_9 := blk_frozen BK103.out 9; have hfz36_10 := blk_frozen BK103.out 10; have p105 : 0 ≤ (0 : Int) := (by omega); have q105 : 0 < (l0_0.length : Int) := of_decide_eq_true (by first | (with_reducible assumption) | assumption); obtain ⟨ad105, A105_2, c105_2, e105, hx105_0, hx105_1, hx105_2, hx105_3, hx105_4, hx105_5, hx105_6, hx105_7, hx105_8, hx105_9, hl105_2, hi105_2⟩ := at_T44 HR0_0.out 0 p105 q105; cases e105; have qi105 : (0 < l0_0.length) = True := eq_true (by omega); (try rw [show ((0 : Int)).toNat = 0 from rfl] at hx105_0); (try rw [show 0 * 10 = 0 from rfl] at hx105_0); (try rw [Addr.add_zero'] at hx105_0); (try rw [show ((0 : Int)).toNat = 0 from rfl] at hx105_1); (try rw [show 0 * 10 = 0 from rfl] at hx105_1); (try rw [Addr.add_zero'] at hx105_1); (try rw [show ((0 : Int)).toNat = 0 from rfl] at hx105_2); (try rw [show 0 * 10 = 0 from rfl] at hx105_2); (try rw [Addr.add_zero'] at hx105_2); (try rw [show ((0 : Int)).toNat = 0 from rfl] at hx105_3); (try rw [show 0 * 10 = 0 from rfl] at hx105_3); (try rw [Addr.add_zero'] at hx105_3); (try rw [show ((0 : Int)).toNat = 0 from rfl] at hx105_4); (try rw [show 0 * 10 = 0 from rfl] at hx105_4); (try rw [Addr.add_zero'] at hx105_4); (try rw [show ((0 : Int)).toNat = 0 from rfl] at hx105_5); (try rw [show 0 * 10 = 0 from rfl] at hx105_5); (try rw [Addr.add_zero'] at hx105_5); (try rw [show ((0 : Int)).toNat = 0 from rfl] at hx105_6); (try rw [show 0 * 10 = 0 from rfl] at hx105_6); (try rw [Addr.add_zero'] at hx105_6); (try rw [show ((0 : Int)).toNat = 0 from rfl] at hx105_7); (try rw [show 0 * 10 = 0 from rfl] at hx105_7); (try rw [Addr.add_zero'] at hx105_7); (try rw [show ((0 : Int)).toNat = 0 from rfl] at hx105_8); (try rw [show 0 * 10 = 0 from rfl] at hx105_8); (try rw [Addr.add_zero'] at hx105_8); (try rw [show ((0 : Int)).toNat = 0 from rfl] at hx105_9); (try rw [show 0 * 10 = 0 from rfl] at hx105_9); (try rw [Addr.add_zero'] at hx105_9); replace hx105_0 := (HB.out.cell (World.block_lt_of_cell? w _ hx105_0)).trans hx105_0; replace hx105_1 := (HB.out.cell (World.block_lt_of_cell? w _ hx105_1)).trans hx105_1; replace hx105_2 := (HB.out.cell (World.block_lt_of_cell? w _ hx105_2)).trans hx105_2; replace hx105_3 := (HB.out.cell (World.block_lt_of_cell? w _ hx105_3)).trans hx105_3; replace hx105_4 := (HB.out.cell (World.block_lt_of_cell? w _ hx105_4)).trans hx105_4; replace hx105_5 := (HB.out.cell (World.block_lt_of_cell? w _ hx105_5)).trans hx105_5; replace hx105_6 := (HB.out.cell (World.block_lt_of_cell? w _ hx105_6)).trans hx105_6; replace hx105_7 := (HB.out.cell (World.block_lt_of_cell? w _ hx105_7)).trans hx105_7; replace hx105_8 := (HB.out.cell (World.block_lt_of_cell? w _ hx105_8)).trans hx105_8; replace hx105_9 := (HB.out.cell (World.block_lt_of_cell? w _ hx105_9)).trans hx105_9; have HR105_2 := Aside0.mk hi105_2; have HC105_2 := Aside0.mk hl105_2; clear hi105_2 hl105_2; replace p105 := eq_true p105; replace q105 := eq_true q105))
          go_ret
          exact ⟨by first | rfl | (simp [errW_none, errW_some] <;> rfl) | (simp [*, errW_none, errW_some] <;> rfl), by repeat (first | (with_reducible first | exact HB.out | apply below_alloc | apply pw_below_drewN | apply below_drew1 | refine below_set ?_ GE103.out | refine below_set ?_ GE104.out) | exact HB.out)⟩
  · rw [if_neg c3] at H
    exact absurd H (by simp)

/-! ### num_put: function 22 -/
def num_put.l0 : Nat → Int → Int → List Int → Int → Int → Option (List Int)
  | 0, _, _, _, _, _ => none
  | k + 1, x0, x1, x5, x9, x10 => if x10 < x9 then (if 0 ≤ (wrap64 (8 * x10)) then (if 0 ≤ (wrap64 ((wrap64 (x1 - 1)) - x10)) then (if (wrap64 ((wrap64 (x1 - 1)) - x10)) < (x5.length : Int) then (num_put.l0 k x0 x1 (x5.set ((wrap64 ((wrap64 (x1 - 1)) - x10)) : Int).toNat ((shr .u64 x0 (wrap64 (8 * x10))) % 256)) x9 (wrap64 (x10 + 1))) else (none)) else (none)) else (none)) else (some x5)
def num_put.f (k : Nat) (a0 : Int) (a1 : Int) : Option (List Int) := if 0 ≤ a1 then (if (a1 : Int).toNat ≤ 281474976710656 then (num_put.l0 k a0 a1 (List.replicate (a1 : Int).toNat 0) a1 0) else (none)) else (none)
theorem num_put.mono_l : ∀ k, (∀ y0 y1 y2 y3 y4, LeO (num_put.l0 k y0 y1 y2 y3 y4) (num_put.l0 (k + 1) y0 y1 y2 y3 y4))
  | 0 => fun _ _ _ _ _ r h => by simp [num_put.l0] at h
  | k + 1 => by
    have ih0 := num_put.mono_l k
    · intro y0 y1 y2 y3 y4
      unfold num_put.l0
      repeat' first
      | (with_reducible exact ih0 _ _ _ _ _)
      | (with_reducible exact LeO.refl _)
      | (with_reducible exact LeO.none _)
      | (with_reducible refine LeO.ite ?_ ?_)
      | (with_reducible refine LeO.bind ?_ (fun _ => ?_))
      | exact ih0 _ _ _ _ _
      | exact LeO.none _
      | refine LeO.ite ?_ ?_
      | refine LeO.bind ?_ (fun _ => ?_)
theorem num_put.mono : ∀ a0 a1 k, LeO (num_put.f k a0 a1) (num_put.f (k + 1) a0 a1) := by
  intro a0 a1 k
  have ih0 := num_put.mono_l k
  unfold num_put.f
  repeat' first
      | (with_reducible exact ih0 _ _ _ _ _)
      | (with_reducible exact LeO.refl _)
      | (with_reducible exact LeO.none _)
      | (with_reducible refine LeO.ite ?_ ?_)
      | (with_reducible refine LeO.bind ?_ (fun _ => ?_))
      | exact ih0 _ _ _ _ _
      | exact LeO.none _
      | refine LeO.ite ?_ ?_
      | refine LeO.bind ?_ (fun _ => ?_)
set_option maxHeartbeats 8000000 in
set_option maxRecDepth 100000 in
theorem num_put.calls (k : Nat) (a0 : Int) (a1 : Int) (r : List Int) (w : World) (h : num_put.f k a0 a1 = some r) :
    Calls Try.prog 22 #[.int .u64 a0, .int .i64 a1] w fun e w' => ∃ v0_ : Value, e = .returned (v0_) ∧ Kd.R (Kd.int .u8) 5 w' w.heap.size (fun _ => True) v0_ r ∧ Below w.heap.size w w' := by
  have HB := Aside0.mk (Below.refl w.heap.size w)
  have H : (if 0 ≤ a1 then (if (a1 : Int).toNat ≤ 281474976710656 then (num_put.l0 k a0 a1 (List.replicate (a1 : Int).toNat 0) a1 0) else (none)) else (none)) = some r := h
  clear h
  by_cases c3 : 0 ≤ a1
  · rw [if_pos c3] at H
    have c3b0 := eq_true c3
    have c3b1 : decide (0 ≤ a1) = true := decide_eq_true c3
    clear c3
    by_cases c4 : (a1 : Int).toNat ≤ 281474976710656
    · rw [if_pos c4] at H
      have c4b0 := eq_true c4
      have c4b1 : decide ((a1 : Int).toNat ≤ 281474976710656) = true := decide_eq_true c4
      clear c4
      obtain ⟨y107, hy107⟩ : ∃ y_ : List Int, y_ = (List.replicate (a1 : Int).toNat 0) := ⟨_, rfl⟩
      replace H : (num_put.l0 k a0 a1 y107 a1 0) = some r := by first | (rw [hy107]; with_reducible exact H) | (have H2_ := (Option.bind_some _ _).symm.trans H; rw [hy107]; with_reducible exact H2_) | (have H2_ := (Option.bind_some _ _).symm.trans H; with_reducible exact H2_) | with_reducible exact H | (rw [hy107]; exact H) | exact H
      have Ny107 := Aside0.mk hy107
      clear hy107
      have H' := Aside0.mk H
      clear H
      go_enter Try.func22, Try.ntmps22
      go_wp2_with (first | ((with_reducible refine gate_dst (N := 8) rfl ?_); refine Kd.R_make (Kd.int .u8) _ 5 rfl (N := 8) rfl 22 _ _ rfl a1 rfl rfl Try.underlying22 (.int .u8 0) 1 info5 rfl (by decide) (by omega) 0 (ok := fun _ => True) (okp := fun _ => True) rfl (fun _ hk => hk) trivial (of_decide_eq_true (by first | (with_reducible assumption) | assumption)) (Nat.le_trans (Nat.mul_le_mul_right _ (of_decide_eq_true (by first | (with_reducible assumption) | assumption) : a1.toNat ≤ 281474976710656)) (by omega)) (Below.refl _ _) (Nat.le_refl _) ?_; intro v108 w5 ho6 hb hg_ hnew_; clear hg_ hnew_; (first | rw [← Ny107.out] at ho6 | (simp only [Int.reduceToNat] at ho6; rw [← Ny107.out] at ho6)); have n0_ := Aside0.mk (Kd.R_lower ho6 (below_size (by repeat (first | (with_reducible first | exact HB.out | apply below_alloc | apply pw_below_drewN | apply below_drew1) | exact HB.out)))); have n1_ := Aside0.mk (below_step (by repeat (first | (with_reducible first | exact HB.out | apply below_alloc | apply pw_below_drewN | apply below_drew1) | exact HB.out)) hb); clear HB; have HO109 := n0_; have HB := n1_; clear n0_ n1_; clear hb ho6))
      go_loopg [10] k (fun kq v10 w' => ∃ (x5_1 : List Int) (x10_1 : Int), v10 = .int .i64 x10_1 ∧ Aside0 (num_put.l0 kq a0 a1 x5_1 a1 x10_1 = some r) ∧ Aside0 (kq ≤ k) ∧ Aside0 (Kd.R (Kd.int .u8) 5 w' w.heap.size (fun _ => True) v108 x5_1) ∧ Aside0 (Below w.heap.size w w'))
      case atStart => exact ⟨(y107), (0), (by first | rfl | (simp; done) | (simp [*]; done)), H', ⟨Nat.le_refl _⟩, ⟨by (with_reducible repeat (first | apply Kd.R_alloc | apply Kd.R_drewN | apply Kd.R_drew)); exact HO109.out⟩, ⟨by repeat (first | (with_reducible first | exact HB.out | apply below_alloc | apply pw_below_drewN | apply below_drew1) | exact HB.out)⟩⟩
      case round =>
        clear H'
        try clear c2
        try clear p2
        try clear c3
        try clear c3b0
        try clear c3b1
        try clear c4
        try clear c4b0
        try clear c4b1
        obtain ⟨x5_1, x10_1, rfl, HA, HK1, HO_5, HB⟩ := hrel
        cases gk with
        | zero => exact absurd HA.out (by simp [num_put.l0])
        | succ k1 =>
          have H := HA.out
          clear HA
          simp only [num_put.l0] at H
          by_cases c7 : x10_1 < a1
          · rw [if_pos c7] at H
            have c7b0 : decide (x10_1 < a1) = true := decide_eq_true c7
            clear c7
            obtain ⟨ji8, hji8⟩ : ∃ j_ : Int, (wrap64 (8 * x10_1)) = j_ := ⟨_, rfl⟩
            replace H : (if 0 ≤ (ji8) then (if 0 ≤ (wrap64 ((wrap64 (a1 - 1)) - x10_1)) then (if (wrap64 ((wrap64 (a1 - 1)) - x10_1)) < (x5_1.length : Int) then (num_put.l0 k1 a0 a1 (x5_1.set ((wrap64 ((wrap64 (a1 - 1)) - x10_1)) : Int).toNat ((shr .u64 a0 (ji8)) % 256)) a1 (wrap64 (x10_1 + 1))) else (none)) else (none)) else (none)) = some r := by first | (rw [hji8] at H; exact H) | (simp only [hji8] at H ⊢; exact H)
            have hji8w : (IntKind.i64.wrap (8 * x10_1)) = ji8 := (i64_w _).trans hji8
            by_cases c9 : 0 ≤ (ji8)
            · rw [if_pos c9] at H
              have c9b0 := eq_true c9
              have c9b1 : decide (0 ≤ (ji8)) = true := decide_eq_true c9
              clear c9
              obtain ⟨ji10, hji10⟩ : ∃ j_ : Int, (shr .u64 a0 (ji8)) = j_ := ⟨_, rfl⟩
              replace H : (if 0 ≤ (wrap64 ((wrap64 (a1 - 1)) - x10_1)) then (if (wrap64 ((wrap64 (a1 - 1)) - x10_1)) < (x5_1.length : Int) then (num_put.l0 k1 a0 a1 (x5_1.set ((wrap64 ((wrap64 (a1 - 1)) - x10_1)) : Int).toNat ((ji10) % 256)) a1 (wrap64 (x10_1 + 1))) else (none)) else (none)) = some r := by first | (rw [hji10] at H; exact H) | (simp only [hji10] at H ⊢; exact H)
              have hji10_ : (a0 / 2 ^ min (ji8).toNat 64) = ji10 := hji10
              have hji10z : (ji8) ≤ 64 → (a0 / 2 ^ (ji8).toNat) = ji10 := shr_small hji10
              obtain ⟨ji11, hji11⟩ : ∃ j_ : Int, (wrap64 ((wrap64 (a1 - 1)) - x10_1)) = j_ := ⟨_, rfl⟩
              replace H : (if 0 ≤ (ji11) then (if (ji11) < (x5_1.length : Int) then (num_put.l0 k1 a0 a1 (x5_1.set ((ji11) : Int).toNat ((ji10) % 256)) a1 (wrap64 (x10_1 + 1))) else (none)) else (none)) = some r := by first | (rw [hji11] at H; exact H) | (simp only [hji11] at H ⊢; exact H)
              have hji11w : (IntKind.i64.wrap ((wrap64 (a1 - 1)) - x10_1)) = ji11 := (i64_w _).trans hji11
              by_cases c12 : 0 ≤ (ji11)
              · rw [if_pos c12] at H
                have c12b0 : decide (0 ≤ (ji11)) = true := decide_eq_true c12
                clear c12
                by_cases c13 : (ji11) < (x5_1.length : Int)
                · rw [if_pos c13] at H
                  have c13b0 : decide ((ji11) < (x5_1.length : Int)) = true := decide_eq_true c13
                  clear c13
                  obtain ⟨y110, hy110⟩ : ∃ y_ : List Int, y_ = (x5_1.set ((ji11) : Int).toNat ((ji10) % 256)) := ⟨_, rfl⟩
                  replace H : (num_put.l0 k1 a0 a1 y110 a1 (wrap64 (x10_1 + 1))) = some r := by first | (rw [hy110]; with_reducible exact H) | (have H2_ := (Option.bind_some _ _).symm.trans H; rw [hy110]; with_reducible exact H2_) | (have H2_ := (Option.bind_some _ _).symm.trans H; with_reducible exact H2_) | with_reducible exact H | (rw [hy110]; exact H) | exact H
                  have Ny110 := Aside0.mk hy110
                  clear hy110
                  have H' := Aside0.mk H
                  clear H
                  have p14 : 0 ≤ ((ji11) : Int) := of_decide_eq_true (by first | (with_reducible assumption) | assumption)
                  have q14 : ((ji11) : Int) < ((x5_1.length : Int) : Int) := of_decide_eq_true (by first | (with_reducible assumption) | assumption)
                  obtain ⟨go14, co14, eo14, gb14, gl14, cl14, HG14⟩ := Kd.R_form HO_5.out (by omega)
                  (first | cases eo14 | (injection eo14 with ea_ en_ ec_; (first | subst ea_ | (injection ea_ with ea_; subst ea_)); subst ec_; clear en_))
                  have GB14 := Aside0.mk gb14
                  have GG14 := Aside0.mk HG14
                  clear gb14 gl14 HG14
                  obtain ⟨hx14_0, hf14_0⟩ := Kd.R_celln 0 HO_5.out ((ji11) : Int) p14 q14
                  replace p14 := eq_true p14
                  replace q14 := eq_true q14
                  have HP15 := Kd.R_putg HO_5.out ((ji11) : Int) ((ji10) % 256)
                  go_wp2_with (first | ((with_reducible refine gate_store (t := 5) (p := 23) rfl ?_); refine store_event (t := 5) (p := 23) (v := ?vo_w16) (w1 := (wr.setCell ⟨go14, ((ji11) : Int).toNat, none⟩ (.int .u8 ((ji10) % 256)))) ?hg ?ho ?hn ?hr ?_; (case ho => rfl); (case hg => rfl); (case hn => rfl); (case hr => first | (go_simp; done) | (go_simp; rfl)); intro w16 hw; have hg : wr.grownBy w16 (some go14) := (by rw [hw]; exact HP15.2); have hp_ : Kd.R (Kd.int .u8) 5 w16 w.heap.size (fun _ => True) (.slice (some ⟨go14, 0, none⟩) x5_1.length co14) y110 := (by rw [hw, Ny110.out]; exact HP15.1); clear HP15; have n0_ := Aside0.mk (hp_); have n1_ := Aside0.mk ((by rw [hw]; exact below_set (HB.out) GB14.out : Below w.heap.size w w16)); clear HO_5; clear HB; have HO_5 := n0_; have HB := n1_; clear n0_ n1_; clear hg hw hp_))
                  go_roundg k1
                  case measure => have := HK1.out; omega
                  case rel => exact ⟨(y110), (wrap64 (x10_1 + 1)), (by first | rfl | (simp; done) | (simp [*]; done)), H', ⟨by have := HK1.out; omega⟩, ⟨by (with_reducible repeat (first | apply Kd.R_alloc | apply Kd.R_drewN | apply Kd.R_drew)); exact HO_5.out⟩, ⟨by repeat (first | (with_reducible first | exact HB.out | apply below_alloc | apply pw_below_drewN | apply below_drew1) | exact HB.out)⟩⟩
                · rw [if_neg c13] at H
                  exact absurd H (by simp)
              · rw [if_neg c12] at H
                exact absurd H (by simp)
            · rw [if_neg c9] at H
              exact absurd H (by simp)
          · rw [if_neg c7] at H
            have c7b0 : decide (x10_1 < a1) = false := decide_eq_false c7
            clear c7
            obtain rfl := Option.some.inj H
            go_wp2
            go_ret
            exact ⟨_, by first | rfl | (simp [errW_none, errW_some] <;> rfl) | (simp [*, errW_none, errW_some] <;> rfl), by (with_reducible repeat (first | apply Kd.R_alloc | apply Kd.R_drewN | apply Kd.R_drew)); exact HO_5.out, by repeat (first | (with_reducible first | exact HB.out | apply below_alloc | apply pw_below_drewN | apply below_drew1) | exact HB.out)⟩
    · rw [if_neg c4] at H
      exact absurd H (by simp)
  · rw [if_neg c3] at H
    exact absurd H (by simp)

/-! ### num_Put32: function 19 -/
def num_Put32.f (k : Nat) (a0 : Int) : Option (List Int) := (num_put.f k (IntKind.u64.wrap (a0)) 4).bind fun t111 => (some t111)
theorem num_Put32.mono : ∀ a0 k, LeO (num_Put32.f k a0) (num_Put32.f (k + 1) a0) := by
  intro a0 k
  unfold num_Put32.f
  repeat' first
      | (with_reducible exact num_put.mono _ _ _)
      | (with_reducible exact LeO.refl _)
      | (with_reducible exact LeO.none _)
      | (with_reducible refine LeO.ite ?_ ?_)
      | (with_reducible refine LeO.bind ?_ (fun _ => ?_))
      | exact num_put.mono _ _ _
      | exact LeO.none _
      | refine LeO.ite ?_ ?_
      | refine LeO.bind ?_ (fun _ => ?_)
set_option maxHeartbeats 8000000 in
set_option maxRecDepth 100000 in
theorem num_Put32.calls (k : Nat) (a0 : Int) (r : List Int) (w : World) (h : num_Put32.f k a0 = some r) :
    Calls Try.prog 19 #[.int .u32 a0] w fun e w' => ∃ v0_ : Value, e = .returned (v0_) ∧ Kd.R (Kd.int .u8) 5 w' w.heap.size (fun _ => True) v0_ r ∧ Below w.heap.size w w' := by
  have HB := Aside0.mk (Below.refl w.heap.size w)
  have H : ((num_put.f k (IntKind.u64.wrap (a0)) 4).bind fun t111 => (some t111)) = some r := h
  clear h
  replace H := Option.bind_eq_some_iff.mp H
  obtain ⟨t111, A20, H⟩ := H
  replace H : (some t111) = some r := H
  have A2 := Aside0.mk A20
  clear A20
  obtain rfl := Option.some.inj H
  go_enter Try.func19, Try.ntmps19
  go_wp2_with (first | ((with_reducible refine gate_callee (f := 22) rfl ?_); refine goesL_ (some 5) rfl rfl Try.func22 (by kernel_rfl) rfl #[.int .u64 (IntKind.u64.wrap (a0)), .int .i64 4] rfl (by (try simp only [List.map_toArray, List.map_cons, List.map_nil]); first | done | rfl | (simp only [List.length_drop, List.length_take]; rfl)) ?_; (with_reducible refine (num_put.calls k (IntKind.u64.wrap (a0)) 4 t111 _ A2.out).mono ?_); rintro e w3 ⟨v112, rfl, ho0, hb⟩; refine ⟨_, rfl, ?_⟩; have n0_ := Aside0.mk (Kd.R_lower ho0 (below_size (by repeat (first | (with_reducible first | exact HB.out | apply below_alloc | apply pw_below_drewN | apply below_drew1) | exact HB.out)))); have n1_ := Aside0.mk (below_step (by repeat (first | (with_reducible first | exact HB.out | apply below_alloc | apply pw_below_drewN | apply below_drew1) | exact HB.out)) hb); clear HB; have HO113 := n0_; have HB := n1_; clear n0_ n1_; (try clear hb); (try clear hb2); (try clear hk); (try clear hi); (try clear ho0)))
  go_ret
  exact ⟨_, by first | rfl | (simp [errW_none, errW_some] <;> rfl) | (simp [*, errW_none, errW_some] <;> rfl), by (with_reducible repeat (first | apply Kd.R_alloc | apply Kd.R_drewN | apply Kd.R_drew)); exact HO113.out, by repeat (first | (with_reducible first | exact HB.out | apply below_alloc | apply pw_below_drewN | apply below_drew1) | exact HB.out)⟩

/-! ### num_Put64: function 20 -/
def num_Put64.f (k : Nat) (a0 : Int) : Option (List Int) := (num_put.f k a0 8).bind fun t114 => (some t114)
theorem num_Put64.mono : ∀ a0 k, LeO (num_Put64.f k a0) (num_Put64.f (k + 1) a0) := by
  intro a0 k
  unfold num_Put64.f
  repeat' first
      | (with_reducible exact num_put.mono _ _ _)
      | (with_reducible exact LeO.refl _)
      | (with_reducible exact LeO.none _)
      | (with_reducible refine LeO.ite ?_ ?_)
      | (with_reducible refine LeO.bind ?_ (fun _ => ?_))
      | exact num_put.mono _ _ _
      | exact LeO.none _
      | refine LeO.ite ?_ ?_
      | refine LeO.bind ?_ (fun _ => ?_)
set_option maxHeartbeats 8000000 in
set_option maxRecDepth 100000 in
theorem num_Put64.calls (k : Nat) (a0 : Int) (r : List Int) (w : World) (h : num_Put64.f k a0 = some r) :
    Calls Try.prog 20 #[.int .u64 a0] w fun e w' => ∃ v0_ : Value, e = .returned (v0_) ∧ Kd.R (Kd.int .u8) 5 w' w.heap.size (fun _ => True) v0_ r ∧ Below w.heap.size w w' := by
  have HB := Aside0.mk (Below.refl w.heap.size w)
  have H : ((num_put.f k a0 8).bind fun t114 => (some t114)) = some r := h
  clear h
  replace H := Option.bind_eq_some_iff.mp H
  obtain ⟨t114, A20, H⟩ := H
  replace H : (some t114) = some r := H
  have A2 := Aside0.mk A20
  clear A20
  obtain rfl := Option.some.inj H
  go_enter Try.func20, Try.ntmps20
  go_wp2_with (first | ((with_reducible refine gate_callee (f := 22) rfl ?_); refine goesL_ (some 4) rfl rfl Try.func22 (by kernel_rfl) rfl #[.int .u64 a0, .int .i64 8] rfl (by (try simp only [List.map_toArray, List.map_cons, List.map_nil]); first | done | rfl | (simp only [List.length_drop, List.length_take]; rfl)) ?_; (with_reducible refine (num_put.calls k a0 8 t114 _ A2.out).mono ?_); rintro e w3 ⟨v115, rfl, ho0, hb⟩; refine ⟨_, rfl, ?_⟩; have n0_ := Aside0.mk (Kd.R_lower ho0 (below_size (by repeat (first | (with_reducible first | exact HB.out | apply below_alloc | apply pw_below_drewN | apply below_drew1) | exact HB.out)))); have n1_ := Aside0.mk (below_step (by repeat (first | (with_reducible first | exact HB.out | apply below_alloc | apply pw_below_drewN | apply below_drew1) | exact HB.out)) hb); clear HB; have HO116 := n0_; have HB := n1_; clear n0_ n1_; (try clear hb); (try clear hb2); (try clear hk); (try clear hi); (try clear ho0)))
  go_ret
  exact ⟨_, by first | rfl | (simp [errW_none, errW_some] <;> rfl) | (simp [*, errW_none, errW_some] <;> rfl), by (with_reducible repeat (first | apply Kd.R_alloc | apply Kd.R_drewN | apply Kd.R_drew)); exact HO116.out, by repeat (first | (with_reducible first | exact HB.out | apply below_alloc | apply pw_below_drewN | apply below_drew1) | exact HB.out)⟩

end Go.Proofs.Ytpfjoeagblkonaa.Hb
