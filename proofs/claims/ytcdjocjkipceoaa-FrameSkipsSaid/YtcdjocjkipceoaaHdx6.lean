-- Written by this session's own program (wip/hprint.py) out of the translation, over hand-proved contracts. Lean checks it.
import Derived.Test.YtcdjocjkipceoaaHdx0
import Derived.Test.YtcdjocjkipceoaaHdx1
namespace Go.Proofs.Ytcdjocjkipceoaa.Hd
open Go.RowKit Go.Proofs.YtcdjocjkipceoaaW.PrintWords Go.Proofs.YtcdjocjkipceoaaW.PrintLast Go.Proofs.YtcdjocjkipceoaaW.PrintMore
attribute [local go_sem] max2_int min2_int max_two min_two max_three min_three max_four min_four   -- for this text's walks alone
set_option linter.unusedVariables false
set_option linter.unusedSimpArgs false

/-! ### butterylaw13_FrameSkips: function 9 -/
mutual
def butterylaw13_FrameSkips.j0 : Nat → List Int → Int → Bool → Bool → Bool → Option (Bool)
  | 0, _, _, _, _, _ => none
  | k + 1, x0, x1, x2, x7, x25 => if x25 = true then (some x7) else ((frame_Pass.f x0 0 false).bind fun bt184 => ((frame_Pass.f x0 x1 x2).bind fun bt187 => (if x7 = true then (if bt184.1 = 0 then (if bt187.2.1 > 0 then (if bt187.1 = (x0.length : Int) then (if bt187.2.1 = 0 then (butterylaw13_FrameSkips.j1 k x0 x1 x2 bt187.1 bt187.2.1 bt187.2.2 false) else (butterylaw13_FrameSkips.j1 k x0 x1 x2 bt187.1 bt187.2.1 bt187.2.2 ((wrap64 (bt187.2.1 + bt187.1)) != x1))) else (butterylaw13_FrameSkips.j1 k x0 x1 x2 bt187.1 bt187.2.1 bt187.2.2 true)) else (if bt187.2.1 = 0 then (butterylaw13_FrameSkips.j1 k x0 x1 x2 bt187.1 bt187.2.1 bt187.2.2 false) else (butterylaw13_FrameSkips.j1 k x0 x1 x2 bt187.1 bt187.2.1 bt187.2.2 ((wrap64 (bt187.2.1 + bt187.1)) != x1)))) else (butterylaw13_FrameSkips.j1 k x0 x1 x2 bt187.1 bt187.2.1 bt187.2.2 true)) else (butterylaw13_FrameSkips.j1 k x0 x1 x2 bt187.1 bt187.2.1 bt187.2.2 true))))
def butterylaw13_FrameSkips.j1 : Nat → List Int → Int → Bool → Int → Int → Bool → Bool → Option (Bool)
  | 0, _, _, _, _, _, _, _ => none
  | k + 1, x0, x1, x2, x11, x12, x13, x67 => if x67 = true then (some false) else (if x12 > 0 then (some (x13 == x2)) else (if x2 = true then (if x13 = true then (some (x11 == (x0.length : Int))) else (if x11 > x1 then (if 0 ≤ (wrap64 (x11 - 1)) then (if (wrap64 (x11 - 1)) < (x0.length : Int) then (some ((rd x0 (wrap64 (x11 - 1))) == 10)) else (none)) else (none)) else (some false))) else (if x11 = x1 then (some (!x13)) else (some false))))
end
def butterylaw13_FrameSkips.f (k : Nat) (l0 : List Int) (a1 : Int) (a2 : Bool) : Option (Bool) := (butterylaw13_awake.f).bind fun t183 => (if (l0.length : Int) > 5000 then (butterylaw13_FrameSkips.j0 k l0 a1 a2 t183 true) else (if a1 < 0 then (butterylaw13_FrameSkips.j0 k l0 a1 a2 t183 true) else (butterylaw13_FrameSkips.j0 k l0 a1 a2 t183 (decide (a1 > 10000)))))
theorem butterylaw13_FrameSkips.mono_l : ∀ k, (∀ y0 y1 y2 y3 y4, LeO (butterylaw13_FrameSkips.j0 k y0 y1 y2 y3 y4) (butterylaw13_FrameSkips.j0 (k + 1) y0 y1 y2 y3 y4)) ∧ (∀ y0 y1 y2 y3 y4 y5 y6, LeO (butterylaw13_FrameSkips.j1 k y0 y1 y2 y3 y4 y5 y6) (butterylaw13_FrameSkips.j1 (k + 1) y0 y1 y2 y3 y4 y5 y6))
  | 0 => ⟨fun _ _ _ _ _ r h => by simp [butterylaw13_FrameSkips.j0] at h, fun _ _ _ _ _ _ _ r h => by simp [butterylaw13_FrameSkips.j1] at h⟩
  | k + 1 => by
    obtain ⟨ih0, ih1⟩ := butterylaw13_FrameSkips.mono_l k
    refine ⟨?_, ?_⟩
    · intro y0 y1 y2 y3 y4
      unfold butterylaw13_FrameSkips.j0
      repeat' first
      | (with_reducible exact ih0 _ _ _ _ _)
      | (with_reducible exact ih1 _ _ _ _ _ _ _)
      | (with_reducible exact LeO.refl _)
      | (with_reducible exact LeO.none _)
      | (with_reducible refine LeO.ite ?_ ?_)
      | (with_reducible refine LeO.bind ?_ (fun _ => ?_))
      | exact ih0 _ _ _ _ _
      | exact ih1 _ _ _ _ _ _ _
      | exact LeO.none _
      | refine LeO.ite ?_ ?_
      | refine LeO.bind ?_ (fun _ => ?_)
    · intro y0 y1 y2 y3 y4 y5 y6
      unfold butterylaw13_FrameSkips.j1
      repeat' first
      | (with_reducible exact ih0 _ _ _ _ _)
      | (with_reducible exact ih1 _ _ _ _ _ _ _)
      | (with_reducible exact LeO.refl _)
      | (with_reducible exact LeO.none _)
      | (with_reducible refine LeO.ite ?_ ?_)
      | (with_reducible refine LeO.bind ?_ (fun _ => ?_))
      | exact ih0 _ _ _ _ _
      | exact ih1 _ _ _ _ _ _ _
      | exact LeO.none _
      | refine LeO.ite ?_ ?_
      | refine LeO.bind ?_ (fun _ => ?_)
theorem butterylaw13_FrameSkips.mono : ∀ a0 a1 a2 k, LeO (butterylaw13_FrameSkips.f k a0 a1 a2) (butterylaw13_FrameSkips.f (k + 1) a0 a1 a2) := by
  intro a0 a1 a2 k
  obtain ⟨ih0, ih1⟩ := butterylaw13_FrameSkips.mono_l k
  unfold butterylaw13_FrameSkips.f
  repeat' first
      | (with_reducible exact ih0 _ _ _ _ _)
      | (with_reducible exact ih1 _ _ _ _ _ _ _)
      | (with_reducible exact LeO.refl _)
      | (with_reducible exact LeO.none _)
      | (with_reducible refine LeO.ite ?_ ?_)
      | (with_reducible refine LeO.bind ?_ (fun _ => ?_))
      | exact ih0 _ _ _ _ _
      | exact ih1 _ _ _ _ _ _ _
      | exact LeO.none _
      | refine LeO.ite ?_ ?_
      | refine LeO.bind ?_ (fun _ => ?_)
set_option maxHeartbeats 8000000 in
set_option maxRecDepth 100000 in
theorem butterylaw13_FrameSkips.calls (k : Nat) (A0 : Option Addr) (c0 : Nat) (l0 : List Int) (a1 : Int) (a2 : Bool) (r : Bool) (w : World) (hr0 : Kd.C (Kd.int .u8) w A0 l0.length l0) (hc0 : l0.length ≤ c0) (h : butterylaw13_FrameSkips.f k l0 a1 a2 = some r) :
    Calls Try.prog 9 #[.slice A0 l0.length c0, .int .i64 a1, .bool a2] w fun e w' => e = .returned (.bool r) ∧ Below w.heap.size w w' := by
  have HR0 := Aside0.mk hr0
  have HC0 := Aside0.mk hc0
  clear hr0 hc0
  have HB := Aside0.mk (Below.refl w.heap.size w)
  have H : ((butterylaw13_awake.f).bind fun t183 => (if (l0.length : Int) > 5000 then (butterylaw13_FrameSkips.j0 k l0 a1 a2 t183 true) else (if a1 < 0 then (butterylaw13_FrameSkips.j0 k l0 a1 a2 t183 true) else (butterylaw13_FrameSkips.j0 k l0 a1 a2 t183 (decide (a1 > 10000)))))) = some r := h
  clear h
  replace H := Option.bind_eq_some_iff.mp H
  obtain ⟨t183, A40, H⟩ := H
  replace H : (if (l0.length : Int) > 5000 then (butterylaw13_FrameSkips.j0 k l0 a1 a2 t183 true) else (if a1 < 0 then (butterylaw13_FrameSkips.j0 k l0 a1 a2 t183 true) else (butterylaw13_FrameSkips.j0 k l0 a1 a2 t183 (decide (a1 > 10000))))) = some r := H
  have A4 := Aside0.mk A40
  clear A40
  have HC5 := Aside0.mk H
  clear H
  go_enter Try.func9, Try.ntmps9
  go_upto_region 2 with (first | ((with_reducible refine gate_callee (f := 10) rfl ?_); refine goesL_ (some 14) rfl rfl Try.func10 (by kernel_rfl) rfl #[] rfl (by (try simp only [List.map_toArray, List.map_cons, List.map_nil]); first | done | rfl | (simp only [List.length_drop, List.length_take]; rfl)) ?_; (with_reducible refine (butterylaw13_awake.calls  t183 _ A4.out).mono ?_); rintro e w6 ⟨rfl, hb⟩; refine ⟨_, rfl, ?_⟩; have n0_ := Aside0.mk (below_step (by repeat (first | (with_reducible first | exact HB.out | apply below_alloc | apply pw_below_drewN | apply below_drew1) | exact HB.out)) hb); clear HB; have HB := n0_; clear n0_; (try clear hb); (try clear hb2); (try clear hk); (try clear hi)))
  (try simp only [Act.put, List.setIfInBounds_toArray, List.set_cons_zero, List.set_cons_succ])
  go_cut [25] (fun v25 wc => ∃ (kq : Nat) (x25_4 : Bool), v25 = .bool x25_4 ∧ Aside0 (butterylaw13_FrameSkips.j0 kq l0 a1 a2 t183 x25_4 = some r) ∧ Aside0 (kq ≤ k) ∧ Aside0 (Below w.heap.size w wc))
  case first =>
    have H := HC5.out
    clear HC5
    by_cases c7 : (l0.length : Int) > 5000
    · rw [if_pos c7] at H
      have c7b0 : decide (5000 < (l0.length : Int)) = true := decide_eq_true c7
      have c7b1 : decide (5000 < l0.length) = true := decide_eq_true (by omega)
      clear c7
      (first | rw [c7b0] | (simp only [i64_w, i32_w]; rw [c7b0]) | skip)
      have H' := Aside0.mk H
      clear H
      go_wp2
      go_meet
      case rel => exact ⟨_, (true), (by first | rfl | (simp; done) | (simp [*]; done)), H', ⟨by first | omega | exact Nat.le_refl _⟩, ⟨by repeat (first | (with_reducible first | exact HB.out | apply below_alloc | apply pw_below_drewN | apply below_drew1) | exact HB.out)⟩⟩
    · rw [if_neg c7] at H
      have c7b0 : decide (5000 < (l0.length : Int)) = false := decide_eq_false c7
      have c7b1 : decide (5000 < l0.length) = false := decide_eq_false (by omega)
      clear c7
      (first | rw [c7b0] | (simp only [i64_w, i32_w]; rw [c7b0]) | skip)
      by_cases c8 : a1 < 0
      · rw [if_pos c8] at H
        have c8b0 : decide (a1 < 0) = true := decide_eq_true c8
        clear c8
        have H' := Aside0.mk H
        clear H
        go_wp2
        go_meet
        case rel => exact ⟨_, (true), (by first | rfl | (simp; done) | (simp [*]; done)), H', ⟨by first | omega | exact Nat.le_refl _⟩, ⟨by repeat (first | (with_reducible first | exact HB.out | apply below_alloc | apply pw_below_drewN | apply below_drew1) | exact HB.out)⟩⟩
      · rw [if_neg c8] at H
        have c8b0 : decide (a1 < 0) = false := decide_eq_false c8
        clear c8
        have H' := Aside0.mk H
        clear H
        go_wp2
        go_meet
        case rel => exact ⟨_, (decide (a1 > 10000)), (by first | rfl | (simp; done) | (simp [*]; done)), H', ⟨by first | omega | exact Nat.le_refl _⟩, ⟨by repeat (first | (with_reducible first | exact HB.out | apply below_alloc | apply pw_below_drewN | apply below_drew1) | exact HB.out)⟩⟩
  case rest =>
    clear HC5
    try clear c1
    try clear p2
    try clear c7
    try clear c7b0
    try clear c7b1
    try clear c8
    try clear c8b0
    obtain ⟨kq, x25_4, rfl, HA, HJ4, HB⟩ := hcut
    cases kq with
    | zero => exact absurd HA.out (by simp [butterylaw13_FrameSkips.j0])
    | succ kj4 =>
      have H := HA.out
      clear HA
      simp only [butterylaw13_FrameSkips.j0] at H
      by_cases c9 : x25_4 = true
      · subst c9
        have H1 : (some t183) = some r := by rw [if_pos rfl] at H; exact H
        clear H
        have H := H1
        clear H1
        obtain rfl := Option.some.inj H
        go_wp2
        go_ret
        exact ⟨by first | rfl | (simp [errW_none, errW_some] <;> rfl) | (simp [*, errW_none, errW_some] <;> rfl), by repeat (first | (with_reducible first | exact HB.out | apply below_alloc | apply pw_below_drewN | apply below_drew1) | exact HB.out)⟩
      · replace c9 := Bool.eq_false_iff.mpr c9
        subst c9
        have H1 : ((frame_Pass.f l0 0 false).bind fun bt184 => ((frame_Pass.f l0 a1 a2).bind fun bt187 => (if t183 = true then (if bt184.1 = 0 then (if bt187.2.1 > 0 then (if bt187.1 = (l0.length : Int) then (if bt187.2.1 = 0 then (butterylaw13_FrameSkips.j1 kj4 l0 a1 a2 bt187.1 bt187.2.1 bt187.2.2 false) else (butterylaw13_FrameSkips.j1 kj4 l0 a1 a2 bt187.1 bt187.2.1 bt187.2.2 ((wrap64 (bt187.2.1 + bt187.1)) != a1))) else (butterylaw13_FrameSkips.j1 kj4 l0 a1 a2 bt187.1 bt187.2.1 bt187.2.2 true)) else (if bt187.2.1 = 0 then (butterylaw13_FrameSkips.j1 kj4 l0 a1 a2 bt187.1 bt187.2.1 bt187.2.2 false) else (butterylaw13_FrameSkips.j1 kj4 l0 a1 a2 bt187.1 bt187.2.1 bt187.2.2 ((wrap64 (bt187.2.1 + bt187.1)) != a1)))) else (butterylaw13_FrameSkips.j1 kj4 l0 a1 a2 bt187.1 bt187.2.1 bt187.2.2 true)) else (butterylaw13_FrameSkips.j1 kj4 l0 a1 a2 bt187.1 bt187.2.1 bt187.2.2 true)))) = some r := by rw [if_neg (show ¬ (false = true) by decide)] at H; exact H
        clear H
        have H := H1
        clear H1
        replace H := Option.bind_eq_some_iff.mp H
        obtain ⟨⟨t184, t185, t186⟩, A100, H⟩ := H
        replace H : ((frame_Pass.f l0 a1 a2).bind fun bt187 => (if t183 = true then (if t184 = 0 then (if bt187.2.1 > 0 then (if bt187.1 = (l0.length : Int) then (if bt187.2.1 = 0 then (butterylaw13_FrameSkips.j1 kj4 l0 a1 a2 bt187.1 bt187.2.1 bt187.2.2 false) else (butterylaw13_FrameSkips.j1 kj4 l0 a1 a2 bt187.1 bt187.2.1 bt187.2.2 ((wrap64 (bt187.2.1 + bt187.1)) != a1))) else (butterylaw13_FrameSkips.j1 kj4 l0 a1 a2 bt187.1 bt187.2.1 bt187.2.2 true)) else (if bt187.2.1 = 0 then (butterylaw13_FrameSkips.j1 kj4 l0 a1 a2 bt187.1 bt187.2.1 bt187.2.2 false) else (butterylaw13_FrameSkips.j1 kj4 l0 a1 a2 bt187.1 bt187.2.1 bt187.2.2 ((wrap64 (bt187.2.1 + bt187.1)) != a1)))) else (butterylaw13_FrameSkips.j1 kj4 l0 a1 a2 bt187.1 bt187.2.1 bt187.2.2 true)) else (butterylaw13_FrameSkips.j1 kj4 l0 a1 a2 bt187.1 bt187.2.1 bt187.2.2 true))) = some r := H
        have A10 := Aside0.mk A100
        clear A100
        replace H := Option.bind_eq_some_iff.mp H
        obtain ⟨⟨t187, t188, t189⟩, A110, H⟩ := H
        replace H : (if t183 = true then (if t184 = 0 then (if t188 > 0 then (if t187 = (l0.length : Int) then (if t188 = 0 then (butterylaw13_FrameSkips.j1 kj4 l0 a1 a2 t187 t188 t189 false) else (butterylaw13_FrameSkips.j1 kj4 l0 a1 a2 t187 t188 t189 ((wrap64 (t188 + t187)) != a1))) else (butterylaw13_FrameSkips.j1 kj4 l0 a1 a2 t187 t188 t189 true)) else (if t188 = 0 then (butterylaw13_FrameSkips.j1 kj4 l0 a1 a2 t187 t188 t189 false) else (butterylaw13_FrameSkips.j1 kj4 l0 a1 a2 t187 t188 t189 ((wrap64 (t188 + t187)) != a1)))) else (butterylaw13_FrameSkips.j1 kj4 l0 a1 a2 t187 t188 t189 true)) else (butterylaw13_FrameSkips.j1 kj4 l0 a1 a2 t187 t188 t189 true)) = some r := H
        have A11 := Aside0.mk A110
        clear A110
        have HC12 := Aside0.mk H
        clear H
        go_upto_region 6 with (first | ((with_reducible refine gate_callee (f := 19) rfl ?_); refine goesL_ (some 29) rfl rfl Try.func19 (by kernel_rfl) rfl #[.slice A0 l0.length c0, .int .i64 0, .bool false] rfl (by (try simp only [List.map_toArray, List.map_cons, List.map_nil]); first | done | rfl | (simp only [List.length_drop, List.length_take]; rfl)) ?_; (with_reducible refine (frame_Pass.calls _ _ l0 0 false t184 t185 t186 _ ?side1 ?side2 A10.out).mono ?_); (case side1 => repeat (first | exact (Kd.C_below HR0.out HB.out) | (with_reducible refine Kd.C_alloc ?_ _) | (with_reducible refine Kd.C_drewN ?_ _) | (with_reducible refine Kd.C_drew ?_))); (case side2 => exact HC0.out); rintro e w13 ⟨rfl, hb⟩; refine ⟨_, rfl, ?_⟩; have n0_ := Aside0.mk (below_step (by repeat (first | (with_reducible first | exact HB.out | apply below_alloc | apply pw_below_drewN | apply below_drew1) | exact HB.out)) hb); clear HB; have HB := n0_; clear n0_; (try clear hb); (try clear hb2); (try clear hk); (try clear hi)) | ((with_reducible refine gate_callee (f := 19) rfl ?_); refine goesL_ (some 37) rfl rfl Try.func19 (by kernel_rfl) rfl #[.slice A0 l0.length c0, .int .i64 a1, .bool a2] rfl (by (try simp only [List.map_toArray, List.map_cons, List.map_nil]); first | done | rfl | (simp only [List.length_drop, List.length_take]; rfl)) ?_; (with_reducible refine (frame_Pass.calls _ _ l0 a1 a2 t187 t188 t189 _ ?side1 ?side2 A11.out).mono ?_); (case side1 => repeat (first | exact (Kd.C_below HR0.out HB.out) | (with_reducible refine Kd.C_alloc ?_ _) | (with_reducible refine Kd.C_drewN ?_ _) | (with_reducible refine Kd.C_drew ?_))); (case side2 => exact HC0.out); rintro e w14 ⟨rfl, hb⟩; refine ⟨_, rfl, ?_⟩; have n0_ := Aside0.mk (below_step (by repeat (first | (with_reducible first | exact HB.out | apply below_alloc | apply pw_below_drewN | apply below_drew1) | exact HB.out)) hb); clear HB; have HB := n0_; clear n0_; (try clear hb); (try clear hb2); (try clear hk); (try clear hi)))
        (try simp only [Act.put, List.setIfInBounds_toArray, List.set_cons_zero, List.set_cons_succ])
        go_cut [67] (fun v67 wc => ∃ (kq : Nat) (x67_11 : Bool), v67 = .bool x67_11 ∧ Aside0 (butterylaw13_FrameSkips.j1 kq l0 a1 a2 t187 t188 t189 x67_11 = some r) ∧ Aside0 (kq ≤ kj4) ∧ Aside0 (Below w.heap.size w wc))
        case first =>
          have H := HC12.out
          clear HC12
          by_cases c15 : t183 = true
          · subst c15
            have H1 : (if t184 = 0 then (if t188 > 0 then (if t187 = (l0.length : Int) then (if t188 = 0 then (butterylaw13_FrameSkips.j1 kj4 l0 a1 a2 t187 t188 t189 false) else (butterylaw13_FrameSkips.j1 kj4 l0 a1 a2 t187 t188 t189 ((wrap64 (t188 + t187)) != a1))) else (butterylaw13_FrameSkips.j1 kj4 l0 a1 a2 t187 t188 t189 true)) else (if t188 = 0 then (butterylaw13_FrameSkips.j1 kj4 l0 a1 a2 t187 t188 t189 false) else (butterylaw13_FrameSkips.j1 kj4 l0 a1 a2 t187 t188 t189 ((wrap64 (t188 + t187)) != a1)))) else (butterylaw13_FrameSkips.j1 kj4 l0 a1 a2 t187 t188 t189 true)) = some r := by rw [if_pos rfl] at H; exact H
            clear H
            have H := H1
            clear H1
            by_cases c16 : t184 = 0
            · rw [if_pos c16] at H
              have c16b0 : (t184 == 0) = true := beq_iff_eq.mpr c16
              have c16b1 : (t184 != 0) = false := bne_eq_false_iff_eq.mpr c16
              clear c16
              (first | rw [c16b0] | (simp only [i64_w, i32_w]; rw [c16b0]) | skip)
              by_cases c17 : t188 > 0
              · rw [if_pos c17] at H
                have c17b0 : decide (0 < t188) = true := decide_eq_true c17
                clear c17
                by_cases c18 : t187 = (l0.length : Int)
                · rw [if_pos c18] at H
                  have c18b0 : (t187 == (l0.length : Int)) = true := beq_iff_eq.mpr c18
                  have c18b1 : (t187 != (l0.length : Int)) = false := bne_eq_false_iff_eq.mpr c18
                  clear c18
                  by_cases c19 : t188 = 0
                  · rw [if_pos c19] at H
                    have c19b0 : (t188 == 0) = true := beq_iff_eq.mpr c19
                    have c19b1 : (t188 != 0) = false := bne_eq_false_iff_eq.mpr c19
                    clear c19
                    have H' := Aside0.mk H
                    clear H
                    go_wp2
                    go_meet
                    case rel => exact ⟨_, (false), (by first | rfl | (simp; done) | (simp [*]; done)), H', ⟨by have := HJ4.out; first | omega | exact Nat.le_refl _⟩, ⟨by repeat (first | (with_reducible first | exact HB.out | apply below_alloc | apply pw_below_drewN | apply below_drew1) | exact HB.out)⟩⟩
                  · rw [if_neg c19] at H
                    have c19b0 : (t188 == 0) = false := beq_eq_false_iff_ne.mpr c19
                    have c19b1 : (t188 != 0) = true := bne_iff_ne.mpr c19
                    have H' := Aside0.mk H
                    clear H
                    go_wp2
                    go_meet
                    case rel => exact ⟨_, (((wrap64 (t188 + t187)) != a1)), (by first | rfl | (simp; done) | (simp [*]; done)), H', ⟨by have := HJ4.out; first | omega | exact Nat.le_refl _⟩, ⟨by repeat (first | (with_reducible first | exact HB.out | apply below_alloc | apply pw_below_drewN | apply below_drew1) | exact HB.out)⟩⟩
                · rw [if_neg c18] at H
                  have c18b0 : (t187 == (l0.length : Int)) = false := beq_eq_false_iff_ne.mpr c18
                  have c18b1 : (t187 != (l0.length : Int)) = true := bne_iff_ne.mpr c18
                  have H' := Aside0.mk H
                  clear H
                  go_wp2
                  go_meet
                  case rel => exact ⟨_, (true), (by first | rfl | (simp; done) | (simp [*]; done)), H', ⟨by have := HJ4.out; first | omega | exact Nat.le_refl _⟩, ⟨by repeat (first | (with_reducible first | exact HB.out | apply below_alloc | apply pw_below_drewN | apply below_drew1) | exact HB.out)⟩⟩
              · rw [if_neg c17] at H
                have c17b0 : decide (0 < t188) = false := decide_eq_false c17
                clear c17
                by_cases c20 : t188 = 0
                · rw [if_pos c20] at H
                  have c20b0 : (t188 == 0) = true := beq_iff_eq.mpr c20
                  have c20b1 : (t188 != 0) = false := bne_eq_false_iff_eq.mpr c20
                  clear c20
                  have H' := Aside0.mk H
                  clear H
                  go_wp2
                  go_meet
                  case rel => exact ⟨_, (false), (by first | rfl | (simp; done) | (simp [*]; done)), H', ⟨by have := HJ4.out; first | omega | exact Nat.le_refl _⟩, ⟨by repeat (first | (with_reducible first | exact HB.out | apply below_alloc | apply pw_below_drewN | apply below_drew1) | exact HB.out)⟩⟩
                · rw [if_neg c20] at H
                  have c20b0 : (t188 == 0) = false := beq_eq_false_iff_ne.mpr c20
                  have c20b1 : (t188 != 0) = true := bne_iff_ne.mpr c20
                  have H' := Aside0.mk H
                  clear H
                  go_wp2
                  go_meet
                  case rel => exact ⟨_, (((wrap64 (t188 + t187)) != a1)), (by first | rfl | (simp; done) | (simp [*]; done)), H', ⟨by have := HJ4.out; first | omega | exact Nat.le_refl _⟩, ⟨by repeat (first | (with_reducible first | exact HB.out | apply below_alloc | apply pw_below_drewN | apply below_drew1) | exact HB.out)⟩⟩
            · rw [if_neg c16] at H
              have c16b0 : (t184 == 0) = false := beq_eq_false_iff_ne.mpr c16
              have c16b1 : (t184 != 0) = true := bne_iff_ne.mpr c16
              (first | rw [c16b0] | (simp only [i64_w, i32_w]; rw [c16b0]) | skip)
              have H' := Aside0.mk H
              clear H
              go_wp2
              go_meet
              case rel => exact ⟨_, (true), (by first | rfl | (simp; done) | (simp [*]; done)), H', ⟨by have := HJ4.out; first | omega | exact Nat.le_refl _⟩, ⟨by repeat (first | (with_reducible first | exact HB.out | apply below_alloc | apply pw_below_drewN | apply below_drew1) | exact HB.out)⟩⟩
          · replace c15 := Bool.eq_false_iff.mpr c15
            subst c15
            have H1 : (butterylaw13_FrameSkips.j1 kj4 l0 a1 a2 t187 t188 t189 true) = some r := by rw [if_neg (show ¬ (false = true) by decide)] at H; exact H
            clear H
            have H := H1
            clear H1
            have H' := Aside0.mk H
            clear H
            go_wp2
            go_meet
            case rel => exact ⟨_, (true), (by first | rfl | (simp; done) | (simp [*]; done)), H', ⟨by have := HJ4.out; first | omega | exact Nat.le_refl _⟩, ⟨by repeat (first | (with_reducible first | exact HB.out | apply below_alloc | apply pw_below_drewN | apply below_drew1) | exact HB.out)⟩⟩
        case rest =>
          clear HC12
          try clear c1
          try clear c2
          try clear p2
          try clear p6
          try clear c7
          try clear c7b0
          try clear c7b1
          try clear c8
          try clear c8b0
          try clear c9
          try clear c10
          try clear c15
          try clear c16
          try clear c16b0
          try clear c16b1
          try clear c17
          try clear c17b0
          try clear c18
          try clear c18b0
          try clear c18b1
          try clear c19
          try clear c19b0
          try clear c19b1
          try clear c20
          try clear c20b0
          try clear c20b1
          try clear p2
          obtain ⟨kq, x67_11, rfl, HA, HJ11, HB⟩ := hcut
          cases kq with
          | zero => exact absurd HA.out (by simp [butterylaw13_FrameSkips.j1])
          | succ kj11 =>
            have H := HA.out
            clear HA
            simp only [butterylaw13_FrameSkips.j1] at H
            by_cases c21 : x67_11 = true
            · subst c21
              have H1 : (some false) = some r := by rw [if_pos rfl] at H; exact H
              clear H
              have H := H1
              clear H1
              obtain rfl := Option.some.inj H
              go_wp2
              go_ret
              exact ⟨by first | rfl | (simp [errW_none, errW_some] <;> rfl) | (simp [*, errW_none, errW_some] <;> rfl), by repeat (first | (with_reducible first | exact HB.out | apply below_alloc | apply pw_below_drewN | apply below_drew1) | exact HB.out)⟩
            · replace c21 := Bool.eq_false_iff.mpr c21
              subst c21
              have H1 : (if t188 > 0 then (some (t189 == a2)) else (if a2 = true then (if t189 = true then (some (t187 == (l0.length : Int))) else (if t187 > a1 then (if 0 ≤ (wrap64 (t187 - 1)) then (if (wrap64 (t187 - 1)) < (l0.length : Int) then (some ((rd l0 (wrap64 (t187 - 1))) == 10)) else (none)) else (none)) else (some false))) else (if t187 = a1 then (some (!t189)) else (some false)))) = some r := by rw [if_neg (show ¬ (false = true) by decide)] at H; exact H
              clear H
              have H := H1
              clear H1
              by_cases c22 : t188 > 0
              · rw [if_pos c22] at H
                have c22b0 : decide (0 < t188) = true := decide_eq_true c22
                clear c22
                obtain rfl := Option.some.inj H
                go_wp2
                go_ret
                exact ⟨by first | rfl | (simp [errW_none, errW_some] <;> rfl) | (simp [*, errW_none, errW_some] <;> rfl), by repeat (first | (with_reducible first | exact HB.out | apply below_alloc | apply pw_below_drewN | apply below_drew1) | exact HB.out)⟩
              · rw [if_neg c22] at H
                have c22b0 : decide (0 < t188) = false := decide_eq_false c22
                clear c22
                by_cases c23 : a2 = true
                · subst c23
                  have H1 : (if t189 = true then (some (t187 == (l0.length : Int))) else (if t187 > a1 then (if 0 ≤ (wrap64 (t187 - 1)) then (if (wrap64 (t187 - 1)) < (l0.length : Int) then (some ((rd l0 (wrap64 (t187 - 1))) == 10)) else (none)) else (none)) else (some false))) = some r := by rw [if_pos rfl] at H; exact H
                  clear H
                  have H := H1
                  clear H1
                  by_cases c24 : t189 = true
                  · subst c24
                    have H1 : (some (t187 == (l0.length : Int))) = some r := by rw [if_pos rfl] at H; exact H
                    clear H
                    have H := H1
                    clear H1
                    obtain rfl := Option.some.inj H
                    go_wp2
                    go_ret
                    exact ⟨by first | rfl | (simp [errW_none, errW_some] <;> rfl) | (simp [*, errW_none, errW_some] <;> rfl), by repeat (first | (with_reducible first | exact HB.out | apply below_alloc | apply pw_below_drewN | apply below_drew1) | exact HB.out)⟩
                  · replace c24 := Bool.eq_false_iff.mpr c24
                    subst c24
                    have H1 : (if t187 > a1 then (if 0 ≤ (wrap64 (t187 - 1)) then (if (wrap64 (t187 - 1)) < (l0.length : Int) then (some ((rd l0 (wrap64 (t187 - 1))) == 10)) else (none)) else (none)) else (some false)) = some r := by rw [if_neg (show ¬ (false = true) by decide)] at H; exact H
                    clear H
                    have H := H1
                    clear H1
                    by_cases c25 : t187 > a1
                    · rw [if_pos c25] at H
                      have c25b0 : decide (a1 < t187) = true := decide_eq_true c25
                      clear c25
                      obtain ⟨ji26, hji26⟩ : ∃ j_ : Int, (wrap64 (t187 - 1)) = j_ := ⟨_, rfl⟩
                      replace H : (if 0 ≤ (ji26) then (if (ji26) < (l0.length : Int) then (some ((rd l0 (ji26)) == 10)) else (none)) else (none)) = some r := by first | (rw [hji26] at H; exact H) | (simp only [hji26] at H ⊢; exact H)
                      have hji26w : (IntKind.i64.wrap (t187 - 1)) = ji26 := (i64_w _).trans hji26
                      by_cases c27 : 0 ≤ (ji26)
                      · rw [if_pos c27] at H
                        have c27b0 : decide (0 ≤ (ji26)) = true := decide_eq_true c27
                        clear c27
                        by_cases c28 : (ji26) < (l0.length : Int)
                        · rw [if_pos c28] at H
                          have c28b0 : decide ((ji26) < (l0.length : Int)) = true := decide_eq_true c28
                          clear c28
                          obtain rfl := Option.some.inj H
                          have p190 : 0 ≤ ((ji26) : Int) := of_decide_eq_true (by first | (with_reducible assumption) | assumption)
                          have q190 : (ji26) < (l0.length : Int) := of_decide_eq_true (by first | (with_reducible assumption) | assumption)
                          obtain ⟨ad190, e190, hx190_0⟩ := Kd.at_int HR0.out (ji26) p190 q190
                          cases e190
                          replace hx190_0 := (HB.out.cell (World.block_lt_of_cell? w _ hx190_0)).trans hx190_0
                          replace p190 := eq_true p190
                          replace q190 := eq_true q190
                          go_wp2
                          go_ret
                          exact ⟨by first | rfl | (simp [errW_none, errW_some] <;> rfl) | (simp only [← hji26]; first | rfl | (simp [errW_none, errW_some] <;> rfl)) | (simp [*, errW_none, errW_some] <;> rfl), by repeat (first | (with_reducible first | exact HB.out | apply below_alloc | apply pw_below_drewN | apply below_drew1) | exact HB.out)⟩
                        · rw [if_neg c28] at H
                          exact absurd H (by simp)
                      · rw [if_neg c27] at H
                        exact absurd H (by simp)
                    · rw [if_neg c25] at H
                      have c25b0 : decide (a1 < t187) = false := decide_eq_false c25
                      clear c25
                      obtain rfl := Option.some.inj H
                      go_wp2
                      go_ret
                      exact ⟨by first | rfl | (simp [errW_none, errW_some] <;> rfl) | (simp [*, errW_none, errW_some] <;> rfl), by repeat (first | (with_reducible first | exact HB.out | apply below_alloc | apply pw_below_drewN | apply below_drew1) | exact HB.out)⟩
                · replace c23 := Bool.eq_false_iff.mpr c23
                  subst c23
                  have H1 : (if t187 = a1 then (some (!t189)) else (some false)) = some r := by rw [if_neg (show ¬ (false = true) by decide)] at H; exact H
                  clear H
                  have H := H1
                  clear H1
                  by_cases c29 : t187 = a1
                  · rw [if_pos c29] at H
                    have c29b0 : (t187 == a1) = true := beq_iff_eq.mpr c29
                    have c29b1 : (t187 != a1) = false := bne_eq_false_iff_eq.mpr c29
                    clear c29
                    obtain rfl := Option.some.inj H
                    go_wp2
                    go_ret
                    exact ⟨by first | rfl | (simp [errW_none, errW_some] <;> rfl) | (simp [*, errW_none, errW_some] <;> rfl), by repeat (first | (with_reducible first | exact HB.out | apply below_alloc | apply pw_below_drewN | apply below_drew1) | exact HB.out)⟩
                  · rw [if_neg c29] at H
                    have c29b0 : (t187 == a1) = false := beq_eq_false_iff_ne.mpr c29
                    have c29b1 : (t187 != a1) = true := bne_iff_ne.mpr c29
                    obtain rfl := Option.some.inj H
                    go_wp2
                    go_ret
                    exact ⟨by first | rfl | (simp [errW_none, errW_some] <;> rfl) | (simp [*, errW_none, errW_some] <;> rfl), by repeat (first | (with_reducible first | exact HB.out | apply below_alloc | apply pw_below_drewN | apply below_drew1) | exact HB.out)⟩

/-- THE ONE PURE STATEMENT of butterylaw13_FrameSkips: yours. -/
def butterylaw13_FrameSkips.Pure : Prop := ∀ (l0 : List Int) (a1 : Int) (a2 : Bool), l0.length ≤ maxLen → l0.length * 1 ≤ 140737488351232 → (∀ x ∈ l0, (Lit.int .u8 x).wf = true) → (Lit.int .i64 a1).wf = true → ∃ k, butterylaw13_FrameSkips.f k l0 a1 a2 = some true
theorem butterylaw13_FrameSkips.walk (P : butterylaw13_FrameSkips.Pure) (a0 : Option Addr) (len0 cap0 : Nat) (z0 : List Int) (a1 : Int) (a2 : Bool) (w : World) (w0 : (a0 = none ∧ len0 = 0 ∧ cap0 = 0 ∧ z0 = []) ∨ ∃ x, a0 = some x ∧ len0 ≤ cap0 ∧ cap0 ≤ maxLen ∧ z0.length = cap0 ∧ (∀ i, i < z0.length → w.cell? (x.add i) = some (.int .u8 (z0.getD i 0))) ∧ ∀ n ∈ z0, (Lit.int .u8 n).wf = true) (y0 : len0 * 1 ≤ 140737488351232) (w1 : (Lit.int .i64 a1).wf = true) :
    Calls Try.prog 9 #[.slice a0 len0 cap0, .int .i64 a1, .bool a2] w fun e w' => e = .returned (.bool true) ∧ Below w.heap.size w w' := by
  obtain ⟨l0, rfl, hr0, hm0, hw0, hc0⟩ := ReadsInt.ofRowC w0
  obtain ⟨k, h⟩ := P l0 a1 a2 hm0 y0 hw0 w1
  refine (butterylaw13_FrameSkips.calls k _ _ l0 a1 a2 true w (Kd.C_of_reads (d := (0 : Int)) (h1 := fun _ => rfl) hr0) hc0 h).mono ?_
  rintro e w' ⟨rfl, hd⟩
  exact ⟨rfl, hd⟩

end Go.Proofs.Ytcdjocjkipceoaa.Hd
