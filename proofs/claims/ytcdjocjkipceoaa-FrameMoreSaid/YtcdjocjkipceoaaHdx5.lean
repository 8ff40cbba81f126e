-- Written by this session's own program (wip/hprint.py) out of the translation, over hand-proved contracts. Lean checks it.
import Derived.Test.YtcdjocjkipceoaaHdx0
import Derived.Test.YtcdjocjkipceoaaHdx1
namespace Go.Proofs.Ytcdjocjkipceoaa.Hd
open Go.RowKit Go.Proofs.YtcdjocjkipceoaaW.PrintWords Go.Proofs.YtcdjocjkipceoaaW.PrintLast Go.Proofs.YtcdjocjkipceoaaW.PrintMore
attribute [local go_sem] max2_int min2_int max_two min_two max_three min_three max_four min_four   -- for this text's walks alone
set_option linter.unusedVariables false
set_option linter.unusedSimpArgs false

/-! ### butterylaw13_FrameMore: function 7 -/
mutual
def butterylaw13_FrameMore.j0 : Nat → List Int → List Int → Int → Bool → Bool → Option (Bool)
  | 0, _, _, _, _, _ => none
  | k + 1, x0, x1, x2, x7, x32 => if x32 = true then (some x7) else (if ([] : List Int).length + x0.length < 140737488355328 then ((some (([] : List Int) ++ x0 : List Int)).bind fun y160 => (if y160.length + x1.length < 140737488355328 then ((some (y160 ++ x1 : List Int)).bind fun y163 => ((frame_Line.f x0).bind fun bt166 => ((frame_Line.f y163).bind fun bt169 => ((frame_Body.f x0 x2).bind fun bt172 => ((frame_Body.f y163 x2).bind fun bt177 => (if bt166.2.2 = 4 then (if bt166.2.1 = (x0.length : Int) then (if bt166.2.1 = 0 then (butterylaw13_FrameMore.j1 k x7 bt166.1 bt166.2.1 bt166.2.2 bt169.1 bt169.2.1 bt169.2.2 bt172.1 bt172.2.1 bt172.2.2 bt177.1 bt177.2.1 bt177.2.2 true) else (if 0 ≤ (wrap64 (bt166.2.1 - 1)) then (if (wrap64 (bt166.2.1 - 1)) < (x0.length : Int) then (butterylaw13_FrameMore.j1 k x7 bt166.1 bt166.2.1 bt166.2.2 bt169.1 bt169.2.1 bt169.2.2 bt172.1 bt172.2.1 bt172.2.2 bt177.1 bt177.2.1 bt177.2.2 ((rd x0 (wrap64 (bt166.2.1 - 1))) != 10)) else (none)) else (none))) else (butterylaw13_FrameMore.j1 k x7 bt166.1 bt166.2.1 bt166.2.2 bt169.1 bt169.2.1 bt169.2.2 bt172.1 bt172.2.1 bt172.2.2 bt177.1 bt177.2.1 bt177.2.2 false)) else (butterylaw13_FrameMore.j1 k x7 bt166.1 bt166.2.1 bt166.2.2 bt169.1 bt169.2.1 bt169.2.2 bt172.1 bt172.2.1 bt172.2.2 bt177.1 bt177.2.1 bt177.2.2 false))))))) else (none))) else (none))
def butterylaw13_FrameMore.j1 : Nat → Bool → ByteArray → Int → Int → ByteArray → Int → Int → List Int → Int → Int → List Int → Int → Int → Bool → Option (Bool)
  | 0, _, _, _, _, _, _, _, _, _, _, _, _, _, _ => none
  | k + 1, x7, x9, x10, x11, x12, x13, x14, x15, x16, x17, x18, x19, x20, x21 => if x11 = 3 then (butterylaw13_FrameMore.j2 k x7 x15 x16 x17 x18 x19 x20 true) else (if x21 = true then (if x14 = 4 then (butterylaw13_FrameMore.j2 k x7 x15 x16 x17 x18 x19 x20 true) else (if x9.toList = x12.toList then (if x10 = x13 then (butterylaw13_FrameMore.j2 k x7 x15 x16 x17 x18 x19 x20 (x11 == x14)) else (butterylaw13_FrameMore.j2 k x7 x15 x16 x17 x18 x19 x20 false)) else (butterylaw13_FrameMore.j2 k x7 x15 x16 x17 x18 x19 x20 false))) else (if x9.toList = x12.toList then (if x10 = x13 then (butterylaw13_FrameMore.j2 k x7 x15 x16 x17 x18 x19 x20 (x11 == x14)) else (butterylaw13_FrameMore.j2 k x7 x15 x16 x17 x18 x19 x20 false)) else (butterylaw13_FrameMore.j2 k x7 x15 x16 x17 x18 x19 x20 false)))
def butterylaw13_FrameMore.j2 : Nat → Bool → List Int → Int → Int → List Int → Int → Int → Bool → Option (Bool)
  | 0, _, _, _, _, _, _, _, _ => none
  | k + 1, x7, x15, x16, x17, x18, x19, x20, x22 => if x17 = 3 then (butterylaw13_FrameMore.j3 k x7 x22 true) else (if (strOfNums x15).toList = (strOfNums x18).toList then (if x16 = x19 then (butterylaw13_FrameMore.j3 k x7 x22 (x17 == x20)) else (butterylaw13_FrameMore.j3 k x7 x22 false)) else (butterylaw13_FrameMore.j3 k x7 x22 false))
def butterylaw13_FrameMore.j3 : Nat → Bool → Bool → Bool → Option (Bool)
  | 0, _, _, _ => none
  | k + 1, x7, x22, x23 => if x7 = true then (if x22 = true then (butterylaw13_FrameMore.j4 k x23) else (butterylaw13_FrameMore.j4 k false)) else (butterylaw13_FrameMore.j4 k false)
def butterylaw13_FrameMore.j4 : Nat → Bool → Option (Bool)
  | 0, _ => none
  | k + 1, x6 => some x6
end
def butterylaw13_FrameMore.f (k : Nat) (l0 : List Int) (l1 : List Int) (a2 : Int) : Option (Bool) := (butterylaw13_awake.f).bind fun t159 => (if (l0.length : Int) > 5000 then (butterylaw13_FrameMore.j0 k l0 l1 a2 t159 true) else (butterylaw13_FrameMore.j0 k l0 l1 a2 t159 (decide ((l1.length : Int) > 1000))))
theorem butterylaw13_FrameMore.mono_l : ∀ k, (∀ y0 y1 y2 y3 y4, LeO (butterylaw13_FrameMore.j0 k y0 y1 y2 y3 y4) (butterylaw13_FrameMore.j0 (k + 1) y0 y1 y2 y3 y4)) ∧ (∀ y0 y1 y2 y3 y4 y5 y6 y7 y8 y9 y10 y11 y12 y13, LeO (butterylaw13_FrameMore.j1 k y0 y1 y2 y3 y4 y5 y6 y7 y8 y9 y10 y11 y12 y13) (butterylaw13_FrameMore.j1 (k + 1) y0 y1 y2 y3 y4 y5 y6 y7 y8 y9 y10 y11 y12 y13)) ∧ (∀ y0 y1 y2 y3 y4 y5 y6 y7, LeO (butterylaw13_FrameMore.j2 k y0 y1 y2 y3 y4 y5 y6 y7) (butterylaw13_FrameMore.j2 (k + 1) y0 y1 y2 y3 y4 y5 y6 y7)) ∧ (∀ y0 y1 y2, LeO (butterylaw13_FrameMore.j3 k y0 y1 y2) (butterylaw13_FrameMore.j3 (k + 1) y0 y1 y2)) ∧ (∀ y0, LeO (butterylaw13_FrameMore.j4 k y0) (butterylaw13_FrameMore.j4 (k + 1) y0))
  | 0 => ⟨fun _ _ _ _ _ r h => by simp [butterylaw13_FrameMore.j0] at h, fun _ _ _ _ _ _ _ _ _ _ _ _ _ _ r h => by simp [butterylaw13_FrameMore.j1] at h, fun _ _ _ _ _ _ _ _ r h => by simp [butterylaw13_FrameMore.j2] at h, fun _ _ _ r h => by simp [butterylaw13_FrameMore.j3] at h, fun _ r h => by simp [butterylaw13_FrameMore.j4] at h⟩
  | k + 1 => by
    obtain ⟨ih0, ih1, ih2, ih3, ih4⟩ := butterylaw13_FrameMore.mono_l k
    refine ⟨?_, ?_, ?_, ?_, ?_⟩
    · intro y0 y1 y2 y3 y4
      unfold butterylaw13_FrameMore.j0
      repeat' first
      | (with_reducible exact ih0 _ _ _ _ _)
      | (with_reducible exact ih1 _ _ _ _ _ _ _ _ _ _ _ _ _ _)
      | (with_reducible exact ih2 _ _ _ _ _ _ _ _)
      | (with_reducible exact ih3 _ _ _)
      | (with_reducible exact ih4 _)
      | (with_reducible exact LeO.refl _)
      | (with_reducible exact LeO.none _)
      | (with_reducible refine LeO.ite ?_ ?_)
      | (with_reducible refine LeO.bind ?_ (fun _ => ?_))
      | exact ih0 _ _ _ _ _
      | exact ih1 _ _ _ _ _ _ _ _ _ _ _ _ _ _
      | exact ih2 _ _ _ _ _ _ _ _
      | exact ih3 _ _ _
      | exact ih4 _
      | exact LeO.none _
      | refine LeO.ite ?_ ?_
      | refine LeO.bind ?_ (fun _ => ?_)
    · intro y0 y1 y2 y3 y4 y5 y6 y7 y8 y9 y10 y11 y12 y13
      unfold butterylaw13_FrameMore.j1
      repeat' first
      | (with_reducible exact ih0 _ _ _ _ _)
      | (with_reducible exact ih1 _ _ _ _ _ _ _ _ _ _ _ _ _ _)
      | (with_reducible exact ih2 _ _ _ _ _ _ _ _)
      | (with_reducible exact ih3 _ _ _)
      | (with_reducible exact ih4 _)
      | (with_reducible exact LeO.refl _)
      | (with_reducible exact LeO.none _)
      | (with_reducible refine LeO.ite ?_ ?_)
      | (with_reducible refine LeO.bind ?_ (fun _ => ?_))
      | exact ih0 _ _ _ _ _
      | exact ih1 _ _ _ _ _ _ _ _ _ _ _ _ _ _
      | exact ih2 _ _ _ _ _ _ _ _
      | exact ih3 _ _ _
      | exact ih4 _
      | exact LeO.none _
      | refine LeO.ite ?_ ?_
      | refine LeO.bind ?_ (fun _ => ?_)
    · intro y0 y1 y2 y3 y4 y5 y6 y7
      unfold butterylaw13_FrameMore.j2
      repeat' first
      | (with_reducible exact ih0 _ _ _ _ _)
      | (with_reducible exact ih1 _ _ _ _ _ _ _ _ _ _ _ _ _ _)
      | (with_reducible exact ih2 _ _ _ _ _ _ _ _)
      | (with_reducible exact ih3 _ _ _)
      | (with_reducible exact ih4 _)
      | (with_reducible exact LeO.refl _)
      | (with_reducible exact LeO.none _)
      | (with_reducible refine LeO.ite ?_ ?_)
      | (with_reducible refine LeO.bind ?_ (fun _ => ?_))
      | exact ih0 _ _ _ _ _
      | exact ih1 _ _ _ _ _ _ _ _ _ _ _ _ _ _
      | exact ih2 _ _ _ _ _ _ _ _
      | exact ih3 _ _ _
      | exact ih4 _
      | exact LeO.none _
      | refine LeO.ite ?_ ?_
      | refine LeO.bind ?_ (fun _ => ?_)
    · intro y0 y1 y2
      unfold butterylaw13_FrameMore.j3
      repeat' first
      | (with_reducible exact ih0 _ _ _ _ _)
      | (with_reducible exact ih1 _ _ _ _ _ _ _ _ _ _ _ _ _ _)
      | (with_reducible exact ih2 _ _ _ _ _ _ _ _)
      | (with_reducible exact ih3 _ _ _)
      | (with_reducible exact ih4 _)
      | (with_reducible exact LeO.refl _)
      | (with_reducible exact LeO.none _)
      | (with_reducible refine LeO.ite ?_ ?_)
      | (with_reducible refine LeO.bind ?_ (fun _ => ?_))
      | exact ih0 _ _ _ _ _
      | exact ih1 _ _ _ _ _ _ _ _ _ _ _ _ _ _
      | exact ih2 _ _ _ _ _ _ _ _
      | exact ih3 _ _ _
      | exact ih4 _
      | exact LeO.none _
      | refine LeO.ite ?_ ?_
      | refine LeO.bind ?_ (fun _ => ?_)
    · intro y0
      unfold butterylaw13_FrameMore.j4
      repeat' first
      | (with_reducible exact ih0 _ _ _ _ _)
      | (with_reducible exact ih1 _ _ _ _ _ _ _ _ _ _ _ _ _ _)
      | (with_reducible exact ih2 _ _ _ _ _ _ _ _)
      | (with_reducible exact ih3 _ _ _)
      | (with_reducible exact ih4 _)
      | (with_reducible exact LeO.refl _)
      | (with_reducible exact LeO.none _)
      | (with_reducible refine LeO.ite ?_ ?_)
      | (with_reducible refine LeO.bind ?_ (fun _ => ?_))
      | exact ih0 _ _ _ _ _
      | exact ih1 _ _ _ _ _ _ _ _ _ _ _ _ _ _
      | exact ih2 _ _ _ _ _ _ _ _
      | exact ih3 _ _ _
      | exact ih4 _
      | exact LeO.none _
      | refine LeO.ite ?_ ?_
      | refine LeO.bind ?_ (fun _ => ?_)
theorem butterylaw13_FrameMore.mono : ∀ a0 a1 a2 k, LeO (butterylaw13_FrameMore.f k a0 a1 a2) (butterylaw13_FrameMore.f (k + 1) a0 a1 a2) := by
  intro a0 a1 a2 k
  obtain ⟨ih0, ih1, ih2, ih3, ih4⟩ := butterylaw13_FrameMore.mono_l k
  unfold butterylaw13_FrameMore.f
  repeat' first
      | (with_reducible exact ih0 _ _ _ _ _)
      | (with_reducible exact ih1 _ _ _ _ _ _ _ _ _ _ _ _ _ _)
      | (with_reducible exact ih2 _ _ _ _ _ _ _ _)
      | (with_reducible exact ih3 _ _ _)
      | (with_reducible exact ih4 _)
      | (with_reducible exact LeO.refl _)
      | (with_reducible exact LeO.none _)
      | (with_reducible refine LeO.ite ?_ ?_)
      | (with_reducible refine LeO.bind ?_ (fun _ => ?_))
      | exact ih0 _ _ _ _ _
      | exact ih1 _ _ _ _ _ _ _ _ _ _ _ _ _ _
      | exact ih2 _ _ _ _ _ _ _ _
      | exact ih3 _ _ _
      | exact ih4 _
      | exact LeO.none _
      | refine LeO.ite ?_ ?_
      | refine LeO.bind ?_ (fun _ => ?_)
set_option maxHeartbeats 8000000 in
set_option maxRecDepth 100000 in
theorem butterylaw13_FrameMore.calls (k : Nat) (A0 : Option Addr) (c0 : Nat) (l0 : List Int) (A1 : Option Addr) (c1 : Nat) (l1 : List Int) (a2 : Int) (r : Bool) (w : World) (hr0 : Kd.C (Kd.int .u8) w A0 l0.length l0) (hc0 : l0.length ≤ c0) (hr1 : Kd.C (Kd.int .u8) w A1 l1.length l1) (hc1 : l1.length ≤ c1) (h : butterylaw13_FrameMore.f k l0 l1 a2 = some r) :
    Calls Try.prog 7 #[.slice A0 l0.length c0, .slice A1 l1.length c1, .int .i64 a2] w fun e w' => e = .returned (.bool r) ∧ Below w.heap.size w w' := by
  have HR0 := Aside0.mk hr0
  have HC0 := Aside0.mk hc0
  clear hr0 hc0
  have HR1 := Aside0.mk hr1
  have HC1 := Aside0.mk hc1
  clear hr1 hc1
  have HB := Aside0.mk (Below.refl w.heap.size w)
  have H : ((butterylaw13_awake.f).bind fun t159 => (if (l0.length : Int) > 5000 then (butterylaw13_FrameMore.j0 k l0 l1 a2 t159 true) else (butterylaw13_FrameMore.j0 k l0 l1 a2 t159 (decide ((l1.length : Int) > 1000))))) = some r := h
  clear h
  replace H := Option.bind_eq_some_iff.mp H
  obtain ⟨t159, A40, H⟩ := H
  replace H : (if (l0.length : Int) > 5000 then (butterylaw13_FrameMore.j0 k l0 l1 a2 t159 true) else (butterylaw13_FrameMore.j0 k l0 l1 a2 t159 (decide ((l1.length : Int) > 1000)))) = some r := H
  have A4 := Aside0.mk A40
  clear A40
  have HC5 := Aside0.mk H
  clear H
  go_enter Try.func7, Try.ntmps7
  go_upto_region 2 with (first | ((with_reducible refine gate_callee (f := 10) rfl ?_); refine goesL_ (some 24) rfl rfl Try.func10 (by kernel_rfl) rfl #[] rfl (by (try simp only [List.map_toArray, List.map_cons, List.map_nil]); first | done | rfl | (simp only [List.length_drop, List.length_take]; rfl)) ?_; (with_reducible refine (butterylaw13_awake.calls  t159 _ A4.out).mono ?_); rintro e w6 ⟨rfl, hb⟩; refine ⟨_, rfl, ?_⟩; have n0_ := Aside0.mk (below_step (by repeat (first | (with_reducible first | exact HB.out | apply below_alloc | apply pw_below_drewN | apply below_drew1) | exact HB.out)) hb); clear HB; have HB := n0_; clear n0_; (try clear hb); (try clear hb2); (try clear hk); (try clear hi)))
  (try simp only [Act.put, List.setIfInBounds_toArray, List.set_cons_zero, List.set_cons_succ])
  go_cut [32] (fun v32 wc => ∃ (kq : Nat) (x32_4 : Bool), v32 = .bool x32_4 ∧ Aside0 (butterylaw13_FrameMore.j0 kq l0 l1 a2 t159 x32_4 = some r) ∧ Aside0 (kq ≤ k) ∧ Aside0 (Below w.heap.size w wc))
  case first =>
    have H := HC5.out
    clear HC5
    by_cases c7 : (l0.length : Int) > 5000
    · rw [if_pos c7] at H
      have c7b0 : decide (5000 < (l0.length : Int)) = true := decide_eq_true c7
      have c7b1 : decide (5000 < l0.length) = true := decide_eq_true (by omega)
      clear c7
      (first | rw [c7b0] | (simp only [i64_w, i32_w]; rw [c7b0]) | skip)
      have H' := Aside0.mk H
      clear H
      go_wp2
      go_meet
      case rel => exact ⟨_, (true), (by first | rfl | (simp; done) | (simp [*]; done)), H', ⟨by first | omega | exact Nat.le_refl _⟩, ⟨by repeat (first | (with_reducible first | exact HB.out | apply below_alloc | apply pw_below_drewN | apply below_drew1) | exact HB.out)⟩⟩
    · rw [if_neg c7] at H
      have c7b0 : decide (5000 < (l0.length : Int)) = false := decide_eq_false c7
      have c7b1 : decide (5000 < l0.length) = false := decide_eq_false (by omega)
      clear c7
      (first | rw [c7b0] | (simp only [i64_w, i32_w]; rw [c7b0]) | skip)
      have H' := Aside0.mk H
      clear H
      go_wp2
      go_meet
      case rel => exact ⟨_, (decide ((l1.length : Int) > 1000)), (by first | rfl | (simp; done) | (simp [*]; done)), H', ⟨by first | omega | exact Nat.le_refl _⟩, ⟨by repeat (first | (with_reducible first | exact HB.out | apply below_alloc | apply pw_below_drewN | apply below_drew1) | exact HB.out)⟩⟩
  case rest =>
    clear HC5
    try clear c1
    try clear p2
    try clear c7
    try clear c7b0
    try clear c7b1
    obtain ⟨kq, x32_4, rfl, HA, HJ4, HB⟩ := hcut
    cases kq with
    | zero => exact absurd HA.out (by simp [butterylaw13_FrameMore.j0])
    | succ kj4 =>
      have H := HA.out
      clear HA
      simp only [butterylaw13_FrameMore.j0] at H
      by_cases c8 : x32_4 = true
      · subst c8
        have H1 : (some t159) = some r := by rw [if_pos rfl] at H; exact H
        clear H
        have H := H1
        clear H1
        obtain rfl := Option.some.inj H
        go_wp2
        go_ret
        exact ⟨by first | rfl | (simp [errW_none, errW_some] <;> rfl) | (simp [*, errW_none, errW_some] <;> rfl), by repeat (first | (with_reducible first | exact HB.out | apply below_alloc | apply pw_below_drewN | apply below_drew1) | exact HB.out)⟩
      · replace c8 := Bool.eq_false_iff.mpr c8
        subst c8
        have H1 : (if ([] : List Int).length + l0.length < 140737488355328 then ((some (([] : List Int) ++ l0 : List Int)).bind fun y160 => (if y160.length + l1.length < 140737488355328 then ((some (y160 ++ l1 : List Int)).bind fun y163 => ((frame_Line.f l0).bind fun bt166 => ((frame_Line.f y163).bind fun bt169 => ((frame_Body.f l0 a2).bind fun bt172 => ((frame_Body.f y163 a2).bind fun bt177 => (if bt166.2.2 = 4 then (if bt166.2.1 = (l0.length : Int) then (if bt166.2.1 = 0 then (butterylaw13_FrameMore.j1 kj4 t159 bt166.1 bt166.2.1 bt166.2.2 bt169.1 bt169.2.1 bt169.2.2 bt172.1 bt172.2.1 bt172.2.2 bt177.1 bt177.2.1 bt177.2.2 true) else (if 0 ≤ (wrap64 (bt166.2.1 - 1)) then (if (wrap64 (bt166.2.1 - 1)) < (l0.length : Int) then (butterylaw13_FrameMore.j1 kj4 t159 bt166.1 bt166.2.1 bt166.2.2 bt169.1 bt169.2.1 bt169.2.2 bt172.1 bt172.2.1 bt172.2.2 bt177.1 bt177.2.1 bt177.2.2 ((rd l0 (wrap64 (bt166.2.1 - 1))) != 10)) else (none)) else (none))) else (butterylaw13_FrameMore.j1 kj4 t159 bt166.1 bt166.2.1 bt166.2.2 bt169.1 bt169.2.1 bt169.2.2 bt172.1 bt172.2.1 bt172.2.2 bt177.1 bt177.2.1 bt177.2.2 false)) else (butterylaw13_FrameMore.j1 kj4 t159 bt166.1 bt166.2.1 bt166.2.2 bt169.1 bt169.2.1 bt169.2.2 bt172.1 bt172.2.1 bt172.2.2 bt177.1 bt177.2.1 bt177.2.2 false))))))) else (none))) else (none)) = some r := by rw [if_neg (show ¬ (false = true) by decide)] at H; exact H
        clear H
        have H := H1
        clear H1
        by_cases c9 : ([] : List Int).length + l0.length < 140737488355328
        · rw [if_pos c9] at H
          have LMc9 := Aside0.mk c9
          clear c9
          obtain ⟨y160, hy160⟩ : ∃ y_ : List Int, y_ = (([] : List Int) ++ l0) := ⟨_, rfl⟩
          replace H : (if y160.length + l1.length < 140737488355328 then ((some (y160 ++ l1 : List Int)).bind fun y163 => ((frame_Line.f l0).bind fun bt166 => ((frame_Line.f y163).bind fun bt169 => ((frame_Body.f l0 a2).bind fun bt172 => ((frame_Body.f y163 a2).bind fun bt177 => (if bt166.2.2 = 4 then (if bt166.2.1 = (l0.length : Int) then (if bt166.2.1 = 0 then (butterylaw13_FrameMore.j1 kj4 t159 bt166.1 bt166.2.1 bt166.2.2 bt169.1 bt169.2.1 bt169.2.2 bt172.1 bt172.2.1 bt172.2.2 bt177.1 bt177.2.1 bt177.2.2 true) else (if 0 ≤ (wrap64 (bt166.2.1 - 1)) then (if (wrap64 (bt166.2.1 - 1)) < (l0.length : Int) then (butterylaw13_FrameMore.j1 kj4 t159 bt166.1 bt166.2.1 bt166.2.2 bt169.1 bt169.2.1 bt169.2.2 bt172.1 bt172.2.1 bt172.2.2 bt177.1 bt177.2.1 bt177.2.2 ((rd l0 (wrap64 (bt166.2.1 - 1))) != 10)) else (none)) else (none))) else (butterylaw13_FrameMore.j1 kj4 t159 bt166.1 bt166.2.1 bt166.2.2 bt169.1 bt169.2.1 bt169.2.2 bt172.1 bt172.2.1 bt172.2.2 bt177.1 bt177.2.1 bt177.2.2 false)) else (butterylaw13_FrameMore.j1 kj4 t159 bt166.1 bt166.2.1 bt166.2.2 bt169.1 bt169.2.1 bt169.2.2 bt172.1 bt172.2.1 bt172.2.2 bt177.1 bt177.2.1 bt177.2.2 false))))))) else (none)) = some r := by first | (rw [hy160]; with_reducible exact H) | (have H2_ := (Option.bind_some _ _).symm.trans H; rw [hy160]; with_reducible exact H2_) | (have H2_ := (Option.bind_some _ _).symm.trans H; with_reducible exact H2_) | with_reducible exact H | (rw [hy160]; exact H) | exact H
          have Ny160 := Aside0.mk hy160
          clear hy160
          by_cases c10 : y160.length + l1.length < 140737488355328
          · rw [if_pos c10] at H
            have LMc10 := Aside0.mk c10
            clear c10
            obtain ⟨y163, hy163⟩ : ∃ y_ : List Int, y_ = (y160 ++ l1) := ⟨_, rfl⟩
            replace H : ((frame_Line.f l0).bind fun bt166 => ((frame_Line.f y163).bind fun bt169 => ((frame_Body.f l0 a2).bind fun bt172 => ((frame_Body.f y163 a2).bind fun bt177 => (if bt166.2.2 = 4 then (if bt166.2.1 = (l0.length : Int) then (if bt166.2.1 = 0 then (butterylaw13_FrameMore.j1 kj4 t159 bt166.1 bt166.2.1 bt166.2.2 bt169.1 bt169.2.1 bt169.2.2 bt172.1 bt172.2.1 bt172.2.2 bt177.1 bt177.2.1 bt177.2.2 true) else (if 0 ≤ (wrap64 (bt166.2.1 - 1)) then (if (wrap64 (bt166.2.1 - 1)) < (l0.length : Int) then (butterylaw13_FrameMore.j1 kj4 t159 bt166.1 bt166.2.1 bt166.2.2 bt169.1 bt169.2.1 bt169.2.2 bt172.1 bt172.2.1 bt172.2.2 bt177.1 bt177.2.1 bt177.2.2 ((rd l0 (wrap64 (bt166.2.1 - 1))) != 10)) else (none)) else (none))) else (butterylaw13_FrameMore.j1 kj4 t159 bt166.1 bt166.2.1 bt166.2.2 bt169.1 bt169.2.1 bt169.2.2 bt172.1 bt172.2.1 bt172.2.2 bt177.1 bt177.2.1 bt177.2.2 false)) else (butterylaw13_FrameMore.j1 kj4 t159 bt166.1 bt166.2.1 bt166.2.2 bt169.1 bt169.2.1 bt169.2.2 bt172.1 bt172.2.1 bt172.2.2 bt177.1 bt177.2.1 bt177.2.2 false)))))) = some r := by first | (rw [hy163]; with_reducible exact H) | (have H2_ := (Option.bind_some _ _).symm.trans H; rw [hy163]; with_reducible exact H2_) | (have H2_ := (Option.bind_some _ _).symm.trans H; with_reducible exact H2_) | with_reducible exact H | (rw [hy163]; exact H) | exact H
            have Ny163 := Aside0.mk hy163
            clear hy163
            replace H := Option.bind_eq_some_iff.mp H
            obtain ⟨⟨t166, t167, t168⟩, A110, H⟩ := H
            replace H : ((frame_Line.f y163).bind fun bt169 => ((frame_Body.f l0 a2).bind fun bt172 => ((frame_Body.f y163 a2).bind fun bt177 => (if t168 = 4 then (if t167 = (l0.length : Int) then (if t167 = 0 then (butterylaw13_FrameMore.j1 kj4 t159 t166 t167 t168 bt169.1 bt169.2.1 bt169.2.2 bt172.1 bt172.2.1 bt172.2.2 bt177.1 bt177.2.1 bt177.2.2 true) else (if 0 ≤ (wrap64 (t167 - 1)) then (if (wrap64 (t167 - 1)) < (l0.length : Int) then (butterylaw13_FrameMore.j1 kj4 t159 t166 t167 t168 bt169.1 bt169.2.1 bt169.2.2 bt172.1 bt172.2.1 bt172.2.2 bt177.1 bt177.2.1 bt177.2.2 ((rd l0 (wrap64 (t167 - 1))) != 10)) else (none)) else (none))) else (butterylaw13_FrameMore.j1 kj4 t159 t166 t167 t168 bt169.1 bt169.2.1 bt169.2.2 bt172.1 bt172.2.1 bt172.2.2 bt177.1 bt177.2.1 bt177.2.2 false)) else (butterylaw13_FrameMore.j1 kj4 t159 t166 t167 t168 bt169.1 bt169.2.1 bt169.2.2 bt172.1 bt172.2.1 bt172.2.2 bt177.1 bt177.2.1 bt177.2.2 false))))) = some r := H
            have A11 := Aside0.mk A110
            clear A110
            replace H := Option.bind_eq_some_iff.mp H
            obtain ⟨⟨t169, t170, t171⟩, A120, H⟩ := H
            replace H : ((frame_Body.f l0 a2).bind fun bt172 => ((frame_Body.f y163 a2).bind fun bt177 => (if t168 = 4 then (if t167 = (l0.length : Int) then (if t167 = 0 then (butterylaw13_FrameMore.j1 kj4 t159 t166 t167 t168 t169 t170 t171 bt172.1 bt172.2.1 bt172.2.2 bt177.1 bt177.2.1 bt177.2.2 true) else (if 0 ≤ (wrap64 (t167 - 1)) then (if (wrap64 (t167 - 1)) < (l0.length : Int) then (butterylaw13_FrameMore.j1 kj4 t159 t166 t167 t168 t169 t170 t171 bt172.1 bt172.2.1 bt172.2.2 bt177.1 bt177.2.1 bt177.2.2 ((rd l0 (wrap64 (t167 - 1))) != 10)) else (none)) else (none))) else (butterylaw13_FrameMore.j1 kj4 t159 t166 t167 t168 t169 t170 t171 bt172.1 bt172.2.1 bt172.2.2 bt177.1 bt177.2.1 bt177.2.2 false)) else (butterylaw13_FrameMore.j1 kj4 t159 t166 t167 t168 t169 t170 t171 bt172.1 bt172.2.1 bt172.2.2 bt177.1 bt177.2.1 bt177.2.2 false)))) = some r := H
            have A12 := Aside0.mk A120
            clear A120
            replace H := Option.bind_eq_some_iff.mp H
            obtain ⟨⟨t172, t173, t174⟩, A130, H⟩ := H
            replace H : ((frame_Body.f y163 a2).bind fun bt177 => (if t168 = 4 then (if t167 = (l0.length : Int) then (if t167 = 0 then (butterylaw13_FrameMore.j1 kj4 t159 t166 t167 t168 t169 t170 t171 t172 t173 t174 bt177.1 bt177.2.1 bt177.2.2 true) else (if 0 ≤ (wrap64 (t167 - 1)) then (if (wrap64 (t167 - 1)) < (l0.length : Int) then (butterylaw13_FrameMore.j1 kj4 t159 t166 t167 t168 t169 t170 t171 t172 t173 t174 bt177.1 bt177.2.1 bt177.2.2 ((rd l0 (wrap64 (t167 - 1))) != 10)) else (none)) else (none))) else (butterylaw13_FrameMore.j1 kj4 t159 t166 t167 t168 t169 t170 t171 t172 t173 t174 bt177.1 bt177.2.1 bt177.2.2 false)) else (butterylaw13_FrameMore.j1 kj4 t159 t166 t167 t168 t169 t170 t171 t172 t173 t174 bt177.1 bt177.2.1 bt177.2.2 false))) = some r := H
            have A13 := Aside0.mk A130
            clear A130
            replace H := Option.bind_eq_some_iff.mp H
            obtain ⟨⟨t177, t178, t179⟩, A140, H⟩ := H
            replace H : (if t168 = 4 then (if t167 = (l0.length : Int) then (if t167 = 0 then (butterylaw13_FrameMore.j1 kj4 t159 t166 t167 t168 t169 t170 t171 t172 t173 t174 t177 t178 t179 true) else (if 0 ≤ (wrap64 (t167 - 1)) then (if (wrap64 (t167 - 1)) < (l0.length : Int) then (butterylaw13_FrameMore.j1 kj4 t159 t166 t167 t168 t169 t170 t171 t172 t173 t174 t177 t178 t179 ((rd l0 (wrap64 (t167 - 1))) != 10)) else (none)) else (none))) else (butterylaw13_FrameMore.j1 kj4 t159 t166 t167 t168 t169 t170 t171 t172 t173 t174 t177 t178 t179 false)) else (butterylaw13_FrameMore.j1 kj4 t159 t166 t167 t168 t169 t170 t171 t172 t173 t174 t177 t178 t179 false)) = some r := H
            have A14 := Aside0.mk A140
            clear A140
            have HC15 := Aside0.mk H
            clear H
            go_upto_region 9 with (first | ((with_reducible refine gate_builtin (b := .append) (xs := #[.const (.slice none 0 0), .tmp 34]) rfl ?_); (try (refine gate_guard (by rfl) ?_; dsimp only)); at_builtin; refine Kd.R_append_rows (Kd.int .u8) (w0 := w) w.heap.size rfl (.const (.slice none 0 0)) (.tmp 34) 22 5 (.int .u8 0) 1 rfl Try.underlying22 info5 rfl (by decide) (by omega) (.slice none 0 0) ([] : List Int) l0 _ _ _ (fun _ => True) (fun _ => False) rfl rfl ?aO ?aR (fun _ _ h => h) (fun _ h => h.elim) ?aF ?aB ?aS ?aL ?_; (case aR => repeat (first | exact (Kd.C_below HR0.out HB.out) | (with_reducible refine Kd.C_alloc ?_ _) | (with_reducible refine Kd.C_drewN ?_ _) | (with_reducible refine Kd.C_drew ?_))); (case aB => exact (by repeat (first | (with_reducible first | exact HB.out | apply below_alloc | apply pw_below_drewN | apply below_drew1) | exact HB.out))); (case aF => exact (fun _ _ => trivial)); (case aO => exact ((Kd.R_nil _ _ _ _ (fun _ => True)))); (case aS => exact (below_size (by repeat (first | (with_reducible first | exact HB.out | apply below_alloc | apply pw_below_drewN | apply below_drew1) | exact HB.out)))); (case aL => have := LMc9.out; omega); intro v161 w16 ho hb hg hat; rw [← Ny160.out] at ho; have n0_ := Aside0.mk (hb); have n1_ := Aside0.mk (ho); clear HB; have HB := n0_; have HO162 := n1_; clear n0_ n1_; clear ho hb hg hat) | ((with_reducible refine gate_builtin (b := .append) (xs := #[.tmp 35, .tmp 36]) rfl ?_); (try (refine gate_guard (by rfl) ?_; dsimp only)); at_builtin; refine Kd.R_append_rows (Kd.int .u8) (w0 := w) w.heap.size rfl (.tmp 35) (.tmp 36) 22 5 (.int .u8 0) 1 rfl Try.underlying22 info5 rfl (by decide) (by omega) v161 y160 l1 _ _ _ (fun _ => True) (fun _ => False) rfl rfl ?aO ?aR (fun _ _ h => h) (fun _ h => h.elim) ?aF ?aB ?aS ?aL ?_; (case aR => repeat (first | exact (Kd.C_below HR1.out HB.out) | (with_reducible refine Kd.C_alloc ?_ _) | (with_reducible refine Kd.C_drewN ?_ _) | (with_reducible refine Kd.C_drew ?_))); (case aB => exact (by repeat (first | (with_reducible first | exact HB.out | apply below_alloc | apply pw_below_drewN | apply below_drew1) | exact HB.out))); (case aF => exact (fun _ _ => trivial)); (case aO => exact (by (with_reducible repeat (first | apply Kd.R_alloc | apply Kd.R_drewN | apply Kd.R_drew)); exact HO162.out)); (case aS => exact (below_size (by repeat (first | (with_reducible first | exact HB.out | apply below_alloc | apply pw_below_drewN | apply below_drew1) | exact HB.out)))); (case aL => have := LMc10.out; omega); intro v164 w17 ho hb hg hat; rw [← Ny163.out] at ho; have n0_ := Aside0.mk (hb); have n1_ := Aside0.mk (ho); clear HB; clear HO162; have HB := n0_; have HO165 := n1_; clear n0_ n1_; clear ho hb hg hat) | ((with_reducible refine gate_callee (f := 11) rfl ?_); refine goesL_ (some 40) rfl rfl Try.func11 (by kernel_rfl) rfl #[.slice A0 l0.length c0] rfl (by (try simp only [List.map_toArray, List.map_cons, List.map_nil]); first | done | rfl | (simp only [List.length_drop, List.length_take]; rfl)) ?_; (with_reducible refine (frame_Line.calls _ _ l0 t166 t167 t168 _ ?side1 ?side2 A11.out).mono ?_); (case side1 => repeat (first | exact (Kd.C_below HR0.out HB.out) | (with_reducible refine Kd.C_alloc ?_ _) | (with_reducible refine Kd.C_drewN ?_ _) | (with_reducible refine Kd.C_drew ?_))); (case side2 => exact HC0.out); rintro e w18 ⟨rfl, hb⟩; refine ⟨_, rfl, ?_⟩; have n0_ := Aside0.mk (Kd.R_below (by (with_reducible repeat (first | apply Kd.R_alloc | apply Kd.R_drewN | apply Kd.R_drew)); exact HO165.out) hb); have n1_ := Aside0.mk (below_step (by repeat (first | (with_reducible first | exact HB.out | apply below_alloc | apply pw_below_drewN | apply below_drew1) | exact HB.out)) hb); clear HO165; clear HB; have HO165 := n0_; have HB := n1_; clear n0_ n1_; (try clear hb); (try clear hb2); (try clear hk); (try clear hi); obtain ⟨Ao19, co19, eo19⟩ := Kd.R_slice HO165.out; subst eo19) | ((with_reducible refine gate_callee (f := 11) rfl ?_); refine goesL_ (some 46) rfl rfl Try.func11 (by kernel_rfl) rfl #[.slice Ao19 y163.length co19] rfl (by (try simp only [List.map_toArray, List.map_cons, List.map_nil]); first | done | rfl | (simp only [List.length_drop, List.length_take]; rfl)) ?_; (with_reducible refine (frame_Line.calls _ _ y163 t169 t170 t171 _ ?side1 ?side2 A12.out).mono ?_); (case side1 => repeat (first | exact (Kd.R_reads' HO165.out).2.2 | (with_reducible refine Kd.C_alloc ?_ _) | (with_reducible refine Kd.C_drewN ?_ _) | (with_reducible refine Kd.C_drew ?_))); (case side2 => exact (Kd.R_reads' HO165.out).2.1); rintro e w20 ⟨rfl, hb⟩; refine ⟨_, rfl, ?_⟩; have n0_ := Aside0.mk (Kd.R_below (by (with_reducible repeat (first | apply Kd.R_alloc | apply Kd.R_drewN | apply Kd.R_drew)); exact HO165.out) hb); have n1_ := Aside0.mk (below_step (by repeat (first | (with_reducible first | exact HB.out | apply below_alloc | apply pw_below_drewN | apply below_drew1) | exact HB.out)) hb); clear HO165; clear HB; have HO165 := n0_; have HB := n1_; clear n0_ n1_; (try clear hb); (try clear hb2); (try clear hk); (try clear hi)) | ((with_reducible refine gate_callee (f := 13) rfl ?_); refine goesL_ (some 53) rfl rfl Try.func13 (by kernel_rfl) rfl #[.slice A0 l0.length c0, .int .i64 a2] rfl (by (try simp only [List.map_toArray, List.map_cons, List.map_nil]); first | done | rfl | (simp only [List.length_drop, List.length_take]; rfl)) ?_; (with_reducible refine (frame_Body.calls _ _ l0 a2 t172 t173 t174 _ ?side1 ?side2 A13.out).mono ?_); (case side1 => repeat (first | exact (Kd.C_below HR0.out HB.out) | (with_reducible refine Kd.C_alloc ?_ _) | (with_reducible refine Kd.C_drewN ?_ _) | (with_reducible refine Kd.C_drew ?_))); (case side2 => exact HC0.out); rintro e w21 ⟨v175, rfl, ho0, hb⟩; refine ⟨_, rfl, ?_⟩; have n0_ := Aside0.mk (Kd.R_elder' (by (with_reducible repeat (first | apply Kd.R_alloc | apply Kd.R_drewN | apply Kd.R_drew)); exact HO165.out) (Kd.R_base ho0) hb); have n1_ := Aside0.mk (Kd.R_lower (Kd.R_new' ho0 (Kd.R_lt (by (with_reducible repeat (first | apply Kd.R_alloc | apply Kd.R_drewN | apply Kd.R_drew)); exact HO165.out))) (below_size (by repeat (first | (with_reducible first | exact HB.out | apply below_alloc | apply pw_below_drewN | apply below_drew1) | exact HB.out)))); have n2_ := Aside0.mk (below_step (by repeat (first | (with_reducible first | exact HB.out | apply below_alloc | apply pw_below_drewN | apply below_drew1) | exact HB.out)) hb); clear HO165; clear HB; have HO165 := n0_; have HO176 := n1_; have HB := n2_; clear n0_ n1_ n2_; (try clear hb); (try clear hb2); (try clear hk); (try clear hi); (try clear ho0)) | ((with_reducible refine gate_callee (f := 13) rfl ?_); refine goesL_ (some 60) rfl rfl Try.func13 (by kernel_rfl) rfl #[.slice Ao19 y163.length co19, .int .i64 a2] rfl (by (try simp only [List.map_toArray, List.map_cons, List.map_nil]); first | done | rfl | (simp only [List.length_drop, List.length_take]; rfl)) ?_; (with_reducible refine (frame_Body.calls _ _ y163 a2 t177 t178 t179 _ ?side1 ?side2 A14.out).mono ?_); (case side1 => repeat (first | exact (Kd.R_reads' HO165.out).2.2 | (with_reducible refine Kd.C_alloc ?_ _) | (with_reducible refine Kd.C_drewN ?_ _) | (with_reducible refine Kd.C_drew ?_))); (case side2 => exact (Kd.R_reads' HO165.out).2.1); rintro e w22 ⟨v180, rfl, ho0, hb⟩; refine ⟨_, rfl, ?_⟩; have n0_ := Aside0.mk (Kd.R_elder' (by (with_reducible repeat (first | apply Kd.R_alloc | apply Kd.R_drewN | apply Kd.R_drew)); exact HO165.out) (Kd.R_base ho0) hb); have n1_ := Aside0.mk (Kd.R_elder' (by (with_reducible repeat (first | apply Kd.R_alloc | apply Kd.R_drewN | apply Kd.R_drew)); exact HO176.out) (Kd.R_base ho0) hb); have n2_ := Aside0.mk (Kd.R_lower (Kd.R_new' (Kd.R_new' ho0 (Kd.R_lt (by (with_reducible repeat (first | apply Kd.R_alloc | apply Kd.R_drewN | apply Kd.R_drew)); exact HO165.out))) (Kd.R_lt (by (with_reducible repeat (first | apply Kd.R_alloc | apply Kd.R_drewN | apply Kd.R_drew)); exact HO176.out))) (below_size (by repeat (first | (with_reducible first | exact HB.out | apply below_alloc | apply pw_below_drewN | apply below_drew1) | exact HB.out)))); have n3_ := Aside0.mk (below_step (by repeat (first | (with_reducible first | exact HB.out | apply below_alloc | apply pw_below_drewN | apply below_drew1) | exact HB.out)) hb); clear HO165; clear HO176; clear HB; have HO165 := n0_; have HO176 := n1_; have HO181 := n2_; have HB := n3_; clear n0_ n1_ n2_ n3_; (try clear hb); (try clear hb2); (try clear hk); (try clear hi); (try clear ho0)))
            (try simp only [Act.put, List.setIfInBounds_toArray, List.set_cons_zero, List.set_cons_succ])
            go_cut [21] (fun v21 wc => ∃ (kq : Nat) (x21_14 : Bool), v21 = .bool x21_14 ∧ Aside0 (butterylaw13_FrameMore.j1 kq t159 t166 t167 t168 t169 t170 t171 t172 t173 t174 t177 t178 t179 x21_14 = some r) ∧ Aside0 (kq ≤ kj4) ∧ Aside0 (Kd.R (Kd.int .u8) 5 wc w.heap.size (fun k_ => some k_ ≠ (v180 : Value).ownBlock) v175 t172) ∧ Aside0 (Kd.R (Kd.int .u8) 5 wc w.heap.size (fun k_ => some k_ ≠ (v175 : Value).ownBlock) v180 t177) ∧ Aside0 (Below w.heap.size w wc))
            case first =>
              have H := HC15.out
              clear HC15
              by_cases c23 : t168 = 4
              · rw [if_pos c23] at H
                have c23b0 : (t168 == 4) = true := beq_iff_eq.mpr c23
                have c23b1 : (t168 != 4) = false := bne_eq_false_iff_eq.mpr c23
                clear c23
                (first | rw [c23b0] | (simp only [i64_w, i32_w]; rw [c23b0]) | skip)
                by_cases c24 : t167 = (l0.length : Int)
                · rw [if_pos c24] at H
                  have c24b0 : (t167 == (l0.length : Int)) = true := beq_iff_eq.mpr c24
                  have c24b1 : (t167 != (l0.length : Int)) = false := bne_eq_false_iff_eq.mpr c24
                  clear c24
                  by_cases c25 : t167 = 0
                  · rw [if_pos c25] at H
                    have c25b0 : (t167 == 0) = true := beq_iff_eq.mpr c25
                    have c25b1 : (t167 != 0) = false := bne_eq_false_iff_eq.mpr c25
                    clear c25
                    have H' := Aside0.mk H
                    clear H
                    go_wp2
                    go_meet
                    case rel => exact ⟨_, (true), (by first | rfl | (simp; done) | (simp [*]; done)), H', ⟨by have := HJ4.out; first | omega | exact Nat.le_refl _⟩, ⟨by (with_reducible repeat (first | apply Kd.R_alloc | apply Kd.R_drewN | apply Kd.R_drew)); exact Kd.R_mono HO176.out (fun _ hk => hk.2)⟩, ⟨by (with_reducible repeat (first | apply Kd.R_alloc | apply Kd.R_drewN | apply Kd.R_drew)); exact Kd.R_mono HO181.out (fun _ hk => hk.2)⟩, ⟨by repeat (first | (with_reducible first | exact HB.out | apply below_alloc | apply pw_below_drewN | apply below_drew1) | exact HB.out)⟩⟩
                  · rw [if_neg c25] at H
                    have c25b0 : (t167 == 0) = false := beq_eq_false_iff_ne.mpr c25
                    have c25b1 : (t167 != 0) = true := bne_iff_ne.mpr c25
                    obtain ⟨ji26, hji26⟩ : ∃ j_ : Int, (wrap64 (t167 - 1)) = j_ := ⟨_, rfl⟩
                    replace H : (if 0 ≤ (ji26) then (if (ji26) < (l0.length : Int) then (butterylaw13_FrameMore.j1 kj4 t159 t166 t167 t168 t169 t170 t171 t172 t173 t174 t177 t178 t179 ((rd l0 (ji26)) != 10)) else (none)) else (none)) = some r := by first | (rw [hji26] at H; exact H) | (simp only [hji26] at H ⊢; exact H)
                    have hji26w : (IntKind.i64.wrap (t167 - 1)) = ji26 := (i64_w _).trans hji26
                    by_cases c27 : 0 ≤ (ji26)
                    · rw [if_pos c27] at H
                      have c27b0 : decide (0 ≤ (ji26)) = true := decide_eq_true c27
                      clear c27
                      by_cases c28 : (ji26) < (l0.length : Int)
                      · rw [if_pos c28] at H
                        have c28b0 : decide ((ji26) < (l0.length : Int)) = true := decide_eq_true c28
                        clear c28
                        have H' := Aside0.mk H
                        clear H
                        have p182 : 0 ≤ ((ji26) : Int) := of_decide_eq_true (by first | (with_reducible assumption) | assumption)
                        have q182 : (ji26) < (l0.length : Int) := of_decide_eq_true (by first | (with_reducible assumption) | assumption)
                        obtain ⟨ad182, e182, hx182_0⟩ := Kd.at_int HR0.out (ji26) p182 q182
                        cases e182
                        replace hx182_0 := (HB.out.cell (World.block_lt_of_cell? w _ hx182_0)).trans hx182_0
                        replace p182 := eq_true p182
                        replace q182 := eq_true q182
                        go_wp2
                        go_meet
                        case rel => exact ⟨_, (((rd l0 (ji26)) != 10)), (by first | rfl | (simp; done) | (simp only [← hji26] <;> (first | rfl | simp)) | (simp [*]; done)), H', ⟨by have := HJ4.out; first | omega | exact Nat.le_refl _⟩, ⟨by (with_reducible repeat (first | apply Kd.R_alloc | apply Kd.R_drewN | apply Kd.R_drew)); exact Kd.R_mono HO176.out (fun _ hk => hk.2)⟩, ⟨by (with_reducible repeat (first | apply Kd.R_alloc | apply Kd.R_drewN | apply Kd.R_drew)); exact Kd.R_mono HO181.out (fun _ hk => hk.2)⟩, ⟨by repeat (first | (with_reducible first | exact HB.out | apply below_alloc | apply pw_below_drewN | apply below_drew1) | exact HB.out)⟩⟩
                      · rw [if_neg c28] at H
                        exact absurd H (by simp)
                    · rw [if_neg c27] at H
                      exact absurd H (by simp)
                · rw [if_neg c24] at H
                  have c24b0 : (t167 == (l0.length : Int)) = false := beq_eq_false_iff_ne.mpr c24
                  have c24b1 : (t167 != (l0.length : Int)) = true := bne_iff_ne.mpr c24
                  have H' := Aside0.mk H
                  clear H
                  go_wp2
                  go_meet
                  case rel => exact ⟨_, (false), (by first | rfl | (simp; done) | (simp [*]; done)), H', ⟨by have := HJ4.out; first | omega | exact Nat.le_refl _⟩, ⟨by (with_reducible repeat (first | apply Kd.R_alloc | apply Kd.R_drewN | apply Kd.R_drew)); exact Kd.R_mono HO176.out (fun _ hk => hk.2)⟩, ⟨by (with_reducible repeat (first | apply Kd.R_alloc | apply Kd.R_drewN | apply Kd.R_drew)); exact Kd.R_mono HO181.out (fun _ hk => hk.2)⟩, ⟨by repeat (first | (with_reducible first | exact HB.out | apply below_alloc | apply pw_below_drewN | apply below_drew1) | exact HB.out)⟩⟩
              · rw [if_neg c23] at H
                have c23b0 : (t168 == 4) = false := beq_eq_false_iff_ne.mpr c23
                have c23b1 : (t168 != 4) = true := bne_iff_ne.mpr c23
                (first | rw [c23b0] | (simp only [i64_w, i32_w]; rw [c23b0]) | skip)
                have H' := Aside0.mk H
                clear H
                go_wp2
                go_meet
                case rel => exact ⟨_, (false), (by first | rfl | (simp; done) | (simp [*]; done)), H', ⟨by have := HJ4.out; first | omega | exact Nat.le_refl _⟩, ⟨by (with_reducible repeat (first | apply Kd.R_alloc | apply Kd.R_drewN | apply Kd.R_drew)); exact Kd.R_mono HO176.out (fun _ hk => hk.2)⟩, ⟨by (with_reducible repeat (first | apply Kd.R_alloc | apply Kd.R_drewN | apply Kd.R_drew)); exact Kd.R_mono HO181.out (fun _ hk => hk.2)⟩, ⟨by repeat (first | (with_reducible first | exact HB.out | apply below_alloc | apply pw_below_drewN | apply below_drew1) | exact HB.out)⟩⟩
            case rest =>
              clear HC15
              try clear c1
              try clear p1
              try clear q1
              try clear hx1
              try clear c2
              try clear p2
              try clear p6
              try clear c7
              try clear c7b0
              try clear c7b1
              try clear c8
              try clear c9
              try clear c10
              try clear c11
              try clear c13
              try clear p18
              try clear q18
              try clear hx18
              try clear c23
              try clear c23b0
              try clear c23b1
              try clear c24
              try clear c24b0
              try clear c24b1
              try clear c25
              try clear c25b0
              try clear c25b1
              try clear c27
              try clear c27b0
              try clear c28
              try clear c28b0
              try clear hx182_0
              try clear p182
              try clear p2
              try clear q182
              obtain ⟨kq, x21_14, rfl, HA, HJ14, HO_15, HO_18, HB⟩ := hcut
              cases kq with
              | zero => exact absurd HA.out (by simp [butterylaw13_FrameMore.j1])
              | succ kj14 =>
                have H := HA.out
                clear HA
                simp only [butterylaw13_FrameMore.j1] at H
                have HC29 := Aside0.mk H
                clear H
                go_upto_region 10 with (fail)
                go_cut [22] (fun v22 wc => ∃ (kq : Nat) (x22_28 : Bool), v22 = .bool x22_28 ∧ Aside0 (butterylaw13_FrameMore.j2 kq t159 t172 t173 t174 t177 t178 t179 x22_28 = some r) ∧ Aside0 (kq ≤ kj14) ∧ Aside0 (Kd.R (Kd.int .u8) 5 wc w.heap.size (fun k_ => some k_ ≠ (v180 : Value).ownBlock) v175 t172) ∧ Aside0 (Kd.R (Kd.int .u8) 5 wc w.heap.size (fun k_ => some k_ ≠ (v175 : Value).ownBlock) v180 t177) ∧ Aside0 (Below w.heap.size w wc))
                case first =>
                  have H := HC29.out
                  clear HC29
                  by_cases c30 : t168 = 3
                  · rw [if_pos c30] at H
                    have c30b0 : (t168 == 3) = true := beq_iff_eq.mpr c30
                    have c30b1 : (t168 != 3) = false := bne_eq_false_iff_eq.mpr c30
                    clear c30
                    (first | rw [c30b0] | (simp only [i64_w, i32_w]; rw [c30b0]) | skip)
                    have H' := Aside0.mk H
                    clear H
                    go_wp2
                    go_meet
                    case rel => exact ⟨_, (true), (by first | rfl | (simp; done) | (simp [*]; done)), H', ⟨by have := HJ4.out; have := HJ14.out; first | omega | exact Nat.le_refl _⟩, ⟨by (with_reducible repeat (first | apply Kd.R_alloc | apply Kd.R_drewN | apply Kd.R_drew)); exact HO_15.out⟩, ⟨by (with_reducible repeat (first | apply Kd.R_alloc | apply Kd.R_drewN | apply Kd.R_drew)); exact HO_18.out⟩, ⟨by repeat (first | (with_reducible first | exact HB.out | apply below_alloc | apply pw_below_drewN | apply below_drew1) | exact HB.out)⟩⟩
                  · rw [if_neg c30] at H
                    have c30b0 : (t168 == 3) = false := beq_eq_false_iff_ne.mpr c30
                    have c30b1 : (t168 != 3) = true := bne_iff_ne.mpr c30
                    (first | rw [c30b0] | (simp only [i64_w, i32_w]; rw [c30b0]) | skip)
                    by_cases c31 : x21_14 = true
                    · subst c31
                      have H1 : (if t171 = 4 then (butterylaw13_FrameMore.j2 kj14 t159 t172 t173 t174 t177 t178 t179 true) else (if t166.toList = t169.toList then (if t167 = t170 then (butterylaw13_FrameMore.j2 kj14 t159 t172 t173 t174 t177 t178 t179 (t168 == t171)) else (butterylaw13_FrameMore.j2 kj14 t159 t172 t173 t174 t177 t178 t179 false)) else (butterylaw13_FrameMore.j2 kj14 t159 t172 t173 t174 t177 t178 t179 false))) = some r := by rw [if_pos rfl] at H; exact H
                      clear H
                      have H := H1
                      clear H1
                      by_cases c32 : t171 = 4
                      · rw [if_pos c32] at H
                        have c32b0 : (t171 == 4) = true := beq_iff_eq.mpr c32
                        have c32b1 : (t171 != 4) = false := bne_eq_false_iff_eq.mpr c32
                        clear c32
                        have H' := Aside0.mk H
                        clear H
                        go_wp2
                        go_meet
                        case rel => exact ⟨_, (true), (by first | rfl | (simp; done) | (simp [*]; done)), H', ⟨by have := HJ4.out; have := HJ14.out; first | omega | exact Nat.le_refl _⟩, ⟨by (with_reducible repeat (first | apply Kd.R_alloc | apply Kd.R_drewN | apply Kd.R_drew)); exact HO_15.out⟩, ⟨by (with_reducible repeat (first | apply Kd.R_alloc | apply Kd.R_drewN | apply Kd.R_drew)); exact HO_18.out⟩, ⟨by repeat (first | (with_reducible first | exact HB.out | apply below_alloc | apply pw_below_drewN | apply below_drew1) | exact HB.out)⟩⟩
                      · rw [if_neg c32] at H
                        have c32b0 : (t171 == 4) = false := beq_eq_false_iff_ne.mpr c32
                        have c32b1 : (t171 != 4) = true := bne_iff_ne.mpr c32
                        by_cases c33 : t166.toList = t169.toList
                        · rw [if_pos c33] at H
                          have c33b0 : (t166.toList == t169.toList) = true := beq_iff_eq.mpr c33
                          have c33b1 : (t166.toList != t169.toList) = false := bne_eq_false_iff_eq.mpr c33
                          clear c33
                          by_cases c34 : t167 = t170
                          · rw [if_pos c34] at H
                            have c34b0 : (t167 == t170) = true := beq_iff_eq.mpr c34
                            have c34b1 : (t167 != t170) = false := bne_eq_false_iff_eq.mpr c34
                            clear c34
                            have H' := Aside0.mk H
                            clear H
                            go_wp2
                            go_meet
                            case rel => exact ⟨_, ((t168 == t171)), (by first | rfl | (simp; done) | (simp [*]; done)), H', ⟨by have := HJ4.out; have := HJ14.out; first | omega | exact Nat.le_refl _⟩, ⟨by (with_reducible repeat (first | apply Kd.R_alloc | apply Kd.R_drewN | apply Kd.R_drew)); exact HO_15.out⟩, ⟨by (with_reducible repeat (first | apply Kd.R_alloc | apply Kd.R_drewN | apply Kd.R_drew)); exact HO_18.out⟩, ⟨by repeat (first | (with_reducible first | exact HB.out | apply below_alloc | apply pw_below_drewN | apply below_drew1) | exact HB.out)⟩⟩
                          · rw [if_neg c34] at H
                            have c34b0 : (t167 == t170) = false := beq_eq_false_iff_ne.mpr c34
                            have c34b1 : (t167 != t170) = true := bne_iff_ne.mpr c34
                            have H' := Aside0.mk H
                            clear H
                            go_wp2
                            go_meet
                            case rel => exact ⟨_, (false), (by first | rfl | (simp; done) | (simp [*]; done)), H', ⟨by have := HJ4.out; have := HJ14.out; first | omega | exact Nat.le_refl _⟩, ⟨by (with_reducible repeat (first | apply Kd.R_alloc | apply Kd.R_drewN | apply Kd.R_drew)); exact HO_15.out⟩, ⟨by (with_reducible repeat (first | apply Kd.R_alloc | apply Kd.R_drewN | apply Kd.R_drew)); exact HO_18.out⟩, ⟨by repeat (first | (with_reducible first | exact HB.out | apply below_alloc | apply pw_below_drewN | apply below_drew1) | exact HB.out)⟩⟩
                        · rw [if_neg c33] at H
                          have c33b0 : (t166.toList == t169.toList) = false := beq_eq_false_iff_ne.mpr c33
                          have c33b1 : (t166.toList != t169.toList) = true := bne_iff_ne.mpr c33
                          have H' := Aside0.mk H
                          clear H
                          go_wp2
                          go_meet
                          case rel => exact ⟨_, (false), (by first | rfl | (simp; done) | (simp [*]; done)), H', ⟨by have := HJ4.out; have := HJ14.out; first | omega | exact Nat.le_refl _⟩, ⟨by (with_reducible repeat (first | apply Kd.R_alloc | apply Kd.R_drewN | apply Kd.R_drew)); exact HO_15.out⟩, ⟨by (with_reducible repeat (first | apply Kd.R_alloc | apply Kd.R_drewN | apply Kd.R_drew)); exact HO_18.out⟩, ⟨by repeat (first | (with_reducible first | exact HB.out | apply below_alloc | apply pw_below_drewN | apply below_drew1) | exact HB.out)⟩⟩
                    · replace c31 := Bool.eq_false_iff.mpr c31
                      subst c31
                      have H1 : (if t166.toList = t169.toList then (if t167 = t170 then (butterylaw13_FrameMore.j2 kj14 t159 t172 t173 t174 t177 t178 t179 (t168 == t171)) else (butterylaw13_FrameMore.j2 kj14 t159 t172 t173 t174 t177 t178 t179 false)) else (butterylaw13_FrameMore.j2 kj14 t159 t172 t173 t174 t177 t178 t179 false)) = some r := by rw [if_neg (show ¬ (false = true) by decide)] at H; exact H
                      clear H
                      have H := H1
                      clear H1
                      by_cases c35 : t166.toList = t169.toList
                      · rw [if_pos c35] at H
                        have c35b0 : (t166.toList == t169.toList) = true := beq_iff_eq.mpr c35
                        have c35b1 : (t166.toList != t169.toList) = false := bne_eq_false_iff_eq.mpr c35
                        clear c35
                        by_cases c36 : t167 = t170
                        · rw [if_pos c36] at H
                          have c36b0 : (t167 == t170) = true := beq_iff_eq.mpr c36
                          have c36b1 : (t167 != t170) = false := bne_eq_false_iff_eq.mpr c36
                          clear c36
                          have H' := Aside0.mk H
                          clear H
                          go_wp2
                          go_meet
                          case rel => exact ⟨_, ((t168 == t171)), (by first | rfl | (simp; done) | (simp [*]; done)), H', ⟨by have := HJ4.out; have := HJ14.out; first | omega | exact Nat.le_refl _⟩, ⟨by (with_reducible repeat (first | apply Kd.R_alloc | apply Kd.R_drewN | apply Kd.R_drew)); exact HO_15.out⟩, ⟨by (with_reducible repeat (first | apply Kd.R_alloc | apply Kd.R_drewN | apply Kd.R_drew)); exact HO_18.out⟩, ⟨by repeat (first | (with_reducible first | exact HB.out | apply below_alloc | apply pw_below_drewN | apply below_drew1) | exact HB.out)⟩⟩
                        · rw [if_neg c36] at H
                          have c36b0 : (t167 == t170) = false := beq_eq_false_iff_ne.mpr c36
                          have c36b1 : (t167 != t170) = true := bne_iff_ne.mpr c36
                          have H' := Aside0.mk H
                          clear H
                          go_wp2
                          go_meet
                          case rel => exact ⟨_, (false), (by first | rfl | (simp; done) | (simp [*]; done)), H', ⟨by have := HJ4.out; have := HJ14.out; first | omega | exact Nat.le_refl _⟩, ⟨by (with_reducible repeat (first | apply Kd.R_alloc | apply Kd.R_drewN | apply Kd.R_drew)); exact HO_15.out⟩, ⟨by (with_reducible repeat (first | apply Kd.R_alloc | apply Kd.R_drewN | apply Kd.R_drew)); exact HO_18.out⟩, ⟨by repeat (first | (with_reducible first | exact HB.out | apply below_alloc | apply pw_below_drewN | apply below_drew1) | exact HB.out)⟩⟩
                      · rw [if_neg c35] at H
                        have c35b0 : (t166.toList == t169.toList) = false := beq_eq_false_iff_ne.mpr c35
                        have c35b1 : (t166.toList != t169.toList) = true := bne_iff_ne.mpr c35
                        have H' := Aside0.mk H
                        clear H
                        go_wp2
                        go_meet
                        case rel => exact ⟨_, (false), (by first | rfl | (simp; done) | (simp [*]; done)), H', ⟨by have := HJ4.out; have := HJ14.out; first | omega | exact Nat.le_refl _⟩, ⟨by (with_reducible repeat (first | apply Kd.R_alloc | apply Kd.R_drewN | apply Kd.R_drew)); exact HO_15.out⟩, ⟨by (with_reducible repeat (first | apply Kd.R_alloc | apply Kd.R_drewN | apply Kd.R_drew)); exact HO_18.out⟩, ⟨by repeat (first | (with_reducible first | exact HB.out | apply below_alloc | apply pw_below_drewN | apply below_drew1) | exact HB.out)⟩⟩
                case rest =>
                  clear HC29
                  try clear c1
                  try clear p1
                  try clear q1
                  try clear hx1
                  try clear c2
                  try clear p2
                  try clear c3
                  try clear p6
                  try clear c7
                  try clear c7b0
                  try clear c7b1
                  try clear c8
                  try clear c9
                  try clear c10
                  try clear c11
                  try clear c13
                  try clear p18
                  try clear q18
                  try clear hx18
                  try clear c23
                  try clear c23b0
                  try clear c23b1
                  try clear c24
                  try clear c24b0
                  try clear c24b1
                  try clear c25
                  try clear c25b0
                  try clear c25b1
                  try clear c27
                  try clear c27b0
                  try clear c28
                  try clear c28b0
                  try clear c30
                  try clear c30b0
                  try clear c30b1
                  try clear c31
                  try clear c32
                  try clear c32b0
                  try clear c32b1
                  try clear c33
                  try clear c33b0
                  try clear c33b1
                  try clear c34
                  try clear c34b0
                  try clear c34b1
                  try clear c35
                  try clear c35b0
                  try clear c35b1
                  try clear c36
                  try clear c36b0
                  try clear c36b1
                  try clear hx182_0
                  try clear p1
                  try clear p18
                  try clear p182
                  try clear p2
                  try clear p6
                  try clear q1
                  try clear q18
                  try clear q182
                  obtain ⟨kq, x22_28, rfl, HA, HJ28, HO_15, HO_18, HB⟩ := hcut
                  cases kq with
                  | zero => exact absurd HA.out (by simp [butterylaw13_FrameMore.j2])
                  | succ kj28 =>
                    have H := HA.out
                    clear HA
                    simp only [butterylaw13_FrameMore.j2] at H
                    have HC37 := Aside0.mk H
                    clear H
                    go_upto_region 11 with (fail)
                    go_cut [23] (fun v23 wc => ∃ (kq : Nat) (x23_36 : Bool), v23 = .bool x23_36 ∧ Aside0 (butterylaw13_FrameMore.j3 kq t159 x22_28 x23_36 = some r) ∧ Aside0 (kq ≤ kj28) ∧ Aside0 (Below w.heap.size w wc))
                    case first =>
                      have H := HC37.out
                      clear HC37
                      by_cases c38 : t174 = 3
                      · rw [if_pos c38] at H
                        have c38b0 : (t174 == 3) = true := beq_iff_eq.mpr c38
                        have c38b1 : (t174 != 3) = false := bne_eq_false_iff_eq.mpr c38
                        clear c38
                        (first | rw [c38b0] | (simp only [i64_w, i32_w]; rw [c38b0]) | skip)
                        have H' := Aside0.mk H
                        clear H
                        go_wp2
                        go_meet
                        case rel => exact ⟨_, (true), (by first | rfl | (simp; done) | (simp [*]; done)), H', ⟨by have := HJ4.out; have := HJ14.out; have := HJ28.out; first | omega | exact Nat.le_refl _⟩, ⟨by repeat (first | (with_reducible first | exact HB.out | apply below_alloc | apply pw_below_drewN | apply below_drew1) | exact HB.out)⟩⟩
                      · rw [if_neg c38] at H
                        have c38b0 : (t174 == 3) = false := beq_eq_false_iff_ne.mpr c38
                        have c38b1 : (t174 != 3) = true := bne_iff_ne.mpr c38
                        (first | rw [c38b0] | (simp only [i64_w, i32_w]; rw [c38b0]) | skip)
                        by_cases c39 : (strOfNums t172).toList = (strOfNums t177).toList
                        · rw [if_pos c39] at H
                          have c39b0 : ((strOfNums t172).toList == (strOfNums t177).toList) = true := beq_iff_eq.mpr c39
                          have c39b1 : ((strOfNums t172).toList != (strOfNums t177).toList) = false := bne_eq_false_iff_eq.mpr c39
                          clear c39
                          by_cases c40 : t173 = t178
                          · rw [if_pos c40] at H
                            have c40b0 : (t173 == t178) = true := beq_iff_eq.mpr c40
                            have c40b1 : (t173 != t178) = false := bne_eq_false_iff_eq.mpr c40
                            clear c40
                            have H' := Aside0.mk H
                            clear H
                            have hcv41 := own_string (P := Try.prog) Try.underlying22 Try.underlying5 Try.underlying9 (Kd.own_of_R HO_15.out)
                            have hcv42 := own_string (P := Try.prog) Try.underlying22 Try.underlying5 Try.underlying9 (Kd.own_of_R HO_18.out)
                            go_wp2
                            go_meet
                            case rel => exact ⟨_, ((t174 == t179)), (by first | rfl | (simp; done) | (simp [*]; done)), H', ⟨by have := HJ4.out; have := HJ14.out; have := HJ28.out; first | omega | exact Nat.le_refl _⟩, ⟨by repeat (first | (with_reducible first | exact HB.out | apply below_alloc | apply pw_below_drewN | apply below_drew1) | exact HB.out)⟩⟩
                          · rw [if_neg c40] at H
                            have c40b0 : (t173 == t178) = false := beq_eq_false_iff_ne.mpr c40
                            have c40b1 : (t173 != t178) = true := bne_iff_ne.mpr c40
                            have H' := Aside0.mk H
                            clear H
                            have hcv43 := own_string (P := Try.prog) Try.underlying22 Try.underlying5 Try.underlying9 (Kd.own_of_R HO_15.out)
                            have hcv44 := own_string (P := Try.prog) Try.underlying22 Try.underlying5 Try.underlying9 (Kd.own_of_R HO_18.out)
                            go_wp2
                            go_meet
                            case rel => exact ⟨_, (false), (by first | rfl | (simp; done) | (simp [*]; done)), H', ⟨by have := HJ4.out; have := HJ14.out; have := HJ28.out; first | omega | exact Nat.le_refl _⟩, ⟨by repeat (first | (with_reducible first | exact HB.out | apply below_alloc | apply pw_below_drewN | apply below_drew1) | exact HB.out)⟩⟩
                        · rw [if_neg c39] at H
                          have c39b0 : ((strOfNums t172).toList == (strOfNums t177).toList) = false := beq_eq_false_iff_ne.mpr c39
                          have c39b1 : ((strOfNums t172).toList != (strOfNums t177).toList) = true := bne_iff_ne.mpr c39
                          have H' := Aside0.mk H
                          clear H
                          have hcv45 := own_string (P := Try.prog) Try.underlying22 Try.underlying5 Try.underlying9 (Kd.own_of_R HO_15.out)
                          have hcv46 := own_string (P := Try.prog) Try.underlying22 Try.underlying5 Try.underlying9 (Kd.own_of_R HO_18.out)
                          go_wp2
                          go_meet
                          case rel => exact ⟨_, (false), (by first | rfl | (simp; done) | (simp [*]; done)), H', ⟨by have := HJ4.out; have := HJ14.out; have := HJ28.out; first | omega | exact Nat.le_refl _⟩, ⟨by repeat (first | (with_reducible first | exact HB.out | apply below_alloc | apply pw_below_drewN | apply below_drew1) | exact HB.out)⟩⟩
                    case rest =>
                      clear HC37
                      try clear c1
                      try clear p1
                      try clear q1
                      try clear hx1
                      try clear c2
                      try clear p2
                      try clear c3
                      try clear c4
                      try clear hcv4
                      try clear p6
                      try clear c7
                      try clear c7b0
                      try clear c7b1
                      try clear c8
                      try clear c9
                      try clear c10
                      try clear c11
                      try clear c13
                      try clear p18
                      try clear q18
                      try clear hx18
                      try clear c23
                      try clear c23b0
                      try clear c23b1
                      try clear c24
                      try clear c24b0
                      try clear c24b1
                      try clear c25
                      try clear c25b0
                      try clear c25b1
                      try clear c27
                      try clear c27b0
                      try clear c28
                      try clear c28b0
                      try clear c30
                      try clear c30b0
                      try clear c30b1
                      try clear c31
                      try clear c32
                      try clear c32b0
                      try clear c32b1
                      try clear c33
                      try clear c33b0
                      try clear c33b1
                      try clear c34
                      try clear c34b0
                      try clear c34b1
                      try clear c35
                      try clear c35b0
                      try clear c35b1
                      try clear c36
                      try clear c36b0
                      try clear c36b1
                      try clear c38
                      try clear c38b0
                      try clear c38b1
                      try clear c39
                      try clear c39b0
                      try clear c39b1
                      try clear c40
                      try clear c40b0
                      try clear c40b1
                      try clear hcv41
                      try clear hcv42
                      try clear hcv43
                      try clear hcv44
                      try clear hcv45
                      try clear hcv46
                      try clear hx182_0
                      try clear p1
                      try clear p18
                      try clear p182
                      try clear p2
                      try clear p6
                      try clear q1
                      try clear q18
                      try clear q182
                      obtain ⟨kq, x23_36, rfl, HA, HJ36, HB⟩ := hcut
                      cases kq with
                      | zero => exact absurd HA.out (by simp [butterylaw13_FrameMore.j3])
                      | succ kj36 =>
                        have H := HA.out
                        clear HA
                        simp only [butterylaw13_FrameMore.j3] at H
                        have HC47 := Aside0.mk H
                        clear H
                        go_upto_region 12 with (fail)
                        go_cut [6] (fun v6 wc => ∃ (kq : Nat) (x6_46 : Bool), v6 = .bool x6_46 ∧ Aside0 (butterylaw13_FrameMore.j4 kq x6_46 = some r) ∧ Aside0 (kq ≤ kj36) ∧ Aside0 (Below w.heap.size w wc))
                        case first =>
                          have H := HC47.out
                          clear HC47
                          by_cases c48 : t159 = true
                          · subst c48
                            have H1 : (if x22_28 = true then (butterylaw13_FrameMore.j4 kj36 x23_36) else (butterylaw13_FrameMore.j4 kj36 false)) = some r := by rw [if_pos rfl] at H; exact H
                            clear H
                            have H := H1
                            clear H1
                            by_cases c49 : x22_28 = true
                            · subst c49
                              have H1 : (butterylaw13_FrameMore.j4 kj36 x23_36) = some r := by rw [if_pos rfl] at H; exact H
                              clear H
                              have H := H1
                              clear H1
                              have H' := Aside0.mk H
                              clear H
                              go_wp2
                              go_meet
                              case rel => exact ⟨_, (x23_36), (by first | rfl | (simp; done) | (simp [*]; done)), H', ⟨by have := HJ4.out; have := HJ14.out; have := HJ28.out; have := HJ36.out; first | omega | exact Nat.le_refl _⟩, ⟨by repeat (first | (with_reducible first | exact HB.out | apply below_alloc | apply pw_below_drewN | apply below_drew1) | exact HB.out)⟩⟩
                            · replace c49 := Bool.eq_false_iff.mpr c49
                              subst c49
                              have H1 : (butterylaw13_FrameMore.j4 kj36 false) = some r := by rw [if_neg (show ¬ (false = true) by decide)] at H; exact H
                              clear H
                              have H := H1
                              clear H1
                              have H' := Aside0.mk H
                              clear H
                              go_wp2
                              go_meet
                              case rel => exact ⟨_, (false), (by first | rfl | (simp; done) | (simp [*]; done)), H', ⟨by have := HJ4.out; have := HJ14.out; have := HJ28.out; have := HJ36.out; first | omega | exact Nat.le_refl _⟩, ⟨by repeat (first | (with_reducible first | exact HB.out | apply below_alloc | apply pw_below_drewN | apply below_drew1) | exact HB.out)⟩⟩
                          · replace c48 := Bool.eq_false_iff.mpr c48
                            subst c48
                            have H1 : (butterylaw13_FrameMore.j4 kj36 false) = some r := by rw [if_neg (show ¬ (false = true) by decide)] at H; exact H
                            clear H
                            have H := H1
                            clear H1
                            have H' := Aside0.mk H
                            clear H
                            go_wp2
                            go_meet
                            case rel => exact ⟨_, (false), (by first | rfl | (simp; done) | (simp [*]; done)), H', ⟨by have := HJ4.out; have := HJ14.out; have := HJ28.out; have := HJ36.out; first | omega | exact Nat.le_refl _⟩, ⟨by repeat (first | (with_reducible first | exact HB.out | apply below_alloc | apply pw_below_drewN | apply below_drew1) | exact HB.out)⟩⟩
                        case rest =>
                          clear HC47
                          try clear c1
                          try clear p1
                          try clear q1
                          try clear hx1
                          try clear c2
                          try clear p2
                          try clear c3
                          try clear c4
                          try clear hcv4
                          try clear p6
                          try clear c7
                          try clear c7b0
                          try clear c7b1
                          try clear c8
                          try clear c9
                          try clear c10
                          try clear c11
                          try clear c13
                          try clear p18
                          try clear q18
                          try clear hx18
                          try clear c23
                          try clear c23b0
                          try clear c23b1
                          try clear c24
                          try clear c24b0
                          try clear c24b1
                          try clear c25
                          try clear c25b0
                          try clear c25b1
                          try clear c27
                          try clear c27b0
                          try clear c28
                          try clear c28b0
                          try clear c30
                          try clear c30b0
                          try clear c30b1
                          try clear c31
                          try clear c32
                          try clear c32b0
                          try clear c32b1
                          try clear c33
                          try clear c33b0
                          try clear c33b1
                          try clear c34
                          try clear c34b0
                          try clear c34b1
                          try clear c35
                          try clear c35b0
                          try clear c35b1
                          try clear c36
                          try clear c36b0
                          try clear c36b1
                          try clear c38
                          try clear c38b0
                          try clear c38b1
                          try clear c39
                          try clear c39b0
                          try clear c39b1
                          try clear c40
                          try clear c40b0
                          try clear c40b1
                          try clear hcv41
                          try clear hcv42
                          try clear hcv43
                          try clear hcv44
                          try clear hcv45
                          try clear hcv46
                          try clear c48
                          try clear c49
                          try clear hx182_0
                          try clear p1
                          try clear p18
                          try clear p182
                          try clear p2
                          try clear p6
                          try clear q1
                          try clear q18
                          try clear q182
                          obtain ⟨kq, x6_46, rfl, HA, HJ46, HB⟩ := hcut
                          cases kq with
                          | zero => exact absurd HA.out (by simp [butterylaw13_FrameMore.j4])
                          | succ kj46 =>
                            have H := HA.out
                            clear HA
                            simp only [butterylaw13_FrameMore.j4] at H
                            obtain rfl := Option.some.inj H
                            go_wp2
                            go_ret
                            exact ⟨by first | rfl | (simp [errW_none, errW_some] <;> rfl) | (simp [*, errW_none, errW_some] <;> rfl), by repeat (first | (with_reducible first | exact HB.out | apply below_alloc | apply pw_below_drewN | apply below_drew1) | exact HB.out)⟩
          · rw [if_neg c10] at H
            exact absurd H (by simp)
        · rw [if_neg c9] at H
          exact absurd H (by simp)

/-- THE ONE PURE STATEMENT of butterylaw13_FrameMore: yours. -/
def butterylaw13_FrameMore.Pure : Prop := ∀ (l0 : List Int) (l1 : List Int) (a2 : Int), l0.length ≤ maxLen → l0.length * 1 ≤ 140737488351232 → (∀ x ∈ l0, (Lit.int .u8 x).wf = true) → l1.length ≤ maxLen → l1.length * 1 ≤ 140737488351232 → (∀ x ∈ l1, (Lit.int .u8 x).wf = true) → (Lit.int .i64 a2).wf = true → ∃ k, butterylaw13_FrameMore.f k l0 l1 a2 = some true
theorem butterylaw13_FrameMore.walk (P : butterylaw13_FrameMore.Pure) (a0 : Option Addr) (len0 cap0 : Nat) (z0 : List Int) (a1 : Option Addr) (len1 cap1 : Nat) (z1 : List Int) (a2 : Int) (w : World) (w0 : (a0 = none ∧ len0 = 0 ∧ cap0 = 0 ∧ z0 = []) ∨ ∃ x, a0 = some x ∧ len0 ≤ cap0 ∧ cap0 ≤ maxLen ∧ z0.length = cap0 ∧ (∀ i, i < z0.length → w.cell? (x.add i) = some (.int .u8 (z0.getD i 0))) ∧ ∀ n ∈ z0, (Lit.int .u8 n).wf = true) (y0 : len0 * 1 ≤ 140737488351232) (w1 : (a1 = none ∧ len1 = 0 ∧ cap1 = 0 ∧ z1 = []) ∨ ∃ x, a1 = some x ∧ len1 ≤ cap1 ∧ cap1 ≤ maxLen ∧ z1.length = cap1 ∧ (∀ i, i < z1.length → w.cell? (x.add i) = some (.int .u8 (z1.getD i 0))) ∧ ∀ n ∈ z1, (Lit.int .u8 n).wf = true) (y1 : len1 * 1 ≤ 140737488351232) (w2 : (Lit.int .i64 a2).wf = true) :
    Calls Try.prog 7 #[.slice a0 len0 cap0, .slice a1 len1 cap1, .int .i64 a2] w fun e w' => e = .returned (.bool true) ∧ Below w.heap.size w w' := by
  obtain ⟨l0, rfl, hr0, hm0, hw0, hc0⟩ := ReadsInt.ofRowC w0
  obtain ⟨l1, rfl, hr1, hm1, hw1, hc1⟩ := ReadsInt.ofRowC w1
  obtain ⟨k, h⟩ := P l0 l1 a2 hm0 y0 hw0 hm1 y1 hw1 w2
  refine (butterylaw13_FrameMore.calls k _ _ l0 _ _ l1 a2 true w (Kd.C_of_reads (d := (0 : Int)) (h1 := fun _ => rfl) hr0) hc0 (Kd.C_of_reads (d := (0 : Int)) (h1 := fun _ => rfl) hr1) hc1 h).mono ?_
  rintro e w' ⟨rfl, hd⟩
  exact ⟨rfl, hd⟩

end Go.Proofs.Ytcdjocjkipceoaa.Hd
