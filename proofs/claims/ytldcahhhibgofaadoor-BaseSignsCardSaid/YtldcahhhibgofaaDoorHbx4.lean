-- Written by this session's own program (wip/hprint.py) out of the translation, over hand-proved contracts. Lean checks it.
import Derived.Test.YtldcahhhibgofaaDoorHbx0
import Derived.Test.YtldcahhhibgofaaDoorHbx1
import Derived.Test.YtldcahhhibgofaaDoorHbx2
namespace Go.Proofs.YtldcahhhibgofaaDoor.Hb
open Go.RowKit Go.Proofs.YtldcahhhibgofaaDoorW.PrintWords Go.Proofs.YtldcahhhibgofaaDoorW.PrintLast Go.Proofs.YtldcahhhibgofaaDoorW.PrintMore
attribute [local go_sem] max2_int min2_int max_two min_two max_three min_three max_four min_four   -- for this text's walks alone
set_option linter.unusedVariables false
set_option linter.unusedSimpArgs false

/-! ### butterylaw02_BaseSigns: function 7 -/
mutual
def butterylaw02_BaseSigns.j1 : Nat → List Int → Bool → ByteArray → Int → Option (Bool)
  | 0, _, _, _, _ => none
  | k + 1, x0, x3, x4, x5 => butterylaw02_BaseSigns.l1 k x0 x3 x4 x5 0
def butterylaw02_BaseSigns.l1 : Nat → List Int → Bool → ByteArray → Int → Int → Option (Bool)
  | 0, _, _, _, _, _ => none
  | k + 1, x0, x3, x4, x5, x6 => if x6 < x5 then (if 0 ≤ x6 then (if x6 < (x4.size : Int) then (if (bt x4 x6) < 65 then (if (bt x4 x6) < 97 then (if (bt x4 x6) < 48 then (if (bt x4 x6) = 43 then (butterylaw02_BaseSigns.l1 k x0 x3 x4 x5 (wrap64 (x6 + 1))) else (if (bt x4 x6) = 47 then (butterylaw02_BaseSigns.l1 k x0 x3 x4 x5 (wrap64 (x6 + 1))) else (some false))) else (if (bt x4 x6) > 57 then (if (bt x4 x6) = 43 then (butterylaw02_BaseSigns.l1 k x0 x3 x4 x5 (wrap64 (x6 + 1))) else (if (bt x4 x6) = 47 then (butterylaw02_BaseSigns.l1 k x0 x3 x4 x5 (wrap64 (x6 + 1))) else (some false))) else (butterylaw02_BaseSigns.l1 k x0 x3 x4 x5 (wrap64 (x6 + 1))))) else (if (bt x4 x6) > 122 then (if (bt x4 x6) < 48 then (if (bt x4 x6) = 43 then (butterylaw02_BaseSigns.l1 k x0 x3 x4 x5 (wrap64 (x6 + 1))) else (if (bt x4 x6) = 47 then (butterylaw02_BaseSigns.l1 k x0 x3 x4 x5 (wrap64 (x6 + 1))) else (some false))) else (if (bt x4 x6) > 57 then (if (bt x4 x6) = 43 then (butterylaw02_BaseSigns.l1 k x0 x3 x4 x5 (wrap64 (x6 + 1))) else (if (bt x4 x6) = 47 then (butterylaw02_BaseSigns.l1 k x0 x3 x4 x5 (wrap64 (x6 + 1))) else (some false))) else (butterylaw02_BaseSigns.l1 k x0 x3 x4 x5 (wrap64 (x6 + 1))))) else (butterylaw02_BaseSigns.l1 k x0 x3 x4 x5 (wrap64 (x6 + 1))))) else (if (bt x4 x6) > 90 then (if (bt x4 x6) < 97 then (if (bt x4 x6) < 48 then (if (bt x4 x6) = 43 then (butterylaw02_BaseSigns.l1 k x0 x3 x4 x5 (wrap64 (x6 + 1))) else (if (bt x4 x6) = 47 then (butterylaw02_BaseSigns.l1 k x0 x3 x4 x5 (wrap64 (x6 + 1))) else (some false))) else (if (bt x4 x6) > 57 then (if (bt x4 x6) = 43 then (butterylaw02_BaseSigns.l1 k x0 x3 x4 x5 (wrap64 (x6 + 1))) else (if (bt x4 x6) = 47 then (butterylaw02_BaseSigns.l1 k x0 x3 x4 x5 (wrap64 (x6 + 1))) else (some false))) else (butterylaw02_BaseSigns.l1 k x0 x3 x4 x5 (wrap64 (x6 + 1))))) else (if (bt x4 x6) > 122 then (if (bt x4 x6) < 48 then (if (bt x4 x6) = 43 then (butterylaw02_BaseSigns.l1 k x0 x3 x4 x5 (wrap64 (x6 + 1))) else (if (bt x4 x6) = 47 then (butterylaw02_BaseSigns.l1 k x0 x3 x4 x5 (wrap64 (x6 + 1))) else (some false))) else (if (bt x4 x6) > 57 then (if (bt x4 x6) = 43 then (butterylaw02_BaseSigns.l1 k x0 x3 x4 x5 (wrap64 (x6 + 1))) else (if (bt x4 x6) = 47 then (butterylaw02_BaseSigns.l1 k x0 x3 x4 x5 (wrap64 (x6 + 1))) else (some false))) else (butterylaw02_BaseSigns.l1 k x0 x3 x4 x5 (wrap64 (x6 + 1))))) else (butterylaw02_BaseSigns.l1 k x0 x3 x4 x5 (wrap64 (x6 + 1))))) else (butterylaw02_BaseSigns.l1 k x0 x3 x4 x5 (wrap64 (x6 + 1))))) else (none)) else (none)) else (if x3 = true then (some ((wrap64 ((x4.size : Int) - x5)) == ((3 - ((x0.length : Int) % 3)) % 3))) else (some false))
def butterylaw02_BaseSigns.l0 : Nat → List Int → Bool → ByteArray → Int → Option (Bool)
  | 0, _, _, _, _ => none
  | k + 1, x0, x3, x4, x5 => if x5 > 0 then (if 0 ≤ (wrap64 (x5 - 1)) then (if (wrap64 (x5 - 1)) < (x4.size : Int) then (if (bt x4 (wrap64 (x5 - 1))) = 61 then (butterylaw02_BaseSigns.l0 k x0 x3 x4 (wrap64 (x5 - 1))) else (butterylaw02_BaseSigns.j1 k x0 x3 x4 x5)) else (none)) else (none)) else (butterylaw02_BaseSigns.j1 k x0 x3 x4 x5)
end
def butterylaw02_BaseSigns.f (k : Nat) (l0 : List Int) : Option (Bool) := (butterylaw02_awake.f).bind fun t161 => (if (l0.length : Int) > 3000 then (some t161) else ((base_Encode.f l0).bind fun t162 => (butterylaw02_BaseSigns.l0 k l0 t161 t162 (t162.size : Int))))
theorem butterylaw02_BaseSigns.mono_l : ∀ k, (∀ y0 y1 y2 y3, LeO (butterylaw02_BaseSigns.j1 k y0 y1 y2 y3) (butterylaw02_BaseSigns.j1 (k + 1) y0 y1 y2 y3)) ∧ (∀ y0 y1 y2 y3 y4, LeO (butterylaw02_BaseSigns.l1 k y0 y1 y2 y3 y4) (butterylaw02_BaseSigns.l1 (k + 1) y0 y1 y2 y3 y4)) ∧ (∀ y0 y1 y2 y3, LeO (butterylaw02_BaseSigns.l0 k y0 y1 y2 y3) (butterylaw02_BaseSigns.l0 (k + 1) y0 y1 y2 y3))
  | 0 => ⟨fun _ _ _ _ r h => by simp [butterylaw02_BaseSigns.j1] at h, fun _ _ _ _ _ r h => by simp [butterylaw02_BaseSigns.l1] at h, fun _ _ _ _ r h => by simp [butterylaw02_BaseSigns.l0] at h⟩
  | k + 1 => by
    obtain ⟨ih0, ih1, ih2⟩ := butterylaw02_BaseSigns.mono_l k
    refine ⟨?_, ?_, ?_⟩
    · intro y0 y1 y2 y3
      unfold butterylaw02_BaseSigns.j1
      repeat' first
      | (with_reducible exact ih0 _ _ _ _)
      | (with_reducible exact ih1 _ _ _ _ _)
      | (with_reducible exact ih2 _ _ _ _)
      | (with_reducible exact LeO.refl _)
      | (with_reducible exact LeO.none _)
      | (with_reducible refine LeO.ite ?_ ?_)
      | (with_reducible refine LeO.bind ?_ (fun _ => ?_))
      | exact ih0 _ _ _ _
      | exact ih1 _ _ _ _ _
      | exact ih2 _ _ _ _
      | exact LeO.none _
      | refine LeO.ite ?_ ?_
      | refine LeO.bind ?_ (fun _ => ?_)
    · intro y0 y1 y2 y3 y4
      unfold butterylaw02_BaseSigns.l1
      repeat' first
      | (with_reducible exact ih0 _ _ _ _)
      | (with_reducible exact ih1 _ _ _ _ _)
      | (with_reducible exact ih2 _ _ _ _)
      | (with_reducible exact LeO.refl _)
      | (with_reducible exact LeO.none _)
      | (with_reducible refine LeO.ite ?_ ?_)
      | (with_reducible refine LeO.bind ?_ (fun _ => ?_))
      | exact ih0 _ _ _ _
      | exact ih1 _ _ _ _ _
      | exact ih2 _ _ _ _
      | exact LeO.none _
      | refine LeO.ite ?_ ?_
      | refine LeO.bind ?_ (fun _ => ?_)
    · intro y0 y1 y2 y3
      unfold butterylaw02_BaseSigns.l0
      repeat' first
      | (with_reducible exact ih0 _ _ _ _)
      | (with_reducible exact ih1 _ _ _ _ _)
      | (with_reducible exact ih2 _ _ _ _)
      | (with_reducible exact LeO.refl _)
      | (with_reducible exact LeO.none _)
      | (with_reducible refine LeO.ite ?_ ?_)
      | (with_reducible refine LeO.bind ?_ (fun _ => ?_))
      | exact ih0 _ _ _ _
      | exact ih1 _ _ _ _ _
      | exact ih2 _ _ _ _
      | exact LeO.none _
      | refine LeO.ite ?_ ?_
      | refine LeO.bind ?_ (fun _ => ?_)
theorem butterylaw02_BaseSigns.mono : ∀ a0 k, LeO (butterylaw02_BaseSigns.f k a0) (butterylaw02_BaseSigns.f (k + 1) a0) := by
  intro a0 k
  obtain ⟨ih0, ih1, ih2⟩ := butterylaw02_BaseSigns.mono_l k
  unfold butterylaw02_BaseSigns.f
  repeat' first
      | (with_reducible exact ih0 _ _ _ _)
      | (with_reducible exact ih1 _ _ _ _ _)
      | (with_reducible exact ih2 _ _ _ _)
      | (with_reducible exact LeO.refl _)
      | (with_reducible exact LeO.none _)
      | (with_reducible refine LeO.ite ?_ ?_)
      | (with_reducible refine LeO.bind ?_ (fun _ => ?_))
      | exact ih0 _ _ _ _
      | exact ih1 _ _ _ _ _
      | exact ih2 _ _ _ _
      | exact LeO.none _
      | refine LeO.ite ?_ ?_
      | refine LeO.bind ?_ (fun _ => ?_)
set_option maxHeartbeats 8000000 in
set_option maxRecDepth 100000 in
theorem butterylaw02_BaseSigns.calls (k : Nat) (A0 : Option Addr) (c0 : Nat) (l0 : List Int) (r : Bool) (w : World) (hr0 : Kd.C (Kd.int .u8) w A0 l0.length l0) (hc0 : l0.length ≤ c0) (h : butterylaw02_BaseSigns.f k l0 = some r) :
    Calls Tryd.prog 7 #[.slice A0 l0.length c0] w fun e w' => e = .returned (.bool r) ∧ Below w.heap.size w w' := by
  have HR0 := Aside0.mk hr0
  have HC0 := Aside0.mk hc0
  clear hr0 hc0
  have HB := Aside0.mk (Below.refl w.heap.size w)
  have H : ((butterylaw02_awake.f).bind fun t161 => (if (l0.length : Int) > 3000 then (some t161) else ((base_Encode.f l0).bind fun t162 => (butterylaw02_BaseSigns.l0 k l0 t161 t162 (t162.size : Int))))) = some r := h
  clear h
  replace H := Option.bind_eq_some_iff.mp H
  obtain ⟨t161, A20, H⟩ := H
  replace H : (if (l0.length : Int) > 3000 then (some t161) else ((base_Encode.f l0).bind fun t162 => (butterylaw02_BaseSigns.l0 k l0 t161 t162 (t162.size : Int)))) = some r := H
  have A2 := Aside0.mk A20
  clear A20
  by_cases c3 : (l0.length : Int) > 3000
  · rw [if_pos c3] at H
    have c3b0 : decide (3000 < (l0.length : Int)) = true := decide_eq_true c3
    have c3b1 : decide (3000 < l0.length) = true := decide_eq_true (by omega)
    clear c3
    obtain rfl := Option.some.inj H
    go_enter Tryd.func7, Tryd.ntmps7
    go_wp2_with (first | ((with_reducible refine gate_callee (f := 9) rfl ?_); refine goesL_ (some 8) rfl rfl Tryd.func9 (by kernel_rfl) rfl #[] rfl (by (try simp only [List.map_toArray, List.map_cons, List.map_nil]); first | done | rfl | (simp only [List.length_drop, List.length_take]; rfl)) ?_; (with_reducible refine (butterylaw02_awake.calls  t161 _ A2.out).mono ?_); rintro e w4 ⟨rfl, hb⟩; refine ⟨_, rfl, ?_⟩; have n0_ := Aside0.mk (below_step (by repeat (first | (with_reducible first | exact HB.out | apply below_alloc | apply pw_below_drewN | apply below_drew1) | exact HB.out)) hb); clear HB; have HB := n0_; clear n0_; (try clear hb); (try clear hb2); (try clear hk); (try clear hi)))
    go_ret
    exact ⟨by first | rfl | (simp [errW_none, errW_some] <;> rfl) | (simp [*, errW_none, errW_some] <;> rfl), by repeat (first | (with_reducible first | exact HB.out | apply below_alloc | apply pw_below_drewN | apply below_drew1) | exact HB.out)⟩
  · rw [if_neg c3] at H
    have c3b0 : decide (3000 < (l0.length : Int)) = false := decide_eq_false c3
    have c3b1 : decide (3000 < l0.length) = false := decide_eq_false (by omega)
    clear c3
    replace H := Option.bind_eq_some_iff.mp H
    obtain ⟨t162, A50, H⟩ := H
    replace H : (butterylaw02_BaseSigns.l0 k l0 t161 t162 (t162.size : Int)) = some r := H
    have A5 := Aside0.mk A50
    clear A50
    have HC6 := Aside0.mk H
    clear H
    go_enter Tryd.func7, Tryd.ntmps7
    go_upto_block 0 with (first | ((with_reducible refine gate_callee (f := 9) rfl ?_); refine goesL_ (some 8) rfl rfl Tryd.func9 (by kernel_rfl) rfl #[] rfl (by (try simp only [List.map_toArray, List.map_cons, List.map_nil]); first | done | rfl | (simp only [List.length_drop, List.length_take]; rfl)) ?_; (with_reducible refine (butterylaw02_awake.calls  t161 _ A2.out).mono ?_); rintro e w7 ⟨rfl, hb⟩; refine ⟨_, rfl, ?_⟩; have n0_ := Aside0.mk (below_step (by repeat (first | (with_reducible first | exact HB.out | apply below_alloc | apply pw_below_drewN | apply below_drew1) | exact HB.out)) hb); clear HB; have HB := n0_; clear n0_; (try clear hb); (try clear hb2); (try clear hk); (try clear hi)) | ((with_reducible refine gate_callee (f := 12) rfl ?_); refine goesL_ (some 14) rfl rfl Tryd.func12 (by kernel_rfl) rfl #[.slice A0 l0.length c0] rfl (by (try simp only [List.map_toArray, List.map_cons, List.map_nil]); first | done | rfl | (simp only [List.length_drop, List.length_take]; rfl)) ?_; (with_reducible refine (base_Encode.calls _ _ l0 t162 _ ?side1 ?side2 A5.out).mono ?_); (case side1 => repeat (first | exact (Kd.C_below HR0.out HB.out) | (with_reducible refine Kd.C_alloc ?_ _) | (with_reducible refine Kd.C_drewN ?_ _) | (with_reducible refine Kd.C_drew ?_))); (case side2 => exact HC0.out); rintro e w8 ⟨rfl, hb⟩; refine ⟨_, rfl, ?_⟩; have n0_ := Aside0.mk (below_step (by repeat (first | (with_reducible first | exact HB.out | apply below_alloc | apply pw_below_drewN | apply below_drew1) | exact HB.out)) hb); clear HB; have HB := n0_; clear n0_; (try clear hb); (try clear hb2); (try clear hk); (try clear hi)))
    (try simp only [Act.put, List.setIfInBounds_toArray, List.set_cons_zero, List.set_cons_succ])
    go_cut [5] (fun v5 wc => ∃ (kq : Nat) (x5_5 : Int), v5 = .int .i64 x5_5 ∧ Aside0 (butterylaw02_BaseSigns.j1 kq l0 t161 t162 x5_5 = some r) ∧ Aside0 (kq ≤ k) ∧ Aside0 (Below w.heap.size w wc))
    case first =>
      have H := HC6.out
      clear HC6
      have H' := Aside0.mk H
      clear H
      go_wp2
      go_loopg [5] k (fun kq v5 w' => ∃ (x5_1 : Int), v5 = .int .i64 x5_1 ∧ Aside0 (butterylaw02_BaseSigns.l0 kq l0 t161 t162 x5_1 = some r) ∧ Aside0 (kq ≤ k) ∧ Aside0 (Below w.heap.size w w'))
      case atStart => exact ⟨((t162.size : Int)), (by first | rfl | (simp; done) | (simp [*]; done)), H', ⟨Nat.le_refl _⟩, ⟨by repeat (first | (with_reducible first | exact HB.out | apply below_alloc | apply pw_below_drewN | apply below_drew1) | exact HB.out)⟩⟩
      case round =>
        clear H'
        try clear c1
        try clear p2
        try clear c3
        try clear c3b0
        try clear c3b1
        try clear c7
        obtain ⟨x5_1, rfl, HA, HK1, HB⟩ := hrel
        cases gk with
        | zero => exact absurd HA.out (by simp [butterylaw02_BaseSigns.l0])
        | succ k1 =>
          have H := HA.out
          clear HA
          simp only [butterylaw02_BaseSigns.l0] at H
          by_cases c9 : x5_1 > 0
          · rw [if_pos c9] at H
            have c9b0 : decide (0 < x5_1) = true := decide_eq_true c9
            clear c9
            (first | rw [c9b0] | (simp only [i64_w, i32_w]; rw [c9b0]) | skip)
            obtain ⟨ji10, hji10⟩ : ∃ j_ : Int, (wrap64 (x5_1 - 1)) = j_ := ⟨_, rfl⟩
            replace H : (if 0 ≤ (ji10) then (if (ji10) < (t162.size : Int) then (if (bt t162 (ji10)) = 61 then (butterylaw02_BaseSigns.l0 k1 l0 t161 t162 ji10) else (butterylaw02_BaseSigns.j1 k1 l0 t161 t162 x5_1)) else (none)) else (none)) = some r := by first | (rw [hji10] at H; exact H) | (simp only [hji10] at H ⊢; exact H)
            have hji10w : (IntKind.i64.wrap (x5_1 - 1)) = ji10 := (i64_w _).trans hji10
            by_cases c11 : 0 ≤ (ji10)
            · rw [if_pos c11] at H
              have c11b0 : decide (0 ≤ (ji10)) = true := decide_eq_true c11
              clear c11
              by_cases c12 : (ji10) < (t162.size : Int)
              · rw [if_pos c12] at H
                have c12b0 : decide ((ji10) < (t162.size : Int)) = true := decide_eq_true c12
                clear c12
                by_cases c14 : (bt t162 (ji10)) = 61
                · rw [if_pos c14] at H
                  have c14b0 : ((bt t162 (ji10)) == 61) = true := beq_iff_eq.mpr c14
                  have c14b1 : ((bt t162 (ji10)) != 61) = false := bne_eq_false_iff_eq.mpr c14
                  clear c14
                  have H' := Aside0.mk H
                  clear H
                  have p13 : 0 ≤ ((ji10) : Int) := of_decide_eq_true (by first | (with_reducible assumption) | assumption)
                  have q13 : (ji10) < (t162.size : Int) := of_decide_eq_true (by first | (with_reducible assumption) | assumption)
                  have hx13 := bt_at t162 (ji10)
                  replace p13 := eq_true p13
                  replace q13 := eq_true q13
                  go_wp2
                  go_roundg k1
                  case measure => have := HK1.out; omega
                  case rel => exact ⟨(ji10), (by first | rfl | (simp; done) | (simp only [← hji10] <;> (first | rfl | simp)) | (simp [*]; done)), H', ⟨by have := HK1.out; omega⟩, ⟨by repeat (first | (with_reducible first | exact HB.out | apply below_alloc | apply pw_below_drewN | apply below_drew1) | exact HB.out)⟩⟩
                · rw [if_neg c14] at H
                  have c14b0 : ((bt t162 (ji10)) == 61) = false := beq_eq_false_iff_ne.mpr c14
                  have c14b1 : ((bt t162 (ji10)) != 61) = true := bne_iff_ne.mpr c14
                  have H' := Aside0.mk H
                  clear H
                  have p13 : 0 ≤ ((ji10) : Int) := of_decide_eq_true (by first | (with_reducible assumption) | assumption)
                  have q13 : (ji10) < (t162.size : Int) := of_decide_eq_true (by first | (with_reducible assumption) | assumption)
                  have hx13 := bt_at t162 (ji10)
                  replace p13 := eq_true p13
                  replace q13 := eq_true q13
                  go_wp2
                  go_meet
                  case rel => exact ⟨_, (x5_1), (by first | rfl | (simp; done) | (simp [*]; done)), H', ⟨by have := HK1.out; first | omega | exact Nat.le_refl _⟩, ⟨by repeat (first | (with_reducible first | exact HB.out | apply below_alloc | apply pw_below_drewN | apply below_drew1) | exact HB.out)⟩⟩
              · rw [if_neg c12] at H
                exact absurd H (by simp)
            · rw [if_neg c11] at H
              exact absurd H (by simp)
          · rw [if_neg c9] at H
            have c9b0 : decide (0 < x5_1) = false := decide_eq_false c9
            clear c9
            (first | rw [c9b0] | (simp only [i64_w, i32_w]; rw [c9b0]) | skip)
            have H' := Aside0.mk H
            clear H
            go_wp2
            go_meet
            case rel => exact ⟨_, (x5_1), (by first | rfl | (simp; done) | (simp [*]; done)), H', ⟨by have := HK1.out; first | omega | exact Nat.le_refl _⟩, ⟨by repeat (first | (with_reducible first | exact HB.out | apply below_alloc | apply pw_below_drewN | apply below_drew1) | exact HB.out)⟩⟩
    case rest =>
      clear HC6
      try clear c1
      try clear p1
      try clear q1
      try clear hx1
      try clear p2
      try clear c3
      try clear c3b0
      try clear c3b1
      try clear p6
      try clear c7
      try clear c9
      try clear c9b0
      try clear c11
      try clear c11b0
      try clear c12
      try clear c12b0
      try clear p13
      try clear q13
      try clear hx13
      try clear c14
      try clear c14b0
      try clear c14b1
      try clear p13
      try clear p2
      try clear q13
      obtain ⟨kq, x5_5, rfl, HA, HJ5, HB⟩ := hcut
      cases kq with
      | zero => exact absurd HA.out (by simp [butterylaw02_BaseSigns.j1])
      | succ kj5 =>
        have H := HA.out
        clear HA
        simp only [butterylaw02_BaseSigns.j1] at H
        have H' := Aside0.mk H
        clear H
        go_wp2
        go_loopg [6] kj5 (fun kq v6 w' => ∃ (x6_2 : Int), v6 = .int .i64 x6_2 ∧ Aside0 (butterylaw02_BaseSigns.l1 kq l0 t161 t162 x5_5 x6_2 = some r) ∧ Aside0 (kq ≤ kj5) ∧ Aside0 (Below w.heap.size w w'))
        case atStart => exact ⟨(0), (by first | rfl | (simp; done) | (simp [*]; done)), H', ⟨Nat.le_refl _⟩, ⟨by repeat (first | (with_reducible first | exact HB.out | apply below_alloc | apply pw_below_drewN | apply below_drew1) | exact HB.out)⟩⟩
        case round =>
          clear H'
          try clear c1
          try clear p1
          try clear q1
          try clear hx1
          try clear p2
          try clear c3
          try clear c3b0
          try clear c3b1
          try clear p6
          try clear c7
          try clear c9
          try clear c9b0
          try clear c11
          try clear c11b0
          try clear c12
          try clear c12b0
          try clear p13
          try clear q13
          try clear hx13
          try clear c14
          try clear c14b0
          try clear c14b1
          try clear p1
          try clear p13
          try clear p2
          try clear p6
          try clear q1
          try clear q13
          obtain ⟨x6_2, rfl, HA, HK2, HB⟩ := hrel
          cases gk with
          | zero => exact absurd HA.out (by simp [butterylaw02_BaseSigns.l1])
          | succ k2 =>
            have H := HA.out
            clear HA
            simp only [butterylaw02_BaseSigns.l1] at H
            by_cases c15 : x6_2 < x5_5
            · rw [if_pos c15] at H
              have c15b0 : decide (x6_2 < x5_5) = true := decide_eq_true c15
              clear c15
              by_cases c16 : 0 ≤ x6_2
              · rw [if_pos c16] at H
                have c16b0 : decide (0 ≤ x6_2) = true := decide_eq_true c16
                clear c16
                by_cases c17 : x6_2 < (t162.size : Int)
                · rw [if_pos c17] at H
                  have c17b0 : decide (x6_2 < (t162.size : Int)) = true := decide_eq_true c17
                  clear c17
                  by_cases c19 : (bt t162 x6_2) < 65
                  · rw [if_pos c19] at H
                    have c19b0 : decide ((bt t162 x6_2) < 65) = true := decide_eq_true c19
                    clear c19
                    by_cases c20 : (bt t162 x6_2) < 97
                    · rw [if_pos c20] at H
                      have c20b0 : decide ((bt t162 x6_2) < 97) = true := decide_eq_true c20
                      clear c20
                      by_cases c21 : (bt t162 x6_2) < 48
                      · rw [if_pos c21] at H
                        have c21b0 : decide ((bt t162 x6_2) < 48) = true := decide_eq_true c21
                        clear c21
                        by_cases c22 : (bt t162 x6_2) = 43
                        · rw [if_pos c22] at H
                          have c22b0 : ((bt t162 x6_2) == 43) = true := beq_iff_eq.mpr c22
                          have c22b1 : ((bt t162 x6_2) != 43) = false := bne_eq_false_iff_eq.mpr c22
                          clear c22
                          have H' := Aside0.mk H
                          clear H
                          have p18 : 0 ≤ (x6_2 : Int) := of_decide_eq_true (by first | (with_reducible assumption) | assumption)
                          have q18 : x6_2 < (t162.size : Int) := of_decide_eq_true (by first | (with_reducible assumption) | assumption)
                          have hx18 := bt_at t162 x6_2
                          replace p18 := eq_true p18
                          replace q18 := eq_true q18
                          go_wp2
                          go_roundg k2
                          case measure => have := HJ5.out; have := HK2.out; omega
                          case rel => exact ⟨(wrap64 (x6_2 + 1)), (by first | rfl | (simp; done) | (simp [*]; done)), H', ⟨by have := HJ5.out; have := HK2.out; omega⟩, ⟨by repeat (first | (with_reducible first | exact HB.out | apply below_alloc | apply pw_below_drewN | apply below_drew1) | exact HB.out)⟩⟩
                        · rw [if_neg c22] at H
                          have c22b0 : ((bt t162 x6_2) == 43) = false := beq_eq_false_iff_ne.mpr c22
                          have c22b1 : ((bt t162 x6_2) != 43) = true := bne_iff_ne.mpr c22
                          by_cases c23 : (bt t162 x6_2) = 47
                          · rw [if_pos c23] at H
                            have c23b0 : ((bt t162 x6_2) == 47) = true := beq_iff_eq.mpr c23
                            have c23b1 : ((bt t162 x6_2) != 47) = false := bne_eq_false_iff_eq.mpr c23
                            clear c23
                            have H' := Aside0.mk H
                            clear H
                            have p18 : 0 ≤ (x6_2 : Int) := of_decide_eq_true (by first | (with_reducible assumption) | assumption)
                            have q18 : x6_2 < (t162.size : Int) := of_decide_eq_true (by first | (with_reducible assumption) | assumption)
                            have hx18 := bt_at t162 x6_2
                            replace p18 := eq_true p18
                            replace q18 := eq_true q18
                            go_wp2
                            go_roundg k2
                            case measure => have := HJ5.out; have := HK2.out; omega
                            case rel => exact ⟨(wrap64 (x6_2 + 1)), (by first | rfl | (simp; done) | (simp [*]; done)), H', ⟨by have := HJ5.out; have := HK2.out; omega⟩, ⟨by repeat (first | (with_reducible first | exact HB.out | apply below_alloc | apply pw_below_drewN | apply below_drew1) | exact HB.out)⟩⟩
                          · rw [if_neg c23] at H
                            have c23b0 : ((bt t162 x6_2) == 47) = false := beq_eq_false_iff_ne.mpr c23
                            have c23b1 : ((bt t162 x6_2) != 47) = true := bne_iff_ne.mpr c23
                            obtain rfl := Option.some.inj H
                            have p18 : 0 ≤ (x6_2 : Int) := of_decide_eq_true (by first | (with_reducible assumption) | assumption)
                            have q18 : x6_2 < (t162.size : Int) := of_decide_eq_true (by first | (with_reducible assumption) | assumption)
                            have hx18 := bt_at t162 x6_2
                            replace p18 := eq_true p18
                            replace q18 := eq_true q18
                            go_wp2
                            go_ret
                            exact ⟨by first | rfl | (simp [errW_none, errW_some] <;> rfl) | (simp [*, errW_none, errW_some] <;> rfl), by repeat (first | (with_reducible first | exact HB.out | apply below_alloc | apply pw_below_drewN | apply below_drew1) | exact HB.out)⟩
                      · rw [if_neg c21] at H
                        have c21b0 : decide ((bt t162 x6_2) < 48) = false := decide_eq_false c21
                        clear c21
                        by_cases c24 : (bt t162 x6_2) > 57
                        · rw [if_pos c24] at H
                          have c24b0 : decide (57 < (bt t162 x6_2)) = true := decide_eq_true c24
                          clear c24
                          by_cases c25 : (bt t162 x6_2) = 43
                          · rw [if_pos c25] at H
                            have c25b0 : ((bt t162 x6_2) == 43) = true := beq_iff_eq.mpr c25
                            have c25b1 : ((bt t162 x6_2) != 43) = false := bne_eq_false_iff_eq.mpr c25
                            clear c25
                            have H' := Aside0.mk H
                            clear H
                            have p18 : 0 ≤ (x6_2 : Int) := of_decide_eq_true (by first | (with_reducible assumption) | assumption)
                            have q18 : x6_2 < (t162.size : Int) := of_decide_eq_true (by first | (with_reducible assumption) | assumption)
                            have hx18 := bt_at t162 x6_2
                            replace p18 := eq_true p18
                            replace q18 := eq_true q18
                            go_wp2
                            go_roundg k2
                            case measure => have := HJ5.out; have := HK2.out; omega
                            case rel => exact ⟨(wrap64 (x6_2 + 1)), (by first | rfl | (simp; done) | (simp [*]; done)), H', ⟨by have := HJ5.out; have := HK2.out; omega⟩, ⟨by repeat (first | (with_reducible first | exact HB.out | apply below_alloc | apply pw_below_drewN | apply below_drew1) | exact HB.out)⟩⟩
                          · rw [if_neg c25] at H
                            have c25b0 : ((bt t162 x6_2) == 43) = false := beq_eq_false_iff_ne.mpr c25
                            have c25b1 : ((bt t162 x6_2) != 43) = true := bne_iff_ne.mpr c25
                            by_cases c26 : (bt t162 x6_2) = 47
                            · rw [if_pos c26] at H
                              have c26b0 : ((bt t162 x6_2) == 47) = true := beq_iff_eq.mpr c26
                              have c26b1 : ((bt t162 x6_2) != 47) = false := bne_eq_false_iff_eq.mpr c26
                              clear c26
                              have H' := Aside0.mk H
                              clear H
                              have p18 : 0 ≤ (x6_2 : Int) := of_decide_eq_true (by first | (with_reducible assumption) | assumption)
                              have q18 : x6_2 < (t162.size : Int) := of_decide_eq_true (by first | (with_reducible assumption) | assumption)
                              have hx18 := bt_at t162 x6_2
                              replace p18 := eq_true p18
                              replace q18 := eq_true q18
                              go_wp2
                              go_roundg k2
                              case measure => have := HJ5.out; have := HK2.out; omega
                              case rel => exact ⟨(wrap64 (x6_2 + 1)), (by first | rfl | (simp; done) | (simp [*]; done)), H', ⟨by have := HJ5.out; have := HK2.out; omega⟩, ⟨by repeat (first | (with_reducible first | exact HB.out | apply below_alloc | apply pw_below_drewN | apply below_drew1) | exact HB.out)⟩⟩
                            · rw [if_neg c26] at H
                              have c26b0 : ((bt t162 x6_2) == 47) = false := beq_eq_false_iff_ne.mpr c26
                              have c26b1 : ((bt t162 x6_2) != 47) = true := bne_iff_ne.mpr c26
                              obtain rfl := Option.some.inj H
                              have p18 : 0 ≤ (x6_2 : Int) := of_decide_eq_true (by first | (with_reducible assumption) | assumption)
                              have q18 : x6_2 < (t162.size : Int) := of_decide_eq_true (by first | (with_reducible assumption) | assumption)
                              have hx18 := bt_at t162 x6_2
                              replace p18 := eq_true p18
                              replace q18 := eq_true q18
                              go_wp2
                              go_ret
                              exact ⟨by first | rfl | (simp [errW_none, errW_some] <;> rfl) | (simp [*, errW_none, errW_some] <;> rfl), by repeat (first | (with_reducible first | exact HB.out | apply below_alloc | apply pw_below_drewN | apply below_drew1) | exact HB.out)⟩
                        · rw [if_neg c24] at H
                          have c24b0 : decide (57 < (bt t162 x6_2)) = false := decide_eq_false c24
                          clear c24
                          have H' := Aside0.mk H
                          clear H
                          have p18 : 0 ≤ (x6_2 : Int) := of_decide_eq_true (by first | (with_reducible assumption) | assumption)
                          have q18 : x6_2 < (t162.size : Int) := of_decide_eq_true (by first | (with_reducible assumption) | assumption)
                          have hx18 := bt_at t162 x6_2
                          replace p18 := eq_true p18
                          replace q18 := eq_true q18
                          go_wp2
                          go_roundg k2
                          case measure => have := HJ5.out; have := HK2.out; omega
                          case rel => exact ⟨(wrap64 (x6_2 + 1)), (by first | rfl | (simp; done) | (simp [*]; done)), H', ⟨by have := HJ5.out; have := HK2.out; omega⟩, ⟨by repeat (first | (with_reducible first | exact HB.out | apply below_alloc | apply pw_below_drewN | apply below_drew1) | exact HB.out)⟩⟩
                    · rw [if_neg c20] at H
                      have c20b0 : decide ((bt t162 x6_2) < 97) = false := decide_eq_false c20
                      clear c20
                      by_cases c27 : (bt t162 x6_2) > 122
                      · rw [if_pos c27] at H
                        have c27b0 : decide (122 < (bt t162 x6_2)) = true := decide_eq_true c27
                        clear c27
                        by_cases c28 : (bt t162 x6_2) < 48
                        · rw [if_pos c28] at H
                          have c28b0 : decide ((bt t162 x6_2) < 48) = true := decide_eq_true c28
                          clear c28
                          by_cases c29 : (bt t162 x6_2) = 43
                          · rw [if_pos c29] at H
                            have c29b0 : ((bt t162 x6_2) == 43) = true := beq_iff_eq.mpr c29
                            have c29b1 : ((bt t162 x6_2) != 43) = false := bne_eq_false_iff_eq.mpr c29
                            clear c29
                            have H' := Aside0.mk H
                            clear H
                            have p18 : 0 ≤ (x6_2 : Int) := of_decide_eq_true (by first | (with_reducible assumption) | assumption)
                            have q18 : x6_2 < (t162.size : Int) := of_decide_eq_true (by first | (with_reducible assumption) | assumption)
                            have hx18 := bt_at t162 x6_2
                            replace p18 := eq_true p18
                            replace q18 := eq_true q18
                            go_wp2
                            go_roundg k2
                            case measure => have := HJ5.out; have := HK2.out; omega
                            case rel => exact ⟨(wrap64 (x6_2 + 1)), (by first | rfl | (simp; done) | (simp [*]; done)), H', ⟨by have := HJ5.out; have := HK2.out; omega⟩, ⟨by repeat (first | (with_reducible first | exact HB.out | apply below_alloc | apply pw_below_drewN | apply below_drew1) | exact HB.out)⟩⟩
                          · rw [if_neg c29] at H
                            have c29b0 : ((bt t162 x6_2) == 43) = false := beq_eq_false_iff_ne.mpr c29
                            have c29b1 : ((bt t162 x6_2) != 43) = true := bne_iff_ne.mpr c29
                            by_cases c30 : (bt t162 x6_2) = 47
                            · rw [if_pos c30] at H
                              have c30b0 : ((bt t162 x6_2) == 47) = true := beq_iff_eq.mpr c30
                              have c30b1 : ((bt t162 x6_2) != 47) = false := bne_eq_false_iff_eq.mpr c30
                              clear c30
                              have H' := Aside0.mk H
                              clear H
                              have p18 : 0 ≤ (x6_2 : Int) := of_decide_eq_true (by first | (with_reducible assumption) | assumption)
                              have q18 : x6_2 < (t162.size : Int) := of_decide_eq_true (by first | (with_reducible assumption) | assumption)
                              have hx18 := bt_at t162 x6_2
                              replace p18 := eq_true p18
                              replace q18 := eq_true q18
                              go_wp2
                              go_roundg k2
                              case measure => have := HJ5.out; have := HK2.out; omega
                              case rel => exact ⟨(wrap64 (x6_2 + 1)), (by first | rfl | (simp; done) | (simp [*]; done)), H', ⟨by have := HJ5.out; have := HK2.out; omega⟩, ⟨by repeat (first | (with_reducible first | exact HB.out | apply below_alloc | apply pw_below_drewN | apply below_drew1) | exact HB.out)⟩⟩
                            · rw [if_neg c30] at H
                              have c30b0 : ((bt t162 x6_2) == 47) = false := beq_eq_false_iff_ne.mpr c30
                              have c30b1 : ((bt t162 x6_2) != 47) = true := bne_iff_ne.mpr c30
                              obtain rfl := Option.some.inj H
                              have p18 : 0 ≤ (x6_2 : Int) := of_decide_eq_true (by first | (with_reducible assumption) | assumption)
                              have q18 : x6_2 < (t162.size : Int) := of_decide_eq_true (by first | (with_reducible assumption) | assumption)
                              have hx18 := bt_at t162 x6_2
                              replace p18 := eq_true p18
                              replace q18 := eq_true q18
                              go_wp2
                              go_ret
                              exact ⟨by first | rfl | (simp [errW_none, errW_some] <;> rfl) | (simp [*, errW_none, errW_some] <;> rfl), by repeat (first | (with_reducible first | exact HB.out | apply below_alloc | apply pw_below_drewN | apply below_drew1) | exact HB.out)⟩
                        · rw [if_neg c28] at H
                          have c28b0 : decide ((bt t162 x6_2) < 48) = false := decide_eq_false c28
                          clear c28
                          by_cases c31 : (bt t162 x6_2) > 57
                          · rw [if_pos c31] at H
                            have c31b0 : decide (57 < (bt t162 x6_2)) = true := decide_eq_true c31
                            clear c31
                            by_cases c32 : (bt t162 x6_2) = 43
                            · rw [if_pos c32] at H
                              have c32b0 : ((bt t162 x6_2) == 43) = true := beq_iff_eq.mpr c32
                              have c32b1 : ((bt t162 x6_2) != 43) = false := bne_eq_false_iff_eq.mpr c32
                              clear c32
                              have H' := Aside0.mk H
                              clear H
                              have p18 : 0 ≤ (x6_2 : Int) := of_decide_eq_true (by first | (with_reducible assumption) | assumption)
                              have q18 : x6_2 < (t162.size : Int) := of_decide_eq_true (by first | (with_reducible assumption) | assumption)
                              have hx18 := bt_at t162 x6_2
                              replace p18 := eq_true p18
                              replace q18 := eq_true q18
                              go_wp2
                              go_roundg k2
                              case measure => have := HJ5.out; have := HK2.out; omega
                              case rel => exact ⟨(wrap64 (x6_2 + 1)), (by first | rfl | (simp; done) | (simp [*]; done)), H', ⟨by have := HJ5.out; have := HK2.out; omega⟩, ⟨by repeat (first | (with_reducible first | exact HB.out | apply below_alloc | apply pw_below_drewN | apply below_drew1) | exact HB.out)⟩⟩
                            · rw [if_neg c32] at H
                              have c32b0 : ((bt t162 x6_2) == 43) = false := beq_eq_false_iff_ne.mpr c32
                              have c32b1 : ((bt t162 x6_2) != 43) = true := bne_iff_ne.mpr c32
                              by_cases c33 : (bt t162 x6_2) = 47
                              · rw [if_pos c33] at H
                                have c33b0 : ((bt t162 x6_2) == 47) = true := beq_iff_eq.mpr c33
                                have c33b1 : ((bt t162 x6_2) != 47) = false := bne_eq_false_iff_eq.mpr c33
                                clear c33
                                have H' := Aside0.mk H
                                clear H
                                have p18 : 0 ≤ (x6_2 : Int) := of_decide_eq_true (by first | (with_reducible assumption) | assumption)
                                have q18 : x6_2 < (t162.size : Int) := of_decide_eq_true (by first | (with_reducible assumption) | assumption)
                                have hx18 := bt_at t162 x6_2
                                replace p18 := eq_true p18
                                replace q18 := eq_true q18
                                go_wp2
                                go_roundg k2
                                case measure => have := HJ5.out; have := HK2.out; omega
                                case rel => exact ⟨(wrap64 (x6_2 + 1)), (by first | rfl | (simp; done) | (simp [*]; done)), H', ⟨by have := HJ5.out; have := HK2.out; omega⟩, ⟨by repeat (first | (with_reducible first | exact HB.out | apply below_alloc | apply pw_below_drewN | apply below_drew1) | exact HB.out)⟩⟩
                              · rw [if_neg c33] at H
                                have c33b0 : ((bt t162 x6_2) == 47) = false := beq_eq_false_iff_ne.mpr c33
                                have c33b1 : ((bt t162 x6_2) != 47) = true := bne_iff_ne.mpr c33
                                obtain rfl := Option.some.inj H
                                have p18 : 0 ≤ (x6_2 : Int) := of_decide_eq_true (by first | (with_reducible assumption) | assumption)
                                have q18 : x6_2 < (t162.size : Int) := of_decide_eq_true (by first | (with_reducible assumption) | assumption)
                                have hx18 := bt_at t162 x6_2
                                replace p18 := eq_true p18
                                replace q18 := eq_true q18
                                go_wp2
                                go_ret
                                exact ⟨by first | rfl | (simp [errW_none, errW_some] <;> rfl) | (simp [*, errW_none, errW_some] <;> rfl), by repeat (first | (with_reducible first | exact HB.out | apply below_alloc | apply pw_below_drewN | apply below_drew1) | exact HB.out)⟩
                          · rw [if_neg c31] at H
                            have c31b0 : decide (57 < (bt t162 x6_2)) = false := decide_eq_false c31
                            clear c31
                            have H' := Aside0.mk H
                            clear H
                            have p18 : 0 ≤ (x6_2 : Int) := of_decide_eq_true (by first | (with_reducible assumption) | assumption)
                            have q18 : x6_2 < (t162.size : Int) := of_decide_eq_true (by first | (with_reducible assumption) | assumption)
                            have hx18 := bt_at t162 x6_2
                            replace p18 := eq_true p18
                            replace q18 := eq_true q18
                            go_wp2
                            go_roundg k2
                            case measure => have := HJ5.out; have := HK2.out; omega
                            case rel => exact ⟨(wrap64 (x6_2 + 1)), (by first | rfl | (simp; done) | (simp [*]; done)), H', ⟨by have := HJ5.out; have := HK2.out; omega⟩, ⟨by repeat (first | (with_reducible first | exact HB.out | apply below_alloc | apply pw_below_drewN | apply below_drew1) | exact HB.out)⟩⟩
                      · rw [if_neg c27] at H
                        have c27b0 : decide (122 < (bt t162 x6_2)) = false := decide_eq_false c27
                        clear c27
                        have H' := Aside0.mk H
                        clear H
                        have p18 : 0 ≤ (x6_2 : Int) := of_decide_eq_true (by first | (with_reducible assumption) | assumption)
                        have q18 : x6_2 < (t162.size : Int) := of_decide_eq_true (by first | (with_reducible assumption) | assumption)
                        have hx18 := bt_at t162 x6_2
                        replace p18 := eq_true p18
                        replace q18 := eq_true q18
                        go_wp2
                        go_roundg k2
                        case measure => have := HJ5.out; have := HK2.out; omega
                        case rel => exact ⟨(wrap64 (x6_2 + 1)), (by first | rfl | (simp; done) | (simp [*]; done)), H', ⟨by have := HJ5.out; have := HK2.out; omega⟩, ⟨by repeat (first | (with_reducible first | exact HB.out | apply below_alloc | apply pw_below_drewN | apply below_drew1) | exact HB.out)⟩⟩
                  · rw [if_neg c19] at H
                    have c19b0 : decide ((bt t162 x6_2) < 65) = false := decide_eq_false c19
                    clear c19
                    by_cases c34 : (bt t162 x6_2) > 90
                    · rw [if_pos c34] at H
                      have c34b0 : decide (90 < (bt t162 x6_2)) = true := decide_eq_true c34
                      clear c34
                      by_cases c35 : (bt t162 x6_2) < 97
                      · rw [if_pos c35] at H
                        have c35b0 : decide ((bt t162 x6_2) < 97) = true := decide_eq_true c35
                        clear c35
                        by_cases c36 : (bt t162 x6_2) < 48
                        · rw [if_pos c36] at H
                          have c36b0 : decide ((bt t162 x6_2) < 48) = true := decide_eq_true c36
                          clear c36
                          by_cases c37 : (bt t162 x6_2) = 43
                          · rw [if_pos c37] at H
                            have c37b0 : ((bt t162 x6_2) == 43) = true := beq_iff_eq.mpr c37
                            have c37b1 : ((bt t162 x6_2) != 43) = false := bne_eq_false_iff_eq.mpr c37
                            clear c37
                            have H' := Aside0.mk H
                            clear H
                            have p18 : 0 ≤ (x6_2 : Int) := of_decide_eq_true (by first | (with_reducible assumption) | assumption)
                            have q18 : x6_2 < (t162.size : Int) := of_decide_eq_true (by first | (with_reducible assumption) | assumption)
                            have hx18 := bt_at t162 x6_2
                            replace p18 := eq_true p18
                            replace q18 := eq_true q18
                            go_wp2
                            go_roundg k2
                            case measure => have := HJ5.out; have := HK2.out; omega
                            case rel => exact ⟨(wrap64 (x6_2 + 1)), (by first | rfl | (simp; done) | (simp [*]; done)), H', ⟨by have := HJ5.out; have := HK2.out; omega⟩, ⟨by repeat (first | (with_reducible first | exact HB.out | apply below_alloc | apply pw_below_drewN | apply below_drew1) | exact HB.out)⟩⟩
                          · rw [if_neg c37] at H
                            have c37b0 : ((bt t162 x6_2) == 43) = false := beq_eq_false_iff_ne.mpr c37
                            have c37b1 : ((bt t162 x6_2) != 43) = true := bne_iff_ne.mpr c37
                            by_cases c38 : (bt t162 x6_2) = 47
                            · rw [if_pos c38] at H
                              have c38b0 : ((bt t162 x6_2) == 47) = true := beq_iff_eq.mpr c38
                              have c38b1 : ((bt t162 x6_2) != 47) = false := bne_eq_false_iff_eq.mpr c38
                              clear c38
                              have H' := Aside0.mk H
                              clear H
                              have p18 : 0 ≤ (x6_2 : Int) := of_decide_eq_true (by first | (with_reducible assumption) | assumption)
                              have q18 : x6_2 < (t162.size : Int) := of_decide_eq_true (by first | (with_reducible assumption) | assumption)
                              have hx18 := bt_at t162 x6_2
                              replace p18 := eq_true p18
                              replace q18 := eq_true q18
                              go_wp2
                              go_roundg k2
                              case measure => have := HJ5.out; have := HK2.out; omega
                              case rel => exact ⟨(wrap64 (x6_2 + 1)), (by first | rfl | (simp; done) | (simp [*]; done)), H', ⟨by have := HJ5.out; have := HK2.out; omega⟩, ⟨by repeat (first | (with_reducible first | exact HB.out | apply below_alloc | apply pw_below_drewN | apply below_drew1) | exact HB.out)⟩⟩
                            · rw [if_neg c38] at H
                              have c38b0 : ((bt t162 x6_2) == 47) = false := beq_eq_false_iff_ne.mpr c38
                              have c38b1 : ((bt t162 x6_2) != 47) = true := bne_iff_ne.mpr c38
                              obtain rfl := Option.some.inj H
                              have p18 : 0 ≤ (x6_2 : Int) := of_decide_eq_true (by first | (with_reducible assumption) | assumption)
                              have q18 : x6_2 < (t162.size : Int) := of_decide_eq_true (by first | (with_reducible assumption) | assumption)
                              have hx18 := bt_at t162 x6_2
                              replace p18 := eq_true p18
                              replace q18 := eq_true q18
                              go_wp2
                              go_ret
                              exact ⟨by first | rfl | (simp [errW_none, errW_some] <;> rfl) | (simp [*, errW_none, errW_some] <;> rfl), by repeat (first | (with_reducible first | exact HB.out | apply below_alloc | apply pw_below_drewN | apply below_drew1) | exact HB.out)⟩
                        · rw [if_neg c36] at H
                          have c36b0 : decide ((bt t162 x6_2) < 48) = false := decide_eq_false c36
                          clear c36
                          by_cases c39 : (bt t162 x6_2) > 57
                          · rw [if_pos c39] at H
                            have c39b0 : decide (57 < (bt t162 x6_2)) = true := decide_eq_true c39
                            clear c39
                            by_cases c40 : (bt t162 x6_2) = 43
                            · rw [if_pos c40] at H
                              have c40b0 : ((bt t162 x6_2) == 43) = true := beq_iff_eq.mpr c40
                              have c40b1 : ((bt t162 x6_2) != 43) = false := bne_eq_false_iff_eq.mpr c40
                              clear c40
                              have H' := Aside0.mk H
                              clear H
                              have p18 : 0 ≤ (x6_2 : Int) := of_decide_eq_true (by first | (with_reducible assumption) | assumption)
                              have q18 : x6_2 < (t162.size : Int) := of_decide_eq_true (by first | (with_reducible assumption) | assumption)
                              have hx18 := bt_at t162 x6_2
                              replace p18 := eq_true p18
                              replace q18 := eq_true q18
                              go_wp2
                              go_roundg k2
                              case measure => have := HJ5.out; have := HK2.out; omega
                              case rel => exact ⟨(wrap64 (x6_2 + 1)), (by first | rfl | (simp; done) | (simp [*]; done)), H', ⟨by have := HJ5.out; have := HK2.out; omega⟩, ⟨by repeat (first | (with_reducible first | exact HB.out | apply below_alloc | apply pw_below_drewN | apply below_drew1) | exact HB.out)⟩⟩
                            · rw [if_neg c40] at H
                              have c40b0 : ((bt t162 x6_2) == 43) = false := beq_eq_false_iff_ne.mpr c40
                              have c40b1 : ((bt t162 x6_2) != 43) = true := bne_iff_ne.mpr c40
                              by_cases c41 : (bt t162 x6_2) = 47
                              · rw [if_pos c41] at H
                                have c41b0 : ((bt t162 x6_2) == 47) = true := beq_iff_eq.mpr c41
                                have c41b1 : ((bt t162 x6_2) != 47) = false := bne_eq_false_iff_eq.mpr c41
                                clear c41
                                have H' := Aside0.mk H
                                clear H
                                have p18 : 0 ≤ (x6_2 : Int) := of_decide_eq_true (by first | (with_reducible assumption) | assumption)
                                have q18 : x6_2 < (t162.size : Int) := of_decide_eq_true (by first | (with_reducible assumption) | assumption)
                                have hx18 := bt_at t162 x6_2
                                replace p18 := eq_true p18
                                replace q18 := eq_true q18
                                go_wp2
                                go_roundg k2
                                case measure => have := HJ5.out; have := HK2.out; omega
                                case rel => exact ⟨(wrap64 (x6_2 + 1)), (by first | rfl | (simp; done) | (simp [*]; done)), H', ⟨by have := HJ5.out; have := HK2.out; omega⟩, ⟨by repeat (first | (with_reducible first | exact HB.out | apply below_alloc | apply pw_below_drewN | apply below_drew1) | exact HB.out)⟩⟩
                              · rw [if_neg c41] at H
                                have c41b0 : ((bt t162 x6_2) == 47) = false := beq_eq_false_iff_ne.mpr c41
                                have c41b1 : ((bt t162 x6_2) != 47) = true := bne_iff_ne.mpr c41
                                obtain rfl := Option.some.inj H
                                have p18 : 0 ≤ (x6_2 : Int) := of_decide_eq_true (by first | (with_reducible assumption) | assumption)
                                have q18 : x6_2 < (t162.size : Int) := of_decide_eq_true (by first | (with_reducible assumption) | assumption)
                                have hx18 := bt_at t162 x6_2
                                replace p18 := eq_true p18
                                replace q18 := eq_true q18
                                go_wp2
                                go_ret
                                exact ⟨by first | rfl | (simp [errW_none, errW_some] <;> rfl) | (simp [*, errW_none, errW_some] <;> rfl), by repeat (first | (with_reducible first | exact HB.out | apply below_alloc | apply pw_below_drewN | apply below_drew1) | exact HB.out)⟩
                          · rw [if_neg c39] at H
                            have c39b0 : decide (57 < (bt t162 x6_2)) = false := decide_eq_false c39
                            clear c39
                            have H' := Aside0.mk H
                            clear H
                            have p18 : 0 ≤ (x6_2 : Int) := of_decide_eq_true (by first | (with_reducible assumption) | assumption)
                            have q18 : x6_2 < (t162.size : Int) := of_decide_eq_true (by first | (with_reducible assumption) | assumption)
                            have hx18 := bt_at t162 x6_2
                            replace p18 := eq_true p18
                            replace q18 := eq_true q18
                            go_wp2
                            go_roundg k2
                            case measure => have := HJ5.out; have := HK2.out; omega
                            case rel => exact ⟨(wrap64 (x6_2 + 1)), (by first | rfl | (simp; done) | (simp [*]; done)), H', ⟨by have := HJ5.out; have := HK2.out; omega⟩, ⟨by repeat (first | (with_reducible first | exact HB.out | apply below_alloc | apply pw_below_drewN | apply below_drew1) | exact HB.out)⟩⟩
                      · rw [if_neg c35] at H
                        have c35b0 : decide ((bt t162 x6_2) < 97) = false := decide_eq_false c35
                        clear c35
                        by_cases c42 : (bt t162 x6_2) > 122
                        · rw [if_pos c42] at H
                          have c42b0 : decide (122 < (bt t162 x6_2)) = true := decide_eq_true c42
                          clear c42
                          by_cases c43 : (bt t162 x6_2) < 48
                          · rw [if_pos c43] at H
                            have c43b0 : decide ((bt t162 x6_2) < 48) = true := decide_eq_true c43
                            clear c43
                            by_cases c44 : (bt t162 x6_2) = 43
                            · rw [if_pos c44] at H
                              have c44b0 : ((bt t162 x6_2) == 43) = true := beq_iff_eq.mpr c44
                              have c44b1 : ((bt t162 x6_2) != 43) = false := bne_eq_false_iff_eq.mpr c44
                              clear c44
                              have H' := Aside0.mk H
                              clear H
                              have p18 : 0 ≤ (x6_2 : Int) := of_decide_eq_true (by first | (with_reducible assumption) | assumption)
                              have q18 : x6_2 < (t162.size : Int) := of_decide_eq_true (by first | (with_reducible assumption) | assumption)
                              have hx18 := bt_at t162 x6_2
                              replace p18 := eq_true p18
                              replace q18 := eq_true q18
                              go_wp2
                              go_roundg k2
                              case measure => have := HJ5.out; have := HK2.out; omega
                              case rel => exact ⟨(wrap64 (x6_2 + 1)), (by first | rfl | (simp; done) | (simp [*]; done)), H', ⟨by have := HJ5.out; have := HK2.out; omega⟩, ⟨by repeat (first | (with_reducible first | exact HB.out | apply below_alloc | apply pw_below_drewN | apply below_drew1) | exact HB.out)⟩⟩
                            · rw [if_neg c44] at H
                              have c44b0 : ((bt t162 x6_2) == 43) = false := beq_eq_false_iff_ne.mpr c44
                              have c44b1 : ((bt t162 x6_2) != 43) = true := bne_iff_ne.mpr c44
                              by_cases c45 : (bt t162 x6_2) = 47
                              · rw [if_pos c45] at H
                                have c45b0 : ((bt t162 x6_2) == 47) = true := beq_iff_eq.mpr c45
                                have c45b1 : ((bt t162 x6_2) != 47) = false := bne_eq_false_iff_eq.mpr c45
                                clear c45
                                have H' := Aside0.mk H
                                clear H
                                have p18 : 0 ≤ (x6_2 : Int) := of_decide_eq_true (by first | (with_reducible assumption) | assumption)
                                have q18 : x6_2 < (t162.size : Int) := of_decide_eq_true (by first | (with_reducible assumption) | assumption)
                                have hx18 := bt_at t162 x6_2
                                replace p18 := eq_true p18
                                replace q18 := eq_true q18
                                go_wp2
                                go_roundg k2
                                case measure => have := HJ5.out; have := HK2.out; omega
                                case rel => exact ⟨(wrap64 (x6_2 + 1)), (by first | rfl | (simp; done) | (simp [*]; done)), H', ⟨by have := HJ5.out; have := HK2.out; omega⟩, ⟨by repeat (first | (with_reducible first | exact HB.out | apply below_alloc | apply pw_below_drewN | apply below_drew1) | exact HB.out)⟩⟩
                              · rw [if_neg c45] at H
                                have c45b0 : ((bt t162 x6_2) == 47) = false := beq_eq_false_iff_ne.mpr c45
                                have c45b1 : ((bt t162 x6_2) != 47) = true := bne_iff_ne.mpr c45
                                obtain rfl := Option.some.inj H
                                have p18 : 0 ≤ (x6_2 : Int) := of_decide_eq_true (by first | (with_reducible assumption) | assumption)
                                have q18 : x6_2 < (t162.size : Int) := of_decide_eq_true (by first | (with_reducible assumption) | assumption)
                                have hx18 := bt_at t162 x6_2
                                replace p18 := eq_true p18
                                replace q18 := eq_true q18
                                go_wp2
                                go_ret
                                exact ⟨by first | rfl | (simp [errW_none, errW_some] <;> rfl) | (simp [*, errW_none, errW_some] <;> rfl), by repeat (first | (with_reducible first | exact HB.out | apply below_alloc | apply pw_below_drewN | apply below_drew1) | exact HB.out)⟩
                          · rw [if_neg c43] at H
                            have c43b0 : decide ((bt t162 x6_2) < 48) = false := decide_eq_false c43
                            clear c43
                            by_cases c46 : (bt t162 x6_2) > 57
                            · rw [if_pos c46] at H
                              have c46b0 : decide (57 < (bt t162 x6_2)) = true := decide_eq_true c46
                              clear c46
                              by_cases c47 : (bt t162 x6_2) = 43
                              · rw [if_pos c47] at H
                                have c47b0 : ((bt t162 x6_2) == 43) = true := beq_iff_eq.mpr c47
                                have c47b1 : ((bt t162 x6_2) != 43) = false := bne_eq_false_iff_eq.mpr c47
                                clear c47
                                have H' := Aside0.mk H
                                clear H
                                have p18 : 0 ≤ (x6_2 : Int) := of_decide_eq_true (by first | (with_reducible assumption) | assumption)
                                have q18 : x6_2 < (t162.size : Int) := of_decide_eq_true (by first | (with_reducible assumption) | assumption)
                                have hx18 := bt_at t162 x6_2
                                replace p18 := eq_true p18
                                replace q18 := eq_true q18
                                go_wp2
                                go_roundg k2
                                case measure => have := HJ5.out; have := HK2.out; omega
                                case rel => exact ⟨(wrap64 (x6_2 + 1)), (by first | rfl | (simp; done) | (simp [*]; done)), H', ⟨by have := HJ5.out; have := HK2.out; omega⟩, ⟨by repeat (first | (with_reducible first | exact HB.out | apply below_alloc | apply pw_below_drewN | apply below_drew1) | exact HB.out)⟩⟩
                              · rw [if_neg c47] at H
                                have c47b0 : ((bt t162 x6_2) == 43) = false := beq_eq_false_iff_ne.mpr c47
                                have c47b1 : ((bt t162 x6_2) != 43) = true := bne_iff_ne.mpr c47
                                by_cases c48 : (bt t162 x6_2) = 47
                                · rw [if_pos c48] at H
                                  have c48b0 : ((bt t162 x6_2) == 47) = true := beq_iff_eq.mpr c48
                                  have c48b1 : ((bt t162 x6_2) != 47) = false := bne_eq_false_iff_eq.mpr c48
                                  clear c48
                                  have H' := Aside0.mk H
                                  clear H
                                  have p18 : 0 ≤ (x6_2 : Int) := of_decide_eq_true (by first | (with_reducible assumption) | assumption)
                                  have q18 : x6_2 < (t162.size : Int) := of_decide_eq_true (by first | (with_reducible assumption) | assumption)
                                  have hx18 := bt_at t162 x6_2
                                  replace p18 := eq_true p18
                                  replace q18 := eq_true q18
                                  go_wp2
                                  go_roundg k2
                                  case measure => have := HJ5.out; have := HK2.out; omega
                                  case rel => exact ⟨(wrap64 (x6_2 + 1)), (by first | rfl | (simp; done) | (simp [*]; done)), H', ⟨by have := HJ5.out; have := HK2.out; omega⟩, ⟨by repeat (first | (with_reducible first | exact HB.out | apply below_alloc | apply pw_below_drewN | apply below_drew1) | exact HB.out)⟩⟩
                                · rw [if_neg c48] at H
                                  have c48b0 : ((bt t162 x6_2) == 47) = false := beq_eq_false_iff_ne.mpr c48
                                  have c48b1 : ((bt t162 x6_2) != 47) = true := bne_iff_ne.mpr c48
                                  obtain rfl := Option.some.inj H
                                  have p18 : 0 ≤ (x6_2 : Int) := of_decide_eq_true (by first | (with_reducible assumption) | assumption)
                                  have q18 : x6_2 < (t162.size : Int) := of_decide_eq_true (by first | (with_reducible assumption) | assumption)
                                  have hx18 := bt_at t162 x6_2
                                  replace p18 := eq_true p18
                                  replace q18 := eq_true q18
                                  go_wp2
                                  go_ret
                                  exact ⟨by first | rfl | (simp [errW_none, errW_some] <;> rfl) | (simp [*, errW_none, errW_some] <;> rfl), by repeat (first | (with_reducible first | exact HB.out | apply below_alloc | apply pw_below_drewN | apply below_drew1) | exact HB.out)⟩
                            · rw [if_neg c46] at H
                              have c46b0 : decide (57 < (bt t162 x6_2)) = false := decide_eq_false c46
                              clear c46
                              have H' := Aside0.mk H
                              clear H
                              have p18 : 0 ≤ (x6_2 : Int) := of_decide_eq_true (by first | (with_reducible assumption) | assumption)
                              have q18 : x6_2 < (t162.size : Int) := of_decide_eq_true (by first | (with_reducible assumption) | assumption)
                              have hx18 := bt_at t162 x6_2
                              replace p18 := eq_true p18
                              replace q18 := eq_true q18
                              go_wp2
                              go_roundg k2
                              case measure => have := HJ5.out; have := HK2.out; omega
                              case rel => exact ⟨(wrap64 (x6_2 + 1)), (by first | rfl | (simp; done) | (simp [*]; done)), H', ⟨by have := HJ5.out; have := HK2.out; omega⟩, ⟨by repeat (first | (with_reducible first | exact HB.out | apply below_alloc | apply pw_below_drewN | apply below_drew1) | exact HB.out)⟩⟩
                        · rw [if_neg c42] at H
                          have c42b0 : decide (122 < (bt t162 x6_2)) = false := decide_eq_false c42
                          clear c42
                          have H' := Aside0.mk H
                          clear H
                          have p18 : 0 ≤ (x6_2 : Int) := of_decide_eq_true (by first | (with_reducible assumption) | assumption)
                          have q18 : x6_2 < (t162.size : Int) := of_decide_eq_true (by first | (with_reducible assumption) | assumption)
                          have hx18 := bt_at t162 x6_2
                          replace p18 := eq_true p18
                          replace q18 := eq_true q18
                          go_wp2
                          go_roundg k2
                          case measure => have := HJ5.out; have := HK2.out; omega
                          case rel => exact ⟨(wrap64 (x6_2 + 1)), (by first | rfl | (simp; done) | (simp [*]; done)), H', ⟨by have := HJ5.out; have := HK2.out; omega⟩, ⟨by repeat (first | (with_reducible first | exact HB.out | apply below_alloc | apply pw_below_drewN | apply below_drew1) | exact HB.out)⟩⟩
                    · rw [if_neg c34] at H
                      have c34b0 : decide (90 < (bt t162 x6_2)) = false := decide_eq_false c34
                      clear c34
                      have H' := Aside0.mk H
                      clear H
                      have p18 : 0 ≤ (x6_2 : Int) := of_decide_eq_true (by first | (with_reducible assumption) | assumption)
                      have q18 : x6_2 < (t162.size : Int) := of_decide_eq_true (by first | (with_reducible assumption) | assumption)
                      have hx18 := bt_at t162 x6_2
                      replace p18 := eq_true p18
                      replace q18 := eq_true q18
                      go_wp2
                      go_roundg k2
                      case measure => have := HJ5.out; have := HK2.out; omega
                      case rel => exact ⟨(wrap64 (x6_2 + 1)), (by first | rfl | (simp; done) | (simp [*]; done)), H', ⟨by have := HJ5.out; have := HK2.out; omega⟩, ⟨by repeat (first | (with_reducible first | exact HB.out | apply below_alloc | apply pw_below_drewN | apply below_drew1) | exact HB.out)⟩⟩
                · rw [if_neg c17] at H
                  exact absurd H (by simp)
              · rw [if_neg c16] at H
                exact absurd H (by simp)
            · rw [if_neg c15] at H
              have c15b0 : decide (x6_2 < x5_5) = false := decide_eq_false c15
              clear c15
              by_cases c49 : t161 = true
              · subst c49
                have H1 : (some ((wrap64 ((t162.size : Int) - x5_5)) == ((3 - ((l0.length : Int) % 3)) % 3))) = some r := by rw [if_pos rfl] at H; exact H
                clear H
                have H := H1
                clear H1
                obtain rfl := Option.some.inj H
                go_wp2
                go_ret
                exact ⟨by first | rfl | (simp [errW_none, errW_some] <;> rfl) | (simp [*, errW_none, errW_some] <;> rfl), by repeat (first | (with_reducible first | exact HB.out | apply below_alloc | apply pw_below_drewN | apply below_drew1) | exact HB.out)⟩
              · replace c49 := Bool.eq_false_iff.mpr c49
                subst c49
                have H1 : (some false) = some r := by rw [if_neg (show ¬ (false = true) by decide)] at H; exact H
                clear H
                have H := H1
                clear H1
                obtain rfl := Option.some.inj H
                go_wp2
                go_ret
                exact ⟨by first | rfl | (simp [errW_none, errW_some] <;> rfl) | (simp [*, errW_none, errW_some] <;> rfl), by repeat (first | (with_reducible first | exact HB.out | apply below_alloc | apply pw_below_drewN | apply below_drew1) | exact HB.out)⟩

/-- THE ONE PURE STATEMENT of butterylaw02_BaseSigns: yours. -/
def butterylaw02_BaseSigns.Pure : Prop := ∀ (l0 : List Int), l0.length ≤ maxLen → l0.length * 1 ≤ 140737488351232 → (∀ x ∈ l0, (Lit.int .u8 x).wf = true) → ∃ k, butterylaw02_BaseSigns.f k l0 = some true
theorem butterylaw02_BaseSigns.walk (P : butterylaw02_BaseSigns.Pure) (a0 : Option Addr) (len0 cap0 : Nat) (z0 : List Int) (w : World) (w0 : (a0 = none ∧ len0 = 0 ∧ cap0 = 0 ∧ z0 = []) ∨ ∃ x, a0 = some x ∧ len0 ≤ cap0 ∧ cap0 ≤ maxLen ∧ z0.length = cap0 ∧ (∀ i, i < z0.length → w.cell? (x.add i) = some (.int .u8 (z0.getD i 0))) ∧ ∀ n ∈ z0, (Lit.int .u8 n).wf = true) (y0 : len0 * 1 ≤ 140737488351232) :
    Calls Tryd.prog 7 #[.slice a0 len0 cap0] w fun e w' => e = .returned (.bool true) ∧ Below w.heap.size w w' := by
  obtain ⟨l0, rfl, hr0, hm0, hw0, hc0⟩ := ReadsInt.ofRowC w0
  obtain ⟨k, h⟩ := P l0 hm0 y0 hw0
  refine (butterylaw02_BaseSigns.calls k _ _ l0 true w (Kd.C_of_reads (d := (0 : Int)) (h1 := fun _ => rfl) hr0) hc0 h).mono ?_
  rintro e w' ⟨rfl, hd⟩
  exact ⟨rfl, hd⟩

end Go.Proofs.YtldcahhhibgofaaDoor.Hb
