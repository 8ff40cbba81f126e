-- Written by this session's own program (wip/hprint.py) out of the translation, over hand-proved contracts. Lean checks it.
import Derived.Test.YtkbhnnmngmdkdaaHpx0
namespace Go.Proofs.Ytkbhnnmngmdkdaa.Hp
open Go.RowKit Go.Proofs.YtkbhnnmngmdkdaaW.PrintWords Go.Proofs.YtkbhnnmngmdkdaaW.PrintLast Go.Proofs.YtkbhnnmngmdkdaaW.PrintMore
attribute [local go_sem] max2_int min2_int max_two min_two max_three min_three max_four min_four   -- for this text's walks alone
set_option linter.unusedVariables false
set_option linter.unusedSimpArgs false

/-! ### butteryref16_status: function 21 -/
mutual
def butteryref16_status.j0 : Nat → Int → Int → Int → Bool → Int → Int → Bool → Bool → Bool → Option (Int)
  | 0, _, _, _, _, _, _, _, _, _ => none
  | k + 1, x1, x2, x3, x9, x121000, x121001, x121002, x121003, x121004 => if (wrap64 (x1 + x2)) > x3 then (butteryref16_status.j1 k x1 x2 x3 true x121000 x121001 x121002 x121003 x121004) else (if x9 = true then (butteryref16_status.j1 k x1 x2 x3 true x121000 x121001 x121002 x121003 x121004) else (if x121003 = true then (if x121002 = true then (butteryref16_status.j1 k x1 x2 x3 false x121000 x121001 x121002 x121003 x121004) else (butteryref16_status.j1 k x1 x2 x3 (decide (x2 > 0)) x121000 x121001 x121002 x121003 x121004)) else (if (wrap64 (x1 + x2)) < x3 then (butteryref16_status.j1 k x1 x2 x3 true x121000 x121001 x121002 x121003 x121004) else (if x121002 = true then (butteryref16_status.j1 k x1 x2 x3 false x121000 x121001 x121002 x121003 x121004) else (butteryref16_status.j1 k x1 x2 x3 (decide (x2 > 0)) x121000 x121001 x121002 x121003 x121004)))))
def butteryref16_status.j1 : Nat → Int → Int → Int → Bool → Int → Int → Bool → Bool → Bool → Option (Int)
  | 0, _, _, _, _, _, _, _, _, _ => none
  | k + 1, x1, x2, x3, x54, x121000, x121001, x121002, x121003, x121004 => if x54 = true then (some 4) else (if x121002 = true then (if x2 < 1 then (butteryref16_status.j2 k x1 x2 x3 true) else (butteryref16_status.j2 k x1 x2 x3 (decide (x2 > 250)))) else (butteryref16_status.j2 k x1 x2 x3 false))
def butteryref16_status.j2 : Nat → Int → Int → Int → Bool → Option (Int)
  | 0, _, _, _, _ => none
  | k + 1, x1, x2, x3, x64 => if x64 = true then (some 4) else (if (wrap64 ((wrap64 (x3 - x1)) - x2)) > 1000 then (some 3) else (some 0))
end
def butteryref16_status.f (k : Nat) (a0_0 : Int) (a0_1 : Int) (a0_2 : Bool) (a0_3 : Bool) (a0_4 : Bool) (a1 : Int) (a2 : Int) (a3 : Int) : Option (Int) := if a0_0 < 0 then (some 129) else (if a0_0 = 13 then (if a1 = 0 then (butteryref16_status.j0 k a1 a2 a3 false a0_0 a0_1 a0_2 a0_3 a0_4) else (butteryref16_status.j0 k a1 a2 a3 (a1 != 4) a0_0 a0_1 a0_2 a0_3 a0_4)) else (butteryref16_status.j0 k a1 a2 a3 (a1 != a0_1) a0_0 a0_1 a0_2 a0_3 a0_4))
theorem butteryref16_status.mono_l : ∀ k, (∀ y0 y1 y2 y3 y4 y5 y6 y7 y8, LeO (butteryref16_status.j0 k y0 y1 y2 y3 y4 y5 y6 y7 y8) (butteryref16_status.j0 (k + 1) y0 y1 y2 y3 y4 y5 y6 y7 y8)) ∧ (∀ y0 y1 y2 y3 y4 y5 y6 y7 y8, LeO (butteryref16_status.j1 k y0 y1 y2 y3 y4 y5 y6 y7 y8) (butteryref16_status.j1 (k + 1) y0 y1 y2 y3 y4 y5 y6 y7 y8)) ∧ (∀ y0 y1 y2 y3, LeO (butteryref16_status.j2 k y0 y1 y2 y3) (butteryref16_status.j2 (k + 1) y0 y1 y2 y3))
  | 0 => ⟨fun _ _ _ _ _ _ _ _ _ r h => by simp [butteryref16_status.j0] at h, fun _ _ _ _ _ _ _ _ _ r h => by simp [butteryref16_status.j1] at h, fun _ _ _ _ r h => by simp [butteryref16_status.j2] at h⟩
  | k + 1 => by
    obtain ⟨ih0, ih1, ih2⟩ := butteryref16_status.mono_l k
    refine ⟨?_, ?_, ?_⟩
    · intro y0 y1 y2 y3 y4 y5 y6 y7 y8
      unfold butteryref16_status.j0
      repeat' first
      | (with_reducible exact ih0 _ _ _ _ _ _ _ _ _)
      | (with_reducible exact ih1 _ _ _ _ _ _ _ _ _)
      | (with_reducible exact ih2 _ _ _ _)
      | (with_reducible exact LeO.refl _)
      | (with_reducible exact LeO.none _)
      | (with_reducible refine LeO.ite ?_ ?_)
      | (with_reducible refine LeO.bind ?_ (fun _ => ?_))
      | exact ih0 _ _ _ _ _ _ _ _ _
      | exact ih1 _ _ _ _ _ _ _ _ _
      | exact ih2 _ _ _ _
      | exact LeO.none _
      | refine LeO.ite ?_ ?_
      | refine LeO.bind ?_ (fun _ => ?_)
    · intro y0 y1 y2 y3 y4 y5 y6 y7 y8
      unfold butteryref16_status.j1
      repeat' first
      | (with_reducible exact ih0 _ _ _ _ _ _ _ _ _)
      | (with_reducible exact ih1 _ _ _ _ _ _ _ _ _)
      | (with_reducible exact ih2 _ _ _ _)
      | (with_reducible exact LeO.refl _)
      | (with_reducible exact LeO.none _)
      | (with_reducible refine LeO.ite ?_ ?_)
      | (with_reducible refine LeO.bind ?_ (fun _ => ?_))
      | exact ih0 _ _ _ _ _ _ _ _ _
      | exact ih1 _ _ _ _ _ _ _ _ _
      | exact ih2 _ _ _ _
      | exact LeO.none _
      | refine LeO.ite ?_ ?_
      | refine LeO.bind ?_ (fun _ => ?_)
    · intro y0 y1 y2 y3
      unfold butteryref16_status.j2
      repeat' first
      | (with_reducible exact ih0 _ _ _ _ _ _ _ _ _)
      | (with_reducible exact ih1 _ _ _ _ _ _ _ _ _)
      | (with_reducible exact ih2 _ _ _ _)
      | (with_reducible exact LeO.refl _)
      | (with_reducible exact LeO.none _)
      | (with_reducible refine LeO.ite ?_ ?_)
      | (with_reducible refine LeO.bind ?_ (fun _ => ?_))
      | exact ih0 _ _ _ _ _ _ _ _ _
      | exact ih1 _ _ _ _ _ _ _ _ _
      | exact ih2 _ _ _ _
      | exact LeO.none _
      | refine LeO.ite ?_ ?_
      | refine LeO.bind ?_ (fun _ => ?_)
theorem butteryref16_status.mono : ∀ a0 a1 a2 a3 a4 a5 a6 a7 k, LeO (butteryref16_status.f k a0 a1 a2 a3 a4 a5 a6 a7) (butteryref16_status.f (k + 1) a0 a1 a2 a3 a4 a5 a6 a7) := by
  intro a0 a1 a2 a3 a4 a5 a6 a7 k
  obtain ⟨ih0, ih1, ih2⟩ := butteryref16_status.mono_l k
  unfold butteryref16_status.f
  repeat' first
      | (with_reducible exact ih0 _ _ _ _ _ _ _ _ _)
      | (with_reducible exact ih1 _ _ _ _ _ _ _ _ _)
      | (with_reducible exact ih2 _ _ _ _)
      | (with_reducible exact LeO.refl _)
      | (with_reducible exact LeO.none _)
      | (with_reducible refine LeO.ite ?_ ?_)
      | (with_reducible refine LeO.bind ?_ (fun _ => ?_))
      | exact ih0 _ _ _ _ _ _ _ _ _
      | exact ih1 _ _ _ _ _ _ _ _ _
      | exact ih2 _ _ _ _
      | exact LeO.none _
      | refine LeO.ite ?_ ?_
      | refine LeO.bind ?_ (fun _ => ?_)
set_option maxHeartbeats 8000000 in
set_option maxRecDepth 100000 in
theorem butteryref16_status.calls (k : Nat) (a0_0 : Int) (a0_1 : Int) (a0_2 : Bool) (a0_3 : Bool) (a0_4 : Bool) (a1 : Int) (a2 : Int) (a3 : Int) (r : Int) (w : World) (h : butteryref16_status.f k a0_0 a0_1 a0_2 a0_3 a0_4 a1 a2 a3 = some r) :
    Calls Try.prog 21 #[.agg #[.int .i64 a0_0, .int .i64 a0_1, .bool a0_2, .bool a0_3, .bool a0_4], .int .i64 a1, .int .i64 a2, .int .i64 a3] w fun e w' => e = .returned (.int .i64 r) ∧ Below w.heap.size w w' := by
  have hu47 := Try.underlying47
  have HB := Aside0.mk (Below.refl w.heap.size w)
  have H : (if a0_0 < 0 then (some 129) else (if a0_0 = 13 then (if a1 = 0 then (butteryref16_status.j0 k a1 a2 a3 false a0_0 a0_1 a0_2 a0_3 a0_4) else (butteryref16_status.j0 k a1 a2 a3 (a1 != 4) a0_0 a0_1 a0_2 a0_3 a0_4)) else (butteryref16_status.j0 k a1 a2 a3 (a1 != a0_1) a0_0 a0_1 a0_2 a0_3 a0_4))) = some r := h
  clear h
  by_cases c5 : a0_0 < 0
  · rw [if_pos c5] at H
    have c5b0 : decide (a0_0 < 0) = true := decide_eq_true c5
    clear c5
    obtain rfl := Option.some.inj H
    go_enter Try.func21, Try.ntmps21
    go_wp2_with (first | ((with_reducible refine gate_dst (N := 4) rfl ?_); refine box_event ?hg (N := 4) ?hd (cs := #[.int .i64 a0_0, .int .i64 a0_1, .bool a0_2, .bool a0_3, .bool a0_4]) (t := 47) ?hr ?_; (case hd => rfl); (case hg => rfl); (case hr => first | (go_simp; done) | (go_simp; rfl)); intro gb120 hg w6 hbox hb; have n0_ := Aside0.mk (below_step (by repeat (first | (with_reducible first | exact HB.out | apply below_alloc | apply pw_below_drewN | apply below_drew1) | exact HB.out)) hb); have n1_ := Aside0.mk (hbox); have n2_ := Aside0.mk ((by rw [hg]; exact (below_size (by repeat (first | (with_reducible first | exact HB.out | apply below_alloc | apply pw_below_drewN | apply below_drew1) | exact HB.out))) : w.heap.size ≤ gb120)); have n3_ := Aside0.mk ((by rw [hg]; exact (below_size (by repeat (first | (with_reducible first | exact HB.out | apply below_alloc | apply pw_below_drewN | apply below_drew1) | exact HB.out))) : w.heap.size ≤ gb120)); clear HB; have HB := n0_; have BK120 := n1_; have GW120 := n2_; have GE120 := n3_; clear n0_ n1_ n2_ n3_; clear hb hbox hg; have hcz7_0 : w6.cell? ⟨gb120, 0, none⟩ = some (.int .i64 a0_0) := (blk_cell BK120.out 0).trans rfl; have hcz7_1 : w6.cell? ⟨gb120, 1, none⟩ = some (.int .i64 a0_1) := (blk_cell BK120.out 1).trans rfl; have hcz7_2 : w6.cell? ⟨gb120, 2, none⟩ = some (.bool a0_2) := (blk_cell BK120.out 2).trans rfl; have hcz7_3 : w6.cell? ⟨gb120, 3, none⟩ = some (.bool a0_3) := (blk_cell BK120.out 3).trans rfl; have hcz7_4 : w6.cell? ⟨gb120, 4, none⟩ = some (.bool a0_4) := (blk_cell BK120.out 4).trans rfl; have hfz7_0 := blk_frozen BK120.out 0; have hfz7_1 := blk_frozen BK120.out 1; have hfz7_2 := blk_frozen BK120.out 2; have hfz7_3 := blk_frozen BK120.out 3; have hfz7_4 := blk_frozen BK120.out 4))
    go_ret
    exact ⟨by first | rfl | (simp [errW_none, errW_some] <;> rfl) | (simp [*, errW_none, errW_some] <;> rfl), by repeat (first | (with_reducible first | exact HB.out | apply below_alloc | apply pw_below_drewN | apply below_drew1 | refine below_set ?_ GE120.out) | exact HB.out)⟩
  · rw [if_neg c5] at H
    have c5b0 : decide (a0_0 < 0) = false := decide_eq_false c5
    clear c5
    have HC8 := Aside0.mk H
    clear H
    go_enter Try.func21, Try.ntmps21
    go_upto_if 19 with (first | ((with_reducible refine gate_dst (N := 4) rfl ?_); refine box_event ?hg (N := 4) ?hd (cs := #[.int .i64 a0_0, .int .i64 a0_1, .bool a0_2, .bool a0_3, .bool a0_4]) (t := 47) ?hr ?_; (case hd => rfl); (case hg => rfl); (case hr => first | (go_simp; done) | (go_simp; rfl)); intro gb120 hg w9 hbox hb; have n0_ := Aside0.mk (below_step (by repeat (first | (with_reducible first | exact HB.out | apply below_alloc | apply pw_below_drewN | apply below_drew1) | exact HB.out)) hb); have n1_ := Aside0.mk (hbox); have n2_ := Aside0.mk ((by rw [hg]; exact (below_size (by repeat (first | (with_reducible first | exact HB.out | apply below_alloc | apply pw_below_drewN | apply below_drew1) | exact HB.out))) : w.heap.size ≤ gb120)); have n3_ := Aside0.mk ((by rw [hg]; exact (below_size (by repeat (first | (with_reducible first | exact HB.out | apply below_alloc | apply pw_below_drewN | apply below_drew1) | exact HB.out))) : w.heap.size ≤ gb120)); clear HB; have HB := n0_; have BK120 := n1_; have GW120 := n2_; have GE120 := n3_; clear n0_ n1_ n2_ n3_; clear hb hbox hg; have hcz10_0 : w9.cell? ⟨gb120, 0, none⟩ = some (.int .i64 a0_0) := (blk_cell BK120.out 0).trans rfl; have hcz10_1 : w9.cell? ⟨gb120, 1, none⟩ = some (.int .i64 a0_1) := (blk_cell BK120.out 1).trans rfl; have hcz10_2 : w9.cell? ⟨gb120, 2, none⟩ = some (.bool a0_2) := (blk_cell BK120.out 2).trans rfl; have hcz10_3 : w9.cell? ⟨gb120, 3, none⟩ = some (.bool a0_3) := (blk_cell BK120.out 3).trans rfl; have hcz10_4 : w9.cell? ⟨gb120, 4, none⟩ = some (.bool a0_4) := (blk_cell BK120.out 4).trans rfl; have hfz10_0 := blk_frozen BK120.out 0; have hfz10_1 := blk_frozen BK120.out 1; have hfz10_2 := blk_frozen BK120.out 2; have hfz10_3 := blk_frozen BK120.out 3; have hfz10_4 := blk_frozen BK120.out 4))
    (try simp only [Act.put, List.setIfInBounds_toArray, List.set_cons_zero, List.set_cons_succ])
    go_cut [9] (fun v9 wc => ∃ (kq : Nat) (x9_7 : Bool), v9 = .bool x9_7 ∧ Aside0 (butteryref16_status.j0 kq a1 a2 a3 x9_7 a0_0 a0_1 a0_2 a0_3 a0_4 = some r) ∧ Aside0 (kq ≤ k) ∧ Aside0 (wc.heap[gb120]? = some (.cells #[.int .i64 a0_0, .int .i64 a0_1, .bool a0_2, .bool a0_3, .bool a0_4] 47 (0, 0))) ∧ Aside0 (Below w.heap.size w wc))
    case first =>
      have H := HC8.out
      clear HC8
      by_cases c11 : a0_0 = 13
      · rw [if_pos c11] at H
        have c11b0 : (a0_0 == 13) = true := beq_iff_eq.mpr c11
        have c11b1 : (a0_0 != 13) = false := bne_eq_false_iff_eq.mpr c11
        clear c11
        (first | rw [c11b0] | (simp only [i64_w, i32_w]; rw [c11b0]) | skip)
        by_cases c12 : a1 = 0
        · rw [if_pos c12] at H
          have c12b0 : (a1 == 0) = true := beq_iff_eq.mpr c12
          have c12b1 : (a1 != 0) = false := bne_eq_false_iff_eq.mpr c12
          clear c12
          have H' := Aside0.mk H
          clear H
          go_wp2
          go_meet
          case rel => exact ⟨_, (false), (by first | rfl | (simp; done) | (simp [*]; done)), H', ⟨by first | omega | exact Nat.le_refl _⟩, ⟨by (with_reducible repeat (first | refine blk_drewN ?_ _ | refine blk_drew ?_ | refine blk_alloc ?_ _)); exact BK120.out⟩, ⟨by repeat (first | (with_reducible first | exact HB.out | apply below_alloc | apply pw_below_drewN | apply below_drew1 | refine below_set ?_ GE120.out) | exact HB.out)⟩⟩
        · rw [if_neg c12] at H
          have c12b0 : (a1 == 0) = false := beq_eq_false_iff_ne.mpr c12
          have c12b1 : (a1 != 0) = true := bne_iff_ne.mpr c12
          have H' := Aside0.mk H
          clear H
          go_wp2
          go_meet
          case rel => exact ⟨_, ((a1 != 4)), (by first | rfl | (simp; done) | (simp [*]; done)), H', ⟨by first | omega | exact Nat.le_refl _⟩, ⟨by (with_reducible repeat (first | refine blk_drewN ?_ _ | refine blk_drew ?_ | refine blk_alloc ?_ _)); exact BK120.out⟩, ⟨by repeat (first | (with_reducible first | exact HB.out | apply below_alloc | apply pw_below_drewN | apply below_drew1 | refine below_set ?_ GE120.out) | exact HB.out)⟩⟩
      · rw [if_neg c11] at H
        have c11b0 : (a0_0 == 13) = false := beq_eq_false_iff_ne.mpr c11
        have c11b1 : (a0_0 != 13) = true := bne_iff_ne.mpr c11
        (first | rw [c11b0] | (simp only [i64_w, i32_w]; rw [c11b0]) | skip)
        have H' := Aside0.mk H
        clear H
        go_wp2
        go_meet
        case rel => exact ⟨_, ((a1 != a0_1)), (by first | rfl | (simp; done) | (simp [*]; done)), H', ⟨by first | omega | exact Nat.le_refl _⟩, ⟨by (with_reducible repeat (first | refine blk_drewN ?_ _ | refine blk_drew ?_ | refine blk_alloc ?_ _)); exact BK120.out⟩, ⟨by repeat (first | (with_reducible first | exact HB.out | apply below_alloc | apply pw_below_drewN | apply below_drew1 | refine below_set ?_ GE120.out) | exact HB.out)⟩⟩
    case rest =>
      clear HC8
      try clear c1
      try clear c2
      try clear p2
      try clear c5
      try clear c5b0
      try clear c11
      try clear c11b0
      try clear c11b1
      try clear c12
      try clear c12b0
      try clear c12b1
      try clear hcz10_0
      try clear hcz10_1
      try clear hcz10_2
      try clear hcz10_3
      try clear hcz10_4
      try clear hcz7_0
      try clear hcz7_1
      try clear hcz7_2
      try clear hcz7_3
      try clear hcz7_4
      try clear hfz10_0
      try clear hfz10_1
      try clear hfz10_2
      try clear hfz10_3
      try clear hfz10_4
      try clear hfz7_0
      try clear hfz7_1
      try clear hfz7_2
      try clear hfz7_3
      try clear hfz7_4
      obtain ⟨kq, x9_7, rfl, HA, HJ7, BK120, HB⟩ := hcut
      cases kq with
      | zero => exact absurd HA.out (by simp [butteryref16_status.j0])
      | succ kj7 =>
        have H := HA.out
        clear HA
        simp only [butteryref16_status.j0] at H
        have HC13 := Aside0.mk H
        clear H
        go_upto_region 6 with (fail)
        go_cut [54] (fun v54 wc => ∃ (kq : Nat) (x54_12 : Bool), v54 = .bool x54_12 ∧ Aside0 (butteryref16_status.j1 kq a1 a2 a3 x54_12 a0_0 a0_1 a0_2 a0_3 a0_4 = some r) ∧ Aside0 (kq ≤ kj7) ∧ Aside0 (wc.heap[gb120]? = some (.cells #[.int .i64 a0_0, .int .i64 a0_1, .bool a0_2, .bool a0_3, .bool a0_4] 47 (0, 0))) ∧ Aside0 (Below w.heap.size w wc))
        case first =>
          have H := HC13.out
          clear HC13
          by_cases c14 : (wrap64 (a1 + a2)) > a3
          · rw [if_pos c14] at H
            have c14b0 : decide (a3 < (wrap64 (a1 + a2))) = true := decide_eq_true c14
            clear c14
            (first | rw [c14b0] | (simp only [i64_w, i32_w]; rw [c14b0]) | skip)
            have H' := Aside0.mk H
            clear H
            go_wp2
            go_meet
            case rel => exact ⟨_, (true), (by first | rfl | (simp; done) | (simp [*]; done)), H', ⟨by have := HJ7.out; first | omega | exact Nat.le_refl _⟩, ⟨by (with_reducible repeat (first | refine blk_drewN ?_ _ | refine blk_drew ?_ | refine blk_alloc ?_ _)); exact BK120.out⟩, ⟨by repeat (first | (with_reducible first | exact HB.out | apply below_alloc | apply pw_below_drewN | apply below_drew1 | refine below_set ?_ GE120.out) | exact HB.out)⟩⟩
          · rw [if_neg c14] at H
            have c14b0 : decide (a3 < (wrap64 (a1 + a2))) = false := decide_eq_false c14
            clear c14
            (first | rw [c14b0] | (simp only [i64_w, i32_w]; rw [c14b0]) | skip)
            by_cases c15 : x9_7 = true
            · subst c15
              have H1 : (butteryref16_status.j1 kj7 a1 a2 a3 true a0_0 a0_1 a0_2 a0_3 a0_4) = some r := by rw [if_pos rfl] at H; exact H
              clear H
              have H := H1
              clear H1
              have H' := Aside0.mk H
              clear H
              go_wp2
              go_meet
              case rel => exact ⟨_, (true), (by first | rfl | (simp; done) | (simp [*]; done)), H', ⟨by have := HJ7.out; first | omega | exact Nat.le_refl _⟩, ⟨by (with_reducible repeat (first | refine blk_drewN ?_ _ | refine blk_drew ?_ | refine blk_alloc ?_ _)); exact BK120.out⟩, ⟨by repeat (first | (with_reducible first | exact HB.out | apply below_alloc | apply pw_below_drewN | apply below_drew1 | refine below_set ?_ GE120.out) | exact HB.out)⟩⟩
            · replace c15 := Bool.eq_false_iff.mpr c15
              subst c15
              have H1 : (if a0_3 = true then (if a0_2 = true then (butteryref16_status.j1 kj7 a1 a2 a3 false a0_0 a0_1 a0_2 a0_3 a0_4) else (butteryref16_status.j1 kj7 a1 a2 a3 (decide (a2 > 0)) a0_0 a0_1 a0_2 a0_3 a0_4)) else (if (wrap64 (a1 + a2)) < a3 then (butteryref16_status.j1 kj7 a1 a2 a3 true a0_0 a0_1 a0_2 a0_3 a0_4) else (if a0_2 = true then (butteryref16_status.j1 kj7 a1 a2 a3 false a0_0 a0_1 a0_2 a0_3 a0_4) else (butteryref16_status.j1 kj7 a1 a2 a3 (decide (a2 > 0)) a0_0 a0_1 a0_2 a0_3 a0_4)))) = some r := by rw [if_neg (show ¬ (false = true) by decide)] at H; exact H
              clear H
              have H := H1
              clear H1
              by_cases c16 : a0_3 = true
              · subst c16
                have H1 : (if a0_2 = true then (butteryref16_status.j1 kj7 a1 a2 a3 false a0_0 a0_1 a0_2 true a0_4) else (butteryref16_status.j1 kj7 a1 a2 a3 (decide (a2 > 0)) a0_0 a0_1 a0_2 true a0_4)) = some r := by rw [if_pos rfl] at H; exact H
                clear H
                have H := H1
                clear H1
                by_cases c17 : a0_2 = true
                · subst c17
                  have H1 : (butteryref16_status.j1 kj7 a1 a2 a3 false a0_0 a0_1 true true a0_4) = some r := by rw [if_pos rfl] at H; exact H
                  clear H
                  have H := H1
                  clear H1
                  have H' := Aside0.mk H
                  clear H
                  have hcz18_0 : wc.cell? ⟨gb120, 0, none⟩ = some (.int .i64 a0_0) := (blk_cell BK120.out 0).trans rfl
                  have hcz18_1 : wc.cell? ⟨gb120, 1, none⟩ = some (.int .i64 a0_1) := (blk_cell BK120.out 1).trans rfl
                  have hcz18_2 : wc.cell? ⟨gb120, 2, none⟩ = some (.bool true) := (blk_cell BK120.out 2).trans rfl
                  have hcz18_3 : wc.cell? ⟨gb120, 3, none⟩ = some (.bool true) := (blk_cell BK120.out 3).trans rfl
                  have hcz18_4 : wc.cell? ⟨gb120, 4, none⟩ = some (.bool a0_4) := (blk_cell BK120.out 4).trans rfl
                  have hfz18_0 := blk_frozen BK120.out 0
                  have hfz18_1 := blk_frozen BK120.out 1
                  have hfz18_2 := blk_frozen BK120.out 2
                  have hfz18_3 := blk_frozen BK120.out 3
                  have hfz18_4 := blk_frozen BK120.out 4
                  go_wp2
                  go_meet
                  case rel => exact ⟨_, (false), (by first | rfl | (simp; done) | (simp [*]; done)), H', ⟨by have := HJ7.out; first | omega | exact Nat.le_refl _⟩, ⟨by (with_reducible repeat (first | refine blk_drewN ?_ _ | refine blk_drew ?_ | refine blk_alloc ?_ _)); exact BK120.out⟩, ⟨by repeat (first | (with_reducible first | exact HB.out | apply below_alloc | apply pw_below_drewN | apply below_drew1 | refine below_set ?_ GE120.out) | exact HB.out)⟩⟩
                · replace c17 := Bool.eq_false_iff.mpr c17
                  subst c17
                  have H1 : (butteryref16_status.j1 kj7 a1 a2 a3 (decide (a2 > 0)) a0_0 a0_1 false true a0_4) = some r := by rw [if_neg (show ¬ (false = true) by decide)] at H; exact H
                  clear H
                  have H := H1
                  clear H1
                  have H' := Aside0.mk H
                  clear H
                  have hcz19_0 : wc.cell? ⟨gb120, 0, none⟩ = some (.int .i64 a0_0) := (blk_cell BK120.out 0).trans rfl
                  have hcz19_1 : wc.cell? ⟨gb120, 1, none⟩ = some (.int .i64 a0_1) := (blk_cell BK120.out 1).trans rfl
                  have hcz19_2 : wc.cell? ⟨gb120, 2, none⟩ = some (.bool false) := (blk_cell BK120.out 2).trans rfl
                  have hcz19_3 : wc.cell? ⟨gb120, 3, none⟩ = some (.bool true) := (blk_cell BK120.out 3).trans rfl
                  have hcz19_4 : wc.cell? ⟨gb120, 4, none⟩ = some (.bool a0_4) := (blk_cell BK120.out 4).trans rfl
                  have hfz19_0 := blk_frozen BK120.out 0
                  have hfz19_1 := blk_frozen BK120.out 1
                  have hfz19_2 := blk_frozen BK120.out 2
                  have hfz19_3 := blk_frozen BK120.out 3
                  have hfz19_4 := blk_frozen BK120.out 4
                  go_wp2
                  go_meet
                  case rel => exact ⟨_, (decide (a2 > 0)), (by first | rfl | (simp; done) | (simp [*]; done)), H', ⟨by have := HJ7.out; first | omega | exact Nat.le_refl _⟩, ⟨by (with_reducible repeat (first | refine blk_drewN ?_ _ | refine blk_drew ?_ | refine blk_alloc ?_ _)); exact BK120.out⟩, ⟨by repeat (first | (with_reducible first | exact HB.out | apply below_alloc | apply pw_below_drewN | apply below_drew1 | refine below_set ?_ GE120.out) | exact HB.out)⟩⟩
              · replace c16 := Bool.eq_false_iff.mpr c16
                subst c16
                have H1 : (if (wrap64 (a1 + a2)) < a3 then (butteryref16_status.j1 kj7 a1 a2 a3 true a0_0 a0_1 a0_2 false a0_4) else (if a0_2 = true then (butteryref16_status.j1 kj7 a1 a2 a3 false a0_0 a0_1 a0_2 false a0_4) else (butteryref16_status.j1 kj7 a1 a2 a3 (decide (a2 > 0)) a0_0 a0_1 a0_2 false a0_4))) = some r := by rw [if_neg (show ¬ (false = true) by decide)] at H; exact H
                clear H
                have H := H1
                clear H1
                by_cases c20 : (wrap64 (a1 + a2)) < a3
                · rw [if_pos c20] at H
                  have c20b0 : decide ((wrap64 (a1 + a2)) < a3) = true := decide_eq_true c20
                  clear c20
                  have H' := Aside0.mk H
                  clear H
                  have hcz21_0 : wc.cell? ⟨gb120, 0, none⟩ = some (.int .i64 a0_0) := (blk_cell BK120.out 0).trans rfl
                  have hcz21_1 : wc.cell? ⟨gb120, 1, none⟩ = some (.int .i64 a0_1) := (blk_cell BK120.out 1).trans rfl
                  have hcz21_2 : wc.cell? ⟨gb120, 2, none⟩ = some (.bool a0_2) := (blk_cell BK120.out 2).trans rfl
                  have hcz21_3 : wc.cell? ⟨gb120, 3, none⟩ = some (.bool false) := (blk_cell BK120.out 3).trans rfl
                  have hcz21_4 : wc.cell? ⟨gb120, 4, none⟩ = some (.bool a0_4) := (blk_cell BK120.out 4).trans rfl
                  have hfz21_0 := blk_frozen BK120.out 0
                  have hfz21_1 := blk_frozen BK120.out 1
                  have hfz21_2 := blk_frozen BK120.out 2
                  have hfz21_3 := blk_frozen BK120.out 3
                  have hfz21_4 := blk_frozen BK120.out 4
                  go_wp2
                  go_meet
                  case rel => exact ⟨_, (true), (by first | rfl | (simp; done) | (simp [*]; done)), H', ⟨by have := HJ7.out; first | omega | exact Nat.le_refl _⟩, ⟨by (with_reducible repeat (first | refine blk_drewN ?_ _ | refine blk_drew ?_ | refine blk_alloc ?_ _)); exact BK120.out⟩, ⟨by repeat (first | (with_reducible first | exact HB.out | apply below_alloc | apply pw_below_drewN | apply below_drew1 | refine below_set ?_ GE120.out) | exact HB.out)⟩⟩
                · rw [if_neg c20] at H
                  have c20b0 : decide ((wrap64 (a1 + a2)) < a3) = false := decide_eq_false c20
                  clear c20
                  by_cases c22 : a0_2 = true
                  · subst c22
                    have H1 : (butteryref16_status.j1 kj7 a1 a2 a3 false a0_0 a0_1 true false a0_4) = some r := by rw [if_pos rfl] at H; exact H
                    clear H
                    have H := H1
                    clear H1
                    have H' := Aside0.mk H
                    clear H
                    have hcz23_0 : wc.cell? ⟨gb120, 0, none⟩ = some (.int .i64 a0_0) := (blk_cell BK120.out 0).trans rfl
                    have hcz23_1 : wc.cell? ⟨gb120, 1, none⟩ = some (.int .i64 a0_1) := (blk_cell BK120.out 1).trans rfl
                    have hcz23_2 : wc.cell? ⟨gb120, 2, none⟩ = some (.bool true) := (blk_cell BK120.out 2).trans rfl
                    have hcz23_3 : wc.cell? ⟨gb120, 3, none⟩ = some (.bool false) := (blk_cell BK120.out 3).trans rfl
                    have hcz23_4 : wc.cell? ⟨gb120, 4, none⟩ = some (.bool a0_4) := (blk_cell BK120.out 4).trans rfl
                    have hfz23_0 := blk_frozen BK120.out 0
                    have hfz23_1 := blk_frozen BK120.out 1
                    have hfz23_2 := blk_frozen BK120.out 2
                    have hfz23_3 := blk_frozen BK120.out 3
                    have hfz23_4 := blk_frozen BK120.out 4
                    go_wp2
                    go_meet
                    case rel => exact ⟨_, (false), (by first | rfl | (simp; done) | (simp [*]; done)), H', ⟨by have := HJ7.out; first | omega | exact Nat.le_refl _⟩, ⟨by (with_reducible repeat (first | refine blk_drewN ?_ _ | refine blk_drew ?_ | refine blk_alloc ?_ _)); exact BK120.out⟩, ⟨by repeat (first | (with_reducible first | exact HB.out | apply below_alloc | apply pw_below_drewN | apply below_drew1 | refine below_set ?_ GE120.out) | exact HB.out)⟩⟩
                  · replace c22 := Bool.eq_false_iff.mpr c22
                    subst c22
                    have H1 : (butteryref16_status.j1 kj7 a1 a2 a3 (decide (a2 > 0)) a0_0 a0_1 false false a0_4) = some r := by rw [if_neg (show ¬ (false = true) by decide)] at H; exact H
                    clear H
                    have H := H1
                    clear H1
                    have H' := Aside0.mk H
                    clear H
                    have hcz24_0 : wc.cell? ⟨gb120, 0, none⟩ = some (.int .i64 a0_0) := (blk_cell BK120.out 0).trans rfl
                    have hcz24_1 : wc.cell? ⟨gb120, 1, none⟩ = some (.int .i64 a0_1) := (blk_cell BK120.out 1).trans rfl
                    have hcz24_2 : wc.cell? ⟨gb120, 2, none⟩ = some (.bool false) := (blk_cell BK120.out 2).trans rfl
                    have hcz24_3 : wc.cell? ⟨gb120, 3, none⟩ = some (.bool false) := (blk_cell BK120.out 3).trans rfl
                    have hcz24_4 : wc.cell? ⟨gb120, 4, none⟩ = some (.bool a0_4) := (blk_cell BK120.out 4).trans rfl
                    have hfz24_0 := blk_frozen BK120.out 0
                    have hfz24_1 := blk_frozen BK120.out 1
                    have hfz24_2 := blk_frozen BK120.out 2
                    have hfz24_3 := blk_frozen BK120.out 3
                    have hfz24_4 := blk_frozen BK120.out 4
                    go_wp2
                    go_meet
                    case rel => exact ⟨_, (decide (a2 > 0)), (by first | rfl | (simp; done) | (simp [*]; done)), H', ⟨by have := HJ7.out; first | omega | exact Nat.le_refl _⟩, ⟨by (with_reducible repeat (first | refine blk_drewN ?_ _ | refine blk_drew ?_ | refine blk_alloc ?_ _)); exact BK120.out⟩, ⟨by repeat (first | (with_reducible first | exact HB.out | apply below_alloc | apply pw_below_drewN | apply below_drew1 | refine below_set ?_ GE120.out) | exact HB.out)⟩⟩
        case rest =>
          clear HC13
          try clear c1
          try clear c2
          try clear p2
          try clear c5
          try clear c5b0
          try clear p6
          try clear c11
          try clear c11b0
          try clear c11b1
          try clear c12
          try clear c12b0
          try clear c12b1
          try clear c14
          try clear c14b0
          try clear c15
          try clear c16
          try clear c17
          try clear c20
          try clear c20b0
          try clear c21
          try clear c22
          try clear hcz10_0
          try clear hcz10_1
          try clear hcz10_2
          try clear hcz10_3
          try clear hcz10_4
          try clear hcz18_0
          try clear hcz18_1
          try clear hcz18_2
          try clear hcz18_3
          try clear hcz18_4
          try clear hcz19_0
          try clear hcz19_1
          try clear hcz19_2
          try clear hcz19_3
          try clear hcz19_4
          try clear hcz21_0
          try clear hcz21_1
          try clear hcz21_2
          try clear hcz21_3
          try clear hcz21_4
          try clear hcz23_0
          try clear hcz23_1
          try clear hcz23_2
          try clear hcz23_3
          try clear hcz23_4
          try clear hcz24_0
          try clear hcz24_1
          try clear hcz24_2
          try clear hcz24_3
          try clear hcz24_4
          try clear hcz7_0
          try clear hcz7_1
          try clear hcz7_2
          try clear hcz7_3
          try clear hcz7_4
          try clear hfz10_0
          try clear hfz10_1
          try clear hfz10_2
          try clear hfz10_3
          try clear hfz10_4
          try clear hfz18_0
          try clear hfz18_1
          try clear hfz18_2
          try clear hfz18_3
          try clear hfz18_4
          try clear hfz19_0
          try clear hfz19_1
          try clear hfz19_2
          try clear hfz19_3
          try clear hfz19_4
          try clear hfz21_0
          try clear hfz21_1
          try clear hfz21_2
          try clear hfz21_3
          try clear hfz21_4
          try clear hfz23_0
          try clear hfz23_1
          try clear hfz23_2
          try clear hfz23_3
          try clear hfz23_4
          try clear hfz24_0
          try clear hfz24_1
          try clear hfz24_2
          try clear hfz24_3
          try clear hfz24_4
          try clear hfz7_0
          try clear hfz7_1
          try clear hfz7_2
          try clear hfz7_3
          try clear hfz7_4
          try clear p2
          obtain ⟨kq, x54_12, rfl, HA, HJ12, BK120, HB⟩ := hcut
          cases kq with
          | zero => exact absurd HA.out (by simp [butteryref16_status.j1])
          | succ kj12 =>
            have H := HA.out
            clear HA
            simp only [butteryref16_status.j1] at H
            by_cases c25 : x54_12 = true
            · subst c25
              have H1 : (some 4) = some r := by rw [if_pos rfl] at H; exact H
              clear H
              have H := H1
              clear H1
              obtain rfl := Option.some.inj H
              go_wp2
              go_ret
              exact ⟨by first | rfl | (simp [errW_none, errW_some] <;> rfl) | (simp [*, errW_none, errW_some] <;> rfl), by repeat (first | (with_reducible first | exact HB.out | apply below_alloc | apply pw_below_drewN | apply below_drew1 | refine below_set ?_ GE120.out) | exact HB.out)⟩
            · replace c25 := Bool.eq_false_iff.mpr c25
              subst c25
              have H1 : (if a0_2 = true then (if a2 < 1 then (butteryref16_status.j2 kj12 a1 a2 a3 true) else (butteryref16_status.j2 kj12 a1 a2 a3 (decide (a2 > 250)))) else (butteryref16_status.j2 kj12 a1 a2 a3 false)) = some r := by rw [if_neg (show ¬ (false = true) by decide)] at H; exact H
              clear H
              have H := H1
              clear H1
              have HC26 := Aside0.mk H
              clear H
              go_upto_region 8 with (fail)
              go_cut [64] (fun v64 wc => ∃ (kq : Nat) (x64_25 : Bool), v64 = .bool x64_25 ∧ Aside0 (butteryref16_status.j2 kq a1 a2 a3 x64_25 = some r) ∧ Aside0 (kq ≤ kj12) ∧ Aside0 (wc.heap[gb120]? = some (.cells #[.int .i64 a0_0, .int .i64 a0_1, .bool a0_2, .bool a0_3, .bool a0_4] 47 (0, 0))) ∧ Aside0 (Below w.heap.size w wc))
              case first =>
                have H := HC26.out
                clear HC26
                by_cases c27 : a0_2 = true
                · subst c27
                  have H1 : (if a2 < 1 then (butteryref16_status.j2 kj12 a1 a2 a3 true) else (butteryref16_status.j2 kj12 a1 a2 a3 (decide (a2 > 250)))) = some r := by rw [if_pos rfl] at H; exact H
                  clear H
                  have H := H1
                  clear H1
                  by_cases c28 : a2 < 1
                  · rw [if_pos c28] at H
                    have c28b0 : decide (a2 < 1) = true := decide_eq_true c28
                    clear c28
                    (first | rw [c28b0] | (simp only [i64_w, i32_w]; rw [c28b0]) | skip)
                    have H' := Aside0.mk H
                    clear H
                    have hcz29_0 : wc.cell? ⟨gb120, 0, none⟩ = some (.int .i64 a0_0) := (blk_cell BK120.out 0).trans rfl
                    have hcz29_1 : wc.cell? ⟨gb120, 1, none⟩ = some (.int .i64 a0_1) := (blk_cell BK120.out 1).trans rfl
                    have hcz29_2 : wc.cell? ⟨gb120, 2, none⟩ = some (.bool true) := (blk_cell BK120.out 2).trans rfl
                    have hcz29_3 : wc.cell? ⟨gb120, 3, none⟩ = some (.bool a0_3) := (blk_cell BK120.out 3).trans rfl
                    have hcz29_4 : wc.cell? ⟨gb120, 4, none⟩ = some (.bool a0_4) := (blk_cell BK120.out 4).trans rfl
                    have hfz29_0 := blk_frozen BK120.out 0
                    have hfz29_1 := blk_frozen BK120.out 1
                    have hfz29_2 := blk_frozen BK120.out 2
                    have hfz29_3 := blk_frozen BK120.out 3
                    have hfz29_4 := blk_frozen BK120.out 4
                    go_wp2
                    go_meet
                    case rel => exact ⟨_, (true), (by first | rfl | (simp; done) | (simp [*]; done)), H', ⟨by have := HJ7.out; have := HJ12.out; first | omega | exact Nat.le_refl _⟩, ⟨by (with_reducible repeat (first | refine blk_drewN ?_ _ | refine blk_drew ?_ | refine blk_alloc ?_ _)); exact BK120.out⟩, ⟨by repeat (first | (with_reducible first | exact HB.out | apply below_alloc | apply pw_below_drewN | apply below_drew1 | refine below_set ?_ GE120.out) | exact HB.out)⟩⟩
                  · rw [if_neg c28] at H
                    have c28b0 : decide (a2 < 1) = false := decide_eq_false c28
                    clear c28
                    (first | rw [c28b0] | (simp only [i64_w, i32_w]; rw [c28b0]) | skip)
                    have H' := Aside0.mk H
                    clear H
                    have hcz30_0 : wc.cell? ⟨gb120, 0, none⟩ = some (.int .i64 a0_0) := (blk_cell BK120.out 0).trans rfl
                    have hcz30_1 : wc.cell? ⟨gb120, 1, none⟩ = some (.int .i64 a0_1) := (blk_cell BK120.out 1).trans rfl
                    have hcz30_2 : wc.cell? ⟨gb120, 2, none⟩ = some (.bool true) := (blk_cell BK120.out 2).trans rfl
                    have hcz30_3 : wc.cell? ⟨gb120, 3, none⟩ = some (.bool a0_3) := (blk_cell BK120.out 3).trans rfl
                    have hcz30_4 : wc.cell? ⟨gb120, 4, none⟩ = some (.bool a0_4) := (blk_cell BK120.out 4).trans rfl
                    have hfz30_0 := blk_frozen BK120.out 0
                    have hfz30_1 := blk_frozen BK120.out 1
                    have hfz30_2 := blk_frozen BK120.out 2
                    have hfz30_3 := blk_frozen BK120.out 3
                    have hfz30_4 := blk_frozen BK120.out 4
                    go_wp2
                    go_meet
                    case rel => exact ⟨_, (decide (a2 > 250)), (by first | rfl | (simp; done) | (simp [*]; done)), H', ⟨by have := HJ7.out; have := HJ12.out; first | omega | exact Nat.le_refl _⟩, ⟨by (with_reducible repeat (first | refine blk_drewN ?_ _ | refine blk_drew ?_ | refine blk_alloc ?_ _)); exact BK120.out⟩, ⟨by repeat (first | (with_reducible first | exact HB.out | apply below_alloc | apply pw_below_drewN | apply below_drew1 | refine below_set ?_ GE120.out) | exact HB.out)⟩⟩
                · replace c27 := Bool.eq_false_iff.mpr c27
                  subst c27
                  have H1 : (butteryref16_status.j2 kj12 a1 a2 a3 false) = some r := by rw [if_neg (show ¬ (false = true) by decide)] at H; exact H
                  clear H
                  have H := H1
                  clear H1
                  have H' := Aside0.mk H
                  clear H
                  have hcz31_0 : wc.cell? ⟨gb120, 0, none⟩ = some (.int .i64 a0_0) := (blk_cell BK120.out 0).trans rfl
                  have hcz31_1 : wc.cell? ⟨gb120, 1, none⟩ = some (.int .i64 a0_1) := (blk_cell BK120.out 1).trans rfl
                  have hcz31_2 : wc.cell? ⟨gb120, 2, none⟩ = some (.bool false) := (blk_cell BK120.out 2).trans rfl
                  have hcz31_3 : wc.cell? ⟨gb120, 3, none⟩ = some (.bool a0_3) := (blk_cell BK120.out 3).trans rfl
                  have hcz31_4 : wc.cell? ⟨gb120, 4, none⟩ = some (.bool a0_4) := (blk_cell BK120.out 4).trans rfl
                  have hfz31_0 := blk_frozen BK120.out 0
                  have hfz31_1 := blk_frozen BK120.out 1
                  have hfz31_2 := blk_frozen BK120.out 2
                  have hfz31_3 := blk_frozen BK120.out 3
                  have hfz31_4 := blk_frozen BK120.out 4
                  go_wp2
                  go_meet
                  case rel => exact ⟨_, (false), (by first | rfl | (simp; done) | (simp [*]; done)), H', ⟨by have := HJ7.out; have := HJ12.out; first | omega | exact Nat.le_refl _⟩, ⟨by (with_reducible repeat (first | refine blk_drewN ?_ _ | refine blk_drew ?_ | refine blk_alloc ?_ _)); exact BK120.out⟩, ⟨by repeat (first | (with_reducible first | exact HB.out | apply below_alloc | apply pw_below_drewN | apply below_drew1 | refine below_set ?_ GE120.out) | exact HB.out)⟩⟩
              case rest =>
                clear HC26
                try clear c1
                try clear c2
                try clear p2
                try clear c5
                try clear c5b0
                try clear p6
                try clear c11
                try clear c11b0
                try clear c11b1
                try clear c12
                try clear c12b0
                try clear c12b1
                try clear c14
                try clear c14b0
                try clear c15
                try clear c16
                try clear c17
                try clear c20
                try clear c20b0
                try clear c21
                try clear c22
                try clear c25
                try clear c27
                try clear c28
                try clear c28b0
                try clear hcz10_0
                try clear hcz10_1
                try clear hcz10_2
                try clear hcz10_3
                try clear hcz10_4
                try clear hcz18_0
                try clear hcz18_1
                try clear hcz18_2
                try clear hcz18_3
                try clear hcz18_4
                try clear hcz19_0
                try clear hcz19_1
                try clear hcz19_2
                try clear hcz19_3
                try clear hcz19_4
                try clear hcz21_0
                try clear hcz21_1
                try clear hcz21_2
                try clear hcz21_3
                try clear hcz21_4
                try clear hcz23_0
                try clear hcz23_1
                try clear hcz23_2
                try clear hcz23_3
                try clear hcz23_4
                try clear hcz24_0
                try clear hcz24_1
                try clear hcz24_2
                try clear hcz24_3
                try clear hcz24_4
                try clear hcz29_0
                try clear hcz29_1
                try clear hcz29_2
                try clear hcz29_3
                try clear hcz29_4
                try clear hcz30_0
                try clear hcz30_1
                try clear hcz30_2
                try clear hcz30_3
                try clear hcz30_4
                try clear hcz31_0
                try clear hcz31_1
                try clear hcz31_2
                try clear hcz31_3
                try clear hcz31_4
                try clear hcz7_0
                try clear hcz7_1
                try clear hcz7_2
                try clear hcz7_3
                try clear hcz7_4
                try clear hfz10_0
                try clear hfz10_1
                try clear hfz10_2
                try clear hfz10_3
                try clear hfz10_4
                try clear hfz18_0
                try clear hfz18_1
                try clear hfz18_2
                try clear hfz18_3
                try clear hfz18_4
                try clear hfz19_0
                try clear hfz19_1
                try clear hfz19_2
                try clear hfz19_3
                try clear hfz19_4
                try clear hfz21_0
                try clear hfz21_1
                try clear hfz21_2
                try clear hfz21_3
                try clear hfz21_4
                try clear hfz23_0
                try clear hfz23_1
                try clear hfz23_2
                try clear hfz23_3
                try clear hfz23_4
                try clear hfz24_0
                try clear hfz24_1
                try clear hfz24_2
                try clear hfz24_3
                try clear hfz24_4
                try clear hfz29_0
                try clear hfz29_1
                try clear hfz29_2
                try clear hfz29_3
                try clear hfz29_4
                try clear hfz30_0
                try clear hfz30_1
                try clear hfz30_2
                try clear hfz30_3
                try clear hfz30_4
                try clear hfz31_0
                try clear hfz31_1
                try clear hfz31_2
                try clear hfz31_3
                try clear hfz31_4
                try clear hfz7_0
                try clear hfz7_1
                try clear hfz7_2
                try clear hfz7_3
                try clear hfz7_4
                try clear p2
                try clear p6
                obtain ⟨kq, x64_25, rfl, HA, HJ25, BK120, HB⟩ := hcut
                cases kq with
                | zero => exact absurd HA.out (by simp [butteryref16_status.j2])
                | succ kj25 =>
                  have H := HA.out
                  clear HA
                  simp only [butteryref16_status.j2] at H
                  by_cases c32 : x64_25 = true
                  · subst c32
                    have H1 : (some 4) = some r := by rw [if_pos rfl] at H; exact H
                    clear H
                    have H := H1
                    clear H1
                    obtain rfl := Option.some.inj H
                    go_wp2
                    go_ret
                    exact ⟨by first | rfl | (simp [errW_none, errW_some] <;> rfl) | (simp [*, errW_none, errW_some] <;> rfl), by repeat (first | (with_reducible first | exact HB.out | apply below_alloc | apply pw_below_drewN | apply below_drew1 | refine below_set ?_ GE120.out) | exact HB.out)⟩
                  · replace c32 := Bool.eq_false_iff.mpr c32
                    subst c32
                    have H1 : (if (wrap64 ((wrap64 (a3 - a1)) - a2)) > 1000 then (some 3) else (some 0)) = some r := by rw [if_neg (show ¬ (false = true) by decide)] at H; exact H
                    clear H
                    have H := H1
                    clear H1
                    by_cases c33 : (wrap64 ((wrap64 (a3 - a1)) - a2)) > 1000
                    · rw [if_pos c33] at H
                      have c33b0 : decide (1000 < (wrap64 ((wrap64 (a3 - a1)) - a2))) = true := decide_eq_true c33
                      clear c33
                      obtain rfl := Option.some.inj H
                      go_wp2
                      go_ret
                      exact ⟨by first | rfl | (simp [errW_none, errW_some] <;> rfl) | (simp [*, errW_none, errW_some] <;> rfl), by repeat (first | (with_reducible first | exact HB.out | apply below_alloc | apply pw_below_drewN | apply below_drew1 | refine below_set ?_ GE120.out) | exact HB.out)⟩
                    · rw [if_neg c33] at H
                      have c33b0 : decide (1000 < (wrap64 ((wrap64 (a3 - a1)) - a2))) = false := decide_eq_false c33
                      clear c33
                      obtain rfl := Option.some.inj H
                      go_wp2
                      go_ret
                      exact ⟨by first | rfl | (simp [errW_none, errW_some] <;> rfl) | (simp [*, errW_none, errW_some] <;> rfl), by repeat (first | (with_reducible first | exact HB.out | apply below_alloc | apply pw_below_drewN | apply below_drew1 | refine below_set ?_ GE120.out) | exact HB.out)⟩

end Go.Proofs.Ytkbhnnmngmdkdaa.Hp
