-- Written by this session's own program (wip/hprint.py) out of the translation, over hand-proved contracts. Lean checks it.
import Derived.Test.YtpfjoeagblkonaaHbx0
import Derived.Test.YtpfjoeagblkonaaHbx2
import Derived.Test.YtpfjoeagblkonaaHbx4
import Derived.Test.YtpfjoeagblkonaaHbx6
namespace Go.Proofs.Ytpfjoeagblkonaa.Hb
open Go.RowKit Go.Proofs.YtpfjoeagblkonaaW.PrintWords Go.Proofs.YtpfjoeagblkonaaW.PrintLast Go.Proofs.YtpfjoeagblkonaaW.PrintMore
attribute [local go_sem] max2_int min2_int max_two min_two max_three min_three max_four min_four   -- for this text's walks alone
set_option linter.unusedVariables false
set_option linter.unusedSimpArgs false

/-! ### butterylaw17_BinoutSilent: function 4 -/
mutual
def butterylaw17_BinoutSilent.j0 : Nat → List (S46) → Bool → Bool → List (S44) → Int → ByteArray → Int → Int → Bool → Bool → ByteArray → List ByteArray → List ByteArray → Bool → Option (Bool)
  | 0, _, _, _, _, _, _, _, _, _, _, _, _, _, _ => none
  | k + 1, x1, x5, x29, x125000, x125001, x125002, x125003, x125004, x125005, x125006, x125007, x125008, x125009, x125010 => if x29 = true then (some x5) else ((binout_Encode.f x125000 x125001 x125002 x125003 x125004 x125005 x125006 x125007 x125008 x125009 x125010 x1).bind fun t127 => (if 0 < (x125000.length : Int) then (if ((rd_T44 x125000 0).f0) = 0 then (butterylaw17_BinoutSilent.j1 k x1 (t127.length : Int) true x125000 x125001 x125002 x125003 x125004 x125005 x125006 x125007 x125008 x125009 x125010) else (butterylaw17_BinoutSilent.j1 k x1 (t127.length : Int) (((rd_T44 x125000 0).f0) == 1) x125000 x125001 x125002 x125003 x125004 x125005 x125006 x125007 x125008 x125009 x125010)) else (none)))
def butterylaw17_BinoutSilent.j1 : Nat → List (S46) → Int → Bool → List (S44) → Int → ByteArray → Int → Int → Bool → Bool → ByteArray → List ByteArray → List ByteArray → Bool → Option (Bool)
  | 0, _, _, _, _, _, _, _, _, _, _, _, _, _, _ => none
  | k + 1, x1, x7, x8, x125000, x125001, x125002, x125003, x125004, x125005, x125006, x125007, x125008, x125009, x125010 => if x125005 = true then (if x8 = true then (if 0 < (x1.length : Int) then (some ((x7 == 0) == (((rd_T46 x1 0).f0) == 1))) else (none)) else (if 0 < (x1.length : Int) then ((binout_Code.f k ((rd_T46 x1 0).f0)).bind fun t134 => (some ((x7 == 0) == (t134 == 0)))) else (none))) else (some (decide (x7 ≥ 24)))
end
def butterylaw17_BinoutSilent.f (k : Nat) (l0_0 : List (S44)) (a0_1 : Int) (a0_2 : ByteArray) (a0_3 : Int) (a0_4 : Int) (a0_5 : Bool) (a0_6 : Bool) (a0_7 : ByteArray) (l0_8 : List ByteArray) (l0_9 : List ByteArray) (a0_10 : Bool) (l1 : List (S46)) : Option (Bool) := (butterylaw17_awake.f).bind fun t125 => ((butterylaw15_Few.f k l0_0 a0_1 a0_2 a0_3 a0_4 a0_5 a0_6 a0_7 l0_8 l0_9 a0_10 l1).bind fun t126 => (if t125 = true then (if t126 = true then (if (l0_0.length : Int) = 0 then (butterylaw17_BinoutSilent.j0 k l1 t125 true l0_0 a0_1 a0_2 a0_3 a0_4 a0_5 a0_6 a0_7 l0_8 l0_9 a0_10) else (butterylaw17_BinoutSilent.j0 k l1 t125 ((l1.length : Int) == 0) l0_0 a0_1 a0_2 a0_3 a0_4 a0_5 a0_6 a0_7 l0_8 l0_9 a0_10)) else (butterylaw17_BinoutSilent.j0 k l1 t125 true l0_0 a0_1 a0_2 a0_3 a0_4 a0_5 a0_6 a0_7 l0_8 l0_9 a0_10)) else (butterylaw17_BinoutSilent.j0 k l1 t125 true l0_0 a0_1 a0_2 a0_3 a0_4 a0_5 a0_6 a0_7 l0_8 l0_9 a0_10)))
theorem butterylaw17_BinoutSilent.mono_l : ∀ k, (∀ y0 y1 y2 y3 y4 y5 y6 y7 y8 y9 y10 y11 y12 y13, LeO (butterylaw17_BinoutSilent.j0 k y0 y1 y2 y3 y4 y5 y6 y7 y8 y9 y10 y11 y12 y13) (butterylaw17_BinoutSilent.j0 (k + 1) y0 y1 y2 y3 y4 y5 y6 y7 y8 y9 y10 y11 y12 y13)) ∧ (∀ y0 y1 y2 y3 y4 y5 y6 y7 y8 y9 y10 y11 y12 y13, LeO (butterylaw17_BinoutSilent.j1 k y0 y1 y2 y3 y4 y5 y6 y7 y8 y9 y10 y11 y12 y13) (butterylaw17_BinoutSilent.j1 (k + 1) y0 y1 y2 y3 y4 y5 y6 y7 y8 y9 y10 y11 y12 y13))
  | 0 => ⟨fun _ _ _ _ _ _ _ _ _ _ _ _ _ _ r h => by simp [butterylaw17_BinoutSilent.j0] at h, fun _ _ _ _ _ _ _ _ _ _ _ _ _ _ r h => by simp [butterylaw17_BinoutSilent.j1] at h⟩
  | k + 1 => by
    obtain ⟨ih0, ih1⟩ := butterylaw17_BinoutSilent.mono_l k
    refine ⟨?_, ?_⟩
    · intro y0 y1 y2 y3 y4 y5 y6 y7 y8 y9 y10 y11 y12 y13
      unfold butterylaw17_BinoutSilent.j0
      repeat' first
      | (with_reducible exact ih0 _ _ _ _ _ _ _ _ _ _ _ _ _ _)
      | (with_reducible exact ih1 _ _ _ _ _ _ _ _ _ _ _ _ _ _)
      | (with_reducible exact binout_Code.mono _ _)
      | (with_reducible exact butterylaw15_Few.mono _ _ _ _ _ _ _ _ _ _ _ _ _)
      | (with_reducible exact LeO.refl _)
      | (with_reducible exact LeO.none _)
      | (with_reducible refine LeO.ite ?_ ?_)
      | (with_reducible refine LeO.bind ?_ (fun _ => ?_))
      | exact ih0 _ _ _ _ _ _ _ _ _ _ _ _ _ _
      | exact ih1 _ _ _ _ _ _ _ _ _ _ _ _ _ _
      | exact binout_Code.mono _ _
      | exact butterylaw15_Few.mono _ _ _ _ _ _ _ _ _ _ _ _ _
      | exact LeO.none _
      | refine LeO.ite ?_ ?_
      | refine LeO.bind ?_ (fun _ => ?_)
    · intro y0 y1 y2 y3 y4 y5 y6 y7 y8 y9 y10 y11 y12 y13
      unfold butterylaw17_BinoutSilent.j1
      repeat' first
      | (with_reducible exact ih0 _ _ _ _ _ _ _ _ _ _ _ _ _ _)
      | (with_reducible exact ih1 _ _ _ _ _ _ _ _ _ _ _ _ _ _)
      | (with_reducible exact binout_Code.mono _ _)
      | (with_reducible exact butterylaw15_Few.mono _ _ _ _ _ _ _ _ _ _ _ _ _)
      | (with_reducible exact LeO.refl _)
      | (with_reducible exact LeO.none _)
      | (with_reducible refine LeO.ite ?_ ?_)
      | (with_reducible refine LeO.bind ?_ (fun _ => ?_))
      | exact ih0 _ _ _ _ _ _ _ _ _ _ _ _ _ _
      | exact ih1 _ _ _ _ _ _ _ _ _ _ _ _ _ _
      | exact binout_Code.mono _ _
      | exact butterylaw15_Few.mono _ _ _ _ _ _ _ _ _ _ _ _ _
      | exact LeO.none _
      | refine LeO.ite ?_ ?_
      | refine LeO.bind ?_ (fun _ => ?_)
theorem butterylaw17_BinoutSilent.mono : ∀ a0 a1 a2 a3 a4 a5 a6 a7 a8 a9 a10 a11 k, LeO (butterylaw17_BinoutSilent.f k a0 a1 a2 a3 a4 a5 a6 a7 a8 a9 a10 a11) (butterylaw17_BinoutSilent.f (k + 1) a0 a1 a2 a3 a4 a5 a6 a7 a8 a9 a10 a11) := by
  intro a0 a1 a2 a3 a4 a5 a6 a7 a8 a9 a10 a11 k
  obtain ⟨ih0, ih1⟩ := butterylaw17_BinoutSilent.mono_l k
  unfold butterylaw17_BinoutSilent.f
  repeat' first
      | (with_reducible exact ih0 _ _ _ _ _ _ _ _ _ _ _ _ _ _)
      | (with_reducible exact ih1 _ _ _ _ _ _ _ _ _ _ _ _ _ _)
      | (with_reducible exact binout_Code.mono _ _)
      | (with_reducible exact butterylaw15_Few.mono _ _ _ _ _ _ _ _ _ _ _ _ _)
      | (with_reducible exact LeO.refl _)
      | (with_reducible exact LeO.none _)
      | (with_reducible refine LeO.ite ?_ ?_)
      | (with_reducible refine LeO.bind ?_ (fun _ => ?_))
      | exact ih0 _ _ _ _ _ _ _ _ _ _ _ _ _ _
      | exact ih1 _ _ _ _ _ _ _ _ _ _ _ _ _ _
      | exact binout_Code.mono _ _
      | exact butterylaw15_Few.mono _ _ _ _ _ _ _ _ _ _ _ _ _
      | exact LeO.none _
      | refine LeO.ite ?_ ?_
      | refine LeO.bind ?_ (fun _ => ?_)
set_option maxHeartbeats 8000000 in
set_option maxRecDepth 100000 in
theorem butterylaw17_BinoutSilent.calls (k : Nat) (A0_0 : Option Addr) (c0_0 : Nat) (l0_0 : List (S44)) (a0_1 : Int) (a0_2 : ByteArray) (a0_3 : Int) (a0_4 : Int) (a0_5 : Bool) (a0_6 : Bool) (a0_7 : ByteArray) (A0_8 : Option Addr) (c0_8 : Nat) (l0_8 : List ByteArray) (A0_9 : Option Addr) (c0_9 : Nat) (l0_9 : List ByteArray) (a0_10 : Bool) (A1 : Option Addr) (c1 : Nat) (l1 : List (S46)) (r : Bool) (w : World) (hr0_0 : Kd.C k44 w A0_0 l0_0.length l0_0) (hc0_0 : l0_0.length ≤ c0_0) (hr0_8 : Kd.C Kd.string w A0_8 l0_8.length l0_8) (hc0_8 : l0_8.length ≤ c0_8) (hr0_9 : Kd.C Kd.string w A0_9 l0_9.length l0_9) (hc0_9 : l0_9.length ≤ c0_9) (hr1 : Kd.C k46 w A1 l1.length l1) (hc1 : l1.length ≤ c1) (h : butterylaw17_BinoutSilent.f k l0_0 a0_1 a0_2 a0_3 a0_4 a0_5 a0_6 a0_7 l0_8 l0_9 a0_10 l1 = some r) :
    Calls Try.prog 4 #[.agg #[.slice A0_0 l0_0.length c0_0, .int .i64 a0_1, .string a0_2, .int .i64 a0_3, .int .u32 a0_4, .bool a0_5, .bool a0_6, .string a0_7, .slice A0_8 l0_8.length c0_8, .slice A0_9 l0_9.length c0_9, .bool a0_10], .slice A1 l1.length c1] w fun e w' => e = .returned (.bool r) ∧ Below w.heap.size w w' := by
  have hu39 := Try.underlying39
  have HR0_0 := Aside0.mk hr0_0
  have HC0_0 := Aside0.mk hc0_0
  clear hr0_0 hc0_0
  have HR0_8 := Aside0.mk hr0_8
  have HC0_8 := Aside0.mk hc0_8
  clear hr0_8 hc0_8
  have HR0_9 := Aside0.mk hr0_9
  have HC0_9 := Aside0.mk hc0_9
  clear hr0_9 hc0_9
  have HR1 := Aside0.mk hr1
  have HC1 := Aside0.mk hc1
  clear hr1 hc1
  have HB := Aside0.mk (Below.refl w.heap.size w)
  have H : ((butterylaw17_awake.f).bind fun t125 => ((butterylaw15_Few.f k l0_0 a0_1 a0_2 a0_3 a0_4 a0_5 a0_6 a0_7 l0_8 l0_9 a0_10 l1).bind fun t126 => (if t125 = true then (if t126 = true then (if (l0_0.length : Int) = 0 then (butterylaw17_BinoutSilent.j0 k l1 t125 true l0_0 a0_1 a0_2 a0_3 a0_4 a0_5 a0_6 a0_7 l0_8 l0_9 a0_10) else (butterylaw17_BinoutSilent.j0 k l1 t125 ((l1.length : Int) == 0) l0_0 a0_1 a0_2 a0_3 a0_4 a0_5 a0_6 a0_7 l0_8 l0_9 a0_10)) else (butterylaw17_BinoutSilent.j0 k l1 t125 true l0_0 a0_1 a0_2 a0_3 a0_4 a0_5 a0_6 a0_7 l0_8 l0_9 a0_10)) else (butterylaw17_BinoutSilent.j0 k l1 t125 true l0_0 a0_1 a0_2 a0_3 a0_4 a0_5 a0_6 a0_7 l0_8 l0_9 a0_10)))) = some r := h
  clear h
  replace H := Option.bind_eq_some_iff.mp H
  obtain ⟨t125, A30, H⟩ := H
  replace H : ((butterylaw15_Few.f k l0_0 a0_1 a0_2 a0_3 a0_4 a0_5 a0_6 a0_7 l0_8 l0_9 a0_10 l1).bind fun t126 => (if t125 = true then (if t126 = true then (if (l0_0.length : Int) = 0 then (butterylaw17_BinoutSilent.j0 k l1 t125 true l0_0 a0_1 a0_2 a0_3 a0_4 a0_5 a0_6 a0_7 l0_8 l0_9 a0_10) else (butterylaw17_BinoutSilent.j0 k l1 t125 ((l1.length : Int) == 0) l0_0 a0_1 a0_2 a0_3 a0_4 a0_5 a0_6 a0_7 l0_8 l0_9 a0_10)) else (butterylaw17_BinoutSilent.j0 k l1 t125 true l0_0 a0_1 a0_2 a0_3 a0_4 a0_5 a0_6 a0_7 l0_8 l0_9 a0_10)) else (butterylaw17_BinoutSilent.j0 k l1 t125 true l0_0 a0_1 a0_2 a0_3 a0_4 a0_5 a0_6 a0_7 l0_8 l0_9 a0_10))) = some r := H
  have A3 := Aside0.mk A30
  clear A30
  replace H := Option.bind_eq_some_iff.mp H
  obtain ⟨t126, A40, H⟩ := H
  replace H : (if t125 = true then (if t126 = true then (if (l0_0.length : Int) = 0 then (butterylaw17_BinoutSilent.j0 k l1 t125 true l0_0 a0_1 a0_2 a0_3 a0_4 a0_5 a0_6 a0_7 l0_8 l0_9 a0_10) else (butterylaw17_BinoutSilent.j0 k l1 t125 ((l1.length : Int) == 0) l0_0 a0_1 a0_2 a0_3 a0_4 a0_5 a0_6 a0_7 l0_8 l0_9 a0_10)) else (butterylaw17_BinoutSilent.j0 k l1 t125 true l0_0 a0_1 a0_2 a0_3 a0_4 a0_5 a0_6 a0_7 l0_8 l0_9 a0_10)) else (butterylaw17_BinoutSilent.j0 k l1 t125 true l0_0 a0_1 a0_2 a0_3 a0_4 a0_5 a0_6 a0_7 l0_8 l0_9 a0_10)) = some r := H
  have A4 := Aside0.mk A40
  clear A40
  have HC5 := Aside0.mk H
  clear H
  go_enter Try.func4, Try.ntmps4
  go_upto_region 3 with (first | ((with_reducible refine gate_dst (N := 2) rfl ?_); (try (refine gate_guard (by rfl) ?_; dsimp only)); refine box_event ?hg (N := 2) ?hd (cs := #[.slice A0_0 l0_0.length c0_0, .int .i64 a0_1, .string a0_2, .int .i64 a0_3, .int .u32 a0_4, .bool a0_5, .bool a0_6, .string a0_7, .slice A0_8 l0_8.length c0_8, .slice A0_9 l0_9.length c0_9, .bool a0_10]) (t := 39) ?hr ?_; (case hd => rfl); (case hg => rfl); (case hr => first | (go_simp; done) | (go_simp; rfl)); intro gb124 hg w6 hbox hb; have n0_ := Aside0.mk (below_step (by repeat (first | (with_reducible first | exact HB.out | apply below_alloc | apply pw_below_drewN | apply below_drew1) | exact HB.out)) hb); have n1_ := Aside0.mk (hbox); have n2_ := Aside0.mk ((by rw [hg]; exact (below_size (by repeat (first | (with_reducible first | exact HB.out | apply below_alloc | apply pw_below_drewN | apply below_drew1) | exact HB.out))) : w.heap.size ≤ gb124)); have n3_ := Aside0.mk ((by rw [hg]; exact (below_size (by repeat (first | (with_reducible first | exact HB.out | apply below_alloc | apply pw_below_drewN | apply below_drew1) | exact HB.out))) : w.heap.size ≤ gb124)); clear HB; have HB := n0_; have BK124 := n1_; have GW124 := n2_; have GE124 := n3_; clear n0_ n1_ n2_ n3_; clear hb hbox hg) | ((with_reducible refine gate_callee (f := 6) rfl ?_); refine goesL_ (some 9) rfl rfl Try.func6 (by kernel_rfl) rfl #[] rfl (by (try simp only [List.map_toArray, List.map_cons, List.map_nil]); first | done | rfl | (simp only [List.length_drop, List.length_take]; rfl)) ?_; (with_reducible refine (butterylaw17_awake.calls  t125 _ A3.out).mono ?_); rintro e w7 ⟨rfl, hb⟩; refine ⟨_, rfl, ?_⟩; have n0_ := Aside0.mk (blk_below (g := gb124) (o := .cells #[.slice A0_0 l0_0.length c0_0, .int .i64 a0_1, .string a0_2, .int .i64 a0_3, .int .u32 a0_4, .bool a0_5, .bool a0_6, .string a0_7, .slice A0_8 l0_8.length c0_8, .slice A0_9 l0_9.length c0_9, .bool a0_10] 39 (0, 0)) (by (with_reducible repeat (first | refine blk_drewN ?_ _ | refine blk_drew ?_ | refine blk_alloc ?_ _)); exact BK124.out) hb); have n1_ := Aside0.mk (below_step (by repeat (first | (with_reducible first | exact HB.out | apply below_alloc | apply pw_below_drewN | apply below_drew1 | refine below_set ?_ GE124.out) | exact HB.out)) hb); clear BK124; clear HB; have BK124 := n0_; have HB := n1_; clear n0_ n1_; (try clear hb); (try clear hb2); (try clear hk); (try clear hi); have hcz8_0 : w7.cell? ⟨gb124, 0, none⟩ = some (.slice A0_0 l0_0.length c0_0) := (blk_cell BK124.out 0).trans rfl; have hcz8_1 : w7.cell? ⟨gb124, 1, none⟩ = some (.int .i64 a0_1) := (blk_cell BK124.out 1).trans rfl; have hcz8_2 : w7.cell? ⟨gb124, 2, none⟩ = some (.string a0_2) := (blk_cell BK124.out 2).trans rfl; have hcz8_3 : w7.cell? ⟨gb124, 3, none⟩ = some (.int .i64 a0_3) := (blk_cell BK124.out 3).trans rfl; have hcz8_4 : w7.cell? ⟨gb124, 4, none⟩ = some (.int .u32 a0_4) := (blk_cell BK124.out 4).trans rfl; have hcz8_5 : w7.cell? ⟨gb124, 5, none⟩ = some (.bool a0_5) := (blk_cell BK124.out 5).trans rfl; have hcz8_6 : w7.cell? ⟨gb124, 6, none⟩ = some (.bool a0_6) := (blk_cell BK124.out 6).trans rfl; have hcz8_7 : w7.cell? ⟨gb124, 7, none⟩ = some (.string a0_7) := (blk_cell BK124.out 7).trans rfl; have hcz8_8 : w7.cell? ⟨gb124, 8, none⟩ = some (.slice A0_8 l0_8.length c0_8) := (blk_cell BK124.out 8).trans rfl; have hcz8_9 : w7.cell? ⟨gb124, 9, none⟩ = some (.slice A0_9 l0_9.length c0_9) := (blk_cell BK124.out 9).trans rfl; have hcz8_10 : w7.cell? ⟨gb124, 10, none⟩ = some (.bool a0_10) := (blk_cell BK124.out 10).trans rfl; have hfz8_0 := blk_frozen BK124.out 0; have hfz8_1 := blk_frozen BK124.out 1; have hfz8_2 := blk_frozen BK124.out 2; have hfz8_3 := blk_frozen BK124.out 3; have hfz8_4 := blk_frozen BK124.out 4; have hfz8_5 := blk_frozen BK124.out 5; have hfz8_6 := blk_frozen BK124.out 6; have hfz8_7 := blk_frozen BK124.out 7; have hfz8_8 := blk_frozen BK124.out 8; have hfz8_9 := blk_frozen BK124.out 9; have hfz8_10 := blk_frozen BK124.out 10) | ((with_reducible refine gate_callee (f := 9) rfl ?_); refine goesL_ (some 12) rfl rfl Try.func9 (by kernel_rfl) rfl #[.agg #[.slice A0_0 l0_0.length c0_0, .int .i64 a0_1, .string a0_2, .int .i64 a0_3, .int .u32 a0_4, .bool a0_5, .bool a0_6, .string a0_7, .slice A0_8 l0_8.length c0_8, .slice A0_9 l0_9.length c0_9, .bool a0_10], .slice A1 l1.length c1] rfl (by (try simp only [List.map_toArray, List.map_cons, List.map_nil]); first | done | rfl | (simp only [List.length_drop, List.length_take]; rfl)) ?_; (with_reducible refine (butterylaw15_Few.calls k _ _ l0_0 a0_1 a0_2 a0_3 a0_4 a0_5 a0_6 a0_7 _ _ l0_8 _ _ l0_9 a0_10 _ _ l1 t126 _ ?side1 ?side2 ?side3 ?side4 ?side5 ?side6 ?side7 ?side8 A4.out).mono ?_); (case side1 => repeat (first | exact (Kd.C_below HR0_0.out HB.out) | (with_reducible refine Kd.C_alloc ?_ _) | (with_reducible refine Kd.C_drewN ?_ _) | (with_reducible refine Kd.C_drew ?_))); (case side2 => exact HC0_0.out); (case side3 => repeat (first | exact (Kd.C_below HR0_8.out HB.out) | (with_reducible refine Kd.C_alloc ?_ _) | (with_reducible refine Kd.C_drewN ?_ _) | (with_reducible refine Kd.C_drew ?_))); (case side4 => exact HC0_8.out); (case side5 => repeat (first | exact (Kd.C_below HR0_9.out HB.out) | (with_reducible refine Kd.C_alloc ?_ _) | (with_reducible refine Kd.C_drewN ?_ _) | (with_reducible refine Kd.C_drew ?_))); (case side6 => exact HC0_9.out); (case side7 => repeat (first | exact (Kd.C_below HR1.out HB.out) | (with_reducible refine Kd.C_alloc ?_ _) | (with_reducible refine Kd.C_drewN ?_ _) | (with_reducible refine Kd.C_drew ?_))); (case side8 => exact HC1.out); rintro e w9 ⟨rfl, hb⟩; refine ⟨_, rfl, ?_⟩; have n0_ := Aside0.mk (blk_below (g := gb124) (o := .cells #[.slice A0_0 l0_0.length c0_0, .int .i64 a0_1, .string a0_2, .int .i64 a0_3, .int .u32 a0_4, .bool a0_5, .bool a0_6, .string a0_7, .slice A0_8 l0_8.length c0_8, .slice A0_9 l0_9.length c0_9, .bool a0_10] 39 (0, 0)) (by (with_reducible repeat (first | refine blk_drewN ?_ _ | refine blk_drew ?_ | refine blk_alloc ?_ _)); exact BK124.out) hb); have n1_ := Aside0.mk (below_step (by repeat (first | (with_reducible first | exact HB.out | apply below_alloc | apply pw_below_drewN | apply below_drew1 | refine below_set ?_ GE124.out) | exact HB.out)) hb); clear BK124; clear HB; have BK124 := n0_; have HB := n1_; clear n0_ n1_; (try clear hb); (try clear hb2); (try clear hk); (try clear hi)))
  (try simp only [Act.put, List.setIfInBounds_toArray, List.set_cons_zero, List.set_cons_succ])
  go_cut [29] (fun v29 wc => ∃ (kq : Nat) (x29_4 : Bool), v29 = .bool x29_4 ∧ Aside0 (butterylaw17_BinoutSilent.j0 kq l1 t125 x29_4 l0_0 a0_1 a0_2 a0_3 a0_4 a0_5 a0_6 a0_7 l0_8 l0_9 a0_10 = some r) ∧ Aside0 (kq ≤ k) ∧ Aside0 (wc.heap[gb124]? = some (.cells #[(.slice A0_0 l0_0.length c0_0), .int .i64 a0_1, .string a0_2, .int .i64 a0_3, .int .u32 a0_4, .bool a0_5, .bool a0_6, .string a0_7, (.slice A0_8 l0_8.length c0_8), (.slice A0_9 l0_9.length c0_9), .bool a0_10] 39 (0, 0))) ∧ Aside0 (Below w.heap.size w wc))
  case first =>
    have H := HC5.out
    clear HC5
    by_cases c10 : t125 = true
    · subst c10
      have H1 : (if t126 = true then (if (l0_0.length : Int) = 0 then (butterylaw17_BinoutSilent.j0 k l1 true true l0_0 a0_1 a0_2 a0_3 a0_4 a0_5 a0_6 a0_7 l0_8 l0_9 a0_10) else (butterylaw17_BinoutSilent.j0 k l1 true ((l1.length : Int) == 0) l0_0 a0_1 a0_2 a0_3 a0_4 a0_5 a0_6 a0_7 l0_8 l0_9 a0_10)) else (butterylaw17_BinoutSilent.j0 k l1 true true l0_0 a0_1 a0_2 a0_3 a0_4 a0_5 a0_6 a0_7 l0_8 l0_9 a0_10)) = some r := by rw [if_pos rfl] at H; exact H
      clear H
      have H := H1
      clear H1
      by_cases c11 : t126 = true
      · subst c11
        have H1 : (if (l0_0.length : Int) = 0 then (butterylaw17_BinoutSilent.j0 k l1 true true l0_0 a0_1 a0_2 a0_3 a0_4 a0_5 a0_6 a0_7 l0_8 l0_9 a0_10) else (butterylaw17_BinoutSilent.j0 k l1 true ((l1.length : Int) == 0) l0_0 a0_1 a0_2 a0_3 a0_4 a0_5 a0_6 a0_7 l0_8 l0_9 a0_10)) = some r := by rw [if_pos rfl] at H; exact H
        clear H
        have H := H1
        clear H1
        by_cases c12 : (l0_0.length : Int) = 0
        · rw [if_pos c12] at H
          have c12b0 : ((l0_0.length : Int) == 0) = true := beq_iff_eq.mpr c12
          have c12b1 : ((l0_0.length : Int) != 0) = false := bne_eq_false_iff_eq.mpr c12
          clear c12
          (first | rw [c12b0] | (simp only [i64_w, i32_w]; rw [c12b0]) | skip)
          have H' := Aside0.mk H
          clear H
          have hcz13_0 : w9.cell? ⟨gb124, 0, none⟩ = some (.slice A0_0 l0_0.length c0_0) := (blk_cell BK124.out 0).trans rfl
          have hcz13_1 : w9.cell? ⟨gb124, 1, none⟩ = some (.int .i64 a0_1) := (blk_cell BK124.out 1).trans rfl
          have hcz13_2 : w9.cell? ⟨gb124, 2, none⟩ = some (.string a0_2) := (blk_cell BK124.out 2).trans rfl
          have hcz13_3 : w9.cell? ⟨gb124, 3, none⟩ = some (.int .i64 a0_3) := (blk_cell BK124.out 3).trans rfl
          have hcz13_4 : w9.cell? ⟨gb124, 4, none⟩ = some (.int .u32 a0_4) := (blk_cell BK124.out 4).trans rfl
          have hcz13_5 : w9.cell? ⟨gb124, 5, none⟩ = some (.bool a0_5) := (blk_cell BK124.out 5).trans rfl
          have hcz13_6 : w9.cell? ⟨gb124, 6, none⟩ = some (.bool a0_6) := (blk_cell BK124.out 6).trans rfl
          have hcz13_7 : w9.cell? ⟨gb124, 7, none⟩ = some (.string a0_7) := (blk_cell BK124.out 7).trans rfl
          have hcz13_8 : w9.cell? ⟨gb124, 8, none⟩ = some (.slice A0_8 l0_8.length c0_8) := (blk_cell BK124.out 8).trans rfl
          have hcz13_9 : w9.cell? ⟨gb124, 9, none⟩ = some (.slice A0_9 l0_9.length c0_9) := (blk_cell BK124.out 9).trans rfl
          have hcz13_10 : w9.cell? ⟨gb124, 10, none⟩ = some (.bool a0_10) := (blk_cell BK124.out 10).trans rfl
          have hfz13_0 := blk_frozen BK124.out 0
          have hfz13_1 := blk_frozen BK124.out 1
          have hfz13_2 := blk_frozen BK124.out 2
          have hfz13_3 := blk_frozen BK124.out 3
          have hfz13_4 := blk_frozen BK124.out 4
          have hfz13_5 := blk_frozen BK124.out 5
          have hfz13_6 := blk_frozen BK124.out 6
          have hfz13_7 := blk_frozen BK124.out 7
          have hfz13_8 := blk_frozen BK124.out 8
          have hfz13_9 := blk_frozen BK124.out 9
          have hfz13_10 := blk_frozen BK124.out 10
          go_wp2
          go_meet
          case rel => exact ⟨_, (true), (by first | rfl | (simp; done) | (simp [*]; done)), H', ⟨by first | omega | exact Nat.le_refl _⟩, ⟨by (with_reducible repeat (first | refine blk_drewN ?_ _ | refine blk_drew ?_ | refine blk_alloc ?_ _)); exact BK124.out⟩, ⟨by repeat (first | (with_reducible first | exact HB.out | apply below_alloc | apply pw_below_drewN | apply below_drew1 | refine below_set ?_ GE124.out) | exact HB.out)⟩⟩
        · rw [if_neg c12] at H
          have c12b0 : ((l0_0.length : Int) == 0) = false := beq_eq_false_iff_ne.mpr c12
          have c12b1 : ((l0_0.length : Int) != 0) = true := bne_iff_ne.mpr c12
          have c12b2 : ¬ (l0_0 = []) := fun h_ => c12 (by rw [h_]; rfl)
          (first | rw [c12b0] | (simp only [i64_w, i32_w]; rw [c12b0]) | skip)
          have H' := Aside0.mk H
          clear H
          have hcz14_0 : w9.cell? ⟨gb124, 0, none⟩ = some (.slice A0_0 l0_0.length c0_0) := (blk_cell BK124.out 0).trans rfl
          have hcz14_1 : w9.cell? ⟨gb124, 1, none⟩ = some (.int .i64 a0_1) := (blk_cell BK124.out 1).trans rfl
          have hcz14_2 : w9.cell? ⟨gb124, 2, none⟩ = some (.string a0_2) := (blk_cell BK124.out 2).trans rfl
          have hcz14_3 : w9.cell? ⟨gb124, 3, none⟩ = some (.int .i64 a0_3) := (blk_cell BK124.out 3).trans rfl
          have hcz14_4 : w9.cell? ⟨gb124, 4, none⟩ = some (.int .u32 a0_4) := (blk_cell BK124.out 4).trans rfl
          have hcz14_5 : w9.cell? ⟨gb124, 5, none⟩ = some (.bool a0_5) := (blk_cell BK124.out 5).trans rfl
          have hcz14_6 : w9.cell? ⟨gb124, 6, none⟩ = some (.bool a0_6) := (blk_cell BK124.out 6).trans rfl
          have hcz14_7 : w9.cell? ⟨gb124, 7, none⟩ = some (.string a0_7) := (blk_cell BK124.out 7).trans rfl
          have hcz14_8 : w9.cell? ⟨gb124, 8, none⟩ = some (.slice A0_8 l0_8.length c0_8) := (blk_cell BK124.out 8).trans rfl
          have hcz14_9 : w9.cell? ⟨gb124, 9, none⟩ = some (.slice A0_9 l0_9.length c0_9) := (blk_cell BK124.out 9).trans rfl
          have hcz14_10 : w9.cell? ⟨gb124, 10, none⟩ = some (.bool a0_10) := (blk_cell BK124.out 10).trans rfl
          have hfz14_0 := blk_frozen BK124.out 0
          have hfz14_1 := blk_frozen BK124.out 1
          have hfz14_2 := blk_frozen BK124.out 2
          have hfz14_3 := blk_frozen BK124.out 3
          have hfz14_4 := blk_frozen BK124.out 4
          have hfz14_5 := blk_frozen BK124.out 5
          have hfz14_6 := blk_frozen BK124.out 6
          have hfz14_7 := blk_frozen BK124.out 7
          have hfz14_8 := blk_frozen BK124.out 8
          have hfz14_9 := blk_frozen BK124.out 9
          have hfz14_10 := blk_frozen BK124.out 10
          go_wp2
          go_meet
          case rel => exact ⟨_, (((l1.length : Int) == 0)), (by first | rfl | (simp; done) | (simp [*]; done)), H', ⟨by first | omega | exact Nat.le_refl _⟩, ⟨by (with_reducible repeat (first | refine blk_drewN ?_ _ | refine blk_drew ?_ | refine blk_alloc ?_ _)); exact BK124.out⟩, ⟨by repeat (first | (with_reducible first | exact HB.out | apply below_alloc | apply pw_below_drewN | apply below_drew1 | refine below_set ?_ GE124.out) | exact HB.out)⟩⟩
      · replace c11 := Bool.eq_false_iff.mpr c11
        subst c11
        have H1 : (butterylaw17_BinoutSilent.j0 k l1 true true l0_0 a0_1 a0_2 a0_3 a0_4 a0_5 a0_6 a0_7 l0_8 l0_9 a0_10) = some r := by rw [if_neg (show ¬ (false = true) by decide)] at H; exact H
        clear H
        have H := H1
        clear H1
        have H' := Aside0.mk H
        clear H
        go_wp2
        go_meet
        case rel => exact ⟨_, (true), (by first | rfl | (simp; done) | (simp [*]; done)), H', ⟨by first | omega | exact Nat.le_refl _⟩, ⟨by (with_reducible repeat (first | refine blk_drewN ?_ _ | refine blk_drew ?_ | refine blk_alloc ?_ _)); exact BK124.out⟩, ⟨by repeat (first | (with_reducible first | exact HB.out | apply below_alloc | apply pw_below_drewN | apply below_drew1 | refine below_set ?_ GE124.out) | exact HB.out)⟩⟩
    · replace c10 := Bool.eq_false_iff.mpr c10
      subst c10
      have H1 : (butterylaw17_BinoutSilent.j0 k l1 false true l0_0 a0_1 a0_2 a0_3 a0_4 a0_5 a0_6 a0_7 l0_8 l0_9 a0_10) = some r := by rw [if_neg (show ¬ (false = true) by decide)] at H; exact H
      clear H
      have H := H1
      clear H1
      have H' := Aside0.mk H
      clear H
      go_wp2
      go_meet
      case rel => exact ⟨_, (true), (by first | rfl | (simp; done) | (simp [*]; done)), H', ⟨by first | omega | exact Nat.le_refl _⟩, ⟨by (with_reducible repeat (first | refine blk_drewN ?_ _ | refine blk_drew ?_ | refine blk_alloc ?_ _)); exact BK124.out⟩, ⟨by repeat (first | (with_reducible first | exact HB.out | apply below_alloc | apply pw_below_drewN | apply below_drew1 | refine below_set ?_ GE124.out) | exact HB.out)⟩⟩
  case rest =>
    clear HC5
    try clear c1
    try clear p2
    try clear c4
    try clear c6
    try clear c9
    try clear c10
    try clear c11
    try clear c12
    try clear c12b0
    try clear c12b1
    try clear c12b2
    try clear hcz13_0
    try clear hcz13_1
    try clear hcz13_10
    try clear hcz13_2
    try clear hcz13_3
    try clear hcz13_4
    try clear hcz13_5
    try clear hcz13_6
    try clear hcz13_7
    try clear hcz13_8
    try clear hcz13_9
    try clear hcz14_0
    try clear hcz14_1
    try clear hcz14_10
    try clear hcz14_2
    try clear hcz14_3
    try clear hcz14_4
    try clear hcz14_5
    try clear hcz14_6
    try clear hcz14_7
    try clear hcz14_8
    try clear hcz14_9
    try clear hcz8_0
    try clear hcz8_1
    try clear hcz8_10
    try clear hcz8_2
    try clear hcz8_3
    try clear hcz8_4
    try clear hcz8_5
    try clear hcz8_6
    try clear hcz8_7
    try clear hcz8_8
    try clear hcz8_9
    try clear hfz13_0
    try clear hfz13_1
    try clear hfz13_10
    try clear hfz13_2
    try clear hfz13_3
    try clear hfz13_4
    try clear hfz13_5
    try clear hfz13_6
    try clear hfz13_7
    try clear hfz13_8
    try clear hfz13_9
    try clear hfz14_0
    try clear hfz14_1
    try clear hfz14_10
    try clear hfz14_2
    try clear hfz14_3
    try clear hfz14_4
    try clear hfz14_5
    try clear hfz14_6
    try clear hfz14_7
    try clear hfz14_8
    try clear hfz14_9
    try clear hfz8_0
    try clear hfz8_1
    try clear hfz8_10
    try clear hfz8_2
    try clear hfz8_3
    try clear hfz8_4
    try clear hfz8_5
    try clear hfz8_6
    try clear hfz8_7
    try clear hfz8_8
    try clear hfz8_9
    obtain ⟨kq, x29_4, rfl, HA, HJ4, BK124, HB⟩ := hcut
    cases kq with
    | zero => exact absurd HA.out (by simp [butterylaw17_BinoutSilent.j0])
    | succ kj4 =>
      have H := HA.out
      clear HA
      simp only [butterylaw17_BinoutSilent.j0] at H
      by_cases c15 : x29_4 = true
      · subst c15
        have H1 : (some t125) = some r := by rw [if_pos rfl] at H; exact H
        clear H
        have H := H1
        clear H1
        obtain rfl := Option.some.inj H
        go_wp2
        go_ret
        exact ⟨by first | rfl | (simp [errW_none, errW_some] <;> rfl) | (simp [*, errW_none, errW_some] <;> rfl), by repeat (first | (with_reducible first | exact HB.out | apply below_alloc | apply pw_below_drewN | apply below_drew1 | refine below_set ?_ GE124.out) | exact HB.out)⟩
      · replace c15 := Bool.eq_false_iff.mpr c15
        subst c15
        have H1 : ((binout_Encode.f l0_0 a0_1 a0_2 a0_3 a0_4 a0_5 a0_6 a0_7 l0_8 l0_9 a0_10 l1).bind fun t127 => (if 0 < (l0_0.length : Int) then (if ((rd_T44 l0_0 0).f0) = 0 then (butterylaw17_BinoutSilent.j1 kj4 l1 (t127.length : Int) true l0_0 a0_1 a0_2 a0_3 a0_4 a0_5 a0_6 a0_7 l0_8 l0_9 a0_10) else (butterylaw17_BinoutSilent.j1 kj4 l1 (t127.length : Int) (((rd_T44 l0_0 0).f0) == 1) l0_0 a0_1 a0_2 a0_3 a0_4 a0_5 a0_6 a0_7 l0_8 l0_9 a0_10)) else (none))) = some r := by rw [if_neg (show ¬ (false = true) by decide)] at H; exact H
        clear H
        have H := H1
        clear H1
        replace H := Option.bind_eq_some_iff.mp H
        obtain ⟨t127, A160, H⟩ := H
        replace H : (if 0 < (l0_0.length : Int) then (if ((rd_T44 l0_0 0).f0) = 0 then (butterylaw17_BinoutSilent.j1 kj4 l1 (t127.length : Int) true l0_0 a0_1 a0_2 a0_3 a0_4 a0_5 a0_6 a0_7 l0_8 l0_9 a0_10) else (butterylaw17_BinoutSilent.j1 kj4 l1 (t127.length : Int) (((rd_T44 l0_0 0).f0) == 1) l0_0 a0_1 a0_2 a0_3 a0_4 a0_5 a0_6 a0_7 l0_8 l0_9 a0_10)) else (none)) = some r := H
        have A16 := Aside0.mk A160
        clear A160
        have HC17 := Aside0.mk H
        clear H
        have hcz18_0 : wc.cell? ⟨gb124, 0, none⟩ = some (.slice A0_0 l0_0.length c0_0) := (blk_cell BK124.out 0).trans rfl
        have hcz18_1 : wc.cell? ⟨gb124, 1, none⟩ = some (.int .i64 a0_1) := (blk_cell BK124.out 1).trans rfl
        have hcz18_2 : wc.cell? ⟨gb124, 2, none⟩ = some (.string a0_2) := (blk_cell BK124.out 2).trans rfl
        have hcz18_3 : wc.cell? ⟨gb124, 3, none⟩ = some (.int .i64 a0_3) := (blk_cell BK124.out 3).trans rfl
        have hcz18_4 : wc.cell? ⟨gb124, 4, none⟩ = some (.int .u32 a0_4) := (blk_cell BK124.out 4).trans rfl
        have hcz18_5 : wc.cell? ⟨gb124, 5, none⟩ = some (.bool a0_5) := (blk_cell BK124.out 5).trans rfl
        have hcz18_6 : wc.cell? ⟨gb124, 6, none⟩ = some (.bool a0_6) := (blk_cell BK124.out 6).trans rfl
        have hcz18_7 : wc.cell? ⟨gb124, 7, none⟩ = some (.string a0_7) := (blk_cell BK124.out 7).trans rfl
        have hcz18_8 : wc.cell? ⟨gb124, 8, none⟩ = some (.slice A0_8 l0_8.length c0_8) := (blk_cell BK124.out 8).trans rfl
        have hcz18_9 : wc.cell? ⟨gb124, 9, none⟩ = some (.slice A0_9 l0_9.length c0_9) := (blk_cell BK124.out 9).trans rfl
        have hcz18_10 : wc.cell? ⟨gb124, 10, none⟩ = some (.bool a0_10) := (blk_cell BK124.out 10).trans rfl
        have hfz18_0 := blk_frozen BK124.out 0
        have hfz18_1 := blk_frozen BK124.out 1
        have hfz18_2 := blk_frozen BK124.out 2
        have hfz18_3 := blk_frozen BK124.out 3
        have hfz18_4 := blk_frozen BK124.out 4
        have hfz18_5 := blk_frozen BK124.out 5
        have hfz18_6 := blk_frozen BK124.out 6
        have hfz18_7 := blk_frozen BK124.out 7
        have hfz18_8 := blk_frozen BK124.out 8
        have hfz18_9 := blk_frozen BK124.out 9
        have hfz18_10 := blk_frozen BK124.out 10
        go_upto_region 6 with (first | ((with_reducible refine gate_callee (f := 10) rfl ?_); refine goesL_ (some 33) rfl rfl Try.func10 (by kernel_rfl) rfl #[.agg #[.slice A0_0 l0_0.length c0_0, .int .i64 a0_1, .string a0_2, .int .i64 a0_3, .int .u32 a0_4, .bool a0_5, .bool a0_6, .string a0_7, .slice A0_8 l0_8.length c0_8, .slice A0_9 l0_9.length c0_9, .bool a0_10], .slice A1 l1.length c1] rfl (by (try simp only [List.map_toArray, List.map_cons, List.map_nil]); first | done | rfl | (simp only [List.length_drop, List.length_take]; rfl)) ?_; (with_reducible refine (binout_Encode.calls _ _ l0_0 a0_1 a0_2 a0_3 a0_4 a0_5 a0_6 a0_7 _ _ l0_8 _ _ l0_9 a0_10 _ _ l1 t127 _ ?side1 ?side2 ?side3 ?side4 ?side5 ?side6 ?side7 ?side8 A16.out).mono ?_); (case side1 => repeat (first | exact (Kd.C_below HR0_0.out HB.out) | (with_reducible refine Kd.C_alloc ?_ _) | (with_reducible refine Kd.C_drewN ?_ _) | (with_reducible refine Kd.C_drew ?_))); (case side2 => exact HC0_0.out); (case side3 => repeat (first | exact (Kd.C_below HR0_8.out HB.out) | (with_reducible refine Kd.C_alloc ?_ _) | (with_reducible refine Kd.C_drewN ?_ _) | (with_reducible refine Kd.C_drew ?_))); (case side4 => exact HC0_8.out); (case side5 => repeat (first | exact (Kd.C_below HR0_9.out HB.out) | (with_reducible refine Kd.C_alloc ?_ _) | (with_reducible refine Kd.C_drewN ?_ _) | (with_reducible refine Kd.C_drew ?_))); (case side6 => exact HC0_9.out); (case side7 => repeat (first | exact (Kd.C_below HR1.out HB.out) | (with_reducible refine Kd.C_alloc ?_ _) | (with_reducible refine Kd.C_drewN ?_ _) | (with_reducible refine Kd.C_drew ?_))); (case side8 => exact HC1.out); rintro e w19 ⟨v128, rfl, ho0, hb⟩; refine ⟨_, rfl, ?_⟩; have n0_ := Aside0.mk (Kd.R_lower ho0 (below_size (by repeat (first | (with_reducible first | exact HB.out | apply below_alloc | apply pw_below_drewN | apply below_drew1 | refine below_set ?_ GE124.out) | exact HB.out)))); have n1_ := Aside0.mk (blk_below (g := gb124) (o := .cells #[.slice A0_0 l0_0.length c0_0, .int .i64 a0_1, .string a0_2, .int .i64 a0_3, .int .u32 a0_4, .bool a0_5, .bool a0_6, .string a0_7, .slice A0_8 l0_8.length c0_8, .slice A0_9 l0_9.length c0_9, .bool a0_10] 39 (0, 0)) (by (with_reducible repeat (first | refine blk_drewN ?_ _ | refine blk_drew ?_ | refine blk_alloc ?_ _)); exact BK124.out) hb); have n2_ := Aside0.mk (below_step (by repeat (first | (with_reducible first | exact HB.out | apply below_alloc | apply pw_below_drewN | apply below_drew1 | refine below_set ?_ GE124.out) | exact HB.out)) hb); clear BK124; clear HB; have HO129 := n0_; have BK124 := n1_; have HB := n2_; clear n0_ n1_ n2_; (try clear hb); (try clear hb2); (try clear hk); (try clear hi); (try clear ho0); obtain ⟨Ao20, co20, eo20⟩ := Kd.R_slice HO129.out; subst eo20))
        (try simp only [Act.put, List.setIfInBounds_toArray, List.set_cons_zero, List.set_cons_succ])
        go_cut [8] (fun v8 wc => ∃ (kq : Nat) (x8_16 : Bool), v8 = .bool x8_16 ∧ Aside0 (butterylaw17_BinoutSilent.j1 kq l1 (t127.length : Int) x8_16 l0_0 a0_1 a0_2 a0_3 a0_4 a0_5 a0_6 a0_7 l0_8 l0_9 a0_10 = some r) ∧ Aside0 (kq ≤ kj4) ∧ Aside0 (wc.heap[gb124]? = some (.cells #[(.slice A0_0 l0_0.length c0_0), .int .i64 a0_1, .string a0_2, .int .i64 a0_3, .int .u32 a0_4, .bool a0_5, .bool a0_6, .string a0_7, (.slice A0_8 l0_8.length c0_8), (.slice A0_9 l0_9.length c0_9), .bool a0_10] 39 (0, 0))) ∧ Aside0 (Below w.heap.size w wc))
        case first =>
          have H := HC17.out
          clear HC17
          by_cases c21 : 0 < (l0_0.length : Int)
          · rw [if_pos c21] at H
            have c21b0 : decide (0 < (l0_0.length : Int)) = true := decide_eq_true c21
            have c21b1 : decide (0 < l0_0.length) = true := decide_eq_true (by omega)
            clear c21
            (first | rw [c21b0] | (simp only [i64_w, i32_w]; rw [c21b0]) | skip)
            by_cases c22 : ((rd_T44 l0_0 0).f0) = 0
            · rw [if_pos c22] at H
              have c22b0 : (((rd_T44 l0_0 0).f0) == 0) = true := beq_iff_eq.mpr c22
              have c22b1 : (((rd_T44 l0_0 0).f0) != 0) = false := bne_eq_false_iff_eq.mpr c22
              clear c22
              have H' := Aside0.mk H
              clear H
              have hcz23_0 : w19.cell? ⟨gb124, 0, none⟩ = some (.slice A0_0 l0_0.length c0_0) := (blk_cell BK124.out 0).trans rfl
              have hcz23_1 : w19.cell? ⟨gb124, 1, none⟩ = some (.int .i64 a0_1) := (blk_cell BK124.out 1).trans rfl
              have hcz23_2 : w19.cell? ⟨gb124, 2, none⟩ = some (.string a0_2) := (blk_cell BK124.out 2).trans rfl
              have hcz23_3 : w19.cell? ⟨gb124, 3, none⟩ = some (.int .i64 a0_3) := (blk_cell BK124.out 3).trans rfl
              have hcz23_4 : w19.cell? ⟨gb124, 4, none⟩ = some (.int .u32 a0_4) := (blk_cell BK124.out 4).trans rfl
              have hcz23_5 : w19.cell? ⟨gb124, 5, none⟩ = some (.bool a0_5) := (blk_cell BK124.out 5).trans rfl
              have hcz23_6 : w19.cell? ⟨gb124, 6, none⟩ = some (.bool a0_6) := (blk_cell BK124.out 6).trans rfl
              have hcz23_7 : w19.cell? ⟨gb124, 7, none⟩ = some (.string a0_7) := (blk_cell BK124.out 7).trans rfl
              have hcz23_8 : w19.cell? ⟨gb124, 8, none⟩ = some (.slice A0_8 l0_8.length c0_8) := (blk_cell BK124.out 8).trans rfl
              have hcz23_9 : w19.cell? ⟨gb124, 9, none⟩ = some (.slice A0_9 l0_9.length c0_9) := (blk_cell BK124.out 9).trans rfl
              have hcz23_10 : w19.cell? ⟨gb124, 10, none⟩ = some (.bool a0_10) := (blk_cell BK124.out 10).trans rfl
              have hfz23_0 := blk_frozen BK124.out 0
              have hfz23_1 := blk_frozen BK124.out 1
              have hfz23_2 := blk_frozen BK124.out 2
              have hfz23_3 := blk_frozen BK124.out 3
              have hfz23_4 := blk_frozen BK124.out 4
              have hfz23_5 := blk_frozen BK124.out 5
              have hfz23_6 := blk_frozen BK124.out 6
              have hfz23_7 := blk_frozen BK124.out 7
              have hfz23_8 := blk_frozen BK124.out 8
              have hfz23_9 := blk_frozen BK124.out 9
              have hfz23_10 := blk_frozen BK124.out 10
              have p130 : 0 ≤ (0 : Int) := (by omega)
              have q130 : 0 < (l0_0.length : Int) := of_decide_eq_true (by first | (with_reducible assumption) | assumption)
              obtain ⟨ad130, A130_2, c130_2, e130, hx130_0, hx130_1, hx130_2, hx130_3, hx130_4, hx130_5, hx130_6, hx130_7, hx130_8, hx130_9, hl130_2, hi130_2⟩ := at_T44 HR0_0.out 0 p130 q130
              cases e130
              have qi130 : (0 < l0_0.length) = True := eq_true (by omega)
              (try rw [show ((0 : Int)).toNat = 0 from rfl] at hx130_0)
              (try rw [show 0 * 10 = 0 from rfl] at hx130_0)
              (try rw [Addr.add_zero'] at hx130_0)
              (try rw [show ((0 : Int)).toNat = 0 from rfl] at hx130_1)
              (try rw [show 0 * 10 = 0 from rfl] at hx130_1)
              (try rw [Addr.add_zero'] at hx130_1)
              (try rw [show ((0 : Int)).toNat = 0 from rfl] at hx130_2)
              (try rw [show 0 * 10 = 0 from rfl] at hx130_2)
              (try rw [Addr.add_zero'] at hx130_2)
              (try rw [show ((0 : Int)).toNat = 0 from rfl] at hx130_3)
              (try rw [show 0 * 10 = 0 from rfl] at hx130_3)
              (try rw [Addr.add_zero'] at hx130_3)
              (try rw [show ((0 : Int)).toNat = 0 from rfl] at hx130_4)
              (try rw [show 0 * 10 = 0 from rfl] at hx130_4)
              (try rw [Addr.add_zero'] at hx130_4)
              (try rw [show ((0 : Int)).toNat = 0 from rfl] at hx130_5)
              (try rw [show 0 * 10 = 0 from rfl] at hx130_5)
              (try rw [Addr.add_zero'] at hx130_5)
              (try rw [show ((0 : Int)).toNat = 0 from rfl] at hx130_6)
              (try rw [show 0 * 10 = 0 from rfl] at hx130_6)
              (try rw [Addr.add_zero'] at hx130_6)
              (try rw [show ((0 : Int)).toNat = 0 from rfl] at hx130_7)
              (try rw [show 0 * 10 = 0 from rfl] at hx130_7)
              (try rw [Addr.add_zero'] at hx130_7)
              (try rw [show ((0 : Int)).toNat = 0 from rfl] at hx130_8)
              (try rw [show 0 * 10 = 0 from rfl] at hx130_8)
              (try rw [Addr.add_zero'] at hx130_8)
              (try rw [show ((0 : Int)).toNat = 0 from rfl] at hx130_9)
              (try rw [show 0 * 10 = 0 from rfl] at hx130_9)
              (try rw [Addr.add_zero'] at hx130_9)
              replace hx130_0 := (HB.out.cell (World.block_lt_of_cell? w _ hx130_0)).trans hx130_0
              replace hx130_1 := (HB.out.cell (World.block_lt_of_cell? w _ hx130_1)).trans hx130_1
              replace hx130_2 := (HB.out.cell (World.block_lt_of_cell? w _ hx130_2)).trans hx130_2
              replace hx130_3 := (HB.out.cell (World.block_lt_of_cell? w _ hx130_3)).trans hx130_3
              replace hx130_4 := (HB.out.cell (World.block_lt_of_cell? w _ hx130_4)).trans hx130_4
              replace hx130_5 := (HB.out.cell (World.block_lt_of_cell? w _ hx130_5)).trans hx130_5
              replace hx130_6 := (HB.out.cell (World.block_lt_of_cell? w _ hx130_6)).trans hx130_6
              replace hx130_7 := (HB.out.cell (World.block_lt_of_cell? w _ hx130_7)).trans hx130_7
              replace hx130_8 := (HB.out.cell (World.block_lt_of_cell? w _ hx130_8)).trans hx130_8
              replace hx130_9 := (HB.out.cell (World.block_lt_of_cell? w _ hx130_9)).trans hx130_9
              have HR130_2 := Aside0.mk hi130_2
              have HC130_2 := Aside0.mk hl130_2
              clear hi130_2 hl130_2
              replace p130 := eq_true p130
              replace q130 := eq_true q130
              go_wp2
              go_meet
              case rel => exact ⟨_, (true), (by first | rfl | (simp; done) | (simp [*]; done)), H', ⟨by have := HJ4.out; first | omega | exact Nat.le_refl _⟩, ⟨by (with_reducible repeat (first | refine blk_drewN ?_ _ | refine blk_drew ?_ | refine blk_alloc ?_ _)); exact BK124.out⟩, ⟨by repeat (first | (with_reducible first | exact HB.out | apply below_alloc | apply pw_below_drewN | apply below_drew1 | refine below_set ?_ GE124.out) | exact HB.out)⟩⟩
            · rw [if_neg c22] at H
              have c22b0 : (((rd_T44 l0_0 0).f0) == 0) = false := beq_eq_false_iff_ne.mpr c22
              have c22b1 : (((rd_T44 l0_0 0).f0) != 0) = true := bne_iff_ne.mpr c22
              have H' := Aside0.mk H
              clear H
              have hcz24_0 : w19.cell? ⟨gb124, 0, none⟩ = some (.slice A0_0 l0_0.length c0_0) := (blk_cell BK124.out 0).trans rfl
              have hcz24_1 : w19.cell? ⟨gb124, 1, none⟩ = some (.int .i64 a0_1) := (blk_cell BK124.out 1).trans rfl
              have hcz24_2 : w19.cell? ⟨gb124, 2, none⟩ = some (.string a0_2) := (blk_cell BK124.out 2).trans rfl
              have hcz24_3 : w19.cell? ⟨gb124, 3, none⟩ = some (.int .i64 a0_3) := (blk_cell BK124.out 3).trans rfl
              have hcz24_4 : w19.cell? ⟨gb124, 4, none⟩ = some (.int .u32 a0_4) := (blk_cell BK124.out 4).trans rfl
              have hcz24_5 : w19.cell? ⟨gb124, 5, none⟩ = some (.bool a0_5) := (blk_cell BK124.out 5).trans rfl
              have hcz24_6 : w19.cell? ⟨gb124, 6, none⟩ = some (.bool a0_6) := (blk_cell BK124.out 6).trans rfl
              have hcz24_7 : w19.cell? ⟨gb124, 7, none⟩ = some (.string a0_7) := (blk_cell BK124.out 7).trans rfl
              have hcz24_8 : w19.cell? ⟨gb124, 8, none⟩ = some (.slice A0_8 l0_8.length c0_8) := (blk_cell BK124.out 8).trans rfl
              have hcz24_9 : w19.cell? ⟨gb124, 9, none⟩ = some (.slice A0_9 l0_9.length c0_9) := (blk_cell BK124.out 9).trans rfl
              have hcz24_10 : w19.cell? ⟨gb124, 10, none⟩ = some (.bool a0_10) := (blk_cell BK124.out 10).trans rfl
              have hfz24_0 := blk_frozen BK124.out 0
              have hfz24_1 := blk_frozen BK124.out 1
              have hfz24_2 := blk_frozen BK124.out 2
              have hfz24_3 := blk_frozen BK124.out 3
              have hfz24_4 := blk_frozen BK124.out 4
              have hfz24_5 := blk_frozen BK124.out 5
              have hfz24_6 := blk_frozen BK124.out 6
              have hfz24_7 := blk_frozen BK124.out 7
              have hfz24_8 := blk_frozen BK124.out 8
              have hfz24_9 := blk_frozen BK124.out 9
              have hfz24_10 := blk_frozen BK124.out 10
              have p130 : 0 ≤ (0 : Int) := (by omega)
              have q130 : 0 < (l0_0.length : Int) := of_decide_eq_true (by first | (with_reducible assumption) | assumption)
              obtain ⟨ad130, A130_2, c130_2, e130, hx130_0, hx130_1, hx130_2, hx130_3, hx130_4, hx130_5, hx130_6, hx130_7, hx130_8, hx130_9, hl130_2, hi130_2⟩ := at_T44 HR0_0.out 0 p130 q130
              cases e130
              have qi130 : (0 < l0_0.length) = True := eq_true (by omega)
              (try rw [show ((0 : Int)).toNat = 0 from rfl] at hx130_0)
              (try rw [show 0 * 10 = 0 from rfl] at hx130_0)
              (try rw [Addr.add_zero'] at hx130_0)
              (try rw [show ((0 : Int)).toNat = 0 from rfl] at hx130_1)
              (try rw [show 0 * 10 = 0 from rfl] at hx130_1)
              (try rw [Addr.add_zero'] at hx130_1)
              (try rw [show ((0 : Int)).toNat = 0 from rfl] at hx130_2)
              (try rw [show 0 * 10 = 0 from rfl] at hx130_2)
              (try rw [Addr.add_zero'] at hx130_2)
              (try rw [show ((0 : Int)).toNat = 0 from rfl] at hx130_3)
              (try rw [show 0 * 10 = 0 from rfl] at hx130_3)
              (try rw [Addr.add_zero'] at hx130_3)
              (try rw [show ((0 : Int)).toNat = 0 from rfl] at hx130_4)
              (try rw [show 0 * 10 = 0 from rfl] at hx130_4)
              (try rw [Addr.add_zero'] at hx130_4)
              (try rw [show ((0 : Int)).toNat = 0 from rfl] at hx130_5)
              (try rw [show 0 * 10 = 0 from rfl] at hx130_5)
              (try rw [Addr.add_zero'] at hx130_5)
              (try rw [show ((0 : Int)).toNat = 0 from rfl] at hx130_6)
              (try rw [show 0 * 10 = 0 from rfl] at hx130_6)
              (try rw [Addr.add_zero'] at hx130_6)
              (try rw [show ((0 : Int)).toNat = 0 from rfl] at hx130_7)
              (try rw [show 0 * 10 = 0 from rfl] at hx130_7)
              (try rw [Addr.add_zero'] at hx130_7)
              (try rw [show ((0 : Int)).toNat = 0 from rfl] at hx130_8)
              (try rw [show 0 * 10 = 0 from rfl] at hx130_8)
              (try rw [Addr.add_zero'] at hx130_8)
              (try rw [show ((0 : Int)).toNat = 0 from rfl] at hx130_9)
              (try rw [show 0 * 10 = 0 from rfl] at hx130_9)
              (try rw [Addr.add_zero'] at hx130_9)
              replace hx130_0 := (HB.out.cell (World.block_lt_of_cell? w _ hx130_0)).trans hx130_0
              replace hx130_1 := (HB.out.cell (World.block_lt_of_cell? w _ hx130_1)).trans hx130_1
              replace hx130_2 := (HB.out.cell (World.block_lt_of_cell? w _ hx130_2)).trans hx130_2
              replace hx130_3 := (HB.out.cell (World.block_lt_of_cell? w _ hx130_3)).trans hx130_3
              replace hx130_4 := (HB.out.cell (World.block_lt_of_cell? w _ hx130_4)).trans hx130_4
              replace hx130_5 := (HB.out.cell (World.block_lt_of_cell? w _ hx130_5)).trans hx130_5
              replace hx130_6 := (HB.out.cell (World.block_lt_of_cell? w _ hx130_6)).trans hx130_6
              replace hx130_7 := (HB.out.cell (World.block_lt_of_cell? w _ hx130_7)).trans hx130_7
              replace hx130_8 := (HB.out.cell (World.block_lt_of_cell? w _ hx130_8)).trans hx130_8
              replace hx130_9 := (HB.out.cell (World.block_lt_of_cell? w _ hx130_9)).trans hx130_9
              have HR130_2 := Aside0.mk hi130_2
              have HC130_2 := Aside0.mk hl130_2
              clear hi130_2 hl130_2
              replace p130 := eq_true p130
              replace q130 := eq_true q130
              have p131 : 0 ≤ (0 : Int) := (by omega)
              have q131 : 0 < (l0_0.length : Int) := of_decide_eq_true (by first | (with_reducible assumption) | assumption)
              obtain ⟨ad131, A131_2, c131_2, e131, hx131_0, hx131_1, hx131_2, hx131_3, hx131_4, hx131_5, hx131_6, hx131_7, hx131_8, hx131_9, hl131_2, hi131_2⟩ := at_T44 HR0_0.out 0 p131 q131
              obtain rfl : ad130 = ad131 := (by injection e131)
              have qi131 : (0 < l0_0.length) = True := eq_true (by omega)
              (try rw [show ((0 : Int)).toNat = 0 from rfl] at hx131_0)
              (try rw [show 0 * 10 = 0 from rfl] at hx131_0)
              (try rw [Addr.add_zero'] at hx131_0)
              (try rw [show ((0 : Int)).toNat = 0 from rfl] at hx131_1)
              (try rw [show 0 * 10 = 0 from rfl] at hx131_1)
              (try rw [Addr.add_zero'] at hx131_1)
              (try rw [show ((0 : Int)).toNat = 0 from rfl] at hx131_2)
              (try rw [show 0 * 10 = 0 from rfl] at hx131_2)
              (try rw [Addr.add_zero'] at hx131_2)
              (try rw [show ((0 : Int)).toNat = 0 from rfl] at hx131_3)
              (try rw [show 0 * 10 = 0 from rfl] at hx131_3)
              (try rw [Addr.add_zero'] at hx131_3)
              (try rw [show ((0 : Int)).toNat = 0 from rfl] at hx131_4)
              (try rw [show 0 * 10 = 0 from rfl] at hx131_4)
              (try rw [Addr.add_zero'] at hx131_4)
              (try rw [show ((0 : Int)).toNat = 0 from rfl] at hx131_5)
              (try rw [show 0 * 10 = 0 from rfl] at hx131_5)
              (try rw [Addr.add_zero'] at hx131_5)
              (try rw [show ((0 : Int)).toNat = 0 from rfl] at hx131_6)
              (try rw [show 0 * 10 = 0 from rfl] at hx131_6)
              (try rw [Addr.add_zero'] at hx131_6)
              (try rw [show ((0 : Int)).toNat = 0 from rfl] at hx131_7)
              (try rw [show 0 * 10 = 0 from rfl] at hx131_7)
              (try rw [Addr.add_zero'] at hx131_7)
              (try rw [show ((0 : Int)).toNat = 0 from rfl] at hx131_8)
              (try rw [show 0 * 10 = 0 from rfl] at hx131_8)
              (try rw [Addr.add_zero'] at hx131_8)
              (try rw [show ((0 : Int)).toNat = 0 from rfl] at hx131_9)
              (try rw [show 0 * 10 = 0 from rfl] at hx131_9)
              (try rw [Addr.add_zero'] at hx131_9)
              replace hx131_0 := (HB.out.cell (World.block_lt_of_cell? w _ hx131_0)).trans hx131_0
              replace hx131_1 := (HB.out.cell (World.block_lt_of_cell? w _ hx131_1)).trans hx131_1
              replace hx131_2 := (HB.out.cell (World.block_lt_of_cell? w _ hx131_2)).trans hx131_2
              replace hx131_3 := (HB.out.cell (World.block_lt_of_cell? w _ hx131_3)).trans hx131_3
              replace hx131_4 := (HB.out.cell (World.block_lt_of_cell? w _ hx131_4)).trans hx131_4
              replace hx131_5 := (HB.out.cell (World.block_lt_of_cell? w _ hx131_5)).trans hx131_5
              replace hx131_6 := (HB.out.cell (World.block_lt_of_cell? w _ hx131_6)).trans hx131_6
              replace hx131_7 := (HB.out.cell (World.block_lt_of_cell? w _ hx131_7)).trans hx131_7
              replace hx131_8 := (HB.out.cell (World.block_lt_of_cell? w _ hx131_8)).trans hx131_8
              replace hx131_9 := (HB.out.cell (World.block_lt_of_cell? w _ hx131_9)).trans hx131_9
              have HR131_2 := Aside0.mk hi131_2
              have HC131_2 := Aside0.mk hl131_2
              clear hi131_2 hl131_2
              replace p131 := eq_true p131
              replace q131 := eq_true q131
              have ea_ := Option.some.inj (hx130_2.symm.trans hx131_2)
              injection ea_ with ea_ en_ ec_
              subst ea_
              subst ec_
              clear en_
              go_wp2
              go_meet
              case rel => exact ⟨_, ((((rd_T44 l0_0 0).f0) == 1)), (by first | rfl | (simp; done) | (simp [*]; done)), H', ⟨by have := HJ4.out; first | omega | exact Nat.le_refl _⟩, ⟨by (with_reducible repeat (first | refine blk_drewN ?_ _ | refine blk_drew ?_ | refine blk_alloc ?_ _)); exact BK124.out⟩, ⟨by repeat (first | (with_reducible first | exact HB.out | apply below_alloc | apply pw_below_drewN | apply below_drew1 | refine below_set ?_ GE124.out) | exact HB.out)⟩⟩
          · rw [if_neg c21] at H
            exact absurd H (by simp)
        case rest =>
          clear HC17
          try clear c1
          try clear p1
          try clear q1
          try clear hx1
          try clear qi1
          try clear c2
          try clear p2
          try clear c4
          try clear c6
          try clear c9
          try clear c10
          try clear c11
          try clear c12
          try clear c12b0
          try clear c12b1
          try clear c12b2
          try clear c13
          try clear p13
          try clear q13
          try clear hx13
          try clear qi13
          try clear c15
          try clear c21
          try clear c21b0
          try clear c21b1
          try clear c22
          try clear c22b0
          try clear c22b1
          try clear hcz13_0
          try clear hcz13_1
          try clear hcz13_10
          try clear hcz13_2
          try clear hcz13_3
          try clear hcz13_4
          try clear hcz13_5
          try clear hcz13_6
          try clear hcz13_7
          try clear hcz13_8
          try clear hcz13_9
          try clear hcz14_0
          try clear hcz14_1
          try clear hcz14_10
          try clear hcz14_2
          try clear hcz14_3
          try clear hcz14_4
          try clear hcz14_5
          try clear hcz14_6
          try clear hcz14_7
          try clear hcz14_8
          try clear hcz14_9
          try clear hcz18_0
          try clear hcz18_1
          try clear hcz18_10
          try clear hcz18_2
          try clear hcz18_3
          try clear hcz18_4
          try clear hcz18_5
          try clear hcz18_6
          try clear hcz18_7
          try clear hcz18_8
          try clear hcz18_9
          try clear hcz23_0
          try clear hcz23_1
          try clear hcz23_10
          try clear hcz23_2
          try clear hcz23_3
          try clear hcz23_4
          try clear hcz23_5
          try clear hcz23_6
          try clear hcz23_7
          try clear hcz23_8
          try clear hcz23_9
          try clear hcz24_0
          try clear hcz24_1
          try clear hcz24_10
          try clear hcz24_2
          try clear hcz24_3
          try clear hcz24_4
          try clear hcz24_5
          try clear hcz24_6
          try clear hcz24_7
          try clear hcz24_8
          try clear hcz24_9
          try clear hcz8_0
          try clear hcz8_1
          try clear hcz8_10
          try clear hcz8_2
          try clear hcz8_3
          try clear hcz8_4
          try clear hcz8_5
          try clear hcz8_6
          try clear hcz8_7
          try clear hcz8_8
          try clear hcz8_9
          try clear hfz13_0
          try clear hfz13_1
          try clear hfz13_10
          try clear hfz13_2
          try clear hfz13_3
          try clear hfz13_4
          try clear hfz13_5
          try clear hfz13_6
          try clear hfz13_7
          try clear hfz13_8
          try clear hfz13_9
          try clear hfz14_0
          try clear hfz14_1
          try clear hfz14_10
          try clear hfz14_2
          try clear hfz14_3
          try clear hfz14_4
          try clear hfz14_5
          try clear hfz14_6
          try clear hfz14_7
          try clear hfz14_8
          try clear hfz14_9
          try clear hfz18_0
          try clear hfz18_1
          try clear hfz18_10
          try clear hfz18_2
          try clear hfz18_3
          try clear hfz18_4
          try clear hfz18_5
          try clear hfz18_6
          try clear hfz18_7
          try clear hfz18_8
          try clear hfz18_9
          try clear hfz23_0
          try clear hfz23_1
          try clear hfz23_10
          try clear hfz23_2
          try clear hfz23_3
          try clear hfz23_4
          try clear hfz23_5
          try clear hfz23_6
          try clear hfz23_7
          try clear hfz23_8
          try clear hfz23_9
          try clear hfz24_0
          try clear hfz24_1
          try clear hfz24_10
          try clear hfz24_2
          try clear hfz24_3
          try clear hfz24_4
          try clear hfz24_5
          try clear hfz24_6
          try clear hfz24_7
          try clear hfz24_8
          try clear hfz24_9
          try clear hfz8_0
          try clear hfz8_1
          try clear hfz8_10
          try clear hfz8_2
          try clear hfz8_3
          try clear hfz8_4
          try clear hfz8_5
          try clear hfz8_6
          try clear hfz8_7
          try clear hfz8_8
          try clear hfz8_9
          try clear hx130_0
          try clear hx130_1
          try clear hx130_2
          try clear hx130_3
          try clear hx130_4
          try clear hx130_5
          try clear hx130_6
          try clear hx130_7
          try clear hx130_8
          try clear hx130_9
          try clear hx131_0
          try clear hx131_1
          try clear hx131_2
          try clear hx131_3
          try clear hx131_4
          try clear hx131_5
          try clear hx131_6
          try clear hx131_7
          try clear hx131_8
          try clear hx131_9
          try clear p130
          try clear p131
          try clear p2
          try clear q130
          try clear q131
          obtain ⟨kq, x8_16, rfl, HA, HJ16, BK124, HB⟩ := hcut
          cases kq with
          | zero => exact absurd HA.out (by simp [butterylaw17_BinoutSilent.j1])
          | succ kj16 =>
            have H := HA.out
            clear HA
            simp only [butterylaw17_BinoutSilent.j1] at H
            by_cases c25 : a0_5 = true
            · subst c25
              have H1 : (if x8_16 = true then (if 0 < (l1.length : Int) then (some (((t127.length : Int) == 0) == (((rd_T46 l1 0).f0) == 1))) else (none)) else (if 0 < (l1.length : Int) then ((binout_Code.f kj16 ((rd_T46 l1 0).f0)).bind fun t134 => (some (((t127.length : Int) == 0) == (t134 == 0)))) else (none))) = some r := by rw [if_pos rfl] at H; exact H
              clear H
              have H := H1
              clear H1
              by_cases c26 : x8_16 = true
              · subst c26
                have H1 : (if 0 < (l1.length : Int) then (some (((t127.length : Int) == 0) == (((rd_T46 l1 0).f0) == 1))) else (none)) = some r := by rw [if_pos rfl] at H; exact H
                clear H
                have H := H1
                clear H1
                by_cases c27 : 0 < (l1.length : Int)
                · rw [if_pos c27] at H
                  have c27b0 : decide (0 < (l1.length : Int)) = true := decide_eq_true c27
                  have c27b1 : decide (0 < l1.length) = true := decide_eq_true (by omega)
                  clear c27
                  obtain rfl := Option.some.inj H
                  have hcz28_0 : wc.cell? ⟨gb124, 0, none⟩ = some (.slice A0_0 l0_0.length c0_0) := (blk_cell BK124.out 0).trans rfl
                  have hcz28_1 : wc.cell? ⟨gb124, 1, none⟩ = some (.int .i64 a0_1) := (blk_cell BK124.out 1).trans rfl
                  have hcz28_2 : wc.cell? ⟨gb124, 2, none⟩ = some (.string a0_2) := (blk_cell BK124.out 2).trans rfl
                  have hcz28_3 : wc.cell? ⟨gb124, 3, none⟩ = some (.int .i64 a0_3) := (blk_cell BK124.out 3).trans rfl
                  have hcz28_4 : wc.cell? ⟨gb124, 4, none⟩ = some (.int .u32 a0_4) := (blk_cell BK124.out 4).trans rfl
                  have hcz28_5 : wc.cell? ⟨gb124, 5, none⟩ = some (.bool true) := (blk_cell BK124.out 5).trans rfl
                  have hcz28_6 : wc.cell? ⟨gb124, 6, none⟩ = some (.bool a0_6) := (blk_cell BK124.out 6).trans rfl
                  have hcz28_7 : wc.cell? ⟨gb124, 7, none⟩ = some (.string a0_7) := (blk_cell BK124.out 7).trans rfl
                  have hcz28_8 : wc.cell? ⟨gb124, 8, none⟩ = some (.slice A0_8 l0_8.length c0_8) := (blk_cell BK124.out 8).trans rfl
                  have hcz28_9 : wc.cell? ⟨gb124, 9, none⟩ = some (.slice A0_9 l0_9.length c0_9) := (blk_cell BK124.out 9).trans rfl
                  have hcz28_10 : wc.cell? ⟨gb124, 10, none⟩ = some (.bool a0_10) := (blk_cell BK124.out 10).trans rfl
                  have hfz28_0 := blk_frozen BK124.out 0
                  have hfz28_1 := blk_frozen BK124.out 1
                  have hfz28_2 := blk_frozen BK124.out 2
                  have hfz28_3 := blk_frozen BK124.out 3
                  have hfz28_4 := blk_frozen BK124.out 4
                  have hfz28_5 := blk_frozen BK124.out 5
                  have hfz28_6 := blk_frozen BK124.out 6
                  have hfz28_7 := blk_frozen BK124.out 7
                  have hfz28_8 := blk_frozen BK124.out 8
                  have hfz28_9 := blk_frozen BK124.out 9
                  have hfz28_10 := blk_frozen BK124.out 10
                  have p132 : 0 ≤ (0 : Int) := (by omega)
                  have q132 : 0 < (l1.length : Int) := of_decide_eq_true (by first | (with_reducible assumption) | assumption)
                  obtain ⟨ad132, A132_1, c132_1, e132, hx132_0, hx132_1, hx132_2, hx132_3, hx132_4, hx132_5, hx132_6, hx132_7, hx132_8, hl132_1, hi132_1⟩ := at_T46 HR1.out 0 p132 q132
                  cases e132
                  have qi132 : (0 < l1.length) = True := eq_true (by omega)
                  (try rw [show ((0 : Int)).toNat = 0 from rfl] at hx132_0)
                  (try rw [show 0 * 9 = 0 from rfl] at hx132_0)
                  (try rw [Addr.add_zero'] at hx132_0)
                  (try rw [show ((0 : Int)).toNat = 0 from rfl] at hx132_1)
                  (try rw [show 0 * 9 = 0 from rfl] at hx132_1)
                  (try rw [Addr.add_zero'] at hx132_1)
                  (try rw [show ((0 : Int)).toNat = 0 from rfl] at hx132_2)
                  (try rw [show 0 * 9 = 0 from rfl] at hx132_2)
                  (try rw [Addr.add_zero'] at hx132_2)
                  (try rw [show ((0 : Int)).toNat = 0 from rfl] at hx132_3)
                  (try rw [show 0 * 9 = 0 from rfl] at hx132_3)
                  (try rw [Addr.add_zero'] at hx132_3)
                  (try rw [show ((0 : Int)).toNat = 0 from rfl] at hx132_4)
                  (try rw [show 0 * 9 = 0 from rfl] at hx132_4)
                  (try rw [Addr.add_zero'] at hx132_4)
                  (try rw [show ((0 : Int)).toNat = 0 from rfl] at hx132_5)
                  (try rw [show 0 * 9 = 0 from rfl] at hx132_5)
                  (try rw [Addr.add_zero'] at hx132_5)
                  (try rw [show ((0 : Int)).toNat = 0 from rfl] at hx132_6)
                  (try rw [show 0 * 9 = 0 from rfl] at hx132_6)
                  (try rw [Addr.add_zero'] at hx132_6)
                  (try rw [show ((0 : Int)).toNat = 0 from rfl] at hx132_7)
                  (try rw [show 0 * 9 = 0 from rfl] at hx132_7)
                  (try rw [Addr.add_zero'] at hx132_7)
                  (try rw [show ((0 : Int)).toNat = 0 from rfl] at hx132_8)
                  (try rw [show 0 * 9 = 0 from rfl] at hx132_8)
                  (try rw [Addr.add_zero'] at hx132_8)
                  replace hx132_0 := (HB.out.cell (World.block_lt_of_cell? w _ hx132_0)).trans hx132_0
                  replace hx132_1 := (HB.out.cell (World.block_lt_of_cell? w _ hx132_1)).trans hx132_1
                  replace hx132_2 := (HB.out.cell (World.block_lt_of_cell? w _ hx132_2)).trans hx132_2
                  replace hx132_3 := (HB.out.cell (World.block_lt_of_cell? w _ hx132_3)).trans hx132_3
                  replace hx132_4 := (HB.out.cell (World.block_lt_of_cell? w _ hx132_4)).trans hx132_4
                  replace hx132_5 := (HB.out.cell (World.block_lt_of_cell? w _ hx132_5)).trans hx132_5
                  replace hx132_6 := (HB.out.cell (World.block_lt_of_cell? w _ hx132_6)).trans hx132_6
                  replace hx132_7 := (HB.out.cell (World.block_lt_of_cell? w _ hx132_7)).trans hx132_7
                  replace hx132_8 := (HB.out.cell (World.block_lt_of_cell? w _ hx132_8)).trans hx132_8
                  have HR132_1 := Aside0.mk hi132_1
                  have HC132_1 := Aside0.mk hl132_1
                  clear hi132_1 hl132_1
                  replace p132 := eq_true p132
                  replace q132 := eq_true q132
                  go_wp2
                  go_ret
                  exact ⟨by first | rfl | (simp [errW_none, errW_some] <;> rfl) | (simp [*, errW_none, errW_some] <;> rfl), by repeat (first | (with_reducible first | exact HB.out | apply below_alloc | apply pw_below_drewN | apply below_drew1 | refine below_set ?_ GE124.out) | exact HB.out)⟩
                · rw [if_neg c27] at H
                  exact absurd H (by simp)
              · replace c26 := Bool.eq_false_iff.mpr c26
                subst c26
                have H1 : (if 0 < (l1.length : Int) then ((binout_Code.f kj16 ((rd_T46 l1 0).f0)).bind fun t134 => (some (((t127.length : Int) == 0) == (t134 == 0)))) else (none)) = some r := by rw [if_neg (show ¬ (false = true) by decide)] at H; exact H
                clear H
                have H := H1
                clear H1
                by_cases c29 : 0 < (l1.length : Int)
                · rw [if_pos c29] at H
                  have c29b0 : decide (0 < (l1.length : Int)) = true := decide_eq_true c29
                  have c29b1 : decide (0 < l1.length) = true := decide_eq_true (by omega)
                  clear c29
                  replace H := Option.bind_eq_some_iff.mp H
                  obtain ⟨t134, A300, H⟩ := H
                  replace H : (some (((t127.length : Int) == 0) == (t134 == 0))) = some r := H
                  have A30 := Aside0.mk A300
                  clear A300
                  obtain rfl := Option.some.inj H
                  have hcz31_0 : wc.cell? ⟨gb124, 0, none⟩ = some (.slice A0_0 l0_0.length c0_0) := (blk_cell BK124.out 0).trans rfl
                  have hcz31_1 : wc.cell? ⟨gb124, 1, none⟩ = some (.int .i64 a0_1) := (blk_cell BK124.out 1).trans rfl
                  have hcz31_2 : wc.cell? ⟨gb124, 2, none⟩ = some (.string a0_2) := (blk_cell BK124.out 2).trans rfl
                  have hcz31_3 : wc.cell? ⟨gb124, 3, none⟩ = some (.int .i64 a0_3) := (blk_cell BK124.out 3).trans rfl
                  have hcz31_4 : wc.cell? ⟨gb124, 4, none⟩ = some (.int .u32 a0_4) := (blk_cell BK124.out 4).trans rfl
                  have hcz31_5 : wc.cell? ⟨gb124, 5, none⟩ = some (.bool true) := (blk_cell BK124.out 5).trans rfl
                  have hcz31_6 : wc.cell? ⟨gb124, 6, none⟩ = some (.bool a0_6) := (blk_cell BK124.out 6).trans rfl
                  have hcz31_7 : wc.cell? ⟨gb124, 7, none⟩ = some (.string a0_7) := (blk_cell BK124.out 7).trans rfl
                  have hcz31_8 : wc.cell? ⟨gb124, 8, none⟩ = some (.slice A0_8 l0_8.length c0_8) := (blk_cell BK124.out 8).trans rfl
                  have hcz31_9 : wc.cell? ⟨gb124, 9, none⟩ = some (.slice A0_9 l0_9.length c0_9) := (blk_cell BK124.out 9).trans rfl
                  have hcz31_10 : wc.cell? ⟨gb124, 10, none⟩ = some (.bool a0_10) := (blk_cell BK124.out 10).trans rfl
                  have hfz31_0 := blk_frozen BK124.out 0
                  have hfz31_1 := blk_frozen BK124.out 1
                  have hfz31_2 := blk_frozen BK124.out 2
                  have hfz31_3 := blk_frozen BK124.out 3
                  have hfz31_4 := blk_frozen BK124.out 4
                  have hfz31_5 := blk_frozen BK124.out 5
                  have hfz31_6 := blk_frozen BK124.out 6
                  have hfz31_7 := blk_frozen BK124.out 7
                  have hfz31_8 := blk_frozen BK124.out 8
                  have hfz31_9 := blk_frozen BK124.out 9
                  have hfz31_10 := blk_frozen BK124.out 10
                  have p133 : 0 ≤ (0 : Int) := (by omega)
                  have q133 : 0 < (l1.length : Int) := of_decide_eq_true (by first | (with_reducible assumption) | assumption)
                  obtain ⟨ad133, A133_1, c133_1, e133, hx133_0, hx133_1, hx133_2, hx133_3, hx133_4, hx133_5, hx133_6, hx133_7, hx133_8, hl133_1, hi133_1⟩ := at_T46 HR1.out 0 p133 q133
                  cases e133
                  have qi133 : (0 < l1.length) = True := eq_true (by omega)
                  (try rw [show ((0 : Int)).toNat = 0 from rfl] at hx133_0)
                  (try rw [show 0 * 9 = 0 from rfl] at hx133_0)
                  (try rw [Addr.add_zero'] at hx133_0)
                  (try rw [show ((0 : Int)).toNat = 0 from rfl] at hx133_1)
                  (try rw [show 0 * 9 = 0 from rfl] at hx133_1)
                  (try rw [Addr.add_zero'] at hx133_1)
                  (try rw [show ((0 : Int)).toNat = 0 from rfl] at hx133_2)
                  (try rw [show 0 * 9 = 0 from rfl] at hx133_2)
                  (try rw [Addr.add_zero'] at hx133_2)
                  (try rw [show ((0 : Int)).toNat = 0 from rfl] at hx133_3)
                  (try rw [show 0 * 9 = 0 from rfl] at hx133_3)
                  (try rw [Addr.add_zero'] at hx133_3)
                  (try rw [show ((0 : Int)).toNat = 0 from rfl] at hx133_4)
                  (try rw [show 0 * 9 = 0 from rfl] at hx133_4)
                  (try rw [Addr.add_zero'] at hx133_4)
                  (try rw [show ((0 : Int)).toNat = 0 from rfl] at hx133_5)
                  (try rw [show 0 * 9 = 0 from rfl] at hx133_5)
                  (try rw [Addr.add_zero'] at hx133_5)
                  (try rw [show ((0 : Int)).toNat = 0 from rfl] at hx133_6)
                  (try rw [show 0 * 9 = 0 from rfl] at hx133_6)
                  (try rw [Addr.add_zero'] at hx133_6)
                  (try rw [show ((0 : Int)).toNat = 0 from rfl] at hx133_7)
                  (try rw [show 0 * 9 = 0 from rfl] at hx133_7)
                  (try rw [Addr.add_zero'] at hx133_7)
                  (try rw [show ((0 : Int)).toNat = 0 from rfl] at hx133_8)
                  (try rw [show 0 * 9 = 0 from rfl] at hx133_8)
                  (try rw [Addr.add_zero'] at hx133_8)
                  replace hx133_0 := (HB.out.cell (World.block_lt_of_cell? w _ hx133_0)).trans hx133_0
                  replace hx133_1 := (HB.out.cell (World.block_lt_of_cell? w _ hx133_1)).trans hx133_1
                  replace hx133_2 := (HB.out.cell (World.block_lt_of_cell? w _ hx133_2)).trans hx133_2
                  replace hx133_3 := (HB.out.cell (World.block_lt_of_cell? w _ hx133_3)).trans hx133_3
                  replace hx133_4 := (HB.out.cell (World.block_lt_of_cell? w _ hx133_4)).trans hx133_4
                  replace hx133_5 := (HB.out.cell (World.block_lt_of_cell? w _ hx133_5)).trans hx133_5
                  replace hx133_6 := (HB.out.cell (World.block_lt_of_cell? w _ hx133_6)).trans hx133_6
                  replace hx133_7 := (HB.out.cell (World.block_lt_of_cell? w _ hx133_7)).trans hx133_7
                  replace hx133_8 := (HB.out.cell (World.block_lt_of_cell? w _ hx133_8)).trans hx133_8
                  have HR133_1 := Aside0.mk hi133_1
                  have HC133_1 := Aside0.mk hl133_1
                  clear hi133_1 hl133_1
                  replace p133 := eq_true p133
                  replace q133 := eq_true q133
                  go_wp2_with (first | ((with_reducible refine gate_callee (f := 11) rfl ?_); refine goesL_ (some 70) rfl rfl Try.func11 (by kernel_rfl) rfl #[.int .i64 ((rd_T46 l1 0).f0)] rfl (by (try simp only [List.map_toArray, List.map_cons, List.map_nil]); first | done | rfl | (simp only [List.length_drop, List.length_take]; rfl)) ?_; (with_reducible refine (binout_Code.calls kj16 ((rd_T46 l1 0).f0) t134 _ A30.out).mono ?_); rintro e w' ⟨rfl, ⟨nd, rfl⟩⟩; refine ⟨_, rfl, ?_⟩))
                  go_ret
                  exact ⟨by first | rfl | (simp [errW_none, errW_some] <;> rfl) | (simp [*, errW_none, errW_some] <;> rfl), by repeat (first | (with_reducible first | exact HB.out | apply below_alloc | apply pw_below_drewN | apply below_drew1 | refine below_set ?_ GE124.out) | exact HB.out)⟩
                · rw [if_neg c29] at H
                  exact absurd H (by simp)
            · replace c25 := Bool.eq_false_iff.mpr c25
              subst c25
              have H1 : (some (decide ((t127.length : Int) ≥ 24))) = some r := by rw [if_neg (show ¬ (false = true) by decide)] at H; exact H
              clear H
              have H := H1
              clear H1
              obtain rfl := Option.some.inj H
              have hcz32_0 : wc.cell? ⟨gb124, 0, none⟩ = some (.slice A0_0 l0_0.length c0_0) := (blk_cell BK124.out 0).trans rfl
              have hcz32_1 : wc.cell? ⟨gb124, 1, none⟩ = some (.int .i64 a0_1) := (blk_cell BK124.out 1).trans rfl
              have hcz32_2 : wc.cell? ⟨gb124, 2, none⟩ = some (.string a0_2) := (blk_cell BK124.out 2).trans rfl
              have hcz32_3 : wc.cell? ⟨gb124, 3, none⟩ = some (.int .i64 a0_3) := (blk_cell BK124.out 3).trans rfl
              have hcz32_4 : wc.cell? ⟨gb124, 4, none⟩ = some (.int .u32 a0_4) := (blk_cell BK124.out 4).trans rfl
              have hcz32_5 : wc.cell? ⟨gb124, 5, none⟩ = some (.bool false) := (blk_cell BK124.out 5).trans rfl
              have hcz32_6 : wc.cell? ⟨gb124, 6, none⟩ = some (.bool a0_6) := (blk_cell BK124.out 6).trans rfl
              have hcz32_7 : wc.cell? ⟨gb124, 7, none⟩ = some (.string a0_7) := (blk_cell BK124.out 7).trans rfl
              have hcz32_8 : wc.cell? ⟨gb124, 8, none⟩ = some (.slice A0_8 l0_8.length c0_8) := (blk_cell BK124.out 8).trans rfl
              have hcz32_9 : wc.cell? ⟨gb124, 9, none⟩ = some (.slice A0_9 l0_9.length c0_9) := (blk_cell BK124.out 9).trans rfl
              have hcz32_10 : wc.cell? ⟨gb124, 10, none⟩ = some (.bool a0_10) := (blk_cell BK124.out 10).trans rfl
              have hfz32_0 := blk_frozen BK124.out 0
              have hfz32_1 := blk_frozen BK124.out 1
              have hfz32_2 := blk_frozen BK124.out 2
              have hfz32_3 := blk_frozen BK124.out 3
              have hfz32_4 := blk_frozen BK124.out 4
              have hfz32_5 := blk_frozen BK124.out 5
              have hfz32_6 := blk_frozen BK124.out 6
              have hfz32_7 := blk_frozen BK124.out 7
              have hfz32_8 := blk_frozen BK124.out 8
              have hfz32_9 := blk_frozen BK124.out 9
              have hfz32_10 := blk_frozen BK124.out 10
              go_wp2
              go_ret
              exact ⟨by first | rfl | (simp [errW_none, errW_some] <;> rfl) | (simp [*, errW_none, errW_some] <;> rfl), by repeat (first | (with_reducible first | exact HB.out | apply below_alloc | apply pw_below_drewN | apply below_drew1 | refine below_set ?_ GE124.out) | exact HB.out)⟩

/-- The pure statement of butterylaw17_BinoutSilent. -/
def butterylaw17_BinoutSilent.Pure : Prop := ∀ (l0_0 : List (S44)) (a0_1 : Int) (a0_2 : ByteArray) (a0_3 : Int) (a0_4 : Int) (a0_5 : Bool) (a0_6 : Bool) (a0_7 : ByteArray) (l0_8 : List ByteArray) (l0_9 : List ByteArray) (a0_10 : Bool) (l1 : List (S46)), (l0_0.length ≤ maxLen ∧ ∀ x ∈ l0_0, ok44 x) → ((Lit.int .i64 a0_1).wf = true) → (a0_2.size ≤ maxLen) → ((Lit.int .i64 a0_3).wf = true) → ((Lit.int .u32 a0_4).wf = true) → (a0_7.size ≤ maxLen) → (l0_8.length ≤ maxLen ∧ ∀ x ∈ l0_8, (fun s => s.size ≤ maxLen) x) → (l0_9.length ≤ maxLen ∧ ∀ x ∈ l0_9, (fun s => s.size ≤ maxLen) x) → (l1.length ≤ maxLen ∧ ∀ x ∈ l1, ok46 x) → ∃ k, butterylaw17_BinoutSilent.f k l0_0 a0_1 a0_2 a0_3 a0_4 a0_5 a0_6 a0_7 l0_8 l0_9 a0_10 l1 = some true

end Go.Proofs.Ytpfjoeagblkonaa.Hb
