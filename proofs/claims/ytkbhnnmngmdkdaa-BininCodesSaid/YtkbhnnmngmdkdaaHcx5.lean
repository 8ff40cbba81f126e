-- Written by this session's own program (wip/hprint.py) out of the translation, over hand-proved contracts. Lean checks it.
import Derived.Test.YtkbhnnmngmdkdaaHcx0
import Derived.Test.YtkbhnnmngmdkdaaHcx3
import Derived.Test.YtkbhnnmngmdkdaaHcx4
namespace Go.Proofs.Ytkbhnnmngmdkdaa.Hc
open Go.RowKit Go.Proofs.YtkbhnnmngmdkdaaW.PrintWords Go.Proofs.YtkbhnnmngmdkdaaW.PrintLast Go.Proofs.YtkbhnnmngmdkdaaW.PrintMore
attribute [local go_sem] max2_int min2_int max_two min_two max_three min_three max_four min_four   -- for this text's walks alone
set_option linter.unusedVariables false
set_option linter.unusedSimpArgs false

/-! ### binin_Parse: function 11 -/
def parseS (l : List Int) : St :=
  if l = [] then badS ⟨#[]⟩ 0 3 else if rd l 0 ≠ 128 then badS ⟨#[]⟩ 0 9 else if l.length < 24 then badS ⟨#[]⟩ 0 3
  else if 2048 < be (cut l 8 12) then badS ⟨#[]⟩ 0 9 else if (l.length : Int) < 24 + be (cut l 8 12) then badS ⟨#[]⟩ 0 3
  else reqS (rd l 1) (be (cut l 12 16)) (be (cut l 16 24)) (rd l 4).toNat (be (cut l 2 4)).toNat (cut l 24 (24 + (be (cut l 8 12)).toNat))
set_option maxHeartbeats 8000000 in
set_option maxRecDepth 100000 in
theorem parse_nil (A0 : Option Addr) (c0 : Nat) (w : World) : Calls Try.prog 11 #[.slice A0 0 c0] w fun e w' => e = .returned (badV ⟨#[]⟩ 0 3) ∧ Below w.heap.size w w' := by
  have hu34 := Try.underlying34
  have hu31 := Try.underlying31
  have hu29 := Try.underlying29
  have hu53 := Try.underlying53
  have hu22 := Try.underlying22
  go_enter Try.func11, Try.ntmps11
  go_wp2
  refine bodyPost_ret (v := badV ⟨#[]⟩ 0 3) (results_cell_row rfl _ _ w.heap.size 34 _ (0, 0) _ rfl (blk_new w _) Try.underlying34 rfl (by kernel_rfl)) rfl ?_
  exact ⟨rfl, by repeat (with_reducible first | exact Below.refl _ _ | apply below_alloc | apply below_drew | apply pw_below_drewN | refine below_set ?_ (by omega))⟩
set_option maxHeartbeats 8000000 in
set_option maxRecDepth 100000 in
theorem parse_other (A0 : Option Addr) (c0 : Nat) (l0 : List Int) (w : World) (hr0 : Kd.C (Kd.int .u8) w A0 l0.length l0) (hc0 : l0.length ≤ c0) (h : 0 < l0.length) (h1 : rd l0 0 ≠ 128) : Calls Try.prog 11 #[.slice A0 l0.length c0] w fun e w' => e = .returned (badV ⟨#[]⟩ 0 9) ∧ Below w.heap.size w w' := by
  have hu34 := Try.underlying34
  have hu31 := Try.underlying31
  have hu29 := Try.underlying29
  have hu53 := Try.underlying53
  have hu22 := Try.underlying22
  obtain ⟨ad, hA, hcell⟩ := Kd.at_int hr0 0 (by omega) (by omega)
  have ha0 : ad.add (0 : Int).toNat = ad := by simp [Addr.add]
  rw [ha0] at hcell
  subst hA
  have hp : (0 : Int) < (l0.length : Int) := by omega
  have hp2 : ((l0.length : Int) == 0) = false := beq_eq_false_iff_ne.mpr (by omega)
  have hcA : ∀ o : Obj, (w.alloc o).cell? ad = some (.int .u8 (rd l0 0)) := fun o => pw_cell_below (below_alloc (Below.refl _ _) o) hcell
  have hx : (rd l0 0 != 128) = true := bne_iff_ne.mpr h1
  clear hr0 h1 ha0 hcell
  generalize l0.length = n0 at *
  go_enter Try.func11, Try.ntmps11
  go_wp2
  refine bodyPost_ret (v := badV ⟨#[]⟩ 0 9) (results_cell_row rfl _ _ w.heap.size 34 _ (0, 0) _ rfl (blk_new w _) Try.underlying34 rfl (by kernel_rfl)) rfl ?_
  exact ⟨rfl, by repeat (with_reducible first | exact Below.refl _ _ | apply below_alloc | apply below_drew | apply pw_below_drewN | refine below_set ?_ (by omega))⟩
set_option maxHeartbeats 8000000 in
set_option maxRecDepth 100000 in
theorem parse_short (A0 : Option Addr) (c0 : Nat) (l0 : List Int) (w : World) (hr0 : Kd.C (Kd.int .u8) w A0 l0.length l0) (hc0 : l0.length ≤ c0) (h : 0 < l0.length) (h1 : rd l0 0 = 128) (h2 : l0.length < 24) : Calls Try.prog 11 #[.slice A0 l0.length c0] w fun e w' => e = .returned (badV ⟨#[]⟩ 0 3) ∧ Below w.heap.size w w' := by
  have hu34 := Try.underlying34
  have hu31 := Try.underlying31
  have hu29 := Try.underlying29
  have hu53 := Try.underlying53
  have hu22 := Try.underlying22
  obtain ⟨ad, hA, hcell⟩ := Kd.at_int hr0 0 (by omega) (by omega)
  have ha0 : ad.add (0 : Int).toNat = ad := by simp [Addr.add]
  rw [ha0] at hcell
  subst hA
  have hp : (0 : Int) < (l0.length : Int) := by omega
  have hp2 : ((l0.length : Int) == 0) = false := beq_eq_false_iff_ne.mpr (by omega)
  have hcA : ∀ o : Obj, (w.alloc o).cell? ad = some (.int .u8 (rd l0 0)) := fun o => pw_cell_below (below_alloc (Below.refl _ _) o) hcell
  have hx : (rd l0 0 != 128) = false := bne_eq_false_iff_eq.mpr h1
  have hd : decide (l0.length < 24) = true := decide_eq_true h2
  have hd2 : decide ((l0.length : Int) < 24) = true := decide_eq_true (by omega)
  clear hr0 h1 ha0 hcell
  generalize l0.length = n0 at *
  go_enter Try.func11, Try.ntmps11
  go_wp2
  refine bodyPost_ret (v := badV ⟨#[]⟩ 0 3) (results_cell_row rfl _ _ w.heap.size 34 _ (0, 0) _ rfl (blk_new w _) Try.underlying34 rfl (by kernel_rfl)) rfl ?_
  exact ⟨rfl, by repeat (with_reducible first | exact Below.refl _ _ | apply below_alloc | apply below_drew | apply pw_below_drewN | refine below_set ?_ (by omega))⟩
theorem C_set16 {W : World} {g : Nat} {A : Option Addr} {n : Nat} {xs : List Int} (h : Kd.C (Kd.int .u8) W A n xs) (hk : W.heap[g]? = some (.cells #[Value.slice none 0 0, Value.int .i64 0, Value.string ⟨#[]⟩, Value.int .i64 0, Value.int .u32 0, Value.bool false, Value.bool false, Value.string ⟨#[]⟩, Value.slice none 0 0, Value.slice none 0 0, Value.bool false, Value.string ⟨#[]⟩, Value.int .i64 0, Value.int .i64 0, Value.bool false, Value.int .i64 0] 34 (0, 0))) (v0 v1 v2 v3 v4 v5 v6 v7 v8 v9 v10 v11 v12 v13 v14 v15 : Value) : Kd.C (Kd.int .u8) (set16 W g v0 v1 v2 v3 v4 v5 v6 v7 v8 v9 v10 v11 v12 v13 v14 v15) A n xs :=
  (C_set_ne (C_set_ne (C_set_ne (C_set_ne (C_set_ne (C_set_ne (C_set_ne (C_set_ne (C_set_ne (C_set_ne (C_set_ne (C_set_ne (C_set_ne (C_set_ne (C_set_ne (C_set_ne h (fun x e => by rw [blk_cell hk 0] at e; cases e) (p := ⟨g, 0, none⟩) (u := v0)) (fun x e => by rw [blk_cell (blk_put (cs' := #[v0, Value.int .i64 0, Value.string ⟨#[]⟩, Value.int .i64 0, Value.int .u32 0, Value.bool false, Value.bool false, Value.string ⟨#[]⟩, Value.slice none 0 0, Value.slice none 0 0, Value.bool false, Value.string ⟨#[]⟩, Value.int .i64 0, Value.int .i64 0, Value.bool false, Value.int .i64 0]) hk 0 v0 rfl) 1] at e; cases e) (p := ⟨g, 1, none⟩) (u := v1)) (fun x e => by rw [blk_cell (blk_put (cs' := #[v0, v1, Value.string ⟨#[]⟩, Value.int .i64 0, Value.int .u32 0, Value.bool false, Value.bool false, Value.string ⟨#[]⟩, Value.slice none 0 0, Value.slice none 0 0, Value.bool false, Value.string ⟨#[]⟩, Value.int .i64 0, Value.int .i64 0, Value.bool false, Value.int .i64 0]) (blk_put (cs' := #[v0, Value.int .i64 0, Value.string ⟨#[]⟩, Value.int .i64 0, Value.int .u32 0, Value.bool false, Value.bool false, Value.string ⟨#[]⟩, Value.slice none 0 0, Value.slice none 0 0, Value.bool false, Value.string ⟨#[]⟩, Value.int .i64 0, Value.int .i64 0, Value.bool false, Value.int .i64 0]) hk 0 v0 rfl) 1 v1 rfl) 2] at e; cases e) (p := ⟨g, 2, none⟩) (u := v2)) (fun x e => by rw [blk_cell (blk_put (cs' := #[v0, v1, v2, Value.int .i64 0, Value.int .u32 0, Value.bool false, Value.bool false, Value.string ⟨#[]⟩, Value.slice none 0 0, Value.slice none 0 0, Value.bool false, Value.string ⟨#[]⟩, Value.int .i64 0, Value.int .i64 0, Value.bool false, Value.int .i64 0]) (blk_put (cs' := #[v0, v1, Value.string ⟨#[]⟩, Value.int .i64 0, Value.int .u32 0, Value.bool false, Value.bool false, Value.string ⟨#[]⟩, Value.slice none 0 0, Value.slice none 0 0, Value.bool false, Value.string ⟨#[]⟩, Value.int .i64 0, Value.int .i64 0, Value.bool false, Value.int .i64 0]) (blk_put (cs' := #[v0, Value.int .i64 0, Value.string ⟨#[]⟩, Value.int .i64 0, Value.int .u32 0, Value.bool false, Value.bool false, Value.string ⟨#[]⟩, Value.slice none 0 0, Value.slice none 0 0, Value.bool false, Value.string ⟨#[]⟩, Value.int .i64 0, Value.int .i64 0, Value.bool false, Value.int .i64 0]) hk 0 v0 rfl) 1 v1 rfl) 2 v2 rfl) 3] at e; cases e) (p := ⟨g, 3, none⟩) (u := v3)) (fun x e => by rw [blk_cell (blk_put (cs' := #[v0, v1, v2, v3, Value.int .u32 0, Value.bool false, Value.bool false, Value.string ⟨#[]⟩, Value.slice none 0 0, Value.slice none 0 0, Value.bool false, Value.string ⟨#[]⟩, Value.int .i64 0, Value.int .i64 0, Value.bool false, Value.int .i64 0]) (blk_put (cs' := #[v0, v1, v2, Value.int .i64 0, Value.int .u32 0, Value.bool false, Value.bool false, Value.string ⟨#[]⟩, Value.slice none 0 0, Value.slice none 0 0, Value.bool false, Value.string ⟨#[]⟩, Value.int .i64 0, Value.int .i64 0, Value.bool false, Value.int .i64 0]) (blk_put (cs' := #[v0, v1, Value.string ⟨#[]⟩, Value.int .i64 0, Value.int .u32 0, Value.bool false, Value.bool false, Value.string ⟨#[]⟩, Value.slice none 0 0, Value.slice none 0 0, Value.bool false, Value.string ⟨#[]⟩, Value.int .i64 0, Value.int .i64 0, Value.bool false, Value.int .i64 0]) (blk_put (cs' := #[v0, Value.int .i64 0, Value.string ⟨#[]⟩, Value.int .i64 0, Value.int .u32 0, Value.bool false, Value.bool false, Value.string ⟨#[]⟩, Value.slice none 0 0, Value.slice none 0 0, Value.bool false, Value.string ⟨#[]⟩, Value.int .i64 0, Value.int .i64 0, Value.bool false, Value.int .i64 0]) hk 0 v0 rfl) 1 v1 rfl) 2 v2 rfl) 3 v3 rfl) 4] at e; cases e) (p := ⟨g, 4, none⟩) (u := v4)) (fun x e => by rw [blk_cell (blk_put (cs' := #[v0, v1, v2, v3, v4, Value.bool false, Value.bool false, Value.string ⟨#[]⟩, Value.slice none 0 0, Value.slice none 0 0, Value.bool false, Value.string ⟨#[]⟩, Value.int .i64 0, Value.int .i64 0, Value.bool false, Value.int .i64 0]) (blk_put (cs' := #[v0, v1, v2, v3, Value.int .u32 0, Value.bool false, Value.bool false, Value.string ⟨#[]⟩, Value.slice none 0 0, Value.slice none 0 0, Value.bool false, Value.string ⟨#[]⟩, Value.int .i64 0, Value.int .i64 0, Value.bool false, Value.int .i64 0]) (blk_put (cs' := #[v0, v1, v2, Value.int .i64 0, Value.int .u32 0, Value.bool false, Value.bool false, Value.string ⟨#[]⟩, Value.slice none 0 0, Value.slice none 0 0, Value.bool false, Value.string ⟨#[]⟩, Value.int .i64 0, Value.int .i64 0, Value.bool false, Value.int .i64 0]) (blk_put (cs' := #[v0, v1, Value.string ⟨#[]⟩, Value.int .i64 0, Value.int .u32 0, Value.bool false, Value.bool false, Value.string ⟨#[]⟩, Value.slice none 0 0, Value.slice none 0 0, Value.bool false, Value.string ⟨#[]⟩, Value.int .i64 0, Value.int .i64 0, Value.bool false, Value.int .i64 0]) (blk_put (cs' := #[v0, Value.int .i64 0, Value.string ⟨#[]⟩, Value.int .i64 0, Value.int .u32 0, Value.bool false, Value.bool false, Value.string ⟨#[]⟩, Value.slice none 0 0, Value.slice none 0 0, Value.bool false, Value.string ⟨#[]⟩, Value.int .i64 0, Value.int .i64 0, Value.bool false, Value.int .i64 0]) hk 0 v0 rfl) 1 v1 rfl) 2 v2 rfl) 3 v3 rfl) 4 v4 rfl) 5] at e; cases e) (p := ⟨g, 5, none⟩) (u := v5)) (fun x e => by rw [blk_cell (blk_put (cs' := #[v0, v1, v2, v3, v4, v5, Value.bool false, Value.string ⟨#[]⟩, Value.slice none 0 0, Value.slice none 0 0, Value.bool false, Value.string ⟨#[]⟩, Value.int .i64 0, Value.int .i64 0, Value.bool false, Value.int .i64 0]) (blk_put (cs' := #[v0, v1, v2, v3, v4, Value.bool false, Value.bool false, Value.string ⟨#[]⟩, Value.slice none 0 0, Value.slice none 0 0, Value.bool false, Value.string ⟨#[]⟩, Value.int .i64 0, Value.int .i64 0, Value.bool false, Value.int .i64 0]) (blk_put (cs' := #[v0, v1, v2, v3, Value.int .u32 0, Value.bool false, Value.bool false, Value.string ⟨#[]⟩, Value.slice none 0 0, Value.slice none 0 0, Value.bool false, Value.string ⟨#[]⟩, Value.int .i64 0, Value.int .i64 0, Value.bool false, Value.int .i64 0]) (blk_put (cs' := #[v0, v1, v2, Value.int .i64 0, Value.int .u32 0, Value.bool false, Value.bool false, Value.string ⟨#[]⟩, Value.slice none 0 0, Value.slice none 0 0, Value.bool false, Value.string ⟨#[]⟩, Value.int .i64 0, Value.int .i64 0, Value.bool false, Value.int .i64 0]) (blk_put (cs' := #[v0, v1, Value.string ⟨#[]⟩, Value.int .i64 0, Value.int .u32 0, Value.bool false, Value.bool false, Value.string ⟨#[]⟩, Value.slice none 0 0, Value.slice none 0 0, Value.bool false, Value.string ⟨#[]⟩, Value.int .i64 0, Value.int .i64 0, Value.bool false, Value.int .i64 0]) (blk_put (cs' := #[v0, Value.int .i64 0, Value.string ⟨#[]⟩, Value.int .i64 0, Value.int .u32 0, Value.bool false, Value.bool false, Value.string ⟨#[]⟩, Value.slice none 0 0, Value.slice none 0 0, Value.bool false, Value.string ⟨#[]⟩, Value.int .i64 0, Value.int .i64 0, Value.bool false, Value.int .i64 0]) hk 0 v0 rfl) 1 v1 rfl) 2 v2 rfl) 3 v3 rfl) 4 v4 rfl) 5 v5 rfl) 6] at e; cases e) (p := ⟨g, 6, none⟩) (u := v6)) (fun x e => by rw [blk_cell (blk_put (cs' := #[v0, v1, v2, v3, v4, v5, v6, Value.string ⟨#[]⟩, Value.slice none 0 0, Value.slice none 0 0, Value.bool false, Value.string ⟨#[]⟩, Value.int .i64 0, Value.int .i64 0, Value.bool false, Value.int .i64 0]) (blk_put (cs' := #[v0, v1, v2, v3, v4, v5, Value.bool false, Value.string ⟨#[]⟩, Value.slice none 0 0, Value.slice none 0 0, Value.bool false, Value.string ⟨#[]⟩, Value.int .i64 0, Value.int .i64 0, Value.bool false, Value.int .i64 0]) (blk_put (cs' := #[v0, v1, v2, v3, v4, Value.bool false, Value.bool false, Value.string ⟨#[]⟩, Value.slice none 0 0, Value.slice none 0 0, Value.bool false, Value.string ⟨#[]⟩, Value.int .i64 0, Value.int .i64 0, Value.bool false, Value.int .i64 0]) (blk_put (cs' := #[v0, v1, v2, v3, Value.int .u32 0, Value.bool false, Value.bool false, Value.string ⟨#[]⟩, Value.slice none 0 0, Value.slice none 0 0, Value.bool false, Value.string ⟨#[]⟩, Value.int .i64 0, Value.int .i64 0, Value.bool false, Value.int .i64 0]) (blk_put (cs' := #[v0, v1, v2, Value.int .i64 0, Value.int .u32 0, Value.bool false, Value.bool false, Value.string ⟨#[]⟩, Value.slice none 0 0, Value.slice none 0 0, Value.bool false, Value.string ⟨#[]⟩, Value.int .i64 0, Value.int .i64 0, Value.bool false, Value.int .i64 0]) (blk_put (cs' := #[v0, v1, Value.string ⟨#[]⟩, Value.int .i64 0, Value.int .u32 0, Value.bool false, Value.bool false, Value.string ⟨#[]⟩, Value.slice none 0 0, Value.slice none 0 0, Value.bool false, Value.string ⟨#[]⟩, Value.int .i64 0, Value.int .i64 0, Value.bool false, Value.int .i64 0]) (blk_put (cs' := #[v0, Value.int .i64 0, Value.string ⟨#[]⟩, Value.int .i64 0, Value.int .u32 0, Value.bool false, Value.bool false, Value.string ⟨#[]⟩, Value.slice none 0 0, Value.slice none 0 0, Value.bool false, Value.string ⟨#[]⟩, Value.int .i64 0, Value.int .i64 0, Value.bool false, Value.int .i64 0]) hk 0 v0 rfl) 1 v1 rfl) 2 v2 rfl) 3 v3 rfl) 4 v4 rfl) 5 v5 rfl) 6 v6 rfl) 7] at e; cases e) (p := ⟨g, 7, none⟩) (u := v7)) (fun x e => by rw [blk_cell (blk_put (cs' := #[v0, v1, v2, v3, v4, v5, v6, v7, Value.slice none 0 0, Value.slice none 0 0, Value.bool false, Value.string ⟨#[]⟩, Value.int .i64 0, Value.int .i64 0, Value.bool false, Value.int .i64 0]) (blk_put (cs' := #[v0, v1, v2, v3, v4, v5, v6, Value.string ⟨#[]⟩, Value.slice none 0 0, Value.slice none 0 0, Value.bool false, Value.string ⟨#[]⟩, Value.int .i64 0, Value.int .i64 0, Value.bool false, Value.int .i64 0]) (blk_put (cs' := #[v0, v1, v2, v3, v4, v5, Value.bool false, Value.string ⟨#[]⟩, Value.slice none 0 0, Value.slice none 0 0, Value.bool false, Value.string ⟨#[]⟩, Value.int .i64 0, Value.int .i64 0, Value.bool false, Value.int .i64 0]) (blk_put (cs' := #[v0, v1, v2, v3, v4, Value.bool false, Value.bool false, Value.string ⟨#[]⟩, Value.slice none 0 0, Value.slice none 0 0, Value.bool false, Value.string ⟨#[]⟩, Value.int .i64 0, Value.int .i64 0, Value.bool false, Value.int .i64 0]) (blk_put (cs' := #[v0, v1, v2, v3, Value.int .u32 0, Value.bool false, Value.bool false, Value.string ⟨#[]⟩, Value.slice none 0 0, Value.slice none 0 0, Value.bool false, Value.string ⟨#[]⟩, Value.int .i64 0, Value.int .i64 0, Value.bool false, Value.int .i64 0]) (blk_put (cs' := #[v0, v1, v2, Value.int .i64 0, Value.int .u32 0, Value.bool false, Value.bool false, Value.string ⟨#[]⟩, Value.slice none 0 0, Value.slice none 0 0, Value.bool false, Value.string ⟨#[]⟩, Value.int .i64 0, Value.int .i64 0, Value.bool false, Value.int .i64 0]) (blk_put (cs' := #[v0, v1, Value.string ⟨#[]⟩, Value.int .i64 0, Value.int .u32 0, Value.bool false, Value.bool false, Value.string ⟨#[]⟩, Value.slice none 0 0, Value.slice none 0 0, Value.bool false, Value.string ⟨#[]⟩, Value.int .i64 0, Value.int .i64 0, Value.bool false, Value.int .i64 0]) (blk_put (cs' := #[v0, Value.int .i64 0, Value.string ⟨#[]⟩, Value.int .i64 0, Value.int .u32 0, Value.bool false, Value.bool false, Value.string ⟨#[]⟩, Value.slice none 0 0, Value.slice none 0 0, Value.bool false, Value.string ⟨#[]⟩, Value.int .i64 0, Value.int .i64 0, Value.bool false, Value.int .i64 0]) hk 0 v0 rfl) 1 v1 rfl) 2 v2 rfl) 3 v3 rfl) 4 v4 rfl) 5 v5 rfl) 6 v6 rfl) 7 v7 rfl) 8] at e; cases e) (p := ⟨g, 8, none⟩) (u := v8)) (fun x e => by rw [blk_cell (blk_put (cs' := #[v0, v1, v2, v3, v4, v5, v6, v7, v8, Value.slice none 0 0, Value.bool false, Value.string ⟨#[]⟩, Value.int .i64 0, Value.int .i64 0, Value.bool false, Value.int .i64 0]) (blk_put (cs' := #[v0, v1, v2, v3, v4, v5, v6, v7, Value.slice none 0 0, Value.slice none 0 0, Value.bool false, Value.string ⟨#[]⟩, Value.int .i64 0, Value.int .i64 0, Value.bool false, Value.int .i64 0]) (blk_put (cs' := #[v0, v1, v2, v3, v4, v5, v6, Value.string ⟨#[]⟩, Value.slice none 0 0, Value.slice none 0 0, Value.bool false, Value.string ⟨#[]⟩, Value.int .i64 0, Value.int .i64 0, Value.bool false, Value.int .i64 0]) (blk_put (cs' := #[v0, v1, v2, v3, v4, v5, Value.bool false, Value.string ⟨#[]⟩, Value.slice none 0 0, Value.slice none 0 0, Value.bool false, Value.string ⟨#[]⟩, Value.int .i64 0, Value.int .i64 0, Value.bool false, Value.int .i64 0]) (blk_put (cs' := #[v0, v1, v2, v3, v4, Value.bool false, Value.bool false, Value.string ⟨#[]⟩, Value.slice none 0 0, Value.slice none 0 0, Value.bool false, Value.string ⟨#[]⟩, Value.int .i64 0, Value.int .i64 0, Value.bool false, Value.int .i64 0]) (blk_put (cs' := #[v0, v1, v2, v3, Value.int .u32 0, Value.bool false, Value.bool false, Value.string ⟨#[]⟩, Value.slice none 0 0, Value.slice none 0 0, Value.bool false, Value.string ⟨#[]⟩, Value.int .i64 0, Value.int .i64 0, Value.bool false, Value.int .i64 0]) (blk_put (cs' := #[v0, v1, v2, Value.int .i64 0, Value.int .u32 0, Value.bool false, Value.bool false, Value.string ⟨#[]⟩, Value.slice none 0 0, Value.slice none 0 0, Value.bool false, Value.string ⟨#[]⟩, Value.int .i64 0, Value.int .i64 0, Value.bool false, Value.int .i64 0]) (blk_put (cs' := #[v0, v1, Value.string ⟨#[]⟩, Value.int .i64 0, Value.int .u32 0, Value.bool false, Value.bool false, Value.string ⟨#[]⟩, Value.slice none 0 0, Value.slice none 0 0, Value.bool false, Value.string ⟨#[]⟩, Value.int .i64 0, Value.int .i64 0, Value.bool false, Value.int .i64 0]) (blk_put (cs' := #[v0, Value.int .i64 0, Value.string ⟨#[]⟩, Value.int .i64 0, Value.int .u32 0, Value.bool false, Value.bool false, Value.string ⟨#[]⟩, Value.slice none 0 0, Value.slice none 0 0, Value.bool false, Value.string ⟨#[]⟩, Value.int .i64 0, Value.int .i64 0, Value.bool false, Value.int .i64 0]) hk 0 v0 rfl) 1 v1 rfl) 2 v2 rfl) 3 v3 rfl) 4 v4 rfl) 5 v5 rfl) 6 v6 rfl) 7 v7 rfl) 8 v8 rfl) 9] at e; cases e) (p := ⟨g, 9, none⟩) (u := v9)) (fun x e => by rw [blk_cell (blk_put (cs' := #[v0, v1, v2, v3, v4, v5, v6, v7, v8, v9, Value.bool false, Value.string ⟨#[]⟩, Value.int .i64 0, Value.int .i64 0, Value.bool false, Value.int .i64 0]) (blk_put (cs' := #[v0, v1, v2, v3, v4, v5, v6, v7, v8, Value.slice none 0 0, Value.bool false, Value.string ⟨#[]⟩, Value.int .i64 0, Value.int .i64 0, Value.bool false, Value.int .i64 0]) (blk_put (cs' := #[v0, v1, v2, v3, v4, v5, v6, v7, Value.slice none 0 0, Value.slice none 0 0, Value.bool false, Value.string ⟨#[]⟩, Value.int .i64 0, Value.int .i64 0, Value.bool false, Value.int .i64 0]) (blk_put (cs' := #[v0, v1, v2, v3, v4, v5, v6, Value.string ⟨#[]⟩, Value.slice none 0 0, Value.slice none 0 0, Value.bool false, Value.string ⟨#[]⟩, Value.int .i64 0, Value.int .i64 0, Value.bool false, Value.int .i64 0]) (blk_put (cs' := #[v0, v1, v2, v3, v4, v5, Value.bool false, Value.string ⟨#[]⟩, Value.slice none 0 0, Value.slice none 0 0, Value.bool false, Value.string ⟨#[]⟩, Value.int .i64 0, Value.int .i64 0, Value.bool false, Value.int .i64 0]) (blk_put (cs' := #[v0, v1, v2, v3, v4, Value.bool false, Value.bool false, Value.string ⟨#[]⟩, Value.slice none 0 0, Value.slice none 0 0, Value.bool false, Value.string ⟨#[]⟩, Value.int .i64 0, Value.int .i64 0, Value.bool false, Value.int .i64 0]) (blk_put (cs' := #[v0, v1, v2, v3, Value.int .u32 0, Value.bool false, Value.bool false, Value.string ⟨#[]⟩, Value.slice none 0 0, Value.slice none 0 0, Value.bool false, Value.string ⟨#[]⟩, Value.int .i64 0, Value.int .i64 0, Value.bool false, Value.int .i64 0]) (blk_put (cs' := #[v0, v1, v2, Value.int .i64 0, Value.int .u32 0, Value.bool false, Value.bool false, Value.string ⟨#[]⟩, Value.slice none 0 0, Value.slice none 0 0, Value.bool false, Value.string ⟨#[]⟩, Value.int .i64 0, Value.int .i64 0, Value.bool false, Value.int .i64 0]) (blk_put (cs' := #[v0, v1, Value.string ⟨#[]⟩, Value.int .i64 0, Value.int .u32 0, Value.bool false, Value.bool false, Value.string ⟨#[]⟩, Value.slice none 0 0, Value.slice none 0 0, Value.bool false, Value.string ⟨#[]⟩, Value.int .i64 0, Value.int .i64 0, Value.bool false, Value.int .i64 0]) (blk_put (cs' := #[v0, Value.int .i64 0, Value.string ⟨#[]⟩, Value.int .i64 0, Value.int .u32 0, Value.bool false, Value.bool false, Value.string ⟨#[]⟩, Value.slice none 0 0, Value.slice none 0 0, Value.bool false, Value.string ⟨#[]⟩, Value.int .i64 0, Value.int .i64 0, Value.bool false, Value.int .i64 0]) hk 0 v0 rfl) 1 v1 rfl) 2 v2 rfl) 3 v3 rfl) 4 v4 rfl) 5 v5 rfl) 6 v6 rfl) 7 v7 rfl) 8 v8 rfl) 9 v9 rfl) 10] at e; cases e) (p := ⟨g, 10, none⟩) (u := v10)) (fun x e => by rw [blk_cell (blk_put (cs' := #[v0, v1, v2, v3, v4, v5, v6, v7, v8, v9, v10, Value.string ⟨#[]⟩, Value.int .i64 0, Value.int .i64 0, Value.bool false, Value.int .i64 0]) (blk_put (cs' := #[v0, v1, v2, v3, v4, v5, v6, v7, v8, v9, Value.bool false, Value.string ⟨#[]⟩, Value.int .i64 0, Value.int .i64 0, Value.bool false, Value.int .i64 0]) (blk_put (cs' := #[v0, v1, v2, v3, v4, v5, v6, v7, v8, Value.slice none 0 0, Value.bool false, Value.string ⟨#[]⟩, Value.int .i64 0, Value.int .i64 0, Value.bool false, Value.int .i64 0]) (blk_put (cs' := #[v0, v1, v2, v3, v4, v5, v6, v7, Value.slice none 0 0, Value.slice none 0 0, Value.bool false, Value.string ⟨#[]⟩, Value.int .i64 0, Value.int .i64 0, Value.bool false, Value.int .i64 0]) (blk_put (cs' := #[v0, v1, v2, v3, v4, v5, v6, Value.string ⟨#[]⟩, Value.slice none 0 0, Value.slice none 0 0, Value.bool false, Value.string ⟨#[]⟩, Value.int .i64 0, Value.int .i64 0, Value.bool false, Value.int .i64 0]) (blk_put (cs' := #[v0, v1, v2, v3, v4, v5, Value.bool false, Value.string ⟨#[]⟩, Value.slice none 0 0, Value.slice none 0 0, Value.bool false, Value.string ⟨#[]⟩, Value.int .i64 0, Value.int .i64 0, Value.bool false, Value.int .i64 0]) (blk_put (cs' := #[v0, v1, v2, v3, v4, Value.bool false, Value.bool false, Value.string ⟨#[]⟩, Value.slice none 0 0, Value.slice none 0 0, Value.bool false, Value.string ⟨#[]⟩, Value.int .i64 0, Value.int .i64 0, Value.bool false, Value.int .i64 0]) (blk_put (cs' := #[v0, v1, v2, v3, Value.int .u32 0, Value.bool false, Value.bool false, Value.string ⟨#[]⟩, Value.slice none 0 0, Value.slice none 0 0, Value.bool false, Value.string ⟨#[]⟩, Value.int .i64 0, Value.int .i64 0, Value.bool false, Value.int .i64 0]) (blk_put (cs' := #[v0, v1, v2, Value.int .i64 0, Value.int .u32 0, Value.bool false, Value.bool false, Value.string ⟨#[]⟩, Value.slice none 0 0, Value.slice none 0 0, Value.bool false, Value.string ⟨#[]⟩, Value.int .i64 0, Value.int .i64 0, Value.bool false, Value.int .i64 0]) (blk_put (cs' := #[v0, v1, Value.string ⟨#[]⟩, Value.int .i64 0, Value.int .u32 0, Value.bool false, Value.bool false, Value.string ⟨#[]⟩, Value.slice none 0 0, Value.slice none 0 0, Value.bool false, Value.string ⟨#[]⟩, Value.int .i64 0, Value.int .i64 0, Value.bool false, Value.int .i64 0]) (blk_put (cs' := #[v0, Value.int .i64 0, Value.string ⟨#[]⟩, Value.int .i64 0, Value.int .u32 0, Value.bool false, Value.bool false, Value.string ⟨#[]⟩, Value.slice none 0 0, Value.slice none 0 0, Value.bool false, Value.string ⟨#[]⟩, Value.int .i64 0, Value.int .i64 0, Value.bool false, Value.int .i64 0]) hk 0 v0 rfl) 1 v1 rfl) 2 v2 rfl) 3 v3 rfl) 4 v4 rfl) 5 v5 rfl) 6 v6 rfl) 7 v7 rfl) 8 v8 rfl) 9 v9 rfl) 10 v10 rfl) 11] at e; cases e) (p := ⟨g, 11, none⟩) (u := v11)) (fun x e => by rw [blk_cell (blk_put (cs' := #[v0, v1, v2, v3, v4, v5, v6, v7, v8, v9, v10, v11, Value.int .i64 0, Value.int .i64 0, Value.bool false, Value.int .i64 0]) (blk_put (cs' := #[v0, v1, v2, v3, v4, v5, v6, v7, v8, v9, v10, Value.string ⟨#[]⟩, Value.int .i64 0, Value.int .i64 0, Value.bool false, Value.int .i64 0]) (blk_put (cs' := #[v0, v1, v2, v3, v4, v5, v6, v7, v8, v9, Value.bool false, Value.string ⟨#[]⟩, Value.int .i64 0, Value.int .i64 0, Value.bool false, Value.int .i64 0]) (blk_put (cs' := #[v0, v1, v2, v3, v4, v5, v6, v7, v8, Value.slice none 0 0, Value.bool false, Value.string ⟨#[]⟩, Value.int .i64 0, Value.int .i64 0, Value.bool false, Value.int .i64 0]) (blk_put (cs' := #[v0, v1, v2, v3, v4, v5, v6, v7, Value.slice none 0 0, Value.slice none 0 0, Value.bool false, Value.string ⟨#[]⟩, Value.int .i64 0, Value.int .i64 0, Value.bool false, Value.int .i64 0]) (blk_put (cs' := #[v0, v1, v2, v3, v4, v5, v6, Value.string ⟨#[]⟩, Value.slice none 0 0, Value.slice none 0 0, Value.bool false, Value.string ⟨#[]⟩, Value.int .i64 0, Value.int .i64 0, Value.bool false, Value.int .i64 0]) (blk_put (cs' := #[v0, v1, v2, v3, v4, v5, Value.bool false, Value.string ⟨#[]⟩, Value.slice none 0 0, Value.slice none 0 0, Value.bool false, Value.string ⟨#[]⟩, Value.int .i64 0, Value.int .i64 0, Value.bool false, Value.int .i64 0]) (blk_put (cs' := #[v0, v1, v2, v3, v4, Value.bool false, Value.bool false, Value.string ⟨#[]⟩, Value.slice none 0 0, Value.slice none 0 0, Value.bool false, Value.string ⟨#[]⟩, Value.int .i64 0, Value.int .i64 0, Value.bool false, Value.int .i64 0]) (blk_put (cs' := #[v0, v1, v2, v3, Value.int .u32 0, Value.bool false, Value.bool false, Value.string ⟨#[]⟩, Value.slice none 0 0, Value.slice none 0 0, Value.bool false, Value.string ⟨#[]⟩, Value.int .i64 0, Value.int .i64 0, Value.bool false, Value.int .i64 0]) (blk_put (cs' := #[v0, v1, v2, Value.int .i64 0, Value.int .u32 0, Value.bool false, Value.bool false, Value.string ⟨#[]⟩, Value.slice none 0 0, Value.slice none 0 0, Value.bool false, Value.string ⟨#[]⟩, Value.int .i64 0, Value.int .i64 0, Value.bool false, Value.int .i64 0]) (blk_put (cs' := #[v0, v1, Value.string ⟨#[]⟩, Value.int .i64 0, Value.int .u32 0, Value.bool false, Value.bool false, Value.string ⟨#[]⟩, Value.slice none 0 0, Value.slice none 0 0, Value.bool false, Value.string ⟨#[]⟩, Value.int .i64 0, Value.int .i64 0, Value.bool false, Value.int .i64 0]) (blk_put (cs' := #[v0, Value.int .i64 0, Value.string ⟨#[]⟩, Value.int .i64 0, Value.int .u32 0, Value.bool false, Value.bool false, Value.string ⟨#[]⟩, Value.slice none 0 0, Value.slice none 0 0, Value.bool false, Value.string ⟨#[]⟩, Value.int .i64 0, Value.int .i64 0, Value.bool false, Value.int .i64 0]) hk 0 v0 rfl) 1 v1 rfl) 2 v2 rfl) 3 v3 rfl) 4 v4 rfl) 5 v5 rfl) 6 v6 rfl) 7 v7 rfl) 8 v8 rfl) 9 v9 rfl) 10 v10 rfl) 11 v11 rfl) 12] at e; cases e) (p := ⟨g, 12, none⟩) (u := v12)) (fun x e => by rw [blk_cell (blk_put (cs' := #[v0, v1, v2, v3, v4, v5, v6, v7, v8, v9, v10, v11, v12, Value.int .i64 0, Value.bool false, Value.int .i64 0]) (blk_put (cs' := #[v0, v1, v2, v3, v4, v5, v6, v7, v8, v9, v10, v11, Value.int .i64 0, Value.int .i64 0, Value.bool false, Value.int .i64 0]) (blk_put (cs' := #[v0, v1, v2, v3, v4, v5, v6, v7, v8, v9, v10, Value.string ⟨#[]⟩, Value.int .i64 0, Value.int .i64 0, Value.bool false, Value.int .i64 0]) (blk_put (cs' := #[v0, v1, v2, v3, v4, v5, v6, v7, v8, v9, Value.bool false, Value.string ⟨#[]⟩, Value.int .i64 0, Value.int .i64 0, Value.bool false, Value.int .i64 0]) (blk_put (cs' := #[v0, v1, v2, v3, v4, v5, v6, v7, v8, Value.slice none 0 0, Value.bool false, Value.string ⟨#[]⟩, Value.int .i64 0, Value.int .i64 0, Value.bool false, Value.int .i64 0]) (blk_put (cs' := #[v0, v1, v2, v3, v4, v5, v6, v7, Value.slice none 0 0, Value.slice none 0 0, Value.bool false, Value.string ⟨#[]⟩, Value.int .i64 0, Value.int .i64 0, Value.bool false, Value.int .i64 0]) (blk_put (cs' := #[v0, v1, v2, v3, v4, v5, v6, Value.string ⟨#[]⟩, Value.slice none 0 0, Value.slice none 0 0, Value.bool false, Value.string ⟨#[]⟩, Value.int .i64 0, Value.int .i64 0, Value.bool false, Value.int .i64 0]) (blk_put (cs' := #[v0, v1, v2, v3, v4, v5, Value.bool false, Value.string ⟨#[]⟩, Value.slice none 0 0, Value.slice none 0 0, Value.bool false, Value.string ⟨#[]⟩, Value.int .i64 0, Value.int .i64 0, Value.bool false, Value.int .i64 0]) (blk_put (cs' := #[v0, v1, v2, v3, v4, Value.bool false, Value.bool false, Value.string ⟨#[]⟩, Value.slice none 0 0, Value.slice none 0 0, Value.bool false, Value.string ⟨#[]⟩, Value.int .i64 0, Value.int .i64 0, Value.bool false, Value.int .i64 0]) (blk_put (cs' := #[v0, v1, v2, v3, Value.int .u32 0, Value.bool false, Value.bool false, Value.string ⟨#[]⟩, Value.slice none 0 0, Value.slice none 0 0, Value.bool false, Value.string ⟨#[]⟩, Value.int .i64 0, Value.int .i64 0, Value.bool false, Value.int .i64 0]) (blk_put (cs' := #[v0, v1, v2, Value.int .i64 0, Value.int .u32 0, Value.bool false, Value.bool false, Value.string ⟨#[]⟩, Value.slice none 0 0, Value.slice none 0 0, Value.bool false, Value.string ⟨#[]⟩, Value.int .i64 0, Value.int .i64 0, Value.bool false, Value.int .i64 0]) (blk_put (cs' := #[v0, v1, Value.string ⟨#[]⟩, Value.int .i64 0, Value.int .u32 0, Value.bool false, Value.bool false, Value.string ⟨#[]⟩, Value.slice none 0 0, Value.slice none 0 0, Value.bool false, Value.string ⟨#[]⟩, Value.int .i64 0, Value.int .i64 0, Value.bool false, Value.int .i64 0]) (blk_put (cs' := #[v0, Value.int .i64 0, Value.string ⟨#[]⟩, Value.int .i64 0, Value.int .u32 0, Value.bool false, Value.bool false, Value.string ⟨#[]⟩, Value.slice none 0 0, Value.slice none 0 0, Value.bool false, Value.string ⟨#[]⟩, Value.int .i64 0, Value.int .i64 0, Value.bool false, Value.int .i64 0]) hk 0 v0 rfl) 1 v1 rfl) 2 v2 rfl) 3 v3 rfl) 4 v4 rfl) 5 v5 rfl) 6 v6 rfl) 7 v7 rfl) 8 v8 rfl) 9 v9 rfl) 10 v10 rfl) 11 v11 rfl) 12 v12 rfl) 13] at e; cases e) (p := ⟨g, 13, none⟩) (u := v13)) (fun x e => by rw [blk_cell (blk_put (cs' := #[v0, v1, v2, v3, v4, v5, v6, v7, v8, v9, v10, v11, v12, v13, Value.bool false, Value.int .i64 0]) (blk_put (cs' := #[v0, v1, v2, v3, v4, v5, v6, v7, v8, v9, v10, v11, v12, Value.int .i64 0, Value.bool false, Value.int .i64 0]) (blk_put (cs' := #[v0, v1, v2, v3, v4, v5, v6, v7, v8, v9, v10, v11, Value.int .i64 0, Value.int .i64 0, Value.bool false, Value.int .i64 0]) (blk_put (cs' := #[v0, v1, v2, v3, v4, v5, v6, v7, v8, v9, v10, Value.string ⟨#[]⟩, Value.int .i64 0, Value.int .i64 0, Value.bool false, Value.int .i64 0]) (blk_put (cs' := #[v0, v1, v2, v3, v4, v5, v6, v7, v8, v9, Value.bool false, Value.string ⟨#[]⟩, Value.int .i64 0, Value.int .i64 0, Value.bool false, Value.int .i64 0]) (blk_put (cs' := #[v0, v1, v2, v3, v4, v5, v6, v7, v8, Value.slice none 0 0, Value.bool false, Value.string ⟨#[]⟩, Value.int .i64 0, Value.int .i64 0, Value.bool false, Value.int .i64 0]) (blk_put (cs' := #[v0, v1, v2, v3, v4, v5, v6, v7, Value.slice none 0 0, Value.slice none 0 0, Value.bool false, Value.string ⟨#[]⟩, Value.int .i64 0, Value.int .i64 0, Value.bool false, Value.int .i64 0]) (blk_put (cs' := #[v0, v1, v2, v3, v4, v5, v6, Value.string ⟨#[]⟩, Value.slice none 0 0, Value.slice none 0 0, Value.bool false, Value.string ⟨#[]⟩, Value.int .i64 0, Value.int .i64 0, Value.bool false, Value.int .i64 0]) (blk_put (cs' := #[v0, v1, v2, v3, v4, v5, Value.bool false, Value.string ⟨#[]⟩, Value.slice none 0 0, Value.slice none 0 0, Value.bool false, Value.string ⟨#[]⟩, Value.int .i64 0, Value.int .i64 0, Value.bool false, Value.int .i64 0]) (blk_put (cs' := #[v0, v1, v2, v3, v4, Value.bool false, Value.bool false, Value.string ⟨#[]⟩, Value.slice none 0 0, Value.slice none 0 0, Value.bool false, Value.string ⟨#[]⟩, Value.int .i64 0, Value.int .i64 0, Value.bool false, Value.int .i64 0]) (blk_put (cs' := #[v0, v1, v2, v3, Value.int .u32 0, Value.bool false, Value.bool false, Value.string ⟨#[]⟩, Value.slice none 0 0, Value.slice none 0 0, Value.bool false, Value.string ⟨#[]⟩, Value.int .i64 0, Value.int .i64 0, Value.bool false, Value.int .i64 0]) (blk_put (cs' := #[v0, v1, v2, Value.int .i64 0, Value.int .u32 0, Value.bool false, Value.bool false, Value.string ⟨#[]⟩, Value.slice none 0 0, Value.slice none 0 0, Value.bool false, Value.string ⟨#[]⟩, Value.int .i64 0, Value.int .i64 0, Value.bool false, Value.int .i64 0]) (blk_put (cs' := #[v0, v1, Value.string ⟨#[]⟩, Value.int .i64 0, Value.int .u32 0, Value.bool false, Value.bool false, Value.string ⟨#[]⟩, Value.slice none 0 0, Value.slice none 0 0, Value.bool false, Value.string ⟨#[]⟩, Value.int .i64 0, Value.int .i64 0, Value.bool false, Value.int .i64 0]) (blk_put (cs' := #[v0, Value.int .i64 0, Value.string ⟨#[]⟩, Value.int .i64 0, Value.int .u32 0, Value.bool false, Value.bool false, Value.string ⟨#[]⟩, Value.slice none 0 0, Value.slice none 0 0, Value.bool false, Value.string ⟨#[]⟩, Value.int .i64 0, Value.int .i64 0, Value.bool false, Value.int .i64 0]) hk 0 v0 rfl) 1 v1 rfl) 2 v2 rfl) 3 v3 rfl) 4 v4 rfl) 5 v5 rfl) 6 v6 rfl) 7 v7 rfl) 8 v8 rfl) 9 v9 rfl) 10 v10 rfl) 11 v11 rfl) 12 v12 rfl) 13 v13 rfl) 14] at e; cases e) (p := ⟨g, 14, none⟩) (u := v14)) (fun x e => by rw [blk_cell (blk_put (cs' := #[v0, v1, v2, v3, v4, v5, v6, v7, v8, v9, v10, v11, v12, v13, v14, Value.int .i64 0]) (blk_put (cs' := #[v0, v1, v2, v3, v4, v5, v6, v7, v8, v9, v10, v11, v12, v13, Value.bool false, Value.int .i64 0]) (blk_put (cs' := #[v0, v1, v2, v3, v4, v5, v6, v7, v8, v9, v10, v11, v12, Value.int .i64 0, Value.bool false, Value.int .i64 0]) (blk_put (cs' := #[v0, v1, v2, v3, v4, v5, v6, v7, v8, v9, v10, v11, Value.int .i64 0, Value.int .i64 0, Value.bool false, Value.int .i64 0]) (blk_put (cs' := #[v0, v1, v2, v3, v4, v5, v6, v7, v8, v9, v10, Value.string ⟨#[]⟩, Value.int .i64 0, Value.int .i64 0, Value.bool false, Value.int .i64 0]) (blk_put (cs' := #[v0, v1, v2, v3, v4, v5, v6, v7, v8, v9, Value.bool false, Value.string ⟨#[]⟩, Value.int .i64 0, Value.int .i64 0, Value.bool false, Value.int .i64 0]) (blk_put (cs' := #[v0, v1, v2, v3, v4, v5, v6, v7, v8, Value.slice none 0 0, Value.bool false, Value.string ⟨#[]⟩, Value.int .i64 0, Value.int .i64 0, Value.bool false, Value.int .i64 0]) (blk_put (cs' := #[v0, v1, v2, v3, v4, v5, v6, v7, Value.slice none 0 0, Value.slice none 0 0, Value.bool false, Value.string ⟨#[]⟩, Value.int .i64 0, Value.int .i64 0, Value.bool false, Value.int .i64 0]) (blk_put (cs' := #[v0, v1, v2, v3, v4, v5, v6, Value.string ⟨#[]⟩, Value.slice none 0 0, Value.slice none 0 0, Value.bool false, Value.string ⟨#[]⟩, Value.int .i64 0, Value.int .i64 0, Value.bool false, Value.int .i64 0]) (blk_put (cs' := #[v0, v1, v2, v3, v4, v5, Value.bool false, Value.string ⟨#[]⟩, Value.slice none 0 0, Value.slice none 0 0, Value.bool false, Value.string ⟨#[]⟩, Value.int .i64 0, Value.int .i64 0, Value.bool false, Value.int .i64 0]) (blk_put (cs' := #[v0, v1, v2, v3, v4, Value.bool false, Value.bool false, Value.string ⟨#[]⟩, Value.slice none 0 0, Value.slice none 0 0, Value.bool false, Value.string ⟨#[]⟩, Value.int .i64 0, Value.int .i64 0, Value.bool false, Value.int .i64 0]) (blk_put (cs' := #[v0, v1, v2, v3, Value.int .u32 0, Value.bool false, Value.bool false, Value.string ⟨#[]⟩, Value.slice none 0 0, Value.slice none 0 0, Value.bool false, Value.string ⟨#[]⟩, Value.int .i64 0, Value.int .i64 0, Value.bool false, Value.int .i64 0]) (blk_put (cs' := #[v0, v1, v2, Value.int .i64 0, Value.int .u32 0, Value.bool false, Value.bool false, Value.string ⟨#[]⟩, Value.slice none 0 0, Value.slice none 0 0, Value.bool false, Value.string ⟨#[]⟩, Value.int .i64 0, Value.int .i64 0, Value.bool false, Value.int .i64 0]) (blk_put (cs' := #[v0, v1, Value.string ⟨#[]⟩, Value.int .i64 0, Value.int .u32 0, Value.bool false, Value.bool false, Value.string ⟨#[]⟩, Value.slice none 0 0, Value.slice none 0 0, Value.bool false, Value.string ⟨#[]⟩, Value.int .i64 0, Value.int .i64 0, Value.bool false, Value.int .i64 0]) (blk_put (cs' := #[v0, Value.int .i64 0, Value.string ⟨#[]⟩, Value.int .i64 0, Value.int .u32 0, Value.bool false, Value.bool false, Value.string ⟨#[]⟩, Value.slice none 0 0, Value.slice none 0 0, Value.bool false, Value.string ⟨#[]⟩, Value.int .i64 0, Value.int .i64 0, Value.bool false, Value.int .i64 0]) hk 0 v0 rfl) 1 v1 rfl) 2 v2 rfl) 3 v3 rfl) 4 v4 rfl) 5 v5 rfl) 6 v6 rfl) 7 v7 rfl) 8 v8 rfl) 9 v9 rfl) 10 v10 rfl) 11 v11 rfl) 12 v12 rfl) 13 v13 rfl) 14 v14 rfl) 15] at e; cases e) (p := ⟨g, 15, none⟩) (u := v15))
theorem cmdAt_set16 {W : World} {g : Nat} {v : Value} {m : Option Cm} (h : CmdAt W v m) (hk : W.heap[g]? = some (.cells #[Value.slice none 0 0, Value.int .i64 0, Value.string ⟨#[]⟩, Value.int .i64 0, Value.int .u32 0, Value.bool false, Value.bool false, Value.string ⟨#[]⟩, Value.slice none 0 0, Value.slice none 0 0, Value.bool false, Value.string ⟨#[]⟩, Value.int .i64 0, Value.int .i64 0, Value.bool false, Value.int .i64 0] 34 (0, 0))) (v0 v1 v2 v3 v4 v5 v6 v7 v8 v9 v10 v11 v12 v13 v14 v15 : Value) : CmdAt (set16 W g v0 v1 v2 v3 v4 v5 v6 v7 v8 v9 v10 v11 v12 v13 v14 v15) v m := by
  generalize hW : set16 W g v0 v1 v2 v3 v4 v5 v6 v7 v8 v9 v10 v11 v12 v13 v14 v15 = W'
  cases m with
  | none => exact h
  | some m =>
    obtain ⟨b, A, c, h1, h2, h3, h4⟩ := h
    exact ⟨b, A, c, h1, hW ▸ set16_far h2 (blk_ne h2 hk (by decide)) v0 v1 v2 v3 v4 v5 v6 v7 v8 v9 v10 v11 v12 v13 v14 v15, hW ▸ C_set16 h3 hk v0 v1 v2 v3 v4 v5 v6 v7 v8 v9 v10 v11 v12 v13 v14 v15, h4⟩
theorem keyAt_set16 {W : World} {g : Nat} {v : Value} {m : Option ByteArray} (h : KeyAt W v m) (hk : W.heap[g]? = some (.cells #[Value.slice none 0 0, Value.int .i64 0, Value.string ⟨#[]⟩, Value.int .i64 0, Value.int .u32 0, Value.bool false, Value.bool false, Value.string ⟨#[]⟩, Value.slice none 0 0, Value.slice none 0 0, Value.bool false, Value.string ⟨#[]⟩, Value.int .i64 0, Value.int .i64 0, Value.bool false, Value.int .i64 0] 34 (0, 0))) (v0 v1 v2 v3 v4 v5 v6 v7 v8 v9 v10 v11 v12 v13 v14 v15 : Value) : KeyAt (set16 W g v0 v1 v2 v3 v4 v5 v6 v7 v8 v9 v10 v11 v12 v13 v14 v15) v m := by
  generalize hW : set16 W g v0 v1 v2 v3 v4 v5 v6 v7 v8 v9 v10 v11 v12 v13 v14 v15 = W'
  cases m with
  | none => exact h
  | some m =>
    obtain ⟨b, h1, h2⟩ := h
    exact ⟨b, h1, hW ▸ set16_far h2 (blk_ne h2 hk (by decide)) v0 v1 v2 v3 v4 v5 v6 v7 v8 v9 v10 v11 v12 v13 v14 v15⟩
theorem CmdAt.below {W W1 : World} {v : Value} {m : Option Cm} (h : CmdAt W v m) (hb : Below W.heap.size W W1) : CmdAt W1 v m := by
  cases m with
  | none => exact h
  | some m =>
    obtain ⟨b, A, c, h1, h2, h3, h4⟩ := h
    exact ⟨b, A, c, h1, blk_any hb h2, Kd.C_below h3 hb, h4⟩
theorem KeyAt.below {W W1 : World} {v : Value} {m : Option ByteArray} (h : KeyAt W v m) (hb : Below W.heap.size W W1) : KeyAt W1 v m := by
  cases m with
  | none => exact h
  | some m =>
    obtain ⟨b, h1, h2⟩ := h
    exact ⟨b, h1, blk_any hb h2⟩
theorem CmdAt.slice {W : World} {v : Value} {m : Option Cm} (h : CmdAt W v m) : ∃ a n c, v = .slice a n c := by
  cases m with
  | none => exact ⟨_, _, _, h⟩
  | some m =>
    obtain ⟨b, A, c, h1, _⟩ := h
    exact ⟨_, _, _, h1⟩
theorem KeyAt.slice {W : World} {v : Value} {m : Option ByteArray} (h : KeyAt W v m) : ∃ a n c, v = .slice a n c := by
  cases m with
  | none => exact ⟨_, _, _, h⟩
  | some m =>
    obtain ⟨b, h1, _⟩ := h
    exact ⟨_, _, _, h1⟩
theorem StepAt.below {W W1 : World} {v : Value} {s : St} (h : StepAt W v s) (hb : Below W.heap.size W W1) : StepAt W1 v s := by
  obtain ⟨cv, kv, h1, h2, h3⟩ := h
  exact ⟨cv, kv, h1, h2.below hb, h3.below hb⟩
set_option maxHeartbeats 8000000 in
set_option maxRecDepth 100000 in
theorem parse_big (A0 : Option Addr) (c0 : Nat) (l0 : List Int) (w : World) (hr0 : Kd.C (Kd.int .u8) w A0 l0.length l0) (hc0 : l0.length ≤ c0) (hb : ∀ x ∈ l0, 0 ≤ x ∧ x ≤ 255) (h : 24 ≤ l0.length) (h1 : rd l0 0 = 128) (hz : 2048 < be (cut l0 8 12)) : Calls Try.prog 11 #[.slice A0 l0.length c0] w fun e w' => e = .returned (badV ⟨#[]⟩ 0 9) ∧ Below w.heap.size w w' := by
  have hu34 := Try.underlying34
  have hu31 := Try.underlying31
  have hu29 := Try.underlying29
  have hu53 := Try.underlying53
  have hu22 := Try.underlying22
  obtain ⟨ad, hA, hcell⟩ := Kd.at_int hr0 0 (by omega) (by omega)
  have ha0 : ad.add (0 : Int).toNat = ad := by simp [Addr.add]
  rw [ha0] at hcell
  subst hA
  have hp : (0 : Int) < (l0.length : Int) := by omega
  have hp2 : ((l0.length : Int) == 0) = false := beq_eq_false_iff_ne.mpr (by omega)
  have hcA : ∀ o : Obj, (w.alloc o).cell? ad = some (.int .u8 (rd l0 0)) := fun o => pw_cell_below (below_alloc (Below.refl _ _) o) hcell
  have hx : (rd l0 0 != 128) = false := bne_eq_false_iff_eq.mpr h1
  have hd : decide (l0.length < 24) = false := decide_eq_false (by omega)
  have hd2 : decide ((l0.length : Int) < 24) = false := decide_eq_false (by omega)
  obtain ⟨A8, hs8, hC8⟩ := cutC (some ad) c0 l0 8 12 (by omega) (by omega) hc0
  replace hs8 : ∀ W : World, (Instr.slice 22 (.slice (some ad) l0.length c0) (some (.int .i64 8)) (some (.int .i64 12)) none).run Try.prog W = .ok (.slice A8 4 (c0 - 8)) W := hs8
  have HG8 := Aside0.mk (fun W hB => getC A8 4 (c0 - 8) (cut l0 8 12) (cut_bytes 8 12 hb) (cut_len l0 8 12 (by omega)) (by omega) (by omega) w W hB (hC8 w hr0))
  have hz8 := be_range (cut l0 8 12) (cut_bytes 8 12 hb)
  rw [cut_len l0 8 12 (by omega)] at hz8
  obtain ⟨hy8, hq8⟩ := hz8
  have hx8 : be (cut l0 8 12) < 4294967296 := hq8
  clear hq8 hC8
  clear hr0 h1 ha0 hcell hb
  generalize be (cut l0 8 12) = z at *
  have r1 : decide (z > 2048) = true := decide_eq_true hz
  have w1 : wrap64 z = z := by clear r1; unfold wrap64; omega
  have w2 : wrap64 (24 + z) = 24 + z := by clear r1 w1; unfold wrap64; omega
  clear hz
  generalize l0.length = n0 at *
  go_enter Try.func11, Try.ntmps11
  go_wp2_with (first | (go_at_call 18; (with_reducible refine (HG8.out _ ?_).mono ?_); (repeat (with_reducible first | exact Below.refl _ _ | apply below_alloc | apply below_drew | apply pw_below_drewN | refine below_set ?_ (by omega))); rintro e w' ⟨rfl, ⟨m, rfl⟩⟩))
  clear r1 w1 w2
  refine gen_world (fun W' => W'.heap[w.heap.size]? = some (.cells #[Value.slice none 0 0, Value.int .i64 0, Value.string ⟨#[]⟩, Value.int .i64 0, Value.int .u32 0, Value.bool false, Value.bool false, Value.string ⟨#[]⟩, Value.slice none 0 0, Value.slice none 0 0, Value.bool false, Value.string ⟨#[]⟩, Value.int .i64 0, Value.int .i64 0, Value.bool false, Value.int .i64 9] 34 (0, 0)) ∧ Below w.heap.size w W') ⟨set16_blk (blk_drewN (blk_new w _) _) (Value.slice none 0 0) (Value.int .i64 0) (Value.string ⟨#[]⟩) (Value.int .i64 0) (Value.int .u32 0) (Value.bool false) (Value.bool false) (Value.string ⟨#[]⟩) (Value.slice none 0 0) (Value.slice none 0 0) (Value.bool false) (Value.string ⟨#[]⟩) (Value.int .i64 0) (Value.int .i64 0) (Value.bool false) (Value.int .i64 9), set16_below (pw_below_drewN (below_alloc (Below.refl _ _) _) _) (Nat.le_refl _) (Value.slice none 0 0) (Value.int .i64 0) (Value.string ⟨#[]⟩) (Value.int .i64 0) (Value.int .u32 0) (Value.bool false) (Value.bool false) (Value.string ⟨#[]⟩) (Value.slice none 0 0) (Value.slice none 0 0) (Value.bool false) (Value.string ⟨#[]⟩) (Value.int .i64 0) (Value.int .i64 0) (Value.bool false) (Value.int .i64 9)⟩ ?_
  rintro W9 ⟨kr, hB9⟩
  refine bodyPost_ret (v := badV ⟨#[]⟩ 0 9) (results_cell_row rfl _ _ w.heap.size 34 _ (0, 0) _ rfl kr Try.underlying34 rfl (by kernel_rfl)) rfl ?_
  exact ⟨rfl, hB9⟩
set_option maxHeartbeats 8000000 in
set_option maxRecDepth 100000 in
theorem parse_wait (A0 : Option Addr) (c0 : Nat) (l0 : List Int) (w : World) (hr0 : Kd.C (Kd.int .u8) w A0 l0.length l0) (hc0 : l0.length ≤ c0) (hb : ∀ x ∈ l0, 0 ≤ x ∧ x ≤ 255) (h : 24 ≤ l0.length) (h1 : rd l0 0 = 128) (hz : ¬ 2048 < be (cut l0 8 12)) (hw : (l0.length : Int) < 24 + be (cut l0 8 12)) : Calls Try.prog 11 #[.slice A0 l0.length c0] w fun e w' => e = .returned (badV ⟨#[]⟩ 0 3) ∧ Below w.heap.size w w' := by
  have hu34 := Try.underlying34
  have hu31 := Try.underlying31
  have hu29 := Try.underlying29
  have hu53 := Try.underlying53
  have hu22 := Try.underlying22
  obtain ⟨ad, hA, hcell⟩ := Kd.at_int hr0 0 (by omega) (by omega)
  have ha0 : ad.add (0 : Int).toNat = ad := by simp [Addr.add]
  rw [ha0] at hcell
  subst hA
  have hp : (0 : Int) < (l0.length : Int) := by omega
  have hp2 : ((l0.length : Int) == 0) = false := beq_eq_false_iff_ne.mpr (by omega)
  have hcA : ∀ o : Obj, (w.alloc o).cell? ad = some (.int .u8 (rd l0 0)) := fun o => pw_cell_below (below_alloc (Below.refl _ _) o) hcell
  have hx : (rd l0 0 != 128) = false := bne_eq_false_iff_eq.mpr h1
  have hd : decide (l0.length < 24) = false := decide_eq_false (by omega)
  have hd2 : decide ((l0.length : Int) < 24) = false := decide_eq_false (by omega)
  obtain ⟨A8, hs8, hC8⟩ := cutC (some ad) c0 l0 8 12 (by omega) (by omega) hc0
  replace hs8 : ∀ W : World, (Instr.slice 22 (.slice (some ad) l0.length c0) (some (.int .i64 8)) (some (.int .i64 12)) none).run Try.prog W = .ok (.slice A8 4 (c0 - 8)) W := hs8
  have HG8 := Aside0.mk (fun W hB => getC A8 4 (c0 - 8) (cut l0 8 12) (cut_bytes 8 12 hb) (cut_len l0 8 12 (by omega)) (by omega) (by omega) w W hB (hC8 w hr0))
  have hz8 := be_range (cut l0 8 12) (cut_bytes 8 12 hb)
  rw [cut_len l0 8 12 (by omega)] at hz8
  obtain ⟨hy8, hq8⟩ := hz8
  have hx8 : be (cut l0 8 12) < 4294967296 := hq8
  clear hq8 hC8
  clear hr0 h1 ha0 hcell hb
  generalize be (cut l0 8 12) = z at *
  have r1 : decide (z > 2048) = false := decide_eq_false hz
  have r2 : decide ((l0.length : Int) < 24 + z) = true := decide_eq_true hw
  have w1 : wrap64 z = z := by clear r1; unfold wrap64; omega
  have w2 : wrap64 (24 + z) = 24 + z := by clear r1 w1; unfold wrap64; omega
  clear hz
  generalize l0.length = n0 at *
  go_enter Try.func11, Try.ntmps11
  go_wp2_with (first | (go_at_call 18; (with_reducible refine (HG8.out _ ?_).mono ?_); (repeat (with_reducible first | exact Below.refl _ _ | apply below_alloc | apply below_drew | apply pw_below_drewN | refine below_set ?_ (by omega))); rintro e w' ⟨rfl, ⟨m, rfl⟩⟩))
  clear r1 w1 w2 r2
  refine gen_world (fun W' => W'.heap[w.heap.size]? = some (.cells #[Value.slice none 0 0, Value.int .i64 0, Value.string ⟨#[]⟩, Value.int .i64 0, Value.int .u32 0, Value.bool false, Value.bool false, Value.string ⟨#[]⟩, Value.slice none 0 0, Value.slice none 0 0, Value.bool false, Value.string ⟨#[]⟩, Value.int .i64 0, Value.int .i64 0, Value.bool false, Value.int .i64 3] 34 (0, 0)) ∧ Below w.heap.size w W') ⟨set16_blk (blk_drewN (blk_new w _) _) (Value.slice none 0 0) (Value.int .i64 0) (Value.string ⟨#[]⟩) (Value.int .i64 0) (Value.int .u32 0) (Value.bool false) (Value.bool false) (Value.string ⟨#[]⟩) (Value.slice none 0 0) (Value.slice none 0 0) (Value.bool false) (Value.string ⟨#[]⟩) (Value.int .i64 0) (Value.int .i64 0) (Value.bool false) (Value.int .i64 3), set16_below (pw_below_drewN (below_alloc (Below.refl _ _) _) _) (Nat.le_refl _) (Value.slice none 0 0) (Value.int .i64 0) (Value.string ⟨#[]⟩) (Value.int .i64 0) (Value.int .u32 0) (Value.bool false) (Value.bool false) (Value.string ⟨#[]⟩) (Value.slice none 0 0) (Value.slice none 0 0) (Value.bool false) (Value.string ⟨#[]⟩) (Value.int .i64 0) (Value.int .i64 0) (Value.bool false) (Value.int .i64 3)⟩ ?_
  rintro W9 ⟨kr, hB9⟩
  refine bodyPost_ret (v := badV ⟨#[]⟩ 0 3) (results_cell_row rfl _ _ w.heap.size 34 _ (0, 0) _ rfl kr Try.underlying34 rfl (by kernel_rfl)) rfl ?_
  exact ⟨rfl, hB9⟩
set_option maxHeartbeats 8000000 in
set_option maxRecDepth 100000 in
theorem parse_full (A0 : Option Addr) (c0 : Nat) (l0 : List Int) (w : World) (hr0 : Kd.C (Kd.int .u8) w A0 l0.length l0) (hc0 : l0.length ≤ c0) (hb : ∀ x ∈ l0, 0 ≤ x ∧ x ≤ 255) (h : 24 ≤ l0.length) (h1 : rd l0 0 = 128) (hz : ¬ 2048 < be (cut l0 8 12)) (hw : ¬ (l0.length : Int) < 24 + be (cut l0 8 12)) (s : St)
    (HREQ : ∀ (B : Option Addr) (W : World), Below w.heap.size w W → Kd.C (Kd.int .u8) W B (cut l0 24 (24 + (be (cut l0 8 12)).toNat)).length (cut l0 24 (24 + (be (cut l0 8 12)).toNat)) → Calls Try.prog 19 #[pktV (rd l0 1) ((be (cut l0 2 4)).toNat : Int) ((rd l0 4).toNat : Int) (be (cut l0 12 16)) (be (cut l0 16 24)) B (cut l0 24 (24 + (be (cut l0 8 12)).toNat)).length (cut l0 24 (24 + (be (cut l0 8 12)).toNat)).length] W fun e w' => ReqPost W s e w') :
    Calls Try.prog 11 #[.slice A0 l0.length c0] w fun e w' => ReqPost w s e w' := by
  have hu34 := Try.underlying34
  have hu31 := Try.underlying31
  have hu29 := Try.underlying29
  have hu53 := Try.underlying53
  have hu22 := Try.underlying22
  obtain ⟨ad, hA, hcell⟩ := Kd.at_int hr0 0 (by omega) (by omega)
  have ha0 : ad.add (0 : Int).toNat = ad := by simp [Addr.add]
  rw [ha0] at hcell
  subst hA
  have hp : (0 : Int) < (l0.length : Int) := by omega
  have hp2 : ((l0.length : Int) == 0) = false := beq_eq_false_iff_ne.mpr (by omega)
  have hcA : ∀ o : Obj, (w.alloc o).cell? ad = some (.int .u8 (rd l0 0)) := fun o => pw_cell_below (below_alloc (Below.refl _ _) o) hcell
  have hx : (rd l0 0 != 128) = false := bne_eq_false_iff_eq.mpr h1
  have hd : decide (l0.length < 24) = false := decide_eq_false (by omega)
  have hd2 : decide ((l0.length : Int) < 24) = false := decide_eq_false (by omega)
  obtain ⟨ad1, hA1, hcell1⟩ := Kd.at_int hr0 1 (by omega) (by omega)
  obtain rfl := Option.some.inj hA1
  rw [show (1 : Int).toNat = 1 from rfl, add_pos ad 1 (by omega)] at hcell1
  have hcc1 : ∀ o : Obj, (w.alloc o).cell? ⟨ad.block, ad.off + 1, none⟩ = some (.int .u8 (rd l0 1)) := fun o => pw_cell_below (below_alloc (Below.refl _ _) o) hcell1
  have hp1 : (1 : Int) < (l0.length : Int) := by omega
  have hv1 := byte_at l0 1 hb
  rw [show rd l0 ((1 : Nat) : Int) = rd l0 1 from rfl] at hv1
  obtain ⟨hv1a, hv1b⟩ := hv1
  obtain ⟨ad4, hA4, hcell4⟩ := Kd.at_int hr0 4 (by omega) (by omega)
  obtain rfl := Option.some.inj hA4
  rw [show (4 : Int).toNat = 4 from rfl, add_pos ad 4 (by omega)] at hcell4
  have hcc4 : ∀ o : Obj, (w.alloc o).cell? ⟨ad.block, ad.off + 4, none⟩ = some (.int .u8 (rd l0 4)) := fun o => pw_cell_below (below_alloc (Below.refl _ _) o) hcell4
  have hp4 : (4 : Int) < (l0.length : Int) := by omega
  have hv4 := byte_at l0 4 hb
  rw [show rd l0 ((4 : Nat) : Int) = rd l0 4 from rfl] at hv4
  obtain ⟨hv4a, hv4b⟩ := hv4
  obtain ⟨A8, hs8, hC8⟩ := cutC (some ad) c0 l0 8 12 (by omega) (by omega) hc0
  replace hs8 : ∀ W : World, (Instr.slice 22 (.slice (some ad) l0.length c0) (some (.int .i64 8)) (some (.int .i64 12)) none).run Try.prog W = .ok (.slice A8 4 (c0 - 8)) W := hs8
  have HG8 := Aside0.mk (fun W hB => getC A8 4 (c0 - 8) (cut l0 8 12) (cut_bytes 8 12 hb) (cut_len l0 8 12 (by omega)) (by omega) (by omega) w W hB (hC8 w hr0))
  have hz8 := be_range (cut l0 8 12) (cut_bytes 8 12 hb)
  rw [cut_len l0 8 12 (by omega)] at hz8
  obtain ⟨hy8, hq8⟩ := hz8
  have hx8 : be (cut l0 8 12) < 4294967296 := hq8
  clear hq8 hC8
  obtain ⟨A2, hs2, hC2⟩ := cutC (some ad) c0 l0 2 4 (by omega) (by omega) hc0
  replace hs2 : ∀ W : World, (Instr.slice 22 (.slice (some ad) l0.length c0) (some (.int .i64 2)) (some (.int .i64 4)) none).run Try.prog W = .ok (.slice A2 2 (c0 - 2)) W := hs2
  have HG2 := Aside0.mk (fun W hB => getC A2 2 (c0 - 2) (cut l0 2 4) (cut_bytes 2 4 hb) (cut_len l0 2 4 (by omega)) (by omega) (by omega) w W hB (hC2 w hr0))
  have hz2 := be_range (cut l0 2 4) (cut_bytes 2 4 hb)
  rw [cut_len l0 2 4 (by omega)] at hz2
  obtain ⟨hy2, hq2⟩ := hz2
  have hx2 : be (cut l0 2 4) < 65536 := hq2
  clear hq2 hC2
  obtain ⟨A12, hs12, hC12⟩ := cutC (some ad) c0 l0 12 16 (by omega) (by omega) hc0
  replace hs12 : ∀ W : World, (Instr.slice 22 (.slice (some ad) l0.length c0) (some (.int .i64 12)) (some (.int .i64 16)) none).run Try.prog W = .ok (.slice A12 4 (c0 - 12)) W := hs12
  have HG12 := Aside0.mk (fun W hB => getC A12 4 (c0 - 12) (cut l0 12 16) (cut_bytes 12 16 hb) (cut_len l0 12 16 (by omega)) (by omega) (by omega) w W hB (hC12 w hr0))
  have hz12 := be_range (cut l0 12 16) (cut_bytes 12 16 hb)
  rw [cut_len l0 12 16 (by omega)] at hz12
  obtain ⟨hy12, hq12⟩ := hz12
  have hx12 : be (cut l0 12 16) < 4294967296 := hq12
  clear hq12 hC12
  obtain ⟨A16, hs16, hC16⟩ := cutC (some ad) c0 l0 16 24 (by omega) (by omega) hc0
  replace hs16 : ∀ W : World, (Instr.slice 22 (.slice (some ad) l0.length c0) (some (.int .i64 16)) (some (.int .i64 24)) none).run Try.prog W = .ok (.slice A16 8 (c0 - 16)) W := hs16
  have HG16 := Aside0.mk (fun W hB => getC A16 8 (c0 - 16) (cut l0 16 24) (cut_bytes 16 24 hb) (cut_len l0 16 24 (by omega)) (by omega) (by omega) w W hB (hC16 w hr0))
  have hz16 := be_range (cut l0 16 24) (cut_bytes 16 24 hb)
  rw [cut_len l0 16 24 (by omega)] at hz16
  obtain ⟨hy16, hq16⟩ := hz16
  have hx16 : be (cut l0 16 24) < 18446744073709551616 := hq16
  clear hq16 hC16
  obtain ⟨z, hZ⟩ := Int.eq_ofNat_of_zero_le hy8
  obtain ⟨kk, hK⟩ := Int.eq_ofNat_of_zero_le hy2
  obtain ⟨xx, hX⟩ := Int.eq_ofNat_of_zero_le hv4a
  rw [hZ] at HG8 hz hw hx8 HREQ
  rw [hK] at HG2 hx2 HREQ
  rw [hX] at hcc4 hv4b HREQ hcell4
  simp only [Int.toNat_natCast] at HREQ
  obtain ⟨i0, hi0, _, hsz, _⟩ := info_parts (show ((Try.prog).info? 5).map (fun i => (i.zero, i.size, i.bytes)) = some (some (.int .u8 0), 1, 1) by kernel_rfl)
  obtain ⟨AB, hsB, hCB, _⟩ := cut3_mid (P := Try.prog) (Value.int .u8) 0 22 5 .i64 .i64 .i64 Try.underlying22 hi0 hsz (some ad) c0 l0 24 ((24 + z : Nat) : Int) (by omega) (by omega) (by omega) hc0
  rw [show ((l0.take ((24 + z : Nat) : Int).toNat).drop (24 : Int).toNat) = cut l0 24 (24 + z) from rfl] at hsB hCB
  have hlB : (cut l0 24 (24 + z)).length = z := by rw [cut_len l0 24 (24 + z) (by omega)]; omega
  rw [hlB] at hsB hCB HREQ
  rw [show ((24 + z : Nat) : Int).toNat - (24 : Int).toNat = z by omega] at hsB
  rw [show ((24 + z : Nat) : Int) = 24 + (z : Int) by omega] at hsB
  have HQ := Aside0.mk (fun W hB => HREQ AB W hB (Kd.C_below (Kd.C_of_reads (hCB w (Kd.reads_of_C (enc := Value.int .u8) (d := (0 : Int)) (h1 := fun _ => rfl) hr0))) hB))
  have r1 : decide ((z : Int) > 2048) = false := decide_eq_false hz
  have r2 : decide ((l0.length : Int) < 24 + (z : Int)) = false := decide_eq_false hw
  have hle : 24 + (z : Int) ≤ (l0.length : Int) := by omega
  have w1 : wrap64 (24 + (z : Int)) = 24 + (z : Int) := by clear r1 r2; unfold wrap64; omega
  have w2 : IntKind.u32.wrap (be (cut l0 12 16)) = be (cut l0 12 16) := u32_in _ hy12 hx12
  have w3 : IntKind.i64.wrap (kk : Int) = (kk : Int) := (i64_w _).trans (by clear r1 r2 w1 w2; unfold wrap64; omega)
  have w4 : IntKind.i64.wrap (rd l0 1) = rd l0 1 := (i64_w _).trans (by clear r1 r2 w1 w2 w3; unfold wrap64; omega)
  have w5 : IntKind.i64.wrap (xx : Int) = (xx : Int) := (i64_w _).trans (by clear r1 r2 w1 w2 w3 w4; unfold wrap64; omega)
  have w6 : wrap64 (z : Int) = (z : Int) := by clear r1 r2 w1 w2 w3 w4 w5; unfold wrap64; omega
  have HC1 := Aside0.mk hcell1
  have hadlt := World.block_lt_of_cell? w ad hcell
  have nea : w.heap.size + 1 ≠ ad.block := by clear r1 r2 w1 w2 w3 w4 w5 w6; omega
  have neb : w.heap.size ≠ ad.block := by clear r1 r2 w1 w2 w3 w4 w5 w6; omega
  clear hr0 h1 ha0 hcell hcell1 hcell4 hb hZ hK hX hz hw hx8 hx2 hx12 hx16 hy8 hy2 hy12 hy16 hCB HREQ hlB hv1a hv1b hv4a hv4b
  generalize rd l0 1 = cc at *
  generalize be (cut l0 12 16) = oo at *
  generalize be (cut l0 16 24) = qq at *
  generalize rd l0 0 = y at *
  generalize l0.length = n0 at *
  unfold pktV at HQ
  go_enter Try.func11, Try.ntmps11
  go_wp2_with (first | (go_at_call 18; (with_reducible refine (HG8.out _ ?_).mono ?_); (repeat (with_reducible first | exact Below.refl _ _ | apply below_alloc | apply below_drew | apply pw_below_drewN | refine below_set ?_ (by omega))); rintro e w' ⟨rfl, ⟨m, rfl⟩⟩))
  go_region_held3 (fun w' => w'.cell? ⟨ad.block, ad.off + 1, none⟩ = some (.int .u8 cc) ∧ w'.cell? ⟨ad.block, ad.off + 4, none⟩ = some (.int .u8 (xx : Int))) (go_keep)
    ((first | (go_at_call 18; (with_reducible refine (HG2.out _ ?_).mono ?_); (repeat (with_reducible first | exact Below.refl _ _ | apply below_alloc | apply below_drew | apply pw_below_drewN | refine below_set ?_ (by omega))); rintro e w' ⟨rfl, ⟨m, rfl⟩⟩) | (go_at_call 18; (with_reducible refine (HG12.out _ ?_).mono ?_); (repeat (with_reducible first | exact Below.refl _ _ | apply below_alloc | apply below_drew | apply pw_below_drewN | refine below_set ?_ (by omega))); rintro e w' ⟨rfl, ⟨m, rfl⟩⟩) | (go_at_call 18; (with_reducible refine (HG16.out _ ?_).mono ?_); (repeat (with_reducible first | exact Below.refl _ _ | apply below_alloc | apply below_drew | apply pw_below_drewN | refine below_set ?_ (by omega))); rintro e w' ⟨rfl, ⟨m, rfl⟩⟩)))
  all_goals first
    | with_reducible refine gen_world (fun W' => W'.heap[w.heap.size + 1]? = some (.cells #[Value.int .i64 cc, Value.int .i64 (kk : Int), Value.int .i64 (xx : Int), Value.int .u32 oo, Value.int .u64 qq, Value.slice none 0 0] 53 (0, 0)) ∧ W'.heap[w.heap.size]? = some (.cells #[Value.slice none 0 0, Value.int .i64 0, Value.string ⟨#[]⟩, Value.int .i64 0, Value.int .u32 0, Value.bool false, Value.bool false, Value.string ⟨#[]⟩, Value.slice none 0 0, Value.slice none 0 0, Value.bool false, Value.string ⟨#[]⟩, Value.int .i64 0, Value.int .i64 0, Value.bool false, Value.int .i64 0] 34 (0, 0)) ∧ Below w.heap.size w W') ⟨new2d w _ _ _, blk_alloc (blk_drewN (blk_new w _) _) _, by repeat (with_reducible first | exact Below.refl _ _ | apply below_alloc | apply below_drew | apply pw_below_drewN | refine below_set ?_ (by omega))⟩ ?_
    | refine gen_world (fun W' => W'.heap[w.heap.size + 1]? = some (.cells #[Value.int .i64 cc, Value.int .i64 (kk : Int), Value.int .i64 (xx : Int), Value.int .u32 oo, Value.int .u64 qq, Value.slice none 0 0] 53 (0, 0)) ∧ W'.heap[w.heap.size]? = some (.cells #[Value.slice none 0 0, Value.int .i64 0, Value.string ⟨#[]⟩, Value.int .i64 0, Value.int .u32 0, Value.bool false, Value.bool false, Value.string ⟨#[]⟩, Value.slice none 0 0, Value.slice none 0 0, Value.bool false, Value.string ⟨#[]⟩, Value.int .i64 0, Value.int .i64 0, Value.bool false, Value.int .i64 0] 34 (0, 0)) ∧ Below w.heap.size w W') ⟨set6_blk (blk_drewN (new2d w _ (.cells #[.int .i64 0, .int .i64 0, .int .i64 0, .int .u32 0, .int .u64 0, .slice none 0 0] 53) _) _) (Value.int .i64 cc) (Value.int .i64 (kk : Int)) (Value.int .i64 (xx : Int)) (Value.int .u32 oo) (Value.int .u64 qq) (Value.slice none 0 0), set6_far (blk_drewN (blk_alloc (blk_drewN (blk_new w _) _) _) _) (by omega) (Value.int .i64 cc) (Value.int .i64 (kk : Int)) (Value.int .i64 (xx : Int)) (Value.int .u32 oo) (Value.int .u64 qq) (Value.slice none 0 0), by repeat (with_reducible first | exact Below.refl _ _ | apply below_alloc | apply below_drew | apply pw_below_drewN | refine below_set ?_ (by omega))⟩ ?_
  all_goals (
    clear hcc1 hcc4 w2 w3 w4 w5 HG2 HG8 HG12 HG16 nea neb HC1
    rintro W5 ⟨k1, k0, hB5⟩
    have HB5 := Aside0.mk hB5
    have HK0 := Aside0.mk k0
    have HK1 := Aside0.mk k1
    have d5 : W5.cell? ⟨w.heap.size + 1, 5, none⟩ = some (.slice none 0 0) := blk_cell k1 5
    have e5 : W5.frozen? ⟨w.heap.size + 1, 5, none⟩ = false := blk_frozen k1 5
    obtain ⟨p0, p1, p2, p3, p4, p5⟩ := cells6 (blk_put (cs' := #[Value.int .i64 cc, Value.int .i64 (kk : Int), Value.int .i64 (xx : Int), Value.int .u32 oo, Value.int .u64 qq, Value.slice AB z z]) k1 5 (Value.slice AB z z) rfl)
    clear k1 k0 hB5
    go_wp2_with (first | (go_at_call 19; (with_reducible refine (HQ.out _ (below_set HB5.out (by omega))).mono ?_); rintro e W6 ⟨v, rfl, ⟨cv, kv, rfl, hcv, hkv⟩, hB⟩; obtain ⟨ca, cn, cc', rfl⟩ := hcv.slice; obtain ⟨ka, kn, kc, rfl⟩ := hkv.slice; have k0 := blk_any hB (blk_far HK0.out (p := ⟨w.heap.size + 1, 5, none⟩) (by show w.heap.size ≠ w.heap.size + 1; omega) _); have HB6 := Aside0.mk (below_step (below_set HB5.out (by omega)) hB); have HS := Aside0.mk (And.intro hcv hkv); have HK6 := Aside0.mk k0; clear d5 e5 p0 p1 p2 p3 p4 p5 hB hcv hkv; obtain ⟨r0, r1, r2, r3, r4, r5, r6, r7, r8, r9, r10, r11, r12, r13, r14, r15⟩ := cells16 k0; obtain ⟨rf0, rf1, rf2, rf3, rf4, rf5, rf6, rf7, rf8, rf9, rf10, rf11, rf12, rf13, rf14, rf15⟩ := froz16 k0; clear k0; unfold stepV))
    clear r0 r1 r2 r3 r4 r5 r6 r7 r8 r9 r10 r11 r12 r13 r14 r15 rf0 rf1 rf2 rf3 rf4 rf5 rf6 rf7 rf8 rf9 rf10 rf11 rf12 rf13 rf14 rf15
    refine gen_world (fun W' => W'.heap[w.heap.size]? = some (.cells #[Value.slice ca cn cc', Value.int .i64 s.dial, Value.string ⟨#[]⟩, Value.int .i64 s.code, Value.int .u32 s.opq, Value.bool s.quiet, Value.bool false, Value.string ⟨#[]⟩, Value.slice none 0 0, Value.slice ka kn kc, Value.bool false, Value.string s.reply, Value.int .i64 s.used, Value.int .i64 0, Value.bool false, Value.int .i64 s.e] 34 (0, 0)) ∧ Below w.heap.size w W' ∧ CmdAt W' (.slice ca cn cc') s.cmd ∧ KeyAt W' (.slice ka kn kc) s.key)
      ⟨set16_blk HK6.out (Value.slice ca cn cc') (Value.int .i64 s.dial) (Value.string ⟨#[]⟩) (Value.int .i64 s.code) (Value.int .u32 s.opq) (Value.bool s.quiet) (Value.bool false) (Value.string ⟨#[]⟩) (Value.slice none 0 0) (Value.slice ka kn kc) (Value.bool false) (Value.string s.reply) (Value.int .i64 s.used) (Value.int .i64 0) (Value.bool false) (Value.int .i64 s.e), set16_below HB6.out (Nat.le_refl _) (Value.slice ca cn cc') (Value.int .i64 s.dial) (Value.string ⟨#[]⟩) (Value.int .i64 s.code) (Value.int .u32 s.opq) (Value.bool s.quiet) (Value.bool false) (Value.string ⟨#[]⟩) (Value.slice none 0 0) (Value.slice ka kn kc) (Value.bool false) (Value.string s.reply) (Value.int .i64 s.used) (Value.int .i64 0) (Value.bool false) (Value.int .i64 s.e), cmdAt_set16 HS.out.1 HK6.out (Value.slice ca cn cc') (Value.int .i64 s.dial) (Value.string ⟨#[]⟩) (Value.int .i64 s.code) (Value.int .u32 s.opq) (Value.bool s.quiet) (Value.bool false) (Value.string ⟨#[]⟩) (Value.slice none 0 0) (Value.slice ka kn kc) (Value.bool false) (Value.string s.reply) (Value.int .i64 s.used) (Value.int .i64 0) (Value.bool false) (Value.int .i64 s.e), keyAt_set16 HS.out.2 HK6.out (Value.slice ca cn cc') (Value.int .i64 s.dial) (Value.string ⟨#[]⟩) (Value.int .i64 s.code) (Value.int .u32 s.opq) (Value.bool s.quiet) (Value.bool false) (Value.string ⟨#[]⟩) (Value.slice none 0 0) (Value.slice ka kn kc) (Value.bool false) (Value.string s.reply) (Value.int .i64 s.used) (Value.int .i64 0) (Value.bool false) (Value.int .i64 s.e)⟩ ?_
    rintro W9 ⟨kr, hB9, hc9, hk9⟩
    refine bodyPost_ret (v := stepV (.slice ca cn cc') s.dial s.code s.opq s.quiet (.slice ka kn kc) s.reply s.used s.e) (results_cell_row rfl _ _ w.heap.size 34 _ (0, 0) _ rfl kr Try.underlying34 rfl (by kernel_rfl)) rfl ?_
    exact ⟨_, rfl, ⟨_, _, rfl, hc9, hk9⟩, hB9⟩)
theorem reqPost_badE {w : World} {reply : ByteArray} {used k : Int} {e : Ending} {w' : World} (h : e = .returned (badV reply used k) ∧ Below w.heap.size w w') : ReqPost w (badS reply used k) e w' :=
  ⟨_, h.1, badS_at _ _ _ _, h.2⟩
theorem rd_nat (l : List Int) (i : Nat) : rd l i = l.getD i 0 := by simp [rd]
/-- The first bytes of a connection. -/
theorem parse_w (A0 : Option Addr) (c0 : Nat) (l0 : List Int) (w : World) (hr0 : Kd.C (Kd.int .u8) w A0 l0.length l0) (hc0 : l0.length ≤ c0) (hb : ∀ x ∈ l0, 0 ≤ x ∧ x ≤ 255) (hn : l0.length ≤ 1000000) :
    Calls Try.prog 11 #[.slice A0 l0.length c0] w fun e w' => ReqPost w (parseS l0) e w' := by
  unfold parseS
  by_cases h0 : l0 = []
  · subst h0
    rw [if_pos rfl]
    exact (parse_nil A0 c0 w).mono fun e w' h => reqPost_badE h
  · have hl : 0 < l0.length := List.length_pos_iff.2 h0
    rw [if_neg h0]
    by_cases h1 : rd l0 0 = 128
    · rw [if_neg (fun h => h h1)]
      by_cases h2 : l0.length < 24
      · rw [if_pos h2]
        exact (parse_short A0 c0 l0 w hr0 hc0 hl h1 h2).mono fun e w' h => reqPost_badE h
      · rw [if_neg h2]
        by_cases h3 : 2048 < be (cut l0 8 12)
        · rw [if_pos h3]
          exact (parse_big A0 c0 l0 w hr0 hc0 hb (by omega) h1 h3).mono fun e w' h => reqPost_badE h
        · rw [if_neg h3]
          by_cases h4 : (l0.length : Int) < 24 + be (cut l0 8 12)
          · rw [if_pos h4]
            exact (parse_wait A0 c0 l0 w hr0 hc0 hb (by omega) h1 h3 h4).mono fun e w' h => reqPost_badE h
          · rw [if_neg h4]
            refine parse_full A0 c0 l0 w hr0 hc0 hb (by omega) h1 h3 h4 _ fun B W hB hC => ?_
            have hk := be_range (cut l0 2 4) (cut_bytes 2 4 hb)
            rw [cut_len l0 2 4 (by omega), show (256 : Int) ^ (4 - 2) = 65536 from rfl] at hk
            have ho := be_range (cut l0 12 16) (cut_bytes 12 16 hb)
            rw [cut_len l0 12 16 (by omega), show (256 : Int) ^ (16 - 12) = 4294967296 from rfl] at ho
            have hc := byte_at l0 1 hb
            have hx := byte_at l0 4 hb
            rw [show rd l0 ((1 : Nat) : Int) = rd l0 1 from rfl] at hc
            rw [show rd l0 ((4 : Nat) : Int) = rd l0 4 from rfl] at hx
            have hlc : (cut l0 24 (24 + (be (cut l0 8 12)).toNat)).length ≤ 1000000 := by
              rw [cut_len _ _ _ (by omega)]
              omega
            exact request_w (rd l0 1) (be (cut l0 12 16)) (be (cut l0 16 24)) (rd l0 4).toNat (be (cut l0 2 4)).toNat B _ (cut l0 24 (24 + (be (cut l0 8 12)).toNat)) W hc.1 hc.2 (by omega) (by omega) ho.1 ho.2 hC (Nat.le_refl _) (cut_bytes _ _ hb) hlc
    · rw [if_pos h1]
      exact (parse_other A0 c0 l0 w hr0 hc0 hl h1).mono fun e w' h => reqPost_badE h

/-! ### butterylaw16_awake: function 9 -/
def wakeL : List Int := [128, 10, 0, 0, 0, 0, 0, 0, 0, 0, 0, 0, 0, 0, 0, 0, 0, 0, 0, 0, 0, 0, 0, 0]
theorem wake_parse : parseS wakeL = ⟨some ⟨14, ⟨#[]⟩, [], 0, 0, 0, 0, 0, false⟩, 2, 10, 0, false, none, ⟨#[]⟩, 24, 0⟩ := by kernel_rfl
theorem wake_other : parseS [127] = badS ⟨#[]⟩ 0 9 := by kernel_rfl
theorem make24 (W : World) : (Instr.makeSlice 22 (.int .i64 24) (.int .i64 24)).run Try.prog W = .ok (.slice (some ⟨W.heap.size, 0, none⟩) 24 24) (W.alloc (.cells #[.int .u8 0, .int .u8 0, .int .u8 0, .int .u8 0, .int .u8 0, .int .u8 0, .int .u8 0, .int .u8 0, .int .u8 0, .int .u8 0, .int .u8 0, .int .u8 0, .int .u8 0, .int .u8 0, .int .u8 0, .int .u8 0, .int .u8 0, .int .u8 0, .int .u8 0, .int .u8 0, .int .u8 0, .int .u8 0, .int .u8 0, .int .u8 0] 5)) := by kernel_rfl

set_option maxHeartbeats 8000000 in
set_option maxRecDepth 100000 in
theorem awake_w (w : World) : Calls Try.prog 9 #[] w fun e w' => e = .returned (.bool true) ∧ Below w.heap.size w w' := by
  have hu34 := Try.underlying34
  have hu31 := Try.underlying31
  have hu39 := Try.underlying39
  have hu25 := Try.underlying25
  have hu22 := Try.underlying22
  have mk := make24 w
  have HP : Aside0 (∀ W : World, Calls Try.prog 11 #[.slice (some ⟨W.heap.size, 0, none⟩) 24 24] (W.alloc (.cells #[.int .u8 128, .int .u8 10, .int .u8 0, .int .u8 0, .int .u8 0, .int .u8 0, .int .u8 0, .int .u8 0, .int .u8 0, .int .u8 0, .int .u8 0, .int .u8 0, .int .u8 0, .int .u8 0, .int .u8 0, .int .u8 0, .int .u8 0, .int .u8 0, .int .u8 0, .int .u8 0, .int .u8 0, .int .u8 0, .int .u8 0, .int .u8 0] 5)) fun e w' => ReqPost (W.alloc (.cells #[.int .u8 128, .int .u8 10, .int .u8 0, .int .u8 0, .int .u8 0, .int .u8 0, .int .u8 0, .int .u8 0, .int .u8 0, .int .u8 0, .int .u8 0, .int .u8 0, .int .u8 0, .int .u8 0, .int .u8 0, .int .u8 0, .int .u8 0, .int .u8 0, .int .u8 0, .int .u8 0, .int .u8 0, .int .u8 0, .int .u8 0, .int .u8 0] 5)) ⟨some ⟨14, ⟨#[]⟩, [], 0, 0, 0, 0, 0, false⟩, 2, 10, 0, false, none, ⟨#[]⟩, 24, 0⟩ e w') := ⟨fun W => by
    have h := parse_w (some ⟨W.heap.size, 0, none⟩) 24 wakeL _ (lit_C W wakeL #[.int .u8 128, .int .u8 10, .int .u8 0, .int .u8 0, .int .u8 0, .int .u8 0, .int .u8 0, .int .u8 0, .int .u8 0, .int .u8 0, .int .u8 0, .int .u8 0, .int .u8 0, .int .u8 0, .int .u8 0, .int .u8 0, .int .u8 0, .int .u8 0, .int .u8 0, .int .u8 0, .int .u8 0, .int .u8 0, .int .u8 0, .int .u8 0] 5 (0, 0) rfl (by decide)) (by decide) (by decide) (by decide)
    rw [wake_parse] at h
    exact h⟩
  have HO : Aside0 (∀ (W : World) (b : Nat), W.heap.size = b → Calls Try.prog 11 #[.slice (some ⟨b, 0, none⟩) 1 1] (W.alloc (.cells #[.int .u8 127] 5)) fun e w' => ReqPost (W.alloc (.cells #[.int .u8 127] 5)) (badS ⟨#[]⟩ 0 9) e w') := ⟨fun W b hb => by
    subst hb
    have h := parse_w (some ⟨W.heap.size, 0, none⟩) 1 [127] _ (lit_C W [127] #[.int .u8 127] 5 (0, 0) rfl (by decide)) (by decide) (by decide) (by decide)
    rw [wake_other] at h
    exact h⟩
  go_enter Try.func9, Try.ntmps9
  go_wp2_with (first | (go_at_call 11; (with_reducible refine (HP.out _).mono ?_); rintro e w1 ⟨v, rfl, ⟨cv, kv, rfl, ⟨g, A, c, rfl, hg, _, _⟩, hk⟩, hB⟩; obtain rfl := (show kv = .slice none 0 0 from hk); have HG := Aside0.mk hg; have HB := Aside0.mk (below_step (below_alloc (Below.refl _ _) _) hB); clear hg hk hB; unfold stepV) | (go_at_call 11; (with_reducible refine (HO.out _ _ (World.size_alloc ..)).mono ?_); rintro e w2 ⟨v, rfl, ⟨cv, kv, rfl, hc, hk⟩, hB⟩; obtain rfl := (show cv = .slice none 0 0 from hc); obtain rfl := (show kv = .slice none 0 0 from hk); have HB2 := Aside0.mk (below_step (below_alloc (below_alloc HB.out _) _) hB); have k2 := blk_any hB (blk_alloc (blk_new w1 _) _); have g2 := blk_any hB (blk_alloc (blk_alloc HG.out _) _); obtain ⟨r0, r1, r2, r3, r4, r5, r6, r7, r8, r9, r10, r11, r12, r13, r14, r15⟩ := cells16_1 k2; obtain ⟨z0, z1, z2, z3, z4, z5, z6, z7, z8, z9⟩ := cells10_1 g2; clear hB k2 g2; unfold stepV))
  go_ret
  exact ⟨rfl, below_alloc HB2.out _⟩

/-! ### butteryref01_Put: function 14 -/
def butteryref01_Put.l0 : Nat → Int → List Int → Int → Option (List Int)
  | 0, _, _, _ => none
  | k + 1, x0, x5, x6 => if x6 ≥ 0 then (if 0 ≤ x6 then (if x6 < (x5.length : Int) then (butteryref01_Put.l0 k (IntKind.u64.wrap (Int.tdiv x0 256)) (x5.set (x6 : Int).toNat ((Int.tmod x0 256) % 256)) (wrap64 (x6 - 1))) else (none)) else (none)) else (some x5)
def butteryref01_Put.f (k : Nat) (a0 : Int) (a1 : Int) : Option (List Int) := if 0 ≤ a1 then (if (a1 : Int).toNat ≤ 281474976710656 then (butteryref01_Put.l0 k a0 (List.replicate (a1 : Int).toNat 0) (wrap64 (a1 - 1))) else (none)) else (none)
theorem butteryref01_Put.mono_l : ∀ k, (∀ y0 y1 y2, LeO (butteryref01_Put.l0 k y0 y1 y2) (butteryref01_Put.l0 (k + 1) y0 y1 y2))
  | 0 => fun _ _ _ r h => by simp [butteryref01_Put.l0] at h
  | k + 1 => by
    have ih0 := butteryref01_Put.mono_l k
    · intro y0 y1 y2
      unfold butteryref01_Put.l0
      repeat' first
      | (with_reducible exact ih0 _ _ _)
      | (with_reducible exact LeO.refl _)
      | (with_reducible exact LeO.none _)
      | (with_reducible refine LeO.ite ?_ ?_)
      | (with_reducible refine LeO.bind ?_ (fun _ => ?_))
      | exact ih0 _ _ _
      | exact LeO.none _
      | refine LeO.ite ?_ ?_
      | refine LeO.bind ?_ (fun _ => ?_)
theorem butteryref01_Put.mono : ∀ a0 a1 k, LeO (butteryref01_Put.f k a0 a1) (butteryref01_Put.f (k + 1) a0 a1) := by
  intro a0 a1 k
  have ih0 := butteryref01_Put.mono_l k
  unfold butteryref01_Put.f
  repeat' first
      | (with_reducible exact ih0 _ _ _)
      | (with_reducible exact LeO.refl _)
      | (with_reducible exact LeO.none _)
      | (with_reducible refine LeO.ite ?_ ?_)
      | (with_reducible refine LeO.bind ?_ (fun _ => ?_))
      | exact ih0 _ _ _
      | exact LeO.none _
      | refine LeO.ite ?_ ?_
      | refine LeO.bind ?_ (fun _ => ?_)
set_option maxHeartbeats 8000000 in
set_option maxRecDepth 100000 in
theorem butteryref01_Put.calls (k : Nat) (a0 : Int) (a1 : Int) (r : List Int) (w : World) (h : butteryref01_Put.f k a0 a1 = some r) :
    Calls Try.prog 14 #[.int .u64 a0, .int .i64 a1] w fun e w' => ∃ v0_ : Value, e = .returned (v0_) ∧ Kd.R (Kd.int .u8) 5 w' w.heap.size (fun _ => True) v0_ r ∧ Below w.heap.size w w' := by
  have HB := Aside0.mk (Below.refl w.heap.size w)
  have H : (if 0 ≤ a1 then (if (a1 : Int).toNat ≤ 281474976710656 then (butteryref01_Put.l0 k a0 (List.replicate (a1 : Int).toNat 0) (wrap64 (a1 - 1))) else (none)) else (none)) = some r := h
  clear h
  by_cases c3 : 0 ≤ a1
  · rw [if_pos c3] at H
    have c3b0 := eq_true c3
    have c3b1 : decide (0 ≤ a1) = true := decide_eq_true c3
    clear c3
    by_cases c4 : (a1 : Int).toNat ≤ 281474976710656
    · rw [if_pos c4] at H
      have c4b0 := eq_true c4
      have c4b1 : decide ((a1 : Int).toNat ≤ 281474976710656) = true := decide_eq_true c4
      clear c4
      obtain ⟨y116, hy116⟩ : ∃ y_ : List Int, y_ = (List.replicate (a1 : Int).toNat 0) := ⟨_, rfl⟩
      replace H : (butteryref01_Put.l0 k a0 y116 (wrap64 (a1 - 1))) = some r := by first | (rw [hy116]; with_reducible exact H) | (have H2_ := (Option.bind_some _ _).symm.trans H; rw [hy116]; with_reducible exact H2_) | (have H2_ := (Option.bind_some _ _).symm.trans H; with_reducible exact H2_) | with_reducible exact H | (rw [hy116]; exact H) | exact H
      have Ny116 := Aside0.mk hy116
      clear hy116
      have H' := Aside0.mk H
      clear H
      go_enter Try.func14, Try.ntmps14
      go_wp2_with (first | ((with_reducible refine gate_dst (N := 8) rfl ?_); refine Kd.R_make (Kd.int .u8) _ 5 rfl (N := 8) rfl 22 _ _ rfl a1 rfl rfl Try.underlying22 (.int .u8 0) 1 info5 rfl (by decide) (by omega) 0 (ok := fun _ => True) (okp := fun _ => True) rfl (fun _ hk => hk) trivial (of_decide_eq_true (by first | (with_reducible assumption) | assumption)) (Nat.le_trans (Nat.mul_le_mul_right _ (of_decide_eq_true (by first | (with_reducible assumption) | assumption) : a1.toNat ≤ 281474976710656)) (by omega)) (Below.refl _ _) (Nat.le_refl _) ?_; intro v117 w5 ho6 hb hg_ hnew_; clear hg_ hnew_; (first | rw [← Ny116.out] at ho6 | (simp only [Int.reduceToNat] at ho6; rw [← Ny116.out] at ho6)); have n0_ := Aside0.mk (Kd.R_lower ho6 (below_size (by repeat (first | (with_reducible first | exact HB.out | apply below_alloc | apply pw_below_drewN | apply below_drew1) | exact HB.out)))); have n1_ := Aside0.mk (below_step (by repeat (first | (with_reducible first | exact HB.out | apply below_alloc | apply pw_below_drewN | apply below_drew1) | exact HB.out)) hb); clear HB; have HO118 := n0_; have HB := n1_; clear n0_ n1_; clear hb ho6))
      go_loopg [0, 6] k (fun kq v0 v6 w' => ∃ (x0_1 : Int) (x5_1 : List Int) (x6_1 : Int), v0 = .int .u64 x0_1 ∧ v6 = .int .i64 x6_1 ∧ Aside0 (butteryref01_Put.l0 kq x0_1 x5_1 x6_1 = some r) ∧ Aside0 (kq ≤ k) ∧ Aside0 (Kd.R (Kd.int .u8) 5 w' w.heap.size (fun _ => True) v117 x5_1) ∧ Aside0 (Below w.heap.size w w'))
      case atStart => exact ⟨(a0), (y116), (wrap64 (a1 - 1)), (by first | rfl | (simp; done) | (simp [*]; done)), (by first | rfl | (simp; done) | (simp [*]; done)), H', ⟨Nat.le_refl _⟩, ⟨by (with_reducible repeat (first | apply Kd.R_alloc | apply Kd.R_drewN | apply Kd.R_drew)); exact HO118.out⟩, ⟨by repeat (first | (with_reducible first | exact HB.out | apply below_alloc | apply pw_below_drewN | apply below_drew1) | exact HB.out)⟩⟩
      case round =>
        clear H'
        try clear c1
        try clear p2
        try clear c3
        try clear c3b0
        try clear c3b1
        try clear c4
        try clear c4b0
        try clear c4b1
        try clear p6
        obtain ⟨x0_1, x5_1, x6_1, rfl, rfl, HA, HK1, HO_5, HB⟩ := hrel
        cases gk with
        | zero => exact absurd HA.out (by simp [butteryref01_Put.l0])
        | succ k1 =>
          have H := HA.out
          clear HA
          simp only [butteryref01_Put.l0] at H
          by_cases c7 : x6_1 ≥ 0
          · rw [if_pos c7] at H
            have c7b0 : decide (0 ≤ x6_1) = true := decide_eq_true c7
            clear c7
            by_cases c8 : 0 ≤ x6_1
            · rw [if_pos c8] at H
              have c8b0 : decide (0 ≤ x6_1) = true := decide_eq_true c8
              clear c8
              by_cases c9 : x6_1 < (x5_1.length : Int)
              · rw [if_pos c9] at H
                have c9b0 : decide (x6_1 < (x5_1.length : Int)) = true := decide_eq_true c9
                clear c9
                obtain ⟨y119, hy119⟩ : ∃ y_ : List Int, y_ = (x5_1.set (x6_1 : Int).toNat ((Int.tmod x0_1 256) % 256)) := ⟨_, rfl⟩
                replace H : (butteryref01_Put.l0 k1 (IntKind.u64.wrap (Int.tdiv x0_1 256)) y119 (wrap64 (x6_1 - 1))) = some r := by first | (rw [hy119]; with_reducible exact H) | (have H2_ := (Option.bind_some _ _).symm.trans H; rw [hy119]; with_reducible exact H2_) | (have H2_ := (Option.bind_some _ _).symm.trans H; with_reducible exact H2_) | with_reducible exact H | (rw [hy119]; exact H) | exact H
                have Ny119 := Aside0.mk hy119
                clear hy119
                have H' := Aside0.mk H
                clear H
                have p10 : 0 ≤ (x6_1 : Int) := of_decide_eq_true (by first | (with_reducible assumption) | assumption)
                have q10 : (x6_1 : Int) < ((x5_1.length : Int) : Int) := of_decide_eq_true (by first | (with_reducible assumption) | assumption)
                obtain ⟨go10, co10, eo10, gb10, gl10, cl10, HG10⟩ := Kd.R_form HO_5.out (by omega)
                (first | cases eo10 | (injection eo10 with ea_ en_ ec_; (first | subst ea_ | (injection ea_ with ea_; subst ea_)); subst ec_; clear en_))
                have GB10 := Aside0.mk gb10
                have GG10 := Aside0.mk HG10
                clear gb10 gl10 HG10
                obtain ⟨hx10_0, hf10_0⟩ := Kd.R_celln 0 HO_5.out (x6_1 : Int) p10 q10
                replace p10 := eq_true p10
                replace q10 := eq_true q10
                have HP11 := Kd.R_putg HO_5.out (x6_1 : Int) ((Int.tmod x0_1 256) % 256)
                go_wp2_with (first | ((with_reducible refine gate_store (t := 5) (p := 20) rfl ?_); refine store_event (t := 5) (p := 20) (v := ?vo_w12) (w1 := (wr.setCell ⟨go10, (x6_1 : Int).toNat, none⟩ (.int .u8 ((Int.tmod x0_1 256) % 256)))) ?hg ?ho ?hn ?hr ?_; (case ho => rfl); (case hg => rfl); (case hn => rfl); (case hr => first | (go_simp; done) | (go_simp; rfl)); intro w12 hw; have hg : wr.grownBy w12 (some go10) := (by rw [hw]; exact HP11.2); have hp_ : Kd.R (Kd.int .u8) 5 w12 w.heap.size (fun _ => True) (.slice (some ⟨go10, 0, none⟩) x5_1.length co10) y119 := (by rw [hw, Ny119.out]; exact HP11.1); clear HP11; have n0_ := Aside0.mk (hp_); have n1_ := Aside0.mk ((by rw [hw]; exact below_set (HB.out) GB10.out : Below w.heap.size w w12)); clear HO_5; clear HB; have HO_5 := n0_; have HB := n1_; clear n0_ n1_; clear hg hw hp_))
                go_roundg k1
                case measure => have := HK1.out; omega
                case rel => exact ⟨(IntKind.u64.wrap (Int.tdiv x0_1 256)), (y119), (wrap64 (x6_1 - 1)), (by first | rfl | (simp; done) | (simp [*]; done)), (by first | rfl | (simp; done) | (simp [*]; done)), H', ⟨by have := HK1.out; omega⟩, ⟨by (with_reducible repeat (first | apply Kd.R_alloc | apply Kd.R_drewN | apply Kd.R_drew)); exact HO_5.out⟩, ⟨by repeat (first | (with_reducible first | exact HB.out | apply below_alloc | apply pw_below_drewN | apply below_drew1) | exact HB.out)⟩⟩
              · rw [if_neg c9] at H
                exact absurd H (by simp)
            · rw [if_neg c8] at H
              exact absurd H (by simp)
          · rw [if_neg c7] at H
            have c7b0 : decide (0 ≤ x6_1) = false := decide_eq_false c7
            clear c7
            obtain rfl := Option.some.inj H
            go_wp2
            go_ret
            exact ⟨_, by first | rfl | (simp [errW_none, errW_some] <;> rfl) | (simp [*, errW_none, errW_some] <;> rfl), by (with_reducible repeat (first | apply Kd.R_alloc | apply Kd.R_drewN | apply Kd.R_drew)); exact HO_5.out, by repeat (first | (with_reducible first | exact HB.out | apply below_alloc | apply pw_below_drewN | apply below_drew1) | exact HB.out)⟩
    · rw [if_neg c4] at H
      exact absurd H (by simp)
  · rw [if_neg c3] at H
    exact absurd H (by simp)

/-! ### butterylaw16_packet: function 15 -/
theorem infoP : (Try.prog.info? 5).map (fun i => (i.zero, i.size, i.bytes)) = some (some (.int .u8 0), 1, 1) := by kernel_rfl
theorem R_litrow (W : World) (xs : List Int) (C : Array Value) (hC : C = (xs.map (Value.int .u8)).toArray) (hl : xs.length ≤ 1000) (base : Nat) (hb : base ≤ W.heap.size) : Kd.R (Kd.int .u8) 5 (W.alloc (.cells C 5)) base (fun _ => True) (.slice (some ⟨W.heap.size, 0, none⟩) xs.length xs.length) xs := by
  subst hC
  exact Kd.R_of_own (h1 := fun _ => rfl) (own_lit_of (enc := Value.int .u8) W base 5 xs hb (by omega)) (fun _ _ => trivial)
/-- The bytes of a packet of its parts. -/
def pktL (code opq cas : Int) (x v : List Int) (key : ByteArray) : List Int :=
  [128, code % 256] ++ putL2 (key.size : Int) ++ [(x.length : Int) % 256] ++ [0, 0, 0] ++ putL4 ((x.length : Int) + (key.size : Int) + (v.length : Int)) ++ putL4 opq ++ putL8 cas ++ x ++ bytesOf key ++ v
theorem rput_step (b : Int) (h0 : 0 ≤ b) (h1 : b < 18446744073709551616) : IntKind.u64.wrap (Int.tdiv b 256) = b / 256 ∧ Int.tmod b 256 % 256 = b % 256 := by
  rw [Int.tdiv_eq_ediv_of_nonneg h0, Int.tmod_eq_emod_of_nonneg h0, u64_in _ (by omega) (by omega)]
  exact ⟨rfl, by omega⟩
theorem rput2 (a : Int) (h0 : 0 ≤ a) (h1 : a < 18446744073709551616) : butteryref01_Put.f 9 a 2 = some (putL2 a) := by
  have e1 := rput_step a h0 h1
  have e2 := rput_step (a / 256) (by omega) (by omega)
  simp [butteryref01_Put.f, butteryref01_Put.l0, wrap64, putL2, e1.1, e1.2, e2.1, e2.2]
theorem rput4' (a : Int) (h0 : 0 ≤ a) (h1 : a < 18446744073709551616) : butteryref01_Put.f 9 a 4 = some (putL4 a) := by
  have e1 := rput_step a h0 h1
  have e2 := rput_step (a / 256) (by omega) (by omega)
  have e3 := rput_step (a / 256 / 256) (by omega) (by omega)
  have e4 := rput_step (a / 256 / 256 / 256) (by omega) (by omega)
  simp [butteryref01_Put.f, butteryref01_Put.l0, wrap64, putL4, e1.1, e1.2, e2.1, e2.2, e3.1, e3.2, e4.1, e4.2]
  omega
theorem rput8 (a : Int) (h0 : 0 ≤ a) (h1 : a < 18446744073709551616) : butteryref01_Put.f 9 a 8 = some (putL8 a) := by
  have e1 := rput_step a h0 h1
  have e2 := rput_step (a / 256) (by omega) (by omega)
  have e3 := rput_step (a / 256 / 256) (by omega) (by omega)
  have e4 := rput_step (a / 256 / 256 / 256) (by omega) (by omega)
  have e5 := rput_step (a / 256 / 256 / 256 / 256) (by omega) (by omega)
  have e6 := rput_step (a / 256 / 256 / 256 / 256 / 256) (by omega) (by omega)
  have e7 := rput_step (a / 256 / 256 / 256 / 256 / 256 / 256) (by omega) (by omega)
  have e8 := rput_step (a / 256 / 256 / 256 / 256 / 256 / 256 / 256) (by omega) (by omega)
  simp [butteryref01_Put.f, butteryref01_Put.l0, wrap64, putL8, e1.1, e1.2, e2.1, e2.2, e3.1, e3.2, e4.1, e4.2, e5.1, e5.2, e6.1, e6.2, e7.1, e7.2, e8.1, e8.2]
  omega
set_option maxHeartbeats 8000000 in
set_option maxRecDepth 100000 in
theorem packet_w (code opq cas : Int) (x v : List Int) (key : ByteArray) (AX : Option Addr) (cX : Nat) (AV : Option Addr) (cV : Nat) (w : World) (hx : Kd.C (Kd.int .u8) w AX x.length x) (hv : Kd.C (Kd.int .u8) w AV v.length v) (hlx : x.length ≤ 100) (hlk : key.size ≤ 1000) (hlv : v.length ≤ 2000) (ho0 : 0 ≤ opq) (ho1 : opq < 4294967296) (hc0 : 0 ≤ cas) (hc1 : cas < 18446744073709551616) :
    Calls Try.prog 15 #[.int .i64 code, .slice AX x.length cX, .string key, .slice AV v.length cV, .int .u64 cas, .int .u32 opq] w fun e w' => ∃ v0 : Value, e = .returned v0 ∧ Kd.R (Kd.int .u8) 5 w' w.heap.size (fun _ => True) v0 (pktL code opq cas x v key) ∧ Below w.heap.size w w' := by
  have hu22 := Try.underlying22
  have HXr := Aside0.mk hx
  have HVr := Aside0.mk hv
  have HLen := Aside0.mk (And.intro hlx (And.intro hlk hlv))
  have HPut2 := Aside0.mk (fun W => butteryref01_Put.calls 9 (key.size : Int) 2 (putL2 (key.size : Int)) W (rput2 _ (by omega) (by omega)))
  have HPut4a := Aside0.mk (fun W => butteryref01_Put.calls 9 ((x.length : Int) + (key.size : Int) + (v.length : Int)) 4 _ W (rput4' _ (by omega) (by omega)))
  have HPut4b := Aside0.mk (fun W => butteryref01_Put.calls 9 opq 4 _ W (rput4' _ ho0 (by omega)))
  have HPut8 := Aside0.mk (fun W => butteryref01_Put.calls 9 cas 8 _ W (rput8 _ hc0 hc1))
  have e1 : IntKind.u8.wrap code = code % 256 := by simp [IntKind.wrap, IntKind.bits, IntKind.signed]
  have e2 : IntKind.u8.wrap (x.length : Int) = (x.length : Int) % 256 := by simp [IntKind.wrap, IntKind.bits, IntKind.signed]
  have e3 : IntKind.u64.wrap (key.size : Int) = (key.size : Int) := u64_in _ (by omega) (by clear e1 e2 hc1 hc0; omega)
  have e4 : IntKind.u64.wrap ((x.length : Int) + (key.size : Int) + (v.length : Int)) = (x.length : Int) + (key.size : Int) + (v.length : Int) := u64_in _ (by omega) (by clear e1 e2 e3 hc1 hc0; omega)
  have e5 : IntKind.u64.wrap opq = opq := u64_in _ ho0 (by clear e1 e2 e3 e4 hc1 hc0; omega)
  have b1 : (x.length : Int) ≤ 100 := by clear e1 e2 e3 e4 e5 hc1; omega
  have b2 : (key.size : Int) ≤ 1000 := by clear e1 e2 e3 e4 e5 hc1; omega
  have b3 : (v.length : Int) ≤ 2000 := by clear e1 e2 e3 e4 e5 hc1; omega
  clear hx hv hlx hlk hlv ho0 ho1 hc0 hc1
  go_enter Try.func15, Try.ntmps15
  go_wp2_with (first | (go_at_call 14; (with_reducible refine (HPut2.out _).mono ?_); rintro e w1 ⟨pv, rfl, hR, hB⟩; obtain ⟨pA1, pc1, hv, hle, hC⟩ := Kd.R_reads hR; subst hv; have HP1 := Aside0.mk hC; have HO1 := Aside0.mk (Kd.R_below (R_litrow w [128, code % 256] _ rfl (by simp) w.heap.size (Nat.le_refl _)) hB); have HB1 := Aside0.mk (below_step (below_alloc (Below.refl _ _) _) hB); clear hR hB hC hle) | ((with_reducible refine gate_builtin (b := .append) (xs := #[.tmp 17, .tmp 21]) rfl ?_); at_builtin; refine Kd.R_append_rows (Kd.int .u8) (w0 := w) w.heap.size rfl (.tmp 17) (.tmp 21) 22 5 (.int .u8 0) 1 rfl Try.underlying22 infoP rfl (by decide) (by omega) (.slice (some ⟨w.heap.size, 0, none⟩) 2 2) [128, code % 256] (putL2 (key.size : Int)) _ _ _ (fun _ => True) (fun _ => False) rfl rfl HO1.out HP1.out (fun _ _ h => h) (fun _ h => h.elim) (fun _ _ => trivial) HB1.out (below_size HB1.out) (by have := HLen.out; simp only [List.length_append, putL2, putL4, putL8, List.length_cons, List.length_nil, bytesOf_length]; omega) ?_; intro v2 w2 hR hB _ _; have HO2 := Aside0.mk hR; have HB2 := Aside0.mk hB; clear hR hB HO1 HP1 HB1) | ((with_reducible refine gate_builtin (b := .append) (xs := #[.tmp 23, .tmp 27]) rfl ?_); at_builtin; refine Kd.R_append_rows (Kd.int .u8) (w0 := w) w.heap.size rfl (.tmp 23) (.tmp 27) 22 5 (.int .u8 0) 1 rfl Try.underlying22 infoP rfl (by decide) (by omega) _ ([128, code % 256] ++ (putL2 (key.size : Int))) [(x.length : Int) % 256] _ _ _ (fun _ => True) (fun _ => False) rfl rfl (Kd.R_alloc HO2.out _) (lit_C w2 [(x.length : Int) % 256] _ 5 (0, 0) rfl (by simp)) (fun _ _ h => h) (fun _ h => h.elim) (fun _ _ => trivial) (below_alloc HB2.out _) (below_size (below_alloc HB2.out _)) (by have := HLen.out; simp only [List.length_append, putL2, putL4, putL8, List.length_cons, List.length_nil, bytesOf_length]; omega) ?_; intro v3 w3 hR hB _ _; have HO3 := Aside0.mk hR; have HB3 := Aside0.mk hB; clear hR hB HO2 HB2) | ((with_reducible refine gate_builtin (b := .append) (xs := #[.tmp 29, .tmp 30]) rfl ?_); at_builtin; refine Kd.R_append_rows (Kd.int .u8) (w0 := w) w.heap.size rfl (.tmp 29) (.tmp 30) 22 5 (.int .u8 0) 1 rfl Try.underlying22 infoP rfl (by decide) (by omega) _ ([128, code % 256] ++ (putL2 (key.size : Int)) ++ [(x.length : Int) % 256]) [0, 0, 0] _ _ _ (fun _ => True) (fun _ => False) rfl rfl (Kd.R_alloc HO3.out _) (lit_C w3 [0, 0, 0] _ 5 (0, 0) rfl (by simp)) (fun _ _ h => h) (fun _ h => h.elim) (fun _ _ => trivial) (below_alloc HB3.out _) (below_size (below_alloc HB3.out _)) (by have := HLen.out; simp only [List.length_append, putL2, putL4, putL8, List.length_cons, List.length_nil, bytesOf_length]; omega) ?_; intro v4 w4 hR hB _ _; have HO4 := Aside0.mk hR; have HB4 := Aside0.mk hB; clear hR hB HO3 HB3) | (go_at_call 14; (with_reducible refine (HPut4a.out _).mono ?_); rintro e w5 ⟨pv, rfl, hR, hB⟩; obtain ⟨pA5, pc5, hv, hle, hC⟩ := Kd.R_reads hR; subst hv; have HP5 := Aside0.mk hC; have HO5 := Aside0.mk (Kd.R_below HO4.out hB); have HB5 := Aside0.mk (below_step HB4.out hB); clear hR hB hC hle) | ((with_reducible refine gate_builtin (b := .append) (xs := #[.tmp 32, .tmp 42]) rfl ?_); at_builtin; refine Kd.R_append_rows (Kd.int .u8) (w0 := w) w.heap.size rfl (.tmp 32) (.tmp 42) 22 5 (.int .u8 0) 1 rfl Try.underlying22 infoP rfl (by decide) (by omega) _ ([128, code % 256] ++ (putL2 (key.size : Int)) ++ [(x.length : Int) % 256] ++ [0, 0, 0]) (putL4 ((x.length : Int) + (key.size : Int) + (v.length : Int))) _ _ _ (fun _ => True) (fun _ => False) rfl rfl HO5.out HP5.out (fun _ _ h => h) (fun _ h => h.elim) (fun _ _ => trivial) HB5.out (below_size HB5.out) (by have := HLen.out; simp only [List.length_append, putL2, putL4, putL8, List.length_cons, List.length_nil, bytesOf_length]; omega) ?_; intro v6 w6 hR hB _ _; have HO6 := Aside0.mk hR; have HB6 := Aside0.mk hB; clear hR hB HO5 HP5 HB5 HO4 HB4) | (go_at_call 14; (with_reducible refine (HPut4b.out _).mono ?_); rintro e w7 ⟨pv, rfl, hR, hB⟩; obtain ⟨pA7, pc7, hv, hle, hC⟩ := Kd.R_reads hR; subst hv; have HP7 := Aside0.mk hC; have HO7 := Aside0.mk (Kd.R_below HO6.out hB); have HB7 := Aside0.mk (below_step HB6.out hB); clear hR hB hC hle) | ((with_reducible refine gate_builtin (b := .append) (xs := #[.tmp 44, .tmp 47]) rfl ?_); at_builtin; refine Kd.R_append_rows (Kd.int .u8) (w0 := w) w.heap.size rfl (.tmp 44) (.tmp 47) 22 5 (.int .u8 0) 1 rfl Try.underlying22 infoP rfl (by decide) (by omega) _ ([128, code % 256] ++ (putL2 (key.size : Int)) ++ [(x.length : Int) % 256] ++ [0, 0, 0] ++ (putL4 ((x.length : Int) + (key.size : Int) + (v.length : Int)))) (putL4 opq) _ _ _ (fun _ => True) (fun _ => False) rfl rfl HO7.out HP7.out (fun _ _ h => h) (fun _ h => h.elim) (fun _ _ => trivial) HB7.out (below_size HB7.out) (by have := HLen.out; simp only [List.length_append, putL2, putL4, putL8, List.length_cons, List.length_nil, bytesOf_length]; omega) ?_; intro v8 w8 hR hB _ _; have HO8 := Aside0.mk hR; have HB8 := Aside0.mk hB; clear hR hB HO7 HP7 HB7 HO6 HB6) | (go_at_call 14; (with_reducible refine (HPut8.out _).mono ?_); rintro e w9 ⟨pv, rfl, hR, hB⟩; obtain ⟨pA9, pc9, hv, hle, hC⟩ := Kd.R_reads hR; subst hv; have HP9 := Aside0.mk hC; have HO9 := Aside0.mk (Kd.R_below HO8.out hB); have HB9 := Aside0.mk (below_step HB8.out hB); clear hR hB hC hle) | ((with_reducible refine gate_builtin (b := .append) (xs := #[.tmp 49, .tmp 51]) rfl ?_); at_builtin; refine Kd.R_append_rows (Kd.int .u8) (w0 := w) w.heap.size rfl (.tmp 49) (.tmp 51) 22 5 (.int .u8 0) 1 rfl Try.underlying22 infoP rfl (by decide) (by omega) _ ([128, code % 256] ++ (putL2 (key.size : Int)) ++ [(x.length : Int) % 256] ++ [0, 0, 0] ++ (putL4 ((x.length : Int) + (key.size : Int) + (v.length : Int))) ++ (putL4 opq)) (putL8 cas) _ _ _ (fun _ => True) (fun _ => False) rfl rfl HO9.out HP9.out (fun _ _ h => h) (fun _ h => h.elim) (fun _ _ => trivial) HB9.out (below_size HB9.out) (by have := HLen.out; simp only [List.length_append, putL2, putL4, putL8, List.length_cons, List.length_nil, bytesOf_length]; omega) ?_; intro v10 w10 hR hB _ _; have HO10 := Aside0.mk hR; have HB10 := Aside0.mk hB; clear hR hB HO9 HP9 HB9 HO8 HB8) | ((with_reducible refine gate_builtin (b := .append) (xs := #[.tmp 53, .tmp 54]) rfl ?_); at_builtin; refine Kd.R_append_rows (Kd.int .u8) (w0 := w) w.heap.size rfl (.tmp 53) (.tmp 54) 22 5 (.int .u8 0) 1 rfl Try.underlying22 infoP rfl (by decide) (by omega) _ ([128, code % 256] ++ (putL2 (key.size : Int)) ++ [(x.length : Int) % 256] ++ [0, 0, 0] ++ (putL4 ((x.length : Int) + (key.size : Int) + (v.length : Int))) ++ (putL4 opq) ++ (putL8 cas)) x _ _ _ (fun _ => True) (fun _ => False) rfl rfl HO10.out (Kd.C_below HXr.out HB10.out) (fun _ _ h => h) (fun _ h => h.elim) (fun _ _ => trivial) HB10.out (below_size HB10.out) (by have := HLen.out; simp only [List.length_append, putL2, putL4, putL8, List.length_cons, List.length_nil, bytesOf_length]; omega) ?_; intro v11 w11 hR hB _ _; have HO11 := Aside0.mk hR; have HB11 := Aside0.mk hB; clear hR hB HO10 HB10) | ((with_reducible refine gate_builtin (b := .append) (xs := #[.tmp 56, .tmp 57]) rfl ?_); at_builtin; refine print_append_str (w0 := w) w.heap.size rfl (.tmp 56) (.tmp 57) 22 9 5 rfl Try.underlying22 Try.underlying9 infoP _ ([128, code % 256] ++ (putL2 (key.size : Int)) ++ [(x.length : Int) % 256] ++ [0, 0, 0] ++ (putL4 ((x.length : Int) + (key.size : Int) + (v.length : Int))) ++ (putL4 opq) ++ (putL8 cas) ++ x) key rfl rfl (Kd.own_of_R (h1 := fun _ => rfl) HO11.out) HB11.out (below_size HB11.out) (by have := HLen.out; simp only [List.length_append, putL2, putL4, putL8, List.length_cons, List.length_nil]; omega) ?_; intro v12 w12 hR hB _; have HO12 := Aside0.mk (Kd.R_of_own (h1 := fun _ => rfl) (ok := fun _ => True) hR (fun _ _ => trivial)); have HB12 := Aside0.mk hB; clear hR hB HO11 HB11) | ((with_reducible refine gate_builtin (b := .append) (xs := #[.tmp 59, .tmp 60]) rfl ?_); at_builtin; refine Kd.R_append_rows (Kd.int .u8) (w0 := w) w.heap.size rfl (.tmp 59) (.tmp 60) 22 5 (.int .u8 0) 1 rfl Try.underlying22 infoP rfl (by decide) (by omega) _ ([128, code % 256] ++ (putL2 (key.size : Int)) ++ [(x.length : Int) % 256] ++ [0, 0, 0] ++ (putL4 ((x.length : Int) + (key.size : Int) + (v.length : Int))) ++ (putL4 opq) ++ (putL8 cas) ++ x ++ (bytesOf key)) v _ _ _ (fun _ => True) (fun _ => False) rfl rfl HO12.out (Kd.C_below HVr.out HB12.out) (fun _ _ h => h) (fun _ h => h.elim) (fun _ _ => trivial) HB12.out (below_size HB12.out) (by have := HLen.out; simp only [List.length_append, putL2, putL4, putL8, List.length_cons, List.length_nil, bytesOf_length]; omega) ?_; intro v13 w13 hR hB _ _; have HO13 := Aside0.mk hR; have HB13 := Aside0.mk hB; clear hR hB HO12 HB12))
  go_ret
  exact ⟨_, rfl, HO13.out, HB13.out⟩

/-! ### butteryref16_loud: function 26 -/
mutual
def butteryref16_loud.j0 : Nat → Int → Bool → Option (Int × Bool)
  | 0, _, _ => none
  | k + 1, x0, x13 => if x13 = true then (some (wrap64 (x0 - 16), true)) else (if x0 = 25 then (butteryref16_loud.j1 k x0 true) else (butteryref16_loud.j1 k x0 (x0 == 26)))
def butteryref16_loud.j1 : Nat → Int → Bool → Option (Int × Bool)
  | 0, _, _ => none
  | k + 1, x0, x21 => if x21 = true then (some (wrap64 (x0 - 11), true)) else (if x0 = 30 then (some (29, true)) else (some (x0, false)))
end
def butteryref16_loud.f (k : Nat) (a0 : Int) : Option (Int × Bool) := if a0 = 9 then (some (0, true)) else (if a0 = 13 then (some (12, true)) else (if a0 ≥ 17 then (butteryref16_loud.j0 k a0 (decide (a0 ≤ 24))) else (butteryref16_loud.j0 k a0 false)))
theorem butteryref16_loud.mono_l : ∀ k, (∀ y0 y1, LeO (butteryref16_loud.j0 k y0 y1) (butteryref16_loud.j0 (k + 1) y0 y1)) ∧ (∀ y0 y1, LeO (butteryref16_loud.j1 k y0 y1) (butteryref16_loud.j1 (k + 1) y0 y1))
  | 0 => ⟨fun _ _ r h => by simp [butteryref16_loud.j0] at h, fun _ _ r h => by simp [butteryref16_loud.j1] at h⟩
  | k + 1 => by
    obtain ⟨ih0, ih1⟩ := butteryref16_loud.mono_l k
    refine ⟨?_, ?_⟩
    · intro y0 y1
      unfold butteryref16_loud.j0
      repeat' first
      | (with_reducible exact ih0 _ _)
      | (with_reducible exact ih1 _ _)
      | (with_reducible exact LeO.refl _)
      | (with_reducible exact LeO.none _)
      | (with_reducible refine LeO.ite ?_ ?_)
      | (with_reducible refine LeO.bind ?_ (fun _ => ?_))
      | exact ih0 _ _
      | exact ih1 _ _
      | exact LeO.none _
      | refine LeO.ite ?_ ?_
      | refine LeO.bind ?_ (fun _ => ?_)
    · intro y0 y1
      unfold butteryref16_loud.j1
      repeat' first
      | (with_reducible exact ih0 _ _)
      | (with_reducible exact ih1 _ _)
      | (with_reducible exact LeO.refl _)
      | (with_reducible exact LeO.none _)
      | (with_reducible refine LeO.ite ?_ ?_)
      | (with_reducible refine LeO.bind ?_ (fun _ => ?_))
      | exact ih0 _ _
      | exact ih1 _ _
      | exact LeO.none _
      | refine LeO.ite ?_ ?_
      | refine LeO.bind ?_ (fun _ => ?_)
theorem butteryref16_loud.mono : ∀ a0 k, LeO (butteryref16_loud.f k a0) (butteryref16_loud.f (k + 1) a0) := by
  intro a0 k
  obtain ⟨ih0, ih1⟩ := butteryref16_loud.mono_l k
  unfold butteryref16_loud.f
  repeat' first
      | (with_reducible exact ih0 _ _)
      | (with_reducible exact ih1 _ _)
      | (with_reducible exact LeO.refl _)
      | (with_reducible exact LeO.none _)
      | (with_reducible refine LeO.ite ?_ ?_)
      | (with_reducible refine LeO.bind ?_ (fun _ => ?_))
      | exact ih0 _ _
      | exact ih1 _ _
      | exact LeO.none _
      | refine LeO.ite ?_ ?_
      | refine LeO.bind ?_ (fun _ => ?_)
set_option maxHeartbeats 8000000 in
set_option maxRecDepth 100000 in
theorem butteryref16_loud.calls (k : Nat) (a0 : Int) (r1 : Int) (r2 : Bool) (w : World) (h : butteryref16_loud.f k a0 = some (r1, r2)) :
    Calls Try.prog 26 #[.int .i64 a0] w fun e w' => e = .returned (.tuple #[.int .i64 r1, .bool r2]) ∧ Drawn0 w w' := by
  have H : (if a0 = 9 then (some (0, true)) else (if a0 = 13 then (some (12, true)) else (if a0 ≥ 17 then (butteryref16_loud.j0 k a0 (decide (a0 ≤ 24))) else (butteryref16_loud.j0 k a0 false)))) = some (r1, r2) := h
  clear h
  by_cases c2 : a0 = 9
  · rw [if_pos c2] at H
    have c2b0 : (a0 == 9) = true := beq_iff_eq.mpr c2
    have c2b1 : (a0 != 9) = false := bne_eq_false_iff_eq.mpr c2
    clear c2
    simp only [Option.some.injEq, Prod.mk.injEq] at H
    obtain ⟨rfl, rfl⟩ := H
    go_enter Try.func26, Try.ntmps26
    go_wp2
    go_ret2
    exact ⟨by first | rfl | (simp; done) | (simp [*]; done), by repeat (first | exact Drawn0.refl _ | apply Drawn0.step)⟩
  · rw [if_neg c2] at H
    have c2b0 : (a0 == 9) = false := beq_eq_false_iff_ne.mpr c2
    have c2b1 : (a0 != 9) = true := bne_iff_ne.mpr c2
    by_cases c3 : a0 = 13
    · rw [if_pos c3] at H
      have c3b0 : (a0 == 13) = true := beq_iff_eq.mpr c3
      have c3b1 : (a0 != 13) = false := bne_eq_false_iff_eq.mpr c3
      clear c3
      simp only [Option.some.injEq, Prod.mk.injEq] at H
      obtain ⟨rfl, rfl⟩ := H
      go_enter Try.func26, Try.ntmps26
      go_wp2
      go_ret2
      exact ⟨by first | rfl | (simp; done) | (simp [*]; done), by repeat (first | exact Drawn0.refl _ | apply Drawn0.step)⟩
    · rw [if_neg c3] at H
      have c3b0 : (a0 == 13) = false := beq_eq_false_iff_ne.mpr c3
      have c3b1 : (a0 != 13) = true := bne_iff_ne.mpr c3
      have HC4 := Aside0.mk H
      clear H
      go_enter Try.func26, Try.ntmps26
      go_upto_region 5 with (fail)
      go_cut [13] (fun v13 wc => ∃ (kq : Nat) (x13_3 : Bool), v13 = .bool x13_3 ∧ Aside0 (butteryref16_loud.j0 kq a0 x13_3 = some (r1, r2)) ∧ Aside0 (kq ≤ k) ∧ Drawn0 w wc)
      case first =>
        have H := HC4.out
        clear HC4
        by_cases c5 : a0 ≥ 17
        · rw [if_pos c5] at H
          have c5b0 : decide (17 ≤ a0) = true := decide_eq_true c5
          clear c5
          (first | rw [c5b0] | (simp only [i64_w, i32_w]; rw [c5b0]) | skip)
          have H' := Aside0.mk H
          clear H
          go_wp2
          go_meet
          case rel => exact ⟨_, (decide (a0 ≤ 24)), (by first | rfl | (simp; done) | (simp [*]; done)), H', ⟨by first | omega | exact Nat.le_refl _⟩, by repeat (first | exact Drawn0.refl _ | apply Drawn0.step)⟩
        · rw [if_neg c5] at H
          have c5b0 : decide (17 ≤ a0) = false := decide_eq_false c5
          clear c5
          (first | rw [c5b0] | (simp only [i64_w, i32_w]; rw [c5b0]) | skip)
          have H' := Aside0.mk H
          clear H
          go_wp2
          go_meet
          case rel => exact ⟨_, (false), (by first | rfl | (simp; done) | (simp [*]; done)), H', ⟨by first | omega | exact Nat.le_refl _⟩, by repeat (first | exact Drawn0.refl _ | apply Drawn0.step)⟩
      case rest =>
        clear HC4
        try clear c2
        try clear c2b0
        try clear c2b1
        try clear p2
        try clear c3
        try clear c3b0
        try clear c3b1
        try clear c5
        try clear c5b0
        obtain ⟨kq, x13_3, rfl, HA, HJ3, ⟨mc3, rfl⟩⟩ := hcut
        cases kq with
        | zero => exact absurd HA.out (by simp [butteryref16_loud.j0])
        | succ kj3 =>
          have H := HA.out
          clear HA
          simp only [butteryref16_loud.j0] at H
          by_cases c6 : x13_3 = true
          · subst c6
            have H1 : (some (wrap64 (a0 - 16), true)) = some (r1, r2) := by rw [if_pos rfl] at H; exact H
            clear H
            have H := H1
            clear H1
            simp only [Option.some.injEq, Prod.mk.injEq] at H
            obtain ⟨rfl, rfl⟩ := H
            go_wp2
            go_ret2
            exact ⟨by first | rfl | (simp; done) | (simp [*]; done), by repeat (first | exact Drawn0.refl _ | apply Drawn0.step)⟩
          · replace c6 := Bool.eq_false_iff.mpr c6
            subst c6
            have H1 : (if a0 = 25 then (butteryref16_loud.j1 kj3 a0 true) else (butteryref16_loud.j1 kj3 a0 (a0 == 26))) = some (r1, r2) := by rw [if_neg (show ¬ (false = true) by decide)] at H; exact H
            clear H
            have H := H1
            clear H1
            have HC7 := Aside0.mk H
            clear H
            go_upto_region 7 with (fail)
            go_cut [21] (fun v21 wc => ∃ (kq : Nat) (x21_6 : Bool), v21 = .bool x21_6 ∧ Aside0 (butteryref16_loud.j1 kq a0 x21_6 = some (r1, r2)) ∧ Aside0 (kq ≤ kj3) ∧ Drawn0 w wc)
            case first =>
              have H := HC7.out
              clear HC7
              by_cases c8 : a0 = 25
              · rw [if_pos c8] at H
                have c8b0 : (a0 == 25) = true := beq_iff_eq.mpr c8
                have c8b1 : (a0 != 25) = false := bne_eq_false_iff_eq.mpr c8
                clear c8
                (first | rw [c8b0] | (simp only [i64_w, i32_w]; rw [c8b0]) | skip)
                have H' := Aside0.mk H
                clear H
                go_wp2
                go_meet
                case rel => exact ⟨_, (true), (by first | rfl | (simp; done) | (simp [*]; done)), H', ⟨by have := HJ3.out; first | omega | exact Nat.le_refl _⟩, by repeat (first | exact Drawn0.refl _ | apply Drawn0.step)⟩
              · rw [if_neg c8] at H
                have c8b0 : (a0 == 25) = false := beq_eq_false_iff_ne.mpr c8
                have c8b1 : (a0 != 25) = true := bne_iff_ne.mpr c8
                (first | rw [c8b0] | (simp only [i64_w, i32_w]; rw [c8b0]) | skip)
                have H' := Aside0.mk H
                clear H
                go_wp2
                go_meet
                case rel => exact ⟨_, ((a0 == 26)), (by first | rfl | (simp; done) | (simp [*]; done)), H', ⟨by have := HJ3.out; first | omega | exact Nat.le_refl _⟩, by repeat (first | exact Drawn0.refl _ | apply Drawn0.step)⟩
            case rest =>
              clear HC7
              try clear c2
              try clear c2b0
              try clear c2b1
              try clear p2
              try clear c3
              try clear c3b0
              try clear c3b1
              try clear c5
              try clear c5b0
              try clear c6
              try clear p6
              try clear c8
              try clear c8b0
              try clear c8b1
              try clear p2
              obtain ⟨kq, x21_6, rfl, HA, HJ6, ⟨mc6, rfl⟩⟩ := hcut
              cases kq with
              | zero => exact absurd HA.out (by simp [butteryref16_loud.j1])
              | succ kj6 =>
                have H := HA.out
                clear HA
                simp only [butteryref16_loud.j1] at H
                by_cases c9 : x21_6 = true
                · subst c9
                  have H1 : (some (wrap64 (a0 - 11), true)) = some (r1, r2) := by rw [if_pos rfl] at H; exact H
                  clear H
                  have H := H1
                  clear H1
                  simp only [Option.some.injEq, Prod.mk.injEq] at H
                  obtain ⟨rfl, rfl⟩ := H
                  go_wp2
                  go_ret2
                  exact ⟨by first | rfl | (simp; done) | (simp [*]; done), by repeat (first | exact Drawn0.refl _ | apply Drawn0.step)⟩
                · replace c9 := Bool.eq_false_iff.mpr c9
                  subst c9
                  have H1 : (if a0 = 30 then (some (29, true)) else (some (a0, false))) = some (r1, r2) := by rw [if_neg (show ¬ (false = true) by decide)] at H; exact H
                  clear H
                  have H := H1
                  clear H1
                  by_cases c10 : a0 = 30
                  · rw [if_pos c10] at H
                    have c10b0 : (a0 == 30) = true := beq_iff_eq.mpr c10
                    have c10b1 : (a0 != 30) = false := bne_eq_false_iff_eq.mpr c10
                    clear c10
                    simp only [Option.some.injEq, Prod.mk.injEq] at H
                    obtain ⟨rfl, rfl⟩ := H
                    go_wp2
                    go_ret2
                    exact ⟨by first | rfl | (simp; done) | (simp [*]; done), by repeat (first | exact Drawn0.refl _ | apply Drawn0.step)⟩
                  · rw [if_neg c10] at H
                    have c10b0 : (a0 == 30) = false := beq_eq_false_iff_ne.mpr c10
                    have c10b1 : (a0 != 30) = true := bne_iff_ne.mpr c10
                    simp only [Option.some.injEq, Prod.mk.injEq] at H
                    obtain ⟨rfl, rfl⟩ := H
                    go_wp2
                    go_ret2
                    exact ⟨by first | rfl | (simp; done) | (simp [*]; done), by repeat (first | exact Drawn0.refl _ | apply Drawn0.step)⟩

/-! ### butteryref16_Of: function 16 -/
/-- The row of a code, as the document's table has it. -/
def refRow (o : Option (Int × Int × Int)) : Int × Int × Bool × Bool := match o with
  | none => (-1, 0, true, false)
  | some r => (r.1, r.2.1, decide (r.2.2 = 1 ∨ r.2.2 = 3), decide (r.2.2 = 3))
def rowV (r : Int × Int × Bool × Bool) (q : Bool) : Value := .agg #[.int .i64 r.1, .int .i64 r.2.1, .bool r.2.2.1, .bool r.2.2.2, .bool q]
theorem rloud_all : ∀ n : Fin 256, butteryref16_loud.f 9 ((n : Nat) : Int) = some (loudC ((n : Nat) : Int)) := by decide +kernel
theorem loud_not : ∀ n : Fin 256, (loudC ((n : Nat) : Int)).1 ≠ 9 ∧ (loudC ((n : Nat) : Int)).1 ≠ 13 := by decide +kernel
set_option maxHeartbeats 8000000 in
set_option maxRecDepth 100000 in
theorem of_some (code : Int) (q : Bool) (w : World) (c : Int) (hc : c = 0 ∨ c = 1 ∨ c = 2 ∨ c = 3 ∨ c = 4 ∨ c = 5 ∨ c = 6 ∨ c = 7 ∨ c = 8 ∨ c = 10 ∨ c = 11 ∨ c = 12 ∨ c = 14 ∨ c = 15 ∨ c = 28 ∨ c = 29) (HL : Aside0 (∀ W, Calls Try.prog 26 #[.int .i64 code] W fun e w' => e = .returned (.tuple #[.int .i64 c, .bool q]) ∧ Drawn0 W w')) :
    Calls Try.prog 16 #[.int .i64 code] w fun e w' => e = .returned (rowV (refRow (plainC c)) q) ∧ Below w.heap.size w w' := by
  have hu47 := Try.underlying47
  have hu61 := Try.underlying61
  rcases hc with rfl | rfl | rfl | rfl | rfl | rfl | rfl | rfl | rfl | rfl | rfl | rfl | rfl | rfl | rfl | rfl
  all_goals (
    go_enter Try.func16, Try.ntmps16
    go_wp2_with (first | (go_at_call 26; refine (HL.out _).mono ?_; rintro e w' ⟨rfl, ⟨m, rfl⟩⟩))
    refine bodyPost_ret (by simp [results, Try.results16, go_sem]; rfl) rfl ?_
    exact ⟨rfl, by repeat (with_reducible first | exact Below.refl _ _ | apply below_alloc | apply below_drew | apply pw_below_drewN | refine below_set ?_ (by omega))⟩)
set_option maxHeartbeats 8000000 in
set_option maxRecDepth 100000 in
theorem of_none (code : Int) (q : Bool) (w : World) (c : Int) (hc : 16 ≤ c ∧ c ≠ 28 ∧ c ≠ 29) (HL : Aside0 (∀ W, Calls Try.prog 26 #[.int .i64 code] W fun e w' => e = .returned (.tuple #[.int .i64 c, .bool q]) ∧ Drawn0 W w')) :
    Calls Try.prog 16 #[.int .i64 code] w fun e w' => e = .returned (rowV (-1, 0, true, false) q) ∧ Below w.heap.size w w' := by
  have hu47 := Try.underlying47
  have hu61 := Try.underlying61
  have b1 : decide (c < 16) = false := decide_eq_false (by omega)
  have b2 : decide (c ≥ 1) = true := decide_eq_true (by omega)
  have b3 : decide (c ≤ 3) = false := decide_eq_false (by omega)
  have e1 : (c == 28) = false := beq_eq_false_iff_ne.mpr (by omega)
  have e2 : (c == 29) = false := beq_eq_false_iff_ne.mpr (by omega)
  have e3 : (c == 7) = false := beq_eq_false_iff_ne.mpr (by omega)
  have e4 : (c == 8) = false := beq_eq_false_iff_ne.mpr (by omega)
  have e5 : (c == 10) = false := beq_eq_false_iff_ne.mpr (by omega)
  have e6 : (c == 11) = false := beq_eq_false_iff_ne.mpr (by omega)
  have e7 : (c == 14) = false := beq_eq_false_iff_ne.mpr (by omega)
  have e8 : (c == 15) = false := beq_eq_false_iff_ne.mpr (by omega)
  have e9 : (c == 5) = false := beq_eq_false_iff_ne.mpr (by omega)
  have e10 : (c == 6) = false := beq_eq_false_iff_ne.mpr (by omega)
  clear hc
  go_enter Try.func16, Try.ntmps16
  go_wp2_with (first | (go_at_call 26; refine (HL.out _).mono ?_; rintro e w' ⟨rfl, ⟨m, rfl⟩⟩))
  refine bodyPost_ret (by simp [results, Try.results16, go_sem]; rfl) rfl ?_
  exact ⟨rfl, by repeat (with_reducible first | exact Below.refl _ _ | apply below_alloc | apply below_drew | apply pw_below_drewN | refine below_set ?_ (by omega))⟩
theorem plain_some : ∀ n : Fin 256, (plainC ((n : Nat) : Int)).isSome = true ↔ ((n : Nat) = 0 ∨ (n : Nat) = 1 ∨ (n : Nat) = 2 ∨ (n : Nat) = 3 ∨ (n : Nat) = 4 ∨ (n : Nat) = 5 ∨ (n : Nat) = 6 ∨ (n : Nat) = 7 ∨ (n : Nat) = 8 ∨ (n : Nat) = 10 ∨ (n : Nat) = 11 ∨ (n : Nat) = 12 ∨ (n : Nat) = 14 ∨ (n : Nat) = 15 ∨ (n : Nat) = 28 ∨ (n : Nat) = 29) := by decide +kernel
theorem of_w (code : Int) (h0 : 0 ≤ code) (h1 : code ≤ 255) (w : World) : Calls Try.prog 16 #[.int .i64 code] w fun e w' => e = .returned (rowV (refRow (plainC (loudC code).1)) (loudC code).2) ∧ Below w.heap.size w w' := by
  have hcl := rloud_all ⟨code.toNat, by omega⟩
  have hcr := loud_range ⟨code.toNat, by omega⟩
  have hcn := loud_not ⟨code.toNat, by omega⟩
  rw [show ((code.toNat : Nat) : Int) = code by omega] at hcl hcr hcn
  have hps := plain_some ⟨(loudC code).1.toNat, by omega⟩
  rw [show (((loudC code).1.toNat : Nat) : Int) = (loudC code).1 by omega] at hps
  have HL := Aside0.mk (fun W => butteryref16_loud.calls 9 code (loudC code).1 (loudC code).2 W hcl)
  simp only at hps
  cases hp : plainC (loudC code).1 with
  | none =>
    rw [hp] at hps
    have hn := mt hps.2 (by simp)
    exact of_none code _ w _ (by omega) HL
  | some r =>
    rw [hp] at hps
    have hn := hps.1 rfl
    rw [← hp]
    exact of_some code _ w _ (by omega) HL

end Go.Proofs.Ytkbhnnmngmdkdaa.Hc
