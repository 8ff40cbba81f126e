-- Written by this session's own program (wip/hprint.py) out of the translation, over hand-proved contracts. Lean checks it.
import Derived.Test.YtkbhnnmngmdkdaaHpx0
import Derived.Test.YtkbhnnmngmdkdaaHpx3
import Derived.Test.YtkbhnnmngmdkdaaHpx4
namespace Go.Proofs.Ytkbhnnmngmdkdaa.Hp
open Go.RowKit Go.Proofs.YtkbhnnmngmdkdaaW.PrintWords Go.Proofs.YtkbhnnmngmdkdaaW.PrintLast Go.Proofs.YtkbhnnmngmdkdaaW.PrintMore
attribute [local go_sem] max2_int min2_int max_two min_two max_three min_three max_four min_four   -- for this text's walks alone
set_option linter.unusedVariables false
set_option linter.unusedSimpArgs false

/-! ### binin_Parse: function 11 -/
def parseS (l : List Int) : St :=
  if l = [] then badS ⟨#[]⟩ 0 3 else if rd l 0 ≠ 128 then badS ⟨#[]⟩ 0 9 else if l.length < 24 then badS ⟨#[]⟩ 0 3
  else if 2048 < be (cut l 8 12) then badS ⟨#[]⟩ 0 9 else if (l.length : Int) < 24 + be (cut l 8 12) then badS ⟨#[]⟩ 0 3
  else reqS (rd l 1) (be (cut l 12 16)) (be (cut l 16 24)) (rd l 4).toNat (be (cut l 2 4)).toNat (cut l 24 (24 + (be (cut l 8 12)).toNat))
set_option maxHeartbeats 8000000 in
set_option maxRecDepth 100000 in
theorem parse_nil (A0 : Option Addr) (c0 : Nat) (w : World) : Calls Try.prog 11 #[.slice A0 0 c0] w fun e w' => e = .returned (badV ⟨#[]⟩ 0 3) ∧ Below w.heap.size w w' := by
  have hu34 := Try.underlying34
  have hu31 := Try.underlying31
  have hu29 := Try.underlying29
  have hu53 := Try.underlying53
  have hu22 := Try.underlying22
  go_enter Try.func11, Try.ntmps11
  go_wp2
  refine bodyPost_ret (v := badV ⟨#[]⟩ 0 3) (results_cell_row rfl _ _ w.heap.size 34 _ (0, 0) _ rfl (blk_new w _) Try.underlying34 rfl (by kernel_rfl)) rfl ?_
  exact ⟨rfl, by repeat (with_reducible first | exact Below.refl _ _ | apply below_alloc | apply below_drew | apply pw_below_drewN | refine below_set ?_ (by omega))⟩
set_option maxHeartbeats 8000000 in
set_option maxRecDepth 100000 in
theorem parse_other (A0 : Option Addr) (c0 : Nat) (l0 : List Int) (w : World) (hr0 : Kd.C (Kd.int .u8) w A0 l0.length l0) (hc0 : l0.length ≤ c0) (h : 0 < l0.length) (h1 : rd l0 0 ≠ 128) : Calls Try.prog 11 #[.slice A0 l0.length c0] w fun e w' => e = .returned (badV ⟨#[]⟩ 0 9) ∧ Below w.heap.size w w' := by
  have hu34 := Try.underlying34
  have hu31 := Try.underlying31
  have hu29 := Try.underlying29
  have hu53 := Try.underlying53
  have hu22 := Try.underlying22
  obtain ⟨ad, hA, hcell⟩ := Kd.at_int hr0 0 (by omega) (by omega)
  have ha0 : ad.add (0 : Int).toNat = ad := by simp [Addr.add]
  rw [ha0] at hcell
  subst hA
  have hp : (0 : Int) < (l0.length : Int) := by omega
  have hp2 : ((l0.length : Int) == 0) = false := beq_eq_false_iff_ne.mpr (by omega)
  have hcA : ∀ o : Obj, (w.alloc o).cell? ad = some (.int .u8 (rd l0 0)) := fun o => pw_cell_below (below_alloc (Below.refl _ _) o) hcell
  have hx : (rd l0 0 != 128) = true := bne_iff_ne.mpr h1
  clear hr0 h1 ha0 hcell
  generalize l0.length = n0 at *
  go_enter Try.func11, Try.ntmps11
  go_wp2
  refine bodyPost_ret (v := badV ⟨#[]⟩ 0 9) (results_cell_row rfl _ _ w.heap.size 34 _ (0, 0) _ rfl (blk_new w _) Try.underlying34 rfl (by kernel_rfl)) rfl ?_
  exact ⟨rfl, by repeat (with_reducible first | exact Below.refl _ _ | apply below_alloc | apply below_drew | apply pw_below_drewN | refine below_set ?_ (by omega))⟩
set_option maxHeartbeats 8000000 in
set_option maxRecDepth 100000 in
theorem parse_short (A0 : Option Addr) (c0 : Nat) (l0 : List Int) (w : World) (hr0 : Kd.C (Kd.int .u8) w A0 l0.length l0) (hc0 : l0.length ≤ c0) (h : 0 < l0.length) (h1 : rd l0 0 = 128) (h2 : l0.length < 24) : Calls Try.prog 11 #[.slice A0 l0.length c0] w fun e w' => e = .returned (badV ⟨#[]⟩ 0 3) ∧ Below w.heap.size w w' := by
  have hu34 := Try.underlying34
  have hu31 := Try.underlying31
  have hu29 := Try.underlying29
  have hu53 := Try.underlying53
  have hu22 := Try.underlying22
  obtain ⟨ad, hA, hcell⟩ := Kd.at_int hr0 0 (by omega) (by omega)
  have ha0 : ad.add (0 : Int).toNat = ad := by simp [Addr.add]
  rw [ha0] at hcell
  subst hA
  have hp : (0 : Int) < (l0.length : Int) := by omega
  have hp2 : ((l0.length : Int) == 0) = false := beq_eq_false_iff_ne.mpr (by omega)
  have hcA : ∀ o : Obj, (w.alloc o).cell? ad = some (.int .u8 (rd l0 0)) := fun o => pw_cell_below (below_alloc (Below.refl _ _) o) hcell
  have hx : (rd l0 0 != 128) = false := bne_eq_false_iff_eq.mpr h1
  have hd : decide (l0.length < 24) = true := decide_eq_true h2
  have hd2 : decide ((l0.length : Int) < 24) = true := decide_eq_true (by omega)
  clear hr0 h1 ha0 hcell
  generalize l0.length = n0 at *
  go_enter Try.func11, Try.ntmps11
  go_wp2
  refine bodyPost_ret (v := badV ⟨#[]⟩ 0 3) (results_cell_row rfl _ _ w.heap.size 34 _ (0, 0) _ rfl (blk_new w _) Try.underlying34 rfl (by kernel_rfl)) rfl ?_
  exact ⟨rfl, by repeat (with_reducible first | exact Below.refl _ _ | apply below_alloc | apply below_drew | apply pw_below_drewN | refine below_set ?_ (by omega))⟩
theorem C_set16 {W : World} {g : Nat} {A : Option Addr} {n : Nat} {xs : List Int} (h : Kd.C (Kd.int .u8) W A n xs) (hk : W.heap[g]? = some (.cells #[Value.slice none 0 0, Value.int .i64 0, Value.string ⟨#[]⟩, Value.int .i64 0, Value.int .u32 0, Value.bool false, Value.bool false, Value.string ⟨#[]⟩, Value.slice none 0 0, Value.slice none 0 0, Value.bool false, Value.string ⟨#[]⟩, Value.int .i64 0, Value.int .i64 0, Value.bool false, Value.int .i64 0] 34 (0, 0))) (v0 v1 v2 v3 v4 v5 v6 v7 v8 v9 v10 v11 v12 v13 v14 v15 : Value) : Kd.C (Kd.int .u8) (set16 W g v0 v1 v2 v3 v4 v5 v6 v7 v8 v9 v10 v11 v12 v13 v14 v15) A n xs :=
  (C_set_ne (C_set_ne (C_set_ne (C_set_ne (C_set_ne (C_set_ne (C_set_ne (C_set_ne (C_set_ne (C_set_ne (C_set_ne (C_set_ne (C_set_ne (C_set_ne (C_set_ne (C_set_ne h (fun x e => by rw [blk_cell hk 0] at e; cases e) (p := ⟨g, 0, none⟩) (u := v0)) (fun x e => by rw [blk_cell (blk_put (cs' := #[v0, Value.int .i64 0, Value.string ⟨#[]⟩, Value.int .i64 0, Value.int .u32 0, Value.bool false, Value.bool false, Value.string ⟨#[]⟩, Value.slice none 0 0, Value.slice none 0 0, Value.bool false, Value.string ⟨#[]⟩, Value.int .i64 0, Value.int .i64 0, Value.bool false, Value.int .i64 0]) hk 0 v0 rfl) 1] at e; cases e) (p := ⟨g, 1, none⟩) (u := v1)) (fun x e => by rw [blk_cell (blk_put (cs' := #[v0, v1, Value.string ⟨#[]⟩, Value.int .i64 0, Value.int .u32 0, Value.bool false, Value.bool false, Value.string ⟨#[]⟩, Value.slice none 0 0, Value.slice none 0 0, Value.bool false, Value.string ⟨#[]⟩, Value.int .i64 0, Value.int .i64 0, Value.bool false, Value.int .i64 0]) (blk_put (cs' := #[v0, Value.int .i64 0, Value.string ⟨#[]⟩, Value.int .i64 0, Value.int .u32 0, Value.bool false, Value.bool false, Value.string ⟨#[]⟩, Value.slice none 0 0, Value.slice none 0 0, Value.bool false, Value.string ⟨#[]⟩, Value.int .i64 0, Value.int .i64 0, Value.bool false, Value.int .i64 0]) hk 0 v0 rfl) 1 v1 rfl) 2] at e; cases e) (p := ⟨g, 2, none⟩) (u := v2)) (fun x e => by rw [blk_cell (blk_put (cs' := #[v0, v1, v2, Value.int .i64 0, Value.int .u32 0, Value.bool false, Value.bool false, Value.string ⟨#[]⟩, Value.slice none 0 0, Value.slice none 0 0, Value.bool false, Value.string ⟨#[]⟩, Value.int .i64 0, Value.int .i64 0, Value.bool false, Value.int .i64 0]) (blk_put (cs' := #[v0, v1, Value.string ⟨#[]⟩, Value.int .i64 0, Value.int .u32 0, Value.bool false, Value.bool false, Value.string ⟨#[]⟩, Value.slice none 0 0, Value.slice none 0 0, Value.bool false, Value.string ⟨#[]⟩, Value.int .i64 0, Value.int .i64 0, Value.bool false, Value.int .i64 0]) (blk_put (cs' := #[v0, Value.int .i64 0, Value.string ⟨#[]⟩, Value.int .i64 0, Value.int .u32 0, Value.bool false, Value.bool false, Value.string ⟨#[]⟩, Value.slice none 0 0, Value.slice none 0 0, Value.bool false, Value.string ⟨#[]⟩, Value.int .i64 0, Value.int .i64 0, Value.bool false, Value.int .i64 0]) hk 0 v0 rfl) 1 v1 rfl) 2 v2 rfl) 3] at e; cases e) (p := ⟨g, 3, none⟩) (u := v3)) (fun x e => by rw [blk_cell (blk_put (cs' := #[v0, v1, v2, v3, Value.int .u32 0, Value.bool false, Value.bool false, Value.string ⟨#[]⟩, Value.slice none 0 0, Value.slice none 0 0, Value.bool false, Value.string ⟨#[]⟩, Value.int .i64 0, Value.int .i64 0, Value.bool false, Value.int .i64 0]) (blk_put (cs' := #[v0, v1, v2, Value.int .i64 0, Value.int .u32 0, Value.bool false, Value.bool false, Value.string ⟨#[]⟩, Value.slice none 0 0, Value.slice none 0 0, Value.bool false, Value.string ⟨#[]⟩, Value.int .i64 0, Value.int .i64 0, Value.bool false, Value.int .i64 0]) (blk_put (cs' := #[v0, v1, Value.string ⟨#[]⟩, Value.int .i64 0, Value.int .u32 0, Value.bool false, Value.bool false, Value.string ⟨#[]⟩, Value.slice none 0 0, Value.slice none 0 0, Value.bool false, Value.string ⟨#[]⟩, Value.int .i64 0, Value.int .i64 0, Value.bool false, Value.int .i64 0]) (blk_put (cs' := #[v0, Value.int .i64 0, Value.string ⟨#[]⟩, Value.int .i64 0, Value.int .u32 0, Value.bool false, Value.bool false, Value.string ⟨#[]⟩, Value.slice none 0 0, Value.slice none 0 0, Value.bool false, Value.string ⟨#[]⟩, Value.int .i64 0, Value.int .i64 0, Value.bool false, Value.int .i64 0]) hk 0 v0 rfl) 1 v1 rfl) 2 v2 rfl) 3 v3 rfl) 4] at e; cases e) (p := ⟨g, 4, none⟩) (u := v4)) (fun x e => by rw [blk_cell (blk_put (cs' := #[v0, v1, v2, v3, v4, Value.bool false, Value.bool false, Value.string ⟨#[]⟩, Value.slice none 0 0, Value.slice none 0 0, Value.bool false, Value.string ⟨#[]⟩, Value.int .i64 0, Value.int .i64 0, Value.bool false, Value.int .i64 0]) (blk_put (cs' := #[v0, v1, v2, v3, Value.int .u32 0, Value.bool false, Value.bool false, Value.string ⟨#[]⟩, Value.slice none 0 0, Value.slice none 0 0, Value.bool false, Value.string ⟨#[]⟩, Value.int .i64 0, Value.int .i64 0, Value.bool false, Value.int .i64 0]) (blk_put (cs' := #[v0, v1, v2, Value.int .i64 0, Value.int .u32 0, Value.bool false, Value.bool false, Value.string ⟨#[]⟩, Value.slice none 0 0, Value.slice none 0 0, Value.bool false, Value.string ⟨#[]⟩, Value.int .i64 0, Value.int .i64 0, Value.bool false, Value.int .i64 0]) (blk_put (cs' := #[v0, v1, Value.string ⟨#[]⟩, Value.int .i64 0, Value.int .u32 0, Value.bool false, Value.bool false, Value.string ⟨#[]⟩, Value.slice none 0 0, Value.slice none 0 0, Value.bool false, Value.string ⟨#[]⟩, Value.int .i64 0, Value.int .i64 0, Value.bool false, Value.int .i64 0]) (blk_put (cs' := #[v0, Value.int .i64 0, Value.string ⟨#[]⟩, Value.int .i64 0, Value.int .u32 0, Value.bool false, Value.bool false, Value.string ⟨#[]⟩, Value.slice none 0 0, Value.slice none 0 0, Value.bool false, Value.string ⟨#[]⟩, Value.int .i64 0, Value.int .i64 0, Value.bool false, Value.int .i64 0]) hk 0 v0 rfl) 1 v1 rfl) 2 v2 rfl) 3 v3 rfl) 4 v4 rfl) 5] at e; cases e) (p := ⟨g, 5, none⟩) (u := v5)) (fun x e => by rw [blk_cell (blk_put (cs' := #[v0, v1, v2, v3, v4, v5, Value.bool false, Value.string ⟨#[]⟩, Value.slice none 0 0, Value.slice none 0 0, Value.bool false, Value.string ⟨#[]⟩, Value.int .i64 0, Value.int .i64 0, Value.bool false, Value.int .i64 0]) (blk_put (cs' := #[v0, v1, v2, v3, v4, Value.bool false, Value.bool false, Value.string ⟨#[]⟩, Value.slice none 0 0, Value.slice none 0 0, Value.bool false, Value.string ⟨#[]⟩, Value.int .i64 0, Value.int .i64 0, Value.bool false, Value.int .i64 0]) (blk_put (cs' := #[v0, v1, v2, v3, Value.int .u32 0, Value.bool false, Value.bool false, Value.string ⟨#[]⟩, Value.slice none 0 0, Value.slice none 0 0, Value.bool false, Value.string ⟨#[]⟩, Value.int .i64 0, Value.int .i64 0, Value.bool false, Value.int .i64 0]) (blk_put (cs' := #[v0, v1, v2, Value.int .i64 0, Value.int .u32 0, Value.bool false, Value.bool false, Value.string ⟨#[]⟩, Value.slice none 0 0, Value.slice none 0 0, Value.bool false, Value.string ⟨#[]⟩, Value.int .i64 0, Value.int .i64 0, Value.bool false, Value.int .i64 0]) (blk_put (cs' := #[v0, v1, Value.string ⟨#[]⟩, Value.int .i64 0, Value.int .u32 0, Value.bool false, Value.bool false, Value.string ⟨#[]⟩, Value.slice none 0 0, Value.slice none 0 0, Value.bool false, Value.string ⟨#[]⟩, Value.int .i64 0, Value.int .i64 0, Value.bool false, Value.int .i64 0]) (blk_put (cs' := #[v0, Value.int .i64 0, Value.string ⟨#[]⟩, Value.int .i64 0, Value.int .u32 0, Value.bool false, Value.bool false, Value.string ⟨#[]⟩, Value.slice none 0 0, Value.slice none 0 0, Value.bool false, Value.string ⟨#[]⟩, Value.int .i64 0, Value.int .i64 0, Value.bool false, Value.int .i64 0]) hk 0 v0 rfl) 1 v1 rfl) 2 v2 rfl) 3 v3 rfl) 4 v4 rfl) 5 v5 rfl) 6] at e; cases e) (p := ⟨g, 6, none⟩) (u := v6)) (fun x e => by rw [blk_cell (blk_put (cs' := #[v0, v1, v2, v3, v4, v5, v6, Value.string ⟨#[]⟩, Value.slice none 0 0, Value.slice none 0 0, Value.bool false, Value.string ⟨#[]⟩, Value.int .i64 0, Value.int .i64 0, Value.bool false, Value.int .i64 0]) (blk_put (cs' := #[v0, v1, v2, v3, v4, v5, Value.bool false, Value.string ⟨#[]⟩, Value.slice none 0 0, Value.slice none 0 0, Value.bool false, Value.string ⟨#[]⟩, Value.int .i64 0, Value.int .i64 0, Value.bool false, Value.int .i64 0]) (blk_put (cs' := #[v0, v1, v2, v3, v4, Value.bool false, Value.bool false, Value.string ⟨#[]⟩, Value.slice none 0 0, Value.slice none 0 0, Value.bool false, Value.string ⟨#[]⟩, Value.int .i64 0, Value.int .i64 0, Value.bool false, Value.int .i64 0]) (blk_put (cs' := #[v0, v1, v2, v3, Value.int .u32 0, Value.bool false, Value.bool false, Value.string ⟨#[]⟩, Value.slice none 0 0, Value.slice none 0 0, Value.bool false, Value.string ⟨#[]⟩, Value.int .i64 0, Value.int .i64 0, Value.bool false, Value.int .i64 0]) (blk_put (cs' := #[v0, v1, v2, Value.int .i64 0, Value.int .u32 0, Value.bool false, Value.bool false, Value.string ⟨#[]⟩, Value.slice none 0 0, Value.slice none 0 0, Value.bool false, Value.string ⟨#[]⟩, Value.int .i64 0, Value.int .i64 0, Value.bool false, Value.int .i64 0]) (blk_put (cs' := #[v0, v1, Value.string ⟨#[]⟩, Value.int .i64 0, Value.int .u32 0, Value.bool false, Value.bool false, Value.string ⟨#[]⟩, Value.slice none 0 0, Value.slice none 0 0, Value.bool false, Value.string ⟨#[]⟩, Value.int .i64 0, Value.int .i64 0, Value.bool false, Value.int .i64 0]) (blk_put (cs' := #[v0, Value.int .i64 0, Value.string ⟨#[]⟩, Value.int .i64 0, Value.int .u32 0, Value.bool false, Value.bool false, Value.string ⟨#[]⟩, Value.slice none 0 0, Value.slice none 0 0, Value.bool false, Value.string ⟨#[]⟩, Value.int .i64 0, Value.int .i64 0, Value.bool false, Value.int .i64 0]) hk 0 v0 rfl) 1 v1 rfl) 2 v2 rfl) 3 v3 rfl) 4 v4 rfl) 5 v5 rfl) 6 v6 rfl) 7] at e; cases e) (p := ⟨g, 7, none⟩) (u := v7)) (fun x e => by rw [blk_cell (blk_put (cs' := #[v0, v1, v2, v3, v4, v5, v6, v7, Value.slice none 0 0, Value.slice none 0 0, Value.bool false, Value.string ⟨#[]⟩, Value.int .i64 0, Value.int .i64 0, Value.bool false, Value.int .i64 0]) (blk_put (cs' := #[v0, v1, v2, v3, v4, v5, v6, Value.string ⟨#[]⟩, Value.slice none 0 0, Value.slice none 0 0, Value.bool false, Value.string ⟨#[]⟩, Value.int .i64 0, Value.int .i64 0, Value.bool false, Value.int .i64 0]) (blk_put (cs' := #[v0, v1, v2, v3, v4, v5, Value.bool false, Value.string ⟨#[]⟩, Value.slice none 0 0, Value.slice none 0 0, Value.bool false, Value.string ⟨#[]⟩, Value.int .i64 0, Value.int .i64 0, Value.bool false, Value.int .i64 0]) (blk_put (cs' := #[v0, v1, v2, v3, v4, Value.bool false, Value.bool false, Value.string ⟨#[]⟩, Value.slice none 0 0, Value.slice none 0 0, Value.bool false, Value.string ⟨#[]⟩, Value.int .i64 0, Value.int .i64 0, Value.bool false, Value.int .i64 0]) (blk_put (cs' := #[v0, v1, v2, v3, Value.int .u32 0, Value.bool false, Value.bool false, Value.string ⟨#[]⟩, Value.slice none 0 0, Value.slice none 0 0, Value.bool false, Value.string ⟨#[]⟩, Value.int .i64 0, Value.int .i64 0, Value.bool false, Value.int .i64 0]) (blk_put (cs' := #[v0, v1, v2, Value.int .i64 0, Value.int .u32 0, Value.bool false, Value.bool false, Value.string ⟨#[]⟩, Value.slice none 0 0, Value.slice none 0 0, Value.bool false, Value.string ⟨#[]⟩, Value.int .i64 0, Value.int .i64 0, Value.bool false, Value.int .i64 0]) (blk_put (cs' := #[v0, v1, Value.string ⟨#[]⟩, Value.int .i64 0, Value.int .u32 0, Value.bool false, Value.bool false, Value.string ⟨#[]⟩, Value.slice none 0 0, Value.slice none 0 0, Value.bool false, Value.string ⟨#[]⟩, Value.int .i64 0, Value.int .i64 0, Value.bool false, Value.int .i64 0]) (blk_put (cs' := #[v0, Value.int .i64 0, Value.string ⟨#[]⟩, Value.int .i64 0, Value.int .u32 0, Value.bool false, Value.bool false, Value.string ⟨#[]⟩, Value.slice none 0 0, Value.slice none 0 0, Value.bool false, Value.string ⟨#[]⟩, Value.int .i64 0, Value.int .i64 0, Value.bool false, Value.int .i64 0]) hk 0 v0 rfl) 1 v1 rfl) 2 v2 rfl) 3 v3 rfl) 4 v4 rfl) 5 v5 rfl) 6 v6 rfl) 7 v7 rfl) 8] at e; cases e) (p := ⟨g, 8, none⟩) (u := v8)) (fun x e => by rw [blk_cell (blk_put (cs' := #[v0, v1, v2, v3, v4, v5, v6, v7, v8, Value.slice none 0 0, Value.bool false, Value.string ⟨#[]⟩, Value.int .i64 0, Value.int .i64 0, Value.bool false, Value.int .i64 0]) (blk_put (cs' := #[v0, v1, v2, v3, v4, v5, v6, v7, Value.slice none 0 0, Value.slice none 0 0, Value.bool false, Value.string ⟨#[]⟩, Value.int .i64 0, Value.int .i64 0, Value.bool false, Value.int .i64 0]) (blk_put (cs' := #[v0, v1, v2, v3, v4, v5, v6, Value.string ⟨#[]⟩, Value.slice none 0 0, Value.slice none 0 0, Value.bool false, Value.string ⟨#[]⟩, Value.int .i64 0, Value.int .i64 0, Value.bool false, Value.int .i64 0]) (blk_put (cs' := #[v0, v1, v2, v3, v4, v5, Value.bool false, Value.string ⟨#[]⟩, Value.slice none 0 0, Value.slice none 0 0, Value.bool false, Value.string ⟨#[]⟩, Value.int .i64 0, Value.int .i64 0, Value.bool false, Value.int .i64 0]) (blk_put (cs' := #[v0, v1, v2, v3, v4, Value.bool false, Value.bool false, Value.string ⟨#[]⟩, Value.slice none 0 0, Value.slice none 0 0, Value.bool false, Value.string ⟨#[]⟩, Value.int .i64 0, Value.int .i64 0, Value.bool false, Value.int .i64 0]) (blk_put (cs' := #[v0, v1, v2, v3, Value.int .u32 0, Value.bool false, Value.bool false, Value.string ⟨#[]⟩, Value.slice none 0 0, Value.slice none 0 0, Value.bool false, Value.string ⟨#[]⟩, Value.int .i64 0, Value.int .i64 0, Value.bool false, Value.int .i64 0]) (blk_put (cs' := #[v0, v1, v2, Value.int .i64 0, Value.int .u32 0, Value.bool false, Value.bool false, Value.string ⟨#[]⟩, Value.slice none 0 0, Value.slice none 0 0, Value.bool false, Value.string ⟨#[]⟩, Value.int .i64 0, Value.int .i64 0, Value.bool false, Value.int .i64 0]) (blk_put (cs' := #[v0, v1, Value.string ⟨#[]⟩, Value.int .i64 0, Value.int .u32 0, Value.bool false, Value.bool false, Value.string ⟨#[]⟩, Value.slice none 0 0, Value.slice none 0 0, Value.bool false, Value.string ⟨#[]⟩, Value.int .i64 0, Value.int .i64 0, Value.bool false, Value.int .i64 0]) (blk_put (cs' := #[v0, Value.int .i64 0, Value.string ⟨#[]⟩, Value.int .i64 0, Value.int .u32 0, Value.bool false, Value.bool false, Value.string ⟨#[]⟩, Value.slice none 0 0, Value.slice none 0 0, Value.bool false, Value.string ⟨#[]⟩, Value.int .i64 0, Value.int .i64 0, Value.bool false, Value.int .i64 0]) hk 0 v0 rfl) 1 v1 rfl) 2 v2 rfl) 3 v3 rfl) 4 v4 rfl) 5 v5 rfl) 6 v6 rfl) 7 v7 rfl) 8 v8 rfl) 9] at e; cases e) (p := ⟨g, 9, none⟩) (u := v9)) (fun x e => by rw [blk_cell (blk_put (cs' := #[v0, v1, v2, v3, v4, v5, v6, v7, v8, v9, Value.bool false, Value.string ⟨#[]⟩, Value.int .i64 0, Value.int .i64 0, Value.bool false, Value.int .i64 0]) (blk_put (cs' := #[v0, v1, v2, v3, v4, v5, v6, v7, v8, Value.slice none 0 0, Value.bool false, Value.string ⟨#[]⟩, Value.int .i64 0, Value.int .i64 0, Value.bool false, Value.int .i64 0]) (blk_put (cs' := #[v0, v1, v2, v3, v4, v5, v6, v7, Value.slice none 0 0, Value.slice none 0 0, Value.bool false, Value.string ⟨#[]⟩, Value.int .i64 0, Value.int .i64 0, Value.bool false, Value.int .i64 0]) (blk_put (cs' := #[v0, v1, v2, v3, v4, v5, v6, Value.string ⟨#[]⟩, Value.slice none 0 0, Value.slice none 0 0, Value.bool false, Value.string ⟨#[]⟩, Value.int .i64 0, Value.int .i64 0, Value.bool false, Value.int .i64 0]) (blk_put (cs' := #[v0, v1, v2, v3, v4, v5, Value.bool false, Value.string ⟨#[]⟩, Value.slice none 0 0, Value.slice none 0 0, Value.bool false, Value.string ⟨#[]⟩, Value.int .i64 0, Value.int .i64 0, Value.bool false, Value.int .i64 0]) (blk_put (cs' := #[v0, v1, v2, v3, v4, Value.bool false, Value.bool false, Value.string ⟨#[]⟩, Value.slice none 0 0, Value.slice none 0 0, Value.bool false, Value.string ⟨#[]⟩, Value.int .i64 0, Value.int .i64 0, Value.bool false, Value.int .i64 0]) (blk_put (cs' := #[v0, v1, v2, v3, Value.int .u32 0, Value.bool false, Value.bool false, Value.string ⟨#[]⟩, Value.slice none 0 0, Value.slice none 0 0, Value.bool false, Value.string ⟨#[]⟩, Value.int .i64 0, Value.int .i64 0, Value.bool false, Value.int .i64 0]) (blk_put (cs' := #[v0, v1, v2, Value.int .i64 0, Value.int .u32 0, Value.bool false, Value.bool false, Value.string ⟨#[]⟩, Value.slice none 0 0, Value.slice none 0 0, Value.bool false, Value.string ⟨#[]⟩, Value.int .i64 0, Value.int .i64 0, Value.bool false, Value.int .i64 0]) (blk_put (cs' := #[v0, v1, Value.string ⟨#[]⟩, Value.int .i64 0, Value.int .u32 0, Value.bool false, Value.bool false, Value.string ⟨#[]⟩, Value.slice none 0 0, Value.slice none 0 0, Value.bool false, Value.string ⟨#[]⟩, Value.int .i64 0, Value.int .i64 0, Value.bool false, Value.int .i64 0]) (blk_put (cs' := #[v0, Value.int .i64 0, Value.string ⟨#[]⟩, Value.int .i64 0, Value.int .u32 0, Value.bool false, Value.bool false, Value.string ⟨#[]⟩, Value.slice none 0 0, Value.slice none 0 0, Value.bool false, Value.string ⟨#[]⟩, Value.int .i64 0, Value.int .i64 0, Value.bool false, Value.int .i64 0]) hk 0 v0 rfl) 1 v1 rfl) 2 v2 rfl) 3 v3 rfl) 4 v4 rfl) 5 v5 rfl) 6 v6 rfl) 7 v7 rfl) 8 v8 rfl) 9 v9 rfl) 10] at e; cases e) (p := ⟨g, 10, none⟩) (u := v10)) (fun x e => by rw [blk_cell (blk_put (cs' := #[v0, v1, v2, v3, v4, v5, v6, v7, v8, v9, v10, Value.string ⟨#[]⟩, Value.int .i64 0, Value.int .i64 0, Value.bool false, Value.int .i64 0]) (blk_put (cs' := #[v0, v1, v2, v3, v4, v5, v6, v7, v8, v9, Value.bool false, Value.string ⟨#[]⟩, Value.int .i64 0, Value.int .i64 0, Value.bool false, Value.int .i64 0]) (blk_put (cs' := #[v0, v1, v2, v3, v4, v5, v6, v7, v8, Value.slice none 0 0, Value.bool false, Value.string ⟨#[]⟩, Value.int .i64 0, Value.int .i64 0, Value.bool false, Value.int .i64 0]) (blk_put (cs' := #[v0, v1, v2, v3, v4, v5, v6, v7, Value.slice none 0 0, Value.slice none 0 0, Value.bool false, Value.string ⟨#[]⟩, Value.int .i64 0, Value.int .i64 0, Value.bool false, Value.int .i64 0]) (blk_put (cs' := #[v0, v1, v2, v3, v4, v5, v6, Value.string ⟨#[]⟩, Value.slice none 0 0, Value.slice none 0 0, Value.bool false, Value.string ⟨#[]⟩, Value.int .i64 0, Value.int .i64 0, Value.bool false, Value.int .i64 0]) (blk_put (cs' := #[v0, v1, v2, v3, v4, v5, Value.bool false, Value.string ⟨#[]⟩, Value.slice none 0 0, Value.slice none 0 0, Value.bool false, Value.string ⟨#[]⟩, Value.int .i64 0, Value.int .i64 0, Value.bool false, Value.int .i64 0]) (blk_put (cs' := #[v0, v1, v2, v3, v4, Value.bool false, Value.bool false, Value.string ⟨#[]⟩, Value.slice none 0 0, Value.slice none 0 0, Value.bool false, Value.string ⟨#[]⟩, Value.int .i64 0, Value.int .i64 0, Value.bool false, Value.int .i64 0]) (blk_put (cs' := #[v0, v1, v2, v3, Value.int .u32 0, Value.bool false, Value.bool false, Value.string ⟨#[]⟩, Value.slice none 0 0, Value.slice none 0 0, Value.bool false, Value.string ⟨#[]⟩, Value.int .i64 0, Value.int .i64 0, Value.bool false, Value.int .i64 0]) (blk_put (cs' := #[v0, v1, v2, Value.int .i64 0, Value.int .u32 0, Value.bool false, Value.bool false, Value.string ⟨#[]⟩, Value.slice none 0 0, Value.slice none 0 0, Value.bool false, Value.string ⟨#[]⟩, Value.int .i64 0, Value.int .i64 0, Value.bool false, Value.int .i64 0]) (blk_put (cs' := #[v0, v1, Value.string ⟨#[]⟩, Value.int .i64 0, Value.int .u32 0, Value.bool false, Value.bool false, Value.string ⟨#[]⟩, Value.slice none 0 0, Value.slice none 0 0, Value.bool false, Value.string ⟨#[]⟩, Value.int .i64 0, Value.int .i64 0, Value.bool false, Value.int .i64 0]) (blk_put (cs' := #[v0, Value.int .i64 0, Value.string ⟨#[]⟩, Value.int .i64 0, Value.int .u32 0, Value.bool false, Value.bool false, Value.string ⟨#[]⟩, Value.slice none 0 0, Value.slice none 0 0, Value.bool false, Value.string ⟨#[]⟩, Value.int .i64 0, Value.int .i64 0, Value.bool false, Value.int .i64 0]) hk 0 v0 rfl) 1 v1 rfl) 2 v2 rfl) 3 v3 rfl) 4 v4 rfl) 5 v5 rfl) 6 v6 rfl) 7 v7 rfl) 8 v8 rfl) 9 v9 rfl) 10 v10 rfl) 11] at e; cases e) (p := ⟨g, 11, none⟩) (u := v11)) (fun x e => by rw [blk_cell (blk_put (cs' := #[v0, v1, v2, v3, v4, v5, v6, v7, v8, v9, v10, v11, Value.int .i64 0, Value.int .i64 0, Value.bool false, Value.int .i64 0]) (blk_put (cs' := #[v0, v1, v2, v3, v4, v5, v6, v7, v8, v9, v10, Value.string ⟨#[]⟩, Value.int .i64 0, Value.int .i64 0, Value.bool false, Value.int .i64 0]) (blk_put (cs' := #[v0, v1, v2, v3, v4, v5, v6, v7, v8, v9, Value.bool false, Value.string ⟨#[]⟩, Value.int .i64 0, Value.int .i64 0, Value.bool false, Value.int .i64 0]) (blk_put (cs' := #[v0, v1, v2, v3, v4, v5, v6, v7, v8, Value.slice none 0 0, Value.bool false, Value.string ⟨#[]⟩, Value.int .i64 0, Value.int .i64 0, Value.bool false, Value.int .i64 0]) (blk_put (cs' := #[v0, v1, v2, v3, v4, v5, v6, v7, Value.slice none 0 0, Value.slice none 0 0, Value.bool false, Value.string ⟨#[]⟩, Value.int .i64 0, Value.int .i64 0, Value.bool false, Value.int .i64 0]) (blk_put (cs' := #[v0, v1, v2, v3, v4, v5, v6, Value.string ⟨#[]⟩, Value.slice none 0 0, Value.slice none 0 0, Value.bool false, Value.string ⟨#[]⟩, Value.int .i64 0, Value.int .i64 0, Value.bool false, Value.int .i64 0]) (blk_put (cs' := #[v0, v1, v2, v3, v4, v5, Value.bool false, Value.string ⟨#[]⟩, Value.slice none 0 0, Value.slice none 0 0, Value.bool false, Value.string ⟨#[]⟩, Value.int .i64 0, Value.int .i64 0, Value.bool false, Value.int .i64 0]) (blk_put (cs' := #[v0, v1, v2, v3, v4, Value.bool false, Value.bool false, Value.string ⟨#[]⟩, Value.slice none 0 0, Value.slice none 0 0, Value.bool false, Value.string ⟨#[]⟩, Value.int .i64 0, Value.int .i64 0, Value.bool false, Value.int .i64 0]) (blk_put (cs' := #[v0, v1, v2, v3, Value.int .u32 0, Value.bool false, Value.bool false, Value.string ⟨#[]⟩, Value.slice none 0 0, Value.slice none 0 0, Value.bool false, Value.string ⟨#[]⟩, Value.int .i64 0, Value.int .i64 0, Value.bool false, Value.int .i64 0]) (blk_put (cs' := #[v0, v1, v2, Value.int .i64 0, Value.int .u32 0, Value.bool false, Value.bool false, Value.string ⟨#[]⟩, Value.slice none 0 0, Value.slice none 0 0, Value.bool false, Value.string ⟨#[]⟩, Value.int .i64 0, Value.int .i64 0, Value.bool false, Value.int .i64 0]) (blk_put (cs' := #[v0, v1, Value.string ⟨#[]⟩, Value.int .i64 0, Value.int .u32 0, Value.bool false, Value.bool false, Value.string ⟨#[]⟩, Value.slice none 0 0, Value.slice none 0 0, Value.bool false, Value.string ⟨#[]⟩, Value.int .i64 0, Value.int .i64 0, Value.bool false, Value.int .i64 0]) (blk_put (cs' := #[v0, Value.int .i64 0, Value.string ⟨#[]⟩, Value.int .i64 0, Value.int .u32 0, Value.bool false, Value.bool false, Value.string ⟨#[]⟩, Value.slice none 0 0, Value.slice none 0 0, Value.bool false, Value.string ⟨#[]⟩, Value.int .i64 0, Value.int .i64 0, Value.bool false, Value.int .i64 0]) hk 0 v0 rfl) 1 v1 rfl) 2 v2 rfl) 3 v3 rfl) 4 v4 rfl) 5 v5 rfl) 6 v6 rfl) 7 v7 rfl) 8 v8 rfl) 9 v9 rfl) 10 v10 rfl) 11 v11 rfl) 12] at e; cases e) (p := ⟨g, 12, none⟩) (u := v12)) (fun x e => by rw [blk_cell (blk_put (cs' := #[v0, v1, v2, v3, v4, v5, v6, v7, v8, v9, v10, v11, v12, Value.int .i64 0, Value.bool false, Value.int .i64 0]) (blk_put (cs' := #[v0, v1, v2, v3, v4, v5, v6, v7, v8, v9, v10, v11, Value.int .i64 0, Value.int .i64 0, Value.bool false, Value.int .i64 0]) (blk_put (cs' := #[v0, v1, v2, v3, v4, v5, v6, v7, v8, v9, v10, Value.string ⟨#[]⟩, Value.int .i64 0, Value.int .i64 0, Value.bool false, Value.int .i64 0]) (blk_put (cs' := #[v0, v1, v2, v3, v4, v5, v6, v7, v8, v9, Value.bool false, Value.string ⟨#[]⟩, Value.int .i64 0, Value.int .i64 0, Value.bool false, Value.int .i64 0]) (blk_put (cs' := #[v0, v1, v2, v3, v4, v5, v6, v7, v8, Value.slice none 0 0, Value.bool false, Value.string ⟨#[]⟩, Value.int .i64 0, Value.int .i64 0, Value.bool false, Value.int .i64 0]) (blk_put (cs' := #[v0, v1, v2, v3, v4, v5, v6, v7, Value.slice none 0 0, Value.slice none 0 0, Value.bool false, Value.string ⟨#[]⟩, Value.int .i64 0, Value.int .i64 0, Value.bool false, Value.int .i64 0]) (blk_put (cs' := #[v0, v1, v2, v3, v4, v5, v6, Value.string ⟨#[]⟩, Value.slice none 0 0, Value.slice none 0 0, Value.bool false, Value.string ⟨#[]⟩, Value.int .i64 0, Value.int .i64 0, Value.bool false, Value.int .i64 0]) (blk_put (cs' := #[v0, v1, v2, v3, v4, v5, Value.bool false, Value.string ⟨#[]⟩, Value.slice none 0 0, Value.slice none 0 0, Value.bool false, Value.string ⟨#[]⟩, Value.int .i64 0, Value.int .i64 0, Value.bool false, Value.int .i64 0]) (blk_put (cs' := #[v0, v1, v2, v3, v4, Value.bool false, Value.bool false, Value.string ⟨#[]⟩, Value.slice none 0 0, Value.slice none 0 0, Value.bool false, Value.string ⟨#[]⟩, Value.int .i64 0, Value.int .i64 0, Value.bool false, Value.int .i64 0]) (blk_put (cs' := #[v0, v1, v2, v3, Value.int .u32 0, Value.bool false, Value.bool false, Value.string ⟨#[]⟩, Value.slice none 0 0, Value.slice none 0 0, Value.bool false, Value.string ⟨#[]⟩, Value.int .i64 0, Value.int .i64 0, Value.bool false, Value.int .i64 0]) (blk_put (cs' := #[v0, v1, v2, Value.int .i64 0, Value.int .u32 0, Value.bool false, Value.bool false, Value.string ⟨#[]⟩, Value.slice none 0 0, Value.slice none 0 0, Value.bool false, Value.string ⟨#[]⟩, Value.int .i64 0, Value.int .i64 0, Value.bool false, Value.int .i64 0]) (blk_put (cs' := #[v0, v1, Value.string ⟨#[]⟩, Value.int .i64 0, Value.int .u32 0, Value.bool false, Value.bool false, Value.string ⟨#[]⟩, Value.slice none 0 0, Value.slice none 0 0, Value.bool false, Value.string ⟨#[]⟩, Value.int .i64 0, Value.int .i64 0, Value.bool false, Value.int .i64 0]) (blk_put (cs' := #[v0, Value.int .i64 0, Value.string ⟨#[]⟩, Value.int .i64 0, Value.int .u32 0, Value.bool false, Value.bool false, Value.string ⟨#[]⟩, Value.slice none 0 0, Value.slice none 0 0, Value.bool false, Value.string ⟨#[]⟩, Value.int .i64 0, Value.int .i64 0, Value.bool false, Value.int .i64 0]) hk 0 v0 rfl) 1 v1 rfl) 2 v2 rfl) 3 v3 rfl) 4 v4 rfl) 5 v5 rfl) 6 v6 rfl) 7 v7 rfl) 8 v8 rfl) 9 v9 rfl) 10 v10 rfl) 11 v11 rfl) 12 v12 rfl) 13] at e; cases e) (p := ⟨g, 13, none⟩) (u := v13)) (fun x e => by rw [blk_cell (blk_put (cs' := #[v0, v1, v2, v3, v4, v5, v6, v7, v8, v9, v10, v11, v12, v13, Value.bool false, Value.int .i64 0]) (blk_put (cs' := #[v0, v1, v2, v3, v4, v5, v6, v7, v8, v9, v10, v11, v12, Value.int .i64 0, Value.bool false, Value.int .i64 0]) (blk_put (cs' := #[v0, v1, v2, v3, v4, v5, v6, v7, v8, v9, v10, v11, Value.int .i64 0, Value.int .i64 0, Value.bool false, Value.int .i64 0]) (blk_put (cs' := #[v0, v1, v2, v3, v4, v5, v6, v7, v8, v9, v10, Value.string ⟨#[]⟩, Value.int .i64 0, Value.int .i64 0, Value.bool false, Value.int .i64 0]) (blk_put (cs' := #[v0, v1, v2, v3, v4, v5, v6, v7, v8, v9, Value.bool false, Value.string ⟨#[]⟩, Value.int .i64 0, Value.int .i64 0, Value.bool false, Value.int .i64 0]) (blk_put (cs' := #[v0, v1, v2, v3, v4, v5, v6, v7, v8, Value.slice none 0 0, Value.bool false, Value.string ⟨#[]⟩, Value.int .i64 0, Value.int .i64 0, Value.bool false, Value.int .i64 0]) (blk_put (cs' := #[v0, v1, v2, v3, v4, v5, v6, v7, Value.slice none 0 0, Value.slice none 0 0, Value.bool false, Value.string ⟨#[]⟩, Value.int .i64 0, Value.int .i64 0, Value.bool false, Value.int .i64 0]) (blk_put (cs' := #[v0, v1, v2, v3, v4, v5, v6, Value.string ⟨#[]⟩, Value.slice none 0 0, Value.slice none 0 0, Value.bool false, Value.string ⟨#[]⟩, Value.int .i64 0, Value.int .i64 0, Value.bool false, Value.int .i64 0]) (blk_put (cs' := #[v0, v1, v2, v3, v4, v5, Value.bool false, Value.string ⟨#[]⟩, Value.slice none 0 0, Value.slice none 0 0, Value.bool false, Value.string ⟨#[]⟩, Value.int .i64 0, Value.int .i64 0, Value.bool false, Value.int .i64 0]) (blk_put (cs' := #[v0, v1, v2, v3, v4, Value.bool false, Value.bool false, Value.string ⟨#[]⟩, Value.slice none 0 0, Value.slice none 0 0, Value.bool false, Value.string ⟨#[]⟩, Value.int .i64 0, Value.int .i64 0, Value.bool false, Value.int .i64 0]) (blk_put (cs' := #[v0, v1, v2, v3, Value.int .u32 0, Value.bool false, Value.bool false, Value.string ⟨#[]⟩, Value.slice none 0 0, Value.slice none 0 0, Value.bool false, Value.string ⟨#[]⟩, Value.int .i64 0, Value.int .i64 0, Value.bool false, Value.int .i64 0]) (blk_put (cs' := #[v0, v1, v2, Value.int .i64 0, Value.int .u32 0, Value.bool false, Value.bool false, Value.string ⟨#[]⟩, Value.slice none 0 0, Value.slice none 0 0, Value.bool false, Value.string ⟨#[]⟩, Value.int .i64 0, Value.int .i64 0, Value.bool false, Value.int .i64 0]) (blk_put (cs' := #[v0, v1, Value.string ⟨#[]⟩, Value.int .i64 0, Value.int .u32 0, Value.bool false, Value.bool false, Value.string ⟨#[]⟩, Value.slice none 0 0, Value.slice none 0 0, Value.bool false, Value.string ⟨#[]⟩, Value.int .i64 0, Value.int .i64 0, Value.bool false, Value.int .i64 0]) (blk_put (cs' := #[v0, Value.int .i64 0, Value.string ⟨#[]⟩, Value.int .i64 0, Value.int .u32 0, Value.bool false, Value.bool false, Value.string ⟨#[]⟩, Value.slice none 0 0, Value.slice none 0 0, Value.bool false, Value.string ⟨#[]⟩, Value.int .i64 0, Value.int .i64 0, Value.bool false, Value.int .i64 0]) hk 0 v0 rfl) 1 v1 rfl) 2 v2 rfl) 3 v3 rfl) 4 v4 rfl) 5 v5 rfl) 6 v6 rfl) 7 v7 rfl) 8 v8 rfl) 9 v9 rfl) 10 v10 rfl) 11 v11 rfl) 12 v12 rfl) 13 v13 rfl) 14] at e; cases e) (p := ⟨g, 14, none⟩) (u := v14)) (fun x e => by rw [blk_cell (blk_put (cs' := #[v0, v1, v2, v3, v4, v5, v6, v7, v8, v9, v10, v11, v12, v13, v14, Value.int .i64 0]) (blk_put (cs' := #[v0, v1, v2, v3, v4, v5, v6, v7, v8, v9, v10, v11, v12, v13, Value.bool false, Value.int .i64 0]) (blk_put (cs' := #[v0, v1, v2, v3, v4, v5, v6, v7, v8, v9, v10, v11, v12, Value.int .i64 0, Value.bool false, Value.int .i64 0]) (blk_put (cs' := #[v0, v1, v2, v3, v4, v5, v6, v7, v8, v9, v10, v11, Value.int .i64 0, Value.int .i64 0, Value.bool false, Value.int .i64 0]) (blk_put (cs' := #[v0, v1, v2, v3, v4, v5, v6, v7, v8, v9, v10, Value.string ⟨#[]⟩, Value.int .i64 0, Value.int .i64 0, Value.bool false, Value.int .i64 0]) (blk_put (cs' := #[v0, v1, v2, v3, v4, v5, v6, v7, v8, v9, Value.bool false, Value.string ⟨#[]⟩, Value.int .i64 0, Value.int .i64 0, Value.bool false, Value.int .i64 0]) (blk_put (cs' := #[v0, v1, v2, v3, v4, v5, v6, v7, v8, Value.slice none 0 0, Value.bool false, Value.string ⟨#[]⟩, Value.int .i64 0, Value.int .i64 0, Value.bool false, Value.int .i64 0]) (blk_put (cs' := #[v0, v1, v2, v3, v4, v5, v6, v7, Value.slice none 0 0, Value.slice none 0 0, Value.bool false, Value.string ⟨#[]⟩, Value.int .i64 0, Value.int .i64 0, Value.bool false, Value.int .i64 0]) (blk_put (cs' := #[v0, v1, v2, v3, v4, v5, v6, Value.string ⟨#[]⟩, Value.slice none 0 0, Value.slice none 0 0, Value.bool false, Value.string ⟨#[]⟩, Value.int .i64 0, Value.int .i64 0, Value.bool false, Value.int .i64 0]) (blk_put (cs' := #[v0, v1, v2, v3, v4, v5, Value.bool false, Value.string ⟨#[]⟩, Value.slice none 0 0, Value.slice none 0 0, Value.bool false, Value.string ⟨#[]⟩, Value.int .i64 0, Value.int .i64 0, Value.bool false, Value.int .i64 0]) (blk_put (cs' := #[v0, v1, v2, v3, v4, Value.bool false, Value.bool false, Value.string ⟨#[]⟩, Value.slice none 0 0, Value.slice none 0 0, Value.bool false, Value.string ⟨#[]⟩, Value.int .i64 0, Value.int .i64 0, Value.bool false, Value.int .i64 0]) (blk_put (cs' := #[v0, v1, v2, v3, Value.int .u32 0, Value.bool false, Value.bool false, Value.string ⟨#[]⟩, Value.slice none 0 0, Value.slice none 0 0, Value.bool false, Value.string ⟨#[]⟩, Value.int .i64 0, Value.int .i64 0, Value.bool false, Value.int .i64 0]) (blk_put (cs' := #[v0, v1, v2, Value.int .i64 0, Value.int .u32 0, Value.bool false, Value.bool false, Value.string ⟨#[]⟩, Value.slice none 0 0, Value.slice none 0 0, Value.bool false, Value.string ⟨#[]⟩, Value.int .i64 0, Value.int .i64 0, Value.bool false, Value.int .i64 0]) (blk_put (cs' := #[v0, v1, Value.string ⟨#[]⟩, Value.int .i64 0, Value.int .u32 0, Value.bool false, Value.bool false, Value.string ⟨#[]⟩, Value.slice none 0 0, Value.slice none 0 0, Value.bool false, Value.string ⟨#[]⟩, Value.int .i64 0, Value.int .i64 0, Value.bool false, Value.int .i64 0]) (blk_put (cs' := #[v0, Value.int .i64 0, Value.string ⟨#[]⟩, Value.int .i64 0, Value.int .u32 0, Value.bool false, Value.bool false, Value.string ⟨#[]⟩, Value.slice none 0 0, Value.slice none 0 0, Value.bool false, Value.string ⟨#[]⟩, Value.int .i64 0, Value.int .i64 0, Value.bool false, Value.int .i64 0]) hk 0 v0 rfl) 1 v1 rfl) 2 v2 rfl) 3 v3 rfl) 4 v4 rfl) 5 v5 rfl) 6 v6 rfl) 7 v7 rfl) 8 v8 rfl) 9 v9 rfl) 10 v10 rfl) 11 v11 rfl) 12 v12 rfl) 13 v13 rfl) 14 v14 rfl) 15] at e; cases e) (p := ⟨g, 15, none⟩) (u := v15))
theorem cmdAt_set16 {W : World} {g : Nat} {v : Value} {m : Option Cm} (h : CmdAt W v m) (hk : W.heap[g]? = some (.cells #[Value.slice none 0 0, Value.int .i64 0, Value.string ⟨#[]⟩, Value.int .i64 0, Value.int .u32 0, Value.bool false, Value.bool false, Value.string ⟨#[]⟩, Value.slice none 0 0, Value.slice none 0 0, Value.bool false, Value.string ⟨#[]⟩, Value.int .i64 0, Value.int .i64 0, Value.bool false, Value.int .i64 0] 34 (0, 0))) (v0 v1 v2 v3 v4 v5 v6 v7 v8 v9 v10 v11 v12 v13 v14 v15 : Value) : CmdAt (set16 W g v0 v1 v2 v3 v4 v5 v6 v7 v8 v9 v10 v11 v12 v13 v14 v15) v m := by
  generalize hW : set16 W g v0 v1 v2 v3 v4 v5 v6 v7 v8 v9 v10 v11 v12 v13 v14 v15 = W'
  cases m with
  | none => exact h
  | some m =>
    obtain ⟨b, A, c, h1, h2, h3, h4⟩ := h
    exact ⟨b, A, c, h1, hW ▸ set16_far h2 (blk_ne h2 hk (by decide)) v0 v1 v2 v3 v4 v5 v6 v7 v8 v9 v10 v11 v12 v13 v14 v15, hW ▸ C_set16 h3 hk v0 v1 v2 v3 v4 v5 v6 v7 v8 v9 v10 v11 v12 v13 v14 v15, h4⟩
theorem keyAt_set16 {W : World} {g : Nat} {v : Value} {m : Option ByteArray} (h : KeyAt W v m) (hk : W.heap[g]? = some (.cells #[Value.slice none 0 0, Value.int .i64 0, Value.string ⟨#[]⟩, Value.int .i64 0, Value.int .u32 0, Value.bool false, Value.bool false, Value.string ⟨#[]⟩, Value.slice none 0 0, Value.slice none 0 0, Value.bool false, Value.string ⟨#[]⟩, Value.int .i64 0, Value.int .i64 0, Value.bool false, Value.int .i64 0] 34 (0, 0))) (v0 v1 v2 v3 v4 v5 v6 v7 v8 v9 v10 v11 v12 v13 v14 v15 : Value) : KeyAt (set16 W g v0 v1 v2 v3 v4 v5 v6 v7 v8 v9 v10 v11 v12 v13 v14 v15) v m := by
  generalize hW : set16 W g v0 v1 v2 v3 v4 v5 v6 v7 v8 v9 v10 v11 v12 v13 v14 v15 = W'
  cases m with
  | none => exact h
  | some m =>
    obtain ⟨b, h1, h2⟩ := h
    exact ⟨b, h1, hW ▸ set16_far h2 (blk_ne h2 hk (by decide)) v0 v1 v2 v3 v4 v5 v6 v7 v8 v9 v10 v11 v12 v13 v14 v15⟩
theorem CmdAt.below {W W1 : World} {v : Value} {m : Option Cm} (h : CmdAt W v m) (hb : Below W.heap.size W W1) : CmdAt W1 v m := by
  cases m with
  | none => exact h
  | some m =>
    obtain ⟨b, A, c, h1, h2, h3, h4⟩ := h
    exact ⟨b, A, c, h1, blk_any hb h2, Kd.C_below h3 hb, h4⟩
theorem KeyAt.below {W W1 : World} {v : Value} {m : Option ByteArray} (h : KeyAt W v m) (hb : Below W.heap.size W W1) : KeyAt W1 v m := by
  cases m with
  | none => exact h
  | some m =>
    obtain ⟨b, h1, h2⟩ := h
    exact ⟨b, h1, blk_any hb h2⟩
theorem CmdAt.slice {W : World} {v : Value} {m : Option Cm} (h : CmdAt W v m) : ∃ a n c, v = .slice a n c := by
  cases m with
  | none => exact ⟨_, _, _, h⟩
  | some m =>
    obtain ⟨b, A, c, h1, _⟩ := h
    exact ⟨_, _, _, h1⟩
theorem KeyAt.slice {W : World} {v : Value} {m : Option ByteArray} (h : KeyAt W v m) : ∃ a n c, v = .slice a n c := by
  cases m with
  | none => exact ⟨_, _, _, h⟩
  | some m =>
    obtain ⟨b, h1, _⟩ := h
    exact ⟨_, _, _, h1⟩
theorem StepAt.below {W W1 : World} {v : Value} {s : St} (h : StepAt W v s) (hb : Below W.heap.size W W1) : StepAt W1 v s := by
  obtain ⟨cv, kv, h1, h2, h3⟩ := h
  exact ⟨cv, kv, h1, h2.below hb, h3.below hb⟩
set_option maxHeartbeats 8000000 in
set_option maxRecDepth 100000 in
theorem parse_big (A0 : Option Addr) (c0 : Nat) (l0 : List Int) (w : World) (hr0 : Kd.C (Kd.int .u8) w A0 l0.length l0) (hc0 : l0.length ≤ c0) (hb : ∀ x ∈ l0, 0 ≤ x ∧ x ≤ 255) (h : 24 ≤ l0.length) (h1 : rd l0 0 = 128) (hz : 2048 < be (cut l0 8 12)) : Calls Try.prog 11 #[.slice A0 l0.length c0] w fun e w' => e = .returned (badV ⟨#[]⟩ 0 9) ∧ Below w.heap.size w w' := by
  have hu34 := Try.underlying34
  have hu31 := Try.underlying31
  have hu29 := Try.underlying29
  have hu53 := Try.underlying53
  have hu22 := Try.underlying22
  obtain ⟨ad, hA, hcell⟩ := Kd.at_int hr0 0 (by omega) (by omega)
  have ha0 : ad.add (0 : Int).toNat = ad := by simp [Addr.add]
  rw [ha0] at hcell
  subst hA
  have hp : (0 : Int) < (l0.length : Int) := by omega
  have hp2 : ((l0.length : Int) == 0) = false := beq_eq_false_iff_ne.mpr (by omega)
  have hcA : ∀ o : Obj, (w.alloc o).cell? ad = some (.int .u8 (rd l0 0)) := fun o => pw_cell_below (below_alloc (Below.refl _ _) o) hcell
  have hx : (rd l0 0 != 128) = false := bne_eq_false_iff_eq.mpr h1
  have hd : decide (l0.length < 24) = false := decide_eq_false (by omega)
  have hd2 : decide ((l0.length : Int) < 24) = false := decide_eq_false (by omega)
  obtain ⟨A8, hs8, hC8⟩ := cutC (some ad) c0 l0 8 12 (by omega) (by omega) hc0
  replace hs8 : ∀ W : World, (Instr.slice 22 (.slice (some ad) l0.length c0) (some (.int .i64 8)) (some (.int .i64 12)) none).run Try.prog W = .ok (.slice A8 4 (c0 - 8)) W := hs8
  have HG8 := Aside0.mk (fun W hB => getC A8 4 (c0 - 8) (cut l0 8 12) (cut_bytes 8 12 hb) (cut_len l0 8 12 (by omega)) (by omega) (by omega) w W hB (hC8 w hr0))
  have hz8 := be_range (cut l0 8 12) (cut_bytes 8 12 hb)
  rw [cut_len l0 8 12 (by omega)] at hz8
  obtain ⟨hy8, hq8⟩ := hz8
  have hx8 : be (cut l0 8 12) < 4294967296 := hq8
  clear hq8 hC8
  clear hr0 h1 ha0 hcell hb
  generalize be (cut l0 8 12) = z at *
  have r1 : decide (z > 2048) = true := decide_eq_true hz
  have w1 : wrap64 z = z := by clear r1; unfold wrap64; omega
  have w2 : wrap64 (24 + z) = 24 + z := by clear r1 w1; unfold wrap64; omega
  clear hz
  generalize l0.length = n0 at *
  go_enter Try.func11, Try.ntmps11
  go_wp2_with (first | (go_at_call 18; (with_reducible refine (HG8.out _ ?_).mono ?_); (repeat (with_reducible first | exact Below.refl _ _ | apply below_alloc | apply below_drew | apply pw_below_drewN | refine below_set ?_ (by omega))); rintro e w' ⟨rfl, ⟨m, rfl⟩⟩))
  clear r1 w1 w2
  refine gen_world (fun W' => W'.heap[w.heap.size]? = some (.cells #[Value.slice none 0 0, Value.int .i64 0, Value.string ⟨#[]⟩, Value.int .i64 0, Value.int .u32 0, Value.bool false, Value.bool false, Value.string ⟨#[]⟩, Value.slice none 0 0, Value.slice none 0 0, Value.bool false, Value.string ⟨#[]⟩, Value.int .i64 0, Value.int .i64 0, Value.bool false, Value.int .i64 9] 34 (0, 0)) ∧ Below w.heap.size w W') ⟨set16_blk (blk_drewN (blk_new w _) _) (Value.slice none 0 0) (Value.int .i64 0) (Value.string ⟨#[]⟩) (Value.int .i64 0) (Value.int .u32 0) (Value.bool false) (Value.bool false) (Value.string ⟨#[]⟩) (Value.slice none 0 0) (Value.slice none 0 0) (Value.bool false) (Value.string ⟨#[]⟩) (Value.int .i64 0) (Value.int .i64 0) (Value.bool false) (Value.int .i64 9), set16_below (pw_below_drewN (below_alloc (Below.refl _ _) _) _) (Nat.le_refl _) (Value.slice none 0 0) (Value.int .i64 0) (Value.string ⟨#[]⟩) (Value.int .i64 0) (Value.int .u32 0) (Value.bool false) (Value.bool false) (Value.string ⟨#[]⟩) (Value.slice none 0 0) (Value.slice none 0 0) (Value.bool false) (Value.string ⟨#[]⟩) (Value.int .i64 0) (Value.int .i64 0) (Value.bool false) (Value.int .i64 9)⟩ ?_
  rintro W9 ⟨kr, hB9⟩
  refine bodyPost_ret (v := badV ⟨#[]⟩ 0 9) (results_cell_row rfl _ _ w.heap.size 34 _ (0, 0) _ rfl kr Try.underlying34 rfl (by kernel_rfl)) rfl ?_
  exact ⟨rfl, hB9⟩
set_option maxHeartbeats 8000000 in
set_option maxRecDepth 100000 in
theorem parse_wait (A0 : Option Addr) (c0 : Nat) (l0 : List Int) (w : World) (hr0 : Kd.C (Kd.int .u8) w A0 l0.length l0) (hc0 : l0.length ≤ c0) (hb : ∀ x ∈ l0, 0 ≤ x ∧ x ≤ 255) (h : 24 ≤ l0.length) (h1 : rd l0 0 = 128) (hz : ¬ 2048 < be (cut l0 8 12)) (hw : (l0.length : Int) < 24 + be (cut l0 8 12)) : Calls Try.prog 11 #[.slice A0 l0.length c0] w fun e w' => e = .returned (badV ⟨#[]⟩ 0 3) ∧ Below w.heap.size w w' := by
  have hu34 := Try.underlying34
  have hu31 := Try.underlying31
  have hu29 := Try.underlying29
  have hu53 := Try.underlying53
  have hu22 := Try.underlying22
  obtain ⟨ad, hA, hcell⟩ := Kd.at_int hr0 0 (by omega) (by omega)
  have ha0 : ad.add (0 : Int).toNat = ad := by simp [Addr.add]
  rw [ha0] at hcell
  subst hA
  have hp : (0 : Int) < (l0.length : Int) := by omega
  have hp2 : ((l0.length : Int) == 0) = false := beq_eq_false_iff_ne.mpr (by omega)
  have hcA : ∀ o : Obj, (w.alloc o).cell? ad = some (.int .u8 (rd l0 0)) := fun o => pw_cell_below (below_alloc (Below.refl _ _) o) hcell
  have hx : (rd l0 0 != 128) = false := bne_eq_false_iff_eq.mpr h1
  have hd : decide (l0.length < 24) = false := decide_eq_false (by omega)
  have hd2 : decide ((l0.length : Int) < 24) = false := decide_eq_false (by omega)
  obtain ⟨A8, hs8, hC8⟩ := cutC (some ad) c0 l0 8 12 (by omega) (by omega) hc0
  replace hs8 : ∀ W : World, (Instr.slice 22 (.slice (some ad) l0.length c0) (some (.int .i64 8)) (some (.int .i64 12)) none).run Try.prog W = .ok (.slice A8 4 (c0 - 8)) W := hs8
  have HG8 := Aside0.mk (fun W hB => getC A8 4 (c0 - 8) (cut l0 8 12) (cut_bytes 8 12 hb) (cut_len l0 8 12 (by omega)) (by omega) (by omega) w W hB (hC8 w hr0))
  have hz8 := be_range (cut l0 8 12) (cut_bytes 8 12 hb)
  rw [cut_len l0 8 12 (by omega)] at hz8
  obtain ⟨hy8, hq8⟩ := hz8
  have hx8 : be (cut l0 8 12) < 4294967296 := hq8
  clear hq8 hC8
  clear hr0 h1 ha0 hcell hb
  generalize be (cut l0 8 12) = z at *
  have r1 : decide (z > 2048) = false := decide_eq_false hz
  have r2 : decide ((l0.length : Int) < 24 + z) = true := decide_eq_true hw
  have w1 : wrap64 z = z := by clear r1; unfold wrap64; omega
  have w2 : wrap64 (24 + z) = 24 + z := by clear r1 w1; unfold wrap64; omega
  clear hz
  generalize l0.length = n0 at *
  go_enter Try.func11, Try.ntmps11
  go_wp2_with (first | (go_at_call 18; (with_reducible refine (HG8.out _ ?_).mono ?_); (repeat (with_reducible first | exact Below.refl _ _ | apply below_alloc | apply below_drew | apply pw_below_drewN | refine below_set ?_ (by omega))); rintro e w' ⟨rfl, ⟨m, rfl⟩⟩))
  clear r1 w1 w2 r2
  refine gen_world (fun W' => W'.heap[w.heap.size]? = some (.cells #[Value.slice none 0 0, Value.int .i64 0, Value.string ⟨#[]⟩, Value.int .i64 0, Value.int .u32 0, Value.bool false, Value.bool false, Value.string ⟨#[]⟩, Value.slice none 0 0, Value.slice none 0 0, Value.bool false, Value.string ⟨#[]⟩, Value.int .i64 0, Value.int .i64 0, Value.bool false, Value.int .i64 3] 34 (0, 0)) ∧ Below w.heap.size w W') ⟨set16_blk (blk_drewN (blk_new w _) _) (Value.slice none 0 0) (Value.int .i64 0) (Value.string ⟨#[]⟩) (Value.int .i64 0) (Value.int .u32 0) (Value.bool false) (Value.bool false) (Value.string ⟨#[]⟩) (Value.slice none 0 0) (Value.slice none 0 0) (Value.bool false) (Value.string ⟨#[]⟩) (Value.int .i64 0) (Value.int .i64 0) (Value.bool false) (Value.int .i64 3), set16_below (pw_below_drewN (below_alloc (Below.refl _ _) _) _) (Nat.le_refl _) (Value.slice none 0 0) (Value.int .i64 0) (Value.string ⟨#[]⟩) (Value.int .i64 0) (Value.int .u32 0) (Value.bool false) (Value.bool false) (Value.string ⟨#[]⟩) (Value.slice none 0 0) (Value.slice none 0 0) (Value.bool false) (Value.string ⟨#[]⟩) (Value.int .i64 0) (Value.int .i64 0) (Value.bool false) (Value.int .i64 3)⟩ ?_
  rintro W9 ⟨kr, hB9⟩
  refine bodyPost_ret (v := badV ⟨#[]⟩ 0 3) (results_cell_row rfl _ _ w.heap.size 34 _ (0, 0) _ rfl kr Try.underlying34 rfl (by kernel_rfl)) rfl ?_
  exact ⟨rfl, hB9⟩
set_option maxHeartbeats 8000000 in
set_option maxRecDepth 100000 in
theorem parse_full (A0 : Option Addr) (c0 : Nat) (l0 : List Int) (w : World) (hr0 : Kd.C (Kd.int .u8) w A0 l0.length l0) (hc0 : l0.length ≤ c0) (hb : ∀ x ∈ l0, 0 ≤ x ∧ x ≤ 255) (h : 24 ≤ l0.length) (h1 : rd l0 0 = 128) (hz : ¬ 2048 < be (cut l0 8 12)) (hw : ¬ (l0.length : Int) < 24 + be (cut l0 8 12)) (s : St)
    (HREQ : ∀ (B : Option Addr) (W : World), Below w.heap.size w W → Kd.C (Kd.int .u8) W B (cut l0 24 (24 + (be (cut l0 8 12)).toNat)).length (cut l0 24 (24 + (be (cut l0 8 12)).toNat)) → Calls Try.prog 19 #[pktV (rd l0 1) ((be (cut l0 2 4)).toNat : Int) ((rd l0 4).toNat : Int) (be (cut l0 12 16)) (be (cut l0 16 24)) B (cut l0 24 (24 + (be (cut l0 8 12)).toNat)).length (cut l0 24 (24 + (be (cut l0 8 12)).toNat)).length] W fun e w' => ReqPost W s e w') :
    Calls Try.prog 11 #[.slice A0 l0.length c0] w fun e w' => ReqPost w s e w' := by
  have hu34 := Try.underlying34
  have hu31 := Try.underlying31
  have hu29 := Try.underlying29
  have hu53 := Try.underlying53
  have hu22 := Try.underlying22
  obtain ⟨ad, hA, hcell⟩ := Kd.at_int hr0 0 (by omega) (by omega)
  have ha0 : ad.add (0 : Int).toNat = ad := by simp [Addr.add]
  rw [ha0] at hcell
  subst hA
  have hp : (0 : Int) < (l0.length : Int) := by omega
  have hp2 : ((l0.length : Int) == 0) = false := beq_eq_false_iff_ne.mpr (by omega)
  have hcA : ∀ o : Obj, (w.alloc o).cell? ad = some (.int .u8 (rd l0 0)) := fun o => pw_cell_below (below_alloc (Below.refl _ _) o) hcell
  have hx : (rd l0 0 != 128) = false := bne_eq_false_iff_eq.mpr h1
  have hd : decide (l0.length < 24) = false := decide_eq_false (by omega)
  have hd2 : decide ((l0.length : Int) < 24) = false := decide_eq_false (by omega)
  obtain ⟨ad1, hA1, hcell1⟩ := Kd.at_int hr0 1 (by omega) (by omega)
  obtain rfl := Option.some.inj hA1
  rw [show (1 : Int).toNat = 1 from rfl, add_pos ad 1 (by omega)] at hcell1
  have hcc1 : ∀ o : Obj, (w.alloc o).cell? ⟨ad.block, ad.off + 1, none⟩ = some (.int .u8 (rd l0 1)) := fun o => pw_cell_below (below_alloc (Below.refl _ _) o) hcell1
  have hp1 : (1 : Int) < (l0.length : Int) := by omega
  have hv1 := byte_at l0 1 hb
  rw [show rd l0 ((1 : Nat) : Int) = rd l0 1 from rfl] at hv1
  obtain ⟨hv1a, hv1b⟩ := hv1
  obtain ⟨ad4, hA4, hcell4⟩ := Kd.at_int hr0 4 (by omega) (by omega)
  obtain rfl := Option.some.inj hA4
  rw [show (4 : Int).toNat = 4 from rfl, add_pos ad 4 (by omega)] at hcell4
  have hcc4 : ∀ o : Obj, (w.alloc o).cell? ⟨ad.block, ad.off + 4, none⟩ = some (.int .u8 (rd l0 4)) := fun o => pw_cell_below (below_alloc (Below.refl _ _) o) hcell4
  have hp4 : (4 : Int) < (l0.length : Int) := by omega
  have hv4 := byte_at l0 4 hb
  rw [show rd l0 ((4 : Nat) : Int) = rd l0 4 from rfl] at hv4
  obtain ⟨hv4a, hv4b⟩ := hv4
  obtain ⟨A8, hs8, hC8⟩ := cutC (some ad) c0 l0 8 12 (by omega) (by omega) hc0
  replace hs8 : ∀ W : World, (Instr.slice 22 (.slice (some ad) l0.length c0) (some (.int .i64 8)) (some (.int .i64 12)) none).run Try.prog W = .ok (.slice A8 4 (c0 - 8)) W := hs8
  have HG8 := Aside0.mk (fun W hB => getC A8 4 (c0 - 8) (cut l0 8 12) (cut_bytes 8 12 hb) (cut_len l0 8 12 (by omega)) (by omega) (by omega) w W hB (hC8 w hr0))
  have hz8 := be_range (cut l0 8 12) (cut_bytes 8 12 hb)
  rw [cut_len l0 8 12 (by omega)] at hz8
  obtain ⟨hy8, hq8⟩ := hz8
  have hx8 : be (cut l0 8 12) < 4294967296 := hq8
  clear hq8 hC8
  obtain ⟨A2, hs2, hC2⟩ := cutC (some ad) c0 l0 2 4 (by omega) (by omega) hc0
  replace hs2 : ∀ W : World, (Instr.slice 22 (.slice (some ad) l0.length c0) (some (.int .i64 2)) (some (.int .i64 4)) none).run Try.prog W = .ok (.slice A2 2 (c0 - 2)) W := hs2
  have HG2 := Aside0.mk (fun W hB => getC A2 2 (c0 - 2) (cut l0 2 4) (cut_bytes 2 4 hb) (cut_len l0 2 4 (by omega)) (by omega) (by omega) w W hB (hC2 w hr0))
  have hz2 := be_range (cut l0 2 4) (cut_bytes 2 4 hb)
  rw [cut_len l0 2 4 (by omega)] at hz2
  obtain ⟨hy2, hq2⟩ := hz2
  have hx2 : be (cut l0 2 4) < 65536 := hq2
  clear hq2 hC2
  obtain ⟨A12, hs12, hC12⟩ := cutC (some ad) c0 l0 12 16 (by omega) (by omega) hc0
  replace hs12 : ∀ W : World, (Instr.slice 22 (.slice (some ad) l0.length c0) (some (.int .i64 12)) (some (.int .i64 16)) none).run Try.prog W = .ok (.slice A12 4 (c0 - 12)) W := hs12
  have HG12 := Aside0.mk (fun W hB => getC A12 4 (c0 - 12) (cut l0 12 16) (cut_bytes 12 16 hb) (cut_len l0 12 16 (by omega)) (by omega) (by omega) w W hB (hC12 w hr0))
  have hz12 := be_range (cut l0 12 16) (cut_bytes 12 16 hb)
  rw [cut_len l0 12 16 (by omega)] at hz12
  obtain ⟨hy12, hq12⟩ := hz12
  have hx12 : be (cut l0 12 16) < 4294967296 := hq12
  clear hq12 hC12
  obtain ⟨A16, hs16, hC16⟩ := cutC (some ad) c0 l0 16 24 (by omega) (by omega) hc0
  replace hs16 : ∀ W : World, (Instr.slice 22 (.slice (some ad) l0.length c0) (some (.int .i64 16)) (some (.int .i64 24)) none).run Try.prog W = .ok (.slice A16 8 (c0 - 16)) W := hs16
  have HG16 := Aside0.mk (fun W hB => getC A16 8 (c0 - 16) (cut l0 16 24) (cut_bytes 16 24 hb) (cut_len l0 16 24 (by omega)) (by omega) (by omega) w W hB (hC16 w hr0))
  have hz16 := be_range (cut l0 16 24) (cut_bytes 16 24 hb)
  rw [cut_len l0 16 24 (by omega)] at hz16
  obtain ⟨hy16, hq16⟩ := hz16
  have hx16 : be (cut l0 16 24) < 18446744073709551616 := hq16
  clear hq16 hC16
  obtain ⟨z, hZ⟩ := Int.eq_ofNat_of_zero_le hy8
  obtain ⟨kk, hK⟩ := Int.eq_ofNat_of_zero_le hy2
  obtain ⟨xx, hX⟩ := Int.eq_ofNat_of_zero_le hv4a
  rw [hZ] at HG8 hz hw hx8 HREQ
  rw [hK] at HG2 hx2 HREQ
  rw [hX] at hcc4 hv4b HREQ hcell4
  simp only [Int.toNat_natCast] at HREQ
  obtain ⟨i0, hi0, _, hsz, _⟩ := info_parts (show ((Try.prog).info? 5).map (fun i => (i.zero, i.size, i.bytes)) = some (some (.int .u8 0), 1, 1) by kernel_rfl)
  obtain ⟨AB, hsB, hCB, _⟩ := cut3_mid (P := Try.prog) (Value.int .u8) 0 22 5 .i64 .i64 .i64 Try.underlying22 hi0 hsz (some ad) c0 l0 24 ((24 + z : Nat) : Int) (by omega) (by omega) (by omega) hc0
  rw [show ((l0.take ((24 + z : Nat) : Int).toNat).drop (24 : Int).toNat) = cut l0 24 (24 + z) from rfl] at hsB hCB
  have hlB : (cut l0 24 (24 + z)).length = z := by rw [cut_len l0 24 (24 + z) (by omega)]; omega
  rw [hlB] at hsB hCB HREQ
  rw [show ((24 + z : Nat) : Int).toNat - (24 : Int).toNat = z by omega] at hsB
  rw [show ((24 + z : Nat) : Int) = 24 + (z : Int) by omega] at hsB
  have HQ := Aside0.mk (fun W hB => HREQ AB W hB (Kd.C_below (Kd.C_of_reads (hCB w (Kd.reads_of_C (enc := Value.int .u8) (d := (0 : Int)) (h1 := fun _ => rfl) hr0))) hB))
  have r1 : decide ((z : Int) > 2048) = false := decide_eq_false hz
  have r2 : decide ((l0.length : Int) < 24 + (z : Int)) = false := decide_eq_false hw
  have hle : 24 + (z : Int) ≤ (l0.length : Int) := by omega
  have w1 : wrap64 (24 + (z : Int)) = 24 + (z : Int) := by clear r1 r2; unfold wrap64; omega
  have w2 : IntKind.u32.wrap (be (cut l0 12 16)) = be (cut l0 12 16) := u32_in _ hy12 hx12
  have w3 : IntKind.i64.wrap (kk : Int) = (kk : Int) := (i64_w _).trans (by clear r1 r2 w1 w2; unfold wrap64; omega)
  have w4 : IntKind.i64.wrap (rd l0 1) = rd l0 1 := (i64_w _).trans (by clear r1 r2 w1 w2 w3; unfold wrap64; omega)
  have w5 : IntKind.i64.wrap (xx : Int) = (xx : Int) := (i64_w _).trans (by clear r1 r2 w1 w2 w3 w4; unfold wrap64; omega)
  have w6 : wrap64 (z : Int) = (z : Int) := by clear r1 r2 w1 w2 w3 w4 w5; unfold wrap64; omega
  have HC1 := Aside0.mk hcell1
  have hadlt := World.block_lt_of_cell? w ad hcell
  have nea : w.heap.size + 1 ≠ ad.block := by clear r1 r2 w1 w2 w3 w4 w5 w6; omega
  have neb : w.heap.size ≠ ad.block := by clear r1 r2 w1 w2 w3 w4 w5 w6; omega
  clear hr0 h1 ha0 hcell hcell1 hcell4 hb hZ hK hX hz hw hx8 hx2 hx12 hx16 hy8 hy2 hy12 hy16 hCB HREQ hlB hv1a hv1b hv4a hv4b
  generalize rd l0 1 = cc at *
  generalize be (cut l0 12 16) = oo at *
  generalize be (cut l0 16 24) = qq at *
  generalize rd l0 0 = y at *
  generalize l0.length = n0 at *
  unfold pktV at HQ
  go_enter Try.func11, Try.ntmps11
  go_wp2_with (first | (go_at_call 18; (with_reducible refine (HG8.out _ ?_).mono ?_); (repeat (with_reducible first | exact Below.refl _ _ | apply below_alloc | apply below_drew | apply pw_below_drewN | refine below_set ?_ (by omega))); rintro e w' ⟨rfl, ⟨m, rfl⟩⟩))
  go_region_held3 (fun w' => w'.cell? ⟨ad.block, ad.off + 1, none⟩ = some (.int .u8 cc) ∧ w'.cell? ⟨ad.block, ad.off + 4, none⟩ = some (.int .u8 (xx : Int))) (go_keep)
    ((first | (go_at_call 18; (with_reducible refine (HG2.out _ ?_).mono ?_); (repeat (with_reducible first | exact Below.refl _ _ | apply below_alloc | apply below_drew | apply pw_below_drewN | refine below_set ?_ (by omega))); rintro e w' ⟨rfl, ⟨m, rfl⟩⟩) | (go_at_call 18; (with_reducible refine (HG12.out _ ?_).mono ?_); (repeat (with_reducible first | exact Below.refl _ _ | apply below_alloc | apply below_drew | apply pw_below_drewN | refine below_set ?_ (by omega))); rintro e w' ⟨rfl, ⟨m, rfl⟩⟩) | (go_at_call 18; (with_reducible refine (HG16.out _ ?_).mono ?_); (repeat (with_reducible first | exact Below.refl _ _ | apply below_alloc | apply below_drew | apply pw_below_drewN | refine below_set ?_ (by omega))); rintro e w' ⟨rfl, ⟨m, rfl⟩⟩)))
  all_goals first
    | with_reducible refine gen_world (fun W' => W'.heap[w.heap.size + 1]? = some (.cells #[Value.int .i64 cc, Value.int .i64 (kk : Int), Value.int .i64 (xx : Int), Value.int .u32 oo, Value.int .u64 qq, Value.slice none 0 0] 53 (0, 0)) ∧ W'.heap[w.heap.size]? = some (.cells #[Value.slice none 0 0, Value.int .i64 0, Value.string ⟨#[]⟩, Value.int .i64 0, Value.int .u32 0, Value.bool false, Value.bool false, Value.string ⟨#[]⟩, Value.slice none 0 0, Value.slice none 0 0, Value.bool false, Value.string ⟨#[]⟩, Value.int .i64 0, Value.int .i64 0, Value.bool false, Value.int .i64 0] 34 (0, 0)) ∧ Below w.heap.size w W') ⟨new2d w _ _ _, blk_alloc (blk_drewN (blk_new w _) _) _, by repeat (with_reducible first | exact Below.refl _ _ | apply below_alloc | apply below_drew | apply pw_below_drewN | refine below_set ?_ (by omega))⟩ ?_
    | refine gen_world (fun W' => W'.heap[w.heap.size + 1]? = some (.cells #[Value.int .i64 cc, Value.int .i64 (kk : Int), Value.int .i64 (xx : Int), Value.int .u32 oo, Value.int .u64 qq, Value.slice none 0 0] 53 (0, 0)) ∧ W'.heap[w.heap.size]? = some (.cells #[Value.slice none 0 0, Value.int .i64 0, Value.string ⟨#[]⟩, Value.int .i64 0, Value.int .u32 0, Value.bool false, Value.bool false, Value.string ⟨#[]⟩, Value.slice none 0 0, Value.slice none 0 0, Value.bool false, Value.string ⟨#[]⟩, Value.int .i64 0, Value.int .i64 0, Value.bool false, Value.int .i64 0] 34 (0, 0)) ∧ Below w.heap.size w W') ⟨set6_blk (blk_drewN (new2d w _ (.cells #[.int .i64 0, .int .i64 0, .int .i64 0, .int .u32 0, .int .u64 0, .slice none 0 0] 53) _) _) (Value.int .i64 cc) (Value.int .i64 (kk : Int)) (Value.int .i64 (xx : Int)) (Value.int .u32 oo) (Value.int .u64 qq) (Value.slice none 0 0), set6_far (blk_drewN (blk_alloc (blk_drewN (blk_new w _) _) _) _) (by omega) (Value.int .i64 cc) (Value.int .i64 (kk : Int)) (Value.int .i64 (xx : Int)) (Value.int .u32 oo) (Value.int .u64 qq) (Value.slice none 0 0), by repeat (with_reducible first | exact Below.refl _ _ | apply below_alloc | apply below_drew | apply pw_below_drewN | refine below_set ?_ (by omega))⟩ ?_
  all_goals (
    clear hcc1 hcc4 w2 w3 w4 w5 HG2 HG8 HG12 HG16 nea neb HC1
    rintro W5 ⟨k1, k0, hB5⟩
    have HB5 := Aside0.mk hB5
    have HK0 := Aside0.mk k0
    have HK1 := Aside0.mk k1
    have d5 : W5.cell? ⟨w.heap.size + 1, 5, none⟩ = some (.slice none 0 0) := blk_cell k1 5
    have e5 : W5.frozen? ⟨w.heap.size + 1, 5, none⟩ = false := blk_frozen k1 5
    obtain ⟨p0, p1, p2, p3, p4, p5⟩ := cells6 (blk_put (cs' := #[Value.int .i64 cc, Value.int .i64 (kk : Int), Value.int .i64 (xx : Int), Value.int .u32 oo, Value.int .u64 qq, Value.slice AB z z]) k1 5 (Value.slice AB z z) rfl)
    clear k1 k0 hB5
    go_wp2_with (first | (go_at_call 19; (with_reducible refine (HQ.out _ (below_set HB5.out (by omega))).mono ?_); rintro e W6 ⟨v, rfl, ⟨cv, kv, rfl, hcv, hkv⟩, hB⟩; obtain ⟨ca, cn, cc', rfl⟩ := hcv.slice; obtain ⟨ka, kn, kc, rfl⟩ := hkv.slice; have k0 := blk_any hB (blk_far HK0.out (p := ⟨w.heap.size + 1, 5, none⟩) (by show w.heap.size ≠ w.heap.size + 1; omega) _); have HB6 := Aside0.mk (below_step (below_set HB5.out (by omega)) hB); have HS := Aside0.mk (And.intro hcv hkv); have HK6 := Aside0.mk k0; clear d5 e5 p0 p1 p2 p3 p4 p5 hB hcv hkv; obtain ⟨r0, r1, r2, r3, r4, r5, r6, r7, r8, r9, r10, r11, r12, r13, r14, r15⟩ := cells16 k0; obtain ⟨rf0, rf1, rf2, rf3, rf4, rf5, rf6, rf7, rf8, rf9, rf10, rf11, rf12, rf13, rf14, rf15⟩ := froz16 k0; clear k0; unfold stepV))
    clear r0 r1 r2 r3 r4 r5 r6 r7 r8 r9 r10 r11 r12 r13 r14 r15 rf0 rf1 rf2 rf3 rf4 rf5 rf6 rf7 rf8 rf9 rf10 rf11 rf12 rf13 rf14 rf15
    refine gen_world (fun W' => W'.heap[w.heap.size]? = some (.cells #[Value.slice ca cn cc', Value.int .i64 s.dial, Value.string ⟨#[]⟩, Value.int .i64 s.code, Value.int .u32 s.opq, Value.bool s.quiet, Value.bool false, Value.string ⟨#[]⟩, Value.slice none 0 0, Value.slice ka kn kc, Value.bool false, Value.string s.reply, Value.int .i64 s.used, Value.int .i64 0, Value.bool false, Value.int .i64 s.e] 34 (0, 0)) ∧ Below w.heap.size w W' ∧ CmdAt W' (.slice ca cn cc') s.cmd ∧ KeyAt W' (.slice ka kn kc) s.key)
      ⟨set16_blk HK6.out (Value.slice ca cn cc') (Value.int .i64 s.dial) (Value.string ⟨#[]⟩) (Value.int .i64 s.code) (Value.int .u32 s.opq) (Value.bool s.quiet) (Value.bool false) (Value.string ⟨#[]⟩) (Value.slice none 0 0) (Value.slice ka kn kc) (Value.bool false) (Value.string s.reply) (Value.int .i64 s.used) (Value.int .i64 0) (Value.bool false) (Value.int .i64 s.e), set16_below HB6.out (Nat.le_refl _) (Value.slice ca cn cc') (Value.int .i64 s.dial) (Value.string ⟨#[]⟩) (Value.int .i64 s.code) (Value.int .u32 s.opq) (Value.bool s.quiet) (Value.bool false) (Value.string ⟨#[]⟩) (Value.slice none 0 0) (Value.slice ka kn kc) (Value.bool false) (Value.string s.reply) (Value.int .i64 s.used) (Value.int .i64 0) (Value.bool false) (Value.int .i64 s.e), cmdAt_set16 HS.out.1 HK6.out (Value.slice ca cn cc') (Value.int .i64 s.dial) (Value.string ⟨#[]⟩) (Value.int .i64 s.code) (Value.int .u32 s.opq) (Value.bool s.quiet) (Value.bool false) (Value.string ⟨#[]⟩) (Value.slice none 0 0) (Value.slice ka kn kc) (Value.bool false) (Value.string s.reply) (Value.int .i64 s.used) (Value.int .i64 0) (Value.bool false) (Value.int .i64 s.e), keyAt_set16 HS.out.2 HK6.out (Value.slice ca cn cc') (Value.int .i64 s.dial) (Value.string ⟨#[]⟩) (Value.int .i64 s.code) (Value.int .u32 s.opq) (Value.bool s.quiet) (Value.bool false) (Value.string ⟨#[]⟩) (Value.slice none 0 0) (Value.slice ka kn kc) (Value.bool false) (Value.string s.reply) (Value.int .i64 s.used) (Value.int .i64 0) (Value.bool false) (Value.int .i64 s.e)⟩ ?_
    rintro W9 ⟨kr, hB9, hc9, hk9⟩
    refine bodyPost_ret (v := stepV (.slice ca cn cc') s.dial s.code s.opq s.quiet (.slice ka kn kc) s.reply s.used s.e) (results_cell_row rfl _ _ w.heap.size 34 _ (0, 0) _ rfl kr Try.underlying34 rfl (by kernel_rfl)) rfl ?_
    exact ⟨_, rfl, ⟨_, _, rfl, hc9, hk9⟩, hB9⟩)
theorem reqPost_badE {w : World} {reply : ByteArray} {used k : Int} {e : Ending} {w' : World} (h : e = .returned (badV reply used k) ∧ Below w.heap.size w w') : ReqPost w (badS reply used k) e w' :=
  ⟨_, h.1, badS_at _ _ _ _, h.2⟩
theorem rd_nat (l : List Int) (i : Nat) : rd l i = l.getD i 0 := by simp [rd]
/-- The first bytes of a connection. -/
theorem parse_w (A0 : Option Addr) (c0 : Nat) (l0 : List Int) (w : World) (hr0 : Kd.C (Kd.int .u8) w A0 l0.length l0) (hc0 : l0.length ≤ c0) (hb : ∀ x ∈ l0, 0 ≤ x ∧ x ≤ 255) (hn : l0.length ≤ 1000000) :
    Calls Try.prog 11 #[.slice A0 l0.length c0] w fun e w' => ReqPost w (parseS l0) e w' := by
  unfold parseS
  by_cases h0 : l0 = []
  · subst h0
    rw [if_pos rfl]
    exact (parse_nil A0 c0 w).mono fun e w' h => reqPost_badE h
  · have hl : 0 < l0.length := List.length_pos_iff.2 h0
    rw [if_neg h0]
    by_cases h1 : rd l0 0 = 128
    · rw [if_neg (fun h => h h1)]
      by_cases h2 : l0.length < 24
      · rw [if_pos h2]
        exact (parse_short A0 c0 l0 w hr0 hc0 hl h1 h2).mono fun e w' h => reqPost_badE h
      · rw [if_neg h2]
        by_cases h3 : 2048 < be (cut l0 8 12)
        · rw [if_pos h3]
          exact (parse_big A0 c0 l0 w hr0 hc0 hb (by omega) h1 h3).mono fun e w' h => reqPost_badE h
        · rw [if_neg h3]
          by_cases h4 : (l0.length : Int) < 24 + be (cut l0 8 12)
          · rw [if_pos h4]
            exact (parse_wait A0 c0 l0 w hr0 hc0 hb (by omega) h1 h3 h4).mono fun e w' h => reqPost_badE h
          · rw [if_neg h4]
            refine parse_full A0 c0 l0 w hr0 hc0 hb (by omega) h1 h3 h4 _ fun B W hB hC => ?_
            have hk := be_range (cut l0 2 4) (cut_bytes 2 4 hb)
            rw [cut_len l0 2 4 (by omega), show (256 : Int) ^ (4 - 2) = 65536 from rfl] at hk
            have ho := be_range (cut l0 12 16) (cut_bytes 12 16 hb)
            rw [cut_len l0 12 16 (by omega), show (256 : Int) ^ (16 - 12) = 4294967296 from rfl] at ho
            have hc := byte_at l0 1 hb
            have hx := byte_at l0 4 hb
            rw [show rd l0 ((1 : Nat) : Int) = rd l0 1 from rfl] at hc
            rw [show rd l0 ((4 : Nat) : Int) = rd l0 4 from rfl] at hx
            have hlc : (cut l0 24 (24 + (be (cut l0 8 12)).toNat)).length ≤ 1000000 := by
              rw [cut_len _ _ _ (by omega)]
              omega
            exact request_w (rd l0 1) (be (cut l0 12 16)) (be (cut l0 16 24)) (rd l0 4).toNat (be (cut l0 2 4)).toNat B _ (cut l0 24 (24 + (be (cut l0 8 12)).toNat)) W hc.1 hc.2 (by omega) (by omega) ho.1 ho.2 hC (Nat.le_refl _) (cut_bytes _ _ hb) hlc
    · rw [if_pos h1]
      exact (parse_other A0 c0 l0 w hr0 hc0 hl h1).mono fun e w' h => reqPost_badE h

/-! ### butterylaw16_awake: function 9 -/
def wakeL : List Int := [128, 10, 0, 0, 0, 0, 0, 0, 0, 0, 0, 0, 0, 0, 0, 0, 0, 0, 0, 0, 0, 0, 0, 0]
theorem wake_parse : parseS wakeL = ⟨some ⟨14, ⟨#[]⟩, [], 0, 0, 0, 0, 0, false⟩, 2, 10, 0, false, none, ⟨#[]⟩, 24, 0⟩ := by kernel_rfl
theorem wake_other : parseS [127] = badS ⟨#[]⟩ 0 9 := by kernel_rfl
theorem make24 (W : World) : (Instr.makeSlice 22 (.int .i64 24) (.int .i64 24)).run Try.prog W = .ok (.slice (some ⟨W.heap.size, 0, none⟩) 24 24) (W.alloc (.cells #[.int .u8 0, .int .u8 0, .int .u8 0, .int .u8 0, .int .u8 0, .int .u8 0, .int .u8 0, .int .u8 0, .int .u8 0, .int .u8 0, .int .u8 0, .int .u8 0, .int .u8 0, .int .u8 0, .int .u8 0, .int .u8 0, .int .u8 0, .int .u8 0, .int .u8 0, .int .u8 0, .int .u8 0, .int .u8 0, .int .u8 0, .int .u8 0] 5)) := by kernel_rfl

set_option maxHeartbeats 8000000 in
set_option maxRecDepth 100000 in
theorem awake_w (w : World) : Calls Try.prog 9 #[] w fun e w' => e = .returned (.bool true) ∧ Below w.heap.size w w' := by
  have hu34 := Try.underlying34
  have hu31 := Try.underlying31
  have hu39 := Try.underlying39
  have hu25 := Try.underlying25
  have hu22 := Try.underlying22
  have mk := make24 w
  have HP : Aside0 (∀ W : World, Calls Try.prog 11 #[.slice (some ⟨W.heap.size, 0, none⟩) 24 24] (W.alloc (.cells #[.int .u8 128, .int .u8 10, .int .u8 0, .int .u8 0, .int .u8 0, .int .u8 0, .int .u8 0, .int .u8 0, .int .u8 0, .int .u8 0, .int .u8 0, .int .u8 0, .int .u8 0, .int .u8 0, .int .u8 0, .int .u8 0, .int .u8 0, .int .u8 0, .int .u8 0, .int .u8 0, .int .u8 0, .int .u8 0, .int .u8 0, .int .u8 0] 5)) fun e w' => ReqPost (W.alloc (.cells #[.int .u8 128, .int .u8 10, .int .u8 0, .int .u8 0, .int .u8 0, .int .u8 0, .int .u8 0, .int .u8 0, .int .u8 0, .int .u8 0, .int .u8 0, .int .u8 0, .int .u8 0, .int .u8 0, .int .u8 0, .int .u8 0, .int .u8 0, .int .u8 0, .int .u8 0, .int .u8 0, .int .u8 0, .int .u8 0, .int .u8 0, .int .u8 0] 5)) ⟨some ⟨14, ⟨#[]⟩, [], 0, 0, 0, 0, 0, false⟩, 2, 10, 0, false, none, ⟨#[]⟩, 24, 0⟩ e w') := ⟨fun W => by
    have h := parse_w (some ⟨W.heap.size, 0, none⟩) 24 wakeL _ (lit_C W wakeL #[.int .u8 128, .int .u8 10, .int .u8 0, .int .u8 0, .int .u8 0, .int .u8 0, .int .u8 0, .int .u8 0, .int .u8 0, .int .u8 0, .int .u8 0, .int .u8 0, .int .u8 0, .int .u8 0, .int .u8 0, .int .u8 0, .int .u8 0, .int .u8 0, .int .u8 0, .int .u8 0, .int .u8 0, .int .u8 0, .int .u8 0, .int .u8 0] 5 (0, 0) rfl (by decide)) (by decide) (by decide) (by decide)
    rw [wake_parse] at h
    exact h⟩
  have HO : Aside0 (∀ (W : World) (b : Nat), W.heap.size = b → Calls Try.prog 11 #[.slice (some ⟨b, 0, none⟩) 1 1] (W.alloc (.cells #[.int .u8 127] 5)) fun e w' => ReqPost (W.alloc (.cells #[.int .u8 127] 5)) (badS ⟨#[]⟩ 0 9) e w') := ⟨fun W b hb => by
    subst hb
    have h := parse_w (some ⟨W.heap.size, 0, none⟩) 1 [127] _ (lit_C W [127] #[.int .u8 127] 5 (0, 0) rfl (by decide)) (by decide) (by decide) (by decide)
    rw [wake_other] at h
    exact h⟩
  go_enter Try.func9, Try.ntmps9
  go_wp2_with (first | (go_at_call 11; (with_reducible refine (HP.out _).mono ?_); rintro e w1 ⟨v, rfl, ⟨cv, kv, rfl, ⟨g, A, c, rfl, hg, _, _⟩, hk⟩, hB⟩; obtain rfl := (show kv = .slice none 0 0 from hk); have HG := Aside0.mk hg; have HB := Aside0.mk (below_step (below_alloc (Below.refl _ _) _) hB); clear hg hk hB; unfold stepV) | (go_at_call 11; (with_reducible refine (HO.out _ _ (World.size_alloc ..)).mono ?_); rintro e w2 ⟨v, rfl, ⟨cv, kv, rfl, hc, hk⟩, hB⟩; obtain rfl := (show cv = .slice none 0 0 from hc); obtain rfl := (show kv = .slice none 0 0 from hk); have HB2 := Aside0.mk (below_step (below_alloc (below_alloc HB.out _) _) hB); have k2 := blk_any hB (blk_alloc (blk_new w1 _) _); have g2 := blk_any hB (blk_alloc (blk_alloc HG.out _) _); obtain ⟨r0, r1, r2, r3, r4, r5, r6, r7, r8, r9, r10, r11, r12, r13, r14, r15⟩ := cells16_1 k2; obtain ⟨z0, z1, z2, z3, z4, z5, z6, z7, z8, z9⟩ := cells10_1 g2; clear hB k2 g2; unfold stepV))
  go_ret
  exact ⟨rfl, below_alloc HB2.out _⟩

/-! ### butterylaw14_Steps: function 10 -/
set_option maxHeartbeats 8000000 in
set_option maxRecDepth 100000 in
theorem texts_eq (k1 k2 : Value) (k : Option ByteArray) (w : World) (h1 : KeyAt w k1 k) (h2 : KeyAt w k2 k) :
    Calls Try.prog 28 #[k1, k2] w fun e w' => e = .returned (.bool true) ∧ Below w.heap.size w w' := by
  have hu27 := Try.underlying27
  cases k with
  | none =>
    obtain rfl := (show k1 = .slice none 0 0 from h1)
    obtain rfl := (show k2 = .slice none 0 0 from h2)
    go_enter Try.func28, Try.ntmps28
    go_wp2
    go_loopg [4, 5] 0 (fun kq v4 v5 w' => v5 = .int .i64 0 ∧ w' = w)
    case atStart => exact ⟨rfl, rfl⟩
    case round =>
      obtain ⟨rfl, hw⟩ := hrel
      have hw' := hw.symm
      subst hw'
      go_wp2
      go_ret
      exact ⟨rfl, Below.refl _ _⟩
  | some s =>
    obtain ⟨g1, rfl, hg1⟩ := h1
    obtain ⟨g2, rfl, hg2⟩ := h2
    have HC := Aside0.mk (And.intro (blk_cell hg1 0 : w.cell? ⟨g1, 0, none⟩ = some (.string s)) (blk_cell hg2 0 : w.cell? ⟨g2, 0, none⟩ = some (.string s)))
    have e1 : (s.toList != s.toList) = false := by simp
    have e2 : (s.toList == s.toList) = true := by simp
    clear hg1 hg2
    go_enter Try.func28, Try.ntmps28
    go_wp2
    go_loopg [4, 5] 1 (fun kq v4 v5 w' => ∃ i : Nat, i + kq = 1 ∧ v5 = .int .i64 (i : Int) ∧ Aside0 (Below w.heap.size w w'))
    case atStart => exact ⟨0, rfl, rfl, ⟨Below.refl _ _⟩⟩
    case round =>
      obtain ⟨i, hi, rfl, hB⟩ := hrel
      obtain rfl | rfl : i = 0 ∨ i = 1 := by omega
      · have c1 := pw_cell_below hB.out HC.out.1
        have c2 := pw_cell_below hB.out HC.out.2
        have i1 : (0 : Int) < 1 := by decide
        go_wp2
        go_quiet (fail)
        go_wp2
        go_roundg (gk - 1)
        case measure => omega
        case rel => exact ⟨1, by omega, rfl, ⟨by repeat (with_reducible first | exact hB.out | apply below_drew | apply pw_below_drewN)⟩⟩
      · go_wp2
        go_ret
        exact ⟨rfl, hB.out⟩
set_option maxHeartbeats 8000000 in
set_option maxRecDepth 100000 in
theorem cmds_eq (m : Cm) (A1 A2 : Option Addr) (c1 c2 : Nat) (w : World) (h1 : Kd.C (Kd.int .u8) w A1 m.val.length m.val) (h2 : Kd.C (Kd.int .u8) w A2 m.val.length m.val) :
    Calls Try.prog 27 #[cmdV m.op m.key (.slice A1 m.val.length c1) m.flags m.exp m.cas m.delta m.init m.makes, cmdV m.op m.key (.slice A2 m.val.length c2) m.flags m.exp m.cas m.delta m.init m.makes] w fun e w' => e = .returned (.bool true) ∧ Below w.heap.size w w' := by
  have hu39 := Try.underlying39
  obtain ⟨op, key, val, fl, ex, cas, de, ini, mk⟩ := m
  have e1 : (key.toList == key.toList) = true := by simp
  have e2 : ((strOfNums val).toList == (strOfNums val).toList) = true := by simp
  have HC := Aside0.mk (And.intro h1 h2)
  have hk1 : ∀ (o o' : Obj) (k : Nat), (convert 22 9 (.slice A1 val.length c1)).run Try.prog (((w.alloc o).alloc o').drewN k) = .ok (.string (strOfNums val)) (((w.alloc o).alloc o').drewN k) := fun o o' k => Kd.C_string Try.underlying22 Try.underlying5 Try.underlying9 (Kd.C_drewN (Kd.C_alloc (Kd.C_alloc h1 o) o') k)
  have hk2 : ∀ (o o' : Obj) (k : Nat), (convert 22 9 (.slice A2 val.length c2)).run Try.prog (((w.alloc o).alloc o').drewN k) = .ok (.string (strOfNums val)) (((w.alloc o).alloc o').drewN k) := fun o o' k => Kd.C_string Try.underlying22 Try.underlying5 Try.underlying9 (Kd.C_drewN (Kd.C_alloc (Kd.C_alloc h2 o) o') k)
  have hk3 : ∀ (o o' : Obj), (convert 22 9 (.slice A1 val.length c1)).run Try.prog ((w.alloc o).alloc o') = .ok (.string (strOfNums val)) ((w.alloc o).alloc o') := fun o o' => hk1 o o' 0
  have hk4 : ∀ (o o' : Obj), (convert 22 9 (.slice A2 val.length c2)).run Try.prog ((w.alloc o).alloc o') = .ok (.string (strOfNums val)) ((w.alloc o).alloc o') := fun o o' => hk2 o o' 0
  clear h1 h2
  generalize val.length = nv at *
  unfold cmdV
  go_enter Try.func27, Try.ntmps27
  go_wp2
  go_ret
  exact ⟨by first | rfl | simp, by repeat (with_reducible first | exact Below.refl _ _ | apply below_alloc | apply below_drew | apply pw_below_drewN)⟩
theorem cells11 {w : World} {g t : Nat} {v0 v1 v2 v3 v4 v5 v6 v7 v8 v9 v10 : Value} (h : w.heap[g]? = some (.cells #[v0, v1, v2, v3, v4, v5, v6, v7, v8, v9, v10] t (0, 0))) : w.cell? ⟨g, 0, none⟩ = some v0 ∧ w.cell? ⟨g, 1, none⟩ = some v1 ∧ w.cell? ⟨g, 2, none⟩ = some v2 ∧ w.cell? ⟨g, 3, none⟩ = some v3 ∧ w.cell? ⟨g, 4, none⟩ = some v4 ∧ w.cell? ⟨g, 5, none⟩ = some v5 ∧ w.cell? ⟨g, 6, none⟩ = some v6 ∧ w.cell? ⟨g, 7, none⟩ = some v7 ∧ w.cell? ⟨g, 8, none⟩ = some v8 ∧ w.cell? ⟨g, 9, none⟩ = some v9 ∧ w.cell? ⟨g, 10, none⟩ = some v10 :=
  ⟨blk_cell h 0, blk_cell h 1, blk_cell h 2, blk_cell h 3, blk_cell h 4, blk_cell h 5, blk_cell h 6, blk_cell h 7, blk_cell h 8, blk_cell h 9, blk_cell h 10⟩
def reqV (cmds : Value) (dial code opq : Int) (quiet : Bool) (keys : Value) : Value := .agg #[cmds, .int .i64 dial, .string ⟨#[]⟩, .int .i64 code, .int .u32 opq, .bool quiet, .bool false, .string ⟨#[]⟩, .slice none 0 0, keys, .bool false]
theorem new4 (W : World) (a b c d : Obj) : ((((W.alloc a).alloc b).alloc c).alloc d).heap[W.heap.size]? = some a ∧ ((((W.alloc a).alloc b).alloc c).alloc d).heap[W.heap.size + 1]? = some b ∧ ((((W.alloc a).alloc b).alloc c).alloc d).heap[W.heap.size + 2]? = some c ∧ ((((W.alloc a).alloc b).alloc c).alloc d).heap[W.heap.size + 3]? = some d := by
  refine ⟨blk_alloc (blk_alloc (blk_alloc (blk_new W _) _) _) _, blk_alloc (blk_alloc (new2 W _ _) _) _, blk_alloc (new3 W _ _ _) _, ?_⟩
  have h := new3 (W.alloc a) b c d
  rwa [World.size_alloc] at h
set_option maxHeartbeats 8000000 in
set_option maxRecDepth 100000 in
theorem requests_none (a1 : Option Addr) (n1 c1 : Nat) (a2 : Option Addr) (n2 c2 : Nat) (ka1 : Option Addr) (kn1 kc1 : Nat) (ka2 : Option Addr) (kn2 kc2 : Nat) (dial code opq : Int) (quiet : Bool) (key : Option ByteArray) (w : World) (h1 : CmdAt w (.slice a1 n1 c1) none) (h2 : CmdAt w (.slice a2 n2 c2) none) (k1 : KeyAt w (.slice ka1 kn1 kc1) key) (k2 : KeyAt w (.slice ka2 kn2 kc2) key) :
    Calls Try.prog 17 #[reqV (.slice a1 n1 c1) dial code opq quiet (.slice ka1 kn1 kc1), reqV (.slice a2 n2 c2) dial code opq quiet (.slice ka2 kn2 kc2)] w fun e w' => e = .returned (.bool true) ∧ Below w.heap.size w w' := by
  have hu31 := Try.underlying31
  have hu29 := Try.underlying29
  have hu39 := Try.underlying39
  have hu25 := Try.underlying25
  have hu27 := Try.underlying27
  have HK := Aside0.mk (And.intro k1 k2)
  have HT := Aside0.mk (fun W => texts_eq (.slice none 0 0) (.slice none 0 0) none W rfl rfl)
  have HT2 := Aside0.mk (fun W hB => texts_eq _ _ key W (k1.below hB) (k2.below hB))
  clear k1 k2
  obtain ⟨rfl, rfl, rfl⟩ := Value.slice.inj (show Value.slice a1 n1 c1 = .slice none 0 0 from h1)
  obtain ⟨rfl, rfl, rfl⟩ := Value.slice.inj (show Value.slice a2 n2 c2 = .slice none 0 0 from h2)
  unfold reqV
  go_enter Try.func17, Try.ntmps17
  go_wp2
  go_loopg [4, 7, 8] 0 (fun kq v4 v7 v8 w' => ∃ i : Nat, i + kq = 0 ∧ v7 = .int .i64 (i : Int) ∧ Aside0 (w'.heap[w.heap.size]? = some (.cells #[Value.slice none 0 0, Value.int .i64 dial, Value.string ⟨#[]⟩, Value.int .i64 code, Value.int .u32 opq, Value.bool quiet, Value.bool false, Value.string ⟨#[]⟩, Value.slice none 0 0, Value.slice ka1 kn1 kc1, Value.bool false] 31 (0, 0)) ∧ w'.heap[w.heap.size + 1]? = some (.cells #[Value.slice none 0 0, Value.int .i64 dial, Value.string ⟨#[]⟩, Value.int .i64 code, Value.int .u32 opq, Value.bool quiet, Value.bool false, Value.string ⟨#[]⟩, Value.slice none 0 0, Value.slice ka2 kn2 kc2, Value.bool false] 31 (0, 0)) ∧ w'.heap[w.heap.size + 2]? = some (.cells #[Value.int .i64 dial, Value.string ⟨#[]⟩, Value.int .i64 code, Value.int .u32 opq, Value.bool quiet, Value.bool false, Value.string ⟨#[]⟩, Value.slice none 0 0, Value.slice ka1 kn1 kc1, Value.bool false] 29 (0, 0)) ∧ w'.heap[w.heap.size + 3]? = some (.cells #[Value.int .i64 dial, Value.string ⟨#[]⟩, Value.int .i64 code, Value.int .u32 opq, Value.bool quiet, Value.bool false, Value.string ⟨#[]⟩, Value.slice none 0 0, Value.slice ka2 kn2 kc2, Value.bool false] 29 (0, 0)) ∧ Below w.heap.size w w'))
  case atStart =>
    obtain ⟨j0, j1, j2, j3⟩ := new4 w (.cells #[Value.slice none 0 0, Value.int .i64 dial, Value.string ⟨#[]⟩, Value.int .i64 code, Value.int .u32 opq, Value.bool quiet, Value.bool false, Value.string ⟨#[]⟩, Value.slice none 0 0, Value.slice ka1 kn1 kc1, Value.bool false] 31) (.cells #[Value.slice none 0 0, Value.int .i64 dial, Value.string ⟨#[]⟩, Value.int .i64 code, Value.int .u32 opq, Value.bool quiet, Value.bool false, Value.string ⟨#[]⟩, Value.slice none 0 0, Value.slice ka2 kn2 kc2, Value.bool false] 31) (.cells #[Value.int .i64 dial, Value.string ⟨#[]⟩, Value.int .i64 code, Value.int .u32 opq, Value.bool quiet, Value.bool false, Value.string ⟨#[]⟩, Value.slice none 0 0, Value.slice ka1 kn1 kc1, Value.bool false] 29) (.cells #[Value.int .i64 dial, Value.string ⟨#[]⟩, Value.int .i64 code, Value.int .u32 opq, Value.bool quiet, Value.bool false, Value.string ⟨#[]⟩, Value.slice none 0 0, Value.slice ka2 kn2 kc2, Value.bool false] 29)
    exact ⟨0, rfl, rfl, ⟨j0, j1, j2, j3, below_alloc (below_alloc (below_alloc (below_alloc (Below.refl _ _) _) _) _) _⟩⟩
  case round =>
    obtain ⟨i, hi, rfl, HH⟩ := hrel
    obtain ⟨j0, j1, j2, j3, hB⟩ := HH.out
    have HB := Aside0.mk hB
    obtain rfl : i = 0 := by omega
    obtain ⟨b0, b1, b2, b3, b4, b5, b6, b7, b8, b9, b10⟩ := cells11 j0
    obtain ⟨p0, p1, p2, p3, p4, p5, p6, p7, p8, p9⟩ := cells10 j2
    obtain ⟨q0, q1, q2, q3, q4, q5, q6, q7, q8, q9⟩ := cells10 j3
    clear j0 j1 j2 j3 hB
    go_wp2_with (first | (go_at_call 28; (with_reducible refine (HT.out _).mono ?_); rintro e w8 ⟨rfl, hB⟩; have HB8 := Aside0.mk (below_step HB.out hB); have i2 := blk_any hB HH.out.2.2.1; have i3 := blk_any hB HH.out.2.2.2.1; clear hB p0 p1 p2 p3 p4 p5 p6 p7 p8 p9 q0 q1 q2 q3 q4 q5 q6 q7 q8 q9; obtain ⟨p0, p1, p2, p3, p4, p5, p6, p7, p8, p9⟩ := cells10 i2; obtain ⟨q0, q1, q2, q3, q4, q5, q6, q7, q8, q9⟩ := cells10 i3; clear i2 i3) | (go_at_call 28; (with_reducible refine (HT2.out _ HB8.out).mono ?_); rintro e w9 ⟨rfl, hB⟩; have HB9 := Aside0.mk (below_step HB8.out hB); clear hB))
    go_ret
    exact ⟨rfl, HB9.out⟩
set_option maxHeartbeats 8000000 in
set_option maxRecDepth 100000 in
theorem requests_some (a1 : Option Addr) (n1 c1 : Nat) (a2 : Option Addr) (n2 c2 : Nat) (ka1 : Option Addr) (kn1 kc1 : Nat) (ka2 : Option Addr) (kn2 kc2 : Nat) (dial code opq : Int) (quiet : Bool) (key : Option ByteArray) (m : Cm) (w : World) (h1 : CmdAt w (.slice a1 n1 c1) (some m)) (h2 : CmdAt w (.slice a2 n2 c2) (some m)) (k1 : KeyAt w (.slice ka1 kn1 kc1) key) (k2 : KeyAt w (.slice ka2 kn2 kc2) key) :
    Calls Try.prog 17 #[reqV (.slice a1 n1 c1) dial code opq quiet (.slice ka1 kn1 kc1), reqV (.slice a2 n2 c2) dial code opq quiet (.slice ka2 kn2 kc2)] w fun e w' => e = .returned (.bool true) ∧ Below w.heap.size w w' := by
  have hu31 := Try.underlying31
  have hu29 := Try.underlying29
  have hu39 := Try.underlying39
  have hu25 := Try.underlying25
  have hu27 := Try.underlying27
  have HK := Aside0.mk (And.intro k1 k2)
  have HT := Aside0.mk (fun W => texts_eq (.slice none 0 0) (.slice none 0 0) none W rfl rfl)
  have HT2 := Aside0.mk (fun W hB => texts_eq _ _ key W (k1.below hB) (k2.below hB))
  clear k1 k2
  obtain ⟨g1, A1, d1, he1, hg1, hC1, _⟩ := h1
  obtain ⟨g2, A2, d2, he2, hg2, hC2, _⟩ := h2
  obtain ⟨rfl, rfl, rfl⟩ := Value.slice.inj he1
  obtain ⟨rfl, rfl, rfl⟩ := Value.slice.inj he2
  have HC := Aside0.mk (fun W hB => cmds_eq m A1 A2 d1 d2 W (Kd.C_below hC1 hB) (Kd.C_below hC2 hB))
  have HG := Aside0.mk (And.intro hg1 hg2)
  clear he1 he2 hg1 hg2 hC1 hC2
  unfold reqV
  go_enter Try.func17, Try.ntmps17
  go_wp2
  go_loopg [4, 7, 8] 1 (fun kq v4 v7 v8 w' => ∃ i : Nat, i + kq = 1 ∧ v7 = .int .i64 (i : Int) ∧ Aside0 (w'.heap[w.heap.size]? = some (.cells #[Value.slice (some ⟨g1, 0, none⟩) 1 1, Value.int .i64 dial, Value.string ⟨#[]⟩, Value.int .i64 code, Value.int .u32 opq, Value.bool quiet, Value.bool false, Value.string ⟨#[]⟩, Value.slice none 0 0, Value.slice ka1 kn1 kc1, Value.bool false] 31 (0, 0)) ∧ w'.heap[w.heap.size + 1]? = some (.cells #[Value.slice (some ⟨g2, 0, none⟩) 1 1, Value.int .i64 dial, Value.string ⟨#[]⟩, Value.int .i64 code, Value.int .u32 opq, Value.bool quiet, Value.bool false, Value.string ⟨#[]⟩, Value.slice none 0 0, Value.slice ka2 kn2 kc2, Value.bool false] 31 (0, 0)) ∧ w'.heap[w.heap.size + 2]? = some (.cells #[Value.int .i64 dial, Value.string ⟨#[]⟩, Value.int .i64 code, Value.int .u32 opq, Value.bool quiet, Value.bool false, Value.string ⟨#[]⟩, Value.slice none 0 0, Value.slice ka1 kn1 kc1, Value.bool false] 29 (0, 0)) ∧ w'.heap[w.heap.size + 3]? = some (.cells #[Value.int .i64 dial, Value.string ⟨#[]⟩, Value.int .i64 code, Value.int .u32 opq, Value.bool quiet, Value.bool false, Value.string ⟨#[]⟩, Value.slice none 0 0, Value.slice ka2 kn2 kc2, Value.bool false] 29 (0, 0)) ∧ Below w.heap.size w w'))
  case atStart =>
    obtain ⟨j0, j1, j2, j3⟩ := new4 w (.cells #[Value.slice (some ⟨g1, 0, none⟩) 1 1, Value.int .i64 dial, Value.string ⟨#[]⟩, Value.int .i64 code, Value.int .u32 opq, Value.bool quiet, Value.bool false, Value.string ⟨#[]⟩, Value.slice none 0 0, Value.slice ka1 kn1 kc1, Value.bool false] 31) (.cells #[Value.slice (some ⟨g2, 0, none⟩) 1 1, Value.int .i64 dial, Value.string ⟨#[]⟩, Value.int .i64 code, Value.int .u32 opq, Value.bool quiet, Value.bool false, Value.string ⟨#[]⟩, Value.slice none 0 0, Value.slice ka2 kn2 kc2, Value.bool false] 31) (.cells #[Value.int .i64 dial, Value.string ⟨#[]⟩, Value.int .i64 code, Value.int .u32 opq, Value.bool quiet, Value.bool false, Value.string ⟨#[]⟩, Value.slice none 0 0, Value.slice ka1 kn1 kc1, Value.bool false] 29) (.cells #[Value.int .i64 dial, Value.string ⟨#[]⟩, Value.int .i64 code, Value.int .u32 opq, Value.bool quiet, Value.bool false, Value.string ⟨#[]⟩, Value.slice none 0 0, Value.slice ka2 kn2 kc2, Value.bool false] 29)
    exact ⟨0, rfl, rfl, ⟨j0, j1, j2, j3, below_alloc (below_alloc (below_alloc (below_alloc (Below.refl _ _) _) _) _) _⟩⟩
  case round =>
    obtain ⟨i, hi, rfl, HH⟩ := hrel
    obtain ⟨j0, j1, j2, j3, hB⟩ := HH.out
    have HB := Aside0.mk hB
    by_cases hz : i = 0
    · subst hz
      obtain ⟨b0, b1, b2, b3, b4, b5, b6, b7, b8, b9, b10⟩ := cells11 j0
      obtain ⟨f0, f1, f2, f3, f4, f5, f6, f7, f8, f9, f10⟩ := cells11 j1
      obtain ⟨y0, y1, y2, y3, y4, y5, y6, y7, y8, y9⟩ := cells10 (blk_below HG.out.1 hB)
      obtain ⟨z0, z1, z2, z3, z4, z5, z6, z7, z8, z9⟩ := cells10 (blk_below HG.out.2 hB)
      have i1 : (0 : Int) < 1 := by decide
      unfold cmdV at HC
      clear j0 j1 j2 j3 hB
      go_wp2
      go_region_held3 (fun w' => w'.cell? ⟨w.heap.size, 0, none⟩ = some (Value.slice (some ⟨g1, 0, none⟩) 1 1) ∧ w'.cell? ⟨w.heap.size + 1, 0, none⟩ = some (Value.slice (some ⟨g2, 0, none⟩) 1 1) ∧ w'.cell? ⟨g1, 0, none⟩ = some (.int .i64 m.op) ∧ w'.cell? ⟨g1, 1, none⟩ = some (.string m.key) ∧ w'.cell? ⟨g1, 2, none⟩ = some (.slice A1 m.val.length d1) ∧ w'.cell? ⟨g1, 3, none⟩ = some (.int .u32 m.flags) ∧ w'.cell? ⟨g1, 4, none⟩ = some (.int .i64 m.exp) ∧ w'.cell? ⟨g1, 5, none⟩ = some (.int .u64 m.cas) ∧ w'.cell? ⟨g1, 6, none⟩ = some (.int .u64 m.delta) ∧ w'.cell? ⟨g1, 7, none⟩ = some (.int .u64 m.init) ∧ w'.cell? ⟨g1, 8, none⟩ = some (.bool m.makes) ∧ w'.cell? ⟨g1, 9, none⟩ = some (.bool false) ∧ w'.cell? ⟨g2, 0, none⟩ = some (.int .i64 m.op) ∧ w'.cell? ⟨g2, 1, none⟩ = some (.string m.key) ∧ w'.cell? ⟨g2, 2, none⟩ = some (.slice A2 m.val.length d2) ∧ w'.cell? ⟨g2, 3, none⟩ = some (.int .u32 m.flags) ∧ w'.cell? ⟨g2, 4, none⟩ = some (.int .i64 m.exp) ∧ w'.cell? ⟨g2, 5, none⟩ = some (.int .u64 m.cas) ∧ w'.cell? ⟨g2, 6, none⟩ = some (.int .u64 m.delta) ∧ w'.cell? ⟨g2, 7, none⟩ = some (.int .u64 m.init) ∧ w'.cell? ⟨g2, 8, none⟩ = some (.bool m.makes) ∧ w'.cell? ⟨g2, 9, none⟩ = some (.bool false)) (go_keep)
        ((first | (go_at_call 27; (refine (HC.out _ (by repeat (with_reducible first | exact HB.out | apply below_drew | apply pw_below_drewN))).mono ?_); rintro e w7 ⟨rfl, hB7⟩; have HJ := Aside0.mk (And.intro (blk_any hB7 (by first | exact HH.out.1 | exact blk_drewN HH.out.1 _)) (And.intro (blk_any hB7 (by first | exact HH.out.2.1 | exact blk_drewN HH.out.2.1 _)) (And.intro (blk_any hB7 (by first | exact HH.out.2.2.1 | exact blk_drewN HH.out.2.2.1 _)) (And.intro (blk_any hB7 (by first | exact HH.out.2.2.2.1 | exact blk_drewN HH.out.2.2.2.1 _)) (below_step (show Below w.heap.size w _ from by repeat (with_reducible first | exact HB.out | apply below_drew | apply pw_below_drewN)) hB7))))); clear hB7 b0 b1 b2 b3 b4 b5 b6 b7 b8 b9 b10 f0 f1 f2 f3 f4 f5 f6 f7 f8 f9 f10 y0 y1 y2 y3 y4 y5 y6 y7 y8 y9 z0 z1 z2 z3 z4 z5 z6 z7 z8 z9; obtain ⟨b0, b1, b2, b3, b4, b5, b6, b7, b8, b9, b10⟩ := cells11 HJ.out.1; obtain ⟨f0, f1, f2, f3, f4, f5, f6, f7, f8, f9, f10⟩ := cells11 HJ.out.2.1; obtain ⟨y0, y1, y2, y3, y4, y5, y6, y7, y8, y9⟩ := cells10 (blk_below HG.out.1 HJ.out.2.2.2.2); obtain ⟨z0, z1, z2, z3, z4, z5, z6, z7, z8, z9⟩ := cells10 (blk_below HG.out.2 HJ.out.2.2.2.2))))
      go_wp2
      go_roundg (gk - 1)
      case measure => omega
      case rel =>
        obtain ⟨j0, j1, j2, j3, hB⟩ := HJ.out
        exact ⟨1, by omega, rfl, ⟨by first | exact j0 | exact blk_drew j0, by first | exact j1 | exact blk_drew j1, by first | exact j2 | exact blk_drew j2, by first | exact j3 | exact blk_drew j3, by first | exact hB | exact below_drew hB⟩⟩
    · obtain rfl : i = 1 := by omega
      obtain ⟨b0, b1, b2, b3, b4, b5, b6, b7, b8, b9, b10⟩ := cells11 j0
      obtain ⟨p0, p1, p2, p3, p4, p5, p6, p7, p8, p9⟩ := cells10 j2
      obtain ⟨q0, q1, q2, q3, q4, q5, q6, q7, q8, q9⟩ := cells10 j3
      clear j0 j1 j2 j3 hB
      go_wp2_with (first | (go_at_call 28; (with_reducible refine (HT.out _).mono ?_); rintro e w8 ⟨rfl, hB⟩; have HB8 := Aside0.mk (below_step HB.out hB); have i2 := blk_any hB HH.out.2.2.1; have i3 := blk_any hB HH.out.2.2.2.1; clear hB p0 p1 p2 p3 p4 p5 p6 p7 p8 p9 q0 q1 q2 q3 q4 q5 q6 q7 q8 q9; obtain ⟨p0, p1, p2, p3, p4, p5, p6, p7, p8, p9⟩ := cells10 i2; obtain ⟨q0, q1, q2, q3, q4, q5, q6, q7, q8, q9⟩ := cells10 i3; clear i2 i3) | (go_at_call 28; (with_reducible refine (HT2.out _ HB8.out).mono ?_); rintro e w9 ⟨rfl, hB⟩; have HB9 := Aside0.mk (below_step HB8.out hB); clear hB))
      go_ret
      exact ⟨rfl, HB9.out⟩
set_option maxHeartbeats 8000000 in
set_option maxRecDepth 100000 in
theorem steps_eq (v1 v2 : Value) (s : St) (w : World) (h1 : StepAt w v1 s) (h2 : StepAt w v2 s) :
    Calls Try.prog 10 #[v1, v2] w fun e w' => e = .returned (.bool true) ∧ Below w.heap.size w w' := by
  have hu34 := Try.underlying34
  have hu31 := Try.underlying31
  have hu29 := Try.underlying29
  obtain ⟨cv1, kv1, rfl, hc1, hk1⟩ := h1
  obtain ⟨cv2, kv2, rfl, hc2, hk2⟩ := h2
  obtain ⟨a1, n1, c1, rfl⟩ := hc1.slice
  obtain ⟨a2, n2, c2, rfl⟩ := hc2.slice
  obtain ⟨ka1, kn1, kc1, rfl⟩ := hk1.slice
  obtain ⟨ka2, kn2, kc2, rfl⟩ := hk2.slice
  have HR : Aside0 (∀ W, Below w.heap.size w W → Calls Try.prog 17 #[reqV (.slice a1 n1 c1) s.dial s.code s.opq s.quiet (.slice ka1 kn1 kc1), reqV (.slice a2 n2 c2) s.dial s.code s.opq s.quiet (.slice ka2 kn2 kc2)] W fun e w' => e = .returned (.bool true) ∧ Below W.heap.size W w') := ⟨fun W hB => by
    cases hm : s.cmd with
    | none =>
      rw [hm] at hc1 hc2
      exact requests_none a1 n1 c1 a2 n2 c2 ka1 kn1 kc1 ka2 kn2 kc2 _ _ _ _ s.key W (hc1.below hB) (hc2.below hB) (hk1.below hB) (hk2.below hB)
    | some m =>
      rw [hm] at hc1 hc2
      exact requests_some a1 n1 c1 a2 n2 c2 ka1 kn1 kc1 ka2 kn2 kc2 _ _ _ _ s.key m W (hc1.below hB) (hc2.below hB) (hk1.below hB) (hk2.below hB)⟩
  clear hc1 hc2 hk1 hk2
  have e1 : (s.reply.toList == s.reply.toList) = true := by simp
  have e2 : (s.used == s.used) = true := by simp
  have e3 : (s.e == s.e) = true := by simp
  unfold stepV
  unfold reqV at HR
  go_enter Try.func10, Try.ntmps10
  go_wp2_with (go_at_call 17; (with_reducible refine (HR.out _ (below_alloc (below_alloc (Below.refl _ _) _) _)).mono ?_); rintro e w1 ⟨rfl, hB⟩; have HB := Aside0.mk (below_step (below_alloc (below_alloc (Below.refl _ _) _) _) hB); have k1 := blk_any hB (blk_alloc (blk_new w _) _); have k2 := blk_any hB (new2 w _ _); clear hB; obtain ⟨r0, r1, r2, r3, r4, r5, r6, r7, r8, r9, r10, r11, r12, r13, r14, r15⟩ := cells16 k1; obtain ⟨q0, q1, q2, q3, q4, q5, q6, q7, q8, q9, q10, q11, q12, q13, q14, q15⟩ := cells16 k2; clear k1 k2)
  go_ret
  exact ⟨by first | rfl | simp, by repeat (with_reducible first | exact HB.out | apply below_drew | apply pw_below_drewN)⟩
set_option maxHeartbeats 8000000 in
set_option maxRecDepth 100000 in
theorem requests_len (a2 : Option Addr) (n2 c2 : Nat) (ka : Option Addr) (kn kc : Nat) (dial code opq dial' code' opq' : Int) (q q' : Bool) (m : Cm) (w : World) (h2 : CmdAt w (.slice a2 n2 c2) (some m)) :
    Calls Try.prog 17 #[reqV (.slice none 0 0) dial code opq q (.slice none 0 0), reqV (.slice a2 n2 c2) dial' code' opq' q' (.slice ka kn kc)] w fun e w' => e = .returned (.bool false) ∧ Below w.heap.size w w' := by
  have hu31 := Try.underlying31
  have hu29 := Try.underlying29
  have hu39 := Try.underlying39
  have hu25 := Try.underlying25
  have hu27 := Try.underlying27
  obtain ⟨g2, A2, d2, he2, _, _, _⟩ := h2
  obtain ⟨rfl, rfl, rfl⟩ := Value.slice.inj he2
  clear he2
  unfold reqV
  go_enter Try.func17, Try.ntmps17
  go_wp2
  go_ret
  exact ⟨by first | rfl | simp, by repeat (with_reducible first | exact Below.refl _ _ | apply below_alloc | apply below_drew | apply pw_below_drewN)⟩
set_option maxHeartbeats 8000000 in
set_option maxRecDepth 100000 in
theorem steps_end  (w : World) :
    Calls Try.prog 10 #[badV ⟨#[]⟩ 0 3, badV ⟨#[]⟩ 0 9] w fun e w' => e = .returned (.bool false) ∧ Below w.heap.size w w' := by
  have hu34 := Try.underlying34
  have hu31 := Try.underlying31
  have hu29 := Try.underlying29
  have HR : Aside0 (∀ W, Below w.heap.size w W → Calls Try.prog 17 #[reqV (.slice none 0 0) 0 0 0 false (.slice none 0 0), reqV (.slice none 0 0) 0 0 0 false (.slice none 0 0)] W fun e w' => e = .returned (.bool true) ∧ Below W.heap.size W w') := ⟨fun W hB => requests_none none 0 0 none 0 0 none 0 0 none 0 0 0 0 0 false none W rfl rfl rfl rfl⟩
  unfold badV stepV
  unfold reqV at HR
  go_enter Try.func10, Try.ntmps10
  go_wp2_with (go_at_call 17; (with_reducible refine (HR.out _ (below_alloc (below_alloc (Below.refl _ _) _) _)).mono ?_); rintro e w1 ⟨rfl, hB⟩; have HB := Aside0.mk (below_step (below_alloc (below_alloc (Below.refl _ _) _) _) hB); have k1 := blk_any hB (blk_alloc (blk_new w _) _); have k2 := blk_any hB (new2 w _ _); clear hB; obtain ⟨r0, r1, r2, r3, r4, r5, r6, r7, r8, r9, r10, r11, r12, r13, r14, r15⟩ := cells16 k1; obtain ⟨q0, q1, q2, q3, q4, q5, q6, q7, q8, q9, q10, q11, q12, q13, q14, q15⟩ := cells16 k2; clear k1 k2)
  go_ret
  exact ⟨by first | rfl | simp, by repeat (with_reducible first | exact HB.out | apply below_drew | apply pw_below_drewN)⟩
set_option maxHeartbeats 8000000 in
set_option maxRecDepth 100000 in
theorem steps_fault (reply : ByteArray) (used : Int) (hr : reply.toList ≠ []) (w : World) :
    Calls Try.prog 10 #[badV ⟨#[]⟩ 0 3, badV reply used 2] w fun e w' => e = .returned (.bool false) ∧ Below w.heap.size w w' := by
  have hu34 := Try.underlying34
  have hu31 := Try.underlying31
  have hu29 := Try.underlying29
  have HR : Aside0 (∀ W, Below w.heap.size w W → Calls Try.prog 17 #[reqV (.slice none 0 0) 0 0 0 false (.slice none 0 0), reqV (.slice none 0 0) 0 0 0 false (.slice none 0 0)] W fun e w' => e = .returned (.bool true) ∧ Below W.heap.size W w') := ⟨fun W hB => requests_none none 0 0 none 0 0 none 0 0 none 0 0 0 0 0 false none W rfl rfl rfl rfl⟩
  have e1 : reply.toList.isEmpty = false := by cases h : reply.toList with
    | nil => exact absurd h hr
    | cons a t => rfl
  have e2 : (([] : List UInt8) == reply.toList) = false := by rw [beq_eq_false_iff_ne]; exact fun h => hr h.symm
  have e3 : ((⟨#[]⟩ : ByteArray).toList == reply.toList) = false := by rw [show (⟨#[]⟩ : ByteArray).toList = [] by rw [ByteArray.toList_eq]]; exact e2
  clear hr
  unfold badV stepV
  unfold reqV at HR
  go_enter Try.func10, Try.ntmps10
  go_wp2_with (go_at_call 17; (with_reducible refine (HR.out _ (below_alloc (below_alloc (Below.refl _ _) _) _)).mono ?_); rintro e w1 ⟨rfl, hB⟩; have HB := Aside0.mk (below_step (below_alloc (below_alloc (Below.refl _ _) _) _) hB); have k1 := blk_any hB (blk_alloc (blk_new w _) _); have k2 := blk_any hB (new2 w _ _); clear hB; obtain ⟨r0, r1, r2, r3, r4, r5, r6, r7, r8, r9, r10, r11, r12, r13, r14, r15⟩ := cells16 k1; obtain ⟨q0, q1, q2, q3, q4, q5, q6, q7, q8, q9, q10, q11, q12, q13, q14, q15⟩ := cells16 k2; clear k1 k2)
  go_ret
  exact ⟨by first | rfl | simp, by repeat (with_reducible first | exact HB.out | apply below_drew | apply pw_below_drewN)⟩
set_option maxHeartbeats 8000000 in
set_option maxRecDepth 100000 in
theorem steps_full (v2 : Value) (m : Cm) (s : St) (hm : s.cmd = some m) (w : World) (h2 : StepAt w v2 s) :
    Calls Try.prog 10 #[badV ⟨#[]⟩ 0 3, v2] w fun e w' => e = .returned (.bool false) ∧ Below w.heap.size w w' := by
  have hu34 := Try.underlying34
  have hu31 := Try.underlying31
  have hu29 := Try.underlying29
  obtain ⟨cv2, kv2, rfl, hc2, hk2⟩ := h2
  obtain ⟨a2, n2, c2, rfl⟩ := hc2.slice
  obtain ⟨ka2, kn2, kc2, rfl⟩ := hk2.slice
  rw [hm] at hc2
  have HR : Aside0 (∀ W, Below w.heap.size w W → Calls Try.prog 17 #[reqV (.slice none 0 0) 0 0 0 false (.slice none 0 0), reqV (.slice a2 n2 c2) s.dial s.code s.opq s.quiet (.slice ka2 kn2 kc2)] W fun e w' => e = .returned (.bool false) ∧ Below W.heap.size W w') := ⟨fun W hB => requests_len a2 n2 c2 ka2 kn2 kc2 0 0 0 _ _ _ false _ m W (hc2.below hB)⟩
  clear hc2 hk2 hm
  unfold badV stepV
  unfold reqV at HR
  go_enter Try.func10, Try.ntmps10
  go_wp2_with (go_at_call 17; (with_reducible refine (HR.out _ (below_alloc (below_alloc (Below.refl _ _) _) _)).mono ?_); rintro e w1 ⟨rfl, hB⟩; have HB := Aside0.mk (below_step (below_alloc (below_alloc (Below.refl _ _) _) _) hB); clear hB)
  go_ret
  exact ⟨by first | rfl | simp, by repeat (with_reducible first | exact HB.out | apply below_drew | apply pw_below_drewN)⟩
/-- What a packet asks for is an error with a reply, or one command. -/
theorem reqS_cases (code opq cas : Int) (x k : Nat) (body : List Int) : (∃ st, reqS code opq cas x k body = badS (strOfNums (faultL code st opq)) (24 + (body.length : Int)) 2) ∨ (∃ m q key, reqS code opq cas x k body = ⟨some m, 2, code, opq, q, key, ⟨#[]⟩, 24 + (body.length : Int), 0⟩) := by
  unfold reqS
  split
  · exact .inl ⟨_, rfl⟩
  · split
    · exact .inl ⟨_, rfl⟩
    · split
      · exact .inl ⟨_, rfl⟩
      · split
        · exact .inl ⟨_, rfl⟩
        · exact .inr ⟨_, _, _, rfl⟩
/-- A whole packet stands at the head of the bytes. -/
def Whole (l : List Int) : Prop := rd l 0 = 128 ∧ 24 ≤ l.length ∧ be (cut l 8 12) ≤ 2048 ∧ 24 + be (cut l 8 12) ≤ (l.length : Int)
theorem parse_whole {l : List Int} (h : Whole l) : parseS l = reqS (rd l 1) (be (cut l 12 16)) (be (cut l 16 24)) (rd l 4).toNat (be (cut l 2 4)).toNat (cut l 24 (24 + (be (cut l 8 12)).toNat)) := by
  obtain ⟨h1, h2, h3, h4⟩ := h
  unfold parseS
  rw [if_neg (by rintro rfl; simp at h2), if_neg (fun h => h h1), if_neg (by omega), if_neg (by omega), if_neg (by omega)]
theorem parse_cases (l : List Int) : parseS l = badS ⟨#[]⟩ 0 3 ∨ parseS l = badS ⟨#[]⟩ 0 9 ∨ Whole l := by
  unfold parseS
  by_cases h0 : l = []
  · rw [if_pos h0]; exact .inl rfl
  · rw [if_neg h0]
    by_cases h1 : rd l 0 = 128
    · rw [if_neg (fun h => h h1)]
      by_cases h2 : l.length < 24
      · rw [if_pos h2]; exact .inl rfl
      · rw [if_neg h2]
        by_cases h3 : 2048 < be (cut l 8 12)
        · rw [if_pos h3]; exact .inr (.inl rfl)
        · rw [if_neg h3]
          by_cases h4 : (l.length : Int) < 24 + be (cut l 8 12)
          · rw [if_pos h4]; exact .inl rfl
          · exact .inr (.inr ⟨h1, by omega, by omega, by omega⟩)
    · rw [if_pos h1]; exact .inr (.inl rfl)
theorem cut_app {l m : List Int} {a b : Nat} (h : b ≤ l.length) : cut (l ++ m) a b = cut l a b := by
  unfold cut
  rw [List.take_append_of_le_length h]
theorem rd_app {l m : List Int} {i : Nat} (h : i < l.length) : rd (l ++ m) i = rd l i := by
  simp [rd, List.getElem?_append_left h]
theorem whole_app {l m : List Int} (h : Whole l) : Whole (l ++ m) := by
  obtain ⟨h1, h2, h3, h4⟩ := h
  refine ⟨?_, by rw [List.length_append]; omega, by rw [cut_app (by omega)]; exact h3, by rw [cut_app (by omega), List.length_append]; omega⟩
  rw [show (0 : Int) = ((0 : Nat) : Int) from rfl, rd_app (by omega)]
  exact h1
theorem be_ok {l : List Int} (hb : ∀ x ∈ l, 0 ≤ x ∧ x ≤ 255) (a b : Nat) : 0 ≤ be (cut l a b) := (be_range _ (cut_bytes a b hb)).1
theorem body_len {l : List Int} (hb : ∀ x ∈ l, 0 ≤ x ∧ x ≤ 255) (h : Whole l) : ((cut l 24 (24 + (be (cut l 8 12)).toNat)).length : Int) = be (cut l 8 12) := by
  obtain ⟨h1, h2, h3, h4⟩ := h
  have := be_ok hb 8 12
  rw [cut_len _ _ _ (by omega)]
  omega
theorem parse_app {l m : List Int} (hb : ∀ x ∈ l, 0 ≤ x ∧ x ≤ 255) (h : (parseS l).e ≠ 3) : parseS (l ++ m) = parseS l := by
  rcases parse_cases l with h1 | h1 | h1
  · rw [h1] at h; exact absurd rfl h
  · -- the end: already the first byte, or the length, tells it
    have h2 : (l ≠ [] ∧ rd l 0 ≠ 128) ∨ (rd l 0 = 128 ∧ 24 ≤ l.length ∧ 2048 < be (cut l 8 12)) := by
      unfold parseS at h1
      by_cases c0 : l = []
      · rw [if_pos c0] at h1; exact absurd (congrArg St.e h1) (by decide)
      · by_cases c1 : rd l 0 = 128
        · rw [if_neg c0, if_neg (fun h => h c1)] at h1
          by_cases c2 : l.length < 24
          · rw [if_pos c2] at h1; exact absurd (congrArg St.e h1) (by decide)
          · rw [if_neg c2] at h1
            by_cases c3 : 2048 < be (cut l 8 12)
            · exact .inr ⟨c1, by omega, c3⟩
            · rw [if_neg c3] at h1
              by_cases c4 : (l.length : Int) < 24 + be (cut l 8 12)
              · rw [if_pos c4] at h1; exact absurd (congrArg St.e h1) (by decide)
              · rw [if_neg c4] at h1
                rcases reqS_cases (rd l 1) (be (cut l 12 16)) (be (cut l 16 24)) (rd l 4).toNat (be (cut l 2 4)).toNat (cut l 24 (24 + (be (cut l 8 12)).toNat)) with ⟨st, hr⟩ | ⟨m', q, key, hr⟩
                · rw [hr] at h1; exact absurd (congrArg St.e h1) (by decide : (2 : Int) ≠ 9)
                · rw [hr] at h1; exact absurd (congrArg St.e h1) (by decide : (0 : Int) ≠ 9)
        · exact .inl ⟨c0, c1⟩
    rw [h1]
    unfold parseS
    rcases h2 with ⟨c0, c1⟩ | ⟨c1, c2, c3⟩
    · have hl : 0 < l.length := List.length_pos_iff.2 c0
      have hr : rd (l ++ m) 0 = rd l 0 := rd_app (i := 0) hl
      rw [if_neg (by simp [c0]), hr, if_pos c1]
    · have hr : rd (l ++ m) 0 = rd l 0 := rd_app (i := 0) (by omega)
      rw [if_neg (by intro e; rw [(List.append_eq_nil_iff.1 e).1] at c2; simp at c2), hr, if_neg (fun h => h c1), if_neg (by rw [List.length_append]; omega), cut_app (by omega), if_pos c3]
  · rw [parse_whole h1, parse_whole (whole_app h1)]
    obtain ⟨c1, c2, c3, c4⟩ := h1
    have hz := be_ok hb 8 12
    rw [cut_app (a := 8) (b := 12) (by omega), cut_app (a := 12) (b := 16) (by omega), cut_app (a := 16) (b := 24) (by omega), cut_app (a := 2) (b := 4) (by omega), cut_app (a := 24) (by omega)]
    rw [show rd (l ++ m) 1 = rd l 1 from rd_app (i := 1) (by omega), show rd (l ++ m) 4 = rd l 4 from rd_app (i := 4) (by omega)]
theorem whole_used {l : List Int} (hb : ∀ x ∈ l, 0 ≤ x ∧ x ≤ 255) (h : Whole l) : (parseS l).used = 24 + be (cut l 8 12) ∧ ((parseS l).e = 0 ∨ (parseS l).e = 2) := by
  rw [parse_whole h]
  have hl := body_len hb h
  rcases reqS_cases (rd l 1) (be (cut l 12 16)) (be (cut l 16 24)) (rd l 4).toNat (be (cut l 2 4)).toNat (cut l 24 (24 + (be (cut l 8 12)).toNat)) with ⟨st, hr⟩ | ⟨m', q, key, hr⟩
  · rw [hr]; exact ⟨by show 24 + _ = _; rw [hl], .inr rfl⟩
  · rw [hr]; exact ⟨by show 24 + _ = _; rw [hl], .inl rfl⟩
theorem parse_take {l : List Int} (hb : ∀ x ∈ l, 0 ≤ x ∧ x ≤ 255) (h : Whole l) (q : Nat) (hq : (q : Int) < 24 + be (cut l 8 12)) : (parseS (l.take q)).e = 3 := by
  obtain ⟨c1, c2, c3, c4⟩ := h
  have hl : (l.take q).length = q := by rw [List.length_take]; omega
  have hcut : ∀ a b : Nat, b ≤ q → cut (l.take q) a b = cut l a b := fun a b hb' => by
    unfold cut
    rw [List.take_take, Nat.min_eq_left hb']
  have hrd : ∀ i : Nat, i < q → rd (l.take q) i = rd l i := fun i hi => by simp [rd, hi]
  unfold parseS
  by_cases c0 : l.take q = []
  · rw [if_pos c0]; rfl
  · have hq0 : 0 < q := by
      have := List.length_pos_iff.2 c0
      omega
    rw [if_neg c0, show rd (l.take q) 0 = rd l 0 from hrd 0 hq0, if_neg (fun h => h c1)]
    by_cases c5 : q < 24
    · rw [if_pos (by omega)]; rfl
    · rw [if_neg (by omega), hcut 8 12 (by omega), if_neg (by omega), if_pos (by omega)]
      rfl

/-! ### butteryref01_Put: function 14 -/
def butteryref01_Put.l0 : Nat → Int → List Int → Int → Option (List Int)
  | 0, _, _, _ => none
  | k + 1, x0, x5, x6 => if x6 ≥ 0 then (if 0 ≤ x6 then (if x6 < (x5.length : Int) then (butteryref01_Put.l0 k (IntKind.u64.wrap (Int.tdiv x0 256)) (x5.set (x6 : Int).toNat ((Int.tmod x0 256) % 256)) (wrap64 (x6 - 1))) else (none)) else (none)) else (some x5)
def butteryref01_Put.f (k : Nat) (a0 : Int) (a1 : Int) : Option (List Int) := if 0 ≤ a1 then (if (a1 : Int).toNat ≤ 281474976710656 then (butteryref01_Put.l0 k a0 (List.replicate (a1 : Int).toNat 0) (wrap64 (a1 - 1))) else (none)) else (none)
theorem butteryref01_Put.mono_l : ∀ k, (∀ y0 y1 y2, LeO (butteryref01_Put.l0 k y0 y1 y2) (butteryref01_Put.l0 (k + 1) y0 y1 y2))
  | 0 => fun _ _ _ r h => by simp [butteryref01_Put.l0] at h
  | k + 1 => by
    have ih0 := butteryref01_Put.mono_l k
    · intro y0 y1 y2
      unfold butteryref01_Put.l0
      repeat' first
      | (with_reducible exact ih0 _ _ _)
      | (with_reducible exact LeO.refl _)
      | (with_reducible exact LeO.none _)
      | (with_reducible refine LeO.ite ?_ ?_)
      | (with_reducible refine LeO.bind ?_ (fun _ => ?_))
      | exact ih0 _ _ _
      | exact LeO.none _
      | refine LeO.ite ?_ ?_
      | refine LeO.bind ?_ (fun _ => ?_)
theorem butteryref01_Put.mono : ∀ a0 a1 k, LeO (butteryref01_Put.f k a0 a1) (butteryref01_Put.f (k + 1) a0 a1) := by
  intro a0 a1 k
  have ih0 := butteryref01_Put.mono_l k
  unfold butteryref01_Put.f
  repeat' first
      | (with_reducible exact ih0 _ _ _)
      | (with_reducible exact LeO.refl _)
      | (with_reducible exact LeO.none _)
      | (with_reducible refine LeO.ite ?_ ?_)
      | (with_reducible refine LeO.bind ?_ (fun _ => ?_))
      | exact ih0 _ _ _
      | exact LeO.none _
      | refine LeO.ite ?_ ?_
      | refine LeO.bind ?_ (fun _ => ?_)
set_option maxHeartbeats 8000000 in
set_option maxRecDepth 100000 in
theorem butteryref01_Put.calls (k : Nat) (a0 : Int) (a1 : Int) (r : List Int) (w : World) (h : butteryref01_Put.f k a0 a1 = some r) :
    Calls Try.prog 14 #[.int .u64 a0, .int .i64 a1] w fun e w' => ∃ v0_ : Value, e = .returned (v0_) ∧ Kd.R (Kd.int .u8) 5 w' w.heap.size (fun _ => True) v0_ r ∧ Below w.heap.size w w' := by
  have HB := Aside0.mk (Below.refl w.heap.size w)
  have H : (if 0 ≤ a1 then (if (a1 : Int).toNat ≤ 281474976710656 then (butteryref01_Put.l0 k a0 (List.replicate (a1 : Int).toNat 0) (wrap64 (a1 - 1))) else (none)) else (none)) = some r := h
  clear h
  by_cases c3 : 0 ≤ a1
  · rw [if_pos c3] at H
    have c3b0 := eq_true c3
    have c3b1 : decide (0 ≤ a1) = true := decide_eq_true c3
    clear c3
    by_cases c4 : (a1 : Int).toNat ≤ 281474976710656
    · rw [if_pos c4] at H
      have c4b0 := eq_true c4
      have c4b1 : decide ((a1 : Int).toNat ≤ 281474976710656) = true := decide_eq_true c4
      clear c4
      obtain ⟨y116, hy116⟩ : ∃ y_ : List Int, y_ = (List.replicate (a1 : Int).toNat 0) := ⟨_, rfl⟩
      replace H : (butteryref01_Put.l0 k a0 y116 (wrap64 (a1 - 1))) = some r := by first | (rw [hy116]; with_reducible exact H) | (have H2_ := (Option.bind_some _ _).symm.trans H; rw [hy116]; with_reducible exact H2_) | (have H2_ := (Option.bind_some _ _).symm.trans H; with_reducible exact H2_) | with_reducible exact H | (rw [hy116]; exact H) | exact H
      have Ny116 := Aside0.mk hy116
      clear hy116
      have H' := Aside0.mk H
      clear H
      go_enter Try.func14, Try.ntmps14
      go_wp2_with (first | ((with_reducible refine gate_dst (N := 8) rfl ?_); refine Kd.R_make (Kd.int .u8) _ 5 rfl (N := 8) rfl 22 _ _ rfl a1 rfl rfl Try.underlying22 (.int .u8 0) 1 info5 rfl (by decide) (by omega) 0 (ok := fun _ => True) (okp := fun _ => True) rfl (fun _ hk => hk) trivial (of_decide_eq_true (by first | (with_reducible assumption) | assumption)) (Nat.le_trans (Nat.mul_le_mul_right _ (of_decide_eq_true (by first | (with_reducible assumption) | assumption) : a1.toNat ≤ 281474976710656)) (by omega)) (Below.refl _ _) (Nat.le_refl _) ?_; intro v117 w5 ho6 hb hg_ hnew_; clear hg_ hnew_; (first | rw [← Ny116.out] at ho6 | (simp only [Int.reduceToNat] at ho6; rw [← Ny116.out] at ho6)); have n0_ := Aside0.mk (Kd.R_lower ho6 (below_size (by repeat (first | (with_reducible first | exact HB.out | apply below_alloc | apply pw_below_drewN | apply below_drew1) | exact HB.out)))); have n1_ := Aside0.mk (below_step (by repeat (first | (with_reducible first | exact HB.out | apply below_alloc | apply pw_below_drewN | apply below_drew1) | exact HB.out)) hb); clear HB; have HO118 := n0_; have HB := n1_; clear n0_ n1_; clear hb ho6))
      go_loopg [0, 6] k (fun kq v0 v6 w' => ∃ (x0_1 : Int) (x5_1 : List Int) (x6_1 : Int), v0 = .int .u64 x0_1 ∧ v6 = .int .i64 x6_1 ∧ Aside0 (butteryref01_Put.l0 kq x0_1 x5_1 x6_1 = some r) ∧ Aside0 (kq ≤ k) ∧ Aside0 (Kd.R (Kd.int .u8) 5 w' w.heap.size (fun _ => True) v117 x5_1) ∧ Aside0 (Below w.heap.size w w'))
      case atStart => exact ⟨(a0), (y116), (wrap64 (a1 - 1)), (by first | rfl | (simp; done) | (simp [*]; done)), (by first | rfl | (simp; done) | (simp [*]; done)), H', ⟨Nat.le_refl _⟩, ⟨by (with_reducible repeat (first | apply Kd.R_alloc | apply Kd.R_drewN | apply Kd.R_drew)); exact HO118.out⟩, ⟨by repeat (first | (with_reducible first | exact HB.out | apply below_alloc | apply pw_below_drewN | apply below_drew1) | exact HB.out)⟩⟩
      case round =>
        clear H'
        try clear c1
        try clear p2
        try clear c3
        try clear c3b0
        try clear c3b1
        try clear c4
        try clear c4b0
        try clear c4b1
        try clear p6
        obtain ⟨x0_1, x5_1, x6_1, rfl, rfl, HA, HK1, HO_5, HB⟩ := hrel
        cases gk with
        | zero => exact absurd HA.out (by simp [butteryref01_Put.l0])
        | succ k1 =>
          have H := HA.out
          clear HA
          simp only [butteryref01_Put.l0] at H
          by_cases c7 : x6_1 ≥ 0
          · rw [if_pos c7] at H
            have c7b0 : decide (0 ≤ x6_1) = true := decide_eq_true c7
            clear c7
            by_cases c8 : 0 ≤ x6_1
            · rw [if_pos c8] at H
              have c8b0 : decide (0 ≤ x6_1) = true := decide_eq_true c8
              clear c8
              by_cases c9 : x6_1 < (x5_1.length : Int)
              · rw [if_pos c9] at H
                have c9b0 : decide (x6_1 < (x5_1.length : Int)) = true := decide_eq_true c9
                clear c9
                obtain ⟨y119, hy119⟩ : ∃ y_ : List Int, y_ = (x5_1.set (x6_1 : Int).toNat ((Int.tmod x0_1 256) % 256)) := ⟨_, rfl⟩
                replace H : (butteryref01_Put.l0 k1 (IntKind.u64.wrap (Int.tdiv x0_1 256)) y119 (wrap64 (x6_1 - 1))) = some r := by first | (rw [hy119]; with_reducible exact H) | (have H2_ := (Option.bind_some _ _).symm.trans H; rw [hy119]; with_reducible exact H2_) | (have H2_ := (Option.bind_some _ _).symm.trans H; with_reducible exact H2_) | with_reducible exact H | (rw [hy119]; exact H) | exact H
                have Ny119 := Aside0.mk hy119
                clear hy119
                have H' := Aside0.mk H
                clear H
                have p10 : 0 ≤ (x6_1 : Int) := of_decide_eq_true (by first | (with_reducible assumption) | assumption)
                have q10 : (x6_1 : Int) < ((x5_1.length : Int) : Int) := of_decide_eq_true (by first | (with_reducible assumption) | assumption)
                obtain ⟨go10, co10, eo10, gb10, gl10, cl10, HG10⟩ := Kd.R_form HO_5.out (by omega)
                (first | cases eo10 | (injection eo10 with ea_ en_ ec_; (first | subst ea_ | (injection ea_ with ea_; subst ea_)); subst ec_; clear en_))
                have GB10 := Aside0.mk gb10
                have GG10 := Aside0.mk HG10
                clear gb10 gl10 HG10
                obtain ⟨hx10_0, hf10_0⟩ := Kd.R_celln 0 HO_5.out (x6_1 : Int) p10 q10
                replace p10 := eq_true p10
                replace q10 := eq_true q10
                have HP11 := Kd.R_putg HO_5.out (x6_1 : Int) ((Int.tmod x0_1 256) % 256)
                go_wp2_with (first | ((with_reducible refine gate_store (t := 5) (p := 20) rfl ?_); refine store_event (t := 5) (p := 20) (v := ?vo_w12) (w1 := (wr.setCell ⟨go10, (x6_1 : Int).toNat, none⟩ (.int .u8 ((Int.tmod x0_1 256) % 256)))) ?hg ?ho ?hn ?hr ?_; (case ho => rfl); (case hg => rfl); (case hn => rfl); (case hr => first | (go_simp; done) | (go_simp; rfl)); intro w12 hw; have hg : wr.grownBy w12 (some go10) := (by rw [hw]; exact HP11.2); have hp_ : Kd.R (Kd.int .u8) 5 w12 w.heap.size (fun _ => True) (.slice (some ⟨go10, 0, none⟩) x5_1.length co10) y119 := (by rw [hw, Ny119.out]; exact HP11.1); clear HP11; have n0_ := Aside0.mk (hp_); have n1_ := Aside0.mk ((by rw [hw]; exact below_set (HB.out) GB10.out : Below w.heap.size w w12)); clear HO_5; clear HB; have HO_5 := n0_; have HB := n1_; clear n0_ n1_; clear hg hw hp_))
                go_roundg k1
                case measure => have := HK1.out; omega
                case rel => exact ⟨(IntKind.u64.wrap (Int.tdiv x0_1 256)), (y119), (wrap64 (x6_1 - 1)), (by first | rfl | (simp; done) | (simp [*]; done)), (by first | rfl | (simp; done) | (simp [*]; done)), H', ⟨by have := HK1.out; omega⟩, ⟨by (with_reducible repeat (first | apply Kd.R_alloc | apply Kd.R_drewN | apply Kd.R_drew)); exact HO_5.out⟩, ⟨by repeat (first | (with_reducible first | exact HB.out | apply below_alloc | apply pw_below_drewN | apply below_drew1) | exact HB.out)⟩⟩
              · rw [if_neg c9] at H
                exact absurd H (by simp)
            · rw [if_neg c8] at H
              exact absurd H (by simp)
          · rw [if_neg c7] at H
            have c7b0 : decide (0 ≤ x6_1) = false := decide_eq_false c7
            clear c7
            obtain rfl := Option.some.inj H
            go_wp2
            go_ret
            exact ⟨_, by first | rfl | (simp [errW_none, errW_some] <;> rfl) | (simp [*, errW_none, errW_some] <;> rfl), by (with_reducible repeat (first | apply Kd.R_alloc | apply Kd.R_drewN | apply Kd.R_drew)); exact HO_5.out, by repeat (first | (with_reducible first | exact HB.out | apply below_alloc | apply pw_below_drewN | apply below_drew1) | exact HB.out)⟩
    · rw [if_neg c4] at H
      exact absurd H (by simp)
  · rw [if_neg c3] at H
    exact absurd H (by simp)

end Go.Proofs.Ytkbhnnmngmdkdaa.Hp
