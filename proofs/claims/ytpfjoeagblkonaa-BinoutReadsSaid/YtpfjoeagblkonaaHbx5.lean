-- Written by this session's own program (wip/hprint.py) out of the translation, over hand-proved contracts. Lean checks it.
import Derived.Test.YtpfjoeagblkonaaHbx0
import Derived.Test.YtpfjoeagblkonaaHbx1
import Derived.Test.YtpfjoeagblkonaaHbx4
namespace Go.Proofs.Ytpfjoeagblkonaa.Hb
open Go.RowKit Go.Proofs.YtpfjoeagblkonaaW.PrintWords Go.Proofs.YtpfjoeagblkonaaW.PrintLast Go.Proofs.YtpfjoeagblkonaaW.PrintMore
attribute [local go_sem] max2_int min2_int max_two min_two max_three min_three max_four min_four   -- for this text's walks alone
set_option linter.unusedVariables false
set_option linter.unusedSimpArgs false

/-! ### butterylaw17_BinoutReads: function 3 -/
theorem readIs_eq {l : List Int} {r s : Res} (h : ReadIs l r) (h' : ReadIs l s) : r = s := by
  by_cases h1 : ReadNone l ∨ ReadShort l
  · rw [h.1 h1, h'.1 h1]
  · rw [h.2 (fun a => h1 (.inl a)) (fun a => h1 (.inr a)), h'.2 (fun a => h1 (.inl a)) (fun a => h1 (.inr a))]
def butterylaw17_BinoutReads.Ok (l0 : List Int) : Prop := ∀ x ∈ l0, 0 ≤ x ∧ x ≤ 255
def butterylaw17_BinoutReads.f (l0 : List Int) : Option Bool := @ite _ (butterylaw17_BinoutReads.Ok l0) (by unfold butterylaw17_BinoutReads.Ok; infer_instance) (some true) none
set_option maxHeartbeats 4000000 in
set_option maxRecDepth 100000 in
theorem reads_long (A0 : Option Addr) (c0 : Nat) (l0 : List Int) (w : World) (h : 5000 < l0.length) : Calls Try.prog 3 #[.slice A0 l0.length c0] w fun e w' => e = .returned (.bool true) ∧ Below w.heap.size w w' := by
  have t1 : decide ((l0.length : Int) > 5000) = true := decide_eq_true (by omega)
  have HA := Aside0.mk (awake_w w)
  clear h
  go_enter Try.func3, Try.ntmps3
  go_wp2_with (go_at_call 6; refine HA.out.mono ?_; rintro e w1 ⟨rfl, hB⟩; have HB := Aside0.mk hB; clear hB)
  go_ret
  exact ⟨rfl, HB.out⟩
set_option maxHeartbeats 8000000 in
set_option maxRecDepth 100000 in
theorem reads_short (A0 : Option Addr) (c0 : Nat) (l0 : List Int) (w : World) (hr0 : Kd.C (Kd.int .u8) w A0 l0.length l0) (hc0 : l0.length ≤ c0) (hb : ∀ x ∈ l0, 0 ≤ x ∧ x ≤ 255) (h : l0.length ≤ 5000) : Calls Try.prog 3 #[.slice A0 l0.length c0] w fun e w' => e = .returned (.bool true) ∧ Below w.heap.size w w' := by
  have t1 : decide ((l0.length : Int) > 5000) = false := decide_eq_false (by omega)
  have HA := Aside0.mk (awake_w w)
  have HR := Aside0.mk (fun W (hB : Below w.heap.size w W) => binout_Read.calls A0 c0 l0 W (Kd.C_below hr0 hB) hc0 hb (by omega))
  have HF := Aside0.mk (fun W (hB : Below w.heap.size w W) => butteryref17_Read.calls A0 c0 l0 W (Kd.C_below hr0 hB) hc0 hb (by omega))
  clear h hr0 hc0 hb
  generalize l0.length = n0 at *
  have hu31 := Try.underlying31
  have hu27 := Try.underlying27
  have hu22 := Try.underlying22
  go_enter Try.func3, Try.ntmps3
  go_wp2_with (first | (go_at_call 6; refine HA.out.mono ?_; rintro e w1 ⟨rfl, hB⟩; have HB := Aside0.mk hB; clear hB HA) | (go_at_call 7; refine (HR.out _ (by repeat (with_reducible first | exact HB.out | apply below_alloc))).mono ?_; rintro e w2 ⟨r, A1, A2, A3, d1, d2, d3, rfl, hC1, hC2, hC3, _, _, _, hB, hR⟩; have HB2 := Aside0.mk (below_step HB.out hB); have HC := Aside0.mk (And.intro hC1 (And.intro hC2 hC3)); have HI := Aside0.mk hR; clear hB HB hC1 hC2 hC3 hR HR) | (go_at_call 8; refine (HF.out _ (by repeat (with_reducible first | exact HB2.out | apply below_alloc))).mono ?_; rintro e w3 ⟨s, B1, B2, B3, e1, e2, e3, rfl, hC1, hC2, hC3, hB, hR⟩; obtain rfl := readIs_eq HI.out hR; have hBw := below_step (below_alloc (Below.refl _ _) _) hB; have hk := blk_below (blk_new w2 _) hB; have g0 : ∀ o : Obj, (w3.alloc o).cell? ⟨w2.heap.size, 0, none⟩ = some (.slice A1 r.x.length d1) := fun o => blk_cell (blk_alloc hk o) 0; have g1 : ∀ o : Obj, (w3.alloc o).cell? ⟨w2.heap.size, 1, none⟩ = some (.slice A2 r.k.length d2) := fun o => blk_cell (blk_alloc hk o) 1; have g2 : ∀ o : Obj, (w3.alloc o).cell? ⟨w2.heap.size, 2, none⟩ = some (.slice A3 r.v.length d3) := fun o => blk_cell (blk_alloc hk o) 2; have kA1 : ∀ o : Obj, (convert 22 9 (.slice A1 r.x.length d1)).run Try.prog (w3.alloc o) = .ok (.string (strOfNums r.x)) (w3.alloc o) := fun o => Kd.C_string Try.underlying22 Try.underlying5 Try.underlying9 (Kd.C_alloc (Kd.C_below HC.out.1 hBw) o); have kA2 : ∀ o : Obj, (convert 22 9 (.slice A2 r.k.length d2)).run Try.prog (w3.alloc o) = .ok (.string (strOfNums r.k)) (w3.alloc o) := fun o => Kd.C_string Try.underlying22 Try.underlying5 Try.underlying9 (Kd.C_alloc (Kd.C_below HC.out.2.1 hBw) o); have kA3 : ∀ o : Obj, (convert 22 9 (.slice A3 r.v.length d3)).run Try.prog (w3.alloc o) = .ok (.string (strOfNums r.v)) (w3.alloc o) := fun o => Kd.C_string Try.underlying22 Try.underlying5 Try.underlying9 (Kd.C_alloc (Kd.C_below HC.out.2.2 hBw) o); have kB1 : ∀ o : Obj, (convert 22 9 (.slice B1 r.x.length e1)).run Try.prog (w3.alloc o) = .ok (.string (strOfNums r.x)) (w3.alloc o) := fun o => Kd.C_string Try.underlying22 Try.underlying5 Try.underlying9 (Kd.C_alloc hC1 o); have kB2 : ∀ o : Obj, (convert 22 9 (.slice B2 r.k.length e2)).run Try.prog (w3.alloc o) = .ok (.string (strOfNums r.k)) (w3.alloc o) := fun o => Kd.C_string Try.underlying22 Try.underlying5 Try.underlying9 (Kd.C_alloc hC2 o); have kB3 : ∀ o : Obj, (convert 22 9 (.slice B3 r.v.length e3)).run Try.prog (w3.alloc o) = .ok (.string (strOfNums r.v)) (w3.alloc o) := fun o => Kd.C_string Try.underlying22 Try.underlying5 Try.underlying9 (Kd.C_alloc hC3 o); have HB3 := Aside0.mk (below_step HB2.out hBw); clear hB hBw hk hC1 hC2 hC3 hR HB2 HC HI HF))
  go_ret
  exact ⟨by first | rfl | simp, by repeat (with_reducible first | exact HB3.out | apply below_alloc)⟩
theorem butterylaw17_BinoutReads.calls (A0 : Option Addr) (c0 : Nat) (l0 : List Int) (r : Bool) (w : World) (hr0 : Kd.C (Kd.int .u8) w A0 l0.length l0) (hc0 : l0.length ≤ c0) (h : butterylaw17_BinoutReads.f l0 = some r) :
    Calls Try.prog 3 #[.slice A0 l0.length c0] w fun e w' => e = .returned (.bool r) ∧ Below w.heap.size w w' := by
  unfold butterylaw17_BinoutReads.f at h
  by_cases hO : butterylaw17_BinoutReads.Ok l0
  · rw [if_pos hO] at h
    obtain rfl := Option.some.inj h
    by_cases hl : 5000 < l0.length
    · exact reads_long A0 c0 l0 w hl
    · exact reads_short A0 c0 l0 w hr0 hc0 hO (by omega)
  · rw [if_neg hO] at h; cases h

/-- THE ONE PURE STATEMENT of butterylaw17_BinoutReads: yours. -/
def butterylaw17_BinoutReads.Pure : Prop := ∀ (l0 : List Int), l0.length ≤ maxLen → l0.length * 1 ≤ 140737488351232 → (∀ x ∈ l0, (Lit.int .u8 x).wf = true) → butterylaw17_BinoutReads.f l0 = some true
theorem butterylaw17_BinoutReads.walk (P : butterylaw17_BinoutReads.Pure) (a0 : Option Addr) (len0 cap0 : Nat) (z0 : List Int) (w : World) (w0 : (a0 = none ∧ len0 = 0 ∧ cap0 = 0 ∧ z0 = []) ∨ ∃ x, a0 = some x ∧ len0 ≤ cap0 ∧ cap0 ≤ maxLen ∧ z0.length = cap0 ∧ (∀ i, i < z0.length → w.cell? (x.add i) = some (.int .u8 (z0.getD i 0))) ∧ ∀ n ∈ z0, (Lit.int .u8 n).wf = true) (y0 : len0 * 1 ≤ 140737488351232) :
    Calls Try.prog 3 #[.slice a0 len0 cap0] w fun e w' => e = .returned (.bool true) ∧ Below w.heap.size w w' := by
  obtain ⟨l0, rfl, hr0, hm0, hw0, hc0⟩ := ReadsInt.ofRowC w0
  have h := P l0 hm0 y0 hw0
  refine (butterylaw17_BinoutReads.calls _ _ l0 true w (Kd.C_of_reads (d := (0 : Int)) (h1 := fun _ => rfl) hr0) hc0 h).mono ?_
  rintro e w' ⟨rfl, hd⟩
  exact ⟨rfl, hd⟩

end Go.Proofs.Ytpfjoeagblkonaa.Hb
