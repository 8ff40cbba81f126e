-- Written by this session's own program (wip/hprint.py) out of the translation, over hand-proved contracts. Lean checks it.
import Derived.Test.YtpfjoeagblkonaaRows
import Derived.Test.YtpfjoeagblkonaaHbx7
import Derived.Test.YtpfjoeagblkonaaPureBinoutSilent
import Derived.WalkKit
import Derived.ProofKit
import Derived.OpenShut
import Derived.ShutString
import Derived.ChangeOld
import Derived.Below
import Derived.SizedLaws
import Derived.Deep.Slices
import Derived.Test.YtpfjoeagblkonaaWSized
namespace Go.Proofs.Ytpfjoeagblkonaa.binoutSilent
open Go.ChangeShapes Go.WideShapes Go.ChangeAt Go.RowKit
open Go.ChangeMaps (open_string shut_string)
open Go.Proofs.Ytpfjoeagblkonaa.Hb Go.Proofs.YtpfjoeagblkonaaW.PrintWords
set_option linter.unusedVariables false
theorem own : ownKnob Try.prog.godebug = none := by kernel_rfl
theorem laidOut : laidOutB Try.prog = true := by kernel_rfl
set_option maxRecDepth 100000 in
theorem lifted (os : Os) (started : os.Started) (H : Type) (enc : TypeId × Value → H) :
    ReturnsInHanded {} Try.checked os 4 .any (Rows.binoutSilentSpec.pre6 enc Try.prog Try.f4 Rows.binoutSilentRow.domain false) (Rows.binoutSilentSpec.post enc Try.prog Try.f4 false true false false) := by
  refine returnsInHanded_of_change_sized (C := Try.checked) own started (by kernel_rfl) Try.func4
    (ChangeSpec.witness6 (enc := enc) (C := Try.checked) false ⟨#[], #[.agg #[.slice none 0 0, .int .i64 0, .string ByteArray.empty, .int .i64 0, .int .u32 0, .bool false, .bool false, .string ByteArray.empty, .slice none 0 0, .slice none 0 0, .bool false], .slice none 0 0], []⟩ 8 (by kernel_rfl) (by kernel_rfl) (by kernel_rfl) (by kernel_rfl)) ?_
  intro W base args ds gs before hval0 hW hcnd hsz0 _
  have hsz : (DataW.weightsEach Try.prog (Try.f4.params.toList ++ Rows.binoutSilentSpec.plain.varTypes Try.prog) (ds ++ gs)).all (· ≤ reachBytes) = true := hsz0
  have hval : ∀ (j : Nat) t v, Try.f4.params[j]? = some t → args[j]? = some v → Value.okWide Try.prog W .any base t v := hval0
  have hW' := hW
  obtain ⟨p, q, hA0, hV, rfl, hfz, hnd⟩ := hW
  have hA : DataW.TrodAll enc Try.prog W 0 (fun _ => true) true Try.f4.params.toList args.toList ds p := hA0
  rw [Try.params4] at hA hval hsz
  obtain ⟨v0, vs0, d0, ds0, p0, q0, hargs, rfl, rfl, h0, r0⟩ := trodAll_cons hA
  obtain ⟨v1, vs1, d1, ds1, p1, q1, rfl, rfl, rfl, h1, r1⟩ := trodAll_cons r0
  obtain ⟨rfl, rfl, rfl⟩ := trodAll_nil r1
  obtain rfl : args = #[v0, v1] := by cases args; simp_all
  obtain ⟨rfl, rfl⟩ := trodVars_none hV
  have k0 := h0
  have lt0 : ∀ x ∈ p0, x.block < W.heap.size := by obtain ⟨m, hm⟩ := k0; exact DataW.trod_lt m _ _ _ hm
  obtain ⟨cs0, rfl, hs0⟩ := okWide_struct Try.underlying39 (hval 0 39 v0 rfl rfl)
  obtain ⟨x0, hk0, o0⟩ : ∃ x, k39.K W x cs0.toList ∧ ok39 x := by
    obtain ⟨fuel, hf⟩ := h0
    exact tells39 _ _ _ hf
  obtain ⟨A0_0, c0_0, A0_8, c0_8, A0_9, c0_9, e0, hc0_0, hr0_0, hc0_8, hr0_8, hc0_9, hr0_9⟩ := k39_open hk0
  obtain rfl : cs0 = #[.slice A0_0 x0.f0.length c0_0, .int .i64 x0.f1.f0, .string x0.f1.f1, .int .i64 x0.f1.f2, .int .u32 x0.f1.f3, .bool x0.f1.f4, .bool x0.f1.f5, .string x0.f1.f6, .slice A0_8 x0.f1.f7.length c0_8, .slice A0_9 x0.f1.f8.length c0_9, .bool x0.f1.f9] := Array.toList_inj.1 e0
  have k1 := h1
  have lt1 : ∀ x ∈ p1, x.block < W.heap.size := by obtain ⟨m, hm⟩ := k1; exact DataW.trod_lt m _ _ _ hm
  obtain ⟨a1, len1, cap1, rfl⟩ := okWide_slice Try.underlying40 (hval 1 40 v1 rfl rfl)
  obtain ⟨l1, A1, c1, e1, hc1, hr1, o1⟩ : ∃ (l : List (S46)) (A : Option Addr) (c : Nat), .slice a1 len1 cap1 = Value.slice A l.length c ∧ l.length ≤ c ∧ Kd.C k46 W A l.length l ∧ (fun l => l.length ≤ maxLen ∧ ∀ x ∈ l, ok46 x) l := by
    obtain ⟨fuel, hf⟩ := h1
    obtain ⟨l, ⟨A, c, e, hl, hC⟩, ho⟩ := (tells_slice Try.underlying40 (by kernel_rfl) tells46) _ _ _ hf
    refine ⟨l, A, c, ?_, hl, hC, ho⟩
    simpa [Value.cells] using e
  injection e1 with ea1 el1 ec1
  subst ea1 el1 ec1
  clear hA0 hval0 hsz0 hsz
  obtain ⟨k, hp⟩ := Pure.BinoutSilent x0.f0 x0.f1.f0 x0.f1.f1 x0.f1.f2 x0.f1.f3 x0.f1.f4 x0.f1.f5 x0.f1.f6 x0.f1.f7 x0.f1.f8 x0.f1.f9 l1 o0.1 o0.2.1 o0.2.2.1 o0.2.2.2.1 o0.2.2.2.2.1 o0.2.2.2.2.2.2.2.1 o0.2.2.2.2.2.2.2.2.1 o0.2.2.2.2.2.2.2.2.2.1 o1
  refine (butterylaw17_BinoutSilent.calls k _ _ x0.f0 x0.f1.f0 x0.f1.f1 x0.f1.f2 x0.f1.f3 x0.f1.f4 x0.f1.f5 x0.f1.f6 _ _ x0.f1.f7 _ _ x0.f1.f8 x0.f1.f9 _ _ l1 true W hr0_0 hc0_0 hr0_8 hc0_8 hr0_9 hc0_9 hr1 hc1 hp).mono fun e W' ⟨he, hb⟩ => ?_
  have bel : Below W.heap.size W W' := hb
  subst he
  exact ⟨_, rfl, _, _, _, [], _, [], hW', trodAll_mk1 (shut_bool Try.underlying4 _), (trodAll_cons_mk (Below.trod laidOut (by kernel_rfl) (of_decide_eq_true (by kernel_rfl)) k0 bel lt0) (trodAll_cons_mk (Below.trod laidOut (by kernel_rfl) (of_decide_eq_true (by kernel_rfl)) k1 bel lt1) trodAll_mk0)), rfl, bel.frame _, fun h => by cases h⟩
theorem over : Rows.binoutSilentRow.holds Try.pinned (OpenSpec.ofChange Rows.binoutSilentSpec) :=
  OpenClaim.holds_of_wide 4 Try.f4 rfl rfl rfl rfl rfl rfl rfl ⟨rfl, rfl, rfl, rfl, rfl⟩ rfl rfl rfl rfl rfl (by kernel_rfl) Try.func4 (by kernel_rfl)
    (of_decide_eq_true (by kernel_rfl)) (by unfold Func.isWrapper; first | (rw [if_pos (by decide +kernel)]; kernel_rfl) | (rw [if_neg (by decide +kernel)]; exact ⟨rfl, rfl⟩))
    (fun os started H enc _ => lifted os started H enc)
theorem proved : Rows.BinoutSilentSaid := over
#print axioms proved
end Go.Proofs.Ytpfjoeagblkonaa.binoutSilent
namespace Go.Proofs.Ytpfjoeagblkonaa
/-- The row, under a short name, for the claim. -/
theorem binoutSilent_holds : Rows.BinoutSilentSaid := binoutSilent.proved
end Go.Proofs.Ytpfjoeagblkonaa
