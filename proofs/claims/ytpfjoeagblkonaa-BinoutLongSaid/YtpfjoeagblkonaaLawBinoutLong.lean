-- Written by this session's own program (wip/hprint.py) out of the translation, over hand-proved contracts. Lean checks it.
import Derived.Test.YtpfjoeagblkonaaRows
import Derived.Test.YtpfjoeagblkonaaHbx8
import Derived.Test.YtpfjoeagblkonaaPureBinoutLong
import Derived.WalkKit
import Derived.ProofKit
import Derived.OpenShut
import Derived.ShutString
import Derived.ChangeOld
import Derived.Below
import Derived.SizedLaws
import Derived.Deep.Slices
import Derived.Test.YtpfjoeagblkonaaWSized
namespace Go.Proofs.Ytpfjoeagblkonaa.binoutLong
open Go.ChangeShapes Go.WideShapes Go.ChangeAt Go.RowKit
open Go.ChangeMaps (open_string shut_string)
open Go.Proofs.Ytpfjoeagblkonaa.Hb Go.Proofs.YtpfjoeagblkonaaW.PrintWords
set_option linter.unusedVariables false
theorem own : ownKnob Try.prog.godebug = none := by kernel_rfl
theorem laidOut : laidOutB Try.prog = true := by kernel_rfl
set_option maxRecDepth 100000 in
theorem lifted (os : Os) (started : os.Started) (H : Type) (enc : TypeId × Value → H) :
    ReturnsInHanded {} Try.checked os 5 .any (Rows.binoutLongSpec.pre6 enc Try.prog Try.f5 Rows.binoutLongRow.domain false) (Rows.binoutLongSpec.post enc Try.prog Try.f5 false true false false) := by
  refine returnsInHanded_of_change_sized (C := Try.checked) own started (by kernel_rfl) Try.func5
    (ChangeSpec.witness6 (enc := enc) (C := Try.checked) false ⟨#[], #[.agg #[.int .i64 0, .string ByteArray.empty, .int .i64 0, .int .u32 0, .bool false, .bool false, .string ByteArray.empty, .slice none 0 0, .slice none 0 0, .bool false], .agg #[.int .i64 0, .slice none 0 0, .int .u32 0, .int .u64 0, .int .i64 0, .int .u64 0, .bool false, .bool false, .bool false], .string ByteArray.empty], []⟩ 8 (by kernel_rfl) (by kernel_rfl) (by kernel_rfl) (by kernel_rfl)) ?_
  intro W base args ds gs before hval0 hW hcnd hsz0 _
  have hsz : (DataW.weightsEach Try.prog (Try.f5.params.toList ++ Rows.binoutLongSpec.plain.varTypes Try.prog) (ds ++ gs)).all (· ≤ reachBytes) = true := hsz0
  have hval : ∀ (j : Nat) t v, Try.f5.params[j]? = some t → args[j]? = some v → Value.okWide Try.prog W .any base t v := hval0
  have hW' := hW
  obtain ⟨p, q, hA0, hV, rfl, hfz, hnd⟩ := hW
  have hA : DataW.TrodAll enc Try.prog W 0 (fun _ => true) true Try.f5.params.toList args.toList ds p := hA0
  rw [Try.params5] at hA hval hsz
  obtain ⟨v0, vs0, d0, ds0, p0, q0, hargs, rfl, rfl, h0, r0⟩ := trodAll_cons hA
  obtain ⟨v1, vs1, d1, ds1, p1, q1, rfl, rfl, rfl, h1, r1⟩ := trodAll_cons r0
  obtain ⟨v2, vs2, d2, ds2, p2, q2, rfl, rfl, rfl, h2, r2⟩ := trodAll_cons r1
  obtain ⟨rfl, rfl, rfl⟩ := trodAll_nil r2
  obtain rfl : args = #[v0, v1, v2] := by cases args; simp_all
  obtain ⟨rfl, rfl⟩ := trodVars_none hV
  have k0 := h0
  have lt0 : ∀ x ∈ p0, x.block < W.heap.size := by obtain ⟨m, hm⟩ := k0; exact DataW.trod_lt m _ _ _ hm
  obtain ⟨cs0, rfl, hs0⟩ := okWide_struct Try.underlying37 (hval 0 37 v0 rfl rfl)
  obtain ⟨x0, hk0, o0⟩ : ∃ x, k37.K W x cs0.toList ∧ ok37 x := by
    obtain ⟨fuel, hf⟩ := h0
    exact tells37 _ _ _ hf
  obtain ⟨A0_7, c0_7, A0_8, c0_8, e0, hc0_7, hr0_7, hc0_8, hr0_8⟩ := k37_open hk0
  obtain rfl : cs0 = #[.int .i64 x0.f0, .string x0.f1, .int .i64 x0.f2, .int .u32 x0.f3, .bool x0.f4, .bool x0.f5, .string x0.f6, .slice A0_7 x0.f7.length c0_7, .slice A0_8 x0.f8.length c0_8, .bool x0.f9] := Array.toList_inj.1 e0
  have k1 := h1
  have lt1 : ∀ x ∈ p1, x.block < W.heap.size := by obtain ⟨m, hm⟩ := k1; exact DataW.trod_lt m _ _ _ hm
  obtain ⟨cs1, rfl, hs1⟩ := okWide_struct Try.underlying46 (hval 1 46 v1 rfl rfl)
  obtain ⟨x1, hk1, o1⟩ : ∃ x, k46.K W x cs1.toList ∧ ok46 x := by
    obtain ⟨fuel, hf⟩ := h1
    exact tells46 _ _ _ hf
  obtain ⟨A1_1, c1_1, e1, hc1_1, hr1_1⟩ := k46_open hk1
  obtain rfl : cs1 = #[.int .i64 x1.f0, .slice A1_1 x1.f1.length c1_1, .int .u32 x1.f2, .int .u64 x1.f3, .int .i64 x1.f4, .int .u64 x1.f5, .bool x1.f6, .bool x1.f7, .bool x1.f8] := Array.toList_inj.1 e1
  obtain ⟨a2, rfl, rfl, rfl, y2⟩ := open_string Try.underlying9 (hval 2 9 v2 rfl rfl) h2
  have w2 : a2.size ≤ 140737488351232 := by
    have z := sized_string hsz (j := 2) (t := 9) rfl rfl
    rw [Array.length_toList] at z
    exact z
  clear hA0 hval0 hsz0 hsz
  have hp := Pure.BinoutLong x0.f0 x0.f1 x0.f2 x0.f3 x0.f4 x0.f5 x0.f6 x0.f7 x0.f8 x0.f9 x1.f0 x1.f1 x1.f2 x1.f3 x1.f4 x1.f5 x1.f6 x1.f7 x1.f8 a2 o0.1 o0.2.1 o0.2.2.1 o0.2.2.2.1 o0.2.2.2.2.2.2.1 o0.2.2.2.2.2.2.2.1 o0.2.2.2.2.2.2.2.2.1 o1.1 o1.2.1 o1.2.2.1 o1.2.2.2.1 o1.2.2.2.2.1 o1.2.2.2.2.2.1 w2
  refine (butterylaw17_BinoutLong.calls x0.f0 x0.f1 x0.f2 x0.f3 x0.f4 x0.f5 x0.f6 _ _ x0.f7 _ _ x0.f8 x0.f9 x1.f0 _ _ x1.f1 x1.f2 x1.f3 x1.f4 x1.f5 x1.f6 x1.f7 x1.f8 a2 true W hr0_7 hc0_7 hr0_8 hc0_8 hr1_1 hc1_1 hp).mono fun e W' ⟨he, hb⟩ => ?_
  have bel : Below W.heap.size W W' := hb
  subst he
  exact ⟨_, rfl, _, _, _, [], _, [], hW', trodAll_mk1 (shut_bool Try.underlying4 _), (trodAll_cons_mk (Below.trod laidOut (by kernel_rfl) (of_decide_eq_true (by kernel_rfl)) k0 bel lt0) (trodAll_cons_mk (Below.trod laidOut (by kernel_rfl) (of_decide_eq_true (by kernel_rfl)) k1 bel lt1) (trodAll_cons_mk (shut_string Try.underlying9 y2) trodAll_mk0))), rfl, bel.frame _, fun h => by cases h⟩
theorem over : Rows.binoutLongRow.holds Try.pinned (OpenSpec.ofChange Rows.binoutLongSpec) :=
  OpenClaim.holds_of_wide 5 Try.f5 rfl rfl rfl rfl rfl rfl rfl ⟨rfl, rfl, rfl, rfl, rfl⟩ rfl rfl rfl rfl rfl (by kernel_rfl) Try.func5 (by kernel_rfl)
    (of_decide_eq_true (by kernel_rfl)) (by unfold Func.isWrapper; first | (rw [if_pos (by decide +kernel)]; kernel_rfl) | (rw [if_neg (by decide +kernel)]; exact ⟨rfl, rfl⟩))
    (fun os started H enc _ => lifted os started H enc)
theorem proved : Rows.BinoutLongSaid := over
#print axioms proved
end Go.Proofs.Ytpfjoeagblkonaa.binoutLong
namespace Go.Proofs.Ytpfjoeagblkonaa
/-- The row, under a short name, for the claim. -/
theorem binoutLong_holds : Rows.BinoutLongSaid := binoutLong.proved
end Go.Proofs.Ytpfjoeagblkonaa
