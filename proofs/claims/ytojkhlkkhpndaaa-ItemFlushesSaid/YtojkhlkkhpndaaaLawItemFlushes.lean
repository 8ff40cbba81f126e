-- Written by this session's own program (wip/hprint.py) out of the translation, over hand-proved contracts. Lean checks it.
import Derived.Test.YtojkhlkkhpndaaaRows
import Derived.Test.YtojkhlkkhpndaaaHdx7
import Derived.Test.YtojkhlkkhpndaaaPureItemFlushes
import Derived.WalkKit
import Derived.ProofKit
import Derived.OpenShut
import Derived.ShutString
import Derived.ChangeOld
import Derived.Below
import Derived.SizedLaws
import Derived.Deep.Slices
import Derived.Test.YtojkhlkkhpndaaaWSized
namespace Go.Proofs.Ytojkhlkkhpndaaa.itemFlushes
open Go.ChangeShapes Go.WideShapes Go.ChangeAt Go.RowKit
open Go.ChangeMaps (open_string shut_string)
open Go.Proofs.Ytojkhlkkhpndaaa.Hd Go.Proofs.YtojkhlkkhpndaaaW.PrintWords
set_option linter.unusedVariables false
theorem own : ownKnob Try.prog.godebug = none := by kernel_rfl
theorem laidOut : laidOutB Try.prog = true := by kernel_rfl
set_option maxRecDepth 100000 in
theorem lifted (os : Os) (started : os.Started) (H : Type) (enc : TypeId × Value → H) :
    ReturnsInHanded {} Try.checked os 7 .any (Rows.itemFlushesSpec.pre6 enc Try.prog Try.f7 Rows.itemFlushesRow.domain false) (Rows.itemFlushesSpec.post enc Try.prog Try.f7 false true false false) := by
  refine returnsInHanded_of_change_sized (C := Try.checked) own started (by kernel_rfl) Try.func7
    (ChangeSpec.witness6 (enc := enc) (C := Try.checked) false ⟨#[], #[.agg #[.string ByteArray.empty, .slice none 0 0, .int .u32 0, .int .i64 0, .int .u64 0, .int .i64 0, .int .u64 0, .bool false, .bool false, .bool false], .agg #[.int .i64 0, .int .u64 0, .int .i64 0, .int .u64 0], .int .i64 0], []⟩ 8 (by kernel_rfl) (by kernel_rfl) (by kernel_rfl) (by kernel_rfl)) ?_
  intro W base args ds gs before hval0 hW hcnd hsz0 _
  have hsz : (DataW.weightsEach Try.prog (Try.f7.params.toList ++ Rows.itemFlushesSpec.plain.varTypes Try.prog) (ds ++ gs)).all (· ≤ reachBytes) = true := hsz0
  have hval : ∀ (j : Nat) t v, Try.f7.params[j]? = some t → args[j]? = some v → Value.okWide Try.prog W .any base t v := hval0
  have hW' := hW
  obtain ⟨p, q, hA0, hV, rfl, hfz, hnd⟩ := hW
  have hA : DataW.TrodAll enc Try.prog W 0 (fun _ => true) true Try.f7.params.toList args.toList ds p := hA0
  rw [Try.params7] at hA hval hsz
  obtain ⟨v0, vs0, d0, ds0, p0, q0, hargs, rfl, rfl, h0, r0⟩ := trodAll_cons hA
  obtain ⟨v1, vs1, d1, ds1, p1, q1, rfl, rfl, rfl, h1, r1⟩ := trodAll_cons r0
  obtain ⟨v2, vs2, d2, ds2, p2, q2, rfl, rfl, rfl, h2, r2⟩ := trodAll_cons r1
  obtain ⟨rfl, rfl, rfl⟩ := trodAll_nil r2
  obtain rfl : args = #[v0, v1, v2] := by cases args; simp_all
  obtain ⟨rfl, rfl⟩ := trodVars_none hV
  have k0 := h0
  have lt0 : ∀ x ∈ p0, x.block < W.heap.size := by obtain ⟨m, hm⟩ := k0; exact DataW.trod_lt m _ _ _ hm
  obtain ⟨cs0, rfl, hs0⟩ := okWide_struct Try.underlying26 (hval 0 26 v0 rfl rfl)
  obtain ⟨x0, hk0, o0⟩ : ∃ x, k26.K W x cs0.toList ∧ ok26 x := by
    obtain ⟨fuel, hf⟩ := h0
    exact tells26 _ _ _ hf
  obtain ⟨A0_1, c0_1, e0, hc0_1, hr0_1⟩ := k26_open hk0
  obtain rfl : cs0 = #[.string x0.f0, .slice A0_1 x0.f1.length c0_1, .int .u32 x0.f2, .int .i64 x0.f3, .int .u64 x0.f4, .int .i64 x0.f5, .int .u64 x0.f6, .bool x0.f7, .bool x0.f8, .bool x0.f9] := Array.toList_inj.1 e0
  have k1 := h1
  have lt1 : ∀ x ∈ p1, x.block < W.heap.size := by obtain ⟨m, hm⟩ := k1; exact DataW.trod_lt m _ _ _ hm
  obtain ⟨cs1, rfl, hs1⟩ := okWide_struct Try.underlying34 (hval 1 34 v1 rfl rfl)
  obtain ⟨x1, hk1, o1⟩ : ∃ x, k34.K W x cs1.toList ∧ ok34 x := by
    obtain ⟨fuel, hf⟩ := h1
    exact tells34 _ _ _ hf
  have e1 := k34_open hk1
  obtain rfl : cs1 = #[.int .i64 x1.f0, .int .u64 x1.f1, .int .i64 x1.f2, .int .u64 x1.f3] := Array.toList_inj.1 e1
  obtain ⟨a2, rfl, rfl, rfl, w2⟩ := open_int Try.underlying3 (hval 2 3 v2 rfl rfl) h2
  clear hA0 hval0 hsz0 hsz
  obtain ⟨k, hp⟩ := Pure.ItemFlushes x0.f0 x0.f1 x0.f2 x0.f3 x0.f4 x0.f5 x0.f6 x0.f7 x0.f8 x0.f9 x1.f0 x1.f1 x1.f2 x1.f3 a2 o0.1 o0.2.1 o0.2.2.1 o0.2.2.2.1 o0.2.2.2.2.1 o0.2.2.2.2.2.1 o0.2.2.2.2.2.2.1 o1.1 o1.2.1 o1.2.2.1 o1.2.2.2 w2
  refine (butterylaw10_ItemFlushes.calls k x0.f0 _ _ x0.f1 x0.f2 x0.f3 x0.f4 x0.f5 x0.f6 x0.f7 x0.f8 x0.f9 x1.f0 x1.f1 x1.f2 x1.f3 a2 true W hr0_1 hc0_1 hp).mono fun e W' ⟨he, hb⟩ => ?_
  have bel : Below W.heap.size W W' := hb
  subst he
  exact ⟨_, rfl, _, _, _, [], _, [], hW', trodAll_mk1 (shut_bool Try.underlying4 _), (trodAll_cons_mk (Below.trod laidOut (by kernel_rfl) (of_decide_eq_true (by kernel_rfl)) k0 bel lt0) (trodAll_cons_mk (Below.trod laidOut (by kernel_rfl) (of_decide_eq_true (by kernel_rfl)) k1 bel lt1) (trodAll_cons_mk (shut_int Try.underlying3 w2) trodAll_mk0))), rfl, bel.frame _, fun h => by cases h⟩
theorem over : Rows.itemFlushesRow.holds Try.pinned (OpenSpec.ofChange Rows.itemFlushesSpec) :=
  OpenClaim.holds_of_wide 7 Try.f7 rfl rfl rfl rfl rfl rfl rfl ⟨rfl, rfl, rfl, rfl, rfl⟩ rfl rfl rfl rfl rfl (by kernel_rfl) Try.func7 (by kernel_rfl)
    (of_decide_eq_true (by kernel_rfl)) (by unfold Func.isWrapper; first | (rw [if_pos (by decide +kernel)]; kernel_rfl) | (rw [if_neg (by decide +kernel)]; exact ⟨rfl, rfl⟩))
    (fun os started H enc _ => lifted os started H enc)
theorem proved : Rows.ItemFlushesSaid := over
#print axioms proved
end Go.Proofs.Ytojkhlkkhpndaaa.itemFlushes
namespace Go.Proofs.Ytojkhlkkhpndaaa
/-- The row, under a short name, for the claim. -/
theorem itemFlushes_holds : Rows.ItemFlushesSaid := itemFlushes.proved
end Go.Proofs.Ytojkhlkkhpndaaa
