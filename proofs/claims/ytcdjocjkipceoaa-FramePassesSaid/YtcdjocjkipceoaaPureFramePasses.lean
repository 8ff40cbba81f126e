/- Pass answers as the reference's. No condition. -/
import Derived.Test.YtcdjocjkipceoaaPlain
namespace Go.Proofs.Ytcdjocjkipceoaa.Pure
open Go.RowKit Go.Proofs.Ytcdjocjkipceoaa.Hd Go.Proofs.Ytcdjocjkipceoaa.Plain Go.Proofs.YtcdjocjkipceoaaW.PrintWords Go.Proofs.YtcdjocjkipceoaaW.PrintLast
theorem i64 {a : Int} (h : (Lit.int .i64 a).wf = true) : -9223372036854775808 ≤ a ∧ a ≤ 9223372036854775807 := by
  simp [Lit.wf] at h
  have e1 : IntKind.i64.min = -9223372036854775808 := rfl
  have e2 : IntKind.i64.max = 9223372036854775807 := rfl
  omega
theorem pass_range (l : List Int) (s : Nat) (b : Bool) : 0 ≤ (passS l s b).1 ∧ (passS l s b).1 ≤ (l.length : Int) := by
  unfold passS
  have hg := ix_ge (l.drop s) 10
  have hd : (l.drop s).length = l.length - s := List.length_drop
  split
  · exact ⟨by omega, Int.le_refl _⟩
  · split
    · exact ⟨Int.natCast_nonneg _, by show (s : Int) ≤ _; omega⟩
    · split
      · exact ⟨Int.natCast_nonneg _, Int.le_refl _⟩
      · constructor
        · show 0 ≤ (s : Int) + ix (l.drop s) 10 + 1
          omega
        · show (s : Int) + ix (l.drop s) 10 + 1 ≤ _
          omega
theorem FramePasses : butterylaw13_FramePasses.Pure := by
  intro l n b hl _ hb hn
  have hn := i64 hn
  have hB := bs_of hb
  refine ⟨l.length + 2, ?_⟩
  unfold butterylaw13_FramePasses.f
  rw [awake, Option.bind_some]
  by_cases h : (l.length : Int) > 5000
  · rw [if_pos h]
  · have hr := pass_range l n.toNat b
    rw [if_neg h, pass_is l n b hB hn.2, Option.bind_some, refpass_is l n b _ (by omega) hn.2 (by omega), Option.bind_some, if_pos rfl, if_pos rfl, if_pos rfl, if_pos (beq_self_eq_true _), if_pos hr.1, decide_eq_true hr.2]
end Go.Proofs.Ytcdjocjkipceoaa.Pure
