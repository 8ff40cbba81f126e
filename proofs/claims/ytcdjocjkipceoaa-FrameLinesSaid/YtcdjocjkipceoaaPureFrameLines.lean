/- Line and Body answer as the reference's. No condition. -/
import Derived.Test.YtcdjocjkipceoaaPlain
namespace Go.Proofs.Ytcdjocjkipceoaa.Pure
open Go.RowKit Go.Proofs.Ytcdjocjkipceoaa.Hd Go.Proofs.Ytcdjocjkipceoaa.Plain Go.Proofs.YtcdjocjkipceoaaW.PrintWords Go.Proofs.YtcdjocjkipceoaaW.PrintLast
theorem body_len (l : List Int) (n : Int) : (bodyS l n).1.length ≤ l.length := by
  unfold bodyS
  split
  · exact Nat.zero_le _
  · split
    · exact Nat.zero_le _
    · split
      · show (l.take n.toNat).length ≤ _
        rw [List.length_take]; omega
      · exact Nat.zero_le _
theorem fill (l : List Int) (s : ByteArray) (n e a c : Int) (d : Nat) : ∀ (k i : Nat) (b : List Int), b.length ≤ 9223372036854775806 → i ≤ b.length → b.length - i = d → d < k →
    butterylaw13_FrameLines.l0 k l true l s n e s n e b a c a c true i = some true := by
  induction d with
  | zero =>
    intro k i b hl hi hd hk
    obtain ⟨k, rfl⟩ : ∃ m, k = m + 1 := ⟨k - 1, by omega⟩
    rw [butterylaw13_FrameLines.l0, if_neg (by omega), if_pos rfl, if_pos rfl, if_pos rfl, if_pos rfl, if_pos rfl, if_pos rfl, if_pos rfl, beq_self_eq_true]
  | succ d ih =>
    intro k i b hl hi hd hk
    obtain ⟨k, rfl⟩ : ∃ m, k = m + 1 := ⟨k - 1, by omega⟩
    have hs : (b.set ((i : Int)).toNat 7).length = b.length := List.length_set
    have := ih k (i + 1) (b.set ((i : Int)).toNat 7) (by omega) (by omega) (by omega) (by omega)
    rw [Int.natCast_add, Int.natCast_one] at this
    rw [butterylaw13_FrameLines.l0, if_pos (by omega), if_pos (by omega), wrap_id _ (by omega) (by omega)]
    exact this
theorem FrameLines : butterylaw13_FrameLines.Pure := by
  intro l n hl _ hb hn
  have hB := bs_of hb
  refine ⟨l.length + 2, ?_⟩
  unfold butterylaw13_FrameLines.f
  rw [awake, Option.bind_some]
  by_cases h : (l.length : Int) > 5000
  · rw [if_pos h]
  · have hlen := body_len l n
    rw [if_neg h, if_pos (by rw [List.length_nil]; omega), Option.bind_some, List.nil_append, line_is l hB, Option.bind_some, refline_is l _ (by omega) (by omega), Option.bind_some, body_is l n hB, Option.bind_some, refbody_is l n _ (by omega), Option.bind_some, beq_self_eq_true]
    exact fill l _ _ _ _ _ (bodyS l n).1.length _ 0 _ (by omega) (by omega) (by omega) (by omega)
end Go.Proofs.Ytcdjocjkipceoaa.Pure
