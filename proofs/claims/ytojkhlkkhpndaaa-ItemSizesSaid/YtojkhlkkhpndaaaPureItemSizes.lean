/- What an item takes is its key and its value, and as much for each byte beside. No condition. -/
import Derived.Test.YtojkhlkkhpndaaaHdx5
namespace Go.Proofs.Ytojkhlkkhpndaaa.Pure
open Go.RowKit Go.Proofs.Ytojkhlkkhpndaaa.Hd Go.Proofs.YtojkhlkkhpndaaaW.PrintWords Go.Proofs.YtojkhlkkhpndaaaW.PrintLast

set_option linter.unusedVariables false
theorem awake : butterylaw10_awake.f = some true := by decide +kernel

theorem wrap64_small (a n : Nat) (ha : a ≤ 1000) (hn : n ≤ 1000) : 50 + (a : Int) + n = wrap64 (wrap64 (50 + (a : Int)) + (n : Int)) := by
  unfold wrap64
  omega
theorem wrap64_add (a n m : Nat) (ha : a ≤ 1000) (hn : n ≤ 1000) (hm : m ≤ 1000) : wrap64 (wrap64 (50 + (a : Int)) + ((n + m : Nat) : Int)) = wrap64 (50 + (a : Int) + (n : Int) + m) := by
  unfold wrap64
  omega
theorem size_is (a : ByteArray) (l : List Int) : item_Size.f a l 0 0 0 0 0 false false false = some (wrap64 (wrap64 (50 + (a.size : Int)) + (l.length : Int))) := rfl
theorem sizes_j (a0 : ByteArray) (l1 l2 : List Int) (b : Bool) (h : b = true ∨ (a0.size ≤ 1000 ∧ l1.length ≤ 1000 ∧ l2.length ≤ 1000)) : butterylaw10_ItemSizes.j0 (0 + 1) a0 l1 l2 true b = some true := by
  cases b with
  | true => simp only [butterylaw10_ItemSizes.j0, if_true]
  | false =>
    obtain ⟨h0, h1, h2⟩ : a0.size ≤ 1000 ∧ l1.length ≤ 1000 ∧ l2.length ≤ 1000 := by
      rcases h with h | h
      · cases h
      · exact h
    have hn : ([] ++ l1 : List Int).length = l1.length := by rw [List.nil_append]
    have hm : (([] ++ l1 : List Int) ++ l2).length = l1.length + l2.length := by rw [List.nil_append, List.length_append]
    rw [butterylaw10_ItemSizes.j0, if_neg (by decide), size_is, Option.bind_some, if_pos (by rw [List.length_nil]; omega), Option.bind_some, if_pos (by rw [hn]; omega), size_is, Option.bind_some, if_pos rfl, hm, size_is]
    rw [if_pos (by rw [← wrap64_small _ _ h0 h1]; exact wrap64_add _ _ _ h0 h1 h2), Option.bind_some]
    refine congrArg some (beq_iff_eq.mpr ?_)
    have e2 : wrap64 (wrap64 (50 + ((⟨#[]⟩ : ByteArray).size : Int)) + (([] : List Int).length : Int)) = 50 := by
      show wrap64 (wrap64 (50 + ((0 : Nat) : Int)) + ((0 : Nat) : Int)) = 50
      unfold wrap64
      omega
    rw [e2]

theorem ItemSizes : butterylaw10_ItemSizes.Pure := by
  intro a0 l1 l2 h0 h1 h1' _ h2 h2' _
  refine ⟨1, ?_⟩
  unfold butterylaw10_ItemSizes.f
  rw [awake]
  simp only [Option.bind_some]
  by_cases c1 : (a0.size : Int) > 1000
  · rw [if_pos c1]; exact sizes_j _ _ _ _ (.inl rfl)
  · rw [if_neg c1]
    by_cases c2 : (l1.length : Int) > 1000
    · rw [if_pos c2]; exact sizes_j _ _ _ _ (.inl rfl)
    · rw [if_neg c2]
      by_cases c3 : (l2.length : Int) > 1000
      · rw [decide_eq_true c3]; exact sizes_j _ _ _ _ (.inl rfl)
      · rw [decide_eq_false c3]; exact sizes_j _ _ _ _ (.inr (by omega))

end Go.Proofs.Ytojkhlkkhpndaaa.Pure
