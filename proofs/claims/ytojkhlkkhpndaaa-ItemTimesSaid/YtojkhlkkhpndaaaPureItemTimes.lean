/- What any time means at any second, what is left of it, and how much an item takes, is what the document says. No condition. -/
import Derived.Test.YtojkhlkkhpndaaaHdx3
namespace Go.Proofs.Ytojkhlkkhpndaaa.Pure
open Go.RowKit Go.Proofs.Ytojkhlkkhpndaaa.Hd Go.Proofs.YtojkhlkkhpndaaaW.PrintWords Go.Proofs.YtojkhlkkhpndaaaW.PrintLast Go.Proofs.YtojkhlkkhpndaaaW.PrintMore
set_option linter.unusedVariables false

theorem awake : butterylaw10_awake.f = some true := by decide +kernel
theorem mx_one (n : Int) : mx n 1 = if n < 1 then 1 else n := rfl
theorem ref_at (k : Nat) (e n : Int) : butteryref10_At.f (k + 1) e n = item_At.f e n := by
  unfold butteryref10_At.f item_At.f
  rw [mx_one]
  by_cases h : n < 1
  · rw [if_pos h, if_pos h, butteryref10_At.j0]
  · rw [if_neg h, if_neg h, butteryref10_At.j0]
theorem at_some (e n : Int) : ∃ r, item_At.f e n = some r := by
  unfold item_At.f
  repeat' split
  all_goals exact ⟨_, rfl⟩
theorem ttl_some (a0 : ByteArray) (l1 : List Int) (a2 a3 a4 a5 a6 : Int) (a7 a8 a9 : Bool) (n : Int) : ∃ r, item_TTL.f a0 l1 a2 a3 a4 a5 a6 a7 a8 a9 n = some r := by
  unfold item_TTL.f
  repeat' split
  all_goals exact ⟨_, rfl⟩
theorem times_j (b : Bool) (a0 : ByteArray) (l1 : List Int) (a2 a3 a4 a5 a6 : Int) (a7 a8 a9 : Bool) (e n : Int) : butterylaw10_ItemTimes.j0 (1 + 1) e n true b a0 l1 a2 a3 a4 a5 a6 a7 a8 a9 = some true := by
  rw [butterylaw10_ItemTimes.j0]
  cases b with
  | true => rw [if_pos rfl]
  | false =>
    obtain ⟨r, hr⟩ := at_some e n
    obtain ⟨s, hs⟩ := ttl_some a0 l1 a2 a3 a4 a5 a6 a7 a8 a9 n
    have hs2 : butteryref10_TTL.f a0 l1 a2 a3 a4 a5 a6 a7 a8 a9 n = some s := hs
    rw [if_neg (by decide), hr, Option.bind_some, ref_at 0, hr, Option.bind_some, if_pos rfl, hs, Option.bind_some, hs2, Option.bind_some, if_pos rfl]
    unfold item_Size.f butteryref10_Size.f
    rw [Option.bind_some, Option.bind_some, beq_self_eq_true]
theorem ItemTimes : butterylaw10_ItemTimes.Pure := by
  intro a0 l1 a2 a3 a4 a5 a6 a7 a8 a9 e n _ _ _ _ _ _ _ _ _
  refine ⟨1 + 1, ?_⟩
  unfold butterylaw10_ItemTimes.f
  rw [awake, Option.bind_some]
  have ht : ∃ t, butterylaw10_times.f e n = some t := by
    unfold butterylaw10_times.f
    repeat' split
    all_goals exact ⟨_, rfl⟩
  obtain ⟨t, ht⟩ := ht
  rw [ht, Option.bind_some, if_pos rfl]
  repeat' split
  all_goals exact times_j _ _ _ _ _ _ _ _ _ _ _ _ _

end Go.Proofs.Ytojkhlkkhpndaaa.Pure
