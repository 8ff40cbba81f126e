/- Any item lives in any env, or not, and any flush is, as the document says. No condition. -/
import Derived.Test.YtojkhlkkhpndaaaHdx6
namespace Go.Proofs.Ytojkhlkkhpndaaa.Pure
open Go.RowKit Go.Proofs.Ytojkhlkkhpndaaa.Hd Go.Proofs.YtojkhlkkhpndaaaW.PrintWords Go.Proofs.YtojkhlkkhpndaaaW.PrintLast Go.Proofs.YtojkhlkkhpndaaaW.PrintMore
set_option linter.unusedVariables false

theorem awake : butterylaw10_awake.f = some true := by decide +kernel
theorem mx_one (n : Int) : mx n 1 = if n < 1 then 1 else n := rfl
theorem ref_at (k : Nat) (e n : Int) : butteryref10_At.f (k + 1) e n = item_At.f e n := by
  unfold butteryref10_At.f item_At.f
  rw [mx_one]
  by_cases h : n < 1
  · rw [if_pos h, if_pos h, butteryref10_At.j0]
  · rw [if_neg h, if_neg h, butteryref10_At.j0]
theorem at_some (e n : Int) : ∃ r, item_At.f e n = some r := by
  unfold item_At.f
  repeat' split
  all_goals exact ⟨_, rfl⟩
theorem ref_flush (e a b c d : Int) : ∃ r, item_Flush.f e a b c d = some r ∧ butteryref10_Flush.f e a b c d = some r := by
  unfold item_Flush.f butteryref10_Flush.f
  obtain ⟨r, hr⟩ := at_some e a
  rw [ref_at 0, hr]
  by_cases h : e > 0
  · rw [if_pos h, if_pos h]; exact ⟨_, rfl, rfl⟩
  · rw [if_neg h, if_neg h, mx_one]
    by_cases h1 : a < 1
    · rw [if_pos h1, if_pos h1]; exact ⟨_, rfl, rfl⟩
    · rw [if_neg h1, if_neg h1]; exact ⟨_, rfl, rfl⟩
theorem ref_live (a0 : ByteArray) (l1 : List Int) (a2 a3 a4 a5 a6 : Int) (a7 a8 a9 : Bool) (n q f g : Int) :
    ∃ r, item_Live.f a0 l1 a2 a3 a4 a5 a6 a7 a8 a9 n q f g = some r ∧ butteryref10_Live.f a0 l1 a2 a3 a4 a5 a6 a7 a8 a9 n q f g = some r := by
  have J : (if f ≠ 0 ∧ f ≤ n then some (!decide (a5 < f ∨ (a5 = f ∧ a6 < g))) else some true) = if f = 0 then some true else if n < f then some true else if f < a5 then some true else if a5 = f then some (decide (g ≤ a6)) else some false := by
    by_cases h1 : f = 0
    · rw [if_neg (fun h => h.1 h1), if_pos h1]
    · rw [if_neg h1]
      by_cases h2 : n < f
      · rw [if_neg (fun h => by omega), if_pos h2]
      · rw [if_pos ⟨h1, by omega⟩, if_neg h2]
        by_cases h3 : f < a5
        · rw [if_pos h3, decide_eq_false (by omega)]; rfl
        · rw [if_neg h3]
          by_cases h4 : a5 = f
          · rw [if_pos h4]
            by_cases h5 : a6 < g
            · rw [decide_eq_true (by omega : a5 < f ∨ a5 = f ∧ a6 < g), decide_eq_false (by omega)]; rfl
            · rw [decide_eq_false (by omega : ¬ (a5 < f ∨ a5 = f ∧ a6 < g)), decide_eq_true (by omega)]; rfl
          · rw [if_neg h4, decide_eq_true (by omega)]; rfl
  have S : ∃ r, (if f ≠ 0 ∧ f ≤ n then some (!decide (a5 < f ∨ (a5 = f ∧ a6 < g))) else some true) = some r := by
    split
    all_goals exact ⟨_, rfl⟩
  obtain ⟨r, hr⟩ := S
  unfold item_Live.f butteryref10_Live.f
  rw [← J]
  by_cases h : a3 = 0
  · rw [if_neg (fun h' => h'.1 h), if_pos h]; exact ⟨_, hr, hr⟩
  · rw [if_neg h]
    by_cases h1 : a3 ≤ n
    · rw [if_pos ⟨h, h1⟩, if_pos h1]; exact ⟨_, rfl, rfl⟩
    · rw [if_neg (fun h' => h1 h'.2), if_neg h1]; exact ⟨_, hr, hr⟩
theorem lives_j (b : Bool) (a0 : ByteArray) (l1 : List Int) (a2 a3 a4 a5 a6 : Int) (a7 a8 a9 : Bool) (n q f g e : Int) : butterylaw10_ItemLives.j0 (1 + 1) e true b a0 l1 a2 a3 a4 a5 a6 a7 a8 a9 n q f g = some true := by
  rw [butterylaw10_ItemLives.j0]
  cases b with
  | true => rw [if_pos rfl]
  | false =>
    obtain ⟨r, h1, h2⟩ := ref_live a0 l1 a2 a3 a4 a5 a6 a7 a8 a9 n q f g
    obtain ⟨s, h3, h4⟩ := ref_flush e n q f g
    rw [if_neg (by decide), h1, Option.bind_some, h2, Option.bind_some, if_pos (by cases r <;> rfl), h3, Option.bind_some, h4, Option.bind_some]
    simp only [beq_self_eq_true, Bool.and_self]
theorem ItemLives : butterylaw10_ItemLives.Pure := by
  intro a0 l1 a2 a3 a4 a5 a6 a7 a8 a9 n q f g e _ _ _ _ _ _ _ _ _ _ _ _
  refine ⟨1 + 1, ?_⟩
  unfold butterylaw10_ItemLives.f
  rw [awake, Option.bind_some]
  have ht : ∃ t, butterylaw10_times.f e n = some t := by
    unfold butterylaw10_times.f
    repeat' split
    all_goals exact ⟨_, rfl⟩
  obtain ⟨t, ht⟩ := ht
  rw [ht, Option.bind_some, if_pos rfl]
  exact lives_j _ _ _ _ _ _ _ _ _ _ _ _ _ _ _ _

end Go.Proofs.Ytojkhlkkhpndaaa.Pure
