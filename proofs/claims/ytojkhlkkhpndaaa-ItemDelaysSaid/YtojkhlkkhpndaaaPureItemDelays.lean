/- Behind a flush with some seconds to go all lives on till then; then nothing that was stored ahead of that second does, whatever its number. No condition. -/
import Derived.Test.YtojkhlkkhpndaaaHdx7
namespace Go.Proofs.Ytojkhlkkhpndaaa.Pure
open Go.RowKit Go.Proofs.Ytojkhlkkhpndaaa.Hd Go.Proofs.YtojkhlkkhpndaaaW.PrintWords Go.Proofs.YtojkhlkkhpndaaaW.PrintLast Go.Proofs.YtojkhlkkhpndaaaW.PrintMore
set_option linter.unusedVariables false

theorem awake : butterylaw10_awake.f = some true := by decide +kernel
theorem mx_one (n : Int) : mx n 1 = if n < 1 then 1 else n := rfl
theorem wrap_sum (a b : Int) (h0 : 1 ≤ a) (h1 : a ≤ 1099511627776) (h2 : 0 ≤ b) (h3 : b ≤ 1099511627776) : wrap64 (a + b) = a + b := by
  unfold wrap64
  omega
theorem live_is (a0 : ByteArray) (l1 : List Int) (a2 a3 a4 a5 a6 : Int) (a7 a8 a9 : Bool) (n q f g : Int) :
    item_Live.f a0 l1 a2 a3 a4 a5 a6 a7 a8 a9 n q f g = some (!decide ((a3 ≠ 0 ∧ a3 ≤ n) ∨ (f ≠ 0 ∧ f ≤ n ∧ (a5 < f ∨ (a5 = f ∧ a6 < g))))) := by
  unfold item_Live.f
  by_cases h1 : a3 ≠ 0 ∧ a3 ≤ n
  · rw [if_pos h1, decide_eq_true (.inl h1)]; rfl
  · rw [if_neg h1]
    by_cases h2 : f ≠ 0 ∧ f ≤ n
    · rw [if_pos h2]
      by_cases h3 : a5 < f ∨ (a5 = f ∧ a6 < g)
      · rw [decide_eq_true h3, decide_eq_true (.inr ⟨h2.1, h2.2, h3⟩)]
      · rw [decide_eq_false h3, decide_eq_false]
        rintro (h | h)
        · exact h1 h
        · exact h3 h.2.2
    · rw [if_neg h2, decide_eq_false]
      · rfl
      rintro (h | h)
      · exact h1 h
      · exact h2 ⟨h.1, h.2.1⟩
theorem delay_j (b : Bool) (a0 : ByteArray) (l1 : List Int) (a2 a3 a4 a5 a6 : Int) (a7 a8 a9 : Bool) (n q f g d a : Int) (h : b = true ∨ (1 ≤ n ∧ n ≤ 1099511627776 ∧ 1 ≤ d ∧ d ≤ 2592000 ∧ 0 ≤ a ∧ a ≤ 1099511627776 ∧ a5 ≤ n)) :
    butterylaw10_ItemDelays.j0 (0 + 1) d a true b a0 l1 a2 a3 a4 a5 a6 a7 a8 a9 n q f g = some true := by
  rw [butterylaw10_ItemDelays.j0]
  cases b with
  | true => rw [if_pos rfl]
  | false =>
    obtain ⟨hn, hn2, hd, hd2, ha, ha2, h5⟩ : 1 ≤ n ∧ n ≤ 1099511627776 ∧ 1 ≤ d ∧ d ≤ 2592000 ∧ 0 ≤ a ∧ a ≤ 1099511627776 ∧ a5 ≤ n := by
      rcases h with h | h
      · cases h
      · exact h
    have hF : item_Flush.f d n q f g = some (n, q, n + d, 0) := by
      unfold item_Flush.f item_At.f
      rw [if_pos (by omega), if_neg (by omega), if_neg (by omega), if_pos hd2, mx_one, if_neg (by omega), wrap_sum n d hn hn2 (by omega) (by omega), Option.bind_some]
    rw [if_neg (by decide), hF, Option.bind_some, wrap_sum n a hn hn2 ha ha2, live_is, Option.bind_some]
    by_cases c : a < d
    · rw [decide_eq_true c, decide_eq_false]
      · rfl
      rintro (h | ⟨_, h, _⟩)
      · exact h.1 rfl
      · exact absurd (show n + d ≤ n + a from h) (by omega)
    · rw [decide_eq_false c, decide_eq_true]
      · rfl
      exact .inr ⟨show n + d ≠ 0 by omega, show n + d ≤ n + a by omega, .inl (show a5 < n + d by omega)⟩
theorem ItemDelays : butterylaw10_ItemDelays.Pure := by
  intro a0 l1 a2 a3 a4 a5 a6 a7 a8 a9 n q f g d a _ _ _ _ _ _ _ _ _ _ _ _ _
  refine ⟨0 + 1, ?_⟩
  unfold butterylaw10_ItemDelays.f
  rw [awake, Option.bind_some, if_pos rfl]
  by_cases c1 : n < 1
  · rw [if_pos c1]; exact delay_j _ _ _ _ _ _ _ _ _ _ _ _ _ _ _ _ _ (.inl rfl)
  · rw [if_neg c1]
    by_cases c2 : n > 1099511627776
    · rw [if_pos c2]; exact delay_j _ _ _ _ _ _ _ _ _ _ _ _ _ _ _ _ _ (.inl rfl)
    · rw [if_neg c2]
      by_cases c3 : d < 1
      · rw [if_pos c3]; exact delay_j _ _ _ _ _ _ _ _ _ _ _ _ _ _ _ _ _ (.inl rfl)
      · rw [if_neg c3]
        by_cases c4 : d > 2592000
        · rw [if_pos c4]; exact delay_j _ _ _ _ _ _ _ _ _ _ _ _ _ _ _ _ _ (.inl rfl)
        · rw [if_neg c4]
          by_cases c5 : a < 0
          · rw [if_pos c5]; exact delay_j _ _ _ _ _ _ _ _ _ _ _ _ _ _ _ _ _ (.inl rfl)
          · rw [if_neg c5]
            by_cases c6 : a > 1099511627776
            · rw [if_pos c6]; exact delay_j _ _ _ _ _ _ _ _ _ _ _ _ _ _ _ _ _ (.inl rfl)
            · rw [if_neg c6]
              by_cases c7 : a5 > n
              · rw [decide_eq_true c7]; exact delay_j _ _ _ _ _ _ _ _ _ _ _ _ _ _ _ _ _ (.inl rfl)
              · rw [decide_eq_false c7]; exact delay_j _ _ _ _ _ _ _ _ _ _ _ _ _ _ _ _ _ (.inr (by omega))

end Go.Proofs.Ytojkhlkkhpndaaa.Pure
