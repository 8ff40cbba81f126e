/- What does not live does not live later, as long as nothing is flushed anew; what has a time to live lives just that long. No condition. -/
import Derived.Test.YtojkhlkkhpndaaaHdx4
namespace Go.Proofs.Ytojkhlkkhpndaaa.Pure
open Go.RowKit Go.Proofs.Ytojkhlkkhpndaaa.Hd Go.Proofs.YtojkhlkkhpndaaaW.PrintWords Go.Proofs.YtojkhlkkhpndaaaW.PrintLast Go.Proofs.YtojkhlkkhpndaaaW.PrintMore
set_option linter.unusedVariables false

theorem awake : butterylaw10_awake.f = some true := by decide +kernel
theorem mx_one (n : Int) : mx n 1 = if n < 1 then 1 else n := rfl
theorem wrap_sum (a b : Int) (h0 : 1 ≤ a) (h1 : a ≤ 1099511627776) (h2 : 0 ≤ b) (h3 : b ≤ 1099511627776) : wrap64 (a + b) = a + b := by
  unfold wrap64
  omega
theorem ends_at (e n : Int) (h0 : 1 ≤ e) (h1 : e ≤ 2592000) (h2 : 1 ≤ n) (h3 : n ≤ 1099511627776) : item_At.f e n = some (n + e) := by
  unfold item_At.f
  rw [mx_one, if_neg (by omega), if_neg (by omega), if_pos h1, if_neg (by omega), wrap_sum n e h2 h3 (by omega) (by omega)]
theorem live_is (a0 : ByteArray) (l1 : List Int) (a2 a3 a4 a5 a6 : Int) (a7 a8 a9 : Bool) (n q f g : Int) :
    item_Live.f a0 l1 a2 a3 a4 a5 a6 a7 a8 a9 n q f g = some (!decide ((a3 ≠ 0 ∧ a3 ≤ n) ∨ (f ≠ 0 ∧ f ≤ n ∧ (a5 < f ∨ (a5 = f ∧ a6 < g))))) := by
  unfold item_Live.f
  by_cases h1 : a3 ≠ 0 ∧ a3 ≤ n
  · rw [if_pos h1, decide_eq_true (.inl h1)]; rfl
  · rw [if_neg h1]
    by_cases h2 : f ≠ 0 ∧ f ≤ n
    · rw [if_pos h2]
      by_cases h3 : a5 < f ∨ (a5 = f ∧ a6 < g)
      · rw [decide_eq_true h3, decide_eq_true (.inr ⟨h2.1, h2.2, h3⟩)]
      · rw [decide_eq_false h3, decide_eq_false]
        rintro (h | h)
        · exact h1 h
        · exact h3 h.2.2
    · rw [if_neg h2, decide_eq_false]
      · rfl
      rintro (h | h)
      · exact h1 h
      · exact h2 ⟨h.1, h.2.1⟩
theorem ends_j1 (k : Nat) (e a n q f g x y z : Int) (he : 1 ≤ e) (he2 : e ≤ 2592000) (hn : 1 ≤ n) (hn2 : n ≤ 1099511627776) (ha : 0 ≤ a) (ha2 : a ≤ 1099511627776) : butterylaw10_ItemEnds.j1 (k + 1) a e false n q f g (wrap64 (n + a)) x y z = some true := by
  rw [butterylaw10_ItemEnds.j1, if_neg (by decide), ends_at e n he he2 hn hn2, Option.bind_some, live_is, Option.bind_some, wrap_sum n a hn hn2 ha ha2, if_pos]
  · unfold item_TTL.f
    rw [if_neg (by omega), if_neg (by omega), Option.bind_some, show wrap64 (n + e - n) = e by unfold wrap64; omega, beq_self_eq_true]
  · by_cases h : a < e
    · rw [decide_eq_true h, decide_eq_false (by omega)]; rfl
    · rw [decide_eq_false h, decide_eq_true (by omega)]; rfl
theorem ends_j (b : Bool) (a0 : ByteArray) (l1 : List Int) (a2 a3 a4 a5 a6 : Int) (a7 a8 a9 : Bool) (n q f g a e : Int) (h : b = true ∨ (1 ≤ e ∧ e ≤ 2592000 ∧ 1 ≤ n ∧ n ≤ 1099511627776 ∧ 0 ≤ a ∧ a ≤ 1099511627776)) :
    butterylaw10_ItemEnds.j0 (1 + 1) a e true b a0 l1 a2 a3 a4 a5 a6 a7 a8 a9 n q f g = some true := by
  rw [butterylaw10_ItemEnds.j0]
  cases b with
  | true => rw [if_pos rfl]
  | false =>
    obtain ⟨he, he2, hn, hn2, ha, ha2⟩ : 1 ≤ e ∧ e ≤ 2592000 ∧ 1 ≤ n ∧ n ≤ 1099511627776 ∧ 0 ≤ a ∧ a ≤ 1099511627776 := by
      rcases h with h | h
      · cases h
      · exact h
    rw [if_neg (by decide), live_is, Option.bind_some]
    by_cases hl : (a3 ≠ 0 ∧ a3 ≤ n) ∨ (f ≠ 0 ∧ f ≤ n ∧ (a5 < f ∨ (a5 = f ∧ a6 < g)))
    · have hm : (a3 ≠ 0 ∧ a3 ≤ wrap64 (n + a)) ∨ (f ≠ 0 ∧ f ≤ wrap64 (n + a) ∧ (a5 < f ∨ (a5 = f ∧ a6 < g))) := by
        rw [wrap_sum n a hn hn2 ha ha2]
        rcases hl with hl | hl
        · exact .inl ⟨hl.1, by omega⟩
        · exact .inr ⟨hl.1, by omega, hl.2.2⟩
      rw [decide_eq_true hl, if_neg (by decide), live_is, Option.bind_some, decide_eq_true hm]
      exact ends_j1 0 e a n q f g q f g he he2 hn hn2 ha ha2
    · rw [decide_eq_false hl, if_pos (by rfl)]
      exact ends_j1 0 e a n q f g q f g he he2 hn hn2 ha ha2
theorem ItemEnds : butterylaw10_ItemEnds.Pure := by
  intro a0 l1 a2 a3 a4 a5 a6 a7 a8 a9 n q f g a e _ _ _ _ _ _ _ _ _ _ _ _ _
  refine ⟨1 + 1, ?_⟩
  unfold butterylaw10_ItemEnds.f
  rw [awake, Option.bind_some]
  have ht : ∃ t, butterylaw10_times.f e n = some t := by
    unfold butterylaw10_times.f
    repeat' split
    all_goals exact ⟨_, rfl⟩
  obtain ⟨t, ht⟩ := ht
  rw [ht, Option.bind_some, if_pos rfl]
  cases t with
  | false => rw [if_neg (by decide)]; exact ends_j _ _ _ _ _ _ _ _ _ _ _ _ _ _ _ _ _ (.inl rfl)
  | true =>
    rw [if_pos rfl]
    by_cases c1 : a < 0
    · rw [if_pos c1]; exact ends_j _ _ _ _ _ _ _ _ _ _ _ _ _ _ _ _ _ (.inl rfl)
    · rw [if_neg c1]
      by_cases c2 : a > 1099511627776
      · rw [if_pos c2]; exact ends_j _ _ _ _ _ _ _ _ _ _ _ _ _ _ _ _ _ (.inl rfl)
      · rw [if_neg c2]
        by_cases c3 : n < 1
        · rw [if_pos c3]; exact ends_j _ _ _ _ _ _ _ _ _ _ _ _ _ _ _ _ _ (.inl rfl)
        · rw [if_neg c3]
          by_cases c4 : n > 1099511627776
          · rw [if_pos c4]; exact ends_j _ _ _ _ _ _ _ _ _ _ _ _ _ _ _ _ _ (.inl rfl)
          · rw [if_neg c4]
            by_cases c5 : e < 1
            · rw [if_pos c5]; exact ends_j _ _ _ _ _ _ _ _ _ _ _ _ _ _ _ _ _ (.inl rfl)
            · rw [if_neg c5]
              by_cases c6 : e > 2592000
              · rw [decide_eq_true c6]; exact ends_j _ _ _ _ _ _ _ _ _ _ _ _ _ _ _ _ _ (.inl rfl)
              · rw [decide_eq_false c6]; exact ends_j _ _ _ _ _ _ _ _ _ _ _ _ _ _ _ _ _ (.inr (by omega))

end Go.Proofs.Ytojkhlkkhpndaaa.Pure
