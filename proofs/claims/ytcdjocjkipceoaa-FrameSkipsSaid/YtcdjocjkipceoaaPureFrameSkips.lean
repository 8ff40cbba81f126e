/- Pass takes no more than it must. No condition. -/
import Derived.Test.YtcdjocjkipceoaaPlain
import Derived.Test.YtcdjocjkipceoaaHdx6
namespace Go.Proofs.Ytcdjocjkipceoaa.Pure
open Go.RowKit Go.Proofs.Ytcdjocjkipceoaa.Hd Go.Proofs.Ytcdjocjkipceoaa.Plain Go.Proofs.YtcdjocjkipceoaaW.PrintWords Go.Proofs.YtcdjocjkipceoaaW.PrintLast
theorem ix_at (l : List Int) (c : Int) (h : ix l c ≠ -1) : rd l (ix l c) = c := by
  induction l with
  | nil => exact absurd rfl h
  | cons x t ih =>
    rw [ix] at h ⊢
    have hg := ix_ge t c
    split
    · unfold rd; simpa
    · rename_i h1
      split
      · rename_i h2; rw [if_neg h1, if_pos h2] at h; exact absurd rfl h
      · rename_i h2
        have := ih h2
        unfold rd at this ⊢
        rw [show (ix t c + 1).toNat = (ix t c).toNat + 1 by omega, List.getD_cons_succ]
        exact this
theorem rd_drop' (l : List Int) (s : Nat) (i : Int) (hi : 0 ≤ i) : rd (l.drop s) i = rd l ((s : Int) + i) := by
  unfold rd
  rw [List.getD_eq_getElem?_getD, List.getD_eq_getElem?_getD, List.getElem?_drop]
  congr 2
  omega
theorem FrameSkips : butterylaw13_FrameSkips.Pure := by
  intro l n b hl _ hb hn
  have hB := bs_of hb
  refine ⟨0 + 1 + 1, ?_⟩
  unfold butterylaw13_FrameSkips.f
  rw [awake, Option.bind_some]
  by_cases h : (l.length : Int) > 5000
  · rw [if_pos h, butterylaw13_FrameSkips.j0, if_pos rfl]
  rw [if_neg h]
  by_cases h1 : n < 0
  · rw [if_pos h1, butterylaw13_FrameSkips.j0, if_pos rfl]
  rw [if_neg h1]
  by_cases h2 : n > 10000
  · rw [decide_eq_true h2, butterylaw13_FrameSkips.j0, if_pos rfl]
  rw [decide_eq_false h2, butterylaw13_FrameSkips.j0, if_neg (show ¬ (false = true) by decide), pass_is l 0 false hB (by omega), Option.bind_some, pass_is l n b hB (by omega), Option.bind_some, if_pos rfl]
  obtain ⟨s, rfl⟩ := Int.eq_ofNat_of_zero_le (show 0 ≤ n by omega)
  have e0 : passS l (0 : Int).toNat false = (0, 0, false) := by
    unfold passS; rw [if_neg (by show ¬ l.length < 0; omega), if_pos rfl]; rfl
  rw [e0, if_pos (show ((0, 0, false) : Int × Int × Bool).1 = 0 from rfl), Int.toNat_natCast]
  by_cases h3 : l.length < s
  · have e1 : passS l s b = ((l.length : Int), (s : Int) - (l.length : Int), b) := by unfold passS; rw [if_pos h3]
    have e2 : wrap64 ((s : Int) - (l.length : Int) + (l.length : Int)) = (s : Int) := by rw [wrap_id _ (by omega) (by omega)]; omega
    rw [e1]
    dsimp only
    rw [if_pos (by omega), if_pos rfl, if_neg (by omega), e2, bne_self_eq_false, butterylaw13_FrameSkips.j1, if_neg (show ¬ (false = true) by decide), if_pos (by omega), beq_self_eq_true]
  · cases b with
    | false =>
      have e1 : passS l s false = ((s : Int), 0, false) := by unfold passS; rw [if_neg h3, if_pos rfl]
      rw [e1]
      dsimp only
      rw [if_neg (by omega), if_pos rfl, butterylaw13_FrameSkips.j1, if_neg (show ¬ (false = true) by decide), if_neg (by omega), if_neg (show ¬ (false = true) by decide), if_pos rfl]
      rfl
    | true =>
      have hg := ix_ge (l.drop s) 10
      have hd : (l.drop s).length = l.length - s := List.length_drop
      by_cases h4 : ix (l.drop s) 10 = -1
      · have e1 : passS l s true = ((l.length : Int), 0, true) := by unfold passS; rw [if_neg h3, if_neg (by decide), if_pos h4]
        rw [e1]
        dsimp only
        rw [if_neg (by omega), if_pos rfl, butterylaw13_FrameSkips.j1, if_neg (show ¬ (false = true) by decide), if_neg (by omega), if_pos rfl, if_pos rfl, beq_self_eq_true]
      · have e1 : passS l s true = ((s : Int) + ix (l.drop s) 10 + 1, 0, false) := by unfold passS; rw [if_neg h3, if_neg (by decide), if_neg h4]
        have e2 : wrap64 ((s : Int) + ix (l.drop s) 10 + 1 - 1) = (s : Int) + ix (l.drop s) 10 := by rw [wrap_id _ (by omega) (by omega)]; omega
        have e3 : rd l ((s : Int) + ix (l.drop s) 10) = 10 := by
          rw [← rd_drop' l s _ (by omega)]; exact ix_at _ _ h4
        rw [e1]
        dsimp only
        rw [if_neg (by omega), if_pos rfl, butterylaw13_FrameSkips.j1, if_neg (show ¬ (false = true) by decide), if_neg (by omega), if_pos rfl, if_neg (show ¬ (false = true) by decide), if_pos (by omega), e2, if_pos (by omega), if_pos (by omega), e3]
        rfl
end Go.Proofs.Ytcdjocjkipceoaa.Pure
