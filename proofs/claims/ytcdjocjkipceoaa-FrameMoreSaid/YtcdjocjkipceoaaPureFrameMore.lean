/- What more bytes behind change. No condition. -/
import Derived.Test.YtcdjocjkipceoaaPlain
import Derived.Test.YtcdjocjkipceoaaHdx5
namespace Go.Proofs.Ytcdjocjkipceoaa.Pure
open Go.RowKit Go.Proofs.Ytcdjocjkipceoaa.Hd Go.Proofs.Ytcdjocjkipceoaa.Plain Go.Proofs.YtcdjocjkipceoaaW.PrintWords Go.Proofs.YtcdjocjkipceoaaW.PrintLast
theorem ix_app (a b : List Int) (c : Int) : ix (a ++ b) c = if ix a c = -1 then (if ix b c = -1 then -1 else (a.length : Int) + ix b c) else ix a c := by
  induction a with
  | nil =>
    rw [List.nil_append, ix, if_pos rfl]
    by_cases h : ix b c = -1
    · rw [if_pos h, h]
    · rw [if_neg h]; simp
  | cons x t ih =>
    have hg := ix_ge t c
    have hb := ix_ge b c
    rw [List.cons_append, ix, ix, ih, List.length_cons]
    repeat' split
    all_goals omega
theorem ix_none (l : List Int) (c : Int) (h : ix l c = -1) : ∀ x ∈ l, x ≠ c := by
  induction l with
  | nil => intro x hx; cases hx
  | cons x t ih =>
    rw [ix] at h
    have hg := ix_ge t c
    intro y hy
    by_cases h1 : x = c
    · rw [if_pos h1] at h; cases h
    · rw [if_neg h1] at h
      rcases List.mem_cons.mp hy with rfl | hy
      · exact h1
      · refine ih ?_ y hy
        split at h <;> omega
theorem rd_app (a b : List Int) (i : Int) (h0 : 0 ≤ i) (h1 : i < a.length) : rd (a ++ b) i = rd a i := by
  unfold rd
  rw [List.getD_eq_getElem?_getD, List.getD_eq_getElem?_getD, List.getElem?_append_left (by omega)]
theorem rd_mem (l : List Int) (i : Int) (h0 : 0 ≤ i) (h1 : i < l.length) : rd l i ∈ l := by
  obtain ⟨i, rfl⟩ := Int.eq_ofNat_of_zero_le h0
  have := rd_drop l i (by omega)
  exact List.mem_of_mem_drop (this ▸ List.mem_cons_self)
/-- The test of a line that is too long without an end. -/
def long (l : List Int) : Bool := if (lineS l).2.2 = 4 then (if (lineS l).2.1 = (l.length : Int) then (if (lineS l).2.1 = 0 then true else rd l ((l.length : Int) - 1) != 10) else false) else false
theorem line_more (l m : List Int) : (lineS l).2.2 = 3 ∨ (long l = true ∧ (lineS (l ++ m)).2.2 = 4) ∨ lineS l = lineS (l ++ m) := by
  have hg := ix_ge l 10
  have hm := ix_ge m 10
  have hx := ix_app l m 10
  by_cases h : ix l 10 = -1
  · rw [if_pos h] at hx
    by_cases h1 : 2049 < l.length
    · refine .inr (.inl ?_)
      have e : lineS l = (⟨#[]⟩, (l.length : Int), 4) := by unfold lineS; rw [if_pos h, if_pos h1]
      constructor
      · unfold long
        rw [e, if_pos rfl, if_pos rfl, if_neg (by show ¬ (l.length : Int) = 0; omega)]
        exact bne_iff_ne.mpr (ix_none l 10 h _ (rd_mem l _ (by omega) (by omega)))
      · unfold lineS
        by_cases h2 : ix m 10 = -1
        · rw [if_pos h2] at hx
          rw [if_pos hx, if_pos (by rw [List.length_append]; omega)]
        · rw [if_neg h2] at hx
          have hc : 2048 < cut13 (l ++ m) (ix (l ++ m) 10).toNat := by
            unfold cut13
            split <;> omega
          rw [if_neg (by omega), if_pos hc]
    · left
      unfold lineS; rw [if_pos h, if_neg h1]
  · rw [if_neg h] at hx
    refine .inr (.inr ?_)
    have hc : cut13 (l ++ m) (ix l 10).toNat = cut13 l (ix l 10).toNat := by
      unfold cut13
      by_cases h0 : 0 < (ix l 10).toNat
      · rw [rd_app l m _ (by omega) (by omega)]
      · rw [if_neg (fun hh => h0 hh.1), if_neg (fun hh => h0 hh.1)]
    have hle : cut13 l (ix l 10).toNat ≤ l.length := by
      unfold cut13
      split <;> omega
    unfold lineS
    rw [hx, if_neg h, if_neg h, hc, List.take_append_of_le_length hle]
theorem body_more (l m : List Int) (n : Int) : (bodyS l n).2.2 = 3 ∨ bodyS l n = bodyS (l ++ m) n := by
  unfold bodyS
  by_cases h : n < 0 ∨ 1000 < n
  · rw [if_pos h, if_pos h]; exact .inr rfl
  · rw [if_neg h, if_neg h]
    by_cases h1 : (l.length : Int) < n + 2
    · rw [if_pos h1]; exact .inl rfl
    · have h2 : ¬ ((l ++ m).length : Int) < n + 2 := by rw [List.length_append]; omega
      rw [if_neg h1, if_neg h2, rd_app l m n (by omega) (by omega), rd_app l m (n + 1) (by omega) (by omega), List.take_append_of_le_length (by omega)]
      exact .inr rfl
theorem m4 (k : Nat) (b : Bool) : butterylaw13_FrameMore.j4 (k + 1) b = some b := by rw [butterylaw13_FrameMore.j4]
theorem m3 (k : Nat) : butterylaw13_FrameMore.j3 (k + 1 + 1) true true true = some true := by
  rw [butterylaw13_FrameMore.j3, if_pos rfl, if_pos rfl, m4]
theorem m2 (k : Nat) (x15 : List Int) (x16 x17 : Int) (x18 : List Int) (x19 x20 : Int) (h : x17 = 3 ∨ ((x15, x16, x17) : List Int × Int × Int) = (x18, x19, x20)) :
    butterylaw13_FrameMore.j2 (k + 1 + 1 + 1) true x15 x16 x17 x18 x19 x20 true = some true := by
  rw [butterylaw13_FrameMore.j2]
  by_cases h1 : x17 = 3
  · rw [if_pos h1, m3]
  · rcases h with h | h
    · exact absurd h h1
    · cases h
      rw [if_neg h1, if_pos rfl, if_pos rfl, beq_self_eq_true, m3]
theorem m1 (k : Nat) (x9 : ByteArray) (x10 x11 : Int) (x12 : ByteArray) (x13 x14 : Int) (x15 : List Int) (x16 x17 : Int) (x18 : List Int) (x19 x20 : Int) (x21 : Bool) (h : x17 = 3 ∨ ((x15, x16, x17) : List Int × Int × Int) = (x18, x19, x20))
    (h' : x11 = 3 ∨ (x21 = true ∧ x14 = 4) ∨ ((x9, x10, x11) : ByteArray × Int × Int) = (x12, x13, x14)) :
    butterylaw13_FrameMore.j1 (k + 1 + 1 + 1 + 1) true x9 x10 x11 x12 x13 x14 x15 x16 x17 x18 x19 x20 x21 = some true := by
  have H2 := m2 k x15 x16 x17 x18 x19 x20 h
  rw [butterylaw13_FrameMore.j1]
  by_cases h1 : x11 = 3
  · rw [if_pos h1, H2]
  rw [if_neg h1]
  rcases h' with h' | h' | h'
  · exact absurd h' h1
  · rw [if_pos h'.1, if_pos h'.2, H2]
  · cases h'
    by_cases h2 : x21 = true
    · rw [if_pos h2]
      by_cases h3 : x11 = 4
      · rw [if_pos h3, H2]
      · rw [if_neg h3, if_pos rfl, if_pos rfl, beq_self_eq_true, H2]
    · rw [if_neg h2, if_pos rfl, if_pos rfl, beq_self_eq_true, H2]
theorem FrameMore : butterylaw13_FrameMore.Pure := by
  intro l m n hl _ hb hl' _ hb' hn
  have hB := bs_of hb
  have hB' : Bs (l ++ m) := by
    intro x hx
    rcases List.mem_append.mp hx with h | h
    · exact hB x h
    · exact bs_of hb' x h
  refine ⟨0 + 1 + 1 + 1 + 1 + 1, ?_⟩
  unfold butterylaw13_FrameMore.f
  rw [awake, Option.bind_some]
  by_cases h : (l.length : Int) > 5000
  · rw [if_pos h, butterylaw13_FrameMore.j0, if_pos rfl]
  rw [if_neg h]
  by_cases h1 : (m.length : Int) > 1000
  · rw [decide_eq_true h1, butterylaw13_FrameMore.j0, if_pos rfl]
  have H := fun b => m1 0 (lineS l).1 (lineS l).2.1 (lineS l).2.2 (lineS (l ++ m)).1 (lineS (l ++ m)).2.1 (lineS (l ++ m)).2.2 (bodyS l n).1 (bodyS l n).2.1 (bodyS l n).2.2 (bodyS (l ++ m) n).1 (bodyS (l ++ m) n).2.1 (bodyS (l ++ m) n).2.2 b (body_more l m n)
  have HL := line_more l m
  have hng : 0 ≤ (lineS l).2.1 ∧ (lineS l).2.1 ≤ l.length := by
    unfold lineS
    have hg := ix_ge l 10
    split
    · split
      · exact ⟨Int.natCast_nonneg _, Int.le_refl _⟩
      · exact ⟨Int.le_refl _, Int.natCast_nonneg _⟩
    · split
      · constructor
        · show 0 ≤ ix l 10 + 1; omega
        · show ix l 10 + 1 ≤ _; omega
      · constructor
        · show 0 ≤ ix l 10 + 1; omega
        · show ix l 10 + 1 ≤ _; omega
  rw [decide_eq_false h1, butterylaw13_FrameMore.j0, if_neg (show ¬ (false = true) by decide), if_pos (by rw [List.length_nil]; omega), Option.bind_some, List.nil_append, if_pos (by omega), Option.bind_some, line_is l hB, Option.bind_some, line_is _ hB', Option.bind_some, body_is l n hB, Option.bind_some, body_is _ n hB', Option.bind_some]
  unfold long at HL
  by_cases c1 : (lineS l).2.2 = 4
  · rw [if_pos c1] at HL ⊢
    by_cases c2 : (lineS l).2.1 = (l.length : Int)
    · rw [if_pos c2] at HL ⊢
      by_cases c3 : (lineS l).2.1 = 0
      · rw [if_pos c3] at HL ⊢
        exact H true HL
      · rw [if_neg c3] at HL ⊢
        rw [if_pos (by rw [wrap_id _ (by omega) (by omega)]; omega), if_pos (by rw [wrap_id _ (by omega) (by omega)]; omega), wrap_id _ (by omega) (by omega), c2]
        rw [← c2] at HL ⊢
        exact H _ HL
    · rw [if_neg c2] at HL ⊢
      exact H false HL
  · rw [if_neg c1] at HL ⊢
    exact H false HL
end Go.Proofs.Ytcdjocjkipceoaa.Pure
