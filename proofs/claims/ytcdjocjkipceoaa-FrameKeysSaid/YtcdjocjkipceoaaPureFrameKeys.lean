/- Key answers as the reference's. No condition. -/
import Derived.Test.YtcdjocjkipceoaaPlain
namespace Go.Proofs.Ytcdjocjkipceoaa.Pure
open Go.RowKit Go.Proofs.Ytcdjocjkipceoaa.Hd Go.Proofs.Ytcdjocjkipceoaa.Plain Go.Proofs.YtcdjocjkipceoaaW.PrintWords Go.Proofs.YtcdjocjkipceoaaW.PrintLast
theorem idx_ge (l : List Int) : ∀ i : Nat, frame_Key.idx l i < 0 ↔ ∀ x ∈ l, frame_Key.odd x = false := by
  induction l with
  | nil => intro i; simp [frame_Key.idx]
  | cons x t ih =>
    intro i
    rw [frame_Key.idx]
    by_cases h : frame_Key.odd x = true
    · rw [if_pos h]
      constructor
      · intro hh; omega
      · intro hh
        have := hh x List.mem_cons_self
        rw [h] at this; cases this
    · rw [if_neg h, ih]
      constructor
      · intro hh y hy
        rcases List.mem_cons.mp hy with rfl | hy
        · simpa using h
        · exact hh y hy
      · intro hh y hy
        exact hh y (List.mem_cons_of_mem _ hy)
theorem key_loop (a : ByteArray) (ha : a.size ≤ 9223372036854775806) (d : Nat) : ∀ (k i : Nat), i ≤ a.size → a.size - i = d → d < k →
    butteryref13_Key.l0 k a i = some (decide (frame_Key.idx ((bytesOf a).drop i) i < 0)) := by
  have hs : (bytesOf a).length = a.size := by unfold bytesOf; rw [List.length_map, Array.length_toList]; rfl
  induction d with
  | zero =>
    intro k i hi hd hk
    obtain ⟨k, rfl⟩ : ∃ m, k = m + 1 := ⟨k - 1, by omega⟩
    rw [butteryref13_Key.l0, if_neg (by omega), List.drop_of_length_le (by omega), frame_Key.idx]
    rfl
  | succ d ih =>
    intro k i hi hd hk
    obtain ⟨k, rfl⟩ : ∃ m, k = m + 1 := ⟨k - 1, by omega⟩
    have he : rd (bytesOf a) i = bt a i := by
      unfold rd bytesOf bt
      rw [Int.toNat_natCast, dif_pos (show i < a.size by omega), List.getD_eq_getElem?_getD, List.getElem?_map, Array.getElem?_toList, Array.getElem?_eq_getElem (show i < a.data.size by show i < a.size; omega)]
      rfl
    rw [butteryref13_Key.l0, if_pos (by omega), if_pos (by omega), rd_drop (bytesOf a) i (by omega), frame_Key.idx, he]
    unfold frame_Key.odd
    by_cases h1 : bt a i ≤ 32
    · rw [if_pos h1, decide_eq_true h1, if_pos (by simp), decide_eq_false (by omega)]
    · rw [if_neg h1, decide_eq_false h1]
      by_cases h2 : bt a i = 127
      · rw [if_pos h2, h2, if_pos (by decide), decide_eq_false (by omega)]
      · rw [if_neg h2, if_neg (by simpa using h2), wrap_id _ (by omega) (by omega)]
        have := ih k (i + 1) (by omega) (by omega) (by omega)
        rw [Int.natCast_add, Int.natCast_one] at this
        exact this
theorem FrameKeys : butterylaw13_FrameKeys.Pure := by
  intro a ha
  refine ⟨a.size + 1 + 1, ?_⟩
  have hz : a.toList = ([] : List UInt8) ↔ a.size < 1 := by
    have : a.toList.length = a.size := by rw [ByteArray.toList_eq]; exact Array.length_toList
    constructor
    · intro h; rw [h] at this; rw [← this]; exact Nat.one_pos
    · intro h; exact List.length_eq_zero_iff.mp (by omega)
  have hk : butteryref13_Key.f (a.size + 1 + 1) a = some (if a.size < 1 ∨ 250 < a.size then false else decide (frame_Key.idx (bytesOf a) 0 < 0)) := by
    unfold butteryref13_Key.f
    by_cases h1 : a.size < 1
    · rw [if_pos (by omega), if_pos (Or.inl h1), butteryref13_Key.j0, if_pos rfl]
    · rw [if_neg (by omega)]
      by_cases h2 : 250 < a.size
      · rw [decide_eq_true (by omega), if_pos (Or.inr h2), butteryref13_Key.j0, if_pos rfl]
      · have := key_loop a (by omega) a.size (a.size + 1) 0 (by omega) (by omega) (by omega)
        rw [decide_eq_false (by omega), if_neg (by omega), butteryref13_Key.j0, if_neg (show ¬ (false = true) by decide)]
        exact this
  have hd : frame_Keyed.f a = some (if a.size < 1 ∨ 250 < a.size then false else true) := by
    unfold frame_Keyed.f
    by_cases h1 : a.size < 1
    · rw [if_pos (hz.mpr h1), if_pos (Or.inl h1)]
    · rw [if_neg (fun hh => h1 (hz.mp hh))]
      by_cases h2 : 250 < a.size
      · rw [decide_eq_false (by omega), if_pos (Or.inr h2)]
      · rw [decide_eq_true (by omega), if_neg (by omega)]
  have hr : butteryref13_Keyed.f a = some (if a.size < 1 ∨ 250 < a.size then false else true) := by
    unfold butteryref13_Keyed.f
    by_cases h1 : a.size < 1
    · rw [if_neg (by omega), if_pos (Or.inl h1)]
    · rw [if_pos (by omega)]
      by_cases h2 : 250 < a.size
      · rw [decide_eq_false (by omega), if_pos (Or.inr h2)]
      · rw [decide_eq_true (by omega), if_neg (by omega)]
  have hy : frame_Key.f a = some (if a.size < 1 ∨ 250 < a.size then false else decide (frame_Key.idx (bytesOf a) 0 < 0)) := by
    unfold frame_Key.f
    rw [hd, Option.bind_some]
    by_cases h1 : a.size < 1 ∨ 250 < a.size
    · rw [if_pos h1, if_pos h1, if_neg (show ¬ (false = true) by decide)]
    · rw [if_neg h1, if_neg h1, if_pos rfl]
  unfold butterylaw13_FrameKeys.f
  rw [awake, Option.bind_some, if_pos rfl, hy, Option.bind_some, hk, Option.bind_some, if_pos (beq_self_eq_true _), hd, Option.bind_some, hr, Option.bind_some, beq_self_eq_true]
end Go.Proofs.Ytcdjocjkipceoaa.Pure
