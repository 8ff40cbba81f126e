/- The plain side of FrameWhole, in the group of its own: what the printed functions of the program and of the reference come to, in closed forms. -/
import Derived.Test.YtcdjocjkipceoaaHex2
namespace Go.Proofs.Ytcdjocjkipceoaa.Pure
open Go.RowKit Go.Proofs.Ytcdjocjkipceoaa.He Go.Proofs.YtcdjocjkipceoaaW.PrintWords Go.Proofs.YtcdjocjkipceoaaW.PrintLast Go.Proofs.YtcdjocjkipceoaaW.PrintMore
set_option linter.unusedVariables false

/-- Bytes. -/
def Bs (l : List Int) : Prop := ∀ x ∈ l, 0 ≤ x ∧ x ≤ 255
theorem bs_of {l : List Int} (h : ∀ x ∈ l, (Lit.int .u8 x).wf = true) : Bs l := by
  intro x hx
  have := h x hx
  simp [Lit.wf] at this
  have e1 : IntKind.u8.min = 0 := rfl
  have e2 : IntKind.u8.max = 255 := rfl
  omega
theorem wrap_id (n : Int) (h0 : -9223372036854775808 ≤ n) (h1 : n ≤ 9223372036854775807) : wrap64 n = n := by
  unfold wrap64
  omega
theorem u8_eq (x y : Int) (hx : 0 ≤ x ∧ x ≤ 255) (hy : 0 ≤ y ∧ y ≤ 255) : (UInt8.ofNat x.toNat = UInt8.ofNat y.toNat) ↔ x = y := by
  constructor
  · intro h
    have h2 := congrArg UInt8.toNat h
    simp only [UInt8.toNat_ofNat'] at h2
    omega
  · intro h; rw [h]
/-- The place of the first c; -1: there is none. -/
def ix : List Int → Int → Int
  | [], _ => -1
  | x :: t, c => if x = c then 0 else if ix t c = -1 then -1 else ix t c + 1
theorem ix_ge (l : List Int) (c : Int) : -1 ≤ ix l c ∧ ix l c < l.length := by
  induction l with
  | nil => simp [ix]
  | cons x t ih =>
    rw [ix, List.length_cons]
    split
    · omega
    · split
      · omega
      · omega
theorem feed_ix (l : List Int) (c : Int) (hc : 0 ≤ c ∧ c ≤ 255) (h : Bs l) : feedAt l c = ix l c := by
  unfold feedAt
  induction l with
  | nil => rfl
  | cons x t ih =>
    have ih' := ih (fun y hy => h y (List.mem_cons_of_mem _ hy))
    have e := u8_eq x c (h x List.mem_cons_self) hc
    show (if (UInt8.ofNat x.toNat == c.toNat.toUInt8) = true then (0 : Int) else if (Lib.indexByte (Lib.bytesOf t) c.toNat.toUInt8 == -1) = true then -1 else Lib.indexByte (Lib.bytesOf t) c.toNat.toUInt8 + 1) = _
    rw [ih', ix]
    by_cases hxc : x = c
    · rw [if_pos (beq_iff_eq.mpr (e.mpr hxc)), if_pos hxc]
    · rw [if_neg (fun hh => hxc (e.mp (beq_iff_eq.mp hh))), if_neg hxc]
      by_cases h1 : ix t c = -1
      · rw [if_pos h1, if_pos (beq_iff_eq.mpr h1)]
      · rw [if_neg h1, if_neg (fun hh => h1 (beq_iff_eq.mp hh))]
theorem rd_drop (l : List Int) (i : Nat) (h : i < l.length) : l.drop i = rd l i :: l.drop (i + 1) := by
  rw [List.drop_eq_getElem_cons h]
  unfold rd
  rw [Int.toNat_natCast, List.getD_eq_getElem?_getD, List.getElem?_eq_getElem h, Option.getD_some]
theorem str_list (xs : List Int) : (strOfNums xs).toList = xs.map fun n => UInt8.ofNat n.toNat := Lib.strOfNums_toList xs

/-- The end of a line: without the carriage return ahead of it. -/
def cut13 (l : List Int) (i : Nat) : Nat := if 0 < i ∧ rd l ((i - 1 : Nat) : Int) = 13 then i - 1 else i
/-- What Line answers. -/
def lineS (l : List Int) : ByteArray × Int × Int :=
  if ix l 10 = -1 then (if 2049 < l.length then (⟨#[]⟩, (l.length : Int), 4) else (⟨#[]⟩, 0, 3))
  else if 2048 < cut13 l (ix l 10).toNat then (⟨#[]⟩, ix l 10 + 1, 4) else (strOfNums (l.take (cut13 l (ix l 10).toNat)), ix l 10 + 1, 0)
theorem suffix_is (l : List Int) (i : Nat) (hi : i < l.length) (h : Bs l) : bytes_HasSuffix.f (l.take i) [13] = some (decide (0 < i ∧ rd l ((i - 1 : Nat) : Int) = 13)) := by
  unfold bytes_HasSuffix.f
  rw [if_pos (by rfl)]
  have hl : (l.take i).length = i := by rw [List.length_take]; omega
  by_cases h0 : i = 0
  · rw [if_pos (by omega), decide_eq_false (by omega)]
  · rw [if_neg (by omega), hl]
    have hd : (l.take i).drop (i - 1) = [rd l ((i - 1 : Nat) : Int)] := by
      rw [List.drop_take, show i - (i - 1) = 1 by omega, rd_drop l (i - 1) (by omega), List.take_succ_cons, List.take_zero]
    rw [hd]
    unfold bytes_Equal.f
    rw [str_list, str_list]
    have hx : 0 ≤ rd l ((i - 1 : Nat) : Int) ∧ rd l ((i - 1 : Nat) : Int) ≤ 255 := by
      refine h _ ?_
      have := rd_drop l (i - 1) (by omega)
      exact List.mem_of_mem_drop (this ▸ List.mem_cons_self)
    have e := u8_eq _ 13 hx (by omega)
    congr 1
    rw [Bool.eq_iff_iff, beq_iff_eq, decide_eq_true_iff]
    constructor
    · intro hh
      refine ⟨by omega, e.mp ?_⟩
      simpa using hh
    · intro hh
      simp only [List.map_cons, List.map_nil]
      rw [e.mpr hh.2]
theorem line_is (l : List Int) (h : Bs l) : frame_Line.f l = some (lineS l) := by
  unfold frame_Line.f lineS
  rw [feed_ix l 10 (by omega) h]
  have hg := ix_ge l 10
  by_cases h1 : ix l 10 = -1
  · rw [if_pos (by omega), if_pos h1]
    by_cases h2 : 2049 < l.length
    · rw [if_pos h2, if_pos h2]
    · rw [if_neg h2, if_neg h2]
  · rw [if_neg (by omega), if_neg h1, suffix_is l _ (by omega) h, Option.bind_some]
    have e0 : (if (decide (0 < (ix l 10).toNat ∧ rd l (((ix l 10).toNat - 1 : Nat) : Int) = 13)) = true then (ix l 10).toNat - 1 else (ix l 10).toNat) = cut13 l (ix l 10).toNat := by
      unfold cut13
      by_cases h3 : 0 < (ix l 10).toNat ∧ rd l (((ix l 10).toNat - 1 : Nat) : Int) = 13
      · rw [if_pos (decide_eq_true h3), if_pos h3]
      · rw [if_neg (by rw [decide_eq_false h3]; decide), if_neg h3]
    rw [e0]
    by_cases h4 : 2048 < cut13 l (ix l 10).toNat
    · rw [if_pos h4, if_pos h4]
    · rw [if_neg h4, if_neg h4]
/-- What Body answers. -/
def bodyS (l : List Int) (n : Int) : List Int × Int × Int :=
  if n < 0 ∨ 1000 < n then ([], 0, 2) else if (l.length : Int) < n + 2 then ([], 0, 3) else if rd l n = 13 ∧ rd l (n + 1) = 10 then (l.take n.toNat, n + 2, 0) else ([], n, 2)
theorem body_is (l : List Int) (n : Int) (h : Bs l) : frame_Body.f l n = some (bodyS l n) := by
  unfold frame_Body.f bodyS
  by_cases h0 : n < 0
  · rw [if_pos h0, if_pos (.inl h0)]
  rw [if_neg h0]
  by_cases h1 : 1000 < n
  · rw [if_pos h1, if_pos (.inr h1)]
  · rw [if_neg h1, if_neg (show ¬ (n < 0 ∨ 1000 < n) from fun hh => hh.elim h0 h1)]
    obtain ⟨m, rfl⟩ := Int.eq_ofNat_of_zero_le (show 0 ≤ n by omega)
    by_cases h2 : (l.length : Int) < (m : Int) + 2
    · rw [if_pos h2, if_pos h2]
    · rw [if_neg h2, if_neg h2]
      have hd : (l.take ((m : Int) + 2).toNat).drop (m : Int).toNat = [rd l (m : Int), rd l ((m : Int) + 1)] := by
        rw [Int.toNat_natCast, show ((m : Int) + 2).toNat = m + 2 by omega, List.drop_take, show m + 2 - m = 2 by omega, rd_drop l m (by omega), List.take_succ_cons, rd_drop l (m + 1) (by omega), List.take_succ_cons, List.take_zero, Int.natCast_add, Int.natCast_one]
      rw [hd, str_list]
      have mem : ∀ j : Nat, j < l.length → 0 ≤ rd l (j : Int) ∧ rd l (j : Int) ≤ 255 := fun j hj => by
        refine h _ ?_
        have := rd_drop l j hj
        exact List.mem_of_mem_drop (this ▸ List.mem_cons_self)
      have m1 := mem m (by omega)
      have m2 := mem (m + 1) (by omega)
      rw [Int.natCast_add, Int.natCast_one] at m2
      have e1 := u8_eq _ 13 m1 (by omega)
      have e2 := u8_eq _ 10 m2 (by omega)
      by_cases h3 : rd l (m : Int) = 13 ∧ rd l ((m : Int) + 1) = 10
      · rw [if_pos h3, if_pos (by rw [h3.1, h3.2]; rfl)]
      · rw [if_neg h3, if_neg]
        intro hh
        simp only [List.map_cons, List.map_nil, List.cons.injEq, and_true] at hh
        exact h3 ⟨e1.mp hh.1, e2.mp hh.2⟩
theorem ix_append (a b : List Int) (c : Int) : ix (a ++ b) c = if ix a c = -1 then (if ix b c = -1 then -1 else (a.length : Int) + ix b c) else ix a c := by
  induction a with
  | nil =>
    rw [List.nil_append, ix, if_pos rfl]
    by_cases h : ix b c = -1
    · rw [if_pos h, h]
    · rw [if_neg h]; simp
  | cons x t ih =>
    have hg := ix_ge t c
    have hb := ix_ge b c
    rw [List.cons_append, ix, ix, ih, List.length_cons]
    repeat' split
    all_goals omega
theorem bytes_append (a b : ByteArray) : bytesOf (a ++ b) = bytesOf a ++ bytesOf b := by
  unfold bytesOf
  rw [← List.map_append]
  congr 1
theorem bytes_len (a : ByteArray) : (bytesOf a).length = a.size := by unfold bytesOf; rw [List.length_map, Array.length_toList]; rfl
theorem bytes_back (a : ByteArray) : strOfNums (bytesOf a) = a := by
  have h : (strOfNums (bytesOf a)).data.toList = a.data.toList := by
    rw [strOfNums_data]
    unfold bytesOf
    rw [List.map_map]
    conv => rhs; rw [← List.map_id a.data.toList]
    apply List.map_congr_left
    intro x _
    simp
  have h2 : (strOfNums (bytesOf a)).data = a.data := Array.toList_inj.mp h
  generalize strOfNums (bytesOf a) = b at h2
  cases a; cases b
  simp only at h2
  rw [h2]
theorem bytes_bs (a : ByteArray) : Bs (bytesOf a) := by
  intro x hx
  unfold bytesOf at hx
  obtain ⟨b, _, rfl⟩ := List.mem_map.mp hx
  have := b.toNat_lt
  omega
theorem rd_bytes (a : ByteArray) (j : Nat) (h : j < a.size) : rd (bytesOf a) j = bt a j := by
  unfold rd bytesOf bt
  rw [Int.toNat_natCast, dif_pos h, List.getD_eq_getElem?_getD, List.getElem?_map, Array.getElem?_toList, Array.getElem?_eq_getElem (show j < a.data.size from h)]
  rfl
theorem ix_no (l : List Int) (c : Int) (h : ∀ x ∈ l, x ≠ c) : ix l c = -1 := by
  induction l with
  | nil => rfl
  | cons x t ih =>
    rw [ix, if_neg (h x List.mem_cons_self), ih (fun y hy => h y (List.mem_cons_of_mem _ hy)), if_pos rfl]
theorem rd_at (a b : List Int) (i : Int) (h : i = a.length) (x : Int) (t : List Int) (hb : b = x :: t) : rd (a ++ b) i = x := by
  unfold rd
  rw [h, Int.toNat_natCast, hb, List.getD_eq_getElem?_getD, List.getElem?_append_right (Nat.le_refl _), Nat.sub_self]
  rfl
theorem FrameWhole : butterylaw13_FrameWhole.Pure := by
  intro a l m ha hl _ hb hm _ hb'
  unfold butterylaw13_FrameWhole.f
  rw [if_pos]
  intro h1 h2 h3 hno
  have hs := bytes_len a
  have hL : bytesOf (a ++ ⟨#[13, 10]⟩) ++ m = bytesOf a ++ ([13, 10] ++ m) := by
    rw [bytes_append, List.append_assoc]
    rfl
  have hbm : Bs m := bs_of hb'
  have hbl : Bs l := bs_of hb
  have hbc : Bs [13, 10] := by intro x hx; simp at hx; omega
  have app : ∀ {x y : List Int}, Bs x → Bs y → Bs (x ++ y) := fun hx hy z hz => (List.mem_append.mp hz).elim (hx z) (hy z)
  constructor
  · rw [hL, line_is _ (app (bytes_bs a) (app hbc hbm))]
    have hn : ix (bytesOf a) 10 = -1 := ix_no _ _ (by
      intro x hx
      obtain ⟨j, hj, rfl⟩ := List.getElem_of_mem hx
      have := rd_bytes a j (by omega)
      unfold rd at this
      rw [Int.toNat_natCast, List.getD_eq_getElem?_getD, List.getElem?_eq_getElem hj, Option.getD_some] at this
      rw [this]
      exact hno j (by omega))
    have h10 : ix ([13, 10] ++ m) 10 = 1 := by
      show ix (13 :: 10 :: m) 10 = 1
      rw [ix, if_neg (by decide), ix, if_pos rfl, if_neg (by decide)]
      rfl
    have hi : ix (bytesOf a ++ ([13, 10] ++ m)) 10 = (a.size : Int) + 1 := by
      rw [ix_append, if_pos hn, h10, if_neg (by decide), hs]
    have hc : cut13 (bytesOf a ++ ([13, 10] ++ m)) (a.size + 1) = a.size := by
      unfold cut13
      rw [if_pos ⟨by omega, rd_at _ _ _ (by rw [hs]; omega) 13 (10 :: m) rfl⟩]
      omega
    unfold lineS
    rw [hi, if_neg (by omega), show ((a.size : Int) + 1).toNat = a.size + 1 by omega, hc, if_neg (by omega), ← hs, List.take_left, bytes_back, hs]
    congr 2
  · rw [body_is _ _ (app (app hbl hbc) hbm)]
    have ht : (l ++ [13, 10] ++ m).length = l.length + 2 + m.length := by rw [List.length_append, List.length_append]; rfl
    unfold bodyS
    rw [if_neg (by omega), if_neg (by omega), if_pos ⟨by rw [List.append_assoc]; exact rd_at _ _ _ rfl 13 (10 :: m) rfl, by rw [show l ++ [13, 10] ++ m = (l ++ [13]) ++ (10 :: m) by simp]; exact rd_at _ _ _ (by simp) 10 m rfl⟩, Int.toNat_natCast, List.append_assoc, List.take_left]
end Go.Proofs.Ytcdjocjkipceoaa.Pure
