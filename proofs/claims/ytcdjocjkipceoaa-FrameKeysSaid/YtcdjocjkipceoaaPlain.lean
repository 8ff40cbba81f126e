/- The plain side of chapter 13: what the printed functions of the program and of the reference come to, in closed forms. -/
import Derived.Test.YtcdjocjkipceoaaHdx3
import Derived.Test.YtcdjocjkipceoaaHdx1
namespace Go.Proofs.Ytcdjocjkipceoaa.Plain
open Go.RowKit Go.Proofs.Ytcdjocjkipceoaa.Hd Go.Proofs.YtcdjocjkipceoaaW.PrintWords Go.Proofs.YtcdjocjkipceoaaW.PrintLast Go.Proofs.YtcdjocjkipceoaaW.PrintMore
set_option linter.unusedVariables false

/-- Bytes. -/
def Bs (l : List Int) : Prop := ∀ x ∈ l, 0 ≤ x ∧ x ≤ 255
theorem bs_of {l : List Int} (h : ∀ x ∈ l, (Lit.int .u8 x).wf = true) : Bs l := by
  intro x hx
  have := h x hx
  simp [Lit.wf] at this
  have e1 : IntKind.u8.min = 0 := rfl
  have e2 : IntKind.u8.max = 255 := rfl
  omega
theorem wrap_id (n : Int) (h0 : -9223372036854775808 ≤ n) (h1 : n ≤ 9223372036854775807) : wrap64 n = n := by
  unfold wrap64
  omega
theorem u8_eq (x y : Int) (hx : 0 ≤ x ∧ x ≤ 255) (hy : 0 ≤ y ∧ y ≤ 255) : (UInt8.ofNat x.toNat = UInt8.ofNat y.toNat) ↔ x = y := by
  constructor
  · intro h
    have h2 := congrArg UInt8.toNat h
    simp only [UInt8.toNat_ofNat'] at h2
    omega
  · intro h; rw [h]
/-- The place of the first c; -1: there is none. -/
def ix : List Int → Int → Int
  | [], _ => -1
  | x :: t, c => if x = c then 0 else if ix t c = -1 then -1 else ix t c + 1
theorem ix_ge (l : List Int) (c : Int) : -1 ≤ ix l c ∧ ix l c < l.length := by
  induction l with
  | nil => simp [ix]
  | cons x t ih =>
    rw [ix, List.length_cons]
    split
    · omega
    · split
      · omega
      · omega
theorem feed_ix (l : List Int) (c : Int) (hc : 0 ≤ c ∧ c ≤ 255) (h : Bs l) : feedAt l c = ix l c := by
  unfold feedAt
  induction l with
  | nil => rfl
  | cons x t ih =>
    have ih' := ih (fun y hy => h y (List.mem_cons_of_mem _ hy))
    have e := u8_eq x c (h x List.mem_cons_self) hc
    show (if (UInt8.ofNat x.toNat == c.toNat.toUInt8) = true then (0 : Int) else if (Lib.indexByte (Lib.bytesOf t) c.toNat.toUInt8 == -1) = true then -1 else Lib.indexByte (Lib.bytesOf t) c.toNat.toUInt8 + 1) = _
    rw [ih', ix]
    by_cases hxc : x = c
    · rw [if_pos (beq_iff_eq.mpr (e.mpr hxc)), if_pos hxc]
    · rw [if_neg (fun hh => hxc (e.mp (beq_iff_eq.mp hh))), if_neg hxc]
      by_cases h1 : ix t c = -1
      · rw [if_pos h1, if_pos (beq_iff_eq.mpr h1)]
      · rw [if_neg h1, if_neg (fun hh => h1 (beq_iff_eq.mp hh))]
theorem ix_drop_zero (l : List Int) (c : Int) : ix (l.drop 0) c = ix l c := by rw [List.drop_zero]
theorem rd_drop (l : List Int) (i : Nat) (h : i < l.length) : l.drop i = rd l i :: l.drop (i + 1) := by
  rw [List.drop_eq_getElem_cons h]
  unfold rd
  rw [Int.toNat_natCast, List.getD_eq_getElem?_getD, List.getElem?_eq_getElem h, Option.getD_some]
/-- The reference's search. -/
theorem feed_loop (l : List Int) (hl : l.length ≤ 9223372036854775806) (d : Nat) : ∀ (k i : Nat), i ≤ l.length → l.length - i = d → d < k →
    butteryref13_feed.l0 k l i = some (if ix (l.drop i) 10 = -1 then -1 else i + ix (l.drop i) 10) := by
  induction d with
  | zero =>
    intro k i hi hd hk
    obtain ⟨k, rfl⟩ : ∃ m, k = m + 1 := ⟨k - 1, by omega⟩
    rw [butteryref13_feed.l0, if_neg (by omega), List.drop_of_length_le (by omega), ix, if_pos rfl]
  | succ d ih =>
    intro k i hi hd hk
    obtain ⟨k, rfl⟩ : ∃ m, k = m + 1 := ⟨k - 1, by omega⟩
    rw [butteryref13_feed.l0, if_pos (by omega), if_pos (by omega), rd_drop l i (by omega), ix]
    by_cases h : rd l i = 10
    · rw [if_pos h, if_pos h, if_neg (by decide), Int.add_zero]
    · rw [if_neg h, if_neg h, wrap_id _ (by omega) (by omega)]
      have := ih k (i + 1) (by omega) (by omega) (by omega)
      rw [Int.natCast_add, Int.natCast_one] at this
      rw [this]
      have hg := ix_ge (l.drop (i + 1)) 10
      by_cases h1 : ix (l.drop (i + 1)) 10 = -1
      · rw [if_pos h1, if_pos h1, if_pos rfl]
      · rw [if_neg h1, if_neg h1, if_neg (by omega)]
        congr 1
        omega
theorem feed_is (l : List Int) (k : Nat) (hl : l.length ≤ 9223372036854775806) (hk : l.length < k) : butteryref13_feed.f k l = some (ix l 10) := by
  unfold butteryref13_feed.f
  have := feed_loop l hl l.length k 0 (by omega) (by omega) hk
  rw [Int.natCast_zero, List.drop_zero] at this
  rw [this]
  have hg := ix_ge l 10
  by_cases h1 : ix l 10 = -1
  · rw [if_pos h1, h1]
  · rw [if_neg h1, Int.zero_add]
theorem str_list (xs : List Int) : (strOfNums xs).toList = xs.map fun n => UInt8.ofNat n.toNat := Lib.strOfNums_toList xs

/-- The end of a line: without the carriage return ahead of it. -/
def cut13 (l : List Int) (i : Nat) : Nat := if 0 < i ∧ rd l ((i - 1 : Nat) : Int) = 13 then i - 1 else i
/-- What Line answers. -/
def lineS (l : List Int) : ByteArray × Int × Int :=
  if ix l 10 = -1 then (if 2049 < l.length then (⟨#[]⟩, (l.length : Int), 4) else (⟨#[]⟩, 0, 3))
  else if 2048 < cut13 l (ix l 10).toNat then (⟨#[]⟩, ix l 10 + 1, 4) else (strOfNums (l.take (cut13 l (ix l 10).toNat)), ix l 10 + 1, 0)
theorem suffix_is (l : List Int) (i : Nat) (hi : i < l.length) (h : Bs l) : bytes_HasSuffix.f (l.take i) [13] = some (decide (0 < i ∧ rd l ((i - 1 : Nat) : Int) = 13)) := by
  unfold bytes_HasSuffix.f
  rw [if_pos (by rfl)]
  have hl : (l.take i).length = i := by rw [List.length_take]; omega
  by_cases h0 : i = 0
  · rw [if_pos (by omega), decide_eq_false (by omega)]
  · rw [if_neg (by omega), hl]
    have hd : (l.take i).drop (i - 1) = [rd l ((i - 1 : Nat) : Int)] := by
      rw [List.drop_take, show i - (i - 1) = 1 by omega, rd_drop l (i - 1) (by omega), List.take_succ_cons, List.take_zero]
    rw [hd]
    unfold bytes_Equal.f
    rw [str_list, str_list]
    have hx : 0 ≤ rd l ((i - 1 : Nat) : Int) ∧ rd l ((i - 1 : Nat) : Int) ≤ 255 := by
      refine h _ ?_
      have := rd_drop l (i - 1) (by omega)
      exact List.mem_of_mem_drop (this ▸ List.mem_cons_self)
    have e := u8_eq _ 13 hx (by omega)
    congr 1
    rw [Bool.eq_iff_iff, beq_iff_eq, decide_eq_true_iff]
    constructor
    · intro hh
      refine ⟨by omega, e.mp ?_⟩
      simpa using hh
    · intro hh
      simp only [List.map_cons, List.map_nil]
      rw [e.mpr hh.2]
theorem line_is (l : List Int) (h : Bs l) : frame_Line.f l = some (lineS l) := by
  unfold frame_Line.f lineS
  rw [feed_ix l 10 (by omega) h]
  have hg := ix_ge l 10
  by_cases h1 : ix l 10 = -1
  · rw [if_pos (by omega), if_pos h1]
    by_cases h2 : 2049 < l.length
    · rw [if_pos h2, if_pos h2]
    · rw [if_neg h2, if_neg h2]
  · rw [if_neg (by omega), if_neg h1, suffix_is l _ (by omega) h, Option.bind_some]
    have e0 : (if (decide (0 < (ix l 10).toNat ∧ rd l (((ix l 10).toNat - 1 : Nat) : Int) = 13)) = true then (ix l 10).toNat - 1 else (ix l 10).toNat) = cut13 l (ix l 10).toNat := by
      unfold cut13
      by_cases h3 : 0 < (ix l 10).toNat ∧ rd l (((ix l 10).toNat - 1 : Nat) : Int) = 13
      · rw [if_pos (decide_eq_true h3), if_pos h3]
      · rw [if_neg (by rw [decide_eq_false h3]; decide), if_neg h3]
    rw [e0]
    by_cases h4 : 2048 < cut13 l (ix l 10).toNat
    · rw [if_pos h4, if_pos h4]
    · rw [if_neg h4, if_neg h4]
theorem refline_j (l : List Int) (k : Nat) (i : Nat) (b : Bool) (hi : i < l.length) (hl : l.length ≤ 9223372036854775806) (hb : b = true → 0 < i) :
    butteryref13_Line.j0 (k + 1) l (i : Int) (i : Int) b = some (if 2048 < (if b = true then i - 1 else i) then (⟨#[]⟩, (i : Int) + 1, 4) else (strOfNums (l.take (if b = true then i - 1 else i)), (i : Int) + 1, 0)) := by
  rw [butteryref13_Line.j0, wrap_id ((i : Int) + 1) (by omega) (by omega)]
  cases b with
  | true =>
    have h0 := hb rfl
    have e0 : (if (true = true) then i - 1 else i) = i - 1 := if_pos rfl
    rw [if_pos rfl, e0, wrap_id ((i : Int) - 1) (by omega) (by omega), show ((i : Int) - 1) = ((i - 1 : Nat) : Int) by omega]
    by_cases h1 : 2048 < i - 1
    · rw [if_pos (by omega), if_pos h1]
    · rw [if_neg (by omega), if_neg h1, if_pos (by omega), if_pos (by omega), Int.toNat_natCast]
  | false =>
    have e0 : (if (false = true) then i - 1 else i) = i := if_neg (by decide)
    rw [if_neg (show ¬ (false = true) by decide), e0]
    by_cases h1 : 2048 < i
    · rw [if_pos (by omega), if_pos h1]
    · rw [if_neg (by omega), if_neg h1, if_pos (by omega), if_pos (by omega), Int.toNat_natCast]
theorem refline_is (l : List Int) (k : Nat) (hl : l.length ≤ 9223372036854775806) (hk : l.length < k) : butteryref13_Line.f k l = some (lineS l) := by
  unfold butteryref13_Line.f lineS
  obtain ⟨m, rfl⟩ : ∃ m, k = m + 1 := ⟨k - 1, by omega⟩
  rw [feed_is l (m + 1) hl hk, Option.bind_some]
  have hg := ix_ge l 10
  by_cases h1 : ix l 10 = -1
  · rw [if_pos (by omega), if_pos h1]
    by_cases h2 : 2049 < l.length
    · rw [if_pos (by omega), if_pos h2]
    · rw [if_neg (by omega), if_neg h2]
  · rw [if_neg (by omega), if_neg h1]
    obtain ⟨i, hi⟩ := Int.eq_ofNat_of_zero_le (show 0 ≤ ix l 10 by omega)
    rw [hi, Int.toNat_natCast]
    have hil : i < l.length := by omega
    by_cases h0 : 0 < i
    · have e1 : ((i : Int) - 1) = ((i - 1 : Nat) : Int) := by omega
      have e0 : (if (rd l ((i - 1 : Nat) : Int) == 13) = true then i - 1 else i) = cut13 l i := by
        unfold cut13
        by_cases h3 : rd l ((i - 1 : Nat) : Int) = 13
        · rw [if_pos (beq_iff_eq.mpr h3), if_pos ⟨h0, h3⟩]
        · rw [if_neg (fun hh => h3 (beq_iff_eq.mp hh)), if_neg (fun hh => h3 hh.2)]
      rw [if_pos (by omega), wrap_id _ (by omega) (by omega), if_pos (by omega), if_pos (by omega), e1, refline_j l m i _ hil hl (fun _ => h0), e0]
    · have e0 : (if (false = true) then i - 1 else i) = cut13 l i := by
        unfold cut13
        rw [if_neg (by decide), if_neg (fun hh => h0 hh.1)]
      rw [if_neg (by omega), refline_j l m i _ hil hl (fun hh => by cases hh), e0]

/-- What Body answers. -/
def bodyS (l : List Int) (n : Int) : List Int × Int × Int :=
  if n < 0 ∨ 1000 < n then ([], 0, 2) else if (l.length : Int) < n + 2 then ([], 0, 3) else if rd l n = 13 ∧ rd l (n + 1) = 10 then (l.take n.toNat, n + 2, 0) else ([], n, 2)
theorem body_is (l : List Int) (n : Int) (h : Bs l) : frame_Body.f l n = some (bodyS l n) := by
  unfold frame_Body.f bodyS
  by_cases h0 : n < 0
  · rw [if_pos h0, if_pos (.inl h0)]
  rw [if_neg h0]
  by_cases h1 : 1000 < n
  · rw [if_pos h1, if_pos (.inr h1)]
  · rw [if_neg h1, if_neg (show ¬ (n < 0 ∨ 1000 < n) from fun hh => hh.elim h0 h1)]
    obtain ⟨m, rfl⟩ := Int.eq_ofNat_of_zero_le (show 0 ≤ n by omega)
    by_cases h2 : (l.length : Int) < (m : Int) + 2
    · rw [if_pos h2, if_pos h2]
    · rw [if_neg h2, if_neg h2]
      have hd : (l.take ((m : Int) + 2).toNat).drop (m : Int).toNat = [rd l (m : Int), rd l ((m : Int) + 1)] := by
        rw [Int.toNat_natCast, show ((m : Int) + 2).toNat = m + 2 by omega, List.drop_take, show m + 2 - m = 2 by omega, rd_drop l m (by omega), List.take_succ_cons, rd_drop l (m + 1) (by omega), List.take_succ_cons, List.take_zero, Int.natCast_add, Int.natCast_one]
      rw [hd, str_list]
      have mem : ∀ j : Nat, j < l.length → 0 ≤ rd l (j : Int) ∧ rd l (j : Int) ≤ 255 := fun j hj => by
        refine h _ ?_
        have := rd_drop l j hj
        exact List.mem_of_mem_drop (this ▸ List.mem_cons_self)
      have m1 := mem m (by omega)
      have m2 := mem (m + 1) (by omega)
      rw [Int.natCast_add, Int.natCast_one] at m2
      have e1 := u8_eq _ 13 m1 (by omega)
      have e2 := u8_eq _ 10 m2 (by omega)
      by_cases h3 : rd l (m : Int) = 13 ∧ rd l ((m : Int) + 1) = 10
      · rw [if_pos h3, if_pos (by rw [h3.1, h3.2]; rfl)]
      · rw [if_neg h3, if_neg]
        intro hh
        simp only [List.map_cons, List.map_nil, List.cons.injEq, and_true] at hh
        exact h3 ⟨e1.mp hh.1, e2.mp hh.2⟩
theorem refbody_j (l : List Int) (n : Int) (k : Nat) (b : Bool) (hb : b = decide (n < 0 ∨ 1000 < n)) : butteryref13_Body.j0 (k + 1) l n b = some (bodyS l n) := by
  rw [butteryref13_Body.j0]
  unfold bodyS
  by_cases h1 : n < 0 ∨ 1000 < n
  · rw [hb, decide_eq_true h1, if_pos rfl, if_pos h1]
  · rw [hb, decide_eq_false h1, if_neg (by decide), if_neg h1, wrap_id (n + 2) (by omega) (by omega), wrap_id (n + 1) (by omega) (by omega)]
    by_cases h2 : (l.length : Int) < n + 2
    · rw [if_pos h2, if_pos h2]
    · rw [if_neg h2, if_neg h2, if_pos (by omega), if_pos (by omega)]
      by_cases h3 : rd l n = 13
      · rw [if_pos h3, if_pos (by omega), if_pos (by omega)]
        by_cases h4 : rd l (n + 1) = 10
        · rw [if_pos h4, if_pos (by omega), if_pos (by rw [List.length_nil, List.length_take]; omega), if_pos ⟨h3, h4⟩, List.nil_append]
        · rw [if_neg h4, if_neg (fun hh => h4 hh.2)]
      · rw [if_neg h3, if_neg (fun hh => h3 hh.1)]
theorem refbody_is (l : List Int) (n : Int) (k : Nat) (hk : 0 < k) : butteryref13_Body.f k l n = some (bodyS l n) := by
  obtain ⟨k, rfl⟩ : ∃ m, k = m + 1 := ⟨k - 1, by omega⟩
  unfold butteryref13_Body.f
  by_cases h1 : n < 0
  · rw [if_pos h1]; exact refbody_j l n k true (by rw [decide_eq_true (.inl h1)])
  · rw [if_neg h1]; refine refbody_j l n k _ ?_
    by_cases h2 : n > 1000
    · rw [decide_eq_true h2, decide_eq_true (.inr h2)]
    · rw [decide_eq_false h2, decide_eq_false (fun hh => hh.elim h1 h2)]

/-- What Pass answers; s: so many bytes, no fewer than none. -/
def passS (l : List Int) (s : Nat) (b : Bool) : Int × Int × Bool :=
  if l.length < s then ((l.length : Int), (s : Int) - (l.length : Int), b) else if b = false then ((s : Int), 0, false)
  else if ix (l.drop s) 10 = -1 then ((l.length : Int), 0, true) else ((s : Int) + ix (l.drop s) 10 + 1, 0, false)
theorem pass_is (l : List Int) (n : Int) (b : Bool) (h : Bs l) (hn : n ≤ 9223372036854775807) : frame_Pass.f l n b = some (passS l n.toNat b) := by
  unfold frame_Pass.f passS
  have hm : mx n 0 = (n.toNat : Int) := by
    unfold mx
    split <;> omega
  rw [hm, Int.toNat_natCast]
  by_cases h1 : l.length < n.toNat
  · rw [if_pos (by omega), if_pos h1, wrap_id _ (by omega) (by omega)]
  · rw [if_neg (by omega), if_neg h1]
    cases b with
    | false => rw [if_pos rfl, if_pos rfl]
    | true =>
      rw [if_neg (show ¬ (true = false) by decide), if_neg (show ¬ (true = false) by decide), feed_ix _ 10 (by omega) (fun x hx => h x (List.mem_of_mem_drop hx))]
      have hg := ix_ge (l.drop n.toNat) 10
      by_cases h2 : ix (l.drop n.toNat) 10 = -1
      · rw [if_pos (by omega), if_pos h2]
      · rw [if_neg (by omega), if_neg h2]
theorem refpass_j (l : List Int) (s : Nat) (b : Bool) (k : Nat) (hl : l.length ≤ 9223372036854775806) (hs : (s : Int) ≤ 9223372036854775807) (hk : l.length < k) : butteryref13_Pass.j0 (k + 1) l (s : Int) b = some (passS l s b) := by
  rw [butteryref13_Pass.j0]
  unfold passS
  by_cases h1 : l.length < s
  · rw [if_pos (by omega), if_pos h1, wrap_id _ (by omega) (by omega)]
  · rw [if_neg (by omega), if_neg h1]
    cases b with
    | false => rw [if_neg (by decide), if_pos rfl]
    | true =>
      have hd : (l.drop s).length = l.length - s := List.length_drop
      rw [if_pos rfl, if_pos (by omega), if_pos (by omega), if_neg (show ¬ (true = false) by decide), Int.toNat_natCast, feed_is (l.drop s) k (by omega) (by omega), Option.bind_some]
      have hg := ix_ge (l.drop s) 10
      by_cases h2 : ix (l.drop s) 10 = -1
      · rw [if_pos (by omega), if_pos h2]
      · rw [if_neg (by omega), if_neg h2, wrap_id ((s : Int) + ix (l.drop s) 10) (by omega) (by omega), wrap_id _ (by omega) (by omega)]
theorem refpass_is (l : List Int) (n : Int) (b : Bool) (k : Nat) (hl : l.length ≤ 9223372036854775806) (hn : n ≤ 9223372036854775807) (hk : l.length + 1 < k) : butteryref13_Pass.f k l n b = some (passS l n.toNat b) := by
  obtain ⟨k, rfl⟩ : ∃ m, k = m + 1 := ⟨k - 1, by omega⟩
  unfold butteryref13_Pass.f
  by_cases h1 : n < 0
  · rw [if_pos h1]
    have := refpass_j l 0 b k hl (by omega) (by omega)
    rw [show n.toNat = 0 by omega]
    exact this
  · rw [if_neg h1]
    have := refpass_j l n.toNat b k hl (by omega) (by omega)
    rw [show ((n.toNat : Nat) : Int) = n by omega] at this
    exact this
theorem awake : butterylaw13_awake.f = some true := rfl
end Go.Proofs.Ytcdjocjkipceoaa.Plain
