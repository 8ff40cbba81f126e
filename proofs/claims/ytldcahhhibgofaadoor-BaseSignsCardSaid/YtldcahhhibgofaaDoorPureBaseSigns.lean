/- Written by this session: the plain side of chapter 02, no program in sight. -/
import Derived.Test.YtldcahhhibgofaaDoorHbx4
import Derived.Test.YtldcahhhibgofaaDoorPlain
namespace Go.Proofs.YtldcahhhibgofaaDoor.Pure
open Go.RowKit Go.Proofs.YtldcahhhibgofaaDoor.Hb Go.Proofs.YtldcahhhibgofaaDoorW.PrintWords Go.Proofs.YtldcahhhibgofaaDoorW.PrintLast
set_option linter.unusedVariables false
set_option linter.unusedSimpArgs false
theorem byt_wf {l : List Int} (h : ∀ x ∈ l, (Lit.int .u8 x).wf = true) : Byt l := fun x hx => by
  have h1 := h x hx
  simp [Lit.wf] at h1
  have e1 : IntKind.u8.min = 0 := rfl
  have e2 : IntKind.u8.max = 255 := rfl
  omega
theorem w64_in (n : Int) (h0 : -9223372036854775808 ≤ n) (h1 : n < 9223372036854775808) : wrap64 n = n := (i64_w _).symm.trans (by rw [IntKind.wrap_i64]; omega)
theorem encF {l : List Int} (hb : Byt l) (hl : l.length ≤ 1000000) : base_Encode.f l = some (strOfNums (enc l)) := if_pos ⟨hb, hl⟩
/-- A text of bytes: signs, and up to two that fill it up. -/
theorem enc_signs : ∀ (l : List Int), Byt l → ∃ ds : List Int, (∀ d ∈ ds, 0 ≤ d ∧ d < 64) ∧ enc l = ds.map sg ++ List.replicate ((3 - l.length % 3) % 3) 61
  | [], _ => ⟨[], by simp, rfl⟩
  | [a], hb => by
    have h := hb a (by simp)
    refine ⟨[a / 4, a % 4 * 16], ?_, ?_⟩
    · intro d hd
      simp only [List.mem_cons, List.not_mem_nil, or_false] at hd
      omega
    · rw [enc, enc4_one a h.1 h.2]
      rfl
  | [a, b], hb => by
    have h := hb a (by simp)
    have h' := hb b (by simp)
    refine ⟨[a / 4, a % 4 * 16 + b / 16, b % 16 * 4], ?_, ?_⟩
    · intro d hd
      simp only [List.mem_cons, List.not_mem_nil, or_false] at hd
      omega
    · rw [enc, enc4_two a b h.1 h.2 h'.1 h'.2]
      rfl
  | a :: b :: c :: t, hb => by
    have h := hb a (by simp)
    have h' := hb b (by simp)
    have h'' := hb c (by simp)
    obtain ⟨ds, h1, h2⟩ := enc_signs t (fun x hx => hb x (by simp [hx]))
    refine ⟨[a / 4, a % 4 * 16 + b / 16, b % 16 * 4 + c / 64, c % 64] ++ ds, ?_, ?_⟩
    · intro d hd
      rcases List.mem_append.1 hd with hd | hd
      · simp only [List.mem_cons, List.not_mem_nil, or_false] at hd
        omega
      · exact h1 d hd
    · rw [enc, enc4_three a b c h.1 h.2 h'.1 h'.2 h''.1 h''.2, h2]
      have : (a :: b :: c :: t).length % 3 = t.length % 3 := by simp only [List.length_cons]; omega
      rw [this, List.map_append, List.append_assoc]
      rfl
theorem bt_str (xs : List Int) (hx : Byt xs) (i : Nat) (h : i < xs.length) : bt (strOfNums xs) (i : Int) = xs[i] := by
  have hi : i < (strOfNums xs).size := by rw [strOfNums_size]; exact h
  have e := (bt_at (strOfNums xs) (i : Int) hi).symm.trans (str_at xs hx i hi)
  rw [e, at0, List.getD_eq_getElem?_getD, List.getElem?_eq_getElem h]
  rfl
theorem sg_class (d : Int) (h0 : 0 ≤ d) (h1 : d < 64) : (65 ≤ sg d ∧ sg d ≤ 90) ∨ (97 ≤ sg d ∧ sg d ≤ 122) ∨ (48 ≤ sg d ∧ sg d ≤ 57) ∨ sg d = 43 ∨ sg d = 47 := by
  unfold sg
  repeat' split
  all_goals omega
theorem signs_l1 (l0 : List Int) (s : ByteArray) (m : Nat) (hm : m ≤ s.size) (hs : s.size ≤ 1000000) (hq : ∀ i : Nat, i < m → ∃ d, 0 ≤ d ∧ d < 64 ∧ bt s (i : Int) = sg d)
    (hend : (s.size : Int) - m = (3 - (l0.length : Int) % 3) % 3) : ∀ (j i k : Nat), m - i = j → i ≤ m → j < k → butterylaw02_BaseSigns.l1 k l0 true s m i = some true
  | 0, i, k + 1, hj, hi, _ => by
    obtain rfl : i = m := by omega
    rw [butterylaw02_BaseSigns.l1]
    simp only [eq_false (show ¬ (i : Int) < (i : Int) by omega), if_false, if_true]
    rw [w64_in _ (by omega) (by omega), hend]
    simp
  | j + 1, i, k + 1, hj, hi, hk => by
    have ih := signs_l1 l0 s m hm hs hq hend j (i + 1) k (by omega) (by omega) (by omega)
    have f1 := eq_true (show (i : Int) < (m : Int) by omega)
    have f2 := eq_true (show (0 : Int) ≤ (i : Int) by omega)
    have f3 := eq_true (show (i : Int) < (s.size : Int) by omega)
    have e1 : wrap64 ((i : Int) + 1) = ((i + 1 : Nat) : Int) := (w64_in _ (by omega) (by omega)).trans (by omega)
    obtain ⟨d, h0, h1, hd⟩ := hq i (of_eq_true (by simpa using f1))
    have hc := sg_class d h0 h1
    rw [← hd] at hc
    clear hd h0 h1
    rw [butterylaw02_BaseSigns.l1]
    simp only [f1, f2, f3, if_true, e1, ih]
    generalize bt s (i : Int) = c at hc
    clear ih hq e1 f1 f2 f3 hend hj hi hk
    rcases hc with h | h | h | h | h
    · simp only [eq_false (show ¬ c < 65 by omega), eq_false (show ¬ c > 90 by omega), if_false]
    · simp only [eq_false (show ¬ c < 65 by omega), eq_true (show c > 90 by omega), eq_false (show ¬ c < 97 by omega), eq_false (show ¬ c > 122 by omega), if_false, if_true]
    · simp only [eq_true (show c < 65 by omega), eq_true (show c < 97 by omega), eq_false (show ¬ c < 48 by omega), eq_false (show ¬ c > 57 by omega), if_false, if_true]
    · simp only [eq_true (show c < 65 by omega), eq_true (show c < 97 by omega), eq_true (show c < 48 by omega), eq_true h, if_false, if_true]
    · simp only [eq_true (show c < 65 by omega), eq_true (show c < 97 by omega), eq_true (show c < 48 by omega), eq_false (show ¬ c = 43 by omega), eq_true h, if_false, if_true]
theorem signs_l0 (l0 : List Int) (s : ByteArray) (m : Nat) (hm : m ≤ s.size) (hs : s.size ≤ 1000000) (hq : ∀ i : Nat, i < m → ∃ d, 0 ≤ d ∧ d < 64 ∧ bt s (i : Int) = sg d)
    (hp : ∀ i : Nat, m ≤ i → i < s.size → bt s (i : Int) = 61)
    (hend : (s.size : Int) - m = (3 - (l0.length : Int) % 3) % 3) : ∀ (j n k : Nat), n - m = j → m ≤ n → n ≤ s.size → j + m + 2 < k → butterylaw02_BaseSigns.l0 k l0 true s n = some true
  | 0, n, k + 2, hj, hn, _, hk => by
    obtain rfl : n = m := by omega
    have h1 : butterylaw02_BaseSigns.j1 (k + 1) l0 true s n = some true := by
      rw [butterylaw02_BaseSigns.j1]
      exact signs_l1 l0 s n hm hs hq hend n 0 k (by omega) (by omega) (by omega)
    rw [butterylaw02_BaseSigns.l0]
    by_cases h0 : n = 0
    · rw [if_neg (by omega), h1]
    · obtain ⟨d, d0, d1, hd⟩ := hq (n - 1) (by omega)
      have e1 : wrap64 ((n : Int) - 1) = ((n - 1 : Nat) : Int) := by rw [w64_in _ (by omega) (by omega)]; omega
      rw [if_pos (by omega), e1, if_pos (by omega), if_pos (by omega), hd, if_neg (sg_ne d d0 d1), h1]
  | j + 1, n, k + 1, hj, hn, hns, hk => by
    have e1 : wrap64 ((n : Int) - 1) = ((n - 1 : Nat) : Int) := by rw [w64_in _ (by omega) (by omega)]; omega
    rw [butterylaw02_BaseSigns.l0, if_pos (by omega), e1, if_pos (by omega), if_pos (by omega), if_pos (hp (n - 1) (by omega) (by omega))]
    exact signs_l0 l0 s m hm hs hq hp hend j (n - 1) k (by omega) (by omega) (by omega) (by omega)
theorem BaseSigns : butterylaw02_BaseSigns.Pure := by
  intro l _ _ hw
  have hb := byt_wf hw
  by_cases h5 : (l.length : Int) > 3000
  · refine ⟨0, ?_⟩
    unfold butterylaw02_BaseSigns.f
    show (if (l.length : Int) > 3000 then some true else _) = some true
    rw [if_pos h5]
  · obtain ⟨ds, hds, he⟩ := enc_signs l hb
    have hl := enc_len l
    have hlen : (enc l).length = ds.length + (3 - l.length % 3) % 3 := by rw [he]; simp
    refine ⟨ds.length + 100000, ?_⟩
    unfold butterylaw02_BaseSigns.f
    show (if (l.length : Int) > 3000 then some true else _) = some true
    rw [if_neg h5, encF hb (by omega)]
    have hsz : (strOfNums (enc l)).size = (enc l).length := strOfNums_size _
    show butterylaw02_BaseSigns.l0 (ds.length + 100000) l true (strOfNums (enc l)) ((strOfNums (enc l)).size : Int) = some true
    refine signs_l0 l (strOfNums (enc l)) ds.length (by omega) (by omega) ?_ ?_ (by omega) _ (strOfNums (enc l)).size _ rfl (by omega) (Nat.le_refl _) (by omega)
    · intro i hi
      refine ⟨ds[i], (hds _ (List.getElem_mem hi)).1, (hds _ (List.getElem_mem hi)).2, ?_⟩
      rw [bt_str _ (enc_range l hb) i (by omega)]
      simp [he, List.getElem_append_left, hi]
    · intro i h1 h2
      rw [bt_str _ (enc_range l hb) i (by omega)]
      simp only [he]
      rw [List.getElem_append_right (by simpa using h1)]
      simp
end Go.Proofs.YtldcahhhibgofaaDoor.Pure
