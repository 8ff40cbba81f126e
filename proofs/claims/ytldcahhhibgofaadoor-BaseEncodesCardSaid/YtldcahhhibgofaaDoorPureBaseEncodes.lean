/- Written by this session: the plain side of chapter 02, no program in sight. -/
import Derived.Test.YtldcahhhibgofaaDoorHbx3
import Derived.Test.YtldcahhhibgofaaDoorPlain
namespace Go.Proofs.YtldcahhhibgofaaDoor.Pure
open Go.RowKit Go.Proofs.YtldcahhhibgofaaDoor.Hb Go.Proofs.YtldcahhhibgofaaDoorW.PrintWords Go.Proofs.YtldcahhhibgofaaDoorW.PrintLast
set_option linter.unusedVariables false
set_option linter.unusedSimpArgs false
theorem byt_wf {l : List Int} (h : ∀ x ∈ l, (Lit.int .u8 x).wf = true) : Byt l := fun x hx => by
  have h1 := h x hx
  simp [Lit.wf] at h1
  have e1 : IntKind.u8.min = 0 := rfl
  have e2 : IntKind.u8.max = 255 := rfl
  omega
theorem w64_in (n : Int) (h0 : -9223372036854775808 ≤ n) (h1 : n < 9223372036854775808) : wrap64 n = n := (i64_w _).symm.trans (by rw [IntKind.wrap_i64]; omega)
theorem encF {l : List Int} (hb : Byt l) (hl : l.length ≤ 1000000) : base_Encode.f l = some (strOfNums (enc l)) := if_pos ⟨hb, hl⟩
theorem decF {s : ByteArray} (hs : s.size ≤ 1000000) : base_Decode.f s = some (decR s) := if_pos hs
theorem tdiv_in (a b : Int) (h0 : 0 ≤ a) : Int.tdiv a b = a / b := Int.tdiv_eq_ediv_of_nonneg h0
theorem tmod_in (a b : Int) (h0 : 0 ≤ a) : Int.tmod a b = a % b := Int.tmod_eq_emod_of_nonneg h0
theorem sign_nat : ∀ n : Fin 64, butteryref02_sign.f ((n : Nat) : Int) = some (sg ((n : Nat) : Int)) := by decide +kernel
theorem sign_eq (d : Int) (h0 : 0 ≤ d) (h1 : d < 64) : butteryref02_sign.f d = some (sg d) := by
  obtain ⟨n, rfl⟩ := Int.eq_ofNat_of_zero_le h0
  exact sign_nat ⟨n, by omega⟩
theorem rd_nat (l : List Int) (i : Nat) : rd l (i : Int) = l.getD i 0 := by simp [rd]
theorem enc4_of (l : List Int) (n : Int) (h : num0 l 3 = n) : enc4 l = ([sg (n / 262144 % 64), sg (n / 4096 % 64), sg (n / 64 % 64), sg (n % 64)] : List Int).take (l.length + 1) ++ List.replicate (3 - l.length) 61 := by
  subst h
  simp [enc4, dig, List.range, List.range.loop]
/-- What the reference does with a number and its count, up to the next round. -/
theorem ref_j2 (k : Nat) (l out : List Int) (i : Int) (n : Int) (h0 : 0 ≤ n) (h1 : n < 16777216) (m : Nat) (hm : m = 2 ∨ m = 3 ∨ m = 4) (hout : out.length ≤ 2000000) :
    butteryref02_Encode.j2 (k + 4) l out i n (m : Int) = butteryref02_Encode.l0 (k + (m - 2)) l (out ++ (([sg (n / 262144 % 64), sg (n / 4096 % 64), sg (n / 64 % 64), sg (n % 64)] : List Int).take m ++ List.replicate (4 - m) 61)) (wrap64 (i + 3)) := by
  have a1 : wrap64 (Int.tdiv n 262144) = n / 262144 % 64 := by rw [tdiv_in _ _ h0, w64_in _ (by omega) (by omega)]; omega
  have a2 : Int.tmod (wrap64 (Int.tdiv n 4096)) 64 = n / 4096 % 64 := by rw [tdiv_in _ _ h0, w64_in _ (by omega) (by omega), tmod_in _ _ (by omega)]
  have a3 : Int.tmod (wrap64 (Int.tdiv n 64)) 64 = n / 64 % 64 := by rw [tdiv_in _ _ h0, w64_in _ (by omega) (by omega), tmod_in _ _ (by omega)]
  have a4 : Int.tmod n 64 = n % 64 := tmod_in _ _ h0
  have w3 : wrap64 (2 + 1) = 3 := w64_in 3 (by decide) (by decide)
  have w4 : wrap64 (3 + 1) = 4 := w64_in 4 (by decide) (by decide)
  rw [butteryref02_Encode.j2, a1, a2, a3, a4, sign_eq _ (by omega) (by omega), sign_eq _ (by omega) (by omega), sign_eq _ (by omega) (by omega), sign_eq _ (by omega) (by omega)]
  simp only [Option.bind_some]
  rcases hm with rfl | rfl | rfl
  · rw [butteryref02_Encode.l1, if_pos (by decide), if_pos (by decide), if_pos (by simp), show wrap64 (((2 : Nat) : Int) + 1) = 3 from w3, butteryref02_Encode.l1, if_pos (by decide), if_pos (by decide), if_pos (by simp), w4, butteryref02_Encode.l1, if_neg (by decide), if_pos (by simp; omega)]
    rfl
  · rw [butteryref02_Encode.l1, if_pos (by decide), if_pos (by decide), if_pos (by simp), show wrap64 (((3 : Nat) : Int) + 1) = 4 from w4, butteryref02_Encode.l1, if_neg (by decide), if_pos (by simp; omega)]
    rfl
  · rw [butteryref02_Encode.l1, if_neg (by decide), if_pos (by simp; omega)]
    rfl
theorem get_drop (l : List Int) (i j : Nat) (x : Int) (rest : List Int) (h : l.drop i = rest) (hx : rest[j]? = some x) : rd l ((i : Int) + (j : Int)) = x := by
  subst h
  rw [List.getElem?_drop] at hx
  have : ((i : Int) + (j : Int)) = ((i + j : Nat) : Int) := by omega
  rw [this, rd_nat, List.getD_eq_getElem?_getD, hx]
  rfl
theorem refEnc : ∀ (rest l out : List Int) (i : Nat), l.drop i = rest → i ≤ l.length → Byt l → l.length ≤ 5000000 → out.length + 2 * rest.length ≤ 2000000 → ∀ k, 7 * rest.length + 1 ≤ k → butteryref02_Encode.l0 k l out (i : Int) = some (strOfNums (out ++ enc rest))
  | [], l, out, i, hd, hi, hb, hl, ho, k + 1, hk => by
    have h1 : l.length - i = 0 := by have := congrArg List.length hd; rw [List.length_drop] at this; simpa using this
    rw [butteryref02_Encode.l0, if_neg (by omega)]
    simp [enc]
  | [a], l, out, i, hd, hi, hb, hl, ho, k, hk => by
    have h1 : l.length - i = 1 := by have := congrArg List.length hd; rw [List.length_drop] at this; simpa using this
    have hr : rd l (i : Int) = a := by simpa using get_drop l i 0 a _ hd rfl
    have ha := hb a (List.mem_of_mem_drop (by rw [hd]; simp) : a ∈ l)
    have ho' : out.length ≤ 2000000 := by simp only [List.length_cons, List.length_nil] at ho; omega
    obtain ⟨k', rfl⟩ : ∃ k', k = k' + 7 := ⟨k - 7, by simp only [List.length_cons, List.length_nil] at hk; omega⟩
    have b0 : (i : Int) < (l.length : Int) := by omega
    have b1 : 0 ≤ (i : Int) := by omega
    have b1' : 0 ≤ (i : Int) + 1 := by omega
    have b1'' : 0 ≤ (i : Int) + 2 := by omega
    have b2 : ¬ (i : Int) + 1 < (l.length : Int) := by omega
    have b3 : ¬ (i : Int) + 2 < (l.length : Int) := by omega
    have b4 : ¬ (i : Int) + 3 < (l.length : Int) := by omega
    have n0 : 0 ≤ a * 65536 := by omega
    have n1 : a * 65536 < 16777216 := by omega
    have z : num0 [a] 3 = a * 65536 := by simp [num0, at0]; omega
    obtain ⟨e0, e1, e2, e3, e5⟩ : wrap64 a = a ∧ wrap64 ((i : Int) + 1) = (i : Int) + 1 ∧ wrap64 ((i : Int) + 2) = (i : Int) + 2 ∧ wrap64 (a * 65536) = a * 65536 ∧ wrap64 ((i : Int) + 3) = (i : Int) + 3 :=
      ⟨w64_in _ (by omega) (by omega), w64_in _ (by omega) (by omega), w64_in _ (by omega) (by omega), w64_in _ (by omega) (by omega), w64_in _ (by omega) (by omega)⟩
    have hj := ref_j2 (k' + 1) l out i (a * 65536) n0 n1 2 (.inl rfl) ho'
    rw [butteryref02_Encode.l0, if_pos b0, if_pos b1, e1, if_neg b2, hr, e0, e3, butteryref02_Encode.j1, e2, if_neg b3]
    refine hj.trans ?_
    rw [e5, show k' + 1 + (2 - 2) = k' + 1 from rfl, butteryref02_Encode.l0, if_neg b4, enc, enc4_of [a] (a * 65536) z]
    rfl
  | [a, b], l, out, i, hd, hi, hb, hl, ho, k, hk => by
    have h1 : l.length - i = 2 := by have := congrArg List.length hd; rw [List.length_drop] at this; simpa using this
    have hr : rd l (i : Int) = a := by simpa using get_drop l i 0 a _ hd rfl
    have hr1 : rd l ((i : Int) + 1) = b := by simpa using get_drop l i 1 b _ hd rfl
    have ha := hb a (List.mem_of_mem_drop (by rw [hd]; simp) : a ∈ l)
    have hbb := hb b (List.mem_of_mem_drop (by rw [hd]; simp) : b ∈ l)
    have ho' : out.length ≤ 2000000 := by simp only [List.length_cons, List.length_nil] at ho; omega
    obtain ⟨k', rfl⟩ : ∃ k', k = k' + 7 := ⟨k - 7, by simp only [List.length_cons, List.length_nil] at hk; omega⟩
    have b0 : (i : Int) < (l.length : Int) := by omega
    have b1 : 0 ≤ (i : Int) := by omega
    have b1' : 0 ≤ (i : Int) + 1 := by omega
    have b1'' : 0 ≤ (i : Int) + 2 := by omega
    have b2 : (i : Int) + 1 < (l.length : Int) := by omega
    have b3 : ¬ (i : Int) + 2 < (l.length : Int) := by omega
    have b4 : ¬ (i : Int) + 3 < (l.length : Int) := by omega
    have n0 : 0 ≤ a * 65536 + b * 256 := by omega
    have n1 : a * 65536 + b * 256 < 16777216 := by omega
    have z : num0 [a, b] 3 = a * 65536 + b * 256 := by simp [num0, at0]; omega
    obtain ⟨e0, f0, e1, e2, e3, e4, e6, e5⟩ : wrap64 a = a ∧ wrap64 b = b ∧ wrap64 ((i : Int) + 1) = (i : Int) + 1 ∧ wrap64 ((i : Int) + 2) = (i : Int) + 2 ∧ wrap64 (a * 65536) = a * 65536 ∧ wrap64 (b * 256) = b * 256 ∧ wrap64 (a * 65536 + b * 256) = a * 65536 + b * 256 ∧ wrap64 ((i : Int) + 3) = (i : Int) + 3 :=
      ⟨w64_in _ (by omega) (by omega), w64_in _ (by omega) (by omega), w64_in _ (by omega) (by omega), w64_in _ (by omega) (by omega), w64_in _ (by omega) (by omega), w64_in _ (by omega) (by omega), w64_in _ (by omega) (by omega), w64_in _ (by omega) (by omega)⟩
    have hj := ref_j2 (k' + 1) l out i (a * 65536 + b * 256) n0 n1 3 (.inr (.inl rfl)) ho'
    rw [butteryref02_Encode.l0, if_pos b0, if_pos b1, e1, if_pos b2, if_pos b1', hr, hr1, e0, f0, e3, e4, e6, butteryref02_Encode.j1, e2, if_neg b3]
    refine hj.trans ?_
    rw [e5, show k' + 1 + (3 - 2) = k' + 1 + 1 from rfl, butteryref02_Encode.l0, if_neg b4, enc, enc4_of [a, b] (a * 65536 + b * 256) z]
    rfl
  | a :: b :: c :: t, l, out, i, hd, hi, hb, hl, ho, k, hk => by
    have h1 : l.length - i = t.length + 3 := by have := congrArg List.length hd; rw [List.length_drop] at this; simpa using this
    have hr : rd l (i : Int) = a := by simpa using get_drop l i 0 a _ hd rfl
    have hr1 : rd l ((i : Int) + 1) = b := by simpa using get_drop l i 1 b _ hd rfl
    have hr2 : rd l ((i : Int) + 2) = c := by simpa using get_drop l i 2 c _ hd rfl
    have ha := hb a (List.mem_of_mem_drop (by rw [hd]; simp) : a ∈ l)
    have hbb := hb b (List.mem_of_mem_drop (by rw [hd]; simp) : b ∈ l)
    have hcc := hb c (List.mem_of_mem_drop (by rw [hd]; simp) : c ∈ l)
    have ho' : out.length ≤ 2000000 := by simp only [List.length_cons, List.length_nil] at ho; omega
    obtain ⟨k', rfl⟩ : ∃ k', k = k' + 7 := ⟨k - 7, by simp only [List.length_cons, List.length_nil] at hk; omega⟩
    have b0 : (i : Int) < (l.length : Int) := by omega
    have b1 : 0 ≤ (i : Int) := by omega
    have b1' : 0 ≤ (i : Int) + 1 := by omega
    have b1'' : 0 ≤ (i : Int) + 2 := by omega
    have b2 : (i : Int) + 1 < (l.length : Int) := by omega
    have b3 : (i : Int) + 2 < (l.length : Int) := by omega
    have n0 : 0 ≤ a * 65536 + b * 256 + c := by omega
    have n1 : a * 65536 + b * 256 + c < 16777216 := by omega
    have z : num0 [a, b, c] 3 = a * 65536 + b * 256 + c := by simp [num0, at0]; omega
    have hd' : l.drop (i + 3) = t := by rw [← List.drop_drop, hd]; rfl
    have hi' : i + 3 ≤ l.length := by omega
    have hk' : 7 * t.length + 1 ≤ k' + 1 + (4 - 2) := by simp only [List.length_cons] at hk; omega
    have ho2 : (out ++ (([sg ((a * 65536 + b * 256 + c) / 262144 % 64), sg ((a * 65536 + b * 256 + c) / 4096 % 64), sg ((a * 65536 + b * 256 + c) / 64 % 64), sg ((a * 65536 + b * 256 + c) % 64)] : List Int).take 4 ++ List.replicate (4 - 4) 61)).length + 2 * t.length ≤ 2000000 := by
      simp only [List.length_cons] at ho
      simp
      omega
    have ih := refEnc t l _ (i + 3) hd' hi' hb hl ho2 _ hk'
    have z3 : ((i : Int) + 3) = ((i + 3 : Nat) : Int) := by omega
    obtain ⟨e0, f0, g0, e1, e2, e3, e4, e6, e7, e5⟩ : wrap64 a = a ∧ wrap64 b = b ∧ wrap64 c = c ∧ wrap64 ((i : Int) + 1) = (i : Int) + 1 ∧ wrap64 ((i : Int) + 2) = (i : Int) + 2 ∧ wrap64 (a * 65536) = a * 65536 ∧ wrap64 (b * 256) = b * 256 ∧ wrap64 (a * 65536 + b * 256) = a * 65536 + b * 256 ∧ wrap64 (a * 65536 + b * 256 + c) = a * 65536 + b * 256 + c ∧ wrap64 ((i : Int) + 3) = (i : Int) + 3 := by
      clear ih ho2
      exact ⟨w64_in _ (by omega) (by omega), w64_in _ (by omega) (by omega), w64_in _ (by omega) (by omega), w64_in _ (by omega) (by omega), w64_in _ (by omega) (by omega), w64_in _ (by omega) (by omega), w64_in _ (by omega) (by omega), w64_in _ (by omega) (by omega), w64_in _ (by omega) (by omega), w64_in _ (by omega) (by omega)⟩
    have hj := ref_j2 (k' + 1) l out i (a * 65536 + b * 256 + c) n0 n1 4 (.inr (.inr rfl)) ho'
    rw [butteryref02_Encode.l0, if_pos b0, if_pos b1, e1, if_pos b2, if_pos b1', hr, hr1, e0, f0, e3, e4, e6, butteryref02_Encode.j1, e2, if_pos b3, if_pos b1'', hr2, g0, e7]
    refine hj.trans ?_
    rw [e5, z3, ih, enc, enc4_of [a, b, c] (a * 65536 + b * 256 + c) z]
    simp
theorem refEncF {l : List Int} (hb : Byt l) (hl : l.length ≤ 1000000) (k : Nat) (hk : 7 * l.length + 1 ≤ k) : butteryref02_Encode.f k l = some (strOfNums (enc l)) := by
  have h := refEnc l l [] 0 rfl (by omega) hb (by omega) (by simp; omega) k hk
  simpa [butteryref02_Encode.f] using h
/-- The number of a sign, as the reference finds it; below 0: it is none. -/
def vOf (c : Int) : Int := (butteryref02_value.f 70 c).getD 0
theorem vOf_nat : ∀ n : Fin 256, butteryref02_value.f 70 ((n : Nat) : Int) = some (vOf ((n : Nat) : Int)) ∧ -1 ≤ vOf ((n : Nat) : Int) ∧ vOf ((n : Nat) : Int) < 64 := by decide +kernel
theorem vOf_sg_nat : ∀ n : Fin 64, vOf (sg ((n : Nat) : Int)) = ((n : Nat) : Int) := by decide +kernel
theorem vOf_fill : vOf 61 = -1 := by decide +kernel
theorem vOf_ok (c : Int) (h0 : 0 ≤ c) (h1 : c < 256) : butteryref02_value.f 70 c = some (vOf c) ∧ -1 ≤ vOf c ∧ vOf c < 64 := by
  obtain ⟨n, rfl⟩ := Int.eq_ofNat_of_zero_le h0
  exact vOf_nat ⟨n, by omega⟩
theorem vOf_sg (d : Int) (h0 : 0 ≤ d) (h1 : d < 64) : vOf (sg d) = d := by
  obtain ⟨n, rfl⟩ := Int.eq_ofNat_of_zero_le h0
  exact vOf_sg_nat ⟨n, by omega⟩
theorem value_more (c : Int) (h0 : 0 ≤ c) (h1 : c < 256) : ∀ j, butteryref02_value.f (70 + j) c = some (vOf c)
  | 0 => (vOf_ok c h0 h1).1
  | j + 1 => butteryref02_value.mono c (70 + j) _ (value_more c h0 h1 j)
theorem value_at (c : Int) (h0 : 0 ≤ c) (h1 : c < 256) (k : Nat) (hk : 70 ≤ k) : butteryref02_value.f k c = some (vOf c) := by
  have := value_more c h0 h1 (k - 70)
  rwa [show 70 + (k - 70) = k by omega] at this
/-- One round of the reference's inner loop. -/
theorem ref_l1_step (k : Nat) (s : ByteArray) (out : List Int) (i j : Nat) (n m : Int) (hj : j < 4) (hi : i + j < s.size) (hs : s.size ≤ 1000000) (hk : 70 ≤ k) (hn : 0 ≤ n ∧ n < 262144) (hm : 0 ≤ m ∧ m < 4) (c : Int) (hc : bt s ((i + j : Nat) : Int) = c) (h0 : 0 ≤ c) (h1 : c < 256) :
    butteryref02_Decode.l1 (k + 1) s out i n m j = butteryref02_Decode.l1 k s out i (n * 64 + (if 0 ≤ vOf c then vOf c else 0)) (if 0 ≤ vOf c then m + 1 else m) ((j + 1 : Nat) : Int) := by
  have b0 : (j : Int) < 4 := by omega
  have b1 : 0 ≤ ((i + j : Nat) : Int) := by omega
  have b2 : ((i + j : Nat) : Int) < (s.size : Int) := by omega
  have hv := value_at c h0 h1 k hk
  have hr := (vOf_ok c h0 h1).2
  obtain ⟨e1, e2, e3, e4, e5⟩ : wrap64 ((i : Int) + (j : Int)) = ((i + j : Nat) : Int) ∧ wrap64 (n * 64) = n * 64 ∧ (0 ≤ vOf c → wrap64 (n * 64 + vOf c) = n * 64 + vOf c) ∧ wrap64 (m + 1) = m + 1 ∧ wrap64 ((j : Int) + 1) = ((j + 1 : Nat) : Int) :=
    ⟨(w64_in _ (by omega) (by omega)).trans (by omega), w64_in _ (by omega) (by omega), fun h => w64_in _ (by omega) (by omega), w64_in _ (by omega) (by omega), (w64_in _ (by omega) (by omega)).trans (by omega)⟩
  rw [butteryref02_Decode.l1, if_pos b0, e1, if_pos b1, if_pos b2, hc, hv]
  show (if vOf c ≥ 0 then _ else _) = _
  by_cases h : 0 ≤ vOf c
  · rw [if_pos h, if_pos h, if_pos h, e2, e3 h, e4, e5]
  · rw [if_neg h, if_neg h, if_neg h, e2, e5, Int.add_zero]
def qv (c : Int) : Int := if 0 ≤ vOf c then vOf c else 0
def qc (c m : Int) : Int := if 0 ≤ vOf c then m + 1 else m
def qn (c0 c1 c2 c3 : Int) : Int := (((0 * 64 + qv c0) * 64 + qv c1) * 64 + qv c2) * 64 + qv c3
def qm (c0 c1 c2 c3 : Int) : Int := qc c3 (qc c2 (qc c1 (qc c0 0)))
theorem qv_range (c : Int) (h0 : 0 ≤ c) (h1 : c < 256) : 0 ≤ qv c ∧ qv c < 64 := by
  have := (vOf_ok c h0 h1).2
  unfold qv
  split <;> omega
theorem qc_range (c m : Int) : m ≤ qc c m ∧ qc c m ≤ m + 1 := by
  unfold qc
  split <;> omega
def qd (c0 c1 c2 c3 : Int) : Option (List Int) := if qm c0 c1 c2 c3 < 2 then none else some (cutN (qn c0 c1 c2 c3) (qm c0 c1 c2 c3 - 1).toNat)
theorem ref_four (k : Nat) (s : ByteArray) (out : List Int) (i : Nat) (hi : i + 4 ≤ s.size) (hs : s.size ≤ 1000000) (hk : 70 ≤ k) (ho : out.length ≤ 2000000) (c0 c1 c2 c3 : Int)
    (e0 : bt s (i : Int) = c0) (e1 : bt s ((i + 1 : Nat) : Int) = c1) (e2 : bt s ((i + 2 : Nat) : Int) = c2) (e3 : bt s ((i + 3 : Nat) : Int) = c3)
    (r0 : 0 ≤ c0 ∧ c0 < 256) (r1 : 0 ≤ c1 ∧ c1 < 256) (r2 : 0 ≤ c2 ∧ c2 < 256) (r3 : 0 ≤ c3 ∧ c3 < 256) :
    butteryref02_Decode.l0 (k + 6) s out (i : Int) = match qd c0 c1 c2 c3 with
      | none => some ([], 2)
      | some t => butteryref02_Decode.l0 k s (out ++ t) ((i + 4 : Nat) : Int) := by
  have b0 : (i : Int) < (s.size : Int) := by omega
  have p0 := qv_range c0 r0.1 r0.2
  have p1 := qv_range c1 r1.1 r1.2
  have p2 := qv_range c2 r2.1 r2.2
  have p3 := qv_range c3 r3.1 r3.2
  have m0 := qc_range c0 0
  have m1 := qc_range c1 (qc c0 0)
  have m2 := qc_range c2 (qc c1 (qc c0 0))
  have m3 := qc_range c3 (qc c2 (qc c1 (qc c0 0)))
  have s0 := ref_l1_step (k + 4) s out i 0 0 0 (by omega) (by omega) hs (by omega) (by omega) (by omega) c0 e0 r0.1 r0.2
  have s1 := ref_l1_step (k + 3) s out i 1 (0 * 64 + qv c0) (qc c0 0) (by omega) (by omega) hs (by omega) (by omega) (by omega) c1 e1 r1.1 r1.2
  have s2 := ref_l1_step (k + 2) s out i 2 ((0 * 64 + qv c0) * 64 + qv c1) (qc c1 (qc c0 0)) (by omega) (by omega) hs (by omega) (by omega) (by omega) c2 e2 r2.1 r2.2
  have s3 := ref_l1_step (k + 1) s out i 3 (((0 * 64 + qv c0) * 64 + qv c1) * 64 + qv c2) (qc c2 (qc c1 (qc c0 0))) (by omega) (by omega) hs (by omega) (by omega) (by omega) c3 e3 r3.1 r3.2
  have hN : qn c0 c1 c2 c3 = (((0 * 64 + qv c0) * 64 + qv c1) * 64 + qv c2) * 64 + qv c3 := rfl
  have hM : qm c0 c1 c2 c3 = qc c3 (qc c2 (qc c1 (qc c0 0))) := rfl
  have n0 : 0 ≤ qn c0 c1 c2 c3 ∧ qn c0 c1 c2 c3 < 16777216 := by rw [hN]; omega
  have n1 : 0 ≤ qm c0 c1 c2 c3 ∧ qm c0 c1 c2 c3 ≤ 4 := by rw [hM]; omega
  rw [butteryref02_Decode.l0, if_pos b0]
  refine s0.trans (s1.trans (s2.trans (s3.trans ?_)))
  show butteryref02_Decode.l1 (k + 1) s out i (qn c0 c1 c2 c3) (qm c0 c1 c2 c3) ((4 : Nat) : Int) = _
  clear s0 s1 s2 s3 hN hM
  unfold qd
  generalize qn c0 c1 c2 c3 = n at n0
  generalize qm c0 c1 c2 c3 = M at n1
  by_cases h2 : M < 2
  · rw [butteryref02_Decode.l1, if_neg (by decide), if_pos h2, if_pos h2]
  · have q1 : 0 ≤ M - 1 := by omega
    have q2 : M - 1 ≤ ((3 : Nat) : Int) := by omega
    have q3 : out.length + ((cutN n (M - 1).toNat).length) < 140737488355328 := by
      have : (cutN n (M - 1).toNat).length ≤ 3 := by unfold cutN; rw [List.length_take]; exact Nat.le_trans (Nat.min_le_right _ _) (by simp)
      omega
    obtain ⟨w1, w2, w3, w4⟩ : wrap64 (Int.tdiv n 65536) = n / 65536 ∧ wrap64 (Int.tdiv n 256) = n / 256 ∧ wrap64 (M - 1) = M - 1 ∧ wrap64 ((i : Int) + 4) = ((i + 4 : Nat) : Int) :=
      ⟨by rw [tdiv_in _ _ n0.1]; exact w64_in _ (by omega) (by omega), by rw [tdiv_in _ _ n0.1]; exact w64_in _ (by omega) (by omega), w64_in _ (by omega) (by omega), (w64_in _ (by omega) (by omega)).trans (by omega)⟩
    rw [butteryref02_Decode.l1, if_neg (by decide), if_neg h2, if_neg h2, w1, w2, w3, w4]
    show (if 0 ≤ M - 1 then (if M - 1 ≤ ((3 : Nat) : Int) then (if out.length + (cutN n (M - 1).toNat).length < 140737488355328 then butteryref02_Decode.l0 k s (out ++ cutN n (M - 1).toNat) ((i + 4 : Nat) : Int) else none) else none) else none) = _
    rw [if_pos q1, if_pos q2, if_pos q3]
def qs : List Int → Option (List Int)
  | c0 :: c1 :: c2 :: c3 :: t => match qd c0 c1 c2 c3 with
    | none => none
    | some a => match qs t with
      | none => none
      | some b => some (a ++ b)
  | _ => some []
theorem qd_good {c0 c1 c2 c3 : Int} {a : List Int} (h : qd c0 c1 c2 c3 = some a) : Byt a ∧ a.length ≤ 3 := by
  unfold qd at h
  split at h
  · cases h
  · obtain rfl := Option.some.inj h
    refine ⟨fun x hx => ?_, ?_⟩
    · have := List.mem_of_mem_take hx
      simp only [List.mem_cons, List.not_mem_nil, or_false] at this
      omega
    · unfold cutN
      rw [List.length_take]
      exact Nat.le_trans (Nat.min_le_right _ _) (by simp)
theorem refDec (xs : List Int) (hx : Byt xs) (hl : xs.length ≤ 1000000) : ∀ (j : Nat) (rest out : List Int) (i k : Nat), rest.length = 4 * j → xs.drop i = rest → i ≤ xs.length → Byt out → out.length + 3 * j ≤ 1000000 → 6 * j + 8000000 ≤ k →
    butteryref02_Decode.l0 k (strOfNums xs) out (i : Int) = some (match qs rest with | none => ([], 2) | some t => if enc (out ++ t) = xs then (out ++ t, 0) else ([], 2))
  | 0, rest, out, i, k, hr, hd, hi, hb, ho, hk => by
    obtain rfl := List.eq_nil_of_length_eq_zero (by omega : rest.length = 0)
    have h1 : xs.length - i = 0 := by have := congrArg List.length hd; rw [List.length_drop] at this; simpa using this
    obtain ⟨k', rfl⟩ : ∃ k', k = k' + 1 := ⟨k - 1, by omega⟩
    have b0 : ¬ (i : Int) < ((strOfNums xs).size : Int) := by rw [strOfNums_size]; omega
    rw [butteryref02_Decode.l0, if_neg b0, refEncF hb (by omega) k' (by omega)]
    show (if (strOfNums (enc out)).toList = (strOfNums xs).toList then some (out, (0 : Int)) else some (([] : List Int), 2)) = _
    by_cases he : enc out = xs
    · rw [he, if_pos rfl]
      simp [qs, he]
    · have hne : ¬ (strOfNums (enc out)).toList = (strOfNums xs).toList := fun e => he (str_inj _ _ (enc_range out hb) hx (ByteArray.ext (Array.ext' (by rw [ByteArray.toList_eq, ByteArray.toList_eq] at e; exact e))))
      rw [if_neg hne]
      simp [qs, he]
  | j + 1, rest, out, i, k, hr, hd, hi, hb, ho, hk => by
    obtain ⟨c0, c1, c2, c3, t, rfl⟩ : ∃ c0 c1 c2 c3 t, rest = c0 :: c1 :: c2 :: c3 :: t := by
      match rest, hr with
      | c0 :: c1 :: c2 :: c3 :: t, _ => exact ⟨_, _, _, _, _, rfl⟩
    have h1 : xs.length - i = t.length + 4 := by have := congrArg List.length hd; rw [List.length_drop] at this; simpa using this
    have at_ : ∀ (u : Nat) (c : Int), (c0 :: c1 :: c2 :: c3 :: t)[u]? = some c → bt (strOfNums xs) ((i + u : Nat) : Int) = c := fun u c h => by
      rw [← hd, List.getElem?_drop] at h
      obtain ⟨hlt, h⟩ := List.getElem?_eq_some_iff.1 h
      have hi' : i + u < (strOfNums xs).size := by rw [strOfNums_size]; exact hlt
      have e := (bt_at (strOfNums xs) ((i + u : Nat) : Int) hi').symm.trans (str_at xs hx (i + u) hi')
      rw [e, at0, List.getD_eq_getElem?_getD, List.getElem?_eq_getElem hlt]
      exact h
    have hm : ∀ c, c ∈ (c0 :: c1 :: c2 :: c3 :: t) → 0 ≤ c ∧ c < 256 := fun c h => hx c (List.mem_of_mem_drop (by rw [hd]; exact h))
    obtain ⟨k', rfl⟩ : ∃ k', k = k' + 6 := ⟨k - 6, by omega⟩
    have hd' : xs.drop (i + 4) = t := by rw [← List.drop_drop, hd]; rfl
    simp only [List.length_cons] at hr
    rw [ref_four k' (strOfNums xs) out i (by rw [strOfNums_size]; omega) (by rw [strOfNums_size]; omega) (by omega) (by omega) c0 c1 c2 c3 (at_ 0 c0 rfl) (at_ 1 c1 rfl) (at_ 2 c2 rfl) (at_ 3 c3 rfl) (hm _ (by simp)) (hm _ (by simp)) (hm _ (by simp)) (hm _ (by simp))]
    cases hq : qd c0 c1 c2 c3 with
    | none => simp [qs, hq]
    | some a =>
      obtain ⟨ba, la⟩ := qd_good hq
      have hB : Byt (out ++ a) := fun x h => (List.mem_append.1 h).elim (hb x) (ba x)
      have ih := refDec xs hx hl j t (out ++ a) (i + 4) k' (by omega) hd' (by omega) hB (by rw [List.length_append]; omega) (by omega)
      show butteryref02_Decode.l0 k' (strOfNums xs) (out ++ a) ((i + 4 : Nat) : Int) = _
      rw [ih]
      cases hq2 : qs t with
      | none => simp [qs, hq, hq2]
      | some b => simp [qs, hq, hq2]
theorem qs_enc : ∀ l : List Int, Byt l → qs (enc l) = some l
  | [], _ => rfl
  | [a], hb => by
    have h := hb a (by simp)
    have v0 := vOf_sg (a / 4) (by omega) (by omega)
    have v1 := vOf_sg (a % 4 * 16) (by omega) (by omega)
    have g0 : 0 ≤ a / 4 := by omega
    have g1 : 0 ≤ a % 4 * 16 := by omega
    rw [enc, enc4_one a h.1 h.2]
    have : qd (sg (a / 4)) (sg (a % 4 * 16)) 61 61 = some [a] := by
      simp [qd, qn, qm, qv, qc, v0, v1, vOf_fill, g0, g1, cutN]
      omega
    simp [qs, this]
  | [a, b], hb => by
    have h := hb a (by simp)
    have h' := hb b (by simp)
    have v0 := vOf_sg (a / 4) (by omega) (by omega)
    have v1 := vOf_sg (a % 4 * 16 + b / 16) (by omega) (by omega)
    have v2 := vOf_sg (b % 16 * 4) (by omega) (by omega)
    have g0 : 0 ≤ a / 4 := by omega
    have g1 : 0 ≤ a % 4 * 16 + b / 16 := by omega
    have g2 : 0 ≤ b % 16 * 4 := by omega
    rw [enc, enc4_two a b h.1 h.2 h'.1 h'.2]
    have : qd (sg (a / 4)) (sg (a % 4 * 16 + b / 16)) (sg (b % 16 * 4)) 61 = some [a, b] := by
      simp [qd, qn, qm, qv, qc, v0, v1, v2, vOf_fill, g0, g1, g2, cutN]
      omega
    simp [qs, this]
  | a :: b :: c :: t, hb => by
    have h := hb a (by simp)
    have h' := hb b (by simp)
    have h'' := hb c (by simp)
    have v0 := vOf_sg (a / 4) (by omega) (by omega)
    have v1 := vOf_sg (a % 4 * 16 + b / 16) (by omega) (by omega)
    have v2 := vOf_sg (b % 16 * 4 + c / 64) (by omega) (by omega)
    have v3 := vOf_sg (c % 64) (by omega) (by omega)
    have g0 : 0 ≤ a / 4 := by omega
    have g1 : 0 ≤ a % 4 * 16 + b / 16 := by omega
    have g2 : 0 ≤ b % 16 * 4 + c / 64 := by omega
    have g3 : 0 ≤ c % 64 := by omega
    have ih := qs_enc t (fun x hx => hb x (by simp [hx]))
    rw [enc, enc4_three a b c h.1 h.2 h'.1 h'.2 h''.1 h''.2]
    have : qd (sg (a / 4)) (sg (a % 4 * 16 + b / 16)) (sg (b % 16 * 4 + c / 64)) (sg (c % 64)) = some [a, b, c] := by
      simp [qd, qn, qm, qv, qc, v0, v1, v2, v3, g0, g1, g2, g3, cutN]
      omega
    simp [qs, this, ih]
theorem qs_byt : ∀ (xs t : List Int), qs xs = some t → Byt t
  | [], t, h => by obtain rfl := Option.some.inj h; exact fun x hx => by simp at hx
  | [_], t, h => by obtain rfl := Option.some.inj h; exact fun x hx => by simp at hx
  | [_, _], t, h => by obtain rfl := Option.some.inj h; exact fun x hx => by simp at hx
  | [_, _, _], t, h => by obtain rfl := Option.some.inj h; exact fun x hx => by simp at hx
  | c0 :: c1 :: c2 :: c3 :: u, t, h => by
    rw [qs] at h
    cases hq : qd c0 c1 c2 c3 with
    | none => rw [hq] at h; cases h
    | some a =>
      rw [hq] at h
      cases hq2 : qs u with
      | none => simp [hq2] at h
      | some b =>
        simp [hq2] at h
        subst h
        have ih := qs_byt u b hq2
        exact fun x hx => (List.mem_append.1 hx).elim ((qd_good hq).1 x) (ih x)
theorem refDecF (s : ByteArray) (hs : s.size ≤ 5000) : butteryref02_Decode.f 9000000 s = some (decR s) := by
  have hb := bytesL_range s
  have hl := bytesL_len s
  have hstr := bytesL_str s
  have hno : ∀ l, dec (bytesL s) = some l → enc l = bytesL s ∧ Byt l := fun l h => dec_good h
  unfold butteryref02_Decode.f
  by_cases h4 : ((s.size : Int) % 4) = 0
  · rw [if_pos h4]
    have h := refDec (bytesL s) hb (by omega) (s.size / 4) (bytesL s) [] 0 9000000 (by omega) rfl (by omega) (fun x hx => by simp at hx) (by simp; omega) (by omega)
    rw [hstr] at h
    refine (show butteryref02_Decode.l0 9000000 s [] ((0 : Nat) : Int) = _ from h).trans ?_
    congr 1
    unfold decR
    cases hd : dec (bytesL s) with
    | some l =>
      obtain ⟨he, hbl⟩ := dec_good hd
      have hq := qs_enc l hbl
      rw [he] at hq
      rw [hq]
      simp [he]
    | none =>
      cases hq : qs (bytesL s) with
      | none => rfl
      | some t =>
        have hne : ¬ enc ([] ++ t) = bytesL s := fun e => by
          have hbt : Byt t := qs_byt (bytesL s) t hq
          have := dec_enc t hbt
          rw [List.nil_append] at e
          rw [e, hd] at this
          cases this
        show (if enc ([] ++ t) = bytesL s then ([] ++ t, (0 : Int)) else ([], 2)) = ([], 2)
        rw [if_neg hne]
  · rw [if_neg h4]
    congr 1
    unfold decR
    cases hd : dec (bytesL s) with
    | none => rfl
    | some l =>
      obtain ⟨he, _⟩ := dec_good hd
      have := enc_len l
      rw [he, hl] at this
      omega
theorem BaseEncodes : butterylaw02_BaseEncodes.Pure := by
  intro l s _ _ hw _
  have hb := byt_wf hw
  refine ⟨9000001, ?_⟩
  have hj : butterylaw02_BaseEncodes.j0 9000001 l s true true = some true := by rw [butterylaw02_BaseEncodes.j0, if_pos rfl]
  unfold butterylaw02_BaseEncodes.f
  show (if (l.length : Int) > 5000 then butterylaw02_BaseEncodes.j0 9000001 l s true true else butterylaw02_BaseEncodes.j0 9000001 l s true (decide ((s.size : Int) > 5000))) = some true
  by_cases h1 : (l.length : Int) > 5000
  · rw [if_pos h1, hj]
  · rw [if_neg h1]
    by_cases h2 : (s.size : Int) > 5000
    · rw [decide_eq_true h2, hj]
    · have d1 := decF (s := s) (by omega)
      have d2 := refDecF s (by omega)
      have d3 := encF hb (by omega)
      have d4 := refEncF hb (by omega) 9000000 (by omega)
      rw [decide_eq_false h2, butterylaw02_BaseEncodes.j0, if_neg (by decide), d1]
      show (butteryref02_Decode.f 9000000 s).bind _ = some true
      rw [d2]
      show (base_Encode.f l).bind _ = some true
      rw [d3]
      show (butteryref02_Encode.f 9000000 l).bind _ = some true
      rw [d4]
      show (if (strOfNums (enc l)).toList = (strOfNums (enc l)).toList then _ else _) = some true
      rw [if_pos rfl, if_pos rfl]
      simp
end Go.Proofs.YtldcahhhibgofaaDoor.Pure
