/- Written by this session: the plain side of chapter 02, no program in sight. -/
import Derived.Test.YtldcahhhibgofaaDoorHbx3
namespace Go.Proofs.YtldcahhhibgofaaDoor.Pure
open Go.RowKit Go.Proofs.YtldcahhhibgofaaDoor.Hb Go.Proofs.YtldcahhhibgofaaDoorW.PrintWords Go.Proofs.YtldcahhhibgofaaDoorW.PrintLast
set_option linter.unusedVariables false
set_option linter.unusedSimpArgs false
theorem idx_sg_nat : ∀ n : Fin 64, idx (sg ((n : Nat) : Int)) = ((n : Nat) : Int) := by decide +kernel
theorem idx_sg (d : Int) (h0 : 0 ≤ d) (h1 : d < 64) : idx (sg d) = d := by
  obtain ⟨n, rfl⟩ := Int.eq_ofNat_of_zero_le h0
  exact idx_sg_nat ⟨n, by omega⟩
theorem sg_ne (d : Int) (h0 : 0 ≤ d) (h1 : d < 64) : sg d ≠ 61 := by
  unfold sg
  repeat' split
  all_goals omega
theorem enc4_one (a : Int) (h0 : 0 ≤ a) (h1 : a < 256) : enc4 [a] = [sg (a / 4), sg (a % 4 * 16), 61, 61] := by
  have e0 : (a * 256 + 0) * 256 + 0 = a * 65536 := by omega
  simp [enc4, num0, at0, dig, List.range, List.range.loop]
  constructor <;> congr 1 <;> omega
theorem enc4_two (a b : Int) (h0 : 0 ≤ a) (h1 : a < 256) (h2 : 0 ≤ b) (h3 : b < 256) : enc4 [a, b] = [sg (a / 4), sg (a % 4 * 16 + b / 16), sg (b % 16 * 4), 61] := by
  simp [enc4, num0, at0, dig, List.range, List.range.loop]
  refine ⟨?_, ?_, ?_⟩ <;> congr 1 <;> omega
theorem enc4_three (a b c : Int) (h0 : 0 ≤ a) (h1 : a < 256) (h2 : 0 ≤ b) (h3 : b < 256) (h4 : 0 ≤ c) (h5 : c < 256) : enc4 [a, b, c] = [sg (a / 4), sg (a % 4 * 16 + b / 16), sg (b % 16 * 4 + c / 64), sg (c % 64)] := by
  simp [enc4, num0, at0, dig, List.range, List.range.loop]
  refine ⟨?_, ?_, ?_, ?_⟩ <;> congr 1 <;> omega
theorem dec4_one (a : Int) (h0 : 0 ≤ a) (h1 : a < 256) : dec4 (enc4 [a]) = some [a] := by
  have ht : trim (enc4 [a]) = [sg (a / 4), sg (a % 4 * 16)] := by
    rw [enc4_one a h0 h1]
    have := sg_ne (a % 4 * 16) (by omega) (by omega)
    simp [trim, this]
  have i0 := idx_sg (a / 4) (by omega) (by omega)
  have i1 := idx_sg (a % 4 * 16) (by omega) (by omega)
  have hn : cutN (num6 (trim (enc4 [a])) 4) ((trim (enc4 [a])).length - 1) = [a] := by
    rw [ht]
    simp [num6, at0, i0, i1, cutN]
    omega
  unfold dec4
  rw [hn, if_pos]
  refine ⟨?_, by rw [ht]; simp, rfl⟩
  rw [ht]
  intro i hi
  simp at hi
  obtain rfl | rfl : i = 0 ∨ i = 1 := by omega
  · simp [at0, i0]; omega
  · simp [at0, i1]; omega
theorem dec4_two (a b : Int) (h0 : 0 ≤ a) (h1 : a < 256) (h2 : 0 ≤ b) (h3 : b < 256) : dec4 (enc4 [a, b]) = some [a, b] := by
  have ht : trim (enc4 [a, b]) = [sg (a / 4), sg (a % 4 * 16 + b / 16), sg (b % 16 * 4)] := by
    rw [enc4_two a b h0 h1 h2 h3]
    have := sg_ne (b % 16 * 4) (by omega) (by omega)
    simp [trim, this]
  have i0 := idx_sg (a / 4) (by omega) (by omega)
  have i1 := idx_sg (a % 4 * 16 + b / 16) (by omega) (by omega)
  have i2 := idx_sg (b % 16 * 4) (by omega) (by omega)
  have hn : cutN (num6 (trim (enc4 [a, b])) 4) ((trim (enc4 [a, b])).length - 1) = [a, b] := by
    rw [ht]
    simp [num6, at0, i0, i1, i2, cutN]
    omega
  unfold dec4
  rw [hn, if_pos]
  refine ⟨?_, by rw [ht]; simp, rfl⟩
  rw [ht]
  intro i hi
  simp at hi
  obtain rfl | rfl | rfl : i = 0 ∨ i = 1 ∨ i = 2 := by omega
  · simp [at0, i0]; omega
  · simp [at0, i1]; omega
  · simp [at0, i2]; omega
theorem dec4_three (a b c : Int) (h0 : 0 ≤ a) (h1 : a < 256) (h2 : 0 ≤ b) (h3 : b < 256) (h4 : 0 ≤ c) (h5 : c < 256) : dec4 (enc4 [a, b, c]) = some [a, b, c] := by
  have ht : trim (enc4 [a, b, c]) = [sg (a / 4), sg (a % 4 * 16 + b / 16), sg (b % 16 * 4 + c / 64), sg (c % 64)] := by
    rw [enc4_three a b c h0 h1 h2 h3 h4 h5]
    have := sg_ne (c % 64) (by omega) (by omega)
    simp [trim, this]
  have i0 := idx_sg (a / 4) (by omega) (by omega)
  have i1 := idx_sg (a % 4 * 16 + b / 16) (by omega) (by omega)
  have i2 := idx_sg (b % 16 * 4 + c / 64) (by omega) (by omega)
  have i3 := idx_sg (c % 64) (by omega) (by omega)
  have hn : cutN (num6 (trim (enc4 [a, b, c])) 4) ((trim (enc4 [a, b, c])).length - 1) = [a, b, c] := by
    rw [ht]
    simp [num6, at0, i0, i1, i2, i3, cutN]
    omega
  unfold dec4
  rw [hn, if_pos]
  refine ⟨?_, by rw [ht]; simp, rfl⟩
  rw [ht]
  intro i hi
  simp at hi
  obtain rfl | rfl | rfl | rfl : i = 0 ∨ i = 1 ∨ i = 2 ∨ i = 3 := by omega
  · simp [at0, i0]; omega
  · simp [at0, i1]; omega
  · simp [at0, i2]; omega
  · simp [at0, i3]; omega
def Byt (l : List Int) : Prop := ∀ x ∈ l, 0 ≤ x ∧ x < 256
theorem decN_enc : ∀ (l : List Int) (k : Nat), Byt l → (enc l).length < k → decN k (enc l) = some l
  | [], k + 1, _, _ => by simp [enc, decN]
  | [a], k + 1, hb, hk => by
    have h := hb a (by simp)
    have e4 := enc4_len [a] (by simp)
    simp only [enc] at hk ⊢
    have hne : enc4 [a] ≠ [] := by intro h; rw [h] at e4; simp at e4
    rw [decN, if_neg hne, if_neg (by omega), List.take_of_length_le (by omega), dec4_one a h.1 h.2]
    simp only [e4, List.drop_of_length_le (by omega : (enc4 [a]).length ≤ 4)]
    obtain ⟨j, rfl⟩ : ∃ j, k = j + 1 := ⟨k - 1, by omega⟩
    simp [decN]
  | [a, b], k + 1, hb, hk => by
    have h := hb a (by simp)
    have h' := hb b (by simp)
    have e4 := enc4_len [a, b] (by simp)
    simp only [enc] at hk ⊢
    have hne : enc4 [a, b] ≠ [] := by intro h; rw [h] at e4; simp at e4
    rw [decN, if_neg hne, if_neg (by omega), List.take_of_length_le (by omega), dec4_two a b h.1 h.2 h'.1 h'.2]
    simp only [e4, List.drop_of_length_le (by omega : (enc4 [a, b]).length ≤ 4)]
    obtain ⟨j, rfl⟩ : ∃ j, k = j + 1 := ⟨k - 1, by omega⟩
    simp [decN]
  | a :: b :: c :: t, k + 1, hb, hk => by
    have h := hb a (by simp)
    have h' := hb b (by simp)
    have h'' := hb c (by simp)
    have e4 := enc4_len [a, b, c] (by simp)
    simp only [enc, List.length_append] at hk ⊢
    have hne : enc4 [a, b, c] ++ enc t ≠ [] := by intro h; have h' := (List.append_eq_nil_iff.1 h).1; rw [h'] at e4; simp at e4
    have ih := decN_enc t k (fun x hx => hb x (by simp [hx])) (by omega)
    rw [decN, if_neg hne, if_neg (by rw [List.length_append]; omega), List.take_left' e4, List.drop_left' e4, dec4_three a b c h.1 h.2 h'.1 h'.2 h''.1 h''.2, ih]
    simp
theorem dec_enc (l : List Int) (hb : Byt l) : dec (enc l) = some l := decN_enc l _ hb (Nat.lt_succ_self _)
theorem dec4_good {xs l : List Int} (h : dec4 xs = some l) : enc4 l = xs ∧ Byt l ∧ 1 ≤ l.length ∧ l.length ≤ 3 := by
  have h3 := dec4_len h
  unfold dec4 at h
  split at h
  · rename_i hc
    obtain rfl := Option.some.inj h
    refine ⟨hc.2.2, fun x hx => ?_, ?_, h3⟩
    · have := List.mem_of_mem_take hx
      simp only [List.mem_cons, List.not_mem_nil, or_false] at this
      omega
    · have := hc.2.1
      simp [cutN]
      omega
  · cases h
theorem enc_app3 (u v : List Int) (h : u.length = 3) : enc (u ++ v) = enc4 u ++ enc v := by
  match u, h with
  | [a, b, c], _ => rfl
theorem decN_good : ∀ (k : Nat) (xs l : List Int), decN k xs = some l → enc l = xs ∧ Byt l
  | 0, _, _, h => by simp [decN] at h
  | k + 1, xs, l, h => by
    rw [decN] at h
    split at h
    · rename_i h0
      obtain rfl := Option.some.inj h
      exact ⟨by rw [h0]; rfl, fun x hx => by simp at hx⟩
    · split at h
      · cases h
      · split at h
        · cases h
        · rename_i l1 h4
          split at h
          · cases h
          · rename_i hc
            obtain ⟨l2, h2, rfl⟩ := Option.map_eq_some_iff.1 h
            obtain ⟨e2, b2⟩ := decN_good k _ _ h2
            obtain ⟨e1, b1, n1, n3⟩ := dec4_good h4
            have hB : Byt (l1 ++ l2) := fun x hx => (List.mem_append.1 hx).elim (b1 x) (b2 x)
            refine ⟨?_, hB⟩
            by_cases h5 : l1.length = 3
            · rw [enc_app3 _ _ h5, e1, e2, List.take_append_drop]
            · have hd : xs.drop 4 = [] := List.drop_of_length_le (by omega)
              rw [hd] at e2
              have hl2 : l2 = [] := by
                have := congrArg List.length e2
                rw [enc_len] at this
                simp at this
                exact List.eq_nil_of_length_eq_zero (by omega)
              rw [hl2, List.append_nil, enc_few _ (by omega) n3, e1]
              have := List.take_append_drop 4 xs
              rw [hd, List.append_nil] at this
              exact this
theorem dec_good {xs l : List Int} (h : dec xs = some l) : enc l = xs ∧ Byt l := decN_good _ _ _ h
theorem enc_range (l : List Int) (hb : Byt l) : Byt (enc l) := by
  have : ∀ l : List Int, Byt l → Byt (enc l) := fun l => by
    induction l using enc.induct with
    | case1 => intro _ x hx; simp [enc] at hx
    | case2 a => exact fun h => enc4_range _ h
    | case3 a b => exact fun h => enc4_range _ h
    | case4 a b c t ih =>
      intro h x hx
      rw [enc] at hx
      rcases List.mem_append.1 hx with h1 | h1
      · exact enc4_range [a, b, c] (fun y hy => h y (by simp at hy ⊢; rcases hy with rfl | rfl | rfl <;> simp)) x h1
      · exact ih (fun y hy => h y (by simp [hy])) x h1
  exact this l hb
end Go.Proofs.YtldcahhhibgofaaDoor.Pure
