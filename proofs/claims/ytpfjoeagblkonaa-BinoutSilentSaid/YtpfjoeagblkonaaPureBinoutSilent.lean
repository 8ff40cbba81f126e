/- A quiet get is answered just if something was found, or went wrong; other quiet ones just if something went wrong; all others always: the plain side. For every request and every list of results. -/
import Derived.Test.YtpfjoeagblkonaaHbx7
namespace Go.Proofs.Ytpfjoeagblkonaa.Pure
open Go.RowKit Go.Proofs.Ytpfjoeagblkonaa.Hb Go.Proofs.YtpfjoeagblkonaaW.PrintWords Go.Proofs.YtpfjoeagblkonaaW.PrintLast
set_option linter.unusedVariables false

theorem step_wrap {x : Int} {n : Nat} (h0 : 0 ≤ x) (h : x < (n : Int)) (hn : n ≤ 9223372036854775807) : wrap64 (x + 1) = x + 1 := by
  unfold wrap64
  omega
theorem few_l2 (xs : List S46) (hn : xs.length ≤ 9223372036854775807) : ∀ (d k : Nat) (x : Int), 0 ≤ x → (xs.length : Int) - x = d → d < k →
    ∃ b, butterylaw15_Few.l2 k xs x = some b ∧ (b = true → ∀ i : Int, x ≤ i → i < xs.length → ((rd_T46 xs i).f1.length : Int) ≤ 2000) := by
  intro d
  induction d with
  | zero =>
    intro k x h0 hd hk
    obtain ⟨k, rfl⟩ : ∃ m, k = m + 1 := ⟨k - 1, by omega⟩
    refine ⟨true, ?_, fun _ i h1 h2 => by omega⟩
    simp only [butterylaw15_Few.l2]
    rw [if_neg (by omega)]
  | succ d ih =>
    intro k x h0 hd hk
    obtain ⟨k, rfl⟩ : ∃ m, k = m + 1 := ⟨k - 1, by omega⟩
    simp only [butterylaw15_Few.l2]
    rw [if_pos (by omega), if_pos h0]
    by_cases hl : ((rd_T46 xs x).f1.length : Int) > 2000
    · rw [if_pos hl]
      exact ⟨false, rfl, fun h => by cases h⟩
    · rw [if_neg hl, step_wrap h0 (by omega) hn]
      obtain ⟨b, hb, h⟩ := ih k (x + 1) (by omega) (by omega) (by omega)
      refine ⟨b, hb, fun ht i h1 h2 => ?_⟩
      by_cases he : i = x
      · subst he; omega
      · exact h ht i (by omega) h2
theorem few_l1 (xs : List S46) (cs : List S44) (a1 : Int) (a2 : ByteArray) (a3 a4 : Int) (a5 a6 : Bool) (a7 : ByteArray) (l8 l9 : List ByteArray) (a10 : Bool) (hn : xs.length ≤ 9223372036854775807) (hc : cs.length ≤ 9223372036854775807) : ∀ (d k : Nat) (x : Int), 0 ≤ x → (cs.length : Int) - x = d → d + xs.length + 1 < k →
    ∃ b, butterylaw15_Few.l1 k xs x cs a1 a2 a3 a4 a5 a6 a7 l8 l9 a10 = some b ∧ (b = true → (∀ i : Int, x ≤ i → i < cs.length → ((rd_T44 cs i).f1.size : Int) ≤ 300) ∧ ∀ i : Int, 0 ≤ i → i < xs.length → ((rd_T46 xs i).f1.length : Int) ≤ 2000) := by
  intro d
  induction d with
  | zero =>
    intro k x h0 hd hk
    obtain ⟨k, rfl⟩ : ∃ m, k = m + 1 := ⟨k - 1, by omega⟩
    simp only [butterylaw15_Few.l1]
    rw [if_neg (by omega)]
    obtain ⟨b, hb, h⟩ := few_l2 xs hn xs.length k 0 (by omega) (by omega) (by omega)
    exact ⟨b, hb, fun ht => ⟨fun i h1 h2 => by omega, fun i h1 h2 => h ht i h1 h2⟩⟩
  | succ d ih =>
    intro k x h0 hd hk
    obtain ⟨k, rfl⟩ : ∃ m, k = m + 1 := ⟨k - 1, by omega⟩
    simp only [butterylaw15_Few.l1]
    rw [if_pos (by omega), if_pos h0]
    by_cases hl : ((rd_T44 cs x).f1.size : Int) > 300
    · rw [if_pos hl]
      exact ⟨false, rfl, fun h => by cases h⟩
    · rw [if_neg hl, step_wrap h0 (by omega) hc]
      obtain ⟨b, hb, h⟩ := ih k (x + 1) (by omega) (by omega) (by omega)
      refine ⟨b, hb, fun ht => ⟨fun i h1 h2 => ?_, (h ht).2⟩⟩
      by_cases he : i = x
      · subst he; omega
      · exact (h ht).1 i (by omega) h2
theorem few_l0 (xs : List S46) (cs : List S44) (a1 : Int) (a2 : ByteArray) (a3 a4 : Int) (a5 a6 : Bool) (a7 : ByteArray) (l8 l9 : List ByteArray) (a10 : Bool) (hn : xs.length ≤ 9223372036854775807) (hc : cs.length ≤ 9223372036854775807) (h8 : l8.length ≤ 9223372036854775807) : ∀ (d k : Nat) (x : Int), 0 ≤ x → (l8.length : Int) - x = d → d + cs.length + xs.length + 2 < k →
    ∃ b, butterylaw15_Few.l0 k xs x cs a1 a2 a3 a4 a5 a6 a7 l8 l9 a10 = some b ∧ (b = true → (∀ i : Int, 0 ≤ i → i < cs.length → ((rd_T44 cs i).f1.size : Int) ≤ 300) ∧ ∀ i : Int, 0 ≤ i → i < xs.length → ((rd_T46 xs i).f1.length : Int) ≤ 2000) := by
  intro d
  induction d with
  | zero =>
    intro k x h0 hd hk
    obtain ⟨k, rfl⟩ : ∃ m, k = m + 1 := ⟨k - 1, by omega⟩
    simp only [butterylaw15_Few.l0]
    rw [if_neg (by omega)]
    exact few_l1 xs cs a1 a2 a3 a4 a5 a6 a7 l8 l9 a10 hn hc cs.length k 0 (by omega) (by omega) (by omega)
  | succ d ih =>
    intro k x h0 hd hk
    obtain ⟨k, rfl⟩ : ∃ m, k = m + 1 := ⟨k - 1, by omega⟩
    simp only [butterylaw15_Few.l0]
    rw [if_pos (by omega), if_pos h0]
    by_cases hl : ((rdOf ByteArray.empty l8 x).size : Int) > 300
    · rw [if_pos hl]
      exact ⟨false, rfl, fun h => by cases h⟩
    · rw [if_neg hl, step_wrap h0 (by omega) h8]
      exact ih k (x + 1) (by omega) (by omega) (by omega)
theorem few_j0 (xs : List S46) (cs : List S44) (f : Bool) (a1 : Int) (a2 : ByteArray) (a3 a4 : Int) (a5 a6 : Bool) (a7 : ByteArray) (l8 l9 : List ByteArray) (a10 : Bool) (hn : xs.length ≤ 9223372036854775807) (hc : cs.length ≤ 9223372036854775807) (h8 : l8.length ≤ 9223372036854775807) (k : Nat) (hk : l8.length + cs.length + xs.length + 3 < k) :
    ∃ b, butterylaw15_Few.j0 k xs f cs a1 a2 a3 a4 a5 a6 a7 l8 l9 a10 = some b ∧ (b = true → (∀ i : Int, 0 ≤ i → i < cs.length → ((rd_T44 cs i).f1.size : Int) ≤ 300) ∧ ∀ i : Int, 0 ≤ i → i < xs.length → ((rd_T46 xs i).f1.length : Int) ≤ 2000) := by
  obtain ⟨k, rfl⟩ : ∃ m, k = m + 1 := ⟨k - 1, by omega⟩
  simp only [butterylaw15_Few.j0]
  by_cases hf : f = true
  · rw [if_pos hf]; exact ⟨false, rfl, fun h => by cases h⟩
  · rw [if_neg hf]
    exact few_l0 xs cs a1 a2 a3 a4 a5 a6 a7 l8 l9 a10 hn hc h8 l8.length k 0 (by omega) (by omega) (by omega)
theorem few_f (xs : List S46) (cs : List S44) (a1 : Int) (a2 : ByteArray) (a3 a4 : Int) (a5 a6 : Bool) (a7 : ByteArray) (l8 l9 : List ByteArray) (a10 : Bool) (hn : xs.length ≤ 9223372036854775807) (hc : cs.length ≤ 9223372036854775807) (h8 : l8.length ≤ 9223372036854775807) (k : Nat) (hk : l8.length + cs.length + xs.length + 3 < k) :
    ∃ b, butterylaw15_Few.f k cs a1 a2 a3 a4 a5 a6 a7 l8 l9 a10 xs = some b ∧ (b = true → (∀ i : Int, 0 ≤ i → i < cs.length → ((rd_T44 cs i).f1.size : Int) ≤ 300) ∧ ∀ i : Int, 0 ≤ i → i < xs.length → ((rd_T46 xs i).f1.length : Int) ≤ 2000) := by
  unfold butterylaw15_Few.f
  have h := fun f => few_j0 xs cs f a1 a2 a3 a4 a5 a6 a7 l8 l9 a10 hn hc h8 k hk
  repeat (first | exact h _ | split)
theorem rd44_mem (cs : List S44) (h : 0 < cs.length) : rd_T44 cs 0 ∈ cs := by
  cases cs with
  | nil => simp at h
  | cons c t => simp [rd_T44]
theorem rd46_mem (cs : List S46) (h : 0 < cs.length) : rd_T46 cs 0 ∈ cs := by
  cases cs with
  | nil => simp at h
  | cons c t => simp [rd_T46]
theorem u32_wf {n : Int} (h : (Lit.int .u32 n).wf = true) : 0 ≤ n ∧ n < 4294967296 := by
  simp [Lit.wf] at h
  have e1 : IntKind.u32.min = 0 := rfl
  have e2 : IntKind.u32.max = 4294967295 := rfl
  omega
theorem encRows_len (code : Int) (nK nX : Nat) (st : Int) (body : List Int) (opq cc : Int) : (encRows code nK nX st body opq cc).length = 24 + body.length := by
  simp [encRows, putL2, putL4, putL8]
  omega
theorem BinoutSilent : butterylaw17_BinoutSilent.Pure := by
  intro cs a1 a2 a3 a4 q a6 a7 l8 l9 a10 xs hcs h1 h2 h3 h4 h7 h8 h9 hxs
  refine ⟨l8.length + cs.length + xs.length + 20, ?_⟩
  unfold butterylaw17_BinoutSilent.f
  have hM : maxLen = 9223372036854775807 := rfl
  rw [hM] at hcs h8 hxs
  obtain ⟨b, hb, hB⟩ := few_f xs cs a1 a2 a3 a4 q a6 a7 l8 l9 a10 hxs.1 hcs.1 h8.1 (l8.length + cs.length + xs.length + 20) (by omega)
  rw [hb, show butterylaw17_awake.f = some true from rfl]
  simp only [Option.bind_some, if_true]
  generalize l8.length + cs.length + xs.length = m
  have hj0 : butterylaw17_BinoutSilent.j0 (m + 20) xs true true cs a1 a2 a3 a4 q a6 a7 l8 l9 a10 = some true := by simp only [butterylaw17_BinoutSilent.j0, if_true]
  by_cases hbt : b = true
  · rw [if_pos hbt]
    by_cases h0 : (cs.length : Int) = 0
    · rw [if_pos h0]; exact hj0
    · rw [if_neg h0]
      by_cases hx : xs.length = 0
      · rw [show ((xs.length : Int) == 0) = true from beq_iff_eq.mpr (by omega)]; exact hj0
      · rw [show ((xs.length : Int) == 0) = false from beq_eq_false_iff_ne.mpr (by omega)]
        obtain ⟨hK, hV⟩ := hB hbt
        have hK0 := hK 0 (by omega) (by omega)
        have hV0 := hV 0 (by omega) (by omega)
        have hfl := u32_wf (hxs.2 _ (rd46_mem xs (by omega))).2.2.1
        have hop := u32_wf h4
        have hE : binout_Encode.f cs a1 a2 a3 a4 q a6 a7 l8 l9 a10 xs = some (encL (rd_T44 cs 0).f0 q a3 a4 (rd_T44 cs 0).f1 (rd_T46 xs 0).f0 (rd_T46 xs 0).f1 (rd_T46 xs 0).f2 (rd_T46 xs 0).f3 (rd_T46 xs 0).f5) := by
          unfold binout_Encode.f
          rw [if_neg (by omega), if_pos]
          exact ⟨hfl.1, hfl.2, hop.1, hop.2, by omega, by omega⟩
        simp only [butterylaw17_BinoutSilent.j0, Bool.false_eq_true, if_false, hE, Option.bind_some]
        rw [if_pos (show 0 < (cs.length : Int) by omega)]
        generalize (rd_T44 cs 0).f0 = op
        have hx0 : 0 < (xs.length : Int) := by omega
        have hn : ∀ {s : Bool}, silentB q op (rd_T46 xs 0).f0 = s → (((encL op q a3 a4 (rd_T44 cs 0).f1 (rd_T46 xs 0).f0 (rd_T46 xs 0).f1 (rd_T46 xs 0).f2 (rd_T46 xs 0).f3 (rd_T46 xs 0).f5).length : Int) == 0) = s ∧ (s = false → ((encL op q a3 a4 (rd_T44 cs 0).f1 (rd_T46 xs 0).f0 (rd_T46 xs 0).f1 (rd_T46 xs 0).f2 (rd_T46 xs 0).f3 (rd_T46 xs 0).f5).length : Int) ≥ 24) := by
          intro s hs
          unfold encL
          cases s with
          | true => rw [if_pos hs]; exact ⟨rfl, fun h => by cases h⟩
          | false =>
            rw [hs]
            simp only [Bool.false_eq_true, if_false]
            rw [encRows_len]
            exact ⟨beq_eq_false_iff_ne.mpr (by omega), fun _ => by omega⟩
        generalize (encL op q a3 a4 (rd_T44 cs 0).f1 (rd_T46 xs 0).f0 (rd_T46 xs 0).f1 (rd_T46 xs 0).f2 (rd_T46 xs 0).f3 (rd_T46 xs 0).f5).length = n at *
        have hj1 : ∀ asks : Bool, asks = decide (op = 0 ∨ op = 1) → butterylaw17_BinoutSilent.j1 (m + 19) xs (n : Int) asks cs a1 a2 a3 a4 q a6 a7 l8 l9 a10 = some true := by
          intro asks ha
          simp only [butterylaw17_BinoutSilent.j1]
          cases q with
          | false =>
            simp only [Bool.false_eq_true, if_false]
            have := (hn (s := false) rfl).2 rfl
            simp [this]
          | true =>
            simp only [if_true, if_pos hx0]
            cases asks with
            | true =>
              simp only [if_true]
              have h01 : op = 0 ∨ op = 1 := of_decide_eq_true ha.symm
              have := (hn (s := ((rd_T46 xs 0).f0 == 1)) (by simp [silentB, h01])).1
              rw [this]
              simp
            | false =>
              have h01 : ¬ (op = 0 ∨ op = 1) := of_decide_eq_false ha.symm
              have := (hn (s := (codeN (rd_T46 xs 0).f0 == 0)) (by simp [silentB, h01])).1
              simp only [Bool.false_eq_true, if_false]
              have hc : binout_Code.f (m + 18) (rd_T46 xs 0).f0 = some (codeN (rd_T46 xs 0).f0) := by
                refine at_rounds (g := fun k => binout_Code.f k (rd_T46 xs 0).f0) (fun k => binout_Code.mono _ k) (show 9 ≤ m + 18 by omega) (Code_eq _)
              rw [hc, this]
              simp
        by_cases h0' : op = 0
        · rw [if_pos h0']; exact hj1 true (by simp [h0'])
        · rw [if_neg h0']
          refine hj1 _ ?_
          by_cases h1' : op = 1
          · simp [h1']
          · simp [h0', h1']
  · rw [if_neg hbt]; exact hj0

end Go.Proofs.Ytpfjoeagblkonaa.Pure
