/- Pass in two pieces answers as Pass at once. No condition. -/
import Derived.Test.YtcdjocjkipceoaaPlain
import Derived.Test.YtcdjocjkipceoaaHdx4
namespace Go.Proofs.Ytcdjocjkipceoaa.Pure
open Go.RowKit Go.Proofs.Ytcdjocjkipceoaa.Hd Go.Proofs.Ytcdjocjkipceoaa.Plain Go.Proofs.YtcdjocjkipceoaaW.PrintWords Go.Proofs.YtcdjocjkipceoaaW.PrintLast
theorem i64' {a : Int} (h : (Lit.int .i64 a).wf = true) : -9223372036854775808 ≤ a ∧ a ≤ 9223372036854775807 := by
  simp [Lit.wf] at h
  have e1 : IntKind.i64.min = -9223372036854775808 := rfl
  have e2 : IntKind.i64.max = 9223372036854775807 := rfl
  omega
theorem ix_append (a b : List Int) (c : Int) : ix (a ++ b) c = if ix a c = -1 then (if ix b c = -1 then -1 else (a.length : Int) + ix b c) else ix a c := by
  induction a with
  | nil =>
    rw [List.nil_append, ix, if_pos rfl]
    by_cases h : ix b c = -1
    · rw [if_pos h, h]
    · rw [if_neg h]; simp
  | cons x t ih =>
    have hg := ix_ge t c
    have hb := ix_ge b c
    rw [List.cons_append, ix, ix, ih, List.length_cons]
    repeat' split
    all_goals omega
theorem pieces_j (k : Nat) (l : List Int) (c n : Int) (b : Bool) (P Q R : Int × Int × Bool) (c0 : 0 ≤ c) (c1 : c ≤ (l.length : Int))
    (hP : frame_Pass.f l n b = some P) (hQ : frame_Pass.f (l.take c.toNat) n b = some Q) (hR : ¬ Q.1 < c → frame_Pass.f (l.drop c.toNat) Q.2.1 Q.2.2 = some R)
    (lt : Q.1 < c → P.1 = Q.1 ∧ P.2.1 = 0 ∧ Q.2.1 = 0 ∧ P.2.2 = false ∧ Q.2.2 = false) (ge : ¬ Q.1 < c → P.1 = wrap64 (Q.1 + R.1) ∧ P.2.1 = R.2.1 ∧ P.2.2 = R.2.2) :
    butterylaw13_FramePieces.j0 (k + 1) l c n b true false = some true := by
  rw [butterylaw13_FramePieces.j0, if_neg (show ¬ (false = true) by decide), hP, Option.bind_some, if_pos c0, if_pos c1, hQ, Option.bind_some]
  by_cases h : Q.1 < c
  · obtain ⟨e1, e2, e3, e4, e5⟩ := lt h
    rw [if_pos h, if_pos rfl, if_pos e1, if_pos e2, if_pos e3, if_neg (by rw [e4]; decide), e5]
    rfl
  · obtain ⟨e1, e2, e3⟩ := ge h
    rw [if_neg h, hR h, Option.bind_some, if_pos rfl, if_pos e1, if_pos e2, e3, beq_self_eq_true]
theorem FramePieces : butterylaw13_FramePieces.Pure := by
  intro l c n b hl _ hb hc hn
  have hn := i64' hn
  have hB := bs_of hb
  refine ⟨0 + 1, ?_⟩
  unfold butterylaw13_FramePieces.f
  rw [awake, Option.bind_some]
  by_cases h : (l.length : Int) > 5000
  · rw [if_pos h, butterylaw13_FramePieces.j0, if_pos rfl]
  rw [if_neg h]
  by_cases h1 : c < 0
  · rw [if_pos h1, butterylaw13_FramePieces.j0, if_pos rfl]
  rw [if_neg h1]
  by_cases h2 : c > (l.length : Int)
  · rw [decide_eq_true h2, butterylaw13_FramePieces.j0, if_pos rfl]
  rw [decide_eq_false h2]
  obtain ⟨m, rfl⟩ := Int.eq_ofNat_of_zero_le (show 0 ≤ c by omega)
  obtain ⟨s, hs⟩ : ∃ s, s = n.toNat := ⟨_, rfl⟩
  have hT : Bs (l.take m) := fun x hx => hB x (List.mem_of_mem_take hx)
  have hD : Bs (l.drop m) := fun x hx => hB x (List.mem_of_mem_drop hx)
  have tl : (l.take m).length = m := by rw [List.length_take]; omega
  have dl : (l.drop m).length = l.length - m := List.length_drop
  have key : ∀ P Q R : Int × Int × Bool, passS l s b = P → passS (l.take m) s b = Q → passS (l.drop m) Q.2.1.toNat Q.2.2 = R → Q.2.1 ≤ 9223372036854775807 →
      (Q.1 < (m : Int) → P.1 = Q.1 ∧ P.2.1 = 0 ∧ Q.2.1 = 0 ∧ P.2.2 = false ∧ Q.2.2 = false) → (¬ Q.1 < (m : Int) → P.1 = wrap64 (Q.1 + R.1) ∧ P.2.1 = R.2.1 ∧ P.2.2 = R.2.2) →
      butterylaw13_FramePieces.j0 (0 + 1) l (m : Int) n b true false = some true := by
    intro P Q R hP hQ hR hq lt ge
    refine pieces_j 0 l m n b P Q R (by omega) (by omega) ?_ ?_ ?_ lt ge
    · rw [pass_is l n b hB hn.2, ← hs, hP]
    · rw [Int.toNat_natCast, pass_is _ n b hT hn.2, ← hs, hQ]
    · intro _
      rw [Int.toNat_natCast, pass_is _ _ _ hD hq, hR]
  have hg := ix_ge ((l.take m).drop s) 10
  have hgd := ix_ge (l.drop m) 10
  have dt : ((l.take m).drop s).length = m - s := by rw [List.length_drop, tl]
  by_cases h3 : m < s
  · have hQ : passS (l.take m) s b = ((m : Int), (s : Int) - (m : Int), b) := by
      unfold passS; rw [if_pos (by omega), tl]
    have hds : (l.drop m).drop (s - m) = l.drop s := by rw [List.drop_drop]; congr 1; omega
    have ht : ((s : Int) - (m : Int)).toNat = s - m := by omega
    by_cases h4 : l.length < s
    · refine key ((l.length : Int), (s : Int) - (l.length : Int), b) _ (((l.length - m : Nat) : Int), ((s - m : Nat) : Int) - ((l.length - m : Nat) : Int), b) (by unfold passS; rw [if_pos h4]) hQ ?_ (by show (s : Int) - (m : Int) ≤ _; omega) (fun hh => absurd hh (by show ¬ (m : Int) < (m : Int); omega)) (fun _ => ⟨?_, ?_, rfl⟩)
      · show passS (l.drop m) ((s : Int) - (m : Int)).toNat b = _
        rw [ht]; unfold passS; rw [if_pos (by omega), dl]
      · show (l.length : Int) = wrap64 ((m : Int) + ((l.length - m : Nat) : Int))
        rw [wrap_id _ (by omega) (by omega)]; omega
      · show (s : Int) - (l.length : Int) = ((s - m : Nat) : Int) - ((l.length - m : Nat) : Int)
        omega
    · cases b with
      | false =>
        refine key ((s : Int), 0, false) _ (((s - m : Nat) : Int), 0, false) (by unfold passS; rw [if_neg h4, if_pos rfl]) hQ ?_ (by show (s : Int) - (m : Int) ≤ _; omega) (fun hh => absurd hh (by show ¬ (m : Int) < (m : Int); omega)) (fun _ => ⟨?_, rfl, rfl⟩)
        · show passS (l.drop m) ((s : Int) - (m : Int)).toNat false = _
          rw [ht]; unfold passS; rw [if_neg (by omega), if_pos rfl]
        · show (s : Int) = wrap64 ((m : Int) + ((s - m : Nat) : Int))
          rw [wrap_id _ (by omega) (by omega)]; omega
      | true =>
        have hgs := ix_ge (l.drop s) 10
        have dls : (l.drop s).length = l.length - s := List.length_drop
        by_cases h5 : ix (l.drop s) 10 = -1
        · refine key ((l.length : Int), 0, true) _ (((l.length - m : Nat) : Int), 0, true) (by unfold passS; rw [if_neg h4, if_neg (by decide), if_pos h5]) hQ ?_ (by show (s : Int) - (m : Int) ≤ _; omega) (fun hh => absurd hh (by show ¬ (m : Int) < (m : Int); omega)) (fun _ => ⟨?_, rfl, rfl⟩)
          · show passS (l.drop m) ((s : Int) - (m : Int)).toNat true = _
            rw [ht]; unfold passS; rw [if_neg (by omega), if_neg (by decide), hds, if_pos h5, dl]
          · show (l.length : Int) = wrap64 ((m : Int) + ((l.length - m : Nat) : Int))
            rw [wrap_id _ (by omega) (by omega)]; omega
        · refine key ((s : Int) + ix (l.drop s) 10 + 1, 0, false) _ (((s - m : Nat) : Int) + ix (l.drop s) 10 + 1, 0, false) (by unfold passS; rw [if_neg h4, if_neg (by decide), if_neg h5]) hQ ?_ (by show (s : Int) - (m : Int) ≤ _; omega) (fun hh => absurd hh (by show ¬ (m : Int) < (m : Int); omega)) (fun _ => ⟨?_, rfl, rfl⟩)
          · show passS (l.drop m) ((s : Int) - (m : Int)).toNat true = _
            rw [ht]; unfold passS; rw [if_neg (by omega), if_neg (by decide), hds, if_neg h5]
          · show (s : Int) + ix (l.drop s) 10 + 1 = wrap64 ((m : Int) + (((s - m : Nat) : Int) + ix (l.drop s) 10 + 1))
            rw [wrap_id _ (by omega) (by omega)]; omega
  · have z : (0 : Int).toNat = 0 := rfl
    have hF : passS (l.drop m) (0 : Int).toNat false = (0, 0, false) := by
      rw [z]; unfold passS; rw [if_neg (by omega), if_pos rfl]; rfl
    cases b with
    | false =>
      refine key ((s : Int), 0, false) ((s : Int), 0, false) (0, 0, false) (by unfold passS; rw [if_neg (by omega), if_pos rfl]) (by unfold passS; rw [if_neg (by omega), if_pos rfl]) hF (by show (0 : Int) ≤ _; omega) (fun _ => ⟨rfl, rfl, rfl, rfl, rfl⟩) (fun _ => ⟨?_, rfl, rfl⟩)
      show (s : Int) = wrap64 ((s : Int) + 0)
      rw [wrap_id _ (by omega) (by omega)]; omega
    | true =>
      have hsplit : l.drop s = (l.take m).drop s ++ l.drop m := by
        conv => lhs; rw [← List.take_append_drop m l]
        rw [List.drop_append, tl, show s - m = 0 by omega, List.drop_zero]
      have hixs : ix (l.drop s) 10 = _ := hsplit ▸ ix_append ((l.take m).drop s) (l.drop m) 10
      by_cases h5 : ix ((l.take m).drop s) 10 = -1
      · rw [if_pos h5] at hixs
        have hQ : passS (l.take m) s true = ((m : Int), 0, true) := by unfold passS; rw [if_neg (by omega), if_neg (by decide), if_pos h5, tl]
        by_cases h6 : ix (l.drop m) 10 = -1
        · rw [if_pos h6] at hixs
          refine key ((l.length : Int), 0, true) _ (((l.length - m : Nat) : Int), 0, true) (by unfold passS; rw [if_neg (by omega), if_neg (by decide), if_pos hixs]) hQ ?_ (by show (0 : Int) ≤ _; omega) (fun hh => absurd hh (by show ¬ (m : Int) < (m : Int); omega)) (fun _ => ⟨?_, rfl, rfl⟩)
          · show passS (l.drop m) (0 : Int).toNat true = _
            rw [z]; unfold passS; rw [if_neg (by omega), if_neg (by decide), List.drop_zero, if_pos h6, dl]
          · show (l.length : Int) = wrap64 ((m : Int) + ((l.length - m : Nat) : Int))
            rw [wrap_id _ (by omega) (by omega)]; omega
        · rw [if_neg h6, dt] at hixs
          refine key ((s : Int) + ix (l.drop s) 10 + 1, 0, false) _ (((0 : Nat) : Int) + ix (l.drop m) 10 + 1, 0, false) (by unfold passS; rw [if_neg (by omega), if_neg (by decide), if_neg (by omega)]) hQ ?_ (by show (0 : Int) ≤ _; omega) (fun hh => absurd hh (by show ¬ (m : Int) < (m : Int); omega)) (fun _ => ⟨?_, rfl, rfl⟩)
          · show passS (l.drop m) (0 : Int).toNat true = _
            rw [z]; unfold passS; rw [if_neg (by omega), if_neg (by decide), List.drop_zero, if_neg h6]
          · show (s : Int) + ix (l.drop s) 10 + 1 = wrap64 ((m : Int) + (((0 : Nat) : Int) + ix (l.drop m) 10 + 1))
            rw [wrap_id _ (by omega) (by omega)]; omega
      · rw [if_neg h5] at hixs
        have hQ : passS (l.take m) s true = ((s : Int) + ix ((l.take m).drop s) 10 + 1, 0, false) := by unfold passS; rw [if_neg (by omega), if_neg (by decide), if_neg h5]
        refine key ((s : Int) + ix ((l.take m).drop s) 10 + 1, 0, false) _ (0, 0, false) (by unfold passS; rw [if_neg (by omega), if_neg (by decide), if_neg (by omega), hixs]) hQ hF (by show (0 : Int) ≤ _; omega) (fun _ => ⟨rfl, rfl, rfl, rfl, rfl⟩) (fun _ => ⟨?_, rfl, rfl⟩)
        show (s : Int) + ix ((l.take m).drop s) 10 + 1 = wrap64 ((s : Int) + ix ((l.take m).drop s) 10 + 1 + 0)
        rw [wrap_id _ (by omega) (by omega)]; omega
end Go.Proofs.Ytcdjocjkipceoaa.Pure
