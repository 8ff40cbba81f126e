-- Written by this session's own program (wip/hprint.py) out of the translation, over hand-proved contracts. Lean checks it.
import Derived.Test.YtkbhnnmngmdkdaaHpx0
import Derived.Test.YtkbhnnmngmdkdaaHpx3
import Derived.Test.YtkbhnnmngmdkdaaHpx4
import Derived.Test.YtkbhnnmngmdkdaaHpx5
import Derived.Test.YtkbhnnmngmdkdaaHpx8
namespace Go.Proofs.Ytkbhnnmngmdkdaa.Hp
open Go.RowKit Go.Proofs.YtkbhnnmngmdkdaaW.PrintWords Go.Proofs.YtkbhnnmngmdkdaaW.PrintLast Go.Proofs.YtkbhnnmngmdkdaaW.PrintMore
attribute [local go_sem] max2_int min2_int max_two min_two max_three min_three max_four min_four   -- for this text's walks alone
set_option linter.unusedVariables false
set_option linter.unusedSimpArgs false

/-! ### butterylaw16_BininParses: function 3 -/
set_option maxHeartbeats 8000000 in
set_option maxRecDepth 100000 in
theorem parses_long (A0 : Option Addr) (c0 : Nat) (l0 : List Int) (w : World) (h : 5000 < l0.length) : Calls Try.prog 3 #[.slice A0 l0.length c0] w fun e w' => e = .returned (.bool true) ∧ Below w.heap.size w w' := by
  have t1 : decide (5000 < l0.length) = true := decide_eq_true h
  have t2 : decide ((l0.length : Int) > 5000) = true := decide_eq_true (by omega)
  clear h
  generalize l0.length = n0 at *
  go_enter Try.func3, Try.ntmps3
  go_wp2_with (first | (go_at_call 9; refine (awake_w _).mono ?_; rintro e w1 ⟨rfl, hB⟩; have HB1 := Aside0.mk hB; clear hB))
  go_ret
  exact ⟨rfl, HB1.out⟩
set_option maxHeartbeats 8000000 in
set_option maxRecDepth 100000 in
theorem parses_w (A0 : Option Addr) (c0 : Nat) (l0 : List Int) (w : World) (hr0 : Kd.C (Kd.int .u8) w A0 l0.length l0) (hc0 : l0.length ≤ c0) (hb0 : ∀ x ∈ l0, 0 ≤ x ∧ x ≤ 255) : Calls Try.prog 3 #[.slice A0 l0.length c0] w fun e w' => e = .returned (.bool true) ∧ Below w.heap.size w w' := by
  by_cases h0 : 5000 < l0.length
  · exact parses_long A0 c0 l0 w h0
  · have hu34 := Try.underlying34
    have hu22 := Try.underlying22
    have t1 : decide (5000 < l0.length) = false := decide_eq_false (by omega)
    have t2 : decide ((l0.length : Int) > 5000) = false := decide_eq_false (by omega)
    have HR0 := Aside0.mk hr0
    have HPa : Aside0 (∀ (W : World) (B : Option Addr) (cB : Nat), Kd.C (Kd.int .u8) W B l0.length l0 → l0.length ≤ cB → Calls Try.prog 11 #[.slice B l0.length cB] W fun e w' => ReqPost W (parseS l0) e w') := ⟨fun W B cB hC hle => parse_w B cB l0 W hC hle hb0 (by omega)⟩
    have HPb : Aside0 (∀ W, Below w.heap.size w W → Calls Try.prog 12 #[.slice A0 l0.length c0] W fun e w' => ReqPost W (parseS l0) e w') := ⟨fun W hB => rparse_w A0 c0 l0 W (Kd.C_below hr0 hB) hc0 hb0 (by omega)⟩
    have HLen := Aside0.mk (show l0.length ≤ 5000 by omega)
    have y3 : ((strOfNums l0).toList == (strOfNums l0).toList) = true := by simp
    generalize parseS l0 = s at *
    clear hr0 hc0 hb0 h0
    generalize hn0 : l0.length = n0 at *
    have HN := Aside0.mk hn0
    clear hn0
    go_enter Try.func3, Try.ntmps3
    go_wp2_with (first | (go_at_call 9; refine (awake_w _).mono ?_; rintro e w1 ⟨rfl, hB⟩; have HB1 := Aside0.mk hB; clear hB) | ((with_reducible refine gate_builtin (b := .append) (xs := #[.const (.slice none 0 0), .tmp 11]) rfl ?_); at_builtin; refine Kd.R_append_rows (Kd.int .u8) (w0 := _) _ rfl (.const (.slice none 0 0)) (.tmp 11) 22 5 (.int .u8 0) 1 rfl Try.underlying22 infoR rfl (by decide) (by omega) (.slice none 0 0) ([] : List Int) l0 _ _ _ (fun _ => True) (fun _ => False) rfl rfl (Kd.R_nil _ _ _ _ _) (Kd.C_below HR0.out HB1.out) (fun _ _ h => h) (fun _ h => h.elim) (fun _ _ => trivial) (Below.refl _ _) (Nat.le_refl _) (by have := HLen.out; simp only [List.length_nil]; omega) ?_; intro v2 w2 hR hB _ _; rw [List.nil_append] at hR; obtain ⟨B, cB, hv, hle, hC⟩ := Kd.R_reads hR; rw [HN.out] at hv hle hC; subst hv; have HB2 := Aside0.mk (below_step HB1.out hB); have HC2 := Aside0.mk (And.intro hC hle); clear hR hB hC hle))
    refine (HPa.out _ _ _ HC2.out.1 HC2.out.2).mono ?_
    rintro e w3 ⟨v, rfl, ⟨cv, kv, rfl, hc, hk⟩, hB⟩
    obtain ⟨a1, n1, c1, rfl⟩ := hc.slice
    obtain ⟨ka1, kn1, kc1, rfl⟩ := hk.slice
    have HS := Aside0.mk (And.intro hc hk)
    have HB3 := Aside0.mk (below_step HB2.out hB)
    have HC3 := Aside0.mk (Kd.C_below HC2.out.1 hB)
    clear hc hk hB
    unfold stepV
    go_wp2_with fail
    refine (HPb.out _ HB3.out).mono ?_
    rintro e w4 ⟨v, rfl, ⟨cv, kv, rfl, hc, hk⟩, hB⟩
    obtain ⟨a2, n2, c2, rfl⟩ := hc.slice
    obtain ⟨ka2, kn2, kc2, rfl⟩ := hk.slice
    have HT := Aside0.mk (And.intro hc hk)
    have HB4 := Aside0.mk (below_step HB3.out hB)
    have HB4' := Aside0.mk hB
    have HC4 := Aside0.mk (Kd.C_below HC3.out hB)
    clear hc hk hB
    unfold stepV
    go_wp2_with fail
    refine (steps_eq _ _ s _ ⟨_, _, rfl, HS.out.1.below HB4'.out, HS.out.2.below HB4'.out⟩ ⟨_, _, rfl, HT.out.1, HT.out.2⟩).mono ?_
    rintro e w5 ⟨rfl, hB⟩
    have HB5 := Aside0.mk (below_step HB4.out hB)
    have k1 : (convert 22 9 (.slice B n0 cB)).run Try.prog w5 = .ok (.string (strOfNums l0)) w5 := Kd.C_string Try.underlying22 Try.underlying5 Try.underlying9 (Kd.C_below HC4.out hB)
    have k2 : (convert 22 9 (.slice A0 n0 c0)).run Try.prog w5 = .ok (.string (strOfNums l0)) w5 := Kd.C_string Try.underlying22 Try.underlying5 Try.underlying9 (Kd.C_below HR0.out HB5.out)
    clear hB
    go_wp2
    go_ret
    exact ⟨by first | rfl | simp, by repeat (with_reducible first | exact HB5.out | apply below_alloc | apply below_drew | apply pw_below_drewN)⟩
def butterylaw16_BininParses.Ok (l0 : List Int) : Prop := (∀ x ∈ l0, 0 ≤ x ∧ x ≤ 255)
noncomputable def butterylaw16_BininParses.f (l0 : List Int) : Option Bool := @ite _ (butterylaw16_BininParses.Ok l0) (Classical.propDecidable _) (some true) none
theorem butterylaw16_BininParses.calls (A0 : Option Addr) (c0 : Nat) (l0 : List Int) (r : Bool) (w : World) (hr0 : Kd.C (Kd.int .u8) w A0 l0.length l0) (hc0 : l0.length ≤ c0) (h : butterylaw16_BininParses.f l0 = some r) :
    Calls Try.prog 3 #[.slice A0 l0.length c0] w fun e w' => e = .returned (.bool r) ∧ Below w.heap.size w w' := by
  unfold butterylaw16_BininParses.f at h
  by_cases hO : butterylaw16_BininParses.Ok l0
  · rw [if_pos hO] at h
    obtain rfl := Option.some.inj h
    exact parses_w A0 c0 l0 w hr0 hc0 hO
  · rw [if_neg hO] at h
    cases h

/-- THE ONE PURE STATEMENT of butterylaw16_BininParses: yours. -/
def butterylaw16_BininParses.Pure : Prop := ∀ (l0 : List Int), l0.length ≤ maxLen → l0.length * 1 ≤ 140737488351232 → (∀ x ∈ l0, (Lit.int .u8 x).wf = true) → butterylaw16_BininParses.f l0 = some true
theorem butterylaw16_BininParses.walk (P : butterylaw16_BininParses.Pure) (a0 : Option Addr) (len0 cap0 : Nat) (z0 : List Int) (w : World) (w0 : (a0 = none ∧ len0 = 0 ∧ cap0 = 0 ∧ z0 = []) ∨ ∃ x, a0 = some x ∧ len0 ≤ cap0 ∧ cap0 ≤ maxLen ∧ z0.length = cap0 ∧ (∀ i, i < z0.length → w.cell? (x.add i) = some (.int .u8 (z0.getD i 0))) ∧ ∀ n ∈ z0, (Lit.int .u8 n).wf = true) (y0 : len0 * 1 ≤ 140737488351232) :
    Calls Try.prog 3 #[.slice a0 len0 cap0] w fun e w' => e = .returned (.bool true) ∧ Below w.heap.size w w' := by
  obtain ⟨l0, rfl, hr0, hm0, hw0, hc0⟩ := ReadsInt.ofRowC w0
  have h := P l0 hm0 y0 hw0
  refine (butterylaw16_BininParses.calls _ _ l0 true w (Kd.C_of_reads (d := (0 : Int)) (h1 := fun _ => rfl) hr0) hc0 h).mono ?_
  rintro e w' ⟨rfl, hd⟩
  exact ⟨rfl, hd⟩

end Go.Proofs.Ytkbhnnmngmdkdaa.Hp
