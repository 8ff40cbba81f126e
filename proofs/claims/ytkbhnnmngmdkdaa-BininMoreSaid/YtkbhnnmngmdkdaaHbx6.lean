-- Written by this session's own program (wip/hprint.py) out of the translation, over hand-proved contracts. Lean checks it.
import Derived.Test.YtkbhnnmngmdkdaaHbx0
import Derived.Test.YtkbhnnmngmdkdaaHbx3
import Derived.Test.YtkbhnnmngmdkdaaHbx4
import Derived.Test.YtkbhnnmngmdkdaaHbx5
namespace Go.Proofs.Ytkbhnnmngmdkdaa.Hb
open Go.RowKit Go.Proofs.YtkbhnnmngmdkdaaW.PrintWords Go.Proofs.YtkbhnnmngmdkdaaW.PrintLast Go.Proofs.YtkbhnnmngmdkdaaW.PrintMore
attribute [local go_sem] max2_int min2_int max_two min_two max_three min_three max_four min_four   -- for this text's walks alone
set_option linter.unusedVariables false
set_option linter.unusedSimpArgs false

/-! ### butterylaw16_BininMore: function 5 -/
theorem infoB : (Try.prog.info? 5).map (fun i => (i.zero, i.size, i.bytes)) = some (some (.int .u8 0), 1, 1) := by kernel_rfl
set_option maxHeartbeats 8000000 in
set_option maxRecDepth 100000 in
theorem more_long0 (A0 : Option Addr) (c0 : Nat) (l0 : List Int) (A1 : Option Addr) (d1 : Nat) (l1 : List Int) (cut : Int) (w : World) (h : 5000 < l0.length) : Calls Try.prog 5 #[.slice A0 l0.length c0, .slice A1 l1.length d1, .int .i64 cut] w fun e w' => e = .returned (.bool true) ∧ Below w.heap.size w w' := by
  have t1 : decide (5000 < l0.length) = true := decide_eq_true h
  have t2 : decide ((l0.length : Int) > 5000) = true := decide_eq_true (by omega)
  clear h
  generalize l0.length = n0 at *
  generalize l1.length = n1 at *
  go_enter Try.func5, Try.ntmps5
  go_wp2_with (first | (go_at_call 9; refine (awake_w _).mono ?_; rintro e w1 ⟨rfl, hB⟩; have HB1 := Aside0.mk hB; clear hB))
  go_ret
  exact ⟨rfl, HB1.out⟩
set_option maxHeartbeats 8000000 in
set_option maxRecDepth 100000 in
theorem more_long1 (A0 : Option Addr) (c0 : Nat) (l0 : List Int) (A1 : Option Addr) (d1 : Nat) (l1 : List Int) (cut : Int) (w : World) (h0 : ¬ 5000 < l0.length) (h : 1000 < l1.length) : Calls Try.prog 5 #[.slice A0 l0.length c0, .slice A1 l1.length d1, .int .i64 cut] w fun e w' => e = .returned (.bool true) ∧ Below w.heap.size w w' := by
  have t1 : decide (5000 < l0.length) = false := decide_eq_false h0
  have t2 : decide ((l0.length : Int) > 5000) = false := decide_eq_false (by omega)
  have t3 : decide (1000 < l1.length) = true := decide_eq_true h
  have t4 : decide ((l1.length : Int) > 1000) = true := decide_eq_true (by omega)
  clear h
  generalize l0.length = n0 at *
  generalize l1.length = n1 at *
  go_enter Try.func5, Try.ntmps5
  go_wp2_with (first | (go_at_call 9; refine (awake_w _).mono ?_; rintro e w1 ⟨rfl, hB⟩; have HB1 := Aside0.mk hB; clear hB))
  go_ret
  exact ⟨rfl, HB1.out⟩
set_option maxHeartbeats 8000000 in
set_option maxRecDepth 100000 in
theorem more_wait (A0 : Option Addr) (c0 : Nat) (l0 : List Int) (A1 : Option Addr) (d1 : Nat) (l1 : List Int) (cut : Int) (w : World) (hr0 : Kd.C (Kd.int .u8) w A0 l0.length l0) (hc0 : l0.length ≤ c0) (hr1 : Kd.C (Kd.int .u8) w A1 l1.length l1) (hc1 : l1.length ≤ d1) (hb0 : ∀ x ∈ l0, 0 ≤ x ∧ x ≤ 255) (hb1 : ∀ x ∈ l1, 0 ≤ x ∧ x ≤ 255) (h0 : l0.length ≤ 5000) (h1 : l1.length ≤ 1000) (s t : St) (hs : parseS l0 = s) (ht : parseS (l0 ++ l1) = t) (same : Bool) (he : s.e = 3)
    (HSt : Aside0 (∀ W v1 v2, StepAt W v1 s → StepAt W v2 t → Calls Try.prog 10 #[v1, v2] W fun e w' => e = .returned (.bool same) ∧ Below W.heap.size W w')) :
    Calls Try.prog 5 #[.slice A0 l0.length c0, .slice A1 l1.length d1, .int .i64 cut] w fun e w' => e = .returned (.bool true) ∧ Below w.heap.size w w' := by
  have hu34 := Try.underlying34
  have hu31 := Try.underlying31
  have hu29 := Try.underlying29
  have hu22 := Try.underlying22
  have t1 : decide (5000 < l0.length) = false := decide_eq_false (by omega)
  have t2 : decide ((l0.length : Int) > 5000) = false := decide_eq_false (by omega)
  have t3 : decide (1000 < l1.length) = false := decide_eq_false (by omega)
  have t4 : decide ((l1.length : Int) > 1000) = false := decide_eq_false (by omega)
  have HR0 := Aside0.mk hr0
  have HR1 := Aside0.mk hr1
  have HPa : Aside0 (∀ W, Below w.heap.size w W → Calls Try.prog 11 #[.slice A0 l0.length c0] W fun e w' => ReqPost W s e w') := ⟨fun W hB => by rw [← hs]; exact parse_w A0 c0 l0 W (Kd.C_below hr0 hB) hc0 hb0 (by omega)⟩
  obtain ⟨ll, hll⟩ : ∃ ll, l0 ++ l1 = ll := ⟨_, rfl⟩
  have HLL : Aside0 ([] ++ l0 ++ l1 = ll) := ⟨by rw [List.nil_append]; exact hll⟩
  have hlb : ∀ x ∈ ll, 0 ≤ x ∧ x ≤ 255 := by rw [← hll]; intro x hx; exact (List.mem_append.1 hx).elim (hb0 x) (hb1 x)
  have hln : ll.length ≤ 1000000 := by rw [← hll, List.length_append]; omega
  rw [hll] at ht
  have HPb : Aside0 (∀ (W : World) (B : Option Addr) (cB : Nat), Kd.C (Kd.int .u8) W B ll.length ll → ll.length ≤ cB → Calls Try.prog 11 #[.slice B ll.length cB] W fun e w' => ReqPost W t e w') := ⟨fun W B cB hC hle => by rw [← ht]; exact parse_w B cB ll W hC hle hlb hln⟩
  have HLen := Aside0.mk (And.intro h0 h1)
  have q1 : (s.e != 3) = false := bne_eq_false_iff_eq.mpr he
  have q2 : (s.e == 3) = true := beq_iff_eq.mpr he
  clear he
  clear hr0 hr1 hc0 hc1 hb0 hb1 hlb hln hs ht hll h0 h1
  generalize hn0 : l0.length = n0 at *
  generalize hn1 : l1.length = n1' at *
  have HN := Aside0.mk (And.intro hn0 hn1)
  clear hn0 hn1
  go_enter Try.func5, Try.ntmps5
  go_wp2_with (first | (go_at_call 9; refine (awake_w _).mono ?_; rintro e w1 ⟨rfl, hB⟩; have HB1 := Aside0.mk hB; clear hB) | (go_at_call 11; (with_reducible refine (HPa.out _ HB1.out).mono ?_); rintro e w2 ⟨v, rfl, ⟨cv, kv, rfl, hc, hk⟩, hB⟩; obtain ⟨a1, n1, c1, rfl⟩ := hc.slice; obtain ⟨ka1, kn1, kc1, rfl⟩ := hk.slice; have HS := Aside0.mk (And.intro hc hk); have HB2 := Aside0.mk (below_step HB1.out hB); clear hc hk hB HPa; unfold stepV) | ((with_reducible refine gate_builtin (b := .append) (xs := #[.const (.slice none 0 0), .tmp 24]) rfl ?_); at_builtin; refine Kd.R_append_rows (Kd.int .u8) (w0 := _) _ rfl (.const (.slice none 0 0)) (.tmp 24) 22 5 (.int .u8 0) 1 rfl Try.underlying22 infoB rfl (by decide) (by omega) (.slice none 0 0) ([] : List Int) l0 _ _ _ (fun _ => True) (fun _ => False) rfl rfl (Kd.R_nil _ _ _ _ _) (Kd.C_below (Kd.C_below HR0.out HB2.out) (below_alloc (Below.refl _ _) _)) (fun _ _ h => h) (fun _ h => h.elim) (fun _ _ => trivial) (Below.refl _ _) (Nat.le_refl _) (by have := HLen.out; have := HN.out; simp only [List.length_nil, List.nil_append]; omega) ?_; intro v3 w3 hR hB _ _; have HO3 := Aside0.mk (And.intro hR hB); clear hR hB) | ((with_reducible refine gate_builtin (b := .append) (xs := #[.tmp 25, .tmp 26]) rfl ?_); at_builtin; refine Kd.R_append_rows (Kd.int .u8) (w0 := _) _ rfl (.tmp 25) (.tmp 26) 22 5 (.int .u8 0) 1 rfl Try.underlying22 infoB rfl (by decide) (by omega) v3 ([] ++ l0) l1 _ _ _ (fun _ => True) (fun _ => False) rfl rfl HO3.out.1 (Kd.C_below (Kd.C_below (Kd.C_below HR1.out HB2.out) (below_alloc (Below.refl _ _) _)) HO3.out.2) (fun _ _ h => h) (fun _ h => h.elim) (fun _ _ => trivial) HO3.out.2 HO3.out.2.size (by have := HLen.out; have := HN.out; simp only [List.length_nil, List.nil_append]; omega) ?_; intro v4 w4 hR hB _ _; rw [HLL.out] at hR; obtain ⟨B, cB, hv, hle, hC⟩ := Kd.R_reads hR; subst hv; have HO4 := Aside0.mk (And.intro hC (And.intro hle hB)); clear hR hB hle hC) | (go_at_call 11; (with_reducible refine (HPb.out _ _ _ HO4.out.1 HO4.out.2.1).mono ?_); rintro e w5 ⟨v, rfl, ⟨cv, kv, rfl, hc, hk⟩, hB⟩; obtain ⟨a2, n2, c2, rfl⟩ := hc.slice; obtain ⟨ka2, kn2, kc2, rfl⟩ := hk.slice; have HT := Aside0.mk (And.intro hc hk); have HB5 := Aside0.mk (below_step HO4.out.2.2 hB); have k8 := blk_any HB5.out (blk_new w2 _); have HK8 := Aside0.mk k8; clear hc hk hB HPb; obtain ⟨r0, r1, r2, r3, r4, r5, r6, r7, r8, r9, r10, r11, r12, r13, r14, r15⟩ := cells16_1 k8; clear k8; unfold stepV) | (go_at_call 10; (refine (HSt.out _ _ _ ⟨_, _, rfl, ((HS.out.1.below (below_alloc (Below.refl _ _) _)).below HB5.out).below (below_alloc (Below.refl _ _) _), ((HS.out.2.below (below_alloc (Below.refl _ _) _)).below HB5.out).below (below_alloc (Below.refl _ _) _)⟩ ⟨_, _, rfl, HT.out.1.below (below_alloc (Below.refl _ _) _), HT.out.2.below (below_alloc (Below.refl _ _) _)⟩).mono ?_); rintro e w6 ⟨rfl, hB⟩; have k8 := blk_any hB (blk_alloc HK8.out _); have HB6 := Aside0.mk (below_step (below_alloc (below_step (below_alloc HB2.out _) HB5.out) _) hB); clear r0 r1 r2 r3 r4 r5 r6 r7 r8 r9 r10 r11 r12 r13 r14 r15 hB; obtain ⟨r0, r1, r2, r3, r4, r5, r6, r7, r8, r9, r10, r11, r12, r13, r14, r15⟩ := cells16 k8; have HK8' := Aside0.mk k8; clear k8))
  go_ret
  exact ⟨by first | rfl | simp, HB6.out⟩
set_option maxHeartbeats 8000000 in
set_option maxRecDepth 100000 in
theorem more_quit (A0 : Option Addr) (c0 : Nat) (l0 : List Int) (A1 : Option Addr) (d1 : Nat) (l1 : List Int) (cut : Int) (w : World) (hr0 : Kd.C (Kd.int .u8) w A0 l0.length l0) (hc0 : l0.length ≤ c0) (hr1 : Kd.C (Kd.int .u8) w A1 l1.length l1) (hc1 : l1.length ≤ d1) (hb0 : ∀ x ∈ l0, 0 ≤ x ∧ x ≤ 255) (hb1 : ∀ x ∈ l1, 0 ≤ x ∧ x ≤ 255) (h0 : l0.length ≤ 5000) (h1 : l1.length ≤ 1000) (s t : St) (hs : parseS l0 = s) (ht : parseS (l0 ++ l1) = t) (he : s.e ≠ 3) (h9 : s.e = 9)
    (HSt : Aside0 (∀ W v1 v2, StepAt W v1 s → StepAt W v2 t → Calls Try.prog 10 #[v1, v2] W fun e w' => e = .returned (.bool true) ∧ Below W.heap.size W w')) :
    Calls Try.prog 5 #[.slice A0 l0.length c0, .slice A1 l1.length d1, .int .i64 cut] w fun e w' => e = .returned (.bool true) ∧ Below w.heap.size w w' := by
  have hu34 := Try.underlying34
  have hu31 := Try.underlying31
  have hu29 := Try.underlying29
  have hu22 := Try.underlying22
  have t1 : decide (5000 < l0.length) = false := decide_eq_false (by omega)
  have t2 : decide ((l0.length : Int) > 5000) = false := decide_eq_false (by omega)
  have t3 : decide (1000 < l1.length) = false := decide_eq_false (by omega)
  have t4 : decide ((l1.length : Int) > 1000) = false := decide_eq_false (by omega)
  have HR0 := Aside0.mk hr0
  have HR1 := Aside0.mk hr1
  have HPa : Aside0 (∀ W, Below w.heap.size w W → Calls Try.prog 11 #[.slice A0 l0.length c0] W fun e w' => ReqPost W s e w') := ⟨fun W hB => by rw [← hs]; exact parse_w A0 c0 l0 W (Kd.C_below hr0 hB) hc0 hb0 (by omega)⟩
  obtain ⟨ll, hll⟩ : ∃ ll, l0 ++ l1 = ll := ⟨_, rfl⟩
  have HLL : Aside0 ([] ++ l0 ++ l1 = ll) := ⟨by rw [List.nil_append]; exact hll⟩
  have hlb : ∀ x ∈ ll, 0 ≤ x ∧ x ≤ 255 := by rw [← hll]; intro x hx; exact (List.mem_append.1 hx).elim (hb0 x) (hb1 x)
  have hln : ll.length ≤ 1000000 := by rw [← hll, List.length_append]; omega
  rw [hll] at ht
  have HPb : Aside0 (∀ (W : World) (B : Option Addr) (cB : Nat), Kd.C (Kd.int .u8) W B ll.length ll → ll.length ≤ cB → Calls Try.prog 11 #[.slice B ll.length cB] W fun e w' => ReqPost W t e w') := ⟨fun W B cB hC hle => by rw [← ht]; exact parse_w B cB ll W hC hle hlb hln⟩
  have HLen := Aside0.mk (And.intro h0 h1)
  have q1 : (s.e != 3) = true := bne_iff_ne.mpr he
  have q2 : (s.e == 3) = false := beq_eq_false_iff_ne.mpr he
  have q3 : (s.e == 9) = true := beq_iff_eq.mpr h9
  clear he h9
  clear hr0 hr1 hc0 hc1 hb0 hb1 hlb hln hs ht hll h0 h1
  generalize hn0 : l0.length = n0 at *
  generalize hn1 : l1.length = n1' at *
  have HN := Aside0.mk (And.intro hn0 hn1)
  clear hn0 hn1
  go_enter Try.func5, Try.ntmps5
  go_wp2_with (first | (go_at_call 9; refine (awake_w _).mono ?_; rintro e w1 ⟨rfl, hB⟩; have HB1 := Aside0.mk hB; clear hB) | (go_at_call 11; (with_reducible refine (HPa.out _ HB1.out).mono ?_); rintro e w2 ⟨v, rfl, ⟨cv, kv, rfl, hc, hk⟩, hB⟩; obtain ⟨a1, n1, c1, rfl⟩ := hc.slice; obtain ⟨ka1, kn1, kc1, rfl⟩ := hk.slice; have HS := Aside0.mk (And.intro hc hk); have HB2 := Aside0.mk (below_step HB1.out hB); clear hc hk hB HPa; unfold stepV) | ((with_reducible refine gate_builtin (b := .append) (xs := #[.const (.slice none 0 0), .tmp 24]) rfl ?_); at_builtin; refine Kd.R_append_rows (Kd.int .u8) (w0 := _) _ rfl (.const (.slice none 0 0)) (.tmp 24) 22 5 (.int .u8 0) 1 rfl Try.underlying22 infoB rfl (by decide) (by omega) (.slice none 0 0) ([] : List Int) l0 _ _ _ (fun _ => True) (fun _ => False) rfl rfl (Kd.R_nil _ _ _ _ _) (Kd.C_below (Kd.C_below HR0.out HB2.out) (below_alloc (Below.refl _ _) _)) (fun _ _ h => h) (fun _ h => h.elim) (fun _ _ => trivial) (Below.refl _ _) (Nat.le_refl _) (by have := HLen.out; have := HN.out; simp only [List.length_nil, List.nil_append]; omega) ?_; intro v3 w3 hR hB _ _; have HO3 := Aside0.mk (And.intro hR hB); clear hR hB) | ((with_reducible refine gate_builtin (b := .append) (xs := #[.tmp 25, .tmp 26]) rfl ?_); at_builtin; refine Kd.R_append_rows (Kd.int .u8) (w0 := _) _ rfl (.tmp 25) (.tmp 26) 22 5 (.int .u8 0) 1 rfl Try.underlying22 infoB rfl (by decide) (by omega) v3 ([] ++ l0) l1 _ _ _ (fun _ => True) (fun _ => False) rfl rfl HO3.out.1 (Kd.C_below (Kd.C_below (Kd.C_below HR1.out HB2.out) (below_alloc (Below.refl _ _) _)) HO3.out.2) (fun _ _ h => h) (fun _ h => h.elim) (fun _ _ => trivial) HO3.out.2 HO3.out.2.size (by have := HLen.out; have := HN.out; simp only [List.length_nil, List.nil_append]; omega) ?_; intro v4 w4 hR hB _ _; rw [HLL.out] at hR; obtain ⟨B, cB, hv, hle, hC⟩ := Kd.R_reads hR; subst hv; have HO4 := Aside0.mk (And.intro hC (And.intro hle hB)); clear hR hB hle hC) | (go_at_call 11; (with_reducible refine (HPb.out _ _ _ HO4.out.1 HO4.out.2.1).mono ?_); rintro e w5 ⟨v, rfl, ⟨cv, kv, rfl, hc, hk⟩, hB⟩; obtain ⟨a2, n2, c2, rfl⟩ := hc.slice; obtain ⟨ka2, kn2, kc2, rfl⟩ := hk.slice; have HT := Aside0.mk (And.intro hc hk); have HB5 := Aside0.mk (below_step HO4.out.2.2 hB); have k8 := blk_any HB5.out (blk_new w2 _); have HK8 := Aside0.mk k8; clear hc hk hB HPb; obtain ⟨r0, r1, r2, r3, r4, r5, r6, r7, r8, r9, r10, r11, r12, r13, r14, r15⟩ := cells16_1 k8; clear k8; unfold stepV) | (go_at_call 10; (refine (HSt.out _ _ _ ⟨_, _, rfl, ((HS.out.1.below (below_alloc (Below.refl _ _) _)).below HB5.out).below (below_alloc (Below.refl _ _) _), ((HS.out.2.below (below_alloc (Below.refl _ _) _)).below HB5.out).below (below_alloc (Below.refl _ _) _)⟩ ⟨_, _, rfl, HT.out.1.below (below_alloc (Below.refl _ _) _), HT.out.2.below (below_alloc (Below.refl _ _) _)⟩).mono ?_); rintro e w6 ⟨rfl, hB⟩; have k8 := blk_any hB (blk_alloc HK8.out _); have HB6 := Aside0.mk (below_step (below_alloc (below_step (below_alloc HB2.out _) HB5.out) _) hB); clear r0 r1 r2 r3 r4 r5 r6 r7 r8 r9 r10 r11 r12 r13 r14 r15 hB; obtain ⟨r0, r1, r2, r3, r4, r5, r6, r7, r8, r9, r10, r11, r12, r13, r14, r15⟩ := cells16 k8; have HK8' := Aside0.mk k8; clear k8))
  go_ret
  exact ⟨by first | rfl | simp, HB6.out⟩
set_option maxHeartbeats 8000000 in
set_option maxRecDepth 100000 in
theorem more_neg (A0 : Option Addr) (c0 : Nat) (l0 : List Int) (A1 : Option Addr) (d1 : Nat) (l1 : List Int) (cut : Int) (w : World) (hr0 : Kd.C (Kd.int .u8) w A0 l0.length l0) (hc0 : l0.length ≤ c0) (hr1 : Kd.C (Kd.int .u8) w A1 l1.length l1) (hc1 : l1.length ≤ d1) (hb0 : ∀ x ∈ l0, 0 ≤ x ∧ x ≤ 255) (hb1 : ∀ x ∈ l1, 0 ≤ x ∧ x ≤ 255) (h0 : l0.length ≤ 5000) (h1 : l1.length ≤ 1000) (s t : St) (hs : parseS l0 = s) (ht : parseS (l0 ++ l1) = t) (he : s.e ≠ 3) (h9 : s.e ≠ 9) (hcut : cut < 0)
    (HSt : Aside0 (∀ W v1 v2, StepAt W v1 s → StepAt W v2 t → Calls Try.prog 10 #[v1, v2] W fun e w' => e = .returned (.bool true) ∧ Below W.heap.size W w')) :
    Calls Try.prog 5 #[.slice A0 l0.length c0, .slice A1 l1.length d1, .int .i64 cut] w fun e w' => e = .returned (.bool true) ∧ Below w.heap.size w w' := by
  have hu34 := Try.underlying34
  have hu31 := Try.underlying31
  have hu29 := Try.underlying29
  have hu22 := Try.underlying22
  have t1 : decide (5000 < l0.length) = false := decide_eq_false (by omega)
  have t2 : decide ((l0.length : Int) > 5000) = false := decide_eq_false (by omega)
  have t3 : decide (1000 < l1.length) = false := decide_eq_false (by omega)
  have t4 : decide ((l1.length : Int) > 1000) = false := decide_eq_false (by omega)
  have HR0 := Aside0.mk hr0
  have HR1 := Aside0.mk hr1
  have HPa : Aside0 (∀ W, Below w.heap.size w W → Calls Try.prog 11 #[.slice A0 l0.length c0] W fun e w' => ReqPost W s e w') := ⟨fun W hB => by rw [← hs]; exact parse_w A0 c0 l0 W (Kd.C_below hr0 hB) hc0 hb0 (by omega)⟩
  obtain ⟨ll, hll⟩ : ∃ ll, l0 ++ l1 = ll := ⟨_, rfl⟩
  have HLL : Aside0 ([] ++ l0 ++ l1 = ll) := ⟨by rw [List.nil_append]; exact hll⟩
  have hlb : ∀ x ∈ ll, 0 ≤ x ∧ x ≤ 255 := by rw [← hll]; intro x hx; exact (List.mem_append.1 hx).elim (hb0 x) (hb1 x)
  have hln : ll.length ≤ 1000000 := by rw [← hll, List.length_append]; omega
  rw [hll] at ht
  have HPb : Aside0 (∀ (W : World) (B : Option Addr) (cB : Nat), Kd.C (Kd.int .u8) W B ll.length ll → ll.length ≤ cB → Calls Try.prog 11 #[.slice B ll.length cB] W fun e w' => ReqPost W t e w') := ⟨fun W B cB hC hle => by rw [← ht]; exact parse_w B cB ll W hC hle hlb hln⟩
  have HLen := Aside0.mk (And.intro h0 h1)
  have q1 : (s.e != 3) = true := bne_iff_ne.mpr he
  have q2 : (s.e == 3) = false := beq_eq_false_iff_ne.mpr he
  have q3 : (s.e == 9) = false := beq_eq_false_iff_ne.mpr h9
  have q4 : decide (cut < 0) = true := decide_eq_true hcut
  clear he h9 hcut
  clear hr0 hr1 hc0 hc1 hb0 hb1 hlb hln hs ht hll h0 h1
  generalize hn0 : l0.length = n0 at *
  generalize hn1 : l1.length = n1' at *
  have HN := Aside0.mk (And.intro hn0 hn1)
  clear hn0 hn1
  go_enter Try.func5, Try.ntmps5
  go_wp2_with (first | (go_at_call 9; refine (awake_w _).mono ?_; rintro e w1 ⟨rfl, hB⟩; have HB1 := Aside0.mk hB; clear hB) | (go_at_call 11; (with_reducible refine (HPa.out _ HB1.out).mono ?_); rintro e w2 ⟨v, rfl, ⟨cv, kv, rfl, hc, hk⟩, hB⟩; obtain ⟨a1, n1, c1, rfl⟩ := hc.slice; obtain ⟨ka1, kn1, kc1, rfl⟩ := hk.slice; have HS := Aside0.mk (And.intro hc hk); have HB2 := Aside0.mk (below_step HB1.out hB); clear hc hk hB HPa; unfold stepV) | ((with_reducible refine gate_builtin (b := .append) (xs := #[.const (.slice none 0 0), .tmp 24]) rfl ?_); at_builtin; refine Kd.R_append_rows (Kd.int .u8) (w0 := _) _ rfl (.const (.slice none 0 0)) (.tmp 24) 22 5 (.int .u8 0) 1 rfl Try.underlying22 infoB rfl (by decide) (by omega) (.slice none 0 0) ([] : List Int) l0 _ _ _ (fun _ => True) (fun _ => False) rfl rfl (Kd.R_nil _ _ _ _ _) (Kd.C_below (Kd.C_below HR0.out HB2.out) (below_alloc (Below.refl _ _) _)) (fun _ _ h => h) (fun _ h => h.elim) (fun _ _ => trivial) (Below.refl _ _) (Nat.le_refl _) (by have := HLen.out; have := HN.out; simp only [List.length_nil, List.nil_append]; omega) ?_; intro v3 w3 hR hB _ _; have HO3 := Aside0.mk (And.intro hR hB); clear hR hB) | ((with_reducible refine gate_builtin (b := .append) (xs := #[.tmp 25, .tmp 26]) rfl ?_); at_builtin; refine Kd.R_append_rows (Kd.int .u8) (w0 := _) _ rfl (.tmp 25) (.tmp 26) 22 5 (.int .u8 0) 1 rfl Try.underlying22 infoB rfl (by decide) (by omega) v3 ([] ++ l0) l1 _ _ _ (fun _ => True) (fun _ => False) rfl rfl HO3.out.1 (Kd.C_below (Kd.C_below (Kd.C_below HR1.out HB2.out) (below_alloc (Below.refl _ _) _)) HO3.out.2) (fun _ _ h => h) (fun _ h => h.elim) (fun _ _ => trivial) HO3.out.2 HO3.out.2.size (by have := HLen.out; have := HN.out; simp only [List.length_nil, List.nil_append]; omega) ?_; intro v4 w4 hR hB _ _; rw [HLL.out] at hR; obtain ⟨B, cB, hv, hle, hC⟩ := Kd.R_reads hR; subst hv; have HO4 := Aside0.mk (And.intro hC (And.intro hle hB)); clear hR hB hle hC) | (go_at_call 11; (with_reducible refine (HPb.out _ _ _ HO4.out.1 HO4.out.2.1).mono ?_); rintro e w5 ⟨v, rfl, ⟨cv, kv, rfl, hc, hk⟩, hB⟩; obtain ⟨a2, n2, c2, rfl⟩ := hc.slice; obtain ⟨ka2, kn2, kc2, rfl⟩ := hk.slice; have HT := Aside0.mk (And.intro hc hk); have HB5 := Aside0.mk (below_step HO4.out.2.2 hB); have k8 := blk_any HB5.out (blk_new w2 _); have HK8 := Aside0.mk k8; clear hc hk hB HPb; obtain ⟨r0, r1, r2, r3, r4, r5, r6, r7, r8, r9, r10, r11, r12, r13, r14, r15⟩ := cells16_1 k8; clear k8; unfold stepV) | (go_at_call 10; (refine (HSt.out _ _ _ ⟨_, _, rfl, ((HS.out.1.below (below_alloc (Below.refl _ _) _)).below HB5.out).below (below_alloc (Below.refl _ _) _), ((HS.out.2.below (below_alloc (Below.refl _ _) _)).below HB5.out).below (below_alloc (Below.refl _ _) _)⟩ ⟨_, _, rfl, HT.out.1.below (below_alloc (Below.refl _ _) _), HT.out.2.below (below_alloc (Below.refl _ _) _)⟩).mono ?_); rintro e w6 ⟨rfl, hB⟩; have k8 := blk_any hB (blk_alloc HK8.out _); have HB6 := Aside0.mk (below_step (below_alloc (below_step (below_alloc HB2.out _) HB5.out) _) hB); clear r0 r1 r2 r3 r4 r5 r6 r7 r8 r9 r10 r11 r12 r13 r14 r15 hB; obtain ⟨r0, r1, r2, r3, r4, r5, r6, r7, r8, r9, r10, r11, r12, r13, r14, r15⟩ := cells16 k8; have HK8' := Aside0.mk k8; clear k8))
  go_ret
  exact ⟨by first | rfl | simp, HB6.out⟩
set_option maxHeartbeats 8000000 in
set_option maxRecDepth 100000 in
theorem more_all (A0 : Option Addr) (c0 : Nat) (l0 : List Int) (A1 : Option Addr) (d1 : Nat) (l1 : List Int) (cut : Int) (w : World) (hr0 : Kd.C (Kd.int .u8) w A0 l0.length l0) (hc0 : l0.length ≤ c0) (hr1 : Kd.C (Kd.int .u8) w A1 l1.length l1) (hc1 : l1.length ≤ d1) (hb0 : ∀ x ∈ l0, 0 ≤ x ∧ x ≤ 255) (hb1 : ∀ x ∈ l1, 0 ≤ x ∧ x ≤ 255) (h0 : l0.length ≤ 5000) (h1 : l1.length ≤ 1000) (s t : St) (hs : parseS l0 = s) (ht : parseS (l0 ++ l1) = t) (he : s.e ≠ 3) (h9 : s.e ≠ 9) (hcut : 0 ≤ cut) (hu : s.used ≤ cut)
    (HSt : Aside0 (∀ W v1 v2, StepAt W v1 s → StepAt W v2 t → Calls Try.prog 10 #[v1, v2] W fun e w' => e = .returned (.bool true) ∧ Below W.heap.size W w')) :
    Calls Try.prog 5 #[.slice A0 l0.length c0, .slice A1 l1.length d1, .int .i64 cut] w fun e w' => e = .returned (.bool true) ∧ Below w.heap.size w w' := by
  have hu34 := Try.underlying34
  have hu31 := Try.underlying31
  have hu29 := Try.underlying29
  have hu22 := Try.underlying22
  have t1 : decide (5000 < l0.length) = false := decide_eq_false (by omega)
  have t2 : decide ((l0.length : Int) > 5000) = false := decide_eq_false (by omega)
  have t3 : decide (1000 < l1.length) = false := decide_eq_false (by omega)
  have t4 : decide ((l1.length : Int) > 1000) = false := decide_eq_false (by omega)
  have HR0 := Aside0.mk hr0
  have HR1 := Aside0.mk hr1
  have HPa : Aside0 (∀ W, Below w.heap.size w W → Calls Try.prog 11 #[.slice A0 l0.length c0] W fun e w' => ReqPost W s e w') := ⟨fun W hB => by rw [← hs]; exact parse_w A0 c0 l0 W (Kd.C_below hr0 hB) hc0 hb0 (by omega)⟩
  obtain ⟨ll, hll⟩ : ∃ ll, l0 ++ l1 = ll := ⟨_, rfl⟩
  have HLL : Aside0 ([] ++ l0 ++ l1 = ll) := ⟨by rw [List.nil_append]; exact hll⟩
  have hlb : ∀ x ∈ ll, 0 ≤ x ∧ x ≤ 255 := by rw [← hll]; intro x hx; exact (List.mem_append.1 hx).elim (hb0 x) (hb1 x)
  have hln : ll.length ≤ 1000000 := by rw [← hll, List.length_append]; omega
  rw [hll] at ht
  have HPb : Aside0 (∀ (W : World) (B : Option Addr) (cB : Nat), Kd.C (Kd.int .u8) W B ll.length ll → ll.length ≤ cB → Calls Try.prog 11 #[.slice B ll.length cB] W fun e w' => ReqPost W t e w') := ⟨fun W B cB hC hle => by rw [← ht]; exact parse_w B cB ll W hC hle hlb hln⟩
  have HLen := Aside0.mk (And.intro h0 h1)
  have q1 : (s.e != 3) = true := bne_iff_ne.mpr he
  have q2 : (s.e == 3) = false := beq_eq_false_iff_ne.mpr he
  have q3 : (s.e == 9) = false := beq_eq_false_iff_ne.mpr h9
  have q4 : decide (cut < 0) = false := decide_eq_false (by omega)
  have q5 : decide (cut ≥ s.used) = true := decide_eq_true hu
  have q6 : decide (s.used ≤ cut) = true := decide_eq_true hu
  clear he h9 hcut hu
  clear hr0 hr1 hc0 hc1 hb0 hb1 hlb hln hs ht hll h0 h1
  generalize hn0 : l0.length = n0 at *
  generalize hn1 : l1.length = n1' at *
  have HN := Aside0.mk (And.intro hn0 hn1)
  clear hn0 hn1
  go_enter Try.func5, Try.ntmps5
  go_wp2_with (first | (go_at_call 9; refine (awake_w _).mono ?_; rintro e w1 ⟨rfl, hB⟩; have HB1 := Aside0.mk hB; clear hB) | (go_at_call 11; (with_reducible refine (HPa.out _ HB1.out).mono ?_); rintro e w2 ⟨v, rfl, ⟨cv, kv, rfl, hc, hk⟩, hB⟩; obtain ⟨a1, n1, c1, rfl⟩ := hc.slice; obtain ⟨ka1, kn1, kc1, rfl⟩ := hk.slice; have HS := Aside0.mk (And.intro hc hk); have HB2 := Aside0.mk (below_step HB1.out hB); clear hc hk hB HPa; unfold stepV) | ((with_reducible refine gate_builtin (b := .append) (xs := #[.const (.slice none 0 0), .tmp 24]) rfl ?_); at_builtin; refine Kd.R_append_rows (Kd.int .u8) (w0 := _) _ rfl (.const (.slice none 0 0)) (.tmp 24) 22 5 (.int .u8 0) 1 rfl Try.underlying22 infoB rfl (by decide) (by omega) (.slice none 0 0) ([] : List Int) l0 _ _ _ (fun _ => True) (fun _ => False) rfl rfl (Kd.R_nil _ _ _ _ _) (Kd.C_below (Kd.C_below HR0.out HB2.out) (below_alloc (Below.refl _ _) _)) (fun _ _ h => h) (fun _ h => h.elim) (fun _ _ => trivial) (Below.refl _ _) (Nat.le_refl _) (by have := HLen.out; have := HN.out; simp only [List.length_nil, List.nil_append]; omega) ?_; intro v3 w3 hR hB _ _; have HO3 := Aside0.mk (And.intro hR hB); clear hR hB) | ((with_reducible refine gate_builtin (b := .append) (xs := #[.tmp 25, .tmp 26]) rfl ?_); at_builtin; refine Kd.R_append_rows (Kd.int .u8) (w0 := _) _ rfl (.tmp 25) (.tmp 26) 22 5 (.int .u8 0) 1 rfl Try.underlying22 infoB rfl (by decide) (by omega) v3 ([] ++ l0) l1 _ _ _ (fun _ => True) (fun _ => False) rfl rfl HO3.out.1 (Kd.C_below (Kd.C_below (Kd.C_below HR1.out HB2.out) (below_alloc (Below.refl _ _) _)) HO3.out.2) (fun _ _ h => h) (fun _ h => h.elim) (fun _ _ => trivial) HO3.out.2 HO3.out.2.size (by have := HLen.out; have := HN.out; simp only [List.length_nil, List.nil_append]; omega) ?_; intro v4 w4 hR hB _ _; rw [HLL.out] at hR; obtain ⟨B, cB, hv, hle, hC⟩ := Kd.R_reads hR; subst hv; have HO4 := Aside0.mk (And.intro hC (And.intro hle hB)); clear hR hB hle hC) | (go_at_call 11; (with_reducible refine (HPb.out _ _ _ HO4.out.1 HO4.out.2.1).mono ?_); rintro e w5 ⟨v, rfl, ⟨cv, kv, rfl, hc, hk⟩, hB⟩; obtain ⟨a2, n2, c2, rfl⟩ := hc.slice; obtain ⟨ka2, kn2, kc2, rfl⟩ := hk.slice; have HT := Aside0.mk (And.intro hc hk); have HB5 := Aside0.mk (below_step HO4.out.2.2 hB); have k8 := blk_any HB5.out (blk_new w2 _); have HK8 := Aside0.mk k8; clear hc hk hB HPb; obtain ⟨r0, r1, r2, r3, r4, r5, r6, r7, r8, r9, r10, r11, r12, r13, r14, r15⟩ := cells16_1 k8; clear k8; unfold stepV) | (go_at_call 10; (refine (HSt.out _ _ _ ⟨_, _, rfl, ((HS.out.1.below (below_alloc (Below.refl _ _) _)).below HB5.out).below (below_alloc (Below.refl _ _) _), ((HS.out.2.below (below_alloc (Below.refl _ _) _)).below HB5.out).below (below_alloc (Below.refl _ _) _)⟩ ⟨_, _, rfl, HT.out.1.below (below_alloc (Below.refl _ _) _), HT.out.2.below (below_alloc (Below.refl _ _) _)⟩).mono ?_); rintro e w6 ⟨rfl, hB⟩; have k8 := blk_any hB (blk_alloc HK8.out _); have HB6 := Aside0.mk (below_step (below_alloc (below_step (below_alloc HB2.out _) HB5.out) _) hB); clear r0 r1 r2 r3 r4 r5 r6 r7 r8 r9 r10 r11 r12 r13 r14 r15 hB; obtain ⟨r0, r1, r2, r3, r4, r5, r6, r7, r8, r9, r10, r11, r12, r13, r14, r15⟩ := cells16 k8; have HK8' := Aside0.mk k8; clear k8))
  go_ret
  exact ⟨by first | rfl | simp, HB6.out⟩
set_option maxHeartbeats 8000000 in
set_option maxRecDepth 100000 in
theorem more_cut (A0 : Option Addr) (c0 : Nat) (l0 : List Int) (A1 : Option Addr) (d1 : Nat) (l1 : List Int) (q : Nat) (w : World) (hr0 : Kd.C (Kd.int .u8) w A0 l0.length l0) (hc0 : l0.length ≤ c0) (hr1 : Kd.C (Kd.int .u8) w A1 l1.length l1) (hc1 : l1.length ≤ d1) (hb0 : ∀ x ∈ l0, 0 ≤ x ∧ x ≤ 255) (hb1 : ∀ x ∈ l1, 0 ≤ x ∧ x ≤ 255) (h0 : l0.length ≤ 5000) (h1 : l1.length ≤ 1000) (s t u : St) (hs : parseS l0 = s) (ht : parseS (l0 ++ l1) = t) (hu : parseS (l0.take q) = u) (he : s.e ≠ 3) (h9 : s.e ≠ 9) (hq : (q : Int) < s.used) (hql : q ≤ l0.length) (he3 : u.e = 3)
    (HSt : Aside0 (∀ W v1 v2, StepAt W v1 s → StepAt W v2 t → Calls Try.prog 10 #[v1, v2] W fun e w' => e = .returned (.bool true) ∧ Below W.heap.size W w')) :
    Calls Try.prog 5 #[.slice A0 l0.length c0, .slice A1 l1.length d1, .int .i64 (q : Int)] w fun e w' => e = .returned (.bool true) ∧ Below w.heap.size w w' := by
  have hu34 := Try.underlying34
  have hu31 := Try.underlying31
  have hu29 := Try.underlying29
  have hu22 := Try.underlying22
  have t1 : decide (5000 < l0.length) = false := decide_eq_false (by omega)
  have t2 : decide ((l0.length : Int) > 5000) = false := decide_eq_false (by omega)
  have t3 : decide (1000 < l1.length) = false := decide_eq_false (by omega)
  have t4 : decide ((l1.length : Int) > 1000) = false := decide_eq_false (by omega)
  have HR0 := Aside0.mk hr0
  have HR1 := Aside0.mk hr1
  have HPa : Aside0 (∀ W, Below w.heap.size w W → Calls Try.prog 11 #[.slice A0 l0.length c0] W fun e w' => ReqPost W s e w') := ⟨fun W hB => by rw [← hs]; exact parse_w A0 c0 l0 W (Kd.C_below hr0 hB) hc0 hb0 (by omega)⟩
  obtain ⟨ll, hll⟩ : ∃ ll, l0 ++ l1 = ll := ⟨_, rfl⟩
  have HLL : Aside0 ([] ++ l0 ++ l1 = ll) := ⟨by rw [List.nil_append]; exact hll⟩
  have hlb : ∀ x ∈ ll, 0 ≤ x ∧ x ≤ 255 := by rw [← hll]; intro x hx; exact (List.mem_append.1 hx).elim (hb0 x) (hb1 x)
  have hln : ll.length ≤ 1000000 := by rw [← hll, List.length_append]; omega
  rw [hll] at ht
  have HPb : Aside0 (∀ (W : World) (B : Option Addr) (cB : Nat), Kd.C (Kd.int .u8) W B ll.length ll → ll.length ≤ cB → Calls Try.prog 11 #[.slice B ll.length cB] W fun e w' => ReqPost W t e w') := ⟨fun W B cB hC hle => by rw [← ht]; exact parse_w B cB ll W hC hle hlb hln⟩
  have HLen := Aside0.mk (And.intro h0 h1)
  have q1 : (s.e != 3) = true := bne_iff_ne.mpr he
  have q2 : (s.e == 3) = false := beq_eq_false_iff_ne.mpr he
  have q3 : (s.e == 9) = false := beq_eq_false_iff_ne.mpr h9
  have q4 : decide ((q : Int) < 0) = false := decide_eq_false (by omega)
  have q5 : decide ((q : Int) ≥ s.used) = false := decide_eq_false (by omega)
  have q6 : decide (s.used ≤ (q : Int)) = false := decide_eq_false (by omega)
  have q7 : (u.e == 3) = true := beq_iff_eq.mpr he3
  obtain ⟨hsl, hCl⟩ := takeC A0 c0 l0 q hql hc0
  rw [show cut l0 0 q = l0.take q by simp [cut]] at hCl
  have hlq : (l0.take q).length = q := by rw [List.length_take]; omega
  have HPc : Aside0 (∀ W, Below w.heap.size w W → Calls Try.prog 11 #[.slice A0 q c0] W fun e w' => ReqPost W u e w') := ⟨fun W hB => by
    have h := parse_w A0 c0 (l0.take q) W (by rw [hlq]; exact Kd.C_below (hCl w hr0) hB) (by omega) (fun x hx => hb0 x (List.mem_of_mem_take hx)) (by omega)
    rw [hlq, hu] at h
    exact h⟩
  clear he h9 hq he3 hu hCl hlq
  clear hql hr0 hr1 hc0 hc1 hb0 hb1 hlb hln hs ht hll h0 h1
  generalize hn0 : l0.length = n0 at *
  generalize hn1 : l1.length = n1' at *
  have HN := Aside0.mk (And.intro hn0 hn1)
  clear hn0 hn1
  go_enter Try.func5, Try.ntmps5
  go_wp2_with (first | (go_at_call 9; refine (awake_w _).mono ?_; rintro e w1 ⟨rfl, hB⟩; have HB1 := Aside0.mk hB; clear hB) | (go_at_call 11; (with_reducible refine (HPa.out _ HB1.out).mono ?_); rintro e w2 ⟨v, rfl, ⟨cv, kv, rfl, hc, hk⟩, hB⟩; obtain ⟨a1, n1, c1, rfl⟩ := hc.slice; obtain ⟨ka1, kn1, kc1, rfl⟩ := hk.slice; have HS := Aside0.mk (And.intro hc hk); have HB2 := Aside0.mk (below_step HB1.out hB); clear hc hk hB HPa; unfold stepV) | ((with_reducible refine gate_builtin (b := .append) (xs := #[.const (.slice none 0 0), .tmp 24]) rfl ?_); at_builtin; refine Kd.R_append_rows (Kd.int .u8) (w0 := _) _ rfl (.const (.slice none 0 0)) (.tmp 24) 22 5 (.int .u8 0) 1 rfl Try.underlying22 infoB rfl (by decide) (by omega) (.slice none 0 0) ([] : List Int) l0 _ _ _ (fun _ => True) (fun _ => False) rfl rfl (Kd.R_nil _ _ _ _ _) (Kd.C_below (Kd.C_below HR0.out HB2.out) (below_alloc (Below.refl _ _) _)) (fun _ _ h => h) (fun _ h => h.elim) (fun _ _ => trivial) (Below.refl _ _) (Nat.le_refl _) (by have := HLen.out; have := HN.out; simp only [List.length_nil, List.nil_append]; omega) ?_; intro v3 w3 hR hB _ _; have HO3 := Aside0.mk (And.intro hR hB); clear hR hB) | ((with_reducible refine gate_builtin (b := .append) (xs := #[.tmp 25, .tmp 26]) rfl ?_); at_builtin; refine Kd.R_append_rows (Kd.int .u8) (w0 := _) _ rfl (.tmp 25) (.tmp 26) 22 5 (.int .u8 0) 1 rfl Try.underlying22 infoB rfl (by decide) (by omega) v3 ([] ++ l0) l1 _ _ _ (fun _ => True) (fun _ => False) rfl rfl HO3.out.1 (Kd.C_below (Kd.C_below (Kd.C_below HR1.out HB2.out) (below_alloc (Below.refl _ _) _)) HO3.out.2) (fun _ _ h => h) (fun _ h => h.elim) (fun _ _ => trivial) HO3.out.2 HO3.out.2.size (by have := HLen.out; have := HN.out; simp only [List.length_nil, List.nil_append]; omega) ?_; intro v4 w4 hR hB _ _; rw [HLL.out] at hR; obtain ⟨B, cB, hv, hle, hC⟩ := Kd.R_reads hR; subst hv; have HO4 := Aside0.mk (And.intro hC (And.intro hle hB)); clear hR hB hle hC) | (go_at_call 11; (with_reducible refine (HPb.out _ _ _ HO4.out.1 HO4.out.2.1).mono ?_); rintro e w5 ⟨v, rfl, ⟨cv, kv, rfl, hc, hk⟩, hB⟩; obtain ⟨a2, n2, c2, rfl⟩ := hc.slice; obtain ⟨ka2, kn2, kc2, rfl⟩ := hk.slice; have HT := Aside0.mk (And.intro hc hk); have HB5 := Aside0.mk (below_step HO4.out.2.2 hB); have k8 := blk_any HB5.out (blk_new w2 _); have HK8 := Aside0.mk k8; clear hc hk hB HPb; obtain ⟨r0, r1, r2, r3, r4, r5, r6, r7, r8, r9, r10, r11, r12, r13, r14, r15⟩ := cells16_1 k8; clear k8; unfold stepV) | (go_at_call 10; (refine (HSt.out _ _ _ ⟨_, _, rfl, ((HS.out.1.below (below_alloc (Below.refl _ _) _)).below HB5.out).below (below_alloc (Below.refl _ _) _), ((HS.out.2.below (below_alloc (Below.refl _ _) _)).below HB5.out).below (below_alloc (Below.refl _ _) _)⟩ ⟨_, _, rfl, HT.out.1.below (below_alloc (Below.refl _ _) _), HT.out.2.below (below_alloc (Below.refl _ _) _)⟩).mono ?_); rintro e w6 ⟨rfl, hB⟩; have k8 := blk_any hB (blk_alloc HK8.out _); have HB6 := Aside0.mk (below_step (below_alloc (below_step (below_alloc HB2.out _) HB5.out) _) hB); clear r0 r1 r2 r3 r4 r5 r6 r7 r8 r9 r10 r11 r12 r13 r14 r15 hB; obtain ⟨r0, r1, r2, r3, r4, r5, r6, r7, r8, r9, r10, r11, r12, r13, r14, r15⟩ := cells16 k8; have HK8' := Aside0.mk k8; clear k8) | (go_at_call 11; (with_reducible refine (HPc.out _ HB6.out).mono ?_); rintro e w7 ⟨v, rfl, ⟨cv, kv, rfl, hc, hk⟩, hB⟩; obtain ⟨a3, n3, c3, rfl⟩ := hc.slice; obtain ⟨ka3, kn3, kc3, rfl⟩ := hk.slice; have HB7 := Aside0.mk (below_step HB6.out hB); clear hc hk hB; unfold stepV))
  go_ret
  exact ⟨by first | rfl | simp, by repeat (with_reducible first | exact HB7.out | apply below_alloc | apply below_drew | apply pw_below_drewN)⟩
theorem stepAt_more {W : World} {v : Value} {s : St} (h : StepAt W v s) (hs : s = badS ⟨#[]⟩ 0 3) : v = badV ⟨#[]⟩ 0 3 := by
  subst hs
  obtain ⟨cv, kv, rfl, hc, hk⟩ := h
  obtain rfl := (show cv = .slice none 0 0 from hc)
  obtain rfl := (show kv = .slice none 0 0 from hk)
  rfl
theorem stepAt_bad {W : World} {v : Value} {s : St} {reply : ByteArray} {used e : Int} (h : StepAt W v s) (hs : s = badS reply used e) : v = badV reply used e := by
  subst hs
  obtain ⟨cv, kv, rfl, hc, hk⟩ := h
  obtain rfl := (show cv = .slice none 0 0 from hc)
  obtain rfl := (show kv = .slice none 0 0 from hk)
  rfl
theorem fault_ne (code st opq : Int) : (strOfNums (faultL code st opq)).toList ≠ [] := by
  rw [ByteArray.toList_eq]
  simp [strOfNums, faultL]
/-- More must come, and whatever comes of more bytes: Steps tells one or the other. -/
theorem steps_more (s t : St) (hs : s = badS ⟨#[]⟩ 0 3) (l : List Int) (ht : t = parseS l) : ∃ same : Bool, ∀ W v1 v2, StepAt W v1 s → StepAt W v2 t → Calls Try.prog 10 #[v1, v2] W fun e w' => e = .returned (.bool same) ∧ Below W.heap.size W w' := by
  rcases parse_cases l with h | h | h
  · refine ⟨true, fun W v1 v2 h1 h2 => ?_⟩
    have hst : s = t := by rw [hs, ht, h]
    subst hst
    exact steps_eq v1 v2 s W h1 h2
  · refine ⟨false, fun W v1 v2 h1 h2 => ?_⟩
    rw [stepAt_bad h1 hs, stepAt_bad h2 (ht.trans h)]
    exact steps_end W
  · rw [parse_whole h] at ht
    rcases reqS_cases (rd l 1) (be (cut l 12 16)) (be (cut l 16 24)) (rd l 4).toNat (be (cut l 2 4)).toNat (cut l 24 (24 + (be (cut l 8 12)).toNat)) with ⟨st, hr⟩ | ⟨m', q, key, hr⟩
    · refine ⟨false, fun W v1 v2 h1 h2 => ?_⟩
      rw [stepAt_bad h1 hs, stepAt_bad h2 (ht.trans hr)]
      exact steps_fault _ _ (fault_ne _ _ _) W
    · refine ⟨false, fun W v1 v2 h1 h2 => ?_⟩
      rw [stepAt_bad h1 hs]
      exact steps_full v2 m' t (by rw [ht, hr]) W h2
theorem more_w (A0 : Option Addr) (c0 : Nat) (l0 : List Int) (A1 : Option Addr) (d1 : Nat) (l1 : List Int) (cut : Int) (w : World) (hr0 : Kd.C (Kd.int .u8) w A0 l0.length l0) (hc0 : l0.length ≤ c0) (hr1 : Kd.C (Kd.int .u8) w A1 l1.length l1) (hc1 : l1.length ≤ d1) (hb0 : ∀ x ∈ l0, 0 ≤ x ∧ x ≤ 255) (hb1 : ∀ x ∈ l1, 0 ≤ x ∧ x ≤ 255) :
    Calls Try.prog 5 #[.slice A0 l0.length c0, .slice A1 l1.length d1, .int .i64 cut] w fun e w' => e = .returned (.bool true) ∧ Below w.heap.size w w' := by
  by_cases h0 : 5000 < l0.length
  · exact more_long0 A0 c0 l0 A1 d1 l1 cut w h0
  · by_cases h1 : 1000 < l1.length
    · exact more_long1 A0 c0 l0 A1 d1 l1 cut w h0 h1
    · by_cases he : (parseS l0).e = 3
      · have hs : parseS l0 = badS ⟨#[]⟩ 0 3 := by
          rcases parse_cases l0 with h | h | h
          · exact h
          · rw [h] at he; exact absurd he (by decide)
          · have := (whole_used hb0 h).2
            omega
        obtain ⟨same, hS⟩ := steps_more (parseS l0) (parseS (l0 ++ l1)) hs _ rfl
        exact more_wait A0 c0 l0 A1 d1 l1 cut w hr0 hc0 hr1 hc1 hb0 hb1 (by omega) (by omega) _ _ rfl rfl same he ⟨hS⟩
      · have ht := parse_app (m := l1) hb0 he
        have hS : ∀ W v1 v2, StepAt W v1 (parseS l0) → StepAt W v2 (parseS l0) → Calls Try.prog 10 #[v1, v2] W fun e w' => e = .returned (.bool true) ∧ Below W.heap.size W w' := fun W v1 v2 a b => steps_eq v1 v2 _ W a b
        by_cases h9 : (parseS l0).e = 9
        · exact more_quit A0 c0 l0 A1 d1 l1 cut w hr0 hc0 hr1 hc1 hb0 hb1 (by omega) (by omega) _ _ rfl ht he h9 ⟨hS⟩
        · by_cases hn : cut < 0
          · exact more_neg A0 c0 l0 A1 d1 l1 cut w hr0 hc0 hr1 hc1 hb0 hb1 (by omega) (by omega) _ _ rfl ht he h9 hn ⟨hS⟩
          · by_cases hu : (parseS l0).used ≤ cut
            · exact more_all A0 c0 l0 A1 d1 l1 cut w hr0 hc0 hr1 hc1 hb0 hb1 (by omega) (by omega) _ _ rfl ht he h9 (by omega) hu ⟨hS⟩
            · obtain ⟨q, rfl⟩ := Int.eq_ofNat_of_zero_le (show 0 ≤ cut by omega)
              have hw : Whole l0 := by
                rcases parse_cases l0 with h | h | h
                · rw [h] at he; exact absurd rfl he
                · rw [h] at h9; exact absurd rfl h9
                · exact h
              have hus := (whole_used hb0 hw).1
              have h3 := parse_take hb0 hw q (by omega)
              obtain ⟨_, _, _, hw4⟩ := hw
              exact more_cut A0 c0 l0 A1 d1 l1 q w hr0 hc0 hr1 hc1 hb0 hb1 (by omega) (by omega) _ _ _ rfl ht rfl he h9 (by omega) (by omega) h3 ⟨hS⟩
def butterylaw16_BininMore.Ok (l0 l1 : List Int) (a2 : Int) : Prop := (∀ x ∈ l0, 0 ≤ x ∧ x ≤ 255) ∧ (∀ x ∈ l1, 0 ≤ x ∧ x ≤ 255)
noncomputable def butterylaw16_BininMore.f (l0 l1 : List Int) (a2 : Int) : Option Bool := @ite _ (butterylaw16_BininMore.Ok l0 l1 a2) (Classical.propDecidable _) (some true) none
theorem butterylaw16_BininMore.calls (A0 : Option Addr) (c0 : Nat) (l0 : List Int) (A1 : Option Addr) (c1 : Nat) (l1 : List Int) (a2 : Int) (r : Bool) (w : World) (hr0 : Kd.C (Kd.int .u8) w A0 l0.length l0) (hc0 : l0.length ≤ c0) (hr1 : Kd.C (Kd.int .u8) w A1 l1.length l1) (hc1 : l1.length ≤ c1) (h : butterylaw16_BininMore.f l0 l1 a2 = some r) :
    Calls Try.prog 5 #[.slice A0 l0.length c0, .slice A1 l1.length c1, .int .i64 a2] w fun e w' => e = .returned (.bool r) ∧ Below w.heap.size w w' := by
  unfold butterylaw16_BininMore.f at h
  by_cases hO : butterylaw16_BininMore.Ok l0 l1 a2
  · rw [if_pos hO] at h
    obtain rfl := Option.some.inj h
    exact more_w A0 c0 l0 A1 c1 l1 a2 w hr0 hc0 hr1 hc1 hO.1 hO.2
  · rw [if_neg hO] at h
    cases h

/-- THE ONE PURE STATEMENT of butterylaw16_BininMore: yours. -/
def butterylaw16_BininMore.Pure : Prop := ∀ (l0 : List Int) (l1 : List Int) (a2 : Int), l0.length ≤ maxLen → l0.length * 1 ≤ 140737488351232 → (∀ x ∈ l0, (Lit.int .u8 x).wf = true) → l1.length ≤ maxLen → l1.length * 1 ≤ 140737488351232 → (∀ x ∈ l1, (Lit.int .u8 x).wf = true) → (Lit.int .i64 a2).wf = true → butterylaw16_BininMore.f l0 l1 a2 = some true
theorem butterylaw16_BininMore.walk (P : butterylaw16_BininMore.Pure) (a0 : Option Addr) (len0 cap0 : Nat) (z0 : List Int) (a1 : Option Addr) (len1 cap1 : Nat) (z1 : List Int) (a2 : Int) (w : World) (w0 : (a0 = none ∧ len0 = 0 ∧ cap0 = 0 ∧ z0 = []) ∨ ∃ x, a0 = some x ∧ len0 ≤ cap0 ∧ cap0 ≤ maxLen ∧ z0.length = cap0 ∧ (∀ i, i < z0.length → w.cell? (x.add i) = some (.int .u8 (z0.getD i 0))) ∧ ∀ n ∈ z0, (Lit.int .u8 n).wf = true) (y0 : len0 * 1 ≤ 140737488351232) (w1 : (a1 = none ∧ len1 = 0 ∧ cap1 = 0 ∧ z1 = []) ∨ ∃ x, a1 = some x ∧ len1 ≤ cap1 ∧ cap1 ≤ maxLen ∧ z1.length = cap1 ∧ (∀ i, i < z1.length → w.cell? (x.add i) = some (.int .u8 (z1.getD i 0))) ∧ ∀ n ∈ z1, (Lit.int .u8 n).wf = true) (y1 : len1 * 1 ≤ 140737488351232) (w2 : (Lit.int .i64 a2).wf = true) :
    Calls Try.prog 5 #[.slice a0 len0 cap0, .slice a1 len1 cap1, .int .i64 a2] w fun e w' => e = .returned (.bool true) ∧ Below w.heap.size w w' := by
  obtain ⟨l0, rfl, hr0, hm0, hw0, hc0⟩ := ReadsInt.ofRowC w0
  obtain ⟨l1, rfl, hr1, hm1, hw1, hc1⟩ := ReadsInt.ofRowC w1
  have h := P l0 l1 a2 hm0 y0 hw0 hm1 y1 hw1 w2
  refine (butterylaw16_BininMore.calls _ _ l0 _ _ l1 a2 true w (Kd.C_of_reads (d := (0 : Int)) (h1 := fun _ => rfl) hr0) hc0 (Kd.C_of_reads (d := (0 : Int)) (h1 := fun _ => rfl) hr1) hc1 h).mono ?_
  rintro e w' ⟨rfl, hd⟩
  exact ⟨rfl, hd⟩

end Go.Proofs.Ytkbhnnmngmdkdaa.Hb
