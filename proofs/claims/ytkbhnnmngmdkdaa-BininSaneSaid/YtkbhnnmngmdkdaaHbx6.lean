-- Written by this session's own program (wip/hprint.py) out of the translation, over hand-proved contracts. Lean checks it.
import Derived.Test.YtkbhnnmngmdkdaaHbx0
import Derived.Test.YtkbhnnmngmdkdaaHbx3
import Derived.Test.YtkbhnnmngmdkdaaHbx4
import Derived.Test.YtkbhnnmngmdkdaaHbx5
namespace Go.Proofs.Ytkbhnnmngmdkdaa.Hb
open Go.RowKit Go.Proofs.YtkbhnnmngmdkdaaW.PrintWords Go.Proofs.YtkbhnnmngmdkdaaW.PrintLast Go.Proofs.YtkbhnnmngmdkdaaW.PrintMore
attribute [local go_sem] max2_int min2_int max_two min_two max_three min_three max_four min_four   -- for this text's walks alone
set_option linter.unusedVariables false
set_option linter.unusedSimpArgs false

/-! ### butterylaw16_BininMore: function 5 -/
theorem infoB : (Try.prog.info? 5).map (fun i => (i.zero, i.size, i.bytes)) = some (some (.int .u8 0), 1, 1) := by kernel_rfl
set_option maxHeartbeats 8000000 in
set_option maxRecDepth 100000 in
theorem more_long0 (A0 : Option Addr) (c0 : Nat) (l0 : List Int) (A1 : Option Addr) (d1 : Nat) (l1 : List Int) (cut : Int) (w : World) (h : 5000 < l0.length) : Calls Try.prog 5 #[.slice A0 l0.length c0, .slice A1 l1.length d1, .int .i64 cut] w fun e w' => e = .returned (.bool true) ∧ Below w.heap.size w w' := by
  have t1 : decide (5000 < l0.length) = true := decide_eq_true h
  have t2 : decide ((l0.length : Int) > 5000) = true := decide_eq_true (by omega)
  clear h
  generalize l0.length = n0 at *
  generalize l1.length = n1 at *
  go_enter Try.func5, Try.ntmps5
  go_wp2_with (first | (go_at_call 9; refine (awake_w _).mono ?_; rintro e w1 ⟨rfl, hB⟩; have HB1 := Aside0.mk hB; clear hB))
  go_ret
  exact ⟨rfl, HB1.out⟩
set_option maxHeartbeats 8000000 in
set_option maxRecDepth 100000 in
theorem more_long1 (A0 : Option Addr) (c0 : Nat) (l0 : List Int) (A1 : Option Addr) (d1 : Nat) (l1 : List Int) (cut : Int) (w : World) (h0 : ¬ 5000 < l0.length) (h : 1000 < l1.length) : Calls Try.prog 5 #[.slice A0 l0.length c0, .slice A1 l1.length d1, .int .i64 cut] w fun e w' => e = .returned (.bool true) ∧ Below w.heap.size w w' := by
  have t1 : decide (5000 < l0.length) = false := decide_eq_false h0
  have t2 : decide ((l0.length : Int) > 5000) = false := decide_eq_false (by omega)
  have t3 : decide (1000 < l1.length) = true := decide_eq_true h
  have t4 : decide ((l1.length : Int) > 1000) = true := decide_eq_true (by omega)
  clear h
  generalize l0.length = n0 at *
  generalize l1.length = n1 at *
  go_enter Try.func5, Try.ntmps5
  go_wp2_with (first | (go_at_call 9; refine (awake_w _).mono ?_; rintro e w1 ⟨rfl, hB⟩; have HB1 := Aside0.mk hB; clear hB))
  go_ret
  exact ⟨rfl, HB1.out⟩
set_option maxHeartbeats 8000000 in
set_option maxRecDepth 100000 in
theorem more_wait (A0 : Option Addr) (c0 : Nat) (l0 : List Int) (A1 : Option Addr) (d1 : Nat) (l1 : List Int) (cut : Int) (w : World) (hr0 : Kd.C (Kd.int .u8) w A0 l0.length l0) (hc0 : l0.length ≤ c0) (hr1 : Kd.C (Kd.int .u8) w A1 l1.length l1) (hc1 : l1.length ≤ d1) (hb0 : ∀ x ∈ l0, 0 ≤ x ∧ x ≤ 255) (hb1 : ∀ x ∈ l1, 0 ≤ x ∧ x ≤ 255) (h0 : l0.length ≤ 5000) (h1 : l1.length ≤ 1000) (s t : St) (hs : parseS l0 = s) (ht : parseS (l0 ++ l1) = t) (same : Bool) (he : s.e = 3)
    (HSt : Aside0 (∀ W v1 v2, StepAt W v1 s → StepAt W v2 t → Calls Try.prog 10 #[v1, v2] W fun e w' => e = .returned (.bool same) ∧ Below W.heap.size W w')) :
    Calls Try.prog 5 #[.slice A0 l0.length c0, .slice A1 l1.length d1, .int .i64 cut] w fun e w' => e = .returned (.bool true) ∧ Below w.heap.size w w' := by
  have hu34 := Try.underlying34
  have hu31 := Try.underlying31
  have hu29 := Try.underlying29
  have hu22 := Try.underlying22
  have t1 : decide (5000 < l0.length) = false := decide_eq_false (by omega)
  have t2 : decide ((l0.length : Int) > 5000) = false := decide_eq_false (by omega)
  have t3 : decide (1000 < l1.length) = false := decide_eq_false (by omega)
  have t4 : decide ((l1.length : Int) > 1000) = false := decide_eq_false (by omega)
  have HR0 := Aside0.mk hr0
  have HR1 := Aside0.mk hr1
  have HPa : Aside0 (∀ W, Below w.heap.size w W → Calls Try.prog 11 #[.slice A0 l0.length c0] W fun e w' => ReqPost W s e w') := ⟨fun W hB => by rw [← hs]; exact parse_w A0 c0 l0 W (Kd.C_below hr0 hB) hc0 hb0 (by omega)⟩
  obtain ⟨ll, hll⟩ : ∃ ll, l0 ++ l1 = ll := ⟨_, rfl⟩
  have HLL : Aside0 ([] ++ l0 ++ l1 = ll) := ⟨by rw [List.nil_append]; exact hll⟩
  have hlb : ∀ x ∈ ll, 0 ≤ x ∧ x ≤ 255 := by rw [← hll]; intro x hx; exact (List.mem_append.1 hx).elim (hb0 x) (hb1 x)
  have hln : ll.length ≤ 1000000 := by rw [← hll, List.length_append]; omega
  rw [hll] at ht
  have HPb : Aside0 (∀ (W : World) (B : Option Addr) (cB : Nat), Kd.C (Kd.int .u8) W B ll.length ll → ll.length ≤ cB → Calls Try.prog 11 #[.slice B ll.length cB] W fun e w' => ReqPost W t e w') := ⟨fun W B cB hC hle => by rw [← ht]; exact parse_w B cB ll W hC hle hlb hln⟩
  have HLen := Aside0.mk (And.intro h0 h1)
  have q1 : (s.e != 3) = false := bne_eq_false_iff_eq.mpr he
  have q2 : (s.e == 3) = true := beq_iff_eq.mpr he
  clear he
  clear hr0 hr1 hc0 hc1 hb0 hb1 hlb hln hs ht hll h0 h1
  generalize hn0 : l0.length = n0 at *
  generalize hn1 : l1.length = n1' at *
  have HN := Aside0.mk (And.intro hn0 hn1)
  clear hn0 hn1
  go_enter Try.func5, Try.ntmps5
  go_wp2_with (first | (go_at_call 9; refine (awake_w _).mono ?_; rintro e w1 ⟨rfl, hB⟩; have HB1 := Aside0.mk hB; clear hB) | (go_at_call 11; (with_reducible refine (HPa.out _ HB1.out).mono ?_); rintro e w2 ⟨v, rfl, ⟨cv, kv, rfl, hc, hk⟩, hB⟩; obtain ⟨a1, n1, c1, rfl⟩ := hc.slice; obtain ⟨ka1, kn1, kc1, rfl⟩ := hk.slice; have HS := Aside0.mk (And.intro hc hk); have HB2 := Aside0.mk (below_step HB1.out hB); clear hc hk hB HPa; unfold stepV) | ((with_reducible refine gate_builtin (b := .append) (xs := #[.const (.slice none 0 0), .tmp 24]) rfl ?_); at_builtin; refine Kd.R_append_rows (Kd.int .u8) (w0 := _) _ rfl (.const (.slice none 0 0)) (.tmp 24) 22 5 (.int .u8 0) 1 rfl Try.underlying22 infoB rfl (by decide) (by omega) (.slice none 0 0) ([] : List Int) l0 _ _ _ (fun _ => True) (fun _ => False) rfl rfl (Kd.R_nil _ _ _ _ _) (Kd.C_below (Kd.C_below HR0.out HB2.out) (below_alloc (Below.refl _ _) _)) (fun _ _ h => h) (fun _ h => h.elim) (fun _ _ => trivial) (Below.refl _ _) (Nat.le_refl _) (by have := HLen.out; have := HN.out; simp only [List.length_nil, List.nil_append]; omega) ?_; intro v3 w3 hR hB _ _; have HO3 := Aside0.mk (And.intro hR hB); clear hR hB) | ((with_reducible refine gate_builtin (b := .append) (xs := #[.tmp 25, .tmp 26]) rfl ?_); at_builtin; refine Kd.R_append_rows (Kd.int .u8) (w0 := _) _ rfl (.tmp 25) (.tmp 26) 22 5 (.int .u8 0) 1 rfl Try.underlying22 infoB rfl (by decide) (by omega) v3 ([] ++ l0) l1 _ _ _ (fun _ => True) (fun _ => False) rfl rfl HO3.out.1 (Kd.C_below (Kd.C_below (Kd.C_below HR1.out HB2.out) (below_alloc (Below.refl _ _) _)) HO3.out.2) (fun _ _ h => h) (fun _ h => h.elim) (fun _ _ => trivial) HO3.out.2 HO3.out.2.size (by have := HLen.out; have := HN.out; simp only [List.length_nil, List.nil_append]; omega) ?_; intro v4 w4 hR hB _ _; rw [HLL.out] at hR; obtain ⟨B, cB, hv, hle, hC⟩ := Kd.R_reads hR; subst hv; have HO4 := Aside0.mk (And.intro hC (And.intro hle hB)); clear hR hB hle hC) | (go_at_call 11; (with_reducible refine (HPb.out _ _ _ HO4.out.1 HO4.out.2.1).mono ?_); rintro e w5 ⟨v, rfl, ⟨cv, kv, rfl, hc, hk⟩, hB⟩; obtain ⟨a2, n2, c2, rfl⟩ := hc.slice; obtain ⟨ka2, kn2, kc2, rfl⟩ := hk.slice; have HT := Aside0.mk (And.intro hc hk); have HB5 := Aside0.mk (below_step HO4.out.2.2 hB); have k8 := blk_any HB5.out (blk_new w2 _); have HK8 := Aside0.mk k8; clear hc hk hB HPb; obtain ⟨r0, r1, r2, r3, r4, r5, r6, r7, r8, r9, r10, r11, r12, r13, r14, r15⟩ := cells16_1 k8; clear k8; unfold stepV) | (go_at_call 10; (refine (HSt.out _ _ _ ⟨_, _, rfl, ((HS.out.1.below (below_alloc (Below.refl _ _) _)).below HB5.out).below (below_alloc (Below.refl _ _) _), ((HS.out.2.below (below_alloc (Below.refl _ _) _)).below HB5.out).below (below_alloc (Below.refl _ _) _)⟩ ⟨_, _, rfl, HT.out.1.below (below_alloc (Below.refl _ _) _), HT.out.2.below (below_alloc (Below.refl _ _) _)⟩).mono ?_); rintro e w6 ⟨rfl, hB⟩; have k8 := blk_any hB (blk_alloc HK8.out _); have HB6 := Aside0.mk (below_step (below_alloc (below_step (below_alloc HB2.out _) HB5.out) _) hB); clear r0 r1 r2 r3 r4 r5 r6 r7 r8 r9 r10 r11 r12 r13 r14 r15 hB; obtain ⟨r0, r1, r2, r3, r4, r5, r6, r7, r8, r9, r10, r11, r12, r13, r14, r15⟩ := cells16 k8; have HK8' := Aside0.mk k8; clear k8))
  go_ret
  exact ⟨by first | rfl | simp, HB6.out⟩
set_option maxHeartbeats 8000000 in
set_option maxRecDepth 100000 in
theorem more_quit (A0 : Option Addr) (c0 : Nat) (l0 : List Int) (A1 : Option Addr) (d1 : Nat) (l1 : List Int) (cut : Int) (w : World) (hr0 : Kd.C (Kd.int .u8) w A0 l0.length l0) (hc0 : l0.length ≤ c0) (hr1 : Kd.C (Kd.int .u8) w A1 l1.length l1) (hc1 : l1.length ≤ d1) (hb0 : ∀ x ∈ l0, 0 ≤ x ∧ x ≤ 255) (hb1 : ∀ x ∈ l1, 0 ≤ x ∧ x ≤ 255) (h0 : l0.length ≤ 5000) (h1 : l1.length ≤ 1000) (s t : St) (hs : parseS l0 = s) (ht : parseS (l0 ++ l1) = t) (he : s.e ≠ 3) (h9 : s.e = 9)
    (HSt : Aside0 (∀ W v1 v2, StepAt W v1 s → StepAt W v2 t → Calls Try.prog 10 #[v1, v2] W fun e w' => e = .returned (.bool true) ∧ Below W.heap.size W w')) :
    Calls Try.prog 5 #[.slice A0 l0.length c0, .slice A1 l1.length d1, .int .i64 cut] w fun e w' => e = .returned (.bool true) ∧ Below w.heap.size w w' := by
  have hu34 := Try.underlying34
  have hu31 := Try.underlying31
  have hu29 := Try.underlying29
  have hu22 := Try.underlying22
  have t1 : decide (5000 < l0.length) = false := decide_eq_false (by omega)
  have t2 : decide ((l0.length : Int) > 5000) = false := decide_eq_false (by omega)
  have t3 : decide (1000 < l1.length) = false := decide_eq_false (by omega)
  have t4 : decide ((l1.length : Int) > 1000) = false := decide_eq_false (by omega)
  have HR0 := Aside0.mk hr0
  have HR1 := Aside0.mk hr1
  have HPa : Aside0 (∀ W, Below w.heap.size w W → Calls Try.prog 11 #[.slice A0 l0.length c0] W fun e w' => ReqPost W s e w') := ⟨fun W hB => by rw [← hs]; exact parse_w A0 c0 l0 W (Kd.C_below hr0 hB) hc0 hb0 (by omega)⟩
  obtain ⟨ll, hll⟩ : ∃ ll, l0 ++ l1 = ll := ⟨_, rfl⟩
  have HLL : Aside0 ([] ++ l0 ++ l1 = ll) := ⟨by rw [List.nil_append]; exact hll⟩
  have hlb : ∀ x ∈ ll, 0 ≤ x ∧ x ≤ 255 := by rw [← hll]; intro x hx; exact (List.mem_append.1 hx).elim (hb0 x) (hb1 x)
  have hln : ll.length ≤ 1000000 := by rw [← hll, List.length_append]; omega
  rw [hll] at ht
  have HPb : Aside0 (∀ (W : World) (B : Option Addr) (cB : Nat), Kd.C (Kd.int .u8) W B ll.length ll → ll.length ≤ cB → Calls Try.prog 11 #[.slice B ll.length cB] W fun e w' => ReqPost W t e w') := ⟨fun W B cB hC hle => by rw [← ht]; exact parse_w B cB ll W hC hle hlb hln⟩
  have HLen := Aside0.mk (And.intro h0 h1)
  have q1 : (s.e != 3) = true := bne_iff_ne.mpr he
  have q2 : (s.e == 3) = false := beq_eq_false_iff_ne.mpr he
  have q3 : (s.e == 9) = true := beq_iff_eq.mpr h9
  clear he h9
  clear hr0 hr1 hc0 hc1 hb0 hb1 hlb hln hs ht hll h0 h1
  generalize hn0 : l0.length = n0 at *
  generalize hn1 : l1.length = n1' at *
  have HN := Aside0.mk (And.intro hn0 hn1)
  clear hn0 hn1
  go_enter Try.func5, Try.ntmps5
  go_wp2_with (first | (go_at_call 9; refine (awake_w _).mono ?_; rintro e w1 ⟨rfl, hB⟩; have HB1 := Aside0.mk hB; clear hB) | (go_at_call 11; (with_reducible refine (HPa.out _ HB1.out).mono ?_); rintro e w2 ⟨v, rfl, ⟨cv, kv, rfl, hc, hk⟩, hB⟩; obtain ⟨a1, n1, c1, rfl⟩ := hc.slice; obtain ⟨ka1, kn1, kc1, rfl⟩ := hk.slice; have HS := Aside0.mk (And.intro hc hk); have HB2 := Aside0.mk (below_step HB1.out hB); clear hc hk hB HPa; unfold stepV) | ((with_reducible refine gate_builtin (b := .append) (xs := #[.const (.slice none 0 0), .tmp 24]) rfl ?_); at_builtin; refine Kd.R_append_rows (Kd.int .u8) (w0 := _) _ rfl (.const (.slice none 0 0)) (.tmp 24) 22 5 (.int .u8 0) 1 rfl Try.underlying22 infoB rfl (by decide) (by omega) (.slice none 0 0) ([] : List Int) l0 _ _ _ (fun _ => True) (fun _ => False) rfl rfl (Kd.R_nil _ _ _ _ _) (Kd.C_below (Kd.C_below HR0.out HB2.out) (below_alloc (Below.refl _ _) _)) (fun _ _ h => h) (fun _ h => h.elim) (fun _ _ => trivial) (Below.refl _ _) (Nat.le_refl _) (by have := HLen.out; have := HN.out; simp only [List.length_nil, List.nil_append]; omega) ?_; intro v3 w3 hR hB _ _; have HO3 := Aside0.mk (And.intro hR hB); clear hR hB) | ((with_reducible refine gate_builtin (b := .append) (xs := #[.tmp 25, .tmp 26]) rfl ?_); at_builtin; refine Kd.R_append_rows (Kd.int .u8) (w0 := _) _ rfl (.tmp 25) (.tmp 26) 22 5 (.int .u8 0) 1 rfl Try.underlying22 infoB rfl (by decide) (by omega) v3 ([] ++ l0) l1 _ _ _ (fun _ => True) (fun _ => False) rfl rfl HO3.out.1 (Kd.C_below (Kd.C_below (Kd.C_below HR1.out HB2.out) (below_alloc (Below.refl _ _) _)) HO3.out.2) (fun _ _ h => h) (fun _ h => h.elim) (fun _ _ => trivial) HO3.out.2 HO3.out.2.size (by have := HLen.out; have := HN.out; simp only [List.length_nil, List.nil_append]; omega) ?_; intro v4 w4 hR hB _ _; rw [HLL.out] at hR; obtain ⟨B, cB, hv, hle, hC⟩ := Kd.R_reads hR; subst hv; have HO4 := Aside0.mk (And.intro hC (And.intro hle hB)); clear hR hB hle hC) | (go_at_call 11; (with_reducible refine (HPb.out _ _ _ HO4.out.1 HO4.out.2.1).mono ?_); rintro e w5 ⟨v, rfl, ⟨cv, kv, rfl, hc, hk⟩, hB⟩; obtain ⟨a2, n2, c2, rfl⟩ := hc.slice; obtain ⟨ka2, kn2, kc2, rfl⟩ := hk.slice; have HT := Aside0.mk (And.intro hc hk); have HB5 := Aside0.mk (below_step HO4.out.2.2 hB); have k8 := blk_any HB5.out (blk_new w2 _); have HK8 := Aside0.mk k8; clear hc hk hB HPb; obtain ⟨r0, r1, r2, r3, r4, r5, r6, r7, r8, r9, r10, r11, r12, r13, r14, r15⟩ := cells16_1 k8; clear k8; unfold stepV) | (go_at_call 10; (refine (HSt.out _ _ _ ⟨_, _, rfl, ((HS.out.1.below (below_alloc (Below.refl _ _) _)).below HB5.out).below (below_alloc (Below.refl _ _) _), ((HS.out.2.below (below_alloc (Below.refl _ _) _)).below HB5.out).below (below_alloc (Below.refl _ _) _)⟩ ⟨_, _, rfl, HT.out.1.below (below_alloc (Below.refl _ _) _), HT.out.2.below (below_alloc (Below.refl _ _) _)⟩).mono ?_); rintro e w6 ⟨rfl, hB⟩; have k8 := blk_any hB (blk_alloc HK8.out _); have HB6 := Aside0.mk (below_step (below_alloc (below_step (below_alloc HB2.out _) HB5.out) _) hB); clear r0 r1 r2 r3 r4 r5 r6 r7 r8 r9 r10 r11 r12 r13 r14 r15 hB; obtain ⟨r0, r1, r2, r3, r4, r5, r6, r7, r8, r9, r10, r11, r12, r13, r14, r15⟩ := cells16 k8; have HK8' := Aside0.mk k8; clear k8))
  go_ret
  exact ⟨by first | rfl | simp, HB6.out⟩
set_option maxHeartbeats 8000000 in
set_option maxRecDepth 100000 in
theorem more_neg (A0 : Option Addr) (c0 : Nat) (l0 : List Int) (A1 : Option Addr) (d1 : Nat) (l1 : List Int) (cut : Int) (w : World) (hr0 : Kd.C (Kd.int .u8) w A0 l0.length l0) (hc0 : l0.length ≤ c0) (hr1 : Kd.C (Kd.int .u8) w A1 l1.length l1) (hc1 : l1.length ≤ d1) (hb0 : ∀ x ∈ l0, 0 ≤ x ∧ x ≤ 255) (hb1 : ∀ x ∈ l1, 0 ≤ x ∧ x ≤ 255) (h0 : l0.length ≤ 5000) (h1 : l1.length ≤ 1000) (s t : St) (hs : parseS l0 = s) (ht : parseS (l0 ++ l1) = t) (he : s.e ≠ 3) (h9 : s.e ≠ 9) (hcut : cut < 0)
    (HSt : Aside0 (∀ W v1 v2, StepAt W v1 s → StepAt W v2 t → Calls Try.prog 10 #[v1, v2] W fun e w' => e = .returned (.bool true) ∧ Below W.heap.size W w')) :
    Calls Try.prog 5 #[.slice A0 l0.length c0, .slice A1 l1.length d1, .int .i64 cut] w fun e w' => e = .returned (.bool true) ∧ Below w.heap.size w w' := by
  have hu34 := Try.underlying34
  have hu31 := Try.underlying31
  have hu29 := Try.underlying29
  have hu22 := Try.underlying22
  have t1 : decide (5000 < l0.length) = false := decide_eq_false (by omega)
  have t2 : decide ((l0.length : Int) > 5000) = false := decide_eq_false (by omega)
  have t3 : decide (1000 < l1.length) = false := decide_eq_false (by omega)
  have t4 : decide ((l1.length : Int) > 1000) = false := decide_eq_false (by omega)
  have HR0 := Aside0.mk hr0
  have HR1 := Aside0.mk hr1
  have HPa : Aside0 (∀ W, Below w.heap.size w W → Calls Try.prog 11 #[.slice A0 l0.length c0] W fun e w' => ReqPost W s e w') := ⟨fun W hB => by rw [← hs]; exact parse_w A0 c0 l0 W (Kd.C_below hr0 hB) hc0 hb0 (by omega)⟩
  obtain ⟨ll, hll⟩ : ∃ ll, l0 ++ l1 = ll := ⟨_, rfl⟩
  have HLL : Aside0 ([] ++ l0 ++ l1 = ll) := ⟨by rw [List.nil_append]; exact hll⟩
  have hlb : ∀ x ∈ ll, 0 ≤ x ∧ x ≤ 255 := by rw [← hll]; intro x hx; exact (List.mem_append.1 hx).elim (hb0 x) (hb1 x)
  have hln : ll.length ≤ 1000000 := by rw [← hll, List.length_append]; omega
  rw [hll] at ht
  have HPb : Aside0 (∀ (W : World) (B : Option Addr) (cB : Nat), Kd.C (Kd.int .u8) W B ll.length ll → ll.length ≤ cB → Calls Try.prog 11 #[.slice B ll.length cB] W fun e w' => ReqPost W t e w') := ⟨fun W B cB hC hle => by rw [← ht]; exact parse_w B cB ll W hC hle hlb hln⟩
  have HLen := Aside0.mk (And.intro h0 h1)
  have q1 : (s.e != 3) = true := bne_iff_ne.mpr he
  have q2 : (s.e == 3) = false := beq_eq_false_iff_ne.mpr he
  have q3 : (s.e == 9) = false := beq_eq_false_iff_ne.mpr h9
  have q4 : decide (cut < 0) = true := decide_eq_true hcut
  clear he h9 hcut
  clear hr0 hr1 hc0 hc1 hb0 hb1 hlb hln hs ht hll h0 h1
  generalize hn0 : l0.length = n0 at *
  generalize hn1 : l1.length = n1' at *
  have HN := Aside0.mk (And.intro hn0 hn1)
  clear hn0 hn1
  go_enter Try.func5, Try.ntmps5
  go_wp2_with (first | (go_at_call 9; refine (awake_w _).mono ?_; rintro e w1 ⟨rfl, hB⟩; have HB1 := Aside0.mk hB; clear hB) | (go_at_call 11; (with_reducible refine (HPa.out _ HB1.out).mono ?_); rintro e w2 ⟨v, rfl, ⟨cv, kv, rfl, hc, hk⟩, hB⟩; obtain ⟨a1, n1, c1, rfl⟩ := hc.slice; obtain ⟨ka1, kn1, kc1, rfl⟩ := hk.slice; have HS := Aside0.mk (And.intro hc hk); have HB2 := Aside0.mk (below_step HB1.out hB); clear hc hk hB HPa; unfold stepV) | ((with_reducible refine gate_builtin (b := .append) (xs := #[.const (.slice none 0 0), .tmp 24]) rfl ?_); at_builtin; refine Kd.R_append_rows (Kd.int .u8) (w0 := _) _ rfl (.const (.slice none 0 0)) (.tmp 24) 22 5 (.int .u8 0) 1 rfl Try.underlying22 infoB rfl (by decide) (by omega) (.slice none 0 0) ([] : List Int) l0 _ _ _ (fun _ => True) (fun _ => False) rfl rfl (Kd.R_nil _ _ _ _ _) (Kd.C_below (Kd.C_below HR0.out HB2.out) (below_alloc (Below.refl _ _) _)) (fun _ _ h => h) (fun _ h => h.elim) (fun _ _ => trivial) (Below.refl _ _) (Nat.le_refl _) (by have := HLen.out; have := HN.out; simp only [List.length_nil, List.nil_append]; omega) ?_; intro v3 w3 hR hB _ _; have HO3 := Aside0.mk (And.intro hR hB); clear hR hB) | ((with_reducible refine gate_builtin (b := .append) (xs := #[.tmp 25, .tmp 26]) rfl ?_); at_builtin; refine Kd.R_append_rows (Kd.int .u8) (w0 := _) _ rfl (.tmp 25) (.tmp 26) 22 5 (.int .u8 0) 1 rfl Try.underlying22 infoB rfl (by decide) (by omega) v3 ([] ++ l0) l1 _ _ _ (fun _ => True) (fun _ => False) rfl rfl HO3.out.1 (Kd.C_below (Kd.C_below (Kd.C_below HR1.out HB2.out) (below_alloc (Below.refl _ _) _)) HO3.out.2) (fun _ _ h => h) (fun _ h => h.elim) (fun _ _ => trivial) HO3.out.2 HO3.out.2.size (by have := HLen.out; have := HN.out; simp only [List.length_nil, List.nil_append]; omega) ?_; intro v4 w4 hR hB _ _; rw [HLL.out] at hR; obtain ⟨B, cB, hv, hle, hC⟩ := Kd.R_reads hR; subst hv; have HO4 := Aside0.mk (And.intro hC (And.intro hle hB)); clear hR hB hle hC) | (go_at_call 11; (with_reducible refine (HPb.out _ _ _ HO4.out.1 HO4.out.2.1).mono ?_); rintro e w5 ⟨v, rfl, ⟨cv, kv, rfl, hc, hk⟩, hB⟩; obtain ⟨a2, n2, c2, rfl⟩ := hc.slice; obtain ⟨ka2, kn2, kc2, rfl⟩ := hk.slice; have HT := Aside0.mk (And.intro hc hk); have HB5 := Aside0.mk (below_step HO4.out.2.2 hB); have k8 := blk_any HB5.out (blk_new w2 _); have HK8 := Aside0.mk k8; clear hc hk hB HPb; obtain ⟨r0, r1, r2, r3, r4, r5, r6, r7, r8, r9, r10, r11, r12, r13, r14, r15⟩ := cells16_1 k8; clear k8; unfold stepV) | (go_at_call 10; (refine (HSt.out _ _ _ ⟨_, _, rfl, ((HS.out.1.below (below_alloc (Below.refl _ _) _)).below HB5.out).below (below_alloc (Below.refl _ _) _), ((HS.out.2.below (below_alloc (Below.refl _ _) _)).below HB5.out).below (below_alloc (Below.refl _ _) _)⟩ ⟨_, _, rfl, HT.out.1.below (below_alloc (Below.refl _ _) _), HT.out.2.below (below_alloc (Below.refl _ _) _)⟩).mono ?_); rintro e w6 ⟨rfl, hB⟩; have k8 := blk_any hB (blk_alloc HK8.out _); have HB6 := Aside0.mk (below_step (below_alloc (below_step (below_alloc HB2.out _) HB5.out) _) hB); clear r0 r1 r2 r3 r4 r5 r6 r7 r8 r9 r10 r11 r12 r13 r14 r15 hB; obtain ⟨r0, r1, r2, r3, r4, r5, r6, r7, r8, r9, r10, r11, r12, r13, r14, r15⟩ := cells16 k8; have HK8' := Aside0.mk k8; clear k8))
  go_ret
  exact ⟨by first | rfl | simp, HB6.out⟩
set_option maxHeartbeats 8000000 in
set_option maxRecDepth 100000 in
theorem more_all (A0 : Option Addr) (c0 : Nat) (l0 : List Int) (A1 : Option Addr) (d1 : Nat) (l1 : List Int) (cut : Int) (w : World) (hr0 : Kd.C (Kd.int .u8) w A0 l0.length l0) (hc0 : l0.length ≤ c0) (hr1 : Kd.C (Kd.int .u8) w A1 l1.length l1) (hc1 : l1.length ≤ d1) (hb0 : ∀ x ∈ l0, 0 ≤ x ∧ x ≤ 255) (hb1 : ∀ x ∈ l1, 0 ≤ x ∧ x ≤ 255) (h0 : l0.length ≤ 5000) (h1 : l1.length ≤ 1000) (s t : St) (hs : parseS l0 = s) (ht : parseS (l0 ++ l1) = t) (he : s.e ≠ 3) (h9 : s.e ≠ 9) (hcut : 0 ≤ cut) (hu : s.used ≤ cut)
    (HSt : Aside0 (∀ W v1 v2, StepAt W v1 s → StepAt W v2 t → Calls Try.prog 10 #[v1, v2] W fun e w' => e = .returned (.bool true) ∧ Below W.heap.size W w')) :
    Calls Try.prog 5 #[.slice A0 l0.length c0, .slice A1 l1.length d1, .int .i64 cut] w fun e w' => e = .returned (.bool true) ∧ Below w.heap.size w w' := by
  have hu34 := Try.underlying34
  have hu31 := Try.underlying31
  have hu29 := Try.underlying29
  have hu22 := Try.underlying22
  have t1 : decide (5000 < l0.length) = false := decide_eq_false (by omega)
  have t2 : decide ((l0.length : Int) > 5000) = false := decide_eq_false (by omega)
  have t3 : decide (1000 < l1.length) = false := decide_eq_false (by omega)
  have t4 : decide ((l1.length : Int) > 1000) = false := decide_eq_false (by omega)
  have HR0 := Aside0.mk hr0
  have HR1 := Aside0.mk hr1
  have HPa : Aside0 (∀ W, Below w.heap.size w W → Calls Try.prog 11 #[.slice A0 l0.length c0] W fun e w' => ReqPost W s e w') := ⟨fun W hB => by rw [← hs]; exact parse_w A0 c0 l0 W (Kd.C_below hr0 hB) hc0 hb0 (by omega)⟩
  obtain ⟨ll, hll⟩ : ∃ ll, l0 ++ l1 = ll := ⟨_, rfl⟩
  have HLL : Aside0 ([] ++ l0 ++ l1 = ll) := ⟨by rw [List.nil_append]; exact hll⟩
  have hlb : ∀ x ∈ ll, 0 ≤ x ∧ x ≤ 255 := by rw [← hll]; intro x hx; exact (List.mem_append.1 hx).elim (hb0 x) (hb1 x)
  have hln : ll.length ≤ 1000000 := by rw [← hll, List.length_append]; omega
  rw [hll] at ht
  have HPb : Aside0 (∀ (W : World) (B : Option Addr) (cB : Nat), Kd.C (Kd.int .u8) W B ll.length ll → ll.length ≤ cB → Calls Try.prog 11 #[.slice B ll.length cB] W fun e w' => ReqPost W t e w') := ⟨fun W B cB hC hle => by rw [← ht]; exact parse_w B cB ll W hC hle hlb hln⟩
  have HLen := Aside0.mk (And.intro h0 h1)
  have q1 : (s.e != 3) = true := bne_iff_ne.mpr he
  have q2 : (s.e == 3) = false := beq_eq_false_iff_ne.mpr he
  have q3 : (s.e == 9) = false := beq_eq_false_iff_ne.mpr h9
  have q4 : decide (cut < 0) = false := decide_eq_false (by omega)
  have q5 : decide (cut ≥ s.used) = true := decide_eq_true hu
  have q6 : decide (s.used ≤ cut) = true := decide_eq_true hu
  clear he h9 hcut hu
  clear hr0 hr1 hc0 hc1 hb0 hb1 hlb hln hs ht hll h0 h1
  generalize hn0 : l0.length = n0 at *
  generalize hn1 : l1.length = n1' at *
  have HN := Aside0.mk (And.intro hn0 hn1)
  clear hn0 hn1
  go_enter Try.func5, Try.ntmps5
  go_wp2_with (first | (go_at_call 9; refine (awake_w _).mono ?_; rintro e w1 ⟨rfl, hB⟩; have HB1 := Aside0.mk hB; clear hB) | (go_at_call 11; (with_reducible refine (HPa.out _ HB1.out).mono ?_); rintro e w2 ⟨v, rfl, ⟨cv, kv, rfl, hc, hk⟩, hB⟩; obtain ⟨a1, n1, c1, rfl⟩ := hc.slice; obtain ⟨ka1, kn1, kc1, rfl⟩ := hk.slice; have HS := Aside0.mk (And.intro hc hk); have HB2 := Aside0.mk (below_step HB1.out hB); clear hc hk hB HPa; unfold stepV) | ((with_reducible refine gate_builtin (b := .append) (xs := #[.const (.slice none 0 0), .tmp 24]) rfl ?_); at_builtin; refine Kd.R_append_rows (Kd.int .u8) (w0 := _) _ rfl (.const (.slice none 0 0)) (.tmp 24) 22 5 (.int .u8 0) 1 rfl Try.underlying22 infoB rfl (by decide) (by omega) (.slice none 0 0) ([] : List Int) l0 _ _ _ (fun _ => True) (fun _ => False) rfl rfl (Kd.R_nil _ _ _ _ _) (Kd.C_below (Kd.C_below HR0.out HB2.out) (below_alloc (Below.refl _ _) _)) (fun _ _ h => h) (fun _ h => h.elim) (fun _ _ => trivial) (Below.refl _ _) (Nat.le_refl _) (by have := HLen.out; have := HN.out; simp only [List.length_nil, List.nil_append]; omega) ?_; intro v3 w3 hR hB _ _; have HO3 := Aside0.mk (And.intro hR hB); clear hR hB) | ((with_reducible refine gate_builtin (b := .append) (xs := #[.tmp 25, .tmp 26]) rfl ?_); at_builtin; refine Kd.R_append_rows (Kd.int .u8) (w0 := _) _ rfl (.tmp 25) (.tmp 26) 22 5 (.int .u8 0) 1 rfl Try.underlying22 infoB rfl (by decide) (by omega) v3 ([] ++ l0) l1 _ _ _ (fun _ => True) (fun _ => False) rfl rfl HO3.out.1 (Kd.C_below (Kd.C_below (Kd.C_below HR1.out HB2.out) (below_alloc (Below.refl _ _) _)) HO3.out.2) (fun _ _ h => h) (fun _ h => h.elim) (fun _ _ => trivial) HO3.out.2 HO3.out.2.size (by have := HLen.out; have := HN.out; simp only [List.length_nil, List.nil_append]; omega) ?_; intro v4 w4 hR hB _ _; rw [HLL.out] at hR; obtain ⟨B, cB, hv, hle, hC⟩ := Kd.R_reads hR; subst hv; have HO4 := Aside0.mk (And.intro hC (And.intro hle hB)); clear hR hB hle hC) | (go_at_call 11; (with_reducible refine (HPb.out _ _ _ HO4.out.1 HO4.out.2.1).mono ?_); rintro e w5 ⟨v, rfl, ⟨cv, kv, rfl, hc, hk⟩, hB⟩; obtain ⟨a2, n2, c2, rfl⟩ := hc.slice; obtain ⟨ka2, kn2, kc2, rfl⟩ := hk.slice; have HT := Aside0.mk (And.intro hc hk); have HB5 := Aside0.mk (below_step HO4.out.2.2 hB); have k8 := blk_any HB5.out (blk_new w2 _); have HK8 := Aside0.mk k8; clear hc hk hB HPb; obtain ⟨r0, r1, r2, r3, r4, r5, r6, r7, r8, r9, r10, r11, r12, r13, r14, r15⟩ := cells16_1 k8; clear k8; unfold stepV) | (go_at_call 10; (refine (HSt.out _ _ _ ⟨_, _, rfl, ((HS.out.1.below (below_alloc (Below.refl _ _) _)).below HB5.out).below (below_alloc (Below.refl _ _) _), ((HS.out.2.below (below_alloc (Below.refl _ _) _)).below HB5.out).below (below_alloc (Below.refl _ _) _)⟩ ⟨_, _, rfl, HT.out.1.below (below_alloc (Below.refl _ _) _), HT.out.2.below (below_alloc (Below.refl _ _) _)⟩).mono ?_); rintro e w6 ⟨rfl, hB⟩; have k8 := blk_any hB (blk_alloc HK8.out _); have HB6 := Aside0.mk (below_step (below_alloc (below_step (below_alloc HB2.out _) HB5.out) _) hB); clear r0 r1 r2 r3 r4 r5 r6 r7 r8 r9 r10 r11 r12 r13 r14 r15 hB; obtain ⟨r0, r1, r2, r3, r4, r5, r6, r7, r8, r9, r10, r11, r12, r13, r14, r15⟩ := cells16 k8; have HK8' := Aside0.mk k8; clear k8))
  go_ret
  exact ⟨by first | rfl | simp, HB6.out⟩
set_option maxHeartbeats 8000000 in
set_option maxRecDepth 100000 in
theorem more_cut (A0 : Option Addr) (c0 : Nat) (l0 : List Int) (A1 : Option Addr) (d1 : Nat) (l1 : List Int) (q : Nat) (w : World) (hr0 : Kd.C (Kd.int .u8) w A0 l0.length l0) (hc0 : l0.length ≤ c0) (hr1 : Kd.C (Kd.int .u8) w A1 l1.length l1) (hc1 : l1.length ≤ d1) (hb0 : ∀ x ∈ l0, 0 ≤ x ∧ x ≤ 255) (hb1 : ∀ x ∈ l1, 0 ≤ x ∧ x ≤ 255) (h0 : l0.length ≤ 5000) (h1 : l1.length ≤ 1000) (s t u : St) (hs : parseS l0 = s) (ht : parseS (l0 ++ l1) = t) (hu : parseS (l0.take q) = u) (he : s.e ≠ 3) (h9 : s.e ≠ 9) (hq : (q : Int) < s.used) (hql : q ≤ l0.length) (he3 : u.e = 3)
    (HSt : Aside0 (∀ W v1 v2, StepAt W v1 s → StepAt W v2 t → Calls Try.prog 10 #[v1, v2] W fun e w' => e = .returned (.bool true) ∧ Below W.heap.size W w')) :
    Calls Try.prog 5 #[.slice A0 l0.length c0, .slice A1 l1.length d1, .int .i64 (q : Int)] w fun e w' => e = .returned (.bool true) ∧ Below w.heap.size w w' := by
  have hu34 := Try.underlying34
  have hu31 := Try.underlying31
  have hu29 := Try.underlying29
  have hu22 := Try.underlying22
  have t1 : decide (5000 < l0.length) = false := decide_eq_false (by omega)
  have t2 : decide ((l0.length : Int) > 5000) = false := decide_eq_false (by omega)
  have t3 : decide (1000 < l1.length) = false := decide_eq_false (by omega)
  have t4 : decide ((l1.length : Int) > 1000) = false := decide_eq_false (by omega)
  have HR0 := Aside0.mk hr0
  have HR1 := Aside0.mk hr1
  have HPa : Aside0 (∀ W, Below w.heap.size w W → Calls Try.prog 11 #[.slice A0 l0.length c0] W fun e w' => ReqPost W s e w') := ⟨fun W hB => by rw [← hs]; exact parse_w A0 c0 l0 W (Kd.C_below hr0 hB) hc0 hb0 (by omega)⟩
  obtain ⟨ll, hll⟩ : ∃ ll, l0 ++ l1 = ll := ⟨_, rfl⟩
  have HLL : Aside0 ([] ++ l0 ++ l1 = ll) := ⟨by rw [List.nil_append]; exact hll⟩
  have hlb : ∀ x ∈ ll, 0 ≤ x ∧ x ≤ 255 := by rw [← hll]; intro x hx; exact (List.mem_append.1 hx).elim (hb0 x) (hb1 x)
  have hln : ll.length ≤ 1000000 := by rw [← hll, List.length_append]; omega
  rw [hll] at ht
  have HPb : Aside0 (∀ (W : World) (B : Option Addr) (cB : Nat), Kd.C (Kd.int .u8) W B ll.length ll → ll.length ≤ cB → Calls Try.prog 11 #[.slice B ll.length cB] W fun e w' => ReqPost W t e w') := ⟨fun W B cB hC hle => by rw [← ht]; exact parse_w B cB ll W hC hle hlb hln⟩
  have HLen := Aside0.mk (And.intro h0 h1)
  have q1 : (s.e != 3) = true := bne_iff_ne.mpr he
  have q2 : (s.e == 3) = false := beq_eq_false_iff_ne.mpr he
  have q3 : (s.e == 9) = false := beq_eq_false_iff_ne.mpr h9
  have q4 : decide ((q : Int) < 0) = false := decide_eq_false (by omega)
  have q5 : decide ((q : Int) ≥ s.used) = false := decide_eq_false (by omega)
  have q6 : decide (s.used ≤ (q : Int)) = false := decide_eq_false (by omega)
  have q7 : (u.e == 3) = true := beq_iff_eq.mpr he3
  obtain ⟨hsl, hCl⟩ := takeC A0 c0 l0 q hql hc0
  rw [show cut l0 0 q = l0.take q by simp [cut]] at hCl
  have hlq : (l0.take q).length = q := by rw [List.length_take]; omega
  have HPc : Aside0 (∀ W, Below w.heap.size w W → Calls Try.prog 11 #[.slice A0 q c0] W fun e w' => ReqPost W u e w') := ⟨fun W hB => by
    have h := parse_w A0 c0 (l0.take q) W (by rw [hlq]; exact Kd.C_below (hCl w hr0) hB) (by omega) (fun x hx => hb0 x (List.mem_of_mem_take hx)) (by omega)
    rw [hlq, hu] at h
    exact h⟩
  clear he h9 hq he3 hu hCl hlq
  clear hql hr0 hr1 hc0 hc1 hb0 hb1 hlb hln hs ht hll h0 h1
  generalize hn0 : l0.length = n0 at *
  generalize hn1 : l1.length = n1' at *
  have HN := Aside0.mk (And.intro hn0 hn1)
  clear hn0 hn1
  go_enter Try.func5, Try.ntmps5
  go_wp2_with (first | (go_at_call 9; refine (awake_w _).mono ?_; rintro e w1 ⟨rfl, hB⟩; have HB1 := Aside0.mk hB; clear hB) | (go_at_call 11; (with_reducible refine (HPa.out _ HB1.out).mono ?_); rintro e w2 ⟨v, rfl, ⟨cv, kv, rfl, hc, hk⟩, hB⟩; obtain ⟨a1, n1, c1, rfl⟩ := hc.slice; obtain ⟨ka1, kn1, kc1, rfl⟩ := hk.slice; have HS := Aside0.mk (And.intro hc hk); have HB2 := Aside0.mk (below_step HB1.out hB); clear hc hk hB HPa; unfold stepV) | ((with_reducible refine gate_builtin (b := .append) (xs := #[.const (.slice none 0 0), .tmp 24]) rfl ?_); at_builtin; refine Kd.R_append_rows (Kd.int .u8) (w0 := _) _ rfl (.const (.slice none 0 0)) (.tmp 24) 22 5 (.int .u8 0) 1 rfl Try.underlying22 infoB rfl (by decide) (by omega) (.slice none 0 0) ([] : List Int) l0 _ _ _ (fun _ => True) (fun _ => False) rfl rfl (Kd.R_nil _ _ _ _ _) (Kd.C_below (Kd.C_below HR0.out HB2.out) (below_alloc (Below.refl _ _) _)) (fun _ _ h => h) (fun _ h => h.elim) (fun _ _ => trivial) (Below.refl _ _) (Nat.le_refl _) (by have := HLen.out; have := HN.out; simp only [List.length_nil, List.nil_append]; omega) ?_; intro v3 w3 hR hB _ _; have HO3 := Aside0.mk (And.intro hR hB); clear hR hB) | ((with_reducible refine gate_builtin (b := .append) (xs := #[.tmp 25, .tmp 26]) rfl ?_); at_builtin; refine Kd.R_append_rows (Kd.int .u8) (w0 := _) _ rfl (.tmp 25) (.tmp 26) 22 5 (.int .u8 0) 1 rfl Try.underlying22 infoB rfl (by decide) (by omega) v3 ([] ++ l0) l1 _ _ _ (fun _ => True) (fun _ => False) rfl rfl HO3.out.1 (Kd.C_below (Kd.C_below (Kd.C_below HR1.out HB2.out) (below_alloc (Below.refl _ _) _)) HO3.out.2) (fun _ _ h => h) (fun _ h => h.elim) (fun _ _ => trivial) HO3.out.2 HO3.out.2.size (by have := HLen.out; have := HN.out; simp only [List.length_nil, List.nil_append]; omega) ?_; intro v4 w4 hR hB _ _; rw [HLL.out] at hR; obtain ⟨B, cB, hv, hle, hC⟩ := Kd.R_reads hR; subst hv; have HO4 := Aside0.mk (And.intro hC (And.intro hle hB)); clear hR hB hle hC) | (go_at_call 11; (with_reducible refine (HPb.out _ _ _ HO4.out.1 HO4.out.2.1).mono ?_); rintro e w5 ⟨v, rfl, ⟨cv, kv, rfl, hc, hk⟩, hB⟩; obtain ⟨a2, n2, c2, rfl⟩ := hc.slice; obtain ⟨ka2, kn2, kc2, rfl⟩ := hk.slice; have HT := Aside0.mk (And.intro hc hk); have HB5 := Aside0.mk (below_step HO4.out.2.2 hB); have k8 := blk_any HB5.out (blk_new w2 _); have HK8 := Aside0.mk k8; clear hc hk hB HPb; obtain ⟨r0, r1, r2, r3, r4, r5, r6, r7, r8, r9, r10, r11, r12, r13, r14, r15⟩ := cells16_1 k8; clear k8; unfold stepV) | (go_at_call 10; (refine (HSt.out _ _ _ ⟨_, _, rfl, ((HS.out.1.below (below_alloc (Below.refl _ _) _)).below HB5.out).below (below_alloc (Below.refl _ _) _), ((HS.out.2.below (below_alloc (Below.refl _ _) _)).below HB5.out).below (below_alloc (Below.refl _ _) _)⟩ ⟨_, _, rfl, HT.out.1.below (below_alloc (Below.refl _ _) _), HT.out.2.below (below_alloc (Below.refl _ _) _)⟩).mono ?_); rintro e w6 ⟨rfl, hB⟩; have k8 := blk_any hB (blk_alloc HK8.out _); have HB6 := Aside0.mk (below_step (below_alloc (below_step (below_alloc HB2.out _) HB5.out) _) hB); clear r0 r1 r2 r3 r4 r5 r6 r7 r8 r9 r10 r11 r12 r13 r14 r15 hB; obtain ⟨r0, r1, r2, r3, r4, r5, r6, r7, r8, r9, r10, r11, r12, r13, r14, r15⟩ := cells16 k8; have HK8' := Aside0.mk k8; clear k8) | (go_at_call 11; (with_reducible refine (HPc.out _ HB6.out).mono ?_); rintro e w7 ⟨v, rfl, ⟨cv, kv, rfl, hc, hk⟩, hB⟩; obtain ⟨a3, n3, c3, rfl⟩ := hc.slice; obtain ⟨ka3, kn3, kc3, rfl⟩ := hk.slice; have HB7 := Aside0.mk (below_step HB6.out hB); clear hc hk hB; unfold stepV))
  go_ret
  exact ⟨by first | rfl | simp, by repeat (with_reducible first | exact HB7.out | apply below_alloc | apply below_drew | apply pw_below_drewN)⟩
theorem stepAt_more {W : World} {v : Value} {s : St} (h : StepAt W v s) (hs : s = badS ⟨#[]⟩ 0 3) : v = badV ⟨#[]⟩ 0 3 := by
  subst hs
  obtain ⟨cv, kv, rfl, hc, hk⟩ := h
  obtain rfl := (show cv = .slice none 0 0 from hc)
  obtain rfl := (show kv = .slice none 0 0 from hk)
  rfl
theorem stepAt_bad {W : World} {v : Value} {s : St} {reply : ByteArray} {used e : Int} (h : StepAt W v s) (hs : s = badS reply used e) : v = badV reply used e := by
  subst hs
  obtain ⟨cv, kv, rfl, hc, hk⟩ := h
  obtain rfl := (show cv = .slice none 0 0 from hc)
  obtain rfl := (show kv = .slice none 0 0 from hk)
  rfl
theorem fault_ne (code st opq : Int) : (strOfNums (faultL code st opq)).toList ≠ [] := by
  rw [ByteArray.toList_eq]
  simp [strOfNums, faultL]
/-- More must come, and whatever comes of more bytes: Steps tells one or the other. -/
theorem steps_more (s t : St) (hs : s = badS ⟨#[]⟩ 0 3) (l : List Int) (ht : t = parseS l) : ∃ same : Bool, ∀ W v1 v2, StepAt W v1 s → StepAt W v2 t → Calls Try.prog 10 #[v1, v2] W fun e w' => e = .returned (.bool same) ∧ Below W.heap.size W w' := by
  rcases parse_cases l with h | h | h
  · refine ⟨true, fun W v1 v2 h1 h2 => ?_⟩
    have hst : s = t := by rw [hs, ht, h]
    subst hst
    exact steps_eq v1 v2 s W h1 h2
  · refine ⟨false, fun W v1 v2 h1 h2 => ?_⟩
    rw [stepAt_bad h1 hs, stepAt_bad h2 (ht.trans h)]
    exact steps_end W
  · rw [parse_whole h] at ht
    rcases reqS_cases (rd l 1) (be (cut l 12 16)) (be (cut l 16 24)) (rd l 4).toNat (be (cut l 2 4)).toNat (cut l 24 (24 + (be (cut l 8 12)).toNat)) with ⟨st, hr⟩ | ⟨m', q, key, hr⟩
    · refine ⟨false, fun W v1 v2 h1 h2 => ?_⟩
      rw [stepAt_bad h1 hs, stepAt_bad h2 (ht.trans hr)]
      exact steps_fault _ _ (fault_ne _ _ _) W
    · refine ⟨false, fun W v1 v2 h1 h2 => ?_⟩
      rw [stepAt_bad h1 hs]
      exact steps_full v2 m' t (by rw [ht, hr]) W h2
theorem more_w (A0 : Option Addr) (c0 : Nat) (l0 : List Int) (A1 : Option Addr) (d1 : Nat) (l1 : List Int) (cut : Int) (w : World) (hr0 : Kd.C (Kd.int .u8) w A0 l0.length l0) (hc0 : l0.length ≤ c0) (hr1 : Kd.C (Kd.int .u8) w A1 l1.length l1) (hc1 : l1.length ≤ d1) (hb0 : ∀ x ∈ l0, 0 ≤ x ∧ x ≤ 255) (hb1 : ∀ x ∈ l1, 0 ≤ x ∧ x ≤ 255) :
    Calls Try.prog 5 #[.slice A0 l0.length c0, .slice A1 l1.length d1, .int .i64 cut] w fun e w' => e = .returned (.bool true) ∧ Below w.heap.size w w' := by
  by_cases h0 : 5000 < l0.length
  · exact more_long0 A0 c0 l0 A1 d1 l1 cut w h0
  · by_cases h1 : 1000 < l1.length
    · exact more_long1 A0 c0 l0 A1 d1 l1 cut w h0 h1
    · by_cases he : (parseS l0).e = 3
      · have hs : parseS l0 = badS ⟨#[]⟩ 0 3 := by
          rcases parse_cases l0 with h | h | h
          · exact h
          · rw [h] at he; exact absurd he (by decide)
          · have := (whole_used hb0 h).2
            omega
        obtain ⟨same, hS⟩ := steps_more (parseS l0) (parseS (l0 ++ l1)) hs _ rfl
        exact more_wait A0 c0 l0 A1 d1 l1 cut w hr0 hc0 hr1 hc1 hb0 hb1 (by omega) (by omega) _ _ rfl rfl same he ⟨hS⟩
      · have ht := parse_app (m := l1) hb0 he
        have hS : ∀ W v1 v2, StepAt W v1 (parseS l0) → StepAt W v2 (parseS l0) → Calls Try.prog 10 #[v1, v2] W fun e w' => e = .returned (.bool true) ∧ Below W.heap.size W w' := fun W v1 v2 a b => steps_eq v1 v2 _ W a b
        by_cases h9 : (parseS l0).e = 9
        · exact more_quit A0 c0 l0 A1 d1 l1 cut w hr0 hc0 hr1 hc1 hb0 hb1 (by omega) (by omega) _ _ rfl ht he h9 ⟨hS⟩
        · by_cases hn : cut < 0
          · exact more_neg A0 c0 l0 A1 d1 l1 cut w hr0 hc0 hr1 hc1 hb0 hb1 (by omega) (by omega) _ _ rfl ht he h9 hn ⟨hS⟩
          · by_cases hu : (parseS l0).used ≤ cut
            · exact more_all A0 c0 l0 A1 d1 l1 cut w hr0 hc0 hr1 hc1 hb0 hb1 (by omega) (by omega) _ _ rfl ht he h9 (by omega) hu ⟨hS⟩
            · obtain ⟨q, rfl⟩ := Int.eq_ofNat_of_zero_le (show 0 ≤ cut by omega)
              have hw : Whole l0 := by
                rcases parse_cases l0 with h | h | h
                · rw [h] at he; exact absurd rfl he
                · rw [h] at h9; exact absurd rfl h9
                · exact h
              have hus := (whole_used hb0 hw).1
              have h3 := parse_take hb0 hw q (by omega)
              obtain ⟨_, _, _, hw4⟩ := hw
              exact more_cut A0 c0 l0 A1 d1 l1 q w hr0 hc0 hr1 hc1 hb0 hb1 (by omega) (by omega) _ _ _ rfl ht rfl he h9 (by omega) (by omega) h3 ⟨hS⟩
def butterylaw16_BininMore.Ok (l0 l1 : List Int) (a2 : Int) : Prop := (∀ x ∈ l0, 0 ≤ x ∧ x ≤ 255) ∧ (∀ x ∈ l1, 0 ≤ x ∧ x ≤ 255)
noncomputable def butterylaw16_BininMore.f (l0 l1 : List Int) (a2 : Int) : Option Bool := @ite _ (butterylaw16_BininMore.Ok l0 l1 a2) (Classical.propDecidable _) (some true) none
theorem butterylaw16_BininMore.calls (A0 : Option Addr) (c0 : Nat) (l0 : List Int) (A1 : Option Addr) (c1 : Nat) (l1 : List Int) (a2 : Int) (r : Bool) (w : World) (hr0 : Kd.C (Kd.int .u8) w A0 l0.length l0) (hc0 : l0.length ≤ c0) (hr1 : Kd.C (Kd.int .u8) w A1 l1.length l1) (hc1 : l1.length ≤ c1) (h : butterylaw16_BininMore.f l0 l1 a2 = some r) :
    Calls Try.prog 5 #[.slice A0 l0.length c0, .slice A1 l1.length c1, .int .i64 a2] w fun e w' => e = .returned (.bool r) ∧ Below w.heap.size w w' := by
  unfold butterylaw16_BininMore.f at h
  by_cases hO : butterylaw16_BininMore.Ok l0 l1 a2
  · rw [if_pos hO] at h
    obtain rfl := Option.some.inj h
    exact more_w A0 c0 l0 A1 c1 l1 a2 w hr0 hc0 hr1 hc1 hO.1 hO.2
  · rw [if_neg hO] at h
    cases h

/-- THE ONE PURE STATEMENT of butterylaw16_BininMore: yours. -/
def butterylaw16_BininMore.Pure : Prop := ∀ (l0 : List Int) (l1 : List Int) (a2 : Int), l0.length ≤ maxLen → l0.length * 1 ≤ 140737488351232 → (∀ x ∈ l0, (Lit.int .u8 x).wf = true) → l1.length ≤ maxLen → l1.length * 1 ≤ 140737488351232 → (∀ x ∈ l1, (Lit.int .u8 x).wf = true) → (Lit.int .i64 a2).wf = true → butterylaw16_BininMore.f l0 l1 a2 = some true
theorem butterylaw16_BininMore.walk (P : butterylaw16_BininMore.Pure) (a0 : Option Addr) (len0 cap0 : Nat) (z0 : List Int) (a1 : Option Addr) (len1 cap1 : Nat) (z1 : List Int) (a2 : Int) (w : World) (w0 : (a0 = none ∧ len0 = 0 ∧ cap0 = 0 ∧ z0 = []) ∨ ∃ x, a0 = some x ∧ len0 ≤ cap0 ∧ cap0 ≤ maxLen ∧ z0.length = cap0 ∧ (∀ i, i < z0.length → w.cell? (x.add i) = some (.int .u8 (z0.getD i 0))) ∧ ∀ n ∈ z0, (Lit.int .u8 n).wf = true) (y0 : len0 * 1 ≤ 140737488351232) (w1 : (a1 = none ∧ len1 = 0 ∧ cap1 = 0 ∧ z1 = []) ∨ ∃ x, a1 = some x ∧ len1 ≤ cap1 ∧ cap1 ≤ maxLen ∧ z1.length = cap1 ∧ (∀ i, i < z1.length → w.cell? (x.add i) = some (.int .u8 (z1.getD i 0))) ∧ ∀ n ∈ z1, (Lit.int .u8 n).wf = true) (y1 : len1 * 1 ≤ 140737488351232) (w2 : (Lit.int .i64 a2).wf = true) :
    Calls Try.prog 5 #[.slice a0 len0 cap0, .slice a1 len1 cap1, .int .i64 a2] w fun e w' => e = .returned (.bool true) ∧ Below w.heap.size w w' := by
  obtain ⟨l0, rfl, hr0, hm0, hw0, hc0⟩ := ReadsInt.ofRowC w0
  obtain ⟨l1, rfl, hr1, hm1, hw1, hc1⟩ := ReadsInt.ofRowC w1
  have h := P l0 l1 a2 hm0 y0 hw0 hm1 y1 hw1 w2
  refine (butterylaw16_BininMore.calls _ _ l0 _ _ l1 a2 true w (Kd.C_of_reads (d := (0 : Int)) (h1 := fun _ => rfl) hr0) hc0 (Kd.C_of_reads (d := (0 : Int)) (h1 := fun _ => rfl) hr1) hc1 h).mono ?_
  rintro e w' ⟨rfl, hd⟩
  exact ⟨rfl, hd⟩

/-! ### butterylaw16_BininSane: function 4 -/
theorem stepAt_bad2 {W : World} {v : Value} {s : St} {reply : ByteArray} {used e : Int} (h : StepAt W v s) (hs : s = badS reply used e) : v = badV reply used e := by
  subst hs
  obtain ⟨cv, kv, rfl, hc, hk⟩ := h
  obtain rfl := (show cv = .slice none 0 0 from hc)
  obtain rfl := (show kv = .slice none 0 0 from hk)
  rfl
def at0 (l : List Int) (i : Nat) : Int := l.getD i 0
theorem str_at (xs : List Int) (hx : ∀ x ∈ xs, 0 ≤ x ∧ x < 256) (i : Nat) (h : i < (strOfNums xs).size) : (((strOfNums xs)[i]'h).toNat : Int) = at0 xs i := by
  have hi : i < xs.length := by rw [strOfNums_size] at h; exact h
  have h1 : (strOfNums xs)[i]'h = UInt8.ofNat (xs[i]).toNat := by
    show (strOfNums xs).data[i]'h = _
    simp [strOfNums]
  have h2 := hx xs[i] (List.getElem_mem hi)
  rw [h1, at0, List.getD_eq_getElem?_getD, List.getElem?_eq_getElem hi]
  simp
  omega
set_option maxHeartbeats 8000000 in
set_option maxRecDepth 100000 in
theorem keyed13_w (s : ByteArray) (w : World) (hs : s.size ≤ 1000000) : Calls Try.prog 24 #[.string s] w fun e w' => e = .returned (.bool (decide (1 ≤ s.size ∧ s.size ≤ 250))) ∧ Below w.heap.size w w' := by
  by_cases h1 : 1 ≤ s.size
  · have c1 : decide (1 ≤ s.size) = true := decide_eq_true h1
    have c2 : decide ((s.size : Int) ≥ 1) = true := decide_eq_true (by omega)
    by_cases h2 : s.size ≤ 250
    · have c3 : decide (s.size ≤ 250) = true := decide_eq_true h2
      have c4 : decide ((s.size : Int) ≤ 250) = true := decide_eq_true (by omega)
      have HD := Aside0.mk (show decide (1 ≤ s.size ∧ s.size ≤ 250) = true from decide_eq_true ⟨h1, h2⟩)
      go_enter Try.func24, Try.ntmps24
      go_wp2
      go_ret
      exact ⟨by rw [HD.out]; rfl, Below.refl _ _⟩
    · have c3 : decide (s.size ≤ 250) = false := decide_eq_false h2
      have c4 : decide ((s.size : Int) ≤ 250) = false := decide_eq_false (by omega)
      have HD := Aside0.mk (show decide (1 ≤ s.size ∧ s.size ≤ 250) = false from decide_eq_false (fun h => h2 h.2))
      go_enter Try.func24, Try.ntmps24
      go_wp2
      go_ret
      exact ⟨by rw [HD.out]; rfl, Below.refl _ _⟩
  · have c1 : decide (1 ≤ s.size) = false := decide_eq_false h1
    have c2 : decide ((s.size : Int) ≥ 1) = false := decide_eq_false (by omega)
    have HD := Aside0.mk (show decide (1 ≤ s.size ∧ s.size ≤ 250) = false from decide_eq_false (fun h => h1 h.1))
    go_enter Try.func24, Try.ntmps24
    go_wp2
    go_ret
    exact ⟨by rw [HD.out]; rfl, Below.refl _ _⟩
def SomeBool (w : World) (e : Ending) (w' : World) : Prop := ∃ r : Bool, e = .returned (.bool r) ∧ Below w.heap.size w w'
set_option maxHeartbeats 8000000 in
set_option maxRecDepth 100000 in
theorem key13_w (s : ByteArray) (w : World) (hs : s.size ≤ 1000000) : Calls Try.prog 25 #[.string s] w fun e w' => SomeBool w e w' := by
  by_cases h1 : 1 ≤ s.size ∧ s.size ≤ 250
  · have c1 : decide (s.size < 1) = false := decide_eq_false (by omega)
    have c2 : decide ((s.size : Int) < 1) = false := decide_eq_false (by omega)
    have c3 : decide (250 < s.size) = false := decide_eq_false (by omega)
    have c4 : decide ((s.size : Int) > 250) = false := decide_eq_false (by omega)
    go_enter Try.func25, Try.ntmps25
    go_wp2
    go_loopg [2, 3] s.size (fun kq v2 v3 w' => ∃ i : Nat, i + kq = s.size ∧ v3 = .int .i64 (i : Int) ∧ Aside0 (Below w.heap.size w w'))
    case atStart => exact ⟨0, by omega, rfl, ⟨Below.refl _ _⟩⟩
    case round =>
      obtain ⟨i, hi, rfl, hB⟩ := hrel
      by_cases hl : i < s.size
      · have d1 : decide (i < s.size) = true := decide_eq_true hl
        have d2 := eq_true (show (0 : Int) ≤ (i : Int) by omega)
        have d3 := eq_true (show (i : Int) < (s.size : Int) by omega)
        go_wp2
        all_goals first
          | (go_ret; exact ⟨_, rfl, by repeat (with_reducible first | exact hB.out | apply below_drew | apply pw_below_drewN)⟩)
          | (go_roundg (gk - 1); case measure => omega
             case rel => exact ⟨i + 1, by omega, rfl, ⟨by repeat (with_reducible first | exact hB.out | apply below_drew | apply pw_below_drewN)⟩⟩)
      · have d1 : decide (i < s.size) = false := decide_eq_false hl
        go_wp2
        go_ret
        exact ⟨_, rfl, hB.out⟩
  · go_enter Try.func25, Try.ntmps25
    by_cases h2 : s.size < 1
    · have c1 : decide (s.size < 1) = true := decide_eq_true h2
      have c2 : decide ((s.size : Int) < 1) = true := decide_eq_true (by omega)
      go_wp2
      go_ret
      exact ⟨_, rfl, Below.refl _ _⟩
    · have c1 : decide (s.size < 1) = false := decide_eq_false h2
      have c2 : decide ((s.size : Int) < 1) = false := decide_eq_false (by omega)
      have c3 : decide (250 < s.size) = true := decide_eq_true (by omega)
      have c4 : decide ((s.size : Int) > 250) = true := decide_eq_true (by omega)
      go_wp2
      go_ret
      exact ⟨_, rfl, Below.refl _ _⟩
set_option maxHeartbeats 8000000 in
set_option maxRecDepth 100000 in
theorem may_w (m : Cm) (A : Option Addr) (c : Nat) (w : World) (hk : (1 ≤ m.key.size ∧ m.key.size ≤ 250) ∨ (m.key = ⟨#[]⟩ ∧ 13 ≤ m.op)) (hv : m.val.length ≤ 1000) (he0 : 0 ≤ m.exp) (he1 : m.exp < 4294967296) (ho0 : 0 ≤ m.op) (ho1 : m.op ≤ 16) :
    Calls Try.prog 13 #[cmdV m.op m.key (.slice A m.val.length c) m.flags m.exp m.cas m.delta m.init m.makes, .bool true] w fun e w' => e = .returned (.bool true) ∧ Below w.heap.size w w' := by
  have hu39 := Try.underlying39
  obtain ⟨op, key, val, fl, ex, cas, de, ini, mk⟩ := m
  simp only at hk hv he0 he1 ho0 ho1 ⊢
  have t1 : decide (val.length ≤ 1000) = true := decide_eq_true hv
  have t2 : decide ((val.length : Int) ≤ 1000) = true := decide_eq_true (by omega)
  have t3 : decide (ex ≤ 1099511627776) = true := decide_eq_true (by omega)
  have t4 : decide (ex ≥ -1099511627776) = true := decide_eq_true (by omega)
  have t5 : decide (op ≥ 0) = true := decide_eq_true (by omega)
  have t6 : decide (op ≤ 16) = true := decide_eq_true (by omega)
  have hks : key.size ≤ 1000000 := by
    rcases hk with h | ⟨h, _⟩
    · omega
    · rw [h]; decide
  have HK := Aside0.mk (fun W => key13_w key W hks)
  have HY := Aside0.mk (fun W => keyed13_w key W hks)
  have hkk : (decide (1 ≤ key.size ∧ key.size ≤ 250) = true) ∨ (decide (1 ≤ key.size ∧ key.size ≤ 250) = false ∧ decide (op ≥ 13) = true ∧ key.toList = []) := by
    rcases hk with h | ⟨h, h'⟩
    · exact .inl (decide_eq_true h)
    · refine .inr ⟨decide_eq_false ?_, decide_eq_true h', ?_⟩
      · rw [h]; decide
      · rw [h, ByteArray.toList_eq]
  clear hk hv he0 he1 ho0 ho1 hks
  generalize decide (1 ≤ key.size ∧ key.size ≤ 250) = bb at *
  generalize val.length = nv at *
  unfold cmdV
  rcases hkk with rfl | ⟨rfl, t7, t8⟩
  all_goals (
    go_enter Try.func13, Try.ntmps13
    go_wp2_with (first | (go_at_call 25; refine (HK.out _).mono ?_; rintro e w1 ⟨r, rfl, hB⟩; have HB1 := Aside0.mk (below_step (below_alloc (Below.refl _ _) _) hB); have k1 := blk_any hB (blk_new w _); have HK1 := Aside0.mk k1; obtain ⟨z0, z1, z2, z3, z4, z5, z6, z7, z8, z9⟩ := cells10 k1; clear k1 hB; cases r) | (go_at_call 24; refine (HY.out _).mono ?_; rintro e w2 ⟨rfl, hB⟩; have HB2 := Aside0.mk (below_step HB1.out hB); have k1 := blk_any hB HK1.out; clear z0 z1 z2 z3 z4 z5 z6 z7 z8 z9; obtain ⟨z0, z1, z2, z3, z4, z5, z6, z7, z8, z9⟩ := cells10 k1; clear k1 hB))
    all_goals (
      go_ret
      exact ⟨by first | rfl | simp, HB2.out⟩))
set_option maxHeartbeats 8000000 in
set_option maxRecDepth 100000 in
theorem sane_long (A0 : Option Addr) (c0 : Nat) (l0 : List Int) (w : World) (h : 5000 < l0.length) : Calls Try.prog 4 #[.slice A0 l0.length c0] w fun e w' => e = .returned (.bool true) ∧ Below w.heap.size w w' := by
  have t1 : decide (5000 < l0.length) = true := decide_eq_true h
  have t2 : decide ((l0.length : Int) > 5000) = true := decide_eq_true (by omega)
  clear h
  generalize l0.length = n0 at *
  go_enter Try.func4, Try.ntmps4
  go_wp2_with (first | (go_at_call 9; refine (awake_w _).mono ?_; rintro e w1 ⟨rfl, hB⟩; have HB1 := Aside0.mk hB; clear hB))
  go_ret
  exact ⟨rfl, HB1.out⟩
set_option maxHeartbeats 8000000 in
set_option maxRecDepth 100000 in
theorem sane_more (A0 : Option Addr) (c0 : Nat) (l0 : List Int) (w : World) (hr0 : Kd.C (Kd.int .u8) w A0 l0.length l0) (hc0 : l0.length ≤ c0) (hb0 : ∀ x ∈ l0, 0 ≤ x ∧ x ≤ 255) (h0 : l0.length ≤ 5000)  (hs : parseS l0 = badS ⟨#[]⟩ 0 3) : Calls Try.prog 4 #[.slice A0 l0.length c0] w fun e w' => e = .returned (.bool true) ∧ Below w.heap.size w w' := by
  have hu34 := Try.underlying34
  have hu31 := Try.underlying31
  have hu29 := Try.underlying29
  have hu39 := Try.underlying39
  have hu25 := Try.underlying25
  have hu22 := Try.underlying22
  have t1 : decide (5000 < l0.length) = false := decide_eq_false (by omega)
  have t2 : decide ((l0.length : Int) > 5000) = false := decide_eq_false (by omega)
  have HPa : Aside0 (∀ W, Below w.heap.size w W → Calls Try.prog 11 #[.slice A0 l0.length c0] W fun e w' => ReqPost W (badS ⟨#[]⟩ 0 3) e w') := ⟨fun W hB => by rw [← hs]; exact parse_w A0 c0 l0 W (Kd.C_below hr0 hB) hc0 hb0 (by omega)⟩
  clear hr0 hc0 hb0 hs h0
  generalize l0.length = n0 at *
  go_enter Try.func4, Try.ntmps4
  go_wp2_with (first | (go_at_call 9; refine (awake_w _).mono ?_; rintro e w1 ⟨rfl, hB⟩; have HB1 := Aside0.mk hB; clear hB) | (go_at_call 11; (with_reducible refine (HPa.out _ HB1.out).mono ?_); rintro e w2 ⟨v, rfl, hS, hB⟩; have hv := stepAt_bad2 hS rfl; subst hv; have HB2 := Aside0.mk (below_step HB1.out hB); clear hS hB; unfold badV stepV))
  go_ret
  exact ⟨by first | rfl | simp, by repeat (with_reducible first | exact HB2.out | apply below_alloc | apply below_drew | apply pw_below_drewN)⟩
set_option maxHeartbeats 8000000 in
set_option maxRecDepth 100000 in
theorem sane_end (A0 : Option Addr) (c0 : Nat) (l0 : List Int) (w : World) (hr0 : Kd.C (Kd.int .u8) w A0 l0.length l0) (hc0 : l0.length ≤ c0) (hb0 : ∀ x ∈ l0, 0 ≤ x ∧ x ≤ 255) (h0 : l0.length ≤ 5000) (hn : 0 < l0.length) (hs : parseS l0 = badS ⟨#[]⟩ 0 9) : Calls Try.prog 4 #[.slice A0 l0.length c0] w fun e w' => e = .returned (.bool true) ∧ Below w.heap.size w w' := by
  have hu34 := Try.underlying34
  have hu31 := Try.underlying31
  have hu29 := Try.underlying29
  have hu39 := Try.underlying39
  have hu25 := Try.underlying25
  have hu22 := Try.underlying22
  have t3 : decide (0 < l0.length) = true := decide_eq_true hn
  have t4 : decide ((l0.length : Int) > 0) = true := decide_eq_true (by omega)
  clear hn
  have t1 : decide (5000 < l0.length) = false := decide_eq_false (by omega)
  have t2 : decide ((l0.length : Int) > 5000) = false := decide_eq_false (by omega)
  have HPa : Aside0 (∀ W, Below w.heap.size w W → Calls Try.prog 11 #[.slice A0 l0.length c0] W fun e w' => ReqPost W (badS ⟨#[]⟩ 0 9) e w') := ⟨fun W hB => by rw [← hs]; exact parse_w A0 c0 l0 W (Kd.C_below hr0 hB) hc0 hb0 (by omega)⟩
  clear hr0 hc0 hb0 hs h0
  generalize l0.length = n0 at *
  go_enter Try.func4, Try.ntmps4
  go_wp2_with (first | (go_at_call 9; refine (awake_w _).mono ?_; rintro e w1 ⟨rfl, hB⟩; have HB1 := Aside0.mk hB; clear hB) | (go_at_call 11; (with_reducible refine (HPa.out _ HB1.out).mono ?_); rintro e w2 ⟨v, rfl, hS, hB⟩; have hv := stepAt_bad2 hS rfl; subst hv; have HB2 := Aside0.mk (below_step HB1.out hB); clear hS hB; unfold badV stepV))
  go_ret
  exact ⟨by first | rfl | simp, by repeat (with_reducible first | exact HB2.out | apply below_alloc | apply below_drew | apply pw_below_drewN)⟩
set_option maxHeartbeats 8000000 in
set_option maxRecDepth 100000 in
theorem sane_fault (A0 : Option Addr) (c0 : Nat) (l0 : List Int) (w : World) (hr0 : Kd.C (Kd.int .u8) w A0 l0.length l0) (hc0 : l0.length ≤ c0) (hb0 : ∀ x ∈ l0, 0 ≤ x ∧ x ≤ 255) (h0 : l0.length ≤ 5000) (s : St) (hs : parseS l0 = s) (hu1 : 24 ≤ s.used) (hu2 : s.used ≤ (l0.length : Int)) (hu3 : s.used ≤ 2072) (h128 : rd l0 0 = 128) (he : s.e = 2) (hcm : s.cmd = none) (rep : List Int) (hrep : s.reply = strOfNums rep) (hrl : rep.length = 24) (hrb : ∀ x ∈ rep, 0 ≤ x ∧ x < 256) (hr0' : at0 rep 0 = 129) (hr1' : at0 rep 1 = rd l0 1) (hr2' : (strOfNums rep).extract 12 16 = strOfNums (cut l0 12 16)) : Calls Try.prog 4 #[.slice A0 l0.length c0] w fun e w' => e = .returned (.bool true) ∧ Below w.heap.size w w' := by
  have hu34 := Try.underlying34
  have hu31 := Try.underlying31
  have hu29 := Try.underlying29
  have hu39 := Try.underlying39
  have hu25 := Try.underlying25
  have hu22 := Try.underlying22
  have t1 : decide (5000 < l0.length) = false := decide_eq_false (by omega)
  have t2 : decide ((l0.length : Int) > 5000) = false := decide_eq_false (by omega)
  have HR0 := Aside0.mk hr0
  have HPa : Aside0 (∀ W, Below w.heap.size w W → Calls Try.prog 11 #[.slice A0 l0.length c0] W fun e w' => ReqPost W s e w') := ⟨fun W hB => by rw [← hs]; exact parse_w A0 c0 l0 W (Kd.C_below hr0 hB) hc0 hb0 (by omega)⟩
  have u1 : decide (s.used < 24) = false := decide_eq_false (by omega)
  have u2 : decide (s.used > (l0.length : Int)) = false := decide_eq_false (by omega)
  have u3 : decide ((l0.length : Int) < s.used) = false := decide_eq_false (by omega)
  have u4 : decide (s.used > 2072) = false := decide_eq_false (by omega)
  have u5 : (rd l0 0 != 128) = false := bne_eq_false_iff_eq.mpr h128
  obtain ⟨ad, hA, hcell⟩ := Kd.at_int hr0 0 (by omega) (by omega)
  have ha0 : ad.add (0 : Int).toNat = ad := by simp [Addr.add]
  rw [ha0] at hcell
  subst hA
  obtain ⟨ad1, hA1, hcell1⟩ := Kd.at_int hr0 1 (by omega) (by omega)
  obtain rfl := Option.some.inj hA1
  rw [show (1 : Int).toNat = 1 from rfl, add_pos ad 1 (by omega)] at hcell1
  have HCs := Aside0.mk (And.intro hcell hcell1)
  have i0 : (0 : Int) < (l0.length : Int) := by omega
  have i1 : (1 : Int) < (l0.length : Int) := by omega
  have e1 : (s.e == 3) = false := beq_eq_false_iff_ne.mpr (by omega)
  have e2 : (s.e == 9) = false := beq_eq_false_iff_ne.mpr (by omega)
  have e3 : (s.e == 2) = true := beq_iff_eq.mpr he
  have z24 : s.reply.size = 24 := by rw [hrep, strOfNums_size, hrl]
  have z24' : (strOfNums rep).size = 24 := by rw [strOfNums_size, hrl]
  have x0 := str_at rep hrb 0
  have x1 := str_at rep hrb 1
  rw [hr0'] at x0
  rw [hr1'] at x1
  obtain ⟨A2, hs2, hC2⟩ := cutC (some ad) c0 l0 12 16 (by omega) (by omega) hc0
  replace hs2 : ∀ W : World, (Instr.slice 22 (.slice (some ad) l0.length c0) (some (.int .i64 12)) (some (.int .i64 16)) none).run Try.prog W = .ok (.slice A2 4 (c0 - 12)) W := hs2
  have y3 : ((strOfNums (cut l0 12 16)).toList == (strOfNums (cut l0 12 16)).toList) = true := by simp
  have HC2 := Aside0.mk (hC2 w hr0)
  clear hr0 hc0 hb0 hs hu1 hu2 hu3 h128 ha0 hcell hcell1 hC2 hrl hrb hr0' hr1' he
  have y1 : ((129 : Int) == 129) = true := rfl
  have y2 : (rd l0 1 == rd l0 1) = true := by simp
  generalize l0.length = n0 at *
  go_enter Try.func4, Try.ntmps4
  go_wp2_with (first | (go_at_call 9; refine (awake_w _).mono ?_; rintro e w1 ⟨rfl, hB⟩; have HB1 := Aside0.mk hB; clear hB))
  refine (HPa.out _ HB1.out).mono ?_
  rintro e w2 ⟨v, rfl, ⟨cv, kv, rfl, hc, hk⟩, hB⟩
  rw [hcm] at hc
  obtain rfl := (show cv = .slice none 0 0 from hc)
  obtain ⟨ka1, kn1, kc1, rfl⟩ := hk.slice
  have hB2 := below_step HB1.out hB
  have HB2 := Aside0.mk hB2
  have hz0 : ∀ o : Obj, (w2.alloc o).cell? ad = some (.int .u8 (rd l0 0)) := fun o => pw_cell_below (below_alloc hB2 o) HCs.out.1
  have hz1 : ∀ o : Obj, (w2.alloc o).cell? ⟨ad.block, ad.off + 1, none⟩ = some (.int .u8 (rd l0 1)) := fun o => pw_cell_below (below_alloc hB2 o) HCs.out.2
  have hcv : ∀ (o : Obj) (k : Nat), (convert 22 9 (.slice A2 4 (c0 - 12))).run Try.prog ((w2.alloc o).drewN k) = .ok (.string (strOfNums (cut l0 12 16))) ((w2.alloc o).drewN k) := fun o k => Kd.C_string Try.underlying22 Try.underlying5 Try.underlying9 (Kd.C_drewN (Kd.C_alloc (Kd.C_below HC2.out hB2) o) k)
  clear hk hB hB2 hc
  unfold stepV
  rw [hrep]
  go_wp2
  go_quiet (fail)
  go_wp2
  go_ret
  exact ⟨by first | rfl | simp, by repeat (with_reducible first | exact HB2.out | apply below_alloc | apply below_drew | apply pw_below_drewN)⟩
set_option maxHeartbeats 8000000 in
set_option maxRecDepth 100000 in
theorem sane_full (A0 : Option Addr) (c0 : Nat) (l0 : List Int) (w : World) (hr0 : Kd.C (Kd.int .u8) w A0 l0.length l0) (hc0 : l0.length ≤ c0) (hb0 : ∀ x ∈ l0, 0 ≤ x ∧ x ≤ 255) (h0 : l0.length ≤ 5000) (s : St) (hs : parseS l0 = s) (hu1 : 24 ≤ s.used) (hu2 : s.used ≤ (l0.length : Int)) (hu3 : s.used ≤ 2072) (h128 : rd l0 0 = 128) (he : s.e = 0) (m : Cm) (hcm : s.cmd = some m) (hrep : s.reply = ⟨#[]⟩) (hcode : s.code = rd l0 1) (hk : (1 ≤ m.key.size ∧ m.key.size ≤ 250) ∨ (m.key = ⟨#[]⟩ ∧ 13 ≤ m.op)) (hv : m.val.length ≤ 1000) (he0 : 0 ≤ m.exp) (he1 : m.exp < 4294967296) (ho0 : 0 ≤ m.op) (ho1 : m.op ≤ 16) : Calls Try.prog 4 #[.slice A0 l0.length c0] w fun e w' => e = .returned (.bool true) ∧ Below w.heap.size w w' := by
  have hu34 := Try.underlying34
  have hu31 := Try.underlying31
  have hu29 := Try.underlying29
  have hu39 := Try.underlying39
  have hu25 := Try.underlying25
  have hu22 := Try.underlying22
  have t1 : decide (5000 < l0.length) = false := decide_eq_false (by omega)
  have t2 : decide ((l0.length : Int) > 5000) = false := decide_eq_false (by omega)
  have HR0 := Aside0.mk hr0
  have HPa : Aside0 (∀ W, Below w.heap.size w W → Calls Try.prog 11 #[.slice A0 l0.length c0] W fun e w' => ReqPost W s e w') := ⟨fun W hB => by rw [← hs]; exact parse_w A0 c0 l0 W (Kd.C_below hr0 hB) hc0 hb0 (by omega)⟩
  have u1 : decide (s.used < 24) = false := decide_eq_false (by omega)
  have u2 : decide (s.used > (l0.length : Int)) = false := decide_eq_false (by omega)
  have u3 : decide ((l0.length : Int) < s.used) = false := decide_eq_false (by omega)
  have u4 : decide (s.used > 2072) = false := decide_eq_false (by omega)
  have u5 : (rd l0 0 != 128) = false := bne_eq_false_iff_eq.mpr h128
  obtain ⟨ad, hA, hcell⟩ := Kd.at_int hr0 0 (by omega) (by omega)
  have ha0 : ad.add (0 : Int).toNat = ad := by simp [Addr.add]
  rw [ha0] at hcell
  subst hA
  obtain ⟨ad1, hA1, hcell1⟩ := Kd.at_int hr0 1 (by omega) (by omega)
  obtain rfl := Option.some.inj hA1
  rw [show (1 : Int).toNat = 1 from rfl, add_pos ad 1 (by omega)] at hcell1
  have HCs := Aside0.mk (And.intro hcell hcell1)
  have i0 : (0 : Int) < (l0.length : Int) := by omega
  have i1 : (1 : Int) < (l0.length : Int) := by omega
  have e1 : (s.e == 3) = false := beq_eq_false_iff_ne.mpr (by omega)
  have e2 : (s.e == 9) = false := beq_eq_false_iff_ne.mpr (by omega)
  have e3 : (s.e == 2) = false := beq_eq_false_iff_ne.mpr (by omega)
  have e4 : (s.e != 0) = false := bne_eq_false_iff_eq.mpr he
  have hb1 := byte_at l0 1 hb0
  rw [show rd l0 ((1 : Nat) : Int) = rd l0 1 from rfl] at hb1
  have w4 : IntKind.i64.wrap (rd l0 1) = rd l0 1 := (i64_w _).trans (by clear u1 u2 u3 u4 u5; unfold wrap64; omega)
  have y2 : (rd l0 1 == rd l0 1) = true := by simp
  have HM := Aside0.mk (fun W A c => may_w m A c W hk hv he0 he1 ho0 ho1)
  clear hr0 hc0 hb0 hs hu1 hu2 hu3 h128 ha0 hcell hcell1 he hb1 hk hv he0 he1 ho0 ho1
  generalize l0.length = n0 at *
  go_enter Try.func4, Try.ntmps4
  go_wp2_with (first | (go_at_call 9; refine (awake_w _).mono ?_; rintro e w1 ⟨rfl, hB⟩; have HB1 := Aside0.mk hB; clear hB))
  refine (HPa.out _ HB1.out).mono ?_
  rintro e w2 ⟨v, rfl, ⟨cv, kv, rfl, hc, hk⟩, hB⟩
  rw [hcm] at hc
  obtain ⟨g, A, c, rfl, hg, _, _⟩ := hc
  obtain ⟨ka1, kn1, kc1, rfl⟩ := hk.slice
  have hB2 := below_step HB1.out hB
  have HB2 := Aside0.mk hB2
  have hz0 : ∀ o : Obj, (w2.alloc o).cell? ad = some (.int .u8 (rd l0 0)) := fun o => pw_cell_below (below_alloc hB2 o) HCs.out.1
  have hz1 : ∀ o o' : Obj, ((w2.alloc o).alloc o').cell? ⟨ad.block, ad.off + 1, none⟩ = some (.int .u8 (rd l0 1)) := fun o o' => pw_cell_below (below_alloc (below_alloc hB2 o) o') HCs.out.2
  obtain ⟨z0, z1, z2, z3, z4, z5, z6, z7, z8, z9⟩ := cells10_1 hg
  clear hk hB hB2 hg
  unfold stepV
  unfold cmdV at HM
  rw [hrep, hcode]
  go_wp2
  go_region_held3 (fun w' => w'.cell? ⟨w2.heap.size, 3, none⟩ = some (.int .i64 (rd l0 1)) ∧ w'.cell? ⟨ad.block, ad.off + 1, none⟩ = some (.int .u8 (rd l0 1)) ∧ w'.cell? ⟨w2.heap.size + 1, 0, none⟩ = some (Value.int .i64 m.op) ∧ w'.cell? ⟨w2.heap.size + 1, 1, none⟩ = some (Value.string m.key) ∧ w'.cell? ⟨w2.heap.size + 1, 2, none⟩ = some (Value.slice A m.val.length c) ∧ w'.cell? ⟨w2.heap.size + 1, 3, none⟩ = some (Value.int .u32 m.flags) ∧ w'.cell? ⟨w2.heap.size + 1, 4, none⟩ = some (Value.int .i64 m.exp) ∧ w'.cell? ⟨w2.heap.size + 1, 5, none⟩ = some (Value.int .u64 m.cas) ∧ w'.cell? ⟨w2.heap.size + 1, 6, none⟩ = some (Value.int .u64 m.delta) ∧ w'.cell? ⟨w2.heap.size + 1, 7, none⟩ = some (Value.int .u64 m.init) ∧ w'.cell? ⟨w2.heap.size + 1, 8, none⟩ = some (Value.bool m.makes) ∧ w'.cell? ⟨w2.heap.size + 1, 9, none⟩ = some (Value.bool false)) (go_keep)
    ((first | (go_at_call 13; (refine (HM.out _ _ _).mono ?_); rintro e w3 ⟨rfl, hB⟩; have HB3 := Aside0.mk (below_step (show Below w.heap.size w _ from by repeat (with_reducible first | exact HB2.out | apply below_alloc | apply below_drew | apply pw_below_drewN)) hB); have hz2 := pw_cell_below HB3.out HCs.out.2; have k4 := blk_any hB (by first | exact blk_alloc (blk_new w2 _) _ | exact blk_drewN (blk_alloc (blk_new w2 _) _) _); have k5 := blk_any hB (by first | exact new2 w2 _ _ | exact blk_drewN (new2 w2 _ _) _); obtain ⟨y0, y1', y2', y3, y4, y5, y6, y7, y8, y9⟩ := cells10 k5; clear k5; have k43 := blk_cell k4 3; have k44 : w3.cell? ⟨w2.heap.size, 3, none⟩ = some (.int .i64 (rd l0 1)) := k43; clear k4 k43 hB hz0 hz1 z0 z1 z2 z3 z4 z5 z6 z7 z8 z9)))
  all_goals (
    go_wp2
    go_ret
    exact ⟨by first | rfl | simp, by repeat (with_reducible first | exact HB3.out | apply below_alloc | apply below_drew | apply pw_below_drewN)⟩)
theorem row_ops : ∀ n : Fin 256, ∀ r ∈ plainC ((n : Nat) : Int), r.2.2 = 0 ∨ r.2.2 = 4 → 13 ≤ r.1 := by decide +kernel
theorem cut_four {l : List Int} (a : Nat) (h : a + 4 ≤ l.length) : cut l a (a + 4) = [at0 l a, at0 l (a + 1), at0 l (a + 2), at0 l (a + 3)] := by
  apply List.ext_getElem?
  intro i
  unfold cut
  rw [List.getElem?_drop]
  by_cases h4 : i < 4
  · obtain rfl | rfl | rfl | rfl : i = 0 ∨ i = 1 ∨ i = 2 ∨ i = 3 := by omega
    all_goals (rw [List.getElem?_take_of_lt (by omega)]; simp [at0, List.getD_eq_getElem?_getD]; rw [List.getElem?_eq_getElem (by omega)]; simp)
  · rw [List.getElem?_eq_none (by rw [List.length_take]; omega), List.getElem?_eq_none (by simp; omega)]
theorem at0_range {l : List Int} (hb : ∀ x ∈ l, 0 ≤ x ∧ x ≤ 255) (i : Nat) : 0 ≤ at0 l i ∧ at0 l i ≤ 255 := by
  by_cases h : i < l.length
  · have := hb l[i] (List.getElem_mem h)
    simpa [at0, List.getD_eq_getElem?_getD, List.getElem?_eq_getElem h] using this
  · have : at0 l i = 0 := by simp [at0, List.getD_eq_getElem?_getD, List.getElem?_eq_none (by omega : l.length ≤ i)]
    omega
/-- The four bytes of a number that four bytes tell. -/
theorem put_be4 (a b c d : Int) (ha : 0 ≤ a ∧ a ≤ 255) (hb : 0 ≤ b ∧ b ≤ 255) (hc : 0 ≤ c ∧ c ≤ 255) (hd : 0 ≤ d ∧ d ≤ 255) : putL4 (be [a, b, c, d]) = [a, b, c, d] := by
  have e : be [a, b, c, d] = ((a * 256 + b) * 256 + c) * 256 + d := by simp [be]
  rw [e]
  unfold putL4
  congr 1
  · omega
  · congr 1
    · omega
    · congr 1
      · omega
      · congr 1
        omega
theorem fault_range (code st opq : Int) (hc : 0 ≤ code ∧ code ≤ 255) : ∀ x ∈ faultL code st opq, 0 ≤ x ∧ x < 256 := by
  intro x hx
  simp [faultL, putL2, putL4] at hx
  omega
theorem exOf_range (x : List Int) (hb : ∀ y ∈ x, 0 ≤ y ∧ y ≤ 255) : 0 ≤ (exOf x).exp ∧ (exOf x).exp < 4294967296 := by
  have hr : ∀ a b : Nat, b ≤ x.length → b - a = 4 → 0 ≤ be (cut x a b) ∧ be (cut x a b) < 4294967296 := fun a b h1 h2 => by
    have := be_range (cut x a b) (cut_bytes a b hb)
    rw [cut_len _ _ _ h1, h2] at this
    exact this
  unfold exOf
  split
  · rename_i h
    have := be_range x hb
    rw [h] at this
    exact this
  · split
    · rename_i h
      exact hr 4 8 (by omega) (by omega)
    · split
      · rename_i h
        simp only
        split
        · omega
        · exact hr 16 20 (by omega) (by omega)
      · simp
/-- What a whole packet's request is, as the law asks. -/
theorem req_may (code opq cas : Int) (x k : Nat) (body : List Int) (m : Cm) (q : Bool) (key : Option ByteArray) (hcode : 0 ≤ code ∧ code ≤ 255) (hb : ∀ y ∈ body, 0 ≤ y ∧ y ≤ 255) (h : reqS code opq cas x k body = ⟨some m, 2, code, opq, q, key, ⟨#[]⟩, 24 + (body.length : Int), 0⟩) :
    ((1 ≤ m.key.size ∧ m.key.size ≤ 250) ∨ (m.key = ⟨#[]⟩ ∧ 13 ≤ m.op)) ∧ m.val.length ≤ 1000 ∧ 0 ≤ m.exp ∧ m.exp < 4294967296 ∧ 0 ≤ m.op ∧ m.op ≤ 16 := by
  have hcr := loud_range ⟨code.toNat, by omega⟩
  rw [show ((code.toNat : Nat) : Int) = code by omega] at hcr
  have hpk := row_kinds ⟨(loudC code).1.toNat, by omega⟩
  have hpo := row_ops ⟨(loudC code).1.toNat, by omega⟩
  rw [show (((loudC code).1.toNat : Nat) : Int) = (loudC code).1 by omega] at hpk hpo
  unfold reqS at h
  cases hp : plainC (loudC code).1 with
  | none => rw [hp] at h; exact absurd (show (2 : Int) = 0 from congrArg St.e h) (by decide)
  | some r =>
    obtain ⟨op, ee, has⟩ := r
    rw [hp] at h
    obtain ⟨hh, hee, ho0, ho1⟩ := hpk (op, ee, has) hp
    have hop := hpo (op, ee, has) hp
    simp only at h hh hee ho0 ho1 hop
    by_cases hf : fitsB body.length x k ee has = false
    · rw [if_pos hf] at h; exact absurd (show (2 : Int) = 0 from congrArg St.e h) (by decide)
    · rw [if_neg hf] at h
      have hf' : fitsB body.length x k ee has = true := by simpa using hf
      have hfd := of_decide_eq_true (show decide _ = true from hf')
      by_cases hbk : (has = 1 ∨ has = 3) ∧ ¬ (1 ≤ k ∧ k ≤ 250)
      · rw [if_pos hbk] at h; exact absurd (show (2 : Int) = 0 from congrArg St.e h) (by decide)
      · rw [if_neg hbk] at h
        by_cases hlg : x + k + 1000 < body.length
        · rw [if_pos hlg] at h; exact absurd (show (2 : Int) = 0 from congrArg St.e h) (by decide)
        · rw [if_neg hlg] at h
          have hm := Option.some.inj (congrArg St.cmd h)
          subst hm
          have hlk : (cut body x (x + k)).length = k := by rw [cut_len _ _ _ (by omega)]; omega
          have hex := exOf_range (body.take x) (fun y hy => hb y (List.mem_of_mem_take hy))
          refine ⟨?_, ?_, hex.1, hex.2, ho0, ho1⟩
          · by_cases h13 : has = 1 ∨ has = 3
            · refine .inl ?_
              show 1 ≤ (strOfNums (cut body x (x + k))).size ∧ _
              rw [strOfNums_size, hlk]
              omega
            · refine .inr ⟨?_, hop (by omega)⟩
              show strOfNums (cut body x (x + k)) = _
              rw [List.eq_nil_of_length_eq_zero (show (cut body x (x + k)).length = 0 by omega)]
              rfl
          · show (if has = 3 then body.drop (x + k) else []).length ≤ 1000
            split
            · rw [List.length_drop]; omega
            · simp
theorem sane_w (A0 : Option Addr) (c0 : Nat) (l0 : List Int) (w : World) (hr0 : Kd.C (Kd.int .u8) w A0 l0.length l0) (hc0 : l0.length ≤ c0) (hb0 : ∀ x ∈ l0, 0 ≤ x ∧ x ≤ 255) :
    Calls Try.prog 4 #[.slice A0 l0.length c0] w fun e w' => e = .returned (.bool true) ∧ Below w.heap.size w w' := by
  by_cases h0 : 5000 < l0.length
  · exact sane_long A0 c0 l0 w h0
  · rcases parse_cases l0 with h | h | h
    · exact sane_more A0 c0 l0 w hr0 hc0 hb0 (by omega) h
    · refine sane_end A0 c0 l0 w hr0 hc0 hb0 (by omega) ?_ h
      refine Nat.pos_of_ne_zero fun e => ?_
      rw [List.eq_nil_of_length_eq_zero e] at h
      exact absurd (congrArg St.e h) (by decide)
    · have hp := parse_whole h
      have hu := whole_used hb0 h
      have hz := be_ok hb0 8 12
      have hbl := body_len hb0 h
      have hbb : ∀ y ∈ cut l0 24 (24 + (be (cut l0 8 12)).toNat), 0 ≤ y ∧ y ≤ 255 := cut_bytes _ _ hb0
      have hcd := byte_at l0 1 hb0
      rw [show rd l0 ((1 : Nat) : Int) = rd l0 1 from rfl] at hcd
      obtain ⟨g1, g2, g3, g4⟩ := h
      rcases reqS_cases (rd l0 1) (be (cut l0 12 16)) (be (cut l0 16 24)) (rd l0 4).toNat (be (cut l0 2 4)).toNat (cut l0 24 (24 + (be (cut l0 8 12)).toNat)) with ⟨st, hr⟩ | ⟨m, q, key, hr⟩
      · rw [hr] at hp
        have h16 : strOfNums (cut (faultL (rd l0 1) st (be (cut l0 12 16))) 12 16) = strOfNums (cut l0 12 16) := by
          congr 1
          have e := cut_four (l := l0) 12 (by omega)
          have e' : cut (faultL (rd l0 1) st (be (cut l0 12 16))) 12 16 = putL4 (be (cut l0 12 16)) := rfl
          rw [e', show (16 : Nat) = 12 + 4 from rfl, e]
          exact put_be4 _ _ _ _ (at0_range hb0 _) (at0_range hb0 _) (at0_range hb0 _) (at0_range hb0 _)
        refine sane_fault A0 c0 l0 w hr0 hc0 hb0 (by omega) _ rfl (by rw [hu.1]; omega) (by rw [hu.1]; omega) (by rw [hu.1]; omega) g1 (by rw [hp]; rfl) (by rw [hp]; rfl) (faultL (rd l0 1) st (be (cut l0 12 16))) (by rw [hp]; rfl) rfl (fault_range _ _ _ hcd) rfl ?_ ?_
        · show rd l0 1 % 256 = rd l0 1
          omega
        · rw [← h16]
          apply ByteArray.ext
          rw [ByteArray.data_extract]
          apply Array.ext'
          simp [strOfNums, cut, List.map_take, List.map_drop]
          exact (List.drop_take (i := 12) (j := 16)).symm
      · rw [hr] at hp
        obtain ⟨j1, j2, j3, j4, j5, j6⟩ := req_may _ _ _ _ _ _ m q key hcd hbb hr
        exact sane_full A0 c0 l0 w hr0 hc0 hb0 (by omega) _ rfl (by rw [hu.1]; omega) (by rw [hu.1]; omega) (by rw [hu.1]; omega) g1 (by rw [hp]) m (by rw [hp]) (by rw [hp]) (by rw [hp]) j1 j2 j3 j4 j5 j6
def butterylaw16_BininSane.Ok (l0 : List Int) : Prop := (∀ x ∈ l0, 0 ≤ x ∧ x ≤ 255)
noncomputable def butterylaw16_BininSane.f (l0 : List Int) : Option Bool := @ite _ (butterylaw16_BininSane.Ok l0) (Classical.propDecidable _) (some true) none
theorem butterylaw16_BininSane.calls (A0 : Option Addr) (c0 : Nat) (l0 : List Int) (r : Bool) (w : World) (hr0 : Kd.C (Kd.int .u8) w A0 l0.length l0) (hc0 : l0.length ≤ c0) (h : butterylaw16_BininSane.f l0 = some r) :
    Calls Try.prog 4 #[.slice A0 l0.length c0] w fun e w' => e = .returned (.bool r) ∧ Below w.heap.size w w' := by
  unfold butterylaw16_BininSane.f at h
  by_cases hO : butterylaw16_BininSane.Ok l0
  · rw [if_pos hO] at h
    obtain rfl := Option.some.inj h
    exact sane_w A0 c0 l0 w hr0 hc0 hO
  · rw [if_neg hO] at h
    cases h

/-- THE ONE PURE STATEMENT of butterylaw16_BininSane: yours. -/
def butterylaw16_BininSane.Pure : Prop := ∀ (l0 : List Int), l0.length ≤ maxLen → l0.length * 1 ≤ 140737488351232 → (∀ x ∈ l0, (Lit.int .u8 x).wf = true) → butterylaw16_BininSane.f l0 = some true
theorem butterylaw16_BininSane.walk (P : butterylaw16_BininSane.Pure) (a0 : Option Addr) (len0 cap0 : Nat) (z0 : List Int) (w : World) (w0 : (a0 = none ∧ len0 = 0 ∧ cap0 = 0 ∧ z0 = []) ∨ ∃ x, a0 = some x ∧ len0 ≤ cap0 ∧ cap0 ≤ maxLen ∧ z0.length = cap0 ∧ (∀ i, i < z0.length → w.cell? (x.add i) = some (.int .u8 (z0.getD i 0))) ∧ ∀ n ∈ z0, (Lit.int .u8 n).wf = true) (y0 : len0 * 1 ≤ 140737488351232) :
    Calls Try.prog 4 #[.slice a0 len0 cap0] w fun e w' => e = .returned (.bool true) ∧ Below w.heap.size w w' := by
  obtain ⟨l0, rfl, hr0, hm0, hw0, hc0⟩ := ReadsInt.ofRowC w0
  have h := P l0 hm0 y0 hw0
  refine (butterylaw16_BininSane.calls _ _ l0 true w (Kd.C_of_reads (d := (0 : Int)) (h1 := fun _ => rfl) hr0) hc0 h).mono ?_
  rintro e w' ⟨rfl, hd⟩
  exact ⟨rfl, hd⟩

end Go.Proofs.Ytkbhnnmngmdkdaa.Hb
