-- Written by this session's own program (wip/hprint.py) out of the translation, over hand-proved contracts. Lean checks it.
import Derived.Test.YtkbhnnmngmdkdaaHbx0
import Derived.Test.YtkbhnnmngmdkdaaHbx3
import Derived.Test.YtkbhnnmngmdkdaaHbx4
import Derived.Test.YtkbhnnmngmdkdaaHbx5
namespace Go.Proofs.Ytkbhnnmngmdkdaa.Hb
open Go.RowKit Go.Proofs.YtkbhnnmngmdkdaaW.PrintWords Go.Proofs.YtkbhnnmngmdkdaaW.PrintLast Go.Proofs.YtkbhnnmngmdkdaaW.PrintMore
attribute [local go_sem] max2_int min2_int max_two min_two max_three min_three max_four min_four   -- for this text's walks alone
set_option linter.unusedVariables false
set_option linter.unusedSimpArgs false

/-! ### butterylaw16_BininQuiet: function 6 -/
theorem infoQ : (Try.prog.info? 5).map (fun i => (i.zero, i.size, i.bytes)) = some (some (.int .u8 0), 1, 1) := by kernel_rfl
set_option maxHeartbeats 8000000 in
set_option maxRecDepth 100000 in
theorem quiet_long (A0 : Option Addr) (c0 : Nat) (l0 : List Int) (code : Int) (w : World) (h : 3000 < l0.length) : Calls Try.prog 6 #[.slice A0 l0.length c0, .int .i64 code] w fun e w' => e = .returned (.bool true) ∧ Below w.heap.size w w' := by
  have t1 : decide (3000 < l0.length) = true := decide_eq_true h
  have t2 : decide ((l0.length : Int) > 3000) = true := decide_eq_true (by omega)
  clear h
  generalize l0.length = n0 at *
  go_enter Try.func6, Try.ntmps6
  go_wp2_with (first | (go_at_call 9; refine (awake_w _).mono ?_; rintro e w1 ⟨rfl, hB⟩; have HB1 := Aside0.mk hB; clear hB))
  go_ret
  exact ⟨rfl, HB1.out⟩
set_option maxHeartbeats 8000000 in
set_option maxRecDepth 100000 in
theorem quiet_few (A0 : Option Addr) (c0 : Nat) (l0 : List Int) (code : Int) (w : World) (h0 : ¬ 3000 < l0.length) (h : l0.length < 24) : Calls Try.prog 6 #[.slice A0 l0.length c0, .int .i64 code] w fun e w' => e = .returned (.bool true) ∧ Below w.heap.size w w' := by
  have t1 : decide (3000 < l0.length) = false := decide_eq_false h0
  have t2 : decide ((l0.length : Int) > 3000) = false := decide_eq_false (by omega)
  have t3 : decide (l0.length < 24) = true := decide_eq_true h
  have t4 : decide ((l0.length : Int) < 24) = true := decide_eq_true (by omega)
  clear h
  generalize l0.length = n0 at *
  go_enter Try.func6, Try.ntmps6
  go_wp2_with (first | (go_at_call 9; refine (awake_w _).mono ?_; rintro e w1 ⟨rfl, hB⟩; have HB1 := Aside0.mk hB; clear hB))
  go_ret
  exact ⟨rfl, HB1.out⟩
set_option maxHeartbeats 8000000 in
set_option maxRecDepth 100000 in
theorem quiet_low (A0 : Option Addr) (c0 : Nat) (l0 : List Int) (code : Int) (w : World) (h0 : ¬ 3000 < l0.length) (h1 : ¬ l0.length < 24) (h : code < 1) : Calls Try.prog 6 #[.slice A0 l0.length c0, .int .i64 code] w fun e w' => e = .returned (.bool true) ∧ Below w.heap.size w w' := by
  have t1 : decide (3000 < l0.length) = false := decide_eq_false h0
  have t2 : decide ((l0.length : Int) > 3000) = false := decide_eq_false (by omega)
  have t3 : decide (l0.length < 24) = false := decide_eq_false h1
  have t4 : decide ((l0.length : Int) < 24) = false := decide_eq_false (by omega)
  have t5 : decide (code < 1) = true := decide_eq_true h
  clear h
  generalize l0.length = n0 at *
  go_enter Try.func6, Try.ntmps6
  go_wp2_with (first | (go_at_call 9; refine (awake_w _).mono ?_; rintro e w1 ⟨rfl, hB⟩; have HB1 := Aside0.mk hB; clear hB))
  go_ret
  exact ⟨rfl, HB1.out⟩
set_option maxHeartbeats 8000000 in
set_option maxRecDepth 100000 in
theorem quiet_high (A0 : Option Addr) (c0 : Nat) (l0 : List Int) (code : Int) (w : World) (h0 : ¬ 3000 < l0.length) (h1 : ¬ l0.length < 24) (h2 : ¬ code < 1) (h : 8 < code) : Calls Try.prog 6 #[.slice A0 l0.length c0, .int .i64 code] w fun e w' => e = .returned (.bool true) ∧ Below w.heap.size w w' := by
  have t1 : decide (3000 < l0.length) = false := decide_eq_false h0
  have t2 : decide ((l0.length : Int) > 3000) = false := decide_eq_false (by omega)
  have t3 : decide (l0.length < 24) = false := decide_eq_false h1
  have t4 : decide ((l0.length : Int) < 24) = false := decide_eq_false (by omega)
  have t5 : decide (code < 1) = false := decide_eq_false h2
  have t6 : decide (code > 8) = true := decide_eq_true h
  clear h
  generalize l0.length = n0 at *
  go_enter Try.func6, Try.ntmps6
  go_wp2_with (first | (go_at_call 9; refine (awake_w _).mono ?_; rintro e w1 ⟨rfl, hB⟩; have HB1 := Aside0.mk hB; clear hB))
  go_ret
  exact ⟨rfl, HB1.out⟩
set_option maxHeartbeats 8000000 in
set_option maxRecDepth 100000 in
theorem quiet_bad (A0 : Option Addr) (c0 : Nat) (l0 : List Int) (code : Int) (w : World) (hr0 : Kd.C (Kd.int .u8) w A0 l0.length l0) (hc0 : l0.length ≤ c0) (hb0 : ∀ x ∈ l0, 0 ≤ x ∧ x ≤ 255) (h0 : l0.length ≤ 3000) (h1 : 24 ≤ l0.length) (hc1 : 1 ≤ code) (hc2 : code ≤ 8) (s t : St) (hs : parseS (l0.set 1 code) = s) (ht : parseS (l0.set 1 (code + 16)) = t) (he : s.e ≠ 0) (het : t.e = s.e) (hut : t.used = s.used) (hrt : t.reply.size = s.reply.size) : Calls Try.prog 6 #[.slice A0 l0.length c0, .int .i64 code] w fun e w' => e = .returned (.bool true) ∧ Below w.heap.size w w' := by
  have hu34 := Try.underlying34
  have hu31 := Try.underlying31
  have hu29 := Try.underlying29
  have hu22 := Try.underlying22
  have t1 : decide (3000 < l0.length) = false := decide_eq_false (by omega)
  have t2 : decide ((l0.length : Int) > 3000) = false := decide_eq_false (by omega)
  have t3 : decide (l0.length < 24) = false := decide_eq_false (by omega)
  have t4 : decide ((l0.length : Int) < 24) = false := decide_eq_false (by omega)
  have t5 : decide (code < 1) = false := decide_eq_false (by omega)
  have t6 : decide (code > 8) = false := decide_eq_false (by omega)
  have HR0 := Aside0.mk hr0
  have hset : ∀ (z : Int), 0 ≤ z ∧ z ≤ 255 → ∀ x ∈ l0.set 1 z, 0 ≤ x ∧ x ≤ 255 := fun z hz x hx => (List.mem_or_eq_of_mem_set hx).elim (hb0 x) (fun e => e ▸ hz)
  have HPx : Aside0 (∀ (W : World) (B : Option Addr) (cB : Nat), Kd.C (Kd.int .u8) W B l0.length (l0.set 1 code) → l0.length ≤ cB → Calls Try.prog 11 #[.slice B l0.length cB] W fun e w' => ReqPost W s e w') := ⟨fun W B cB hC hle => by
    have h := parse_w B cB (l0.set 1 code) W (by rw [List.length_set]; exact hC) (by rw [List.length_set]; exact hle) (hset _ (by omega)) (by rw [List.length_set]; omega)
    rw [List.length_set, hs] at h
    exact h⟩
  have HPy : Aside0 (∀ (W : World) (B : Option Addr) (cB : Nat), Kd.C (Kd.int .u8) W B l0.length (l0.set 1 (code + 16)) → l0.length ≤ cB → Calls Try.prog 11 #[.slice B l0.length cB] W fun e w' => ReqPost W t e w') := ⟨fun W B cB hC hle => by
    have h := parse_w B cB (l0.set 1 (code + 16)) W (by rw [List.length_set]; exact hC) (by rw [List.length_set]; exact hle) (hset _ (by omega)) (by rw [List.length_set]; omega)
    rw [List.length_set, ht] at h
    exact h⟩
  have w1' : wrap64 (code + 16) = code + 16 := by clear t1 t2 t3 t4 t5 t6; unfold wrap64; omega
  have w2' : IntKind.u8.wrap code = code := by clear w1' t1 t2 t3 t4 t5 t6; simp [IntKind.wrap, IntKind.bits, IntKind.signed]; omega
  have w3' : IntKind.u8.wrap (code + 16) = code + 16 := by clear w1' w2' t1 t2 t3 t4 t5 t6; simp [IntKind.wrap, IntKind.bits, IntKind.signed]; omega
  have HLen := Aside0.mk (And.intro h0 h1)
  have q1 : (s.e != s.e) = false := by simp
  have q2 : (s.used != s.used) = false := by simp
  have q3 : (s.e != 0) = true := bne_iff_ne.mpr he
  have HQ := Aside0.mk (And.intro het (And.intro hut hrt))
  have q4 : ((s.reply.size : Int) == (s.reply.size : Int)) = true := by simp
  have q5 : (s.reply.size == s.reply.size) = true := by simp
  clear he het hut hrt
  clear hr0 hc0 hb0 hset hs ht h0 h1 hc1 hc2
  generalize hn0 : l0.length = n0 at *
  have i1 : (1 : Int) < (n0 : Int) := by have := HLen.out; omega
  have HN := Aside0.mk hn0
  clear hn0
  go_enter Try.func6, Try.ntmps6
  go_wp2_with (first | (go_at_call 9; refine (awake_w _).mono ?_; rintro e w1 ⟨rfl, hB⟩; have HB1 := Aside0.mk hB; clear hB) | ((with_reducible refine gate_builtin (b := .append) (xs := #[.const (.slice none 0 0), .tmp 28]) rfl ?_); at_builtin; refine Kd.R_append_rows (Kd.int .u8) (w0 := _) _ rfl (.const (.slice none 0 0)) (.tmp 28) 22 5 (.int .u8 0) 1 rfl Try.underlying22 infoQ rfl (by decide) (by omega) (.slice none 0 0) ([] : List Int) l0 _ _ _ (fun _ => True) (fun _ => False) rfl rfl (Kd.R_nil _ _ _ _ _) (Kd.C_below HR0.out HB1.out) (fun _ _ h => h) (fun _ h => h.elim) (fun _ _ => trivial) (Below.refl _ _) (Nat.le_refl _) (by have := HLen.out; simp only [List.length_nil]; omega) ?_; intro v2 w2 hR hB _ _; rw [List.nil_append] at hR; obtain ⟨g1, cp1, hv, hg1, hg1', _⟩ := Kd.R_form hR (by have := HLen.out; have := HN.out; omega); rw [HN.out] at hv; subst hv; have HR1 := Aside0.mk (Kd.R_bound hR); have HB2 := Aside0.mk (below_step HB1.out hB); have HG1 := Aside0.mk (And.intro hg1 hg1'); clear hR hB hg1 hg1') | ((with_reducible refine gate_builtin (b := .append) (xs := #[.const (.slice none 0 0), .tmp 30]) rfl ?_); at_builtin; refine Kd.R_append_rows (Kd.int .u8) (w0 := _) _ rfl (.const (.slice none 0 0)) (.tmp 30) 22 5 (.int .u8 0) 1 rfl Try.underlying22 infoQ rfl (by decide) (by omega) (.slice none 0 0) ([] : List Int) l0 _ _ _ (fun _ => True) (fun _ => False) rfl rfl (Kd.R_nil _ _ _ _ _) (Kd.C_below HR0.out HB2.out) (fun _ _ h => h) (fun _ h => h.elim) (fun _ _ => trivial) (Below.refl _ _) (Nat.le_refl _) (by have := HLen.out; simp only [List.length_nil]; omega) ?_; intro v3 w3 hR hB _ _; rw [List.nil_append] at hR; obtain ⟨g2, cp2, hv, hg2, hg2', _⟩ := Kd.R_form hR (by have := HLen.out; have := HN.out; omega); rw [HN.out] at hv; subst hv; have HR2 := Aside0.mk (Kd.R_bound hR); have HR1' := Aside0.mk (Kd.R_below HR1.out hB); have HB3 := Aside0.mk (below_step HB2.out hB); have HG2 := Aside0.mk hg2; obtain ⟨ca1, ca2⟩ := Kd.R_celln (0 : Int) HR1'.out 1 (by omega) (by have := HLen.out; omega); have HS2 := Aside0.mk (Kd.R_far HR2.out (p := ⟨g1, 1, none⟩) (fun k hk e => by have h1 := hk.2.1; have h2 := HG1.out.2; have h3 : k = g1 := e; omega) (Value.int .u8 code)); obtain ⟨cb1, cb2⟩ := Kd.R_celln (0 : Int) HS2.out 1 (by omega) (by have := HLen.out; omega); simp only [show (1 : Int).toNat = 1 from rfl] at ca1 ca2 cb1 cb2; clear hR hB hg2 hg2'))
  have HX := Aside0.mk (Kd.R_far (Kd.R_putn HR1'.out 1 code) (p := ⟨g2, 1, none⟩) (fun k hk e => by have h1 := hk.2.2.1; have h2 := HG2.out; have h3 : k = g2 := e; omega) (Value.int .u8 (code + 16)))
  have HY := Aside0.mk (Kd.R_putn HS2.out 1 (code + 16))
  have HBW : Aside0 (Below w.heap.size w ((w3.setCell ⟨g1, 1, none⟩ (.int .u8 code)).setCell ⟨g2, 1, none⟩ (.int .u8 (code + 16)))) := ⟨below_set (below_set HB3.out (by have := HG1.out.1; have := HB1.out.size; omega)) (by have := HG2.out; have := HB2.out.size; omega)⟩
  clear ca1 ca2 cb1 cb2 w2' w3' HR1 HR1' HR2 HS2 HG1 HG2
  simp only [show (1 : Int).toNat = 1 from rfl] at HX HY
  have HX' : Aside0 (Kd.R (Kd.int .u8) 5 ((w3.setCell ⟨g1, 1, none⟩ (.int .u8 code)).setCell ⟨g2, 1, none⟩ (.int .u8 (code + 16))) _ _ (.slice (some ⟨g1, 0, none⟩) n0 cp1) (l0.set 1 code)) := HX
  have HY' : Aside0 (Kd.R (Kd.int .u8) 5 ((w3.setCell ⟨g1, 1, none⟩ (.int .u8 code)).setCell ⟨g2, 1, none⟩ (.int .u8 (code + 16))) _ _ (.slice (some ⟨g2, 0, none⟩) n0 cp2) (l0.set 1 (code + 16))) := HY
  generalize (w3.setCell ⟨g1, 1, none⟩ (.int .u8 code)).setCell ⟨g2, 1, none⟩ (.int .u8 (code + 16)) = W at HX' HY' HBW ⊢
  clear HX HY
  obtain ⟨hxn, hxc, hxC⟩ := Kd.R_reads' HX'.out
  obtain ⟨hyn, hyc, hyC⟩ := Kd.R_reads' HY'.out
  rw [← hxn] at hxC
  rw [← hyn] at hyC
  have HYC := Aside0.mk (And.intro hyC hyc)
  refine (HPx.out W _ _ hxC hxc).mono ?_
  clear hxn hxc hxC hyn hyc hyC HX' HY'
  rintro e w4 ⟨v, rfl, ⟨cv, kv, rfl, hc, hk⟩, hB⟩
  obtain ⟨a1, n1, c1, rfl⟩ := hc.slice
  obtain ⟨ka1, kn1, kc1, rfl⟩ := hk.slice
  have HS := Aside0.mk (And.intro hc hk)
  have HB4 := Aside0.mk (below_step HBW.out hB)
  have HYD := Aside0.mk (And.intro (Kd.C_below HYC.out.1 hB) HYC.out.2)
  clear hc hk hB
  unfold stepV
  go_wp2_with fail
  refine (HPy.out _ _ _ (Kd.C_below HYD.out.1 (below_alloc (Below.refl _ _) _)) HYD.out.2).mono ?_
  rintro e w5 ⟨v, rfl, ⟨cv, kv, rfl, hc, hk⟩, hB⟩
  obtain ⟨a2, n2, c2, rfl⟩ := hc.slice
  obtain ⟨ka2, kn2, kc2, rfl⟩ := hk.slice
  have HT := Aside0.mk (And.intro hc hk)
  have HB5 := Aside0.mk (below_step (below_alloc HB4.out _) hB)
  have HB5' := Aside0.mk hB
  have k8 := blk_any hB (blk_new w4 _)
  have HK8 := Aside0.mk k8
  obtain ⟨r0, r1, r2, r3, r4, r5, r6, r7, r8, r9, r10, r11, r12, r13, r14, r15⟩ := cells16_1 k8
  clear hc hk hB k8
  unfold stepV
  rw [HQ.out.1, HQ.out.2.1]
  have hq := HQ.out.2.2
  go_wp2
  go_ret
  exact ⟨by first | rfl | simp, below_alloc HB5.out _⟩
set_option maxHeartbeats 8000000 in
set_option maxRecDepth 100000 in
theorem quiet_good (A0 : Option Addr) (c0 : Nat) (l0 : List Int) (code : Int) (w : World) (hr0 : Kd.C (Kd.int .u8) w A0 l0.length l0) (hc0 : l0.length ≤ c0) (hb0 : ∀ x ∈ l0, 0 ≤ x ∧ x ≤ 255) (h0 : l0.length ≤ 3000) (h1 : 24 ≤ l0.length) (hc1 : 1 ≤ code) (hc2 : code ≤ 8) (s t : St) (hs : parseS (l0.set 1 code) = s) (ht : parseS (l0.set 1 (code + 16)) = t) (he : s.e = 0) (hcode : s.code = code) (hts : t = ⟨s.cmd, s.dial, s.code + 16, s.opq, !s.quiet, s.key, s.reply, s.used, s.e⟩) : Calls Try.prog 6 #[.slice A0 l0.length c0, .int .i64 code] w fun e w' => e = .returned (.bool true) ∧ Below w.heap.size w w' := by
  have hu34 := Try.underlying34
  have hu31 := Try.underlying31
  have hu29 := Try.underlying29
  have hu22 := Try.underlying22
  have t1 : decide (3000 < l0.length) = false := decide_eq_false (by omega)
  have t2 : decide ((l0.length : Int) > 3000) = false := decide_eq_false (by omega)
  have t3 : decide (l0.length < 24) = false := decide_eq_false (by omega)
  have t4 : decide ((l0.length : Int) < 24) = false := decide_eq_false (by omega)
  have t5 : decide (code < 1) = false := decide_eq_false (by omega)
  have t6 : decide (code > 8) = false := decide_eq_false (by omega)
  have HR0 := Aside0.mk hr0
  have hset : ∀ (z : Int), 0 ≤ z ∧ z ≤ 255 → ∀ x ∈ l0.set 1 z, 0 ≤ x ∧ x ≤ 255 := fun z hz x hx => (List.mem_or_eq_of_mem_set hx).elim (hb0 x) (fun e => e ▸ hz)
  have HPx : Aside0 (∀ (W : World) (B : Option Addr) (cB : Nat), Kd.C (Kd.int .u8) W B l0.length (l0.set 1 code) → l0.length ≤ cB → Calls Try.prog 11 #[.slice B l0.length cB] W fun e w' => ReqPost W s e w') := ⟨fun W B cB hC hle => by
    have h := parse_w B cB (l0.set 1 code) W (by rw [List.length_set]; exact hC) (by rw [List.length_set]; exact hle) (hset _ (by omega)) (by rw [List.length_set]; omega)
    rw [List.length_set, hs] at h
    exact h⟩
  have HPy : Aside0 (∀ (W : World) (B : Option Addr) (cB : Nat), Kd.C (Kd.int .u8) W B l0.length (l0.set 1 (code + 16)) → l0.length ≤ cB → Calls Try.prog 11 #[.slice B l0.length cB] W fun e w' => ReqPost W t e w') := ⟨fun W B cB hC hle => by
    have h := parse_w B cB (l0.set 1 (code + 16)) W (by rw [List.length_set]; exact hC) (by rw [List.length_set]; exact hle) (hset _ (by omega)) (by rw [List.length_set]; omega)
    rw [List.length_set, ht] at h
    exact h⟩
  have w1' : wrap64 (code + 16) = code + 16 := by clear t1 t2 t3 t4 t5 t6; unfold wrap64; omega
  have w2' : IntKind.u8.wrap code = code := by clear w1' t1 t2 t3 t4 t5 t6; simp [IntKind.wrap, IntKind.bits, IntKind.signed]; omega
  have w3' : IntKind.u8.wrap (code + 16) = code + 16 := by clear w1' w2' t1 t2 t3 t4 t5 t6; simp [IntKind.wrap, IntKind.bits, IntKind.signed]; omega
  have HLen := Aside0.mk (And.intro h0 h1)
  have HTS : Aside0 (t.cmd = s.cmd ∧ t.dial = s.dial ∧ t.code = s.code + 16 ∧ t.opq = s.opq ∧ t.quiet = !s.quiet ∧ t.key = s.key ∧ t.reply = s.reply ∧ t.used = s.used ∧ t.e = s.e) := ⟨by rw [hts]; exact ⟨rfl, rfl, rfl, rfl, rfl, rfl, rfl, rfl, rfl⟩⟩
  have q1 : (s.e != s.e) = false := by simp
  have q2 : (s.used != s.used) = false := by simp
  have q3 : (s.e != 0) = false := bne_eq_false_iff_eq.mpr he
  have q4 : wrap64 s.code = s.code := by clear w1' w2' w3' t1 t2 t3 t4 t5 t6 q1 q2 q3; unfold wrap64; omega
  have HSt : Aside0 (∀ W v1 v2, StepAt W v1 s → StepAt W v2 s → Calls Try.prog 10 #[v1, v2] W fun e w' => e = .returned (.bool true) ∧ Below W.heap.size W w') := ⟨fun W v1 v2 a b => steps_eq v1 v2 s W a b⟩
  have q6 : (!!s.quiet) = s.quiet := Bool.not_not _
  clear he hcode hts
  clear hr0 hc0 hb0 hset hs ht h0 h1 hc1 hc2
  generalize hn0 : l0.length = n0 at *
  have i1 : (1 : Int) < (n0 : Int) := by have := HLen.out; omega
  have HN := Aside0.mk hn0
  clear hn0
  go_enter Try.func6, Try.ntmps6
  go_wp2_with (first | (go_at_call 9; refine (awake_w _).mono ?_; rintro e w1 ⟨rfl, hB⟩; have HB1 := Aside0.mk hB; clear hB) | ((with_reducible refine gate_builtin (b := .append) (xs := #[.const (.slice none 0 0), .tmp 28]) rfl ?_); at_builtin; refine Kd.R_append_rows (Kd.int .u8) (w0 := _) _ rfl (.const (.slice none 0 0)) (.tmp 28) 22 5 (.int .u8 0) 1 rfl Try.underlying22 infoQ rfl (by decide) (by omega) (.slice none 0 0) ([] : List Int) l0 _ _ _ (fun _ => True) (fun _ => False) rfl rfl (Kd.R_nil _ _ _ _ _) (Kd.C_below HR0.out HB1.out) (fun _ _ h => h) (fun _ h => h.elim) (fun _ _ => trivial) (Below.refl _ _) (Nat.le_refl _) (by have := HLen.out; simp only [List.length_nil]; omega) ?_; intro v2 w2 hR hB _ _; rw [List.nil_append] at hR; obtain ⟨g1, cp1, hv, hg1, hg1', _⟩ := Kd.R_form hR (by have := HLen.out; have := HN.out; omega); rw [HN.out] at hv; subst hv; have HR1 := Aside0.mk (Kd.R_bound hR); have HB2 := Aside0.mk (below_step HB1.out hB); have HG1 := Aside0.mk (And.intro hg1 hg1'); clear hR hB hg1 hg1') | ((with_reducible refine gate_builtin (b := .append) (xs := #[.const (.slice none 0 0), .tmp 30]) rfl ?_); at_builtin; refine Kd.R_append_rows (Kd.int .u8) (w0 := _) _ rfl (.const (.slice none 0 0)) (.tmp 30) 22 5 (.int .u8 0) 1 rfl Try.underlying22 infoQ rfl (by decide) (by omega) (.slice none 0 0) ([] : List Int) l0 _ _ _ (fun _ => True) (fun _ => False) rfl rfl (Kd.R_nil _ _ _ _ _) (Kd.C_below HR0.out HB2.out) (fun _ _ h => h) (fun _ h => h.elim) (fun _ _ => trivial) (Below.refl _ _) (Nat.le_refl _) (by have := HLen.out; simp only [List.length_nil]; omega) ?_; intro v3 w3 hR hB _ _; rw [List.nil_append] at hR; obtain ⟨g2, cp2, hv, hg2, hg2', _⟩ := Kd.R_form hR (by have := HLen.out; have := HN.out; omega); rw [HN.out] at hv; subst hv; have HR2 := Aside0.mk (Kd.R_bound hR); have HR1' := Aside0.mk (Kd.R_below HR1.out hB); have HB3 := Aside0.mk (below_step HB2.out hB); have HG2 := Aside0.mk hg2; obtain ⟨ca1, ca2⟩ := Kd.R_celln (0 : Int) HR1'.out 1 (by omega) (by have := HLen.out; omega); have HS2 := Aside0.mk (Kd.R_far HR2.out (p := ⟨g1, 1, none⟩) (fun k hk e => by have h1 := hk.2.1; have h2 := HG1.out.2; have h3 : k = g1 := e; omega) (Value.int .u8 code)); obtain ⟨cb1, cb2⟩ := Kd.R_celln (0 : Int) HS2.out 1 (by omega) (by have := HLen.out; omega); simp only [show (1 : Int).toNat = 1 from rfl] at ca1 ca2 cb1 cb2; clear hR hB hg2 hg2'))
  have HX := Aside0.mk (Kd.R_far (Kd.R_putn HR1'.out 1 code) (p := ⟨g2, 1, none⟩) (fun k hk e => by have h1 := hk.2.2.1; have h2 := HG2.out; have h3 : k = g2 := e; omega) (Value.int .u8 (code + 16)))
  have HY := Aside0.mk (Kd.R_putn HS2.out 1 (code + 16))
  have HBW : Aside0 (Below w.heap.size w ((w3.setCell ⟨g1, 1, none⟩ (.int .u8 code)).setCell ⟨g2, 1, none⟩ (.int .u8 (code + 16)))) := ⟨below_set (below_set HB3.out (by have := HG1.out.1; have := HB1.out.size; omega)) (by have := HG2.out; have := HB2.out.size; omega)⟩
  clear ca1 ca2 cb1 cb2 w2' w3' HR1 HR1' HR2 HS2 HG1 HG2
  simp only [show (1 : Int).toNat = 1 from rfl] at HX HY
  have HX' : Aside0 (Kd.R (Kd.int .u8) 5 ((w3.setCell ⟨g1, 1, none⟩ (.int .u8 code)).setCell ⟨g2, 1, none⟩ (.int .u8 (code + 16))) _ _ (.slice (some ⟨g1, 0, none⟩) n0 cp1) (l0.set 1 code)) := HX
  have HY' : Aside0 (Kd.R (Kd.int .u8) 5 ((w3.setCell ⟨g1, 1, none⟩ (.int .u8 code)).setCell ⟨g2, 1, none⟩ (.int .u8 (code + 16))) _ _ (.slice (some ⟨g2, 0, none⟩) n0 cp2) (l0.set 1 (code + 16))) := HY
  generalize (w3.setCell ⟨g1, 1, none⟩ (.int .u8 code)).setCell ⟨g2, 1, none⟩ (.int .u8 (code + 16)) = W at HX' HY' HBW ⊢
  clear HX HY
  obtain ⟨hxn, hxc, hxC⟩ := Kd.R_reads' HX'.out
  obtain ⟨hyn, hyc, hyC⟩ := Kd.R_reads' HY'.out
  rw [← hxn] at hxC
  rw [← hyn] at hyC
  have HYC := Aside0.mk (And.intro hyC hyc)
  refine (HPx.out W _ _ hxC hxc).mono ?_
  clear hxn hxc hxC hyn hyc hyC HX' HY'
  rintro e w4 ⟨v, rfl, ⟨cv, kv, rfl, hc, hk⟩, hB⟩
  obtain ⟨a1, n1, c1, rfl⟩ := hc.slice
  obtain ⟨ka1, kn1, kc1, rfl⟩ := hk.slice
  have HS := Aside0.mk (And.intro hc hk)
  have HB4 := Aside0.mk (below_step HBW.out hB)
  have HYD := Aside0.mk (And.intro (Kd.C_below HYC.out.1 hB) HYC.out.2)
  clear hc hk hB
  unfold stepV
  go_wp2_with fail
  refine (HPy.out _ _ _ (Kd.C_below HYD.out.1 (below_alloc (Below.refl _ _) _)) HYD.out.2).mono ?_
  rintro e w5 ⟨v, rfl, ⟨cv, kv, rfl, hc, hk⟩, hB⟩
  obtain ⟨a2, n2, c2, rfl⟩ := hc.slice
  obtain ⟨ka2, kn2, kc2, rfl⟩ := hk.slice
  have HT := Aside0.mk (And.intro hc hk)
  have HB5 := Aside0.mk (below_step (below_alloc HB4.out _) hB)
  have HB5' := Aside0.mk hB
  have k8 := blk_any hB (blk_new w4 _)
  have HK8 := Aside0.mk k8
  obtain ⟨r0, r1, r2, r3, r4, r5, r6, r7, r8, r9, r10, r11, r12, r13, r14, r15⟩ := cells16_1 k8
  clear hc hk hB k8
  unfold stepV
  obtain ⟨hx1, hx2, hx3, hx4, hx5, hx6, hx7, hx8, hx9⟩ := HTS.out
  rw [hx1, hx6] at HT
  rw [hx2, hx3, hx4, hx5, hx7, hx8, hx9]
  clear hx1 hx2 hx3 hx4 hx5 hx6 hx7 hx8 hx9
  go_wp2_with fail
  refine (HSt.out _ _ _ ⟨_, _, rfl, ((HS.out.1.below (below_alloc (Below.refl _ _) _)).below HB5'.out).below (below_alloc (Below.refl _ _) _), ((HS.out.2.below (below_alloc (Below.refl _ _) _)).below HB5'.out).below (below_alloc (Below.refl _ _) _)⟩ ⟨_, _, rfl, HT.out.1.below (below_alloc (Below.refl _ _) _), HT.out.2.below (below_alloc (Below.refl _ _) _)⟩).mono ?_
  rintro e w6 ⟨rfl, hB⟩
  have HB6 := Aside0.mk (below_step (below_alloc HB5.out _) hB)
  clear hB
  go_wp2
  go_ret
  exact ⟨by first | rfl | simp, HB6.out⟩
theorem cut_set {l : List Int} (a b : Nat) (z : Int) (h : 2 ≤ a) : cut (l.set 1 z) a b = cut l a b := by
  apply List.ext_getElem?
  intro i
  unfold cut
  rw [List.getElem?_drop, List.getElem?_drop, List.getElem?_take, List.getElem?_take, List.getElem?_set_ne (by omega)]
theorem rd_set_ne {l : List Int} (i : Nat) (z : Int) (h : i ≠ 1) : rd (l.set 1 z) i = rd l i := by
  simp [rd, List.getElem?_set_ne (by omega : 1 ≠ i)]
theorem rd_set_one {l : List Int} (z : Int) (h : 1 < l.length) : rd (l.set 1 z) 1 = z := by
  have : rd (l.set 1 z) ((1 : Nat) : Int) = z := by simp [rd, h]
  exact this
theorem loud_low : ∀ n : Fin 9, 1 ≤ (n : Nat) → loudC ((n : Nat) : Int) = (((n : Nat) : Int), false) ∧ loudC (((n : Nat) : Int) + 16) = (((n : Nat) : Int), true) := by decide +kernel
/-- The quiet request is the loud one, but that it is quiet; so is the error. -/
theorem req_quiet (code opq cas : Int) (x k : Nat) (body : List Int) (h1 : 1 ≤ code) (h8 : code ≤ 8) :
    ((reqS code opq cas x k body).e ≠ 0 ∧ (reqS (code + 16) opq cas x k body).e = (reqS code opq cas x k body).e ∧ (reqS (code + 16) opq cas x k body).used = (reqS code opq cas x k body).used ∧ (reqS (code + 16) opq cas x k body).reply.size = (reqS code opq cas x k body).reply.size) ∨
    ((reqS code opq cas x k body).e = 0 ∧ (reqS code opq cas x k body).code = code ∧ reqS (code + 16) opq cas x k body = ⟨(reqS code opq cas x k body).cmd, (reqS code opq cas x k body).dial, (reqS code opq cas x k body).code + 16, (reqS code opq cas x k body).opq, !(reqS code opq cas x k body).quiet, (reqS code opq cas x k body).key, (reqS code opq cas x k body).reply, (reqS code opq cas x k body).used, (reqS code opq cas x k body).e⟩) := by
  have hl := loud_low ⟨code.toNat, by omega⟩ (show 1 ≤ code.toNat by omega)
  rw [show (((⟨code.toNat, by omega⟩ : Fin 9) : Nat) : Int) = code from Int.toNat_of_nonneg (by omega)] at hl
  have fs : ∀ c st : Int, (strOfNums (faultL c st opq)).size = 24 := fun c st => by rw [strOfNums_size]; rfl
  unfold reqS
  rw [hl.1, hl.2]
  simp only
  cases hp : plainC code with
  | none => exact .inl ⟨(show (2 : Int) ≠ 0 by decide), rfl, rfl, (fs _ _).trans (fs _ _).symm⟩
  | some r =>
    simp only
    by_cases hf : fitsB body.length x k r.2.1 r.2.2 = false
    · rw [if_pos hf, if_pos hf]; exact .inl ⟨(show (2 : Int) ≠ 0 by decide), rfl, rfl, (fs _ _).trans (fs _ _).symm⟩
    · rw [if_neg hf, if_neg hf]
      by_cases hbk : (r.2.2 = 1 ∨ r.2.2 = 3) ∧ ¬ (1 ≤ k ∧ k ≤ 250)
      · rw [if_pos hbk, if_pos hbk]; exact .inl ⟨(show (2 : Int) ≠ 0 by decide), rfl, rfl, (fs _ _).trans (fs _ _).symm⟩
      · rw [if_neg hbk, if_neg hbk]
        by_cases hlg : x + k + 1000 < body.length
        · rw [if_pos hlg, if_pos hlg]; exact .inl ⟨(show (2 : Int) ≠ 0 by decide), rfl, rfl, (fs _ _).trans (fs _ _).symm⟩
        · rw [if_neg hlg, if_neg hlg]
          exact .inr ⟨rfl, rfl, rfl⟩
theorem quiet_w (A0 : Option Addr) (c0 : Nat) (l0 : List Int) (code : Int) (w : World) (hr0 : Kd.C (Kd.int .u8) w A0 l0.length l0) (hc0 : l0.length ≤ c0) (hb0 : ∀ x ∈ l0, 0 ≤ x ∧ x ≤ 255) :
    Calls Try.prog 6 #[.slice A0 l0.length c0, .int .i64 code] w fun e w' => e = .returned (.bool true) ∧ Below w.heap.size w w' := by
  by_cases h0 : 3000 < l0.length
  · exact quiet_long A0 c0 l0 code w h0
  · by_cases h1 : l0.length < 24
    · exact quiet_few A0 c0 l0 code w h0 h1
    · by_cases h2 : code < 1
      · exact quiet_low A0 c0 l0 code w h0 h1 h2
      · by_cases h3 : 8 < code
        · exact quiet_high A0 c0 l0 code w h0 h1 h2 h3
        · have hx : ∀ z : Int, rd (l0.set 1 z) 0 = rd l0 0 ∧ rd (l0.set 1 z) 4 = rd l0 4 ∧ rd (l0.set 1 z) 1 = z := fun z => ⟨rd_set_ne 0 z (by omega), rd_set_ne 4 z (by omega), rd_set_one z (by omega)⟩
          have key : ((parseS (l0.set 1 code)).e ≠ 0 ∧ (parseS (l0.set 1 (code + 16))).e = (parseS (l0.set 1 code)).e ∧ (parseS (l0.set 1 (code + 16))).used = (parseS (l0.set 1 code)).used ∧ (parseS (l0.set 1 (code + 16))).reply.size = (parseS (l0.set 1 code)).reply.size) ∨
              ((parseS (l0.set 1 code)).e = 0 ∧ (parseS (l0.set 1 code)).code = code ∧ parseS (l0.set 1 (code + 16)) = ⟨(parseS (l0.set 1 code)).cmd, (parseS (l0.set 1 code)).dial, (parseS (l0.set 1 code)).code + 16, (parseS (l0.set 1 code)).opq, !(parseS (l0.set 1 code)).quiet, (parseS (l0.set 1 code)).key, (parseS (l0.set 1 code)).reply, (parseS (l0.set 1 code)).used, (parseS (l0.set 1 code)).e⟩) := by
            have hne : ∀ z : Int, l0.set 1 z ≠ [] := fun z e => by
              have := congrArg List.length e
              rw [List.length_set, List.length_nil] at this
              omega
            unfold parseS
            rw [if_neg (hne _), if_neg (hne _), (hx code).1, (hx (code + 16)).1, (hx code).2.1, (hx (code + 16)).2.1, (hx code).2.2, (hx (code + 16)).2.2, List.length_set, List.length_set]
            rw [cut_set 8 12 code (by omega), cut_set 8 12 (code + 16) (by omega), cut_set 12 16 code (by omega), cut_set 12 16 (code + 16) (by omega), cut_set 16 24 code (by omega), cut_set 16 24 (code + 16) (by omega), cut_set 2 4 code (by omega), cut_set 2 4 (code + 16) (by omega), cut_set 24 _ code (by omega), cut_set 24 _ (code + 16) (by omega)]
            by_cases c1 : rd l0 0 ≠ 128
            · rw [if_pos c1, if_pos c1]; exact .inl ⟨by decide, rfl, rfl, rfl⟩
            · rw [if_neg c1, if_neg c1, if_neg h1, if_neg h1]
              by_cases c2 : 2048 < be (cut l0 8 12)
              · rw [if_pos c2, if_pos c2]; exact .inl ⟨by decide, rfl, rfl, rfl⟩
              · rw [if_neg c2, if_neg c2]
                by_cases c3 : (l0.length : Int) < 24 + be (cut l0 8 12)
                · rw [if_pos c3, if_pos c3]; exact .inl ⟨by decide, rfl, rfl, rfl⟩
                · rw [if_neg c3, if_neg c3]
                  exact req_quiet code _ _ _ _ _ (by omega) (by omega)
          rcases key with ⟨k1, k2, k3, k4⟩ | ⟨k1, k2, k3⟩
          · exact quiet_bad A0 c0 l0 code w hr0 hc0 hb0 (by omega) (by omega) (by omega) (by omega) _ _ rfl rfl k1 k2 k3 k4
          · exact quiet_good A0 c0 l0 code w hr0 hc0 hb0 (by omega) (by omega) (by omega) (by omega) _ _ rfl rfl k1 k2 k3
def butterylaw16_BininQuiet.Ok (l0 : List Int) (a1 : Int) : Prop := (∀ x ∈ l0, 0 ≤ x ∧ x ≤ 255)
noncomputable def butterylaw16_BininQuiet.f (l0 : List Int) (a1 : Int) : Option Bool := @ite _ (butterylaw16_BininQuiet.Ok l0 a1) (Classical.propDecidable _) (some true) none
theorem butterylaw16_BininQuiet.calls (A0 : Option Addr) (c0 : Nat) (l0 : List Int) (a1 : Int) (r : Bool) (w : World) (hr0 : Kd.C (Kd.int .u8) w A0 l0.length l0) (hc0 : l0.length ≤ c0) (h : butterylaw16_BininQuiet.f l0 a1 = some r) :
    Calls Try.prog 6 #[.slice A0 l0.length c0, .int .i64 a1] w fun e w' => e = .returned (.bool r) ∧ Below w.heap.size w w' := by
  unfold butterylaw16_BininQuiet.f at h
  by_cases hO : butterylaw16_BininQuiet.Ok l0 a1
  · rw [if_pos hO] at h
    obtain rfl := Option.some.inj h
    exact quiet_w A0 c0 l0 a1 w hr0 hc0 hO
  · rw [if_neg hO] at h
    cases h

/-- THE ONE PURE STATEMENT of butterylaw16_BininQuiet: yours. -/
def butterylaw16_BininQuiet.Pure : Prop := ∀ (l0 : List Int) (a1 : Int), l0.length ≤ maxLen → l0.length * 1 ≤ 140737488351232 → (∀ x ∈ l0, (Lit.int .u8 x).wf = true) → (Lit.int .i64 a1).wf = true → butterylaw16_BininQuiet.f l0 a1 = some true
theorem butterylaw16_BininQuiet.walk (P : butterylaw16_BininQuiet.Pure) (a0 : Option Addr) (len0 cap0 : Nat) (z0 : List Int) (a1 : Int) (w : World) (w0 : (a0 = none ∧ len0 = 0 ∧ cap0 = 0 ∧ z0 = []) ∨ ∃ x, a0 = some x ∧ len0 ≤ cap0 ∧ cap0 ≤ maxLen ∧ z0.length = cap0 ∧ (∀ i, i < z0.length → w.cell? (x.add i) = some (.int .u8 (z0.getD i 0))) ∧ ∀ n ∈ z0, (Lit.int .u8 n).wf = true) (y0 : len0 * 1 ≤ 140737488351232) (w1 : (Lit.int .i64 a1).wf = true) :
    Calls Try.prog 6 #[.slice a0 len0 cap0, .int .i64 a1] w fun e w' => e = .returned (.bool true) ∧ Below w.heap.size w w' := by
  obtain ⟨l0, rfl, hr0, hm0, hw0, hc0⟩ := ReadsInt.ofRowC w0
  have h := P l0 a1 hm0 y0 hw0 w1
  refine (butterylaw16_BininQuiet.calls _ _ l0 a1 true w (Kd.C_of_reads (d := (0 : Int)) (h1 := fun _ => rfl) hr0) hc0 h).mono ?_
  rintro e w' ⟨rfl, hd⟩
  exact ⟨rfl, hd⟩

end Go.Proofs.Ytkbhnnmngmdkdaa.Hb
