-- Written by this session's own program (wip/hprint.py) out of the translation, over hand-proved contracts. Lean checks it.
import Derived.Test.YtkbhnnmngmdkdaaHcx0
import Derived.Test.YtkbhnnmngmdkdaaHcx3
import Derived.Test.YtkbhnnmngmdkdaaHcx4
import Derived.Test.YtkbhnnmngmdkdaaHcx5
namespace Go.Proofs.Ytkbhnnmngmdkdaa.Hc
open Go.RowKit Go.Proofs.YtkbhnnmngmdkdaaW.PrintWords Go.Proofs.YtkbhnnmngmdkdaaW.PrintLast Go.Proofs.YtkbhnnmngmdkdaaW.PrintMore
attribute [local go_sem] max2_int min2_int max_two min_two max_three min_three max_four min_four   -- for this text's walks alone
set_option linter.unusedVariables false
set_option linter.unusedSimpArgs false

/-! ### butterylaw16_BininCodes: function 8 -/
theorem cut_appP {l m : List Int} {a b : Nat} (h : b ≤ l.length) : cut (l ++ m) a b = cut l a b := by
  unfold cut
  rw [List.take_append_of_le_length h]
theorem gen_callsP {P : Program} {f : FuncId} {args : Array Value} {W : World} {post : Ending → World → Prop} (S : World → Prop) (h0 : S W) (h : ∀ W', S W' → Calls P f args W' post) : Calls P f args W post := h W h0
theorem be_put2 (a : Int) (h0 : 0 ≤ a) (h1 : a < 65536) : be (putL2 a) = a := by
  simp only [be, putL2, List.foldl_cons, List.foldl_nil]; omega
theorem be_put4 (a : Int) (h0 : 0 ≤ a) (h1 : a < 4294967296) : be (putL4 a) = a := by
  simp only [be, putL4, List.foldl_cons, List.foldl_nil]; omega
theorem be_put8 (a : Int) (h0 : 0 ≤ a) (h1 : a < 18446744073709551616) : be (putL8 a) = a := by
  simp only [be, putL8, List.foldl_cons, List.foldl_nil]; omega
theorem cut_tail (H B : List Int) (h : H.length = 24) (n : Nat) (hn : n = B.length) : cut (H ++ B) 24 (24 + n) = B := by
  subst hn
  unfold cut
  rw [List.take_of_length_le (by simp [h]), ← h, List.drop_left]
/-- The head of a packet. -/
def headL (code ks nx n opq cas : Int) : List Int := [128, code % 256] ++ putL2 ks ++ [nx % 256] ++ [0, 0, 0] ++ putL4 n ++ putL4 opq ++ putL8 cas
theorem pktL_eq (code opq cas : Int) (x v : List Int) (key : ByteArray) : pktL code opq cas x v key = headL code (key.size : Int) (x.length : Int) ((x.length : Int) + (key.size : Int) + (v.length : Int)) opq cas ++ (x ++ bytesOf key ++ v) := by
  simp only [pktL, headL, List.append_assoc]
theorem parse_pkt (code opq cas : Int) (x v : List Int) (key : ByteArray) (hc0 : 0 ≤ code) (hc1 : code ≤ 255) (hlx : x.length ≤ 100) (hlk : key.size ≤ 300) (hlv : v.length ≤ 1000) (ho0 : 0 ≤ opq) (ho1 : opq < 4294967296) (hs0 : 0 ≤ cas) (hs1 : cas < 18446744073709551616) :
    parseS (pktL code opq cas x v key) = reqS code opq cas x.length key.size (x ++ bytesOf key ++ v) := by
  have hk := be_put2 (key.size : Int) (by omega) (by omega)
  have hn := be_put4 ((x.length : Int) + (key.size : Int) + (v.length : Int)) (by omega) (by omega)
  have ho := be_put4 opq ho0 ho1
  have hs := be_put8 cas hs0 hs1
  have hB : (x ++ bytesOf key ++ v).length = x.length + key.size + v.length := by simp only [List.length_append, bytesOf_length]
  have hmx : (x.length : Int) % 256 = x.length := by omega
  have hmc : code % 256 = code := by omega
  rw [pktL_eq]
  generalize hnn : (x.length : Int) + (key.size : Int) + (v.length : Int) = n at *
  generalize x ++ bytesOf key ++ v = B at *
  have hl : (headL code (key.size : Int) (x.length : Int) n opq cas ++ B).length = 24 + B.length := by rw [List.length_append]; rfl
  have c1 : cut (headL code (key.size : Int) (x.length : Int) n opq cas ++ B) 8 12 = putL4 n := by rw [cut_appP (Nat.le_of_ble_eq_true rfl)]; rfl
  have c2 : cut (headL code (key.size : Int) (x.length : Int) n opq cas ++ B) 12 16 = putL4 opq := by rw [cut_appP (Nat.le_of_ble_eq_true rfl)]; rfl
  have c3 : cut (headL code (key.size : Int) (x.length : Int) n opq cas ++ B) 16 24 = putL8 cas := by rw [cut_appP (Nat.le_of_ble_eq_true rfl)]; rfl
  have c4 : cut (headL code (key.size : Int) (x.length : Int) n opq cas ++ B) 2 4 = putL2 (key.size : Int) := by rw [cut_appP (Nat.le_of_ble_eq_true rfl)]; rfl
  have c5 : cut (headL code (key.size : Int) (x.length : Int) n opq cas ++ B) 24 (24 + n.toNat) = B := cut_tail _ _ rfl _ (by omega)
  have r0 : rd (headL code (key.size : Int) (x.length : Int) n opq cas ++ B) 0 = 128 := rfl
  have r1 : rd (headL code (key.size : Int) (x.length : Int) n opq cas ++ B) 1 = code := Eq.trans (b := code % 256) rfl hmc
  have r4 : rd (headL code (key.size : Int) (x.length : Int) n opq cas ++ B) 4 = (x.length : Int) := Eq.trans (b := (x.length : Int) % 256) rfl hmx
  unfold parseS
  rw [c1, c2, c3, c4, hn, ho, hs, hk, c5, r0, r1, r4, hl, if_neg (by simp [headL]), if_neg (by simp), if_neg (by omega), if_neg (by omega), if_neg (by omega)]
  rfl
theorem be_putL_bytes (a : Int) : (∀ y ∈ putL2 a, 0 ≤ y ∧ y ≤ 255) ∧ (∀ y ∈ putL4 a, 0 ≤ y ∧ y ≤ 255) ∧ (∀ y ∈ putL8 a, 0 ≤ y ∧ y ≤ 255) := by
  refine ⟨?_, ?_, ?_⟩ <;> intro y hy <;> simp only [putL2, putL4, putL8, List.mem_cons, List.not_mem_nil, or_false] at hy <;> omega
theorem pkt_bytes {code opq cas : Int} {x v : List Int} {key : ByteArray} (hx : ∀ y ∈ x, 0 ≤ y ∧ y ≤ 255) (hk : ∀ y ∈ bytesOf key, 0 ≤ y ∧ y ≤ 255) (hv : ∀ y ∈ v, 0 ≤ y ∧ y ≤ 255) : ∀ y ∈ pktL code opq cas x v key, 0 ≤ y ∧ y ≤ 255 := by
  intro y hy
  rw [pktL_eq, headL] at hy
  simp only [List.mem_append] at hy
  rcases hy with ((((((hy | hy) | hy) | hy) | hy) | hy) | hy) | (hy | hy) | hy
  · simp only [List.mem_cons, List.not_mem_nil, or_false] at hy; omega
  · exact (be_putL_bytes _).1 y hy
  · simp only [List.mem_cons, List.not_mem_nil, or_false] at hy; omega
  · simp only [List.mem_cons, List.not_mem_nil, or_false] at hy; omega
  · exact (be_putL_bytes _).2.1 y hy
  · exact (be_putL_bytes _).2.1 y hy
  · exact (be_putL_bytes _).2.2 y hy
  · exact hx y hy
  · exact hk y hy
  · exact hv y hy
theorem app_bytes {a b : List Int} (ha : ∀ y ∈ a, 0 ≤ y ∧ y ≤ 255) (hb : ∀ y ∈ b, 0 ≤ y ∧ y ≤ 255) : ∀ y ∈ a ++ b, 0 ≤ y ∧ y ≤ 255 := by
  intro y hy
  rcases List.mem_append.1 hy with h | h
  · exact ha y h
  · exact hb y h
theorem pktL_len (code opq cas : Int) (x v : List Int) (key : ByteArray) : (pktL code opq cas x v key).length = 24 + (x.length + key.size + v.length) := by
  rw [pktL_eq, List.length_append, List.length_append, List.length_append, bytesOf_length]; rfl
/-- A packet, read as a row. -/
theorem ask_w (code opq cas : Int) (x v : List Int) (key : ByteArray) (AX : Option Addr) (cX : Nat) (AV : Option Addr) (cV nx nv n : Nat) (hnx : nx = x.length) (hnv : nv = v.length) (hn : n = 24 + (nx + key.size + nv)) (w : World) (hx : Kd.C (Kd.int .u8) w AX nx x) (hv : Kd.C (Kd.int .u8) w AV nv v) (hlx : nx ≤ 100) (hlk : key.size ≤ 1000) (hlv : nv ≤ 2000) (ho0 : 0 ≤ opq) (ho1 : opq < 4294967296) (hc0 : 0 ≤ cas) (hc1 : cas < 18446744073709551616) :
    Calls Try.prog 15 #[.int .i64 code, .slice AX nx cX, .string key, .slice AV nv cV, .int .u64 cas, .int .u32 opq] w fun e w' => ∃ (A : Option Addr) (c : Nat), e = .returned (.slice A n c) ∧ n ≤ c ∧ Kd.C (Kd.int .u8) w' A n (pktL code opq cas x v key) ∧ Below w.heap.size w w' := by
  subst hnx; subst hnv
  have hl := pktL_len code opq cas x v key
  rw [← hn] at hl
  subst hl
  refine (packet_w code opq cas x v key AX cX AV cV w hx hv hlx hlk hlv ho0 ho1 hc0 hc1).mono ?_
  rintro e w' ⟨v0, rfl, hR, hB⟩
  obtain ⟨A, c, rfl, hle, hC⟩ := Kd.R_reads hR
  exact ⟨A, c, rfl, hle, hC, hB⟩
/-- A packet of one command, parsed. -/
theorem told_w (l : List Int) (n : Nat) (hn : n = l.length) (hn' : n ≤ 1000000) (hb : ∀ y ∈ l, 0 ≤ y ∧ y ≤ 255) (m : Cm) (dial code opq used er : Int) (quiet : Bool) (key reply : ByteArray) (hs : parseS l = ⟨some m, dial, code, opq, quiet, some key, reply, used, er⟩) (A : Option Addr) (c : Nat) (w : World) (hC : Kd.C (Kd.int .u8) w A n l) (hc : n ≤ c) :
    Calls Try.prog 11 #[.slice A n c] w fun e w' => ∃ (g kg : Nat) (B : Option Addr) (cB : Nat), e = .returned (stepV (.slice (some ⟨g, 0, none⟩) 1 1) dial code opq quiet (.slice (some ⟨kg, 0, none⟩) 1 1) reply used er) ∧ w'.heap[g]? = some (.cells #[.int .i64 m.op, .string m.key, .slice B m.val.length cB, .int .u32 m.flags, .int .i64 m.exp, .int .u64 m.cas, .int .u64 m.delta, .int .u64 m.init, .bool m.makes, .bool false] 39 (0, 0)) ∧ w'.heap[kg]? = some (.cells #[.string key] 9 (0, 0)) ∧ Kd.C (Kd.int .u8) w' B m.val.length m.val ∧ m.val.length ≤ cB ∧ Below w.heap.size w w' := by
  subst hn
  refine (parse_w A c l w hC hc hb hn').mono ?_
  rintro e w' ⟨v, rfl, ⟨cv, kv, rfl, hcm, hkm⟩, hB⟩
  rw [hs] at hcm hkm ⊢
  obtain ⟨g, B, cB, rfl, hg, hCB, hle⟩ := hcm
  obtain ⟨kg, rfl, hk⟩ := hkm
  exact ⟨g, kg, B, cB, rfl, hg, hk, hCB, hle, hB⟩
theorem stepAt_bad2 {W : World} {v : Value} {s : St} {reply : ByteArray} {used e : Int} (h : StepAt W v s) (hs : s = badS reply used e) : v = badV reply used e := by
  subst hs
  obtain ⟨cv, kv, rfl, hc, hk⟩ := h
  obtain rfl := (show cv = .slice none 0 0 from hc)
  obtain rfl := (show kv = .slice none 0 0 from hk)
  rfl
def at0 (l : List Int) (i : Nat) : Int := l.getD i 0
theorem str_at (xs : List Int) (hx : ∀ x ∈ xs, 0 ≤ x ∧ x < 256) (i : Nat) (h : i < (strOfNums xs).size) : (((strOfNums xs)[i]'h).toNat : Int) = at0 xs i := by
  have hi : i < xs.length := by rw [strOfNums_size] at h; exact h
  have h1 : (strOfNums xs)[i]'h = UInt8.ofNat (xs[i]).toNat := by
    show (strOfNums xs).data[i]'h = _
    simp [strOfNums]
  have h2 := hx xs[i] (List.getElem_mem hi)
  rw [h1, at0, List.getD_eq_getElem?_getD, List.getElem?_eq_getElem hi]
  simp
  omega
theorem lit_C1 (W : World) (o : Obj) (xs : List Int) (hl : xs.length ≤ 1000) : Kd.C (Kd.int .u8) ((W.alloc o).alloc (.cells (xs.map (Value.int .u8)).toArray 5)) (some ⟨W.heap.size + 1, 0, none⟩) xs.length xs := by
  have h := lit_C (W.alloc o) xs (xs.map (Value.int .u8)).toArray 5 (0, 0) (by simp) (by omega)
  rwa [World.size_alloc] at h
set_option maxHeartbeats 8000000 in
set_option maxRecDepth 100000 in
theorem codes_ff (code : Int) (key : ByteArray) (v : List Int) (AV : Option Addr) (cV : Nat) (w : World) (op ee u1 u2 : Int) (q : Bool) (X1 X2 L1 L2 rep1 rep : List Int)
    (hc0 : 0 ≤ code) (hc1 : code ≤ 255) (hk0 : 1 ≤ key.size) (hk1 : key.size ≤ 250) (hv : v.length ≤ 1000) (hop : 0 ≤ op) (hee : IntKind.i64.wrap (ee + 1) = ee + 1)
    (hm1 : ∀ W : World, (Instr.makeSlice 22 (.int .i64 ee) (.int .i64 ee)).run Try.prog W = .ok (.slice (some ⟨W.heap.size, 0, none⟩) X1.length X1.length) (W.alloc (.cells (X1.map (Value.int .u8)).toArray 5))) (hm2 : ∀ W : World, (Instr.makeSlice 22 (.int .i64 (ee + 1)) (.int .i64 (ee + 1))).run Try.prog W = .ok (.slice (some ⟨W.heap.size, 0, none⟩) X2.length X2.length) (W.alloc (.cells (X2.map (Value.int .u8)).toArray 5)))
    (HOf : Aside0 (∀ W, Calls Try.prog 16 #[.int .i64 code] W fun e w' => e = .returned (.agg #[.int .i64 op, .int .i64 ee, .bool false, .bool false, .bool q]) ∧ Below W.heap.size W w'))
    (HK1 : Aside0 (∀ (W : World) (A : Option Addr) (cA : Nat), Below w.heap.size w W → Kd.C (Kd.int .u8) W A X1.length X1 → Calls Try.prog 15 #[.int .i64 code, .slice A X1.length cA, .string ⟨#[]⟩, .slice none 0 0, .int .u64 0, .int .u32 7] W fun e w' => ∃ (B : Option Addr) (c : Nat), e = .returned (.slice B L1.length c) ∧ L1.length ≤ c ∧ Kd.C (Kd.int .u8) w' B L1.length L1 ∧ Below W.heap.size W w'))
    (HK2 : Aside0 (∀ (W : World) (A : Option Addr) (cA : Nat), Below w.heap.size w W → Kd.C (Kd.int .u8) W A X2.length X2 → Calls Try.prog 15 #[.int .i64 code, .slice A X2.length cA, .string ⟨#[]⟩, .slice none 0 0, .int .u64 0, .int .u32 7] W fun e w' => ∃ (B : Option Addr) (c : Nat), e = .returned (.slice B L2.length c) ∧ L2.length ≤ c ∧ Kd.C (Kd.int .u8) w' B L2.length L2 ∧ Below W.heap.size W w'))
    (HT1 : Aside0 (∀ (W : World) (A : Option Addr) (cA : Nat), Kd.C (Kd.int .u8) W A L1.length L1 → L1.length ≤ cA → Calls Try.prog 11 #[.slice A L1.length cA] W fun e w' => ∃ (g : Nat) (ka : Option Addr) (kn kc : Nat) (u1 : Int) (y1 y2 y3 y4 y5 y6 y7 y8 y9 : Value), e = .returned (stepV (.slice (some ⟨g, 0, none⟩) 1 1) 2 code 7 q (.slice ka kn kc) ⟨#[]⟩ u1 0) ∧ w'.heap[g]? = some (.cells #[.int .i64 op, y1, y2, y3, y4, y5, y6, y7, y8, y9] 39 (0, 0)) ∧ Below W.heap.size W w'))
    (HT2 : Aside0 (∀ (W : World) (A : Option Addr) (cA : Nat), Kd.C (Kd.int .u8) W A L2.length L2 → L2.length ≤ cA → Calls Try.prog 11 #[.slice A L2.length cA] W fun e w' => e = .returned (badV (strOfNums rep) u2 2) ∧ Below W.heap.size W w'))
    (hrl1 : rep1.length = 24) (hrb1 : ∀ x ∈ rep1, 0 ≤ x ∧ x < 256) (hr71 : at0 rep1 7 = 129) (hrl : rep.length = 24) (hrb : ∀ x ∈ rep, 0 ≤ x ∧ x < 256) (hr7 : at0 rep 7 = 4) (hx1 : X1.length ≤ 100) (hx2 : X2.length ≤ 100) :
    Calls Try.prog 8 #[.int .i64 code, .string key, .slice AV v.length cV] w fun e w' => e = .returned (.bool true) ∧ Below w.heap.size w w' := by
  have hu22 := Try.underlying22
  have hu34 := Try.underlying34
  have hu31 := Try.underlying31
  have hu29 := Try.underlying29
  have hu39 := Try.underlying39
  have hu25 := Try.underlying25
  have hu47 := Try.underlying47
  have HX := Aside0.mk (And.intro (show X1.length ≤ 1000 by omega) (show X2.length ≤ 1000 by omega))
  have t1 : decide (code < 0) = false := decide_eq_false (by omega)
  have t2 : decide (code > 255) = false := decide_eq_false (by omega)
  have t3 : decide (key.size < 1) = false := decide_eq_false (by omega)
  have t4 : decide ((key.size : Int) < 1) = false := decide_eq_false (by omega)
  have t5 : decide (250 < key.size) = false := decide_eq_false (by omega)
  have t6 : decide ((key.size : Int) > 250) = false := decide_eq_false (by omega)
  have t7 : decide (1000 < v.length) = false := decide_eq_false (by omega)
  have t8 : decide ((v.length : Int) > 1000) = false := decide_eq_false (by omega)
  have t9 : decide (op < 0) = false := decide_eq_false (by omega)
  have o1 : (op == op) = true := by simp
  have o2 : (q == q) = true := by simp
  have z24 : (strOfNums rep).size = 24 := by rw [strOfNums_size, hrl]
  have z24' : (strOfNums rep1).size = 24 := by rw [strOfNums_size, hrl1]
  have x7 := str_at rep hrb 7
  have x7' := str_at rep1 hrb1 7
  rw [hr7] at x7
  rw [hr71] at x7'
  clear hrl hrb hr7 hrl1 hrb1 hr71 hx1 hx2 hc0 hc1 hk0 hk1 hv
  clear hop
  go_enter Try.func8, Try.ntmps8
  go_wp2_with (first | (go_at_call 9; refine (awake_w _).mono ?_; rintro e w1 ⟨rfl, hB⟩; have HB1 := Aside0.mk hB; clear hB) | (go_at_call 16; (with_reducible refine (HOf.out _).mono ?_); rintro e w2 ⟨rfl, hB⟩; have HB2 := Aside0.mk (below_step HB1.out hB); clear hB) | (go_at_call 15; (with_reducible refine (HK1.out _ _ _ (below_alloc (below_alloc HB2.out _) _) (lit_C1 w2 _ X1 HX.out.1)).mono ?_); rintro e w3 ⟨A3, d3, rfl, hle, hC, hB⟩; have HX3 := Aside0.mk (And.intro hC hle); have HS3 := Aside0.mk (blk_any hB (blk_alloc (blk_new w2 _) _)); have HB3 := Aside0.mk (below_step (below_alloc (below_alloc HB2.out _) _) hB); clear hC hle hB HB2; generalize w2.heap.size = P0 at *) | (go_at_call 11; (with_reducible refine (HT1.out _ _ _ HX3.out.1 HX3.out.2).mono ?_); rintro e w4 ⟨g, ka, kn, kc, un, y1, y2, y3, y4, y5, y6, y7, y8, y9, rfl, hg, hB⟩; have HG4 := Aside0.mk hg; clear hg; have HS4 := Aside0.mk (blk_any hB HS3.out); have HB4 := Aside0.mk (below_step HB3.out hB); have s1 : ∀ ob : Obj, (w4.alloc ob).cell? ⟨P0, 1, none⟩ = some (.int .i64 ee) := (fun ob => blk_cell (blk_alloc HS4.out ob) 1); clear hB HX3 HS3 HB3; unfold stepV) | (go_at_call 15; (with_reducible refine (HK2.out _ _ _ (below_alloc (below_alloc HB4.out _) _) (lit_C1 w4 _ X2 HX.out.2)).mono ?_); rintro e w5 ⟨A5, d5, rfl, hle, hC, hB⟩; have HX5 := Aside0.mk (And.intro hC hle); have HP5 := Aside0.mk (blk_any hB (blk_alloc (blk_new w4 _) _)); have HS5 := Aside0.mk (blk_any hB (blk_alloc (blk_alloc HS4.out _) _)); have HG5 := Aside0.mk (blk_any hB (blk_alloc (blk_alloc HG4.out _) _)); have HB5 := Aside0.mk (below_step (below_alloc (below_alloc HB4.out _) _) hB); clear hC hle hB HB4 s1; generalize w4.heap.size = P1 at *) | (go_at_call 11; (with_reducible refine (HT2.out _ _ _ HX5.out.1 HX5.out.2).mono ?_); rintro e w6 ⟨rfl, hB⟩; have HB6 := Aside0.mk (below_step HB5.out hB); have hS6 := blk_any hB HS5.out; have hP6 := blk_any hB HP5.out; have s0 : ∀ ob : Obj, (w6.alloc ob).cell? ⟨P0, 0, none⟩ = some (.int .i64 op) := (fun ob => blk_cell (blk_alloc hS6 ob) 0); have s4 : ∀ ob : Obj, (w6.alloc ob).cell? ⟨P0, 4, none⟩ = some (.bool q) := (fun ob => blk_cell (blk_alloc hS6 ob) 4); obtain ⟨r0, r1, r2, r3, r4, r5, r6, r7, r8, r9, r10, r11, r12, r13, r14, r15⟩ := cells16_1 hP6; have hG6 := blk_any hB HG5.out; have k0 : ∀ ob : Obj, (w6.alloc ob).cell? ⟨g, 0, none⟩ = some (.int .i64 op) := (fun ob => blk_cell (blk_alloc hG6 ob) 0); clear hG6; clear hB hS6 hP6 HX5 HB5; unfold badV stepV))
  go_quiet (fail)
  go_wp2
  go_ret
  exact ⟨by first | rfl | simp, by repeat (with_reducible first | exact HB6.out | apply below_alloc | apply below_drew | apply pw_below_drewN)⟩
set_option maxHeartbeats 8000000 in
set_option maxRecDepth 100000 in
theorem codes_tf (code : Int) (key : ByteArray) (v : List Int) (AV : Option Addr) (cV : Nat) (w : World) (op ee u1 u2 : Int) (q : Bool) (X1 X2 L1 L2 rep1 rep : List Int)
    (hc0 : 0 ≤ code) (hc1 : code ≤ 255) (hk0 : 1 ≤ key.size) (hk1 : key.size ≤ 250) (hv : v.length ≤ 1000) (hop : 0 ≤ op) (hee : IntKind.i64.wrap (ee + 1) = ee + 1)
    (hm1 : ∀ W : World, (Instr.makeSlice 22 (.int .i64 ee) (.int .i64 ee)).run Try.prog W = .ok (.slice (some ⟨W.heap.size, 0, none⟩) X1.length X1.length) (W.alloc (.cells (X1.map (Value.int .u8)).toArray 5))) (hm2 : ∀ W : World, (Instr.makeSlice 22 (.int .i64 (ee + 1)) (.int .i64 (ee + 1))).run Try.prog W = .ok (.slice (some ⟨W.heap.size, 0, none⟩) X2.length X2.length) (W.alloc (.cells (X2.map (Value.int .u8)).toArray 5)))
    (HOf : Aside0 (∀ W, Calls Try.prog 16 #[.int .i64 code] W fun e w' => e = .returned (.agg #[.int .i64 op, .int .i64 ee, .bool true, .bool false, .bool q]) ∧ Below W.heap.size W w'))
    (HK1 : Aside0 (∀ (W : World) (A : Option Addr) (cA : Nat), Below w.heap.size w W → Kd.C (Kd.int .u8) W A X1.length X1 → Calls Try.prog 15 #[.int .i64 code, .slice A X1.length cA, .string key, .slice none 0 0, .int .u64 0, .int .u32 7] W fun e w' => ∃ (B : Option Addr) (c : Nat), e = .returned (.slice B L1.length c) ∧ L1.length ≤ c ∧ Kd.C (Kd.int .u8) w' B L1.length L1 ∧ Below W.heap.size W w'))
    (HK2 : Aside0 (∀ (W : World) (A : Option Addr) (cA : Nat), Below w.heap.size w W → Kd.C (Kd.int .u8) W A X2.length X2 → Calls Try.prog 15 #[.int .i64 code, .slice A X2.length cA, .string key, .slice none 0 0, .int .u64 0, .int .u32 7] W fun e w' => ∃ (B : Option Addr) (c : Nat), e = .returned (.slice B L2.length c) ∧ L2.length ≤ c ∧ Kd.C (Kd.int .u8) w' B L2.length L2 ∧ Below W.heap.size W w'))
    (HT1 : Aside0 (∀ (W : World) (A : Option Addr) (cA : Nat), Kd.C (Kd.int .u8) W A L1.length L1 → L1.length ≤ cA → Calls Try.prog 11 #[.slice A L1.length cA] W fun e w' => ∃ (g : Nat) (ka : Option Addr) (kn kc : Nat) (u1 : Int) (y1 y2 y3 y4 y5 y6 y7 y8 y9 : Value), e = .returned (stepV (.slice (some ⟨g, 0, none⟩) 1 1) 2 code 7 q (.slice ka kn kc) ⟨#[]⟩ u1 0) ∧ w'.heap[g]? = some (.cells #[.int .i64 op, y1, y2, y3, y4, y5, y6, y7, y8, y9] 39 (0, 0)) ∧ Below W.heap.size W w'))
    (HT2 : Aside0 (∀ (W : World) (A : Option Addr) (cA : Nat), Kd.C (Kd.int .u8) W A L2.length L2 → L2.length ≤ cA → Calls Try.prog 11 #[.slice A L2.length cA] W fun e w' => e = .returned (badV (strOfNums rep) u2 2) ∧ Below W.heap.size W w'))
    (hrl1 : rep1.length = 24) (hrb1 : ∀ x ∈ rep1, 0 ≤ x ∧ x < 256) (hr71 : at0 rep1 7 = 129) (hrl : rep.length = 24) (hrb : ∀ x ∈ rep, 0 ≤ x ∧ x < 256) (hr7 : at0 rep 7 = 4) (hx1 : X1.length ≤ 100) (hx2 : X2.length ≤ 100) :
    Calls Try.prog 8 #[.int .i64 code, .string key, .slice AV v.length cV] w fun e w' => e = .returned (.bool true) ∧ Below w.heap.size w w' := by
  have hu22 := Try.underlying22
  have hu34 := Try.underlying34
  have hu31 := Try.underlying31
  have hu29 := Try.underlying29
  have hu39 := Try.underlying39
  have hu25 := Try.underlying25
  have hu47 := Try.underlying47
  have HX := Aside0.mk (And.intro (show X1.length ≤ 1000 by omega) (show X2.length ≤ 1000 by omega))
  have t1 : decide (code < 0) = false := decide_eq_false (by omega)
  have t2 : decide (code > 255) = false := decide_eq_false (by omega)
  have t3 : decide (key.size < 1) = false := decide_eq_false (by omega)
  have t4 : decide ((key.size : Int) < 1) = false := decide_eq_false (by omega)
  have t5 : decide (250 < key.size) = false := decide_eq_false (by omega)
  have t6 : decide ((key.size : Int) > 250) = false := decide_eq_false (by omega)
  have t7 : decide (1000 < v.length) = false := decide_eq_false (by omega)
  have t8 : decide ((v.length : Int) > 1000) = false := decide_eq_false (by omega)
  have t9 : decide (op < 0) = false := decide_eq_false (by omega)
  have o1 : (op == op) = true := by simp
  have o2 : (q == q) = true := by simp
  have z24 : (strOfNums rep).size = 24 := by rw [strOfNums_size, hrl]
  have z24' : (strOfNums rep1).size = 24 := by rw [strOfNums_size, hrl1]
  have x7 := str_at rep hrb 7
  have x7' := str_at rep1 hrb1 7
  rw [hr7] at x7
  rw [hr71] at x7'
  clear hrl hrb hr7 hrl1 hrb1 hr71 hx1 hx2 hc0 hc1 hk0 hk1 hv
  clear hop
  go_enter Try.func8, Try.ntmps8
  go_wp2_with (first | (go_at_call 9; refine (awake_w _).mono ?_; rintro e w1 ⟨rfl, hB⟩; have HB1 := Aside0.mk hB; clear hB) | (go_at_call 16; (with_reducible refine (HOf.out _).mono ?_); rintro e w2 ⟨rfl, hB⟩; have HB2 := Aside0.mk (below_step HB1.out hB); clear hB) | (go_at_call 15; (with_reducible refine (HK1.out _ _ _ (below_alloc (below_alloc HB2.out _) _) (lit_C1 w2 _ X1 HX.out.1)).mono ?_); rintro e w3 ⟨A3, d3, rfl, hle, hC, hB⟩; have HX3 := Aside0.mk (And.intro hC hle); have HS3 := Aside0.mk (blk_any hB (blk_alloc (blk_new w2 _) _)); have HB3 := Aside0.mk (below_step (below_alloc (below_alloc HB2.out _) _) hB); clear hC hle hB HB2; generalize w2.heap.size = P0 at *) | (go_at_call 11; (with_reducible refine (HT1.out _ _ _ HX3.out.1 HX3.out.2).mono ?_); rintro e w4 ⟨g, ka, kn, kc, un, y1, y2, y3, y4, y5, y6, y7, y8, y9, rfl, hg, hB⟩; have HG4 := Aside0.mk hg; clear hg; have HS4 := Aside0.mk (blk_any hB HS3.out); have HB4 := Aside0.mk (below_step HB3.out hB); have s1 : ∀ ob : Obj, (w4.alloc ob).cell? ⟨P0, 1, none⟩ = some (.int .i64 ee) := (fun ob => blk_cell (blk_alloc HS4.out ob) 1); clear hB HX3 HS3 HB3; unfold stepV) | (go_at_call 15; (with_reducible refine (HK2.out _ _ _ (below_alloc (below_alloc HB4.out _) _) (lit_C1 w4 _ X2 HX.out.2)).mono ?_); rintro e w5 ⟨A5, d5, rfl, hle, hC, hB⟩; have HX5 := Aside0.mk (And.intro hC hle); have HP5 := Aside0.mk (blk_any hB (blk_alloc (blk_new w4 _) _)); have HS5 := Aside0.mk (blk_any hB (blk_alloc (blk_alloc HS4.out _) _)); have HG5 := Aside0.mk (blk_any hB (blk_alloc (blk_alloc HG4.out _) _)); have HB5 := Aside0.mk (below_step (below_alloc (below_alloc HB4.out _) _) hB); clear hC hle hB HB4 s1; generalize w4.heap.size = P1 at *) | (go_at_call 11; (with_reducible refine (HT2.out _ _ _ HX5.out.1 HX5.out.2).mono ?_); rintro e w6 ⟨rfl, hB⟩; have HB6 := Aside0.mk (below_step HB5.out hB); have hS6 := blk_any hB HS5.out; have hP6 := blk_any hB HP5.out; have s0 : ∀ ob : Obj, (w6.alloc ob).cell? ⟨P0, 0, none⟩ = some (.int .i64 op) := (fun ob => blk_cell (blk_alloc hS6 ob) 0); have s4 : ∀ ob : Obj, (w6.alloc ob).cell? ⟨P0, 4, none⟩ = some (.bool q) := (fun ob => blk_cell (blk_alloc hS6 ob) 4); obtain ⟨r0, r1, r2, r3, r4, r5, r6, r7, r8, r9, r10, r11, r12, r13, r14, r15⟩ := cells16_1 hP6; have hG6 := blk_any hB HG5.out; have k0 : ∀ ob : Obj, (w6.alloc ob).cell? ⟨g, 0, none⟩ = some (.int .i64 op) := (fun ob => blk_cell (blk_alloc hG6 ob) 0); clear hG6; clear hB hS6 hP6 HX5 HB5; unfold badV stepV))
  go_quiet (fail)
  go_wp2
  go_ret
  exact ⟨by first | rfl | simp, by repeat (with_reducible first | exact HB6.out | apply below_alloc | apply below_drew | apply pw_below_drewN)⟩
set_option maxHeartbeats 8000000 in
set_option maxRecDepth 100000 in
theorem codes_tt (code : Int) (key : ByteArray) (v : List Int) (AV : Option Addr) (cV : Nat) (w : World) (op ee u1 u2 : Int) (q : Bool) (X1 X2 L1 L2 rep1 rep : List Int)
    (hc0 : 0 ≤ code) (hc1 : code ≤ 255) (hk0 : 1 ≤ key.size) (hk1 : key.size ≤ 250) (hv : v.length ≤ 1000) (hop : 0 ≤ op) (hee : IntKind.i64.wrap (ee + 1) = ee + 1)
    (hm1 : ∀ W : World, (Instr.makeSlice 22 (.int .i64 ee) (.int .i64 ee)).run Try.prog W = .ok (.slice (some ⟨W.heap.size, 0, none⟩) X1.length X1.length) (W.alloc (.cells (X1.map (Value.int .u8)).toArray 5))) (hm2 : ∀ W : World, (Instr.makeSlice 22 (.int .i64 (ee + 1)) (.int .i64 (ee + 1))).run Try.prog W = .ok (.slice (some ⟨W.heap.size, 0, none⟩) X2.length X2.length) (W.alloc (.cells (X2.map (Value.int .u8)).toArray 5)))
    (HOf : Aside0 (∀ W, Calls Try.prog 16 #[.int .i64 code] W fun e w' => e = .returned (.agg #[.int .i64 op, .int .i64 ee, .bool true, .bool true, .bool q]) ∧ Below W.heap.size W w'))
    (HK1 : Aside0 (∀ (W : World) (A : Option Addr) (cA : Nat), Below w.heap.size w W → Kd.C (Kd.int .u8) W A X1.length X1 → Calls Try.prog 15 #[.int .i64 code, .slice A X1.length cA, .string key, .slice AV v.length cV, .int .u64 0, .int .u32 7] W fun e w' => ∃ (B : Option Addr) (c : Nat), e = .returned (.slice B L1.length c) ∧ L1.length ≤ c ∧ Kd.C (Kd.int .u8) w' B L1.length L1 ∧ Below W.heap.size W w'))
    (HK2 : Aside0 (∀ (W : World) (A : Option Addr) (cA : Nat), Below w.heap.size w W → Kd.C (Kd.int .u8) W A X2.length X2 → Calls Try.prog 15 #[.int .i64 code, .slice A X2.length cA, .string key, .slice AV v.length cV, .int .u64 0, .int .u32 7] W fun e w' => ∃ (B : Option Addr) (c : Nat), e = .returned (.slice B L2.length c) ∧ L2.length ≤ c ∧ Kd.C (Kd.int .u8) w' B L2.length L2 ∧ Below W.heap.size W w'))
    (HT1 : Aside0 (∀ (W : World) (A : Option Addr) (cA : Nat), Kd.C (Kd.int .u8) W A L1.length L1 → L1.length ≤ cA → Calls Try.prog 11 #[.slice A L1.length cA] W fun e w' => ∃ (g : Nat) (ka : Option Addr) (kn kc : Nat) (u1 : Int) (y1 y2 y3 y4 y5 y6 y7 y8 y9 : Value), e = .returned (stepV (.slice (some ⟨g, 0, none⟩) 1 1) 2 code 7 q (.slice ka kn kc) ⟨#[]⟩ u1 0) ∧ w'.heap[g]? = some (.cells #[.int .i64 op, y1, y2, y3, y4, y5, y6, y7, y8, y9] 39 (0, 0)) ∧ Below W.heap.size W w'))
    (HT2 : Aside0 (∀ (W : World) (A : Option Addr) (cA : Nat), Kd.C (Kd.int .u8) W A L2.length L2 → L2.length ≤ cA → Calls Try.prog 11 #[.slice A L2.length cA] W fun e w' => e = .returned (badV (strOfNums rep) u2 2) ∧ Below W.heap.size W w'))
    (hrl1 : rep1.length = 24) (hrb1 : ∀ x ∈ rep1, 0 ≤ x ∧ x < 256) (hr71 : at0 rep1 7 = 129) (hrl : rep.length = 24) (hrb : ∀ x ∈ rep, 0 ≤ x ∧ x < 256) (hr7 : at0 rep 7 = 4) (hx1 : X1.length ≤ 100) (hx2 : X2.length ≤ 100) :
    Calls Try.prog 8 #[.int .i64 code, .string key, .slice AV v.length cV] w fun e w' => e = .returned (.bool true) ∧ Below w.heap.size w w' := by
  have hu22 := Try.underlying22
  have hu34 := Try.underlying34
  have hu31 := Try.underlying31
  have hu29 := Try.underlying29
  have hu39 := Try.underlying39
  have hu25 := Try.underlying25
  have hu47 := Try.underlying47
  have HX := Aside0.mk (And.intro (show X1.length ≤ 1000 by omega) (show X2.length ≤ 1000 by omega))
  have t1 : decide (code < 0) = false := decide_eq_false (by omega)
  have t2 : decide (code > 255) = false := decide_eq_false (by omega)
  have t3 : decide (key.size < 1) = false := decide_eq_false (by omega)
  have t4 : decide ((key.size : Int) < 1) = false := decide_eq_false (by omega)
  have t5 : decide (250 < key.size) = false := decide_eq_false (by omega)
  have t6 : decide ((key.size : Int) > 250) = false := decide_eq_false (by omega)
  have t7 : decide (1000 < v.length) = false := decide_eq_false (by omega)
  have t8 : decide ((v.length : Int) > 1000) = false := decide_eq_false (by omega)
  have t9 : decide (op < 0) = false := decide_eq_false (by omega)
  have o1 : (op == op) = true := by simp
  have o2 : (q == q) = true := by simp
  have z24 : (strOfNums rep).size = 24 := by rw [strOfNums_size, hrl]
  have z24' : (strOfNums rep1).size = 24 := by rw [strOfNums_size, hrl1]
  have x7 := str_at rep hrb 7
  have x7' := str_at rep1 hrb1 7
  rw [hr7] at x7
  rw [hr71] at x7'
  clear hrl hrb hr7 hrl1 hrb1 hr71 hx1 hx2 hc0 hc1 hk0 hk1 hv
  clear hop
  go_enter Try.func8, Try.ntmps8
  go_wp2_with (first | (go_at_call 9; refine (awake_w _).mono ?_; rintro e w1 ⟨rfl, hB⟩; have HB1 := Aside0.mk hB; clear hB) | (go_at_call 16; (with_reducible refine (HOf.out _).mono ?_); rintro e w2 ⟨rfl, hB⟩; have HB2 := Aside0.mk (below_step HB1.out hB); clear hB) | (go_at_call 15; (with_reducible refine (HK1.out _ _ _ (below_alloc (below_alloc HB2.out _) _) (lit_C1 w2 _ X1 HX.out.1)).mono ?_); rintro e w3 ⟨A3, d3, rfl, hle, hC, hB⟩; have HX3 := Aside0.mk (And.intro hC hle); have HS3 := Aside0.mk (blk_any hB (blk_alloc (blk_new w2 _) _)); have HB3 := Aside0.mk (below_step (below_alloc (below_alloc HB2.out _) _) hB); clear hC hle hB HB2; generalize w2.heap.size = P0 at *) | (go_at_call 11; (with_reducible refine (HT1.out _ _ _ HX3.out.1 HX3.out.2).mono ?_); rintro e w4 ⟨g, ka, kn, kc, un, y1, y2, y3, y4, y5, y6, y7, y8, y9, rfl, hg, hB⟩; have HG4 := Aside0.mk hg; clear hg; have HS4 := Aside0.mk (blk_any hB HS3.out); have HB4 := Aside0.mk (below_step HB3.out hB); have s1 : ∀ ob : Obj, (w4.alloc ob).cell? ⟨P0, 1, none⟩ = some (.int .i64 ee) := (fun ob => blk_cell (blk_alloc HS4.out ob) 1); clear hB HX3 HS3 HB3; unfold stepV) | (go_at_call 15; (with_reducible refine (HK2.out _ _ _ (below_alloc (below_alloc HB4.out _) _) (lit_C1 w4 _ X2 HX.out.2)).mono ?_); rintro e w5 ⟨A5, d5, rfl, hle, hC, hB⟩; have HX5 := Aside0.mk (And.intro hC hle); have HP5 := Aside0.mk (blk_any hB (blk_alloc (blk_new w4 _) _)); have HS5 := Aside0.mk (blk_any hB (blk_alloc (blk_alloc HS4.out _) _)); have HG5 := Aside0.mk (blk_any hB (blk_alloc (blk_alloc HG4.out _) _)); have HB5 := Aside0.mk (below_step (below_alloc (below_alloc HB4.out _) _) hB); clear hC hle hB HB4 s1; generalize w4.heap.size = P1 at *) | (go_at_call 11; (with_reducible refine (HT2.out _ _ _ HX5.out.1 HX5.out.2).mono ?_); rintro e w6 ⟨rfl, hB⟩; have HB6 := Aside0.mk (below_step HB5.out hB); have hS6 := blk_any hB HS5.out; have hP6 := blk_any hB HP5.out; have s0 : ∀ ob : Obj, (w6.alloc ob).cell? ⟨P0, 0, none⟩ = some (.int .i64 op) := (fun ob => blk_cell (blk_alloc hS6 ob) 0); have s4 : ∀ ob : Obj, (w6.alloc ob).cell? ⟨P0, 4, none⟩ = some (.bool q) := (fun ob => blk_cell (blk_alloc hS6 ob) 4); obtain ⟨r0, r1, r2, r3, r4, r5, r6, r7, r8, r9, r10, r11, r12, r13, r14, r15⟩ := cells16_1 hP6; have hG6 := blk_any hB HG5.out; have k0 : ∀ ob : Obj, (w6.alloc ob).cell? ⟨g, 0, none⟩ = some (.int .i64 op) := (fun ob => blk_cell (blk_alloc hG6 ob) 0); clear hG6; clear hB hS6 hP6 HX5 HB5; unfold badV stepV))
  go_quiet (fail)
  go_wp2
  go_ret
  exact ⟨by first | rfl | simp, by repeat (with_reducible first | exact HB6.out | apply below_alloc | apply below_drew | apply pw_below_drewN)⟩
set_option maxHeartbeats 8000000 in
set_option maxRecDepth 100000 in
theorem codes_no (code : Int) (key : ByteArray) (v : List Int) (AV : Option Addr) (cV : Nat) (w : World) (op ee u1 u2 : Int) (q : Bool) (X1 X2 L1 L2 rep1 rep : List Int)
    (hc0 : 0 ≤ code) (hc1 : code ≤ 255) (hk0 : 1 ≤ key.size) (hk1 : key.size ≤ 250) (hv : v.length ≤ 1000) (hop : op = -1) (hee : IntKind.i64.wrap (ee + 1) = ee + 1)
    (hm1 : ∀ W : World, (Instr.makeSlice 22 (.int .i64 ee) (.int .i64 ee)).run Try.prog W = .ok (.slice (some ⟨W.heap.size, 0, none⟩) X1.length X1.length) (W.alloc (.cells (X1.map (Value.int .u8)).toArray 5))) (hm2 : ∀ W : World, (Instr.makeSlice 22 (.int .i64 (ee + 1)) (.int .i64 (ee + 1))).run Try.prog W = .ok (.slice (some ⟨W.heap.size, 0, none⟩) X2.length X2.length) (W.alloc (.cells (X2.map (Value.int .u8)).toArray 5)))
    (HOf : Aside0 (∀ W, Calls Try.prog 16 #[.int .i64 code] W fun e w' => e = .returned (.agg #[.int .i64 op, .int .i64 ee, .bool true, .bool false, .bool q]) ∧ Below W.heap.size W w'))
    (HK1 : Aside0 (∀ (W : World) (A : Option Addr) (cA : Nat), Below w.heap.size w W → Kd.C (Kd.int .u8) W A X1.length X1 → Calls Try.prog 15 #[.int .i64 code, .slice A X1.length cA, .string key, .slice none 0 0, .int .u64 0, .int .u32 7] W fun e w' => ∃ (B : Option Addr) (c : Nat), e = .returned (.slice B L1.length c) ∧ L1.length ≤ c ∧ Kd.C (Kd.int .u8) w' B L1.length L1 ∧ Below W.heap.size W w'))
    (HK2 : Aside0 (∀ (W : World) (A : Option Addr) (cA : Nat), Below w.heap.size w W → Kd.C (Kd.int .u8) W A X2.length X2 → Calls Try.prog 15 #[.int .i64 code, .slice A X2.length cA, .string key, .slice none 0 0, .int .u64 0, .int .u32 7] W fun e w' => ∃ (B : Option Addr) (c : Nat), e = .returned (.slice B L2.length c) ∧ L2.length ≤ c ∧ Kd.C (Kd.int .u8) w' B L2.length L2 ∧ Below W.heap.size W w'))
    (HT1 : Aside0 (∀ (W : World) (A : Option Addr) (cA : Nat), Kd.C (Kd.int .u8) W A L1.length L1 → L1.length ≤ cA → Calls Try.prog 11 #[.slice A L1.length cA] W fun e w' => e = .returned (badV (strOfNums rep1) u1 2) ∧ Below W.heap.size W w'))
    (HT2 : Aside0 (∀ (W : World) (A : Option Addr) (cA : Nat), Kd.C (Kd.int .u8) W A L2.length L2 → L2.length ≤ cA → Calls Try.prog 11 #[.slice A L2.length cA] W fun e w' => e = .returned (badV (strOfNums rep) u2 2) ∧ Below W.heap.size W w'))
    (hrl1 : rep1.length = 24) (hrb1 : ∀ x ∈ rep1, 0 ≤ x ∧ x < 256) (hr71 : at0 rep1 7 = 129) (hrl : rep.length = 24) (hrb : ∀ x ∈ rep, 0 ≤ x ∧ x < 256) (hr7 : at0 rep 7 = 129) (hx1 : X1.length ≤ 100) (hx2 : X2.length ≤ 100) :
    Calls Try.prog 8 #[.int .i64 code, .string key, .slice AV v.length cV] w fun e w' => e = .returned (.bool true) ∧ Below w.heap.size w w' := by
  have hu22 := Try.underlying22
  have hu34 := Try.underlying34
  have hu31 := Try.underlying31
  have hu29 := Try.underlying29
  have hu39 := Try.underlying39
  have hu25 := Try.underlying25
  have hu47 := Try.underlying47
  have HX := Aside0.mk (And.intro (show X1.length ≤ 1000 by omega) (show X2.length ≤ 1000 by omega))
  have t1 : decide (code < 0) = false := decide_eq_false (by omega)
  have t2 : decide (code > 255) = false := decide_eq_false (by omega)
  have t3 : decide (key.size < 1) = false := decide_eq_false (by omega)
  have t4 : decide ((key.size : Int) < 1) = false := decide_eq_false (by omega)
  have t5 : decide (250 < key.size) = false := decide_eq_false (by omega)
  have t6 : decide ((key.size : Int) > 250) = false := decide_eq_false (by omega)
  have t7 : decide (1000 < v.length) = false := decide_eq_false (by omega)
  have t8 : decide ((v.length : Int) > 1000) = false := decide_eq_false (by omega)
  have t9 : decide (op < 0) = true := decide_eq_true (by omega)
  have o1 : (op == op) = true := by simp
  have o2 : (q == q) = true := by simp
  have z24 : (strOfNums rep).size = 24 := by rw [strOfNums_size, hrl]
  have z24' : (strOfNums rep1).size = 24 := by rw [strOfNums_size, hrl1]
  have x7 := str_at rep hrb 7
  have x7' := str_at rep1 hrb1 7
  rw [hr7] at x7
  rw [hr71] at x7'
  clear hrl hrb hr7 hrl1 hrb1 hr71 hx1 hx2 hc0 hc1 hk0 hk1 hv
  subst hop
  go_enter Try.func8, Try.ntmps8
  go_wp2_with (first | (go_at_call 9; refine (awake_w _).mono ?_; rintro e w1 ⟨rfl, hB⟩; have HB1 := Aside0.mk hB; clear hB) | (go_at_call 16; (with_reducible refine (HOf.out _).mono ?_); rintro e w2 ⟨rfl, hB⟩; have HB2 := Aside0.mk (below_step HB1.out hB); clear hB) | (go_at_call 15; (with_reducible refine (HK1.out _ _ _ (below_alloc (below_alloc HB2.out _) _) (lit_C1 w2 _ X1 HX.out.1)).mono ?_); rintro e w3 ⟨A3, d3, rfl, hle, hC, hB⟩; have HX3 := Aside0.mk (And.intro hC hle); have HS3 := Aside0.mk (blk_any hB (blk_alloc (blk_new w2 _) _)); have HB3 := Aside0.mk (below_step (below_alloc (below_alloc HB2.out _) _) hB); clear hC hle hB HB2; generalize w2.heap.size = P0 at *) | (go_at_call 11; (with_reducible refine (HT1.out _ _ _ HX3.out.1 HX3.out.2).mono ?_); rintro e w4 ⟨rfl, hB⟩; have HS4 := Aside0.mk (blk_any hB HS3.out); have HB4 := Aside0.mk (below_step HB3.out hB); have s1 : ∀ ob : Obj, (w4.alloc ob).cell? ⟨P0, 1, none⟩ = some (.int .i64 ee) := (fun ob => blk_cell (blk_alloc HS4.out ob) 1); clear hB HX3 HS3 HB3; unfold badV stepV) | (go_at_call 15; (with_reducible refine (HK2.out _ _ _ (below_alloc (below_alloc HB4.out _) _) (lit_C1 w4 _ X2 HX.out.2)).mono ?_); rintro e w5 ⟨A5, d5, rfl, hle, hC, hB⟩; have HX5 := Aside0.mk (And.intro hC hle); have HP5 := Aside0.mk (blk_any hB (blk_alloc (blk_new w4 _) _)); have HS5 := Aside0.mk (blk_any hB (blk_alloc (blk_alloc HS4.out _) _)); have HB5 := Aside0.mk (below_step (below_alloc (below_alloc HB4.out _) _) hB); clear hC hle hB HB4 s1; generalize w4.heap.size = P1 at *) | (go_at_call 11; (with_reducible refine (HT2.out _ _ _ HX5.out.1 HX5.out.2).mono ?_); rintro e w6 ⟨rfl, hB⟩; have HB6 := Aside0.mk (below_step HB5.out hB); have hS6 := blk_any hB HS5.out; have hP6 := blk_any hB HP5.out; have s0 : ∀ ob : Obj, (w6.alloc ob).cell? ⟨P0, 0, none⟩ = some (.int .i64 (-1)) := (fun ob => blk_cell (blk_alloc hS6 ob) 0); have s4 : ∀ ob : Obj, (w6.alloc ob).cell? ⟨P0, 4, none⟩ = some (.bool q) := (fun ob => blk_cell (blk_alloc hS6 ob) 4); obtain ⟨r0, r1, r2, r3, r4, r5, r6, r7, r8, r9, r10, r11, r12, r13, r14, r15⟩ := cells16_1 hP6; clear hB hS6 hP6 HX5 HB5; unfold badV stepV))
  skip
  go_ret
  exact ⟨by first | rfl | simp, by repeat (with_reducible first | exact HB6.out | apply below_alloc | apply below_drew | apply pw_below_drewN)⟩
set_option maxHeartbeats 8000000 in
set_option maxRecDepth 100000 in
theorem codes_out0 (code : Int) (key : ByteArray) (v : List Int) (AV : Option Addr) (cV : Nat) (w : World) (h0 : code < 0) : Calls Try.prog 8 #[.int .i64 code, .string key, .slice AV v.length cV] w fun e w' => e = .returned (.bool true) ∧ Below w.heap.size w w' := by
  have t0 : decide (code < 0) = true := decide_eq_true (by omega)
  clear h0
  go_enter Try.func8, Try.ntmps8
  go_wp2_with (first | (go_at_call 9; refine (awake_w _).mono ?_; rintro e w1 ⟨rfl, hB⟩; have HB1 := Aside0.mk hB; clear hB))
  go_ret
  exact ⟨by first | rfl | simp, by repeat (with_reducible first | exact HB1.out | apply below_alloc | apply below_drew | apply pw_below_drewN)⟩
set_option maxHeartbeats 8000000 in
set_option maxRecDepth 100000 in
theorem codes_out1 (code : Int) (key : ByteArray) (v : List Int) (AV : Option Addr) (cV : Nat) (w : World) (h0 : ¬ code < 0) (h1 : 255 < code) : Calls Try.prog 8 #[.int .i64 code, .string key, .slice AV v.length cV] w fun e w' => e = .returned (.bool true) ∧ Below w.heap.size w w' := by
  have t0 : decide (code < 0) = false := decide_eq_false (by omega)
  have t1 : decide (code > 255) = true := decide_eq_true (by omega)
  clear h0 h1
  go_enter Try.func8, Try.ntmps8
  go_wp2_with (first | (go_at_call 9; refine (awake_w _).mono ?_; rintro e w1 ⟨rfl, hB⟩; have HB1 := Aside0.mk hB; clear hB))
  go_ret
  exact ⟨by first | rfl | simp, by repeat (with_reducible first | exact HB1.out | apply below_alloc | apply below_drew | apply pw_below_drewN)⟩
set_option maxHeartbeats 8000000 in
set_option maxRecDepth 100000 in
theorem codes_out2 (code : Int) (key : ByteArray) (v : List Int) (AV : Option Addr) (cV : Nat) (w : World) (h0 : ¬ code < 0) (h1 : ¬ 255 < code) (h2 : key.size < 1) : Calls Try.prog 8 #[.int .i64 code, .string key, .slice AV v.length cV] w fun e w' => e = .returned (.bool true) ∧ Below w.heap.size w w' := by
  have t0 : decide (code < 0) = false := decide_eq_false (by omega)
  have t1 : decide (code > 255) = false := decide_eq_false (by omega)
  have t2 : decide (key.size < 1) = true := decide_eq_true (by omega)
  have t3 : decide ((key.size : Int) < 1) = true := decide_eq_true (by omega)
  clear h0 h1 h2
  go_enter Try.func8, Try.ntmps8
  go_wp2_with (first | (go_at_call 9; refine (awake_w _).mono ?_; rintro e w1 ⟨rfl, hB⟩; have HB1 := Aside0.mk hB; clear hB))
  go_ret
  exact ⟨by first | rfl | simp, by repeat (with_reducible first | exact HB1.out | apply below_alloc | apply below_drew | apply pw_below_drewN)⟩
set_option maxHeartbeats 8000000 in
set_option maxRecDepth 100000 in
theorem codes_out3 (code : Int) (key : ByteArray) (v : List Int) (AV : Option Addr) (cV : Nat) (w : World) (h0 : ¬ code < 0) (h1 : ¬ 255 < code) (h2 : ¬ key.size < 1) (h3 : 250 < key.size) : Calls Try.prog 8 #[.int .i64 code, .string key, .slice AV v.length cV] w fun e w' => e = .returned (.bool true) ∧ Below w.heap.size w w' := by
  have t0 : decide (code < 0) = false := decide_eq_false (by omega)
  have t1 : decide (code > 255) = false := decide_eq_false (by omega)
  have t2 : decide (key.size < 1) = false := decide_eq_false (by omega)
  have t3 : decide ((key.size : Int) < 1) = false := decide_eq_false (by omega)
  have t4 : decide (250 < key.size) = true := decide_eq_true (by omega)
  have t5 : decide ((key.size : Int) > 250) = true := decide_eq_true (by omega)
  clear h0 h1 h2 h3
  go_enter Try.func8, Try.ntmps8
  go_wp2_with (first | (go_at_call 9; refine (awake_w _).mono ?_; rintro e w1 ⟨rfl, hB⟩; have HB1 := Aside0.mk hB; clear hB))
  go_ret
  exact ⟨by first | rfl | simp, by repeat (with_reducible first | exact HB1.out | apply below_alloc | apply below_drew | apply pw_below_drewN)⟩
set_option maxHeartbeats 8000000 in
set_option maxRecDepth 100000 in
theorem codes_out4 (code : Int) (key : ByteArray) (v : List Int) (AV : Option Addr) (cV : Nat) (w : World) (h0 : ¬ code < 0) (h1 : ¬ 255 < code) (h2 : ¬ key.size < 1) (h3 : ¬ 250 < key.size) (h4 : 1000 < v.length) : Calls Try.prog 8 #[.int .i64 code, .string key, .slice AV v.length cV] w fun e w' => e = .returned (.bool true) ∧ Below w.heap.size w w' := by
  have t0 : decide (code < 0) = false := decide_eq_false (by omega)
  have t1 : decide (code > 255) = false := decide_eq_false (by omega)
  have t2 : decide (key.size < 1) = false := decide_eq_false (by omega)
  have t3 : decide ((key.size : Int) < 1) = false := decide_eq_false (by omega)
  have t4 : decide (250 < key.size) = false := decide_eq_false (by omega)
  have t5 : decide ((key.size : Int) > 250) = false := decide_eq_false (by omega)
  have t6 : decide (1000 < v.length) = true := decide_eq_true (by omega)
  have t7 : decide ((v.length : Int) > 1000) = true := decide_eq_true (by omega)
  clear h0 h1 h2 h3 h4
  go_enter Try.func8, Try.ntmps8
  go_wp2_with (first | (go_at_call 9; refine (awake_w _).mono ?_; rintro e w1 ⟨rfl, hB⟩; have HB1 := Aside0.mk hB; clear hB))
  go_ret
  exact ⟨by first | rfl | simp, by repeat (with_reducible first | exact HB1.out | apply below_alloc | apply below_drew | apply pw_below_drewN)⟩
theorem told_bad (l : List Int) (hn' : l.length ≤ 1000000) (hb : ∀ y ∈ l, 0 ≤ y ∧ y ≤ 255) (rep : ByteArray) (u : Int) (hs : parseS l = badS rep u 2) (A : Option Addr) (c : Nat) (w : World) (hC : Kd.C (Kd.int .u8) w A l.length l) (hc : l.length ≤ c) :
    Calls Try.prog 11 #[.slice A l.length c] w fun e w' => e = .returned (badV rep u 2) ∧ Below w.heap.size w w' := by
  refine (parse_w A c l w hC hc hb hn').mono ?_
  rintro e w' ⟨v, rfl, hst, hB⟩
  rw [stepAt_bad2 hst hs]
  exact ⟨rfl, hB⟩
theorem told_ok (l : List Int) (hn' : l.length ≤ 1000000) (hb : ∀ y ∈ l, 0 ≤ y ∧ y ≤ 255) (m : Cm) (op code u : Int) (q : Bool) (key : Option ByteArray) (hop : m.op = op) (hs : parseS l = ⟨some m, 2, code, 7, q, key, ⟨#[]⟩, u, 0⟩) (A : Option Addr) (c : Nat) (W : World) (hC : Kd.C (Kd.int .u8) W A l.length l) (hc : l.length ≤ c) :
    Calls Try.prog 11 #[.slice A l.length c] W fun e w' => ∃ (g : Nat) (ka : Option Addr) (kn kc : Nat) (u1 : Int) (y1 y2 y3 y4 y5 y6 y7 y8 y9 : Value), e = .returned (stepV (.slice (some ⟨g, 0, none⟩) 1 1) 2 code 7 q (.slice ka kn kc) ⟨#[]⟩ u1 0) ∧ w'.heap[g]? = some (.cells #[.int .i64 op, y1, y2, y3, y4, y5, y6, y7, y8, y9] 39 (0, 0)) ∧ Below W.heap.size W w' := by
  subst hop
  refine (parse_w A c l W hC hc hb hn').mono ?_
  rintro e w' ⟨v, rfl, ⟨cv, kv, rfl, hcm, hkm⟩, hB⟩
  rw [hs] at hcm hkm ⊢
  obtain ⟨g, B, cB, rfl, hg, hCB, hle⟩ := hcm
  obtain ⟨ka, kn, kc, rfl⟩ := hkm.slice
  exact ⟨g, ka, kn, kc, u, _, _, _, _, _, _, _, _, _, rfl, hg, hB⟩
def zs (n : Nat) : List Int := List.replicate n 0
theorem zs_len (n : Nat) : (zs n).length = n := by simp [zs]
theorem zs_bytes (n : Nat) : ∀ y ∈ zs n, 0 ≤ y ∧ y ≤ 255 := by intro y hy; obtain rfl := List.eq_of_mem_replicate hy; omega
theorem mk_a (n : Nat) (h : n = 0 ∨ n = 4 ∨ n = 8 ∨ n = 20) : ∀ W : World, (Instr.makeSlice 22 (.int .i64 (n : Int)) (.int .i64 (n : Int))).run Try.prog W = .ok (.slice (some ⟨W.heap.size, 0, none⟩) (zs n).length (zs n).length) (W.alloc (.cells ((zs n).map (Value.int .u8)).toArray 5)) := by
  rcases h with rfl | rfl | rfl | rfl <;> (intro W; kernel_rfl)
theorem mk_b (n : Nat) (h : n = 0 ∨ n = 4 ∨ n = 8 ∨ n = 20) : ∀ W : World, (Instr.makeSlice 22 (.int .i64 ((n : Int) + 1)) (.int .i64 ((n : Int) + 1))).run Try.prog W = .ok (.slice (some ⟨W.heap.size, 0, none⟩) (zs (n + 1)).length (zs (n + 1)).length) (W.alloc (.cells ((zs (n + 1)).map (Value.int .u8)).toArray 5)) := by
  rcases h with rfl | rfl | rfl | rfl <;> (intro W; kernel_rfl)
theorem fault_bytes (code st : Int) : ∀ x ∈ faultL code st 7, 0 ≤ x ∧ x < 256 := by
  intro y hy
  simp only [faultL, putL2, putL4, List.mem_append, List.mem_cons, List.not_mem_nil, or_false] at hy
  omega
theorem bytes_le (key : ByteArray) : ∀ y ∈ bytesOf key, 0 ≤ y ∧ y ≤ 255 := by
  intro y hy
  unfold bytesOf at hy
  simp only [List.mem_map] at hy
  obtain ⟨b, _, rfl⟩ := hy
  have := b.toNat_lt
  omega
theorem codes_w (code : Int) (key : ByteArray) (v : List Int) (AV : Option Addr) (cV : Nat) (w : World) (hV : Kd.C (Kd.int .u8) w AV v.length v) (hvb : ∀ y ∈ v, 0 ≤ y ∧ y ≤ 255) : Calls Try.prog 8 #[.int .i64 code, .string key, .slice AV v.length cV] w fun e w' => e = .returned (.bool true) ∧ Below w.heap.size w w' := by
  by_cases h0 : code < 0
  · exact codes_out0 code key v AV cV w h0
  by_cases h1 : 255 < code
  · exact codes_out1 code key v AV cV w h0 h1
  by_cases h2 : key.size < 1
  · exact codes_out2 code key v AV cV w h0 h1 h2
  by_cases h3 : 250 < key.size
  · exact codes_out3 code key v AV cV w h0 h1 h2 h3
  by_cases h4 : 1000 < v.length
  · exact codes_out4 code key v AV cV w h0 h1 h2 h3 h4
  have hO := fun W => of_w code (by omega) (by omega) W
  have hpk := row_kinds ⟨(loudC code).1.toNat, by have := loud_range ⟨code.toNat, by omega⟩; rw [show ((code.toNat : Nat) : Int) = code by omega] at this; omega⟩
  have hcr := loud_range ⟨code.toNat, by omega⟩
  rw [show ((code.toNat : Nat) : Int) = code by omega] at hcr
  rw [show (((loudC code).1.toNat : Nat) : Int) = (loudC code).1 by omega] at hpk
  have hzl := zs_len
  have E0 : (⟨#[]⟩ : ByteArray).size = 0 := rfl
  have P : ∀ (n : Nat) (k : ByteArray) (u : List Int), n ≤ 21 → k.size ≤ 250 → u.length ≤ 1000 → parseS (pktL code 7 0 (zs n) u k) = reqS code 7 0 n k.size (zs n ++ bytesOf k ++ u) := fun n k u a1 a2 a3 => by
    have h := parse_pkt code 7 0 (zs n) u k (by omega) (by omega) (by rw [zs_len]; omega) (by omega) a3 (by omega) (by omega) (by omega) (by omega)
    rwa [zs_len] at h
  have BL : ∀ (n : Nat) (k : ByteArray) (u : List Int), (zs n ++ bytesOf k ++ u).length = n + k.size + u.length := fun n k u => by rw [List.length_append, List.length_append, bytesOf_length, zs_len]
  have PB : ∀ (n : Nat) (k : ByteArray) (u : List Int), (∀ y ∈ u, 0 ≤ y ∧ y ≤ 255) → ∀ y ∈ pktL code 7 0 (zs n) u k, 0 ≤ y ∧ y ≤ 255 := fun n k u hu => pkt_bytes (zs_bytes n) (bytes_le k) hu
  have PL : ∀ (n : Nat) (k : ByteArray) (u : List Int), n ≤ 21 → k.size ≤ 250 → u.length ≤ 1000 → (pktL code 7 0 (zs n) u k).length ≤ 1000000 := fun n k u a1 a2 a3 => by rw [pktL_len, zs_len]; omega
  have K0 : ∀ (n : Nat) (k : ByteArray), n ≤ 21 → k.size ≤ 250 → ∀ (W : World) (A : Option Addr) (cA : Nat), Below w.heap.size w W → Kd.C (Kd.int .u8) W A (zs n).length (zs n) → Calls Try.prog 15 #[.int .i64 code, .slice A (zs n).length cA, .string k, .slice none 0 0, .int .u64 0, .int .u32 7] W fun e w' => ∃ (B : Option Addr) (c : Nat), e = .returned (.slice B (pktL code 7 0 (zs n) [] k).length c) ∧ (pktL code 7 0 (zs n) [] k).length ≤ c ∧ Kd.C (Kd.int .u8) w' B (pktL code 7 0 (zs n) [] k).length (pktL code 7 0 (zs n) [] k) ∧ Below W.heap.size W w' := fun n k a1 a2 W A cA _ hC =>
    ask_w code 7 0 (zs n) [] k A cA none 0 (zs n).length 0 _ rfl rfl (by rw [pktL_len]; rfl) W hC (Kd.C_nil (Kd.int .u8) W) (by rw [zs_len]; omega) (by omega) (by omega) (by omega) (by omega) (by omega) (by omega)
  have K1 : ∀ (n : Nat) (k : ByteArray), n ≤ 21 → k.size ≤ 250 → ∀ (W : World) (A : Option Addr) (cA : Nat), Below w.heap.size w W → Kd.C (Kd.int .u8) W A (zs n).length (zs n) → Calls Try.prog 15 #[.int .i64 code, .slice A (zs n).length cA, .string k, .slice AV v.length cV, .int .u64 0, .int .u32 7] W fun e w' => ∃ (B : Option Addr) (c : Nat), e = .returned (.slice B (pktL code 7 0 (zs n) v k).length c) ∧ (pktL code 7 0 (zs n) v k).length ≤ c ∧ Kd.C (Kd.int .u8) w' B (pktL code 7 0 (zs n) v k).length (pktL code 7 0 (zs n) v k) ∧ Below W.heap.size W w' := fun n k a1 a2 W A cA hB hC =>
    ask_w code 7 0 (zs n) v k A cA AV cV (zs n).length v.length _ rfl rfl (by rw [pktL_len]) W hC (Kd.C_below hV hB) (by rw [zs_len]; omega) (by omega) (by omega) (by omega) (by omega) (by omega) (by omega)
  cases hp : plainC (loudC code).1 with
  | none =>
    rw [hp] at hO
    have hb : ∀ n, n ≤ 21 → parseS (pktL code 7 0 (zs n) [] key) = badS (strOfNums (faultL code 129 7)) (24 + ((zs n ++ bytesOf key ++ ([] : List Int)).length : Int)) 2 := fun n hn => by
      rw [P n key [] hn (by omega) (by simp)]
      unfold reqS
      rw [hp]
    exact codes_no code key v AV cV w (-1) 0 _ _ _ (zs 0) (zs 1) (pktL code 7 0 (zs 0) [] key) (pktL code 7 0 (zs 1) [] key) (faultL code 129 7) (faultL code 129 7) (by omega) (by omega) (by omega) (by omega) (by omega) rfl (by decide) (mk_a 0 (by omega)) (mk_b 0 (by omega)) ⟨hO⟩ ⟨K0 0 key (by omega) (by omega)⟩ ⟨K0 1 key (by omega) (by omega)⟩
      ⟨fun W A cA hC hc => told_bad _ (PL 0 key [] (by omega) (by omega) (by simp)) (PB 0 key [] (by simp)) _ _ (hb 0 (by omega)) A cA W hC hc⟩ ⟨fun W A cA hC hc => told_bad _ (PL 1 key [] (by omega) (by omega) (by simp)) (PB 1 key [] (by simp)) _ _ (hb 1 (by omega)) A cA W hC hc⟩
      rfl (fault_bytes _ _) rfl rfl (fault_bytes _ _) rfl (by decide) (by decide)
  | some r =>
    obtain ⟨op, ee, has⟩ := r
    obtain ⟨hh, hee, hop⟩ := hpk (op, ee, has) hp
    simp only at hh hee hop
    rw [hp] at hO
    obtain ⟨n, rfl, hn⟩ : ∃ n : Nat, ee = (n : Int) ∧ (n = 0 ∨ n = 4 ∨ n = 8 ∨ n = 20) := by
      rcases hee with rfl | rfl | rfl | rfl
      · exact ⟨0, rfl, by omega⟩
      · exact ⟨4, rfl, by omega⟩
      · exact ⟨8, rfl, by omega⟩
      · exact ⟨20, rfl, by omega⟩
    have hw : IntKind.i64.wrap ((n : Int) + 1) = (n : Int) + 1 := by rcases hn with rfl | rfl | rfl | rfl <;> decide
    have hbad : ∀ (k : ByteArray) (u : List Int), k.size ≤ 250 → u.length ≤ 1000 → parseS (pktL code 7 0 (zs (n + 1)) u k) = badS (strOfNums (faultL code 4 7)) (24 + ((zs (n + 1) ++ bytesOf k ++ u).length : Int)) 2 := fun k u a1 a2 => by
      rw [P (n + 1) k u (by omega) a1 a2]
      unfold reqS
      rw [hp]
      have hf : fitsB ((zs (n + 1) ++ bytesOf k ++ u).length : Int) ((n + 1 : Nat) : Int) (k.size : Int) (n : Int) has = false := by
        unfold fitsB
        refine decide_eq_false ?_
        rintro ⟨h, _⟩
        omega
      simp only
      rw [if_pos hf]
    have hgood : ∀ (k : ByteArray) (u : List Int), k.size ≤ 250 → u.length ≤ 1000 → ((has = 1 ∨ has = 3) → 1 ≤ k.size) → (has ≠ 3 → u = []) → ((has = 0 ∨ has = 4) → k.size = 0) → ∃ (m : Cm) (ko : Option ByteArray) (z : Int), m.op = op ∧ parseS (pktL code 7 0 (zs n) u k) = ⟨some m, 2, code, 7, (loudC code).2, ko, ⟨#[]⟩, z, 0⟩ := fun k u a1 a2 a3 a4 a5 => by
      rw [P n k u (by omega) a1 a2]
      have hl := BL n k u
      have hu : has ≠ 3 → u.length = 0 := fun h => by rw [a4 h]; rfl
      have hf : ¬ fitsB ((zs n ++ bytesOf k ++ u).length : Int) ((n : Nat) : Int) (k.size : Int) (n : Int) has = false := by
        have : fitsB ((zs n ++ bytesOf k ++ u).length : Int) ((n : Nat) : Int) (k.size : Int) (n : Int) has = true := by
          unfold fitsB
          rw [hl]
          exact decide_eq_true (by omega)
        rw [this]
        decide
      unfold reqS
      rw [hp]
      simp only
      rw [if_neg hf, if_neg (by omega), if_neg (by omega)]
      exact ⟨_, _, _, rfl, rfl⟩
    have hk0 : has = 0 ∨ has = 1 ∨ has = 3 ∨ has = 4 := by omega
    rcases hk0 with rfl | rfl | rfl | rfl
    · obtain ⟨m, ko, z, hm, hs⟩ := hgood ⟨#[]⟩ [] (by decide) (by simp) (by omega) (fun _ => rfl) (fun _ => rfl)
      exact codes_ff code key v AV cV w op (n : Int) 0 _ (loudC code).2 (zs n) (zs (n + 1)) (pktL code 7 0 (zs n) [] ⟨#[]⟩) (pktL code 7 0 (zs (n + 1)) [] ⟨#[]⟩) (faultL code 129 7) (faultL code 4 7) (by omega) (by omega) (by omega) (by omega) (by omega) hop.1 hw (mk_a n hn) (mk_b n hn) ⟨hO⟩ ⟨K0 n ⟨#[]⟩ (by omega) (by decide)⟩ ⟨K0 (n + 1) ⟨#[]⟩ (by omega) (by decide)⟩
        ⟨fun W A cA hC hc => told_ok _ (PL n ⟨#[]⟩ [] (by omega) (by decide) (by simp)) (PB n ⟨#[]⟩ [] (by simp)) m op code z _ ko hm hs A cA W hC hc⟩ ⟨fun W A cA hC hc => told_bad _ (PL (n + 1) ⟨#[]⟩ [] (by omega) (by decide) (by simp)) (PB (n + 1) ⟨#[]⟩ [] (by simp)) _ _ (hbad ⟨#[]⟩ [] (by decide) (by simp)) A cA W hC hc⟩
        rfl (fault_bytes _ _) rfl rfl (fault_bytes _ _) rfl (by rw [zs_len]; omega) (by rw [zs_len]; omega)
    · obtain ⟨m, ko, z, hm, hs⟩ := hgood key [] (by omega) (by simp) (by omega) (fun _ => rfl) (by omega)
      exact codes_tf code key v AV cV w op (n : Int) 0 _ (loudC code).2 (zs n) (zs (n + 1)) (pktL code 7 0 (zs n) [] key) (pktL code 7 0 (zs (n + 1)) [] key) (faultL code 129 7) (faultL code 4 7) (by omega) (by omega) (by omega) (by omega) (by omega) hop.1 hw (mk_a n hn) (mk_b n hn) ⟨hO⟩ ⟨K0 n key (by omega) (by omega)⟩ ⟨K0 (n + 1) key (by omega) (by omega)⟩
        ⟨fun W A cA hC hc => told_ok _ (PL n key [] (by omega) (by omega) (by simp)) (PB n key [] (by simp)) m op code z _ ko hm hs A cA W hC hc⟩ ⟨fun W A cA hC hc => told_bad _ (PL (n + 1) key [] (by omega) (by omega) (by simp)) (PB (n + 1) key [] (by simp)) _ _ (hbad key [] (by omega) (by simp)) A cA W hC hc⟩
        rfl (fault_bytes _ _) rfl rfl (fault_bytes _ _) rfl (by rw [zs_len]; omega) (by rw [zs_len]; omega)
    · obtain ⟨m, ko, z, hm, hs⟩ := hgood key v (by omega) (by omega) (by omega) (by omega) (by omega)
      exact codes_tt code key v AV cV w op (n : Int) 0 _ (loudC code).2 (zs n) (zs (n + 1)) (pktL code 7 0 (zs n) v key) (pktL code 7 0 (zs (n + 1)) v key) (faultL code 129 7) (faultL code 4 7) (by omega) (by omega) (by omega) (by omega) (by omega) hop.1 hw (mk_a n hn) (mk_b n hn) ⟨hO⟩ ⟨K1 n key (by omega) (by omega)⟩ ⟨K1 (n + 1) key (by omega) (by omega)⟩
        ⟨fun W A cA hC hc => told_ok _ (PL n key v (by omega) (by omega) (by omega)) (PB n key v hvb) m op code z _ ko hm hs A cA W hC hc⟩ ⟨fun W A cA hC hc => told_bad _ (PL (n + 1) key v (by omega) (by omega) (by omega)) (PB (n + 1) key v hvb) _ _ (hbad key v (by omega) (by omega)) A cA W hC hc⟩
        rfl (fault_bytes _ _) rfl rfl (fault_bytes _ _) rfl (by rw [zs_len]; omega) (by rw [zs_len]; omega)
    · obtain ⟨m, ko, z, hm, hs⟩ := hgood ⟨#[]⟩ [] (by decide) (by simp) (by omega) (fun _ => rfl) (fun _ => rfl)
      exact codes_ff code key v AV cV w op (n : Int) 0 _ (loudC code).2 (zs n) (zs (n + 1)) (pktL code 7 0 (zs n) [] ⟨#[]⟩) (pktL code 7 0 (zs (n + 1)) [] ⟨#[]⟩) (faultL code 129 7) (faultL code 4 7) (by omega) (by omega) (by omega) (by omega) (by omega) hop.1 hw (mk_a n hn) (mk_b n hn) ⟨hO⟩ ⟨K0 n ⟨#[]⟩ (by omega) (by decide)⟩ ⟨K0 (n + 1) ⟨#[]⟩ (by omega) (by decide)⟩
        ⟨fun W A cA hC hc => told_ok _ (PL n ⟨#[]⟩ [] (by omega) (by decide) (by simp)) (PB n ⟨#[]⟩ [] (by simp)) m op code z _ ko hm hs A cA W hC hc⟩ ⟨fun W A cA hC hc => told_bad _ (PL (n + 1) ⟨#[]⟩ [] (by omega) (by decide) (by simp)) (PB (n + 1) ⟨#[]⟩ [] (by simp)) _ _ (hbad ⟨#[]⟩ [] (by decide) (by simp)) A cA W hC hc⟩
        rfl (fault_bytes _ _) rfl rfl (fault_bytes _ _) rfl (by rw [zs_len]; omega) (by rw [zs_len]; omega)
def butterylaw16_BininCodes.Ok (a0 : Int) (a1 : ByteArray) (l2 : List Int) : Prop := (∀ x ∈ l2, 0 ≤ x ∧ x ≤ 255)
noncomputable def butterylaw16_BininCodes.f (a0 : Int) (a1 : ByteArray) (l2 : List Int) : Option Bool := @ite _ (butterylaw16_BininCodes.Ok a0 a1 l2) (Classical.propDecidable _) (some true) none
theorem butterylaw16_BininCodes.calls (a0 : Int) (a1 : ByteArray) (A2 : Option Addr) (c2 : Nat) (l2 : List Int) (r : Bool) (w : World) (hr2 : Kd.C (Kd.int .u8) w A2 l2.length l2) (hc2 : l2.length ≤ c2) (h : butterylaw16_BininCodes.f a0 a1 l2 = some r) :
    Calls Try.prog 8 #[.int .i64 a0, .string a1, .slice A2 l2.length c2] w fun e w' => e = .returned (.bool r) ∧ Below w.heap.size w w' := by
  unfold butterylaw16_BininCodes.f at h
  by_cases hO : butterylaw16_BininCodes.Ok a0 a1 l2
  · rw [if_pos hO] at h
    obtain rfl := Option.some.inj h
    exact codes_w a0 a1 l2 A2 c2 w hr2 hO
  · rw [if_neg hO] at h
    cases h

/-- THE ONE PURE STATEMENT of butterylaw16_BininCodes: yours. -/
def butterylaw16_BininCodes.Pure : Prop := ∀ (a0 : Int) (a1 : ByteArray) (l2 : List Int), (Lit.int .i64 a0).wf = true → a1.size ≤ 140737488351232 → l2.length ≤ maxLen → l2.length * 1 ≤ 140737488351232 → (∀ x ∈ l2, (Lit.int .u8 x).wf = true) → butterylaw16_BininCodes.f a0 a1 l2 = some true
theorem butterylaw16_BininCodes.walk (P : butterylaw16_BininCodes.Pure) (a0 : Int) (a1 : ByteArray) (a2 : Option Addr) (len2 cap2 : Nat) (z2 : List Int) (w : World) (w0 : (Lit.int .i64 a0).wf = true) (w1 : a1.size ≤ 140737488351232) (w2 : (a2 = none ∧ len2 = 0 ∧ cap2 = 0 ∧ z2 = []) ∨ ∃ x, a2 = some x ∧ len2 ≤ cap2 ∧ cap2 ≤ maxLen ∧ z2.length = cap2 ∧ (∀ i, i < z2.length → w.cell? (x.add i) = some (.int .u8 (z2.getD i 0))) ∧ ∀ n ∈ z2, (Lit.int .u8 n).wf = true) (y2 : len2 * 1 ≤ 140737488351232) :
    Calls Try.prog 8 #[.int .i64 a0, .string a1, .slice a2 len2 cap2] w fun e w' => e = .returned (.bool true) ∧ Below w.heap.size w w' := by
  obtain ⟨l2, rfl, hr2, hm2, hw2, hc2⟩ := ReadsInt.ofRowC w2
  have h := P a0 a1 l2 w0 w1 hm2 y2 hw2
  refine (butterylaw16_BininCodes.calls a0 a1 _ _ l2 true w (Kd.C_of_reads (d := (0 : Int)) (h1 := fun _ => rfl) hr2) hc2 h).mono ?_
  rintro e w' ⟨rfl, hd⟩
  exact ⟨rfl, hd⟩

end Go.Proofs.Ytkbhnnmngmdkdaa.Hc
