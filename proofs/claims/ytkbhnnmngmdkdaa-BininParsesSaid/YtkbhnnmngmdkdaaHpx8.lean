-- Written by this session's own program (wip/hprint.py) out of the translation, over hand-proved contracts. Lean checks it.
import Derived.Test.YtkbhnnmngmdkdaaHpx0
import Derived.Test.YtkbhnnmngmdkdaaHpx2
import Derived.Test.YtkbhnnmngmdkdaaHpx3
import Derived.Test.YtkbhnnmngmdkdaaHpx4
import Derived.Test.YtkbhnnmngmdkdaaHpx5
import Derived.Test.YtkbhnnmngmdkdaaHpx6
import Derived.Test.YtkbhnnmngmdkdaaHpx7
namespace Go.Proofs.Ytkbhnnmngmdkdaa.Hp
open Go.RowKit Go.Proofs.YtkbhnnmngmdkdaaW.PrintWords Go.Proofs.YtkbhnnmngmdkdaaW.PrintLast Go.Proofs.YtkbhnnmngmdkdaaW.PrintMore
attribute [local go_sem] max2_int min2_int max_two min_two max_three min_three max_four min_four   -- for this text's walks alone
set_option linter.unusedVariables false
set_option linter.unusedSimpArgs false

/-! ### butteryref16_Parse: function 12 -/
/-- The row of a code, as the document's table has it. -/
def refRow (o : Option (Int × Int × Int)) : Int × Int × Bool × Bool := match o with
  | none => (-1, 0, true, false)
  | some r => (r.1, r.2.1, decide (r.2.2 = 1 ∨ r.2.2 = 3), decide (r.2.2 = 3))
def rowV (r : Int × Int × Bool × Bool) (q : Bool) : Value := .agg #[.int .i64 r.1, .int .i64 r.2.1, .bool r.2.2.1, .bool r.2.2.2, .bool q]
theorem rloud_all : ∀ n : Fin 256, butteryref16_loud.f 9 ((n : Nat) : Int) = some (loudC ((n : Nat) : Int)) := by decide +kernel
theorem loud_not : ∀ n : Fin 256, (loudC ((n : Nat) : Int)).1 ≠ 9 ∧ (loudC ((n : Nat) : Int)).1 ≠ 13 := by decide +kernel
set_option maxHeartbeats 8000000 in
set_option maxRecDepth 100000 in
theorem of_some (code : Int) (q : Bool) (w : World) (c : Int) (hc : c = 0 ∨ c = 1 ∨ c = 2 ∨ c = 3 ∨ c = 4 ∨ c = 5 ∨ c = 6 ∨ c = 7 ∨ c = 8 ∨ c = 10 ∨ c = 11 ∨ c = 12 ∨ c = 14 ∨ c = 15 ∨ c = 28 ∨ c = 29) (HL : Aside0 (∀ W, Calls Try.prog 26 #[.int .i64 code] W fun e w' => e = .returned (.tuple #[.int .i64 c, .bool q]) ∧ Drawn0 W w')) :
    Calls Try.prog 16 #[.int .i64 code] w fun e w' => e = .returned (rowV (refRow (plainC c)) q) ∧ Below w.heap.size w w' := by
  have hu47 := Try.underlying47
  have hu61 := Try.underlying61
  rcases hc with rfl | rfl | rfl | rfl | rfl | rfl | rfl | rfl | rfl | rfl | rfl | rfl | rfl | rfl | rfl | rfl
  all_goals (
    go_enter Try.func16, Try.ntmps16
    go_wp2_with (first | (go_at_call 26; refine (HL.out _).mono ?_; rintro e w' ⟨rfl, ⟨m, rfl⟩⟩))
    refine bodyPost_ret (by simp [results, Try.results16, go_sem]; rfl) rfl ?_
    exact ⟨rfl, by repeat (with_reducible first | exact Below.refl _ _ | apply below_alloc | apply below_drew | apply pw_below_drewN | refine below_set ?_ (by omega))⟩)
set_option maxHeartbeats 8000000 in
set_option maxRecDepth 100000 in
theorem of_none (code : Int) (q : Bool) (w : World) (c : Int) (hc : 16 ≤ c ∧ c ≠ 28 ∧ c ≠ 29) (HL : Aside0 (∀ W, Calls Try.prog 26 #[.int .i64 code] W fun e w' => e = .returned (.tuple #[.int .i64 c, .bool q]) ∧ Drawn0 W w')) :
    Calls Try.prog 16 #[.int .i64 code] w fun e w' => e = .returned (rowV (-1, 0, true, false) q) ∧ Below w.heap.size w w' := by
  have hu47 := Try.underlying47
  have hu61 := Try.underlying61
  have b1 : decide (c < 16) = false := decide_eq_false (by omega)
  have b2 : decide (c ≥ 1) = true := decide_eq_true (by omega)
  have b3 : decide (c ≤ 3) = false := decide_eq_false (by omega)
  have e1 : (c == 28) = false := beq_eq_false_iff_ne.mpr (by omega)
  have e2 : (c == 29) = false := beq_eq_false_iff_ne.mpr (by omega)
  have e3 : (c == 7) = false := beq_eq_false_iff_ne.mpr (by omega)
  have e4 : (c == 8) = false := beq_eq_false_iff_ne.mpr (by omega)
  have e5 : (c == 10) = false := beq_eq_false_iff_ne.mpr (by omega)
  have e6 : (c == 11) = false := beq_eq_false_iff_ne.mpr (by omega)
  have e7 : (c == 14) = false := beq_eq_false_iff_ne.mpr (by omega)
  have e8 : (c == 15) = false := beq_eq_false_iff_ne.mpr (by omega)
  have e9 : (c == 5) = false := beq_eq_false_iff_ne.mpr (by omega)
  have e10 : (c == 6) = false := beq_eq_false_iff_ne.mpr (by omega)
  clear hc
  go_enter Try.func16, Try.ntmps16
  go_wp2_with (first | (go_at_call 26; refine (HL.out _).mono ?_; rintro e w' ⟨rfl, ⟨m, rfl⟩⟩))
  refine bodyPost_ret (by simp [results, Try.results16, go_sem]; rfl) rfl ?_
  exact ⟨rfl, by repeat (with_reducible first | exact Below.refl _ _ | apply below_alloc | apply below_drew | apply pw_below_drewN | refine below_set ?_ (by omega))⟩
theorem plain_some : ∀ n : Fin 256, (plainC ((n : Nat) : Int)).isSome = true ↔ ((n : Nat) = 0 ∨ (n : Nat) = 1 ∨ (n : Nat) = 2 ∨ (n : Nat) = 3 ∨ (n : Nat) = 4 ∨ (n : Nat) = 5 ∨ (n : Nat) = 6 ∨ (n : Nat) = 7 ∨ (n : Nat) = 8 ∨ (n : Nat) = 10 ∨ (n : Nat) = 11 ∨ (n : Nat) = 12 ∨ (n : Nat) = 14 ∨ (n : Nat) = 15 ∨ (n : Nat) = 28 ∨ (n : Nat) = 29) := by decide +kernel
theorem of_w (code : Int) (h0 : 0 ≤ code) (h1 : code ≤ 255) (w : World) : Calls Try.prog 16 #[.int .i64 code] w fun e w' => e = .returned (rowV (refRow (plainC (loudC code).1)) (loudC code).2) ∧ Below w.heap.size w w' := by
  have hcl := rloud_all ⟨code.toNat, by omega⟩
  have hcr := loud_range ⟨code.toNat, by omega⟩
  have hcn := loud_not ⟨code.toNat, by omega⟩
  rw [show ((code.toNat : Nat) : Int) = code by omega] at hcl hcr hcn
  have hps := plain_some ⟨(loudC code).1.toNat, by omega⟩
  rw [show (((loudC code).1.toNat : Nat) : Int) = (loudC code).1 by omega] at hps
  have HL := Aside0.mk (fun W => butteryref16_loud.calls 9 code (loudC code).1 (loudC code).2 W hcl)
  simp only at hps
  cases hp : plainC (loudC code).1 with
  | none =>
    rw [hp] at hps
    have hn := mt hps.2 (by simp)
    exact of_none code _ w _ (by omega) HL
  | some r =>
    rw [hp] at hps
    have hn := hps.1 rfl
    rw [← hp]
    exact of_some code _ w _ (by omega) HL
theorem row_more {W : World} {g : Nat} {C : Array Value} {e : TypeId} {xs : List Int} {rest : List Value} (h : W.heap[g]? = some (.cells C e (0, 0))) (hC : C.toList = xs.map (Value.int .u8) ++ rest) (hl : xs.length ≤ 9223372036854775807) : Kd.C (Kd.int .u8) W (some ⟨g, 0, none⟩) xs.length xs := by
  refine ⟨rfl, hl, fun _ => ⟨_, rfl, fun j' p hj' => ⟨[.int .u8 p], rfl, rfl, fun i u hu => ?_⟩⟩⟩
  cases i with
  | succ i => simp at hu
  | zero =>
    obtain rfl : Value.int .u8 p = u := by simpa using hu
    have hlt : j' < xs.length := (List.getElem?_eq_some_iff.1 hj').1
    rw [add_plain, Nat.add_zero, show j' * (Kd.int .u8).sz = j' from Nat.mul_one j', blk_cell h, ← Array.getElem?_toList, hC, List.getElem?_append_left (by simpa using hlt), List.getElem?_map, hj']
    rfl
theorem C_cells {W : World} {A : Option Addr} {n : Nat} {xs : List Int} (h : Kd.C (Kd.int .u8) W A n xs) (hn : 0 < n) : ∃ ad, A = some ad ∧ ∀ (j : Nat) (v : Value), (xs.map (Value.int .u8))[j]? = some v → W.cell? (ad.add j) = some v := by
  obtain ⟨ad, e, hc⟩ := h.2.2 hn
  refine ⟨ad, e, fun j v hv => ?_⟩
  rw [List.getElem?_map] at hv
  obtain ⟨p, hp, rfl⟩ := Option.map_eq_some_iff.1 hv
  obtain ⟨cs, h1, h2, h3⟩ := hc j p hp
  have h2' : cs = [.int .u8 p] := h2
  have := h3 0 (.int .u8 p) (by rw [h2']; rfl)
  rwa [Nat.add_zero, show j * (Kd.int .u8).sz = j from Nat.mul_one j] at this
theorem rput4 (a : Int) (h0 : 0 ≤ a) (h1 : a < 4294967296) : butteryref01_Put.f 9 a 4 = some (putL4 a) := by
  have e : ∀ b : Int, 0 ≤ b → b < 4294967296 → IntKind.u64.wrap (Int.tdiv b 256) = b / 256 ∧ Int.tmod b 256 % 256 = b % 256 := fun b hb0 hb1 => by
    rw [Int.tdiv_eq_ediv_of_nonneg hb0, Int.tmod_eq_emod_of_nonneg hb0, u64_in _ (by omega) (by omega)]
    exact ⟨rfl, by omega⟩
  have e1 := e a h0 h1
  have e2 := e (a / 256) (by omega) (by omega)
  have e3 := e (a / 256 / 256) (by omega) (by omega)
  have e4 := e (a / 256 / 256 / 256) (by omega) (by omega)
  simp [butteryref01_Put.f, butteryref01_Put.l0, wrap64, putL4, e1.1, e1.2, e2.1, e2.2, e3.1, e3.2, e4.1, e4.2]
  omega
set_option maxHeartbeats 8000000 in
set_option maxRecDepth 100000 in
theorem rfault_w (code st opq : Int) (w : World) (hs0 : 0 ≤ st) (hs1 : st < 256) (ho0 : 0 ≤ opq) (ho1 : opq < 4294967296) :
    Calls Try.prog 22 #[.int .i64 code, .int .i64 st, .int .u32 opq] w fun e w' => e = .returned (.string (strOfNums (faultL code st opq))) ∧ Below w.heap.size w w' := by
  have hu22 := Try.underlying22
  have mk := make24 w
  have w1 : IntKind.u8.wrap code = code % 256 := by simp [IntKind.wrap, IntKind.bits, IntKind.signed]
  have w2 : IntKind.u8.wrap st = st % 256 := by simp [IntKind.wrap, IntKind.bits, IntKind.signed]
  have w3 : IntKind.u64.wrap opq = opq := u64_in _ ho0 (by clear w1 w2; omega)
  have w4 : st.tdiv 256 = st / 256 := Int.tdiv_eq_ediv_of_nonneg hs0
  have w5 : IntKind.u8.wrap (st / 256) = st / 256 % 256 := by simp [IntKind.wrap, IntKind.bits, IntKind.signed]
  have HP := Aside0.mk (fun W => butteryref01_Put.calls 9 opq 4 (putL4 opq) W (rput4 opq ho0 ho1))
  have w6 : wrap64 (st / 256) = st / 256 := by clear w1 w2 w3 w5; unfold wrap64; omega
  have HO := Aside0.mk (And.intro hs0 hs1)
  clear ho0 ho1 hs0 hs1
  go_enter Try.func22, Try.ntmps22
  go_wp2_with fail
  generalize hW : w.alloc (.cells #[Value.int .u8 129, Value.int .u8 (code % 256), Value.int .u8 0, Value.int .u8 0, Value.int .u8 0, Value.int .u8 0, Value.int .u8 (st / 256 % 256), Value.int .u8 (st % 256), Value.int .u8 0, Value.int .u8 0, Value.int .u8 0, Value.int .u8 0, Value.int .u8 0, Value.int .u8 0, Value.int .u8 0, Value.int .u8 0, Value.int .u8 0, Value.int .u8 0, Value.int .u8 0, Value.int .u8 0, Value.int .u8 0, Value.int .u8 0, Value.int .u8 0, Value.int .u8 0] 5) = W0
  have hk : W0.heap[w.heap.size]? = some (.cells ([Value.int .u8 129, Value.int .u8 (code % 256), Value.int .u8 0, Value.int .u8 0, Value.int .u8 0, Value.int .u8 0, Value.int .u8 (st / 256 % 256), Value.int .u8 (st % 256), Value.int .u8 0, Value.int .u8 0, Value.int .u8 0, Value.int .u8 0, Value.int .u8 0, Value.int .u8 0, Value.int .u8 0, Value.int .u8 0, Value.int .u8 0, Value.int .u8 0, Value.int .u8 0, Value.int .u8 0, Value.int .u8 0, Value.int .u8 0, Value.int .u8 0, Value.int .u8 0]).toArray 5 (0, 0)) := by rw [← hW]; exact blk_new w _
  have hB0 : Below w.heap.size w W0 := by rw [← hW]; exact below_alloc (Below.refl _ _) _
  have HK := Aside0.mk hk
  have HB0 := Aside0.mk hB0
  clear hk hB0 hW mk
  go_region_law (first | (refine step_copy_splice rfl (.tmp 25) (.tmp 28) 22 22 rfl 5 Try.underlying22 rfl (some ⟨w.heap.size, 12, none⟩) _ 4 12 4 _ rfl rfl w.heap.size 12 ([Value.int .u8 129, Value.int .u8 (code % 256), Value.int .u8 0, Value.int .u8 0, Value.int .u8 0, Value.int .u8 0, Value.int .u8 (st / 256 % 256), Value.int .u8 (st % 256), Value.int .u8 0, Value.int .u8 0, Value.int .u8 0, Value.int .u8 0, Value.int .u8 0, Value.int .u8 0, Value.int .u8 0, Value.int .u8 0, Value.int .u8 0, Value.int .u8 0, Value.int .u8 0, Value.int .u8 0, Value.int .u8 0, Value.int .u8 0, Value.int .u8 0, Value.int .u8 0]) 5 (by first | exact blk_any HB2.out HK.out | exact blk_drewN (blk_any HB2.out HK.out) _ | exact blk_drew (blk_any HB2.out HK.out)) ((putL4 opq).map (Value.int .u8)) rfl (fun _ => ⟨rfl, hcells⟩) (show 12 + 4 ≤ 24 by decide) (by intro v hv; simp [putL4] at hv; rcases hv with rfl | rfl | rfl | rfl <;> rfl) w.heap.size w HBw.out (Nat.le_refl _) ?_; intro w4 hg4 hb4) | (go_simp; go_at_call 14; refine (HP.out _).mono ?_; rintro e w2 ⟨v, rfl, hR, hB⟩; obtain ⟨B, cB, hv, hle, hC⟩ := Kd.R_reads hR; subst hv; have HB2 := Aside0.mk hB; have hcells := C_cells hC (show 0 < 4 by decide); have HBw := Aside0.mk (below_step (below_drew HB0.out) hB); clear hB hR hC))
  all_goals (
    have hcv : (convert 22 9 (.slice (some ⟨w.heap.size, 0, none⟩) 24 24)).run Try.prog w4 = .ok (.string (strOfNums (faultL code st opq))) w4 := Kd.C_string Try.underlying22 Try.underlying5 Try.underlying9 (row_more (xs := faultL code st opq) (rest := []) hg4.out rfl (show 24 ≤ 9223372036854775807 by decide))
    go_wp2
    go_ret
    exact ⟨rfl, hb4⟩)
theorem rgetC (A : Option Addr) (n c : Nat) (l : List Int) (hb : ∀ x ∈ l, 0 ≤ x ∧ x ≤ 255) (hn : l.length = n) (h8 : n ≤ 8) (hc : n ≤ c) (w W : World) (hB : Below w.heap.size w W) (hC : Kd.C (Kd.int .u8) w A n l) :
    Calls Try.prog 20 #[.slice A n c] W fun e w' => e = .returned (.int .u64 (be l)) ∧ Drawn0 W w' := by
  subst hn
  exact butteryref01_Get.calls 9 A c l (be l) W (Kd.C_below hC hB) hc (rget_be l hb h8)
def RowV (op ee : Int) (b1 b2 q : Bool) : Value := .agg #[.int .i64 op, .int .i64 ee, .bool b1, .bool b2, .bool q]
set_option maxHeartbeats 8000000 in
set_option maxRecDepth 100000 in
theorem rcmd_none (op : Int) (ee : Int) (b1 b2 q : Bool) (A : Option Addr) (c : Nat) (x : List Int) (w : World) (hl : x.length = 0) (hb : ∀ y ∈ x, 0 ≤ y ∧ y ≤ 255) (hC : Kd.C (Kd.int .u8) w A x.length x) (hc : x.length ≤ c) (he : ee ≠ 8 ∧ ee ≠ 20) : Calls Try.prog 23 #[RowV op ee b1 b2 q, .slice A x.length c] w (CmdPost op x w) := by
  have hu39 := Try.underlying39
  have hu47 := Try.underlying47
  have hx : exOf x = ⟨0, 0, 0, 0, false⟩ := by
    unfold exOf
    rw [if_neg (by omega), if_neg (by omega), if_neg (by omega)]
  have HX := Aside0.mk hx
  have f8 : (ee == 8) = false := beq_eq_false_iff_ne.mpr he.1
  have f20 : (ee == 20) = false := beq_eq_false_iff_ne.mpr he.2
  clear he
  rw [hl]
  clear hx hb hC hc hl 
  unfold RowV
  go_enter Try.func23, Try.ntmps23
  go_wp2_with fail
  refine bodyPost_ret (v := cmdV op ⟨#[]⟩ (.slice none 0 0) 0 0 0 0 0 false) (by simp [results, Try.results23, go_sem, cmdV]) rfl ?_
  exact ⟨by rw [HX.out], by repeat (with_reducible first | exact Below.refl _ _ | apply below_alloc | apply below_drew | apply pw_below_drewN | refine below_set ?_ (by omega))⟩
set_option maxHeartbeats 8000000 in
set_option maxRecDepth 100000 in
theorem rcmd_four (op : Int) (ee : Int) (b1 b2 q : Bool) (A : Option Addr) (c : Nat) (x : List Int) (w : World) (hl : x.length = 4) (hb : ∀ y ∈ x, 0 ≤ y ∧ y ≤ 255) (hC : Kd.C (Kd.int .u8) w A x.length x) (hc : x.length ≤ c) (he : ee ≠ 8 ∧ ee ≠ 20) : Calls Try.prog 23 #[RowV op ee b1 b2 q, .slice A x.length c] w (CmdPost op x w) := by
  have hu39 := Try.underlying39
  have hu47 := Try.underlying47
  have hG0 : Kd.C (Kd.int .u8) w A 4 x := by rw [← hl]; exact hC
  have hr0 := be_range x hb
  rw [hl] at hr0
  obtain ⟨hp0, hq0⟩ := hr0
  have hQ0 : be x < 4294967296 := hq0
  clear hq0
  have HG0 := Aside0.mk (fun W hB => rgetC A 4 c x hb hl (by omega) (by omega) w W hB hG0)
  have hx : exOf x = ⟨0, be x, 0, 0, false⟩ := by
    unfold exOf
    rw [if_pos hl]
  have HX := Aside0.mk hx
  have f8 : (ee == 8) = false := beq_eq_false_iff_ne.mpr he.1
  have f20 : (ee == 20) = false := beq_eq_false_iff_ne.mpr he.2
  clear he
  rw [hl]
  clear hx hb hC hc hl 
  generalize be x = ex at *
  have w1 : IntKind.i64.wrap ex = ex := (i64_w _).trans (by unfold wrap64; omega)
  have w2 : wrap64 ex = ex := by clear w1; unfold wrap64; omega
  clear hp0 hQ0
  unfold RowV
  go_enter Try.func23, Try.ntmps23
  go_wp2_with (first | (go_at_call 20; (with_reducible refine (HG0.out _ ?_).mono ?_); (repeat (with_reducible first | exact Below.refl _ _ | apply below_alloc | apply below_drew | apply pw_below_drewN | refine below_set ?_ (by omega))); rintro e w' ⟨rfl, ⟨m, rfl⟩⟩))
  refine bodyPost_ret (v := cmdV op ⟨#[]⟩ (.slice none 0 0) 0 ex 0 0 0 false) (by simp [results, Try.results23, go_sem, cmdV]) rfl ?_
  exact ⟨by rw [HX.out], by repeat (with_reducible first | exact Below.refl _ _ | apply below_alloc | apply below_drew | apply pw_below_drewN | refine below_set ?_ (by omega))⟩
set_option maxHeartbeats 8000000 in
set_option maxRecDepth 100000 in
theorem rcmd_eight (op : Int) (b1 b2 q : Bool) (A : Option Addr) (c : Nat) (x : List Int) (w : World) (hl : x.length = 8) (hb : ∀ y ∈ x, 0 ≤ y ∧ y ≤ 255) (hC : Kd.C (Kd.int .u8) w A x.length x) (hc : x.length ≤ c) : Calls Try.prog 23 #[RowV op 8 b1 b2 q, .slice A x.length c] w (CmdPost op x w) := by
  have hu39 := Try.underlying39
  have hu47 := Try.underlying47
  obtain ⟨hs0, hC0⟩ := takeC A c x 4 (by omega) hc
  have hr0 := be_range (cut x 0 4) (cut_bytes 0 4 hb)
  rw [cut_len x 0 4 (by omega)] at hr0
  obtain ⟨hp0, hq0⟩ := hr0
  have hQ0 : be (cut x 0 4) < 4294967296 := hq0
  clear hq0
  have HG0 := Aside0.mk (fun W hB => rgetC A 4 c (cut x 0 4) (cut_bytes 0 4 hb) (by rw [cut_len x 0 4 (by omega)]) (by omega) (by omega) w W hB (hC0 w hC))
  obtain ⟨A1, hs1, hC1⟩ := cutC A c x 4 8 (by omega) (by omega) hc
  have hr1 := be_range (cut x 4 8) (cut_bytes 4 8 hb)
  rw [cut_len x 4 8 (by omega)] at hr1
  obtain ⟨hp1, hq1⟩ := hr1
  have hQ1 : be (cut x 4 8) < 4294967296 := hq1
  clear hq1
  have HG1 := Aside0.mk (fun W hB => rgetC A1 4 (c - 4) (cut x 4 8) (cut_bytes 4 8 hb) (by rw [cut_len x 4 8 (by omega)]) (by omega) (by omega) w W hB (hC1 w hC))
  have hx : exOf x = ⟨be (cut x 0 4), be (cut x 4 8), 0, 0, false⟩ := by
    unfold exOf
    rw [if_neg (by omega), if_pos hl]
  have HX := Aside0.mk hx
  rw [hl] at hs0 hs1 ⊢
  clear hx hb hC hc hl hC0 hC1
  replace hs0 : ∀ W : World, (Instr.slice 22 (.slice A 8 c) none (some (.int .i64 4)) none).run Try.prog W = .ok (.slice A 4 c) W := hs0
  replace hs1 : ∀ W : World, (Instr.slice 22 (.slice A 8 c) (some (.int .i64 4)) (some (.int .i64 8)) none).run Try.prog W = .ok (.slice A1 4 (c - 4)) W := hs1
  generalize be (cut x 0 4) = fl at *
  generalize be (cut x 4 8) = ex at *
  have w0 : IntKind.u32.wrap fl = fl := u32_in _ hp0 hQ0
  have w1 : IntKind.i64.wrap ex = ex := (i64_w _).trans (by clear w0; unfold wrap64; omega)
  have w2 : wrap64 ex = ex := by clear w0 w1; unfold wrap64; omega
  clear hp0 hQ0 hp1 hQ1
  unfold RowV
  go_enter Try.func23, Try.ntmps23
  go_wp2_with (first | (go_at_call 20; (with_reducible refine (HG0.out _ ?_).mono ?_); (repeat (with_reducible first | exact Below.refl _ _ | apply below_alloc | apply below_drew | apply pw_below_drewN | refine below_set ?_ (by omega))); rintro e w' ⟨rfl, ⟨m, rfl⟩⟩) | (go_at_call 20; (with_reducible refine (HG1.out _ ?_).mono ?_); (repeat (with_reducible first | exact Below.refl _ _ | apply below_alloc | apply below_drew | apply pw_below_drewN | refine below_set ?_ (by omega))); rintro e w' ⟨rfl, ⟨m, rfl⟩⟩))
  refine bodyPost_ret (v := cmdV op ⟨#[]⟩ (.slice none 0 0) fl ex 0 0 0 false) (by simp [results, Try.results23, go_sem, cmdV]) rfl ?_
  exact ⟨by rw [HX.out], by repeat (with_reducible first | exact Below.refl _ _ | apply below_alloc | apply below_drew | apply pw_below_drewN | refine below_set ?_ (by omega))⟩
theorem gen_calls {P : Program} {f : FuncId} {args : Array Value} {W : World} {post : Ending → World → Prop} (S : World → Prop) (h0 : S W) (h : ∀ W', S W' → Calls P f args W' post) : Calls P f args W post := h W h0
theorem new3' (W : World) (a b c : Obj) : (((W.alloc a).alloc b).alloc c).heap[W.heap.size + 1]? = some b := blk_alloc (new2 W a b) c
set_option maxHeartbeats 8000000 in
set_option maxRecDepth 100000 in
theorem rcmd_twenty (op : Int) (b1 b2 q : Bool) (A : Option Addr) (c : Nat) (x : List Int) (w : World) (hl : x.length = 20) (hb : ∀ y ∈ x, 0 ≤ y ∧ y ≤ 255) (hC : Kd.C (Kd.int .u8) w A x.length x) (hc : x.length ≤ c) : Calls Try.prog 23 #[RowV op 20 b1 b2 q, .slice A x.length c] w (CmdPost op x w) := by
  have hu39 := Try.underlying39
  have hu47 := Try.underlying47
  obtain ⟨hs0, hC0⟩ := takeC A c x 8 (by omega) hc
  have hr0 := be_range (cut x 0 8) (cut_bytes 0 8 hb)
  rw [cut_len x 0 8 (by omega)] at hr0
  obtain ⟨hp0, hq0⟩ := hr0
  have hQ0 : be (cut x 0 8) < 18446744073709551616 := hq0
  clear hq0
  have HG0 := Aside0.mk (fun W hB => rgetC A 8 c (cut x 0 8) (cut_bytes 0 8 hb) (by rw [cut_len x 0 8 (by omega)]) (by omega) (by omega) w W hB (hC0 w hC))
  obtain ⟨A1, hs1, hC1⟩ := cutC A c x 8 16 (by omega) (by omega) hc
  have hr1 := be_range (cut x 8 16) (cut_bytes 8 16 hb)
  rw [cut_len x 8 16 (by omega)] at hr1
  obtain ⟨hp1, hq1⟩ := hr1
  have hQ1 : be (cut x 8 16) < 18446744073709551616 := hq1
  clear hq1
  have HG1 := Aside0.mk (fun W hB => rgetC A1 8 (c - 8) (cut x 8 16) (cut_bytes 8 16 hb) (by rw [cut_len x 8 16 (by omega)]) (by omega) (by omega) w W hB (hC1 w hC))
  obtain ⟨A2, hs2, hC2⟩ := cutC A c x 16 20 (by omega) (by omega) hc
  have hr2 := be_range (cut x 16 20) (cut_bytes 16 20 hb)
  rw [cut_len x 16 20 (by omega)] at hr2
  obtain ⟨hp2, hq2⟩ := hr2
  have hQ2 : be (cut x 16 20) < 4294967296 := hq2
  clear hq2
  have HG2 := Aside0.mk (fun W hB => rgetC A2 4 (c - 16) (cut x 16 20) (cut_bytes 16 20 hb) (by rw [cut_len x 16 20 (by omega)]) (by omega) (by omega) w W hB (hC2 w hC))
  have hx : exOf x = ⟨0, if be (cut x 16 20) = 4294967295 then 0 else be (cut x 16 20), be (cut x 0 8), be (cut x 8 16), be (cut x 16 20) != 4294967295⟩ := by
    unfold exOf
    rw [if_neg (by omega), if_neg (by omega), if_pos hl]
  have HX := Aside0.mk hx
  rw [hl] at hs0 hs1 hs2 ⊢
  clear hx hb hC hc hl hC0 hC1 hC2
  replace hs0 : ∀ W : World, (Instr.slice 22 (.slice A 20 c) none (some (.int .i64 8)) none).run Try.prog W = .ok (.slice A 8 c) W := hs0
  replace hs1 : ∀ W : World, (Instr.slice 22 (.slice A 20 c) (some (.int .i64 8)) (some (.int .i64 16)) none).run Try.prog W = .ok (.slice A1 8 (c - 8)) W := hs1
  replace hs2 : ∀ W : World, (Instr.slice 22 (.slice A 20 c) (some (.int .i64 16)) (some (.int .i64 20)) none).run Try.prog W = .ok (.slice A2 4 (c - 16)) W := hs2
  generalize be (cut x 0 8) = de at *
  generalize be (cut x 8 16) = ini at *
  generalize be (cut x 16 20) = ex at *
  have w1 : IntKind.i64.wrap ex = ex := (i64_w _).trans (by clear hQ0 hQ1; unfold wrap64; omega)
  have w2 : wrap64 ex = ex := by clear w1 hQ0 hQ1; unfold wrap64; omega
  clear hp0 hQ0 hp1 hQ1 hp2 hQ2
  unfold RowV
  by_cases h5 : ex = 4294967295
  · have w5 : (ex != 4294967295) = false := bne_eq_false_iff_eq.mpr h5
    rw [if_pos h5, w5] at HX
    clear h5
    go_enter Try.func23, Try.ntmps23
    go_wp2_with (first | (go_at_call 20; (with_reducible refine (HG0.out _ ?_).mono ?_); (repeat (with_reducible first | exact Below.refl _ _ | apply below_alloc | apply below_drew | apply pw_below_drewN | refine below_set ?_ (by omega))); rintro e w' ⟨rfl, ⟨m, rfl⟩⟩) | (go_at_call 20; (with_reducible refine (HG1.out _ ?_).mono ?_); (repeat (with_reducible first | exact Below.refl _ _ | apply below_alloc | apply below_drew | apply pw_below_drewN | refine below_set ?_ (by omega))); rintro e w' ⟨rfl, ⟨m, rfl⟩⟩))
    refine gen_calls (fun W' => W'.heap[w.heap.size + 1 + 1]? = some (.cells #[.int .i64 op, .string ⟨#[]⟩, .slice none 0 0, .int .u32 0, .int .i64 0, .int .u64 0, .int .u64 de, .int .u64 ini, .bool false, .bool false] 39 (0, 0)) ∧ W'.heap[w.heap.size + 1]? = some (.cells #[.int .i64 0, .string ⟨#[]⟩, .slice none 0 0, .int .u32 0, .int .i64 0, .int .u64 0, .int .u64 0, .int .u64 0, .bool false, .bool false] 39 (0, 0)) ∧ Below w.heap.size w W') ⟨blk_put (cs' := #[.int .i64 op, .string ⟨#[]⟩, .slice none 0 0, .int .u32 0, .int .i64 0, .int .u64 0, .int .u64 de, .int .u64 ini, .bool false, .bool false]) (blk_drewN (blk_put (cs' := #[.int .i64 op, .string ⟨#[]⟩, .slice none 0 0, .int .u32 0, .int .i64 0, .int .u64 0, .int .u64 de, .int .u64 0, .bool false, .bool false]) (blk_drewN (new3 w _ _ (.cells #[.int .i64 op, .string ⟨#[]⟩, .slice none 0 0, .int .u32 0, .int .i64 0, .int .u64 0, .int .u64 0, .int .u64 0, .bool false, .bool false] 39)) _) 6 _ rfl) _) 7 _ rfl, blk_far (blk_drewN (blk_far (blk_drewN (new3' w _ _ _) _) (p := ⟨w.heap.size + 1 + 1, 6, none⟩) (by show w.heap.size + 1 ≠ w.heap.size + 1 + 1; omega) _) _) (p := ⟨w.heap.size + 1 + 1, 7, none⟩) (by show w.heap.size + 1 ≠ w.heap.size + 1 + 1; omega) _, by repeat (with_reducible first | exact Below.refl _ _ | apply below_alloc | apply below_drew | apply pw_below_drewN | refine below_set ?_ (by omega))⟩ ?_
    rintro W4 ⟨k1, k0, hB4⟩
    have HK0 := Aside0.mk k0
    have HB4 := Aside0.mk hB4
    obtain ⟨c0, c1, c2, c3, c4, c5, c6, c7, c8, c9⟩ := cells10 k1
    obtain ⟨f0, f1, f2, f3, f4, f5, f6, f7, f8, f9⟩ := froz10 k1
    obtain ⟨d0, d1, d2, d3, d4, d5, d6, d7, d8, d9⟩ := cells10 k0
    obtain ⟨g0, g1, g2, g3, g4, g5, g6, g7, g8, g9⟩ := froz10 k0
    clear k1 k0 hB4
    refine (HG2.out W4 HB4.out).mono ?_
    rintro e w' ⟨rfl, ⟨m, rfl⟩⟩
    go_wp2_with fail
    clear w1 w2 c0 c1 c2 c3 c4 c5 c6 c7 c8 c9 f0 f1 f2 f3 f4 f5 f6 f7 f8 f9 d0 d1 d2 d3 d4 d5 d6 d7 d8 d9 g0 g1 g2 g3 g4 g5 g6 g7 g8 g9
    refine gen_world (fun W' => W'.heap[w.heap.size + 1]? = some (.cells #[.int .i64 op, .string ⟨#[]⟩, .slice none 0 0, .int .u32 0, .int .i64 0, .int .u64 0, .int .u64 de, .int .u64 ini, .bool false, .bool false] 39 (0, 0)) ∧ Below w.heap.size w W') ⟨set10_blk (blk_far (blk_far (blk_far (blk_drewN HK0.out _) (p := ⟨w.heap.size + 1 + 1, 4, none⟩) (by show w.heap.size + 1 ≠ w.heap.size + 1 + 1; omega) _) (p := ⟨w.heap.size + 1 + 1, 8, none⟩) (by show w.heap.size + 1 ≠ w.heap.size + 1 + 1; omega) _) (p := ⟨w.heap.size + 1 + 1, 4, none⟩) (by show w.heap.size + 1 ≠ w.heap.size + 1 + 1; omega) _) (.int .i64 op) (.string ⟨#[]⟩) (.slice none 0 0) (.int .u32 0) (.int .i64 0) (.int .u64 0) (.int .u64 de) (.int .u64 ini) (.bool false) (.bool false), set10_below (below_set (below_set (below_set (pw_below_drewN HB4.out _) (by omega)) (by omega)) (by omega)) (by omega) (.int .i64 op) (.string ⟨#[]⟩) (.slice none 0 0) (.int .u32 0) (.int .i64 0) (.int .u64 0) (.int .u64 de) (.int .u64 ini) (.bool false) (.bool false)⟩ ?_
    rintro W9 ⟨kr, hB9⟩
    refine bodyPost_ret (v := cmdV op ⟨#[]⟩ (.slice none 0 0) 0 0 0 de ini false) (results_cell_row rfl _ _ (w.heap.size + 1) 39 _ (0, 0) _ rfl kr Try.underlying39 rfl (by kernel_rfl)) rfl ?_
    exact ⟨by rw [HX.out], hB9⟩
  · have w5 : (ex != 4294967295) = true := bne_iff_ne.mpr h5
    rw [if_neg h5, w5] at HX
    clear h5
    go_enter Try.func23, Try.ntmps23
    go_wp2_with (first | (go_at_call 20; (with_reducible refine (HG0.out _ ?_).mono ?_); (repeat (with_reducible first | exact Below.refl _ _ | apply below_alloc | apply below_drew | apply pw_below_drewN | refine below_set ?_ (by omega))); rintro e w' ⟨rfl, ⟨m, rfl⟩⟩) | (go_at_call 20; (with_reducible refine (HG1.out _ ?_).mono ?_); (repeat (with_reducible first | exact Below.refl _ _ | apply below_alloc | apply below_drew | apply pw_below_drewN | refine below_set ?_ (by omega))); rintro e w' ⟨rfl, ⟨m, rfl⟩⟩))
    refine gen_calls (fun W' => W'.heap[w.heap.size + 1 + 1]? = some (.cells #[.int .i64 op, .string ⟨#[]⟩, .slice none 0 0, .int .u32 0, .int .i64 0, .int .u64 0, .int .u64 de, .int .u64 ini, .bool false, .bool false] 39 (0, 0)) ∧ W'.heap[w.heap.size + 1]? = some (.cells #[.int .i64 0, .string ⟨#[]⟩, .slice none 0 0, .int .u32 0, .int .i64 0, .int .u64 0, .int .u64 0, .int .u64 0, .bool false, .bool false] 39 (0, 0)) ∧ Below w.heap.size w W') ⟨blk_put (cs' := #[.int .i64 op, .string ⟨#[]⟩, .slice none 0 0, .int .u32 0, .int .i64 0, .int .u64 0, .int .u64 de, .int .u64 ini, .bool false, .bool false]) (blk_drewN (blk_put (cs' := #[.int .i64 op, .string ⟨#[]⟩, .slice none 0 0, .int .u32 0, .int .i64 0, .int .u64 0, .int .u64 de, .int .u64 0, .bool false, .bool false]) (blk_drewN (new3 w _ _ (.cells #[.int .i64 op, .string ⟨#[]⟩, .slice none 0 0, .int .u32 0, .int .i64 0, .int .u64 0, .int .u64 0, .int .u64 0, .bool false, .bool false] 39)) _) 6 _ rfl) _) 7 _ rfl, blk_far (blk_drewN (blk_far (blk_drewN (new3' w _ _ _) _) (p := ⟨w.heap.size + 1 + 1, 6, none⟩) (by show w.heap.size + 1 ≠ w.heap.size + 1 + 1; omega) _) _) (p := ⟨w.heap.size + 1 + 1, 7, none⟩) (by show w.heap.size + 1 ≠ w.heap.size + 1 + 1; omega) _, by repeat (with_reducible first | exact Below.refl _ _ | apply below_alloc | apply below_drew | apply pw_below_drewN | refine below_set ?_ (by omega))⟩ ?_
    rintro W4 ⟨k1, k0, hB4⟩
    have HK0 := Aside0.mk k0
    have HB4 := Aside0.mk hB4
    obtain ⟨c0, c1, c2, c3, c4, c5, c6, c7, c8, c9⟩ := cells10 k1
    obtain ⟨f0, f1, f2, f3, f4, f5, f6, f7, f8, f9⟩ := froz10 k1
    obtain ⟨d0, d1, d2, d3, d4, d5, d6, d7, d8, d9⟩ := cells10 k0
    obtain ⟨g0, g1, g2, g3, g4, g5, g6, g7, g8, g9⟩ := froz10 k0
    clear k1 k0 hB4
    refine (HG2.out W4 HB4.out).mono ?_
    rintro e w' ⟨rfl, ⟨m, rfl⟩⟩
    go_wp2_with fail
    clear w1 w2 c0 c1 c2 c3 c4 c5 c6 c7 c8 c9 f0 f1 f2 f3 f4 f5 f6 f7 f8 f9 d0 d1 d2 d3 d4 d5 d6 d7 d8 d9 g0 g1 g2 g3 g4 g5 g6 g7 g8 g9
    refine gen_world (fun W' => W'.heap[w.heap.size + 1]? = some (.cells #[.int .i64 op, .string ⟨#[]⟩, .slice none 0 0, .int .u32 0, .int .i64 ex, .int .u64 0, .int .u64 de, .int .u64 ini, .bool true, .bool false] 39 (0, 0)) ∧ Below w.heap.size w W') ⟨set10_blk (blk_far (blk_far (blk_drewN HK0.out _) (p := ⟨w.heap.size + 1 + 1, 4, none⟩) (by show w.heap.size + 1 ≠ w.heap.size + 1 + 1; omega) _) (p := ⟨w.heap.size + 1 + 1, 8, none⟩) (by show w.heap.size + 1 ≠ w.heap.size + 1 + 1; omega) _) (.int .i64 op) (.string ⟨#[]⟩) (.slice none 0 0) (.int .u32 0) (.int .i64 ex) (.int .u64 0) (.int .u64 de) (.int .u64 ini) (.bool true) (.bool false), set10_below (below_set (below_set (pw_below_drewN HB4.out _) (by omega)) (by omega)) (by omega) (.int .i64 op) (.string ⟨#[]⟩) (.slice none 0 0) (.int .u32 0) (.int .i64 ex) (.int .u64 0) (.int .u64 de) (.int .u64 ini) (.bool true) (.bool false)⟩ ?_
    rintro W9 ⟨kr, hB9⟩
    refine bodyPost_ret (v := cmdV op ⟨#[]⟩ (.slice none 0 0) 0 ex 0 de ini true) (results_cell_row rfl _ _ (w.heap.size + 1) 39 _ (0, 0) _ rfl kr Try.underlying39 rfl (by kernel_rfl)) rfl ?_
    exact ⟨by rw [HX.out], hB9⟩
/-- The status of a packet, as the document tells it; 0: none. -/
def statN (o : Option (Int × Int × Int)) (n x k : Nat) : Int := match o with
  | none => 129
  | some r => if fitsB n x k r.2.1 r.2.2 = false then 4 else if (r.2.2 = 1 ∨ r.2.2 = 3) ∧ ¬ (1 ≤ k ∧ k ≤ 250) then 4 else if x + k + 1000 < n then 3 else 0
theorem row_flush : ∀ n : Fin 256, ∀ r ∈ plainC ((n : Nat) : Int), (r.2.2 = 4 → r.1 = 13 ∧ r.2.1 = 0) ∧ (r.1 = 13 → r.2.2 = 4) := by decide +kernel
set_option maxHeartbeats 4000000 in
theorem status_eq (o : Option (Int × Int × Int)) (q : Bool) (n x k : Nat) (hn : n ≤ 1000000) (hx : x ≤ 255) (hk : k ≤ 65535)
    (ho : ∀ r ∈ o, (r.2.2 = 0 ∨ r.2.2 = 1 ∨ r.2.2 = 3 ∨ r.2.2 = 4) ∧ 0 ≤ r.1 ∧ (r.2.2 = 4 → r.1 = 13 ∧ r.2.1 = 0) ∧ (r.1 = 13 → r.2.2 = 4)) :
    butteryref16_status.f 9 (refRow o).1 (refRow o).2.1 (refRow o).2.2.1 (refRow o).2.2.2 q x k n = some (statN o n x k) := by
  cases o with
  | none => rfl
  | some r =>
    obtain ⟨op, ee, has⟩ := r
    obtain ⟨hh, h0, h4, h13⟩ := ho (op, ee, has) rfl
    simp only at hh h0 h4 h13
    have e1 : wrap64 ((x : Int) + (k : Int)) = (x : Int) + (k : Int) := by unfold wrap64; omega
    have e2 : wrap64 ((n : Int) - (x : Int)) = (n : Int) - (x : Int) := by unfold wrap64; omega
    have e3 : wrap64 ((n : Int) - (x : Int) - (k : Int)) = (n : Int) - (x : Int) - (k : Int) := by unfold wrap64; omega
    unfold butteryref16_status.f refRow statN
    simp only [butteryref16_status.j0, butteryref16_status.j1, butteryref16_status.j2, e1, e2, e3]
    clear e1 e2 e3
    rw [if_neg (by omega)]
    have hF : fitsB n x k ee has = false ↔ ¬ ((x = ee ∨ has = 4 ∧ (x : Int) = 4) ∧ (x : Int) + k ≤ n ∧ ((x : Int) + k = n ∨ has = 3) ∧ ((k : Int) = 0 ∨ has = 1 ∨ has = 3)) := by
      unfold fitsB
      exact decide_eq_false_iff_not
    simp only [hF]
    clear hF
    rcases hh with rfl | rfl | rfl | rfl
    all_goals simp only [show decide ((0 : Int) = 1 ∨ (0 : Int) = 3) = false from rfl, show decide ((0 : Int) = 3) = false from rfl, show decide ((1 : Int) = 1 ∨ (1 : Int) = 3) = true from rfl, show decide ((1 : Int) = 3) = false from rfl, show decide ((3 : Int) = 1 ∨ (3 : Int) = 3) = true from rfl, show decide ((3 : Int) = 3) = true from rfl, show decide ((4 : Int) = 1 ∨ (4 : Int) = 3) = false from rfl, show decide ((4 : Int) = 3) = false from rfl, decide_eq_true_eq, bne_iff_ne, ne_eq]
    all_goals simp only [if_true, if_false, Bool.false_eq_true, reduceIte, Int.reduceEq, false_and, and_false, false_or, or_false, true_and, and_true, true_or, or_true, not_true, not_false_iff]
    · rw [if_neg (show ¬ op = 13 by omega)]
      (repeat' split) <;> first | rfl | (exfalso; omega)
    · rw [if_neg (show ¬ op = 13 by omega)]
      (repeat' split) <;> first | rfl | (exfalso; omega)
    · rw [if_neg (show ¬ op = 13 by omega)]
      (repeat' split) <;> first | rfl | (exfalso; omega)
    · obtain ⟨g1, g2⟩ := h4 rfl
      rw [if_pos g1]
      (repeat' split) <;> first | rfl | (exfalso; omega)
set_option maxHeartbeats 8000000 in
set_option maxRecDepth 100000 in
theorem keyed13_p (s : ByteArray) (w : World) (hs : s.size ≤ 1000000) : Calls Try.prog 24 #[.string s] w fun e w' => e = .returned (.bool (decide (1 ≤ s.size ∧ s.size ≤ 250))) ∧ Below w.heap.size w w' := by
  by_cases h1 : 1 ≤ s.size
  · have c1 : decide (1 ≤ s.size) = true := decide_eq_true h1
    have c2 : decide ((s.size : Int) ≥ 1) = true := decide_eq_true (by omega)
    by_cases h2 : s.size ≤ 250
    · have c3 : decide (s.size ≤ 250) = true := decide_eq_true h2
      have c4 : decide ((s.size : Int) ≤ 250) = true := decide_eq_true (by omega)
      have HD := Aside0.mk (show decide (1 ≤ s.size ∧ s.size ≤ 250) = true from decide_eq_true ⟨h1, h2⟩)
      go_enter Try.func24, Try.ntmps24
      go_wp2
      go_ret
      exact ⟨by rw [HD.out]; rfl, Below.refl _ _⟩
    · have c3 : decide (s.size ≤ 250) = false := decide_eq_false h2
      have c4 : decide ((s.size : Int) ≤ 250) = false := decide_eq_false (by omega)
      have HD := Aside0.mk (show decide (1 ≤ s.size ∧ s.size ≤ 250) = false from decide_eq_false (fun h => h2 h.2))
      go_enter Try.func24, Try.ntmps24
      go_wp2
      go_ret
      exact ⟨by rw [HD.out]; rfl, Below.refl _ _⟩
  · have c1 : decide (1 ≤ s.size) = false := decide_eq_false h1
    have c2 : decide ((s.size : Int) ≥ 1) = false := decide_eq_false (by omega)
    have HD := Aside0.mk (show decide (1 ≤ s.size ∧ s.size ≤ 250) = false from decide_eq_false (fun h => h1 h.1))
    go_enter Try.func24, Try.ntmps24
    go_wp2
    go_ret
    exact ⟨by rw [HD.out]; rfl, Below.refl _ _⟩
set_option maxHeartbeats 8000000 in
set_option maxRecDepth 100000 in
theorem rparse_nil (A0 : Option Addr) (c0 : Nat) (w : World) : Calls Try.prog 12 #[.slice A0 0 c0] w fun e w' => e = .returned (badV ⟨#[]⟩ 0 3) ∧ Below w.heap.size w w' := by
  have hu34 := Try.underlying34
  have hu31 := Try.underlying31
  have hu29 := Try.underlying29
  have hu39 := Try.underlying39
  have hu47 := Try.underlying47
  have hu22 := Try.underlying22
  have hu25 := Try.underlying25
  have hu27 := Try.underlying27
  go_enter Try.func12, Try.ntmps12
  go_wp2
  refine bodyPost_ret (v := badV ⟨#[]⟩ 0 3) (results_cell_row rfl _ _ w.heap.size 34 _ (0, 0) _ rfl (blk_new w _) Try.underlying34 rfl (by kernel_rfl)) rfl ?_
  exact ⟨rfl, by repeat (with_reducible first | exact Below.refl _ _ | apply below_alloc | apply below_drew | apply pw_below_drewN | refine below_set ?_ (by omega))⟩
set_option maxHeartbeats 8000000 in
set_option maxRecDepth 100000 in
theorem rparse_other (A0 : Option Addr) (c0 : Nat) (l0 : List Int) (w : World) (hr0 : Kd.C (Kd.int .u8) w A0 l0.length l0) (hc0 : l0.length ≤ c0) (h : 0 < l0.length) (h1 : rd l0 0 ≠ 128) : Calls Try.prog 12 #[.slice A0 l0.length c0] w fun e w' => e = .returned (badV ⟨#[]⟩ 0 9) ∧ Below w.heap.size w w' := by
  have hu34 := Try.underlying34
  have hu31 := Try.underlying31
  have hu29 := Try.underlying29
  have hu39 := Try.underlying39
  have hu47 := Try.underlying47
  have hu22 := Try.underlying22
  have hu25 := Try.underlying25
  have hu27 := Try.underlying27
  obtain ⟨ad, hA, hcell⟩ := Kd.at_int hr0 0 (by omega) (by omega)
  have ha0 : ad.add (0 : Int).toNat = ad := by simp [Addr.add]
  rw [ha0] at hcell
  subst hA
  have hp : (0 : Int) < (l0.length : Int) := by omega
  have hp2 : ((l0.length : Int) == 0) = false := beq_eq_false_iff_ne.mpr (by omega)
  have hcA : ∀ o : Obj, (w.alloc o).cell? ad = some (.int .u8 (rd l0 0)) := fun o => pw_cell_below (below_alloc (Below.refl _ _) o) hcell
  have hx : (rd l0 0 != 128) = true := bne_iff_ne.mpr h1
  clear hr0 h1 ha0 hcell
  generalize l0.length = n0 at *
  go_enter Try.func12, Try.ntmps12
  go_wp2
  refine bodyPost_ret (v := badV ⟨#[]⟩ 0 9) (results_cell_row rfl _ _ w.heap.size 34 _ (0, 0) _ rfl (blk_new w _) Try.underlying34 rfl (by kernel_rfl)) rfl ?_
  exact ⟨rfl, by repeat (with_reducible first | exact Below.refl _ _ | apply below_alloc | apply below_drew | apply pw_below_drewN | refine below_set ?_ (by omega))⟩
set_option maxHeartbeats 8000000 in
set_option maxRecDepth 100000 in
theorem rparse_short (A0 : Option Addr) (c0 : Nat) (l0 : List Int) (w : World) (hr0 : Kd.C (Kd.int .u8) w A0 l0.length l0) (hc0 : l0.length ≤ c0) (h : 0 < l0.length) (h1 : rd l0 0 = 128) (h2 : l0.length < 24) : Calls Try.prog 12 #[.slice A0 l0.length c0] w fun e w' => e = .returned (badV ⟨#[]⟩ 0 3) ∧ Below w.heap.size w w' := by
  have hu34 := Try.underlying34
  have hu31 := Try.underlying31
  have hu29 := Try.underlying29
  have hu39 := Try.underlying39
  have hu47 := Try.underlying47
  have hu22 := Try.underlying22
  have hu25 := Try.underlying25
  have hu27 := Try.underlying27
  obtain ⟨ad, hA, hcell⟩ := Kd.at_int hr0 0 (by omega) (by omega)
  have ha0 : ad.add (0 : Int).toNat = ad := by simp [Addr.add]
  rw [ha0] at hcell
  subst hA
  have hp : (0 : Int) < (l0.length : Int) := by omega
  have hp2 : ((l0.length : Int) == 0) = false := beq_eq_false_iff_ne.mpr (by omega)
  have hcA : ∀ o : Obj, (w.alloc o).cell? ad = some (.int .u8 (rd l0 0)) := fun o => pw_cell_below (below_alloc (Below.refl _ _) o) hcell
  have hx : (rd l0 0 != 128) = false := bne_eq_false_iff_eq.mpr h1
  have hd : decide (l0.length < 24) = true := decide_eq_true h2
  have hd2 : decide ((l0.length : Int) < 24) = true := decide_eq_true (by omega)
  clear hr0 h1 ha0 hcell
  generalize l0.length = n0 at *
  go_enter Try.func12, Try.ntmps12
  go_wp2
  refine bodyPost_ret (v := badV ⟨#[]⟩ 0 3) (results_cell_row rfl _ _ w.heap.size 34 _ (0, 0) _ rfl (blk_new w _) Try.underlying34 rfl (by kernel_rfl)) rfl ?_
  exact ⟨rfl, by repeat (with_reducible first | exact Below.refl _ _ | apply below_alloc | apply below_drew | apply pw_below_drewN | refine below_set ?_ (by omega))⟩
set_option maxHeartbeats 8000000 in
set_option maxRecDepth 100000 in
theorem rparse_big (A0 : Option Addr) (c0 : Nat) (l0 : List Int) (w : World) (hr0 : Kd.C (Kd.int .u8) w A0 l0.length l0) (hc0 : l0.length ≤ c0) (hb : ∀ x ∈ l0, 0 ≤ x ∧ x ≤ 255) (h : 24 ≤ l0.length) (h1 : rd l0 0 = 128) (hz : 2048 < be (cut l0 8 12)) : Calls Try.prog 12 #[.slice A0 l0.length c0] w fun e w' => e = .returned (badV ⟨#[]⟩ 0 9) ∧ Below w.heap.size w w' := by
  have hu34 := Try.underlying34
  have hu31 := Try.underlying31
  have hu29 := Try.underlying29
  have hu39 := Try.underlying39
  have hu47 := Try.underlying47
  have hu22 := Try.underlying22
  have hu25 := Try.underlying25
  have hu27 := Try.underlying27
  obtain ⟨ad, hA, hcell⟩ := Kd.at_int hr0 0 (by omega) (by omega)
  have ha0 : ad.add (0 : Int).toNat = ad := by simp [Addr.add]
  rw [ha0] at hcell
  subst hA
  have hp : (0 : Int) < (l0.length : Int) := by omega
  have hp2 : ((l0.length : Int) == 0) = false := beq_eq_false_iff_ne.mpr (by omega)
  have hcA : ∀ o : Obj, (w.alloc o).cell? ad = some (.int .u8 (rd l0 0)) := fun o => pw_cell_below (below_alloc (Below.refl _ _) o) hcell
  have hx : (rd l0 0 != 128) = false := bne_eq_false_iff_eq.mpr h1
  have hd : decide (l0.length < 24) = false := decide_eq_false (by omega)
  have hd2 : decide ((l0.length : Int) < 24) = false := decide_eq_false (by omega)
  obtain ⟨A8, hs8, hC8⟩ := cutC (some ad) c0 l0 8 12 (by omega) (by omega) hc0
  replace hs8 : ∀ W : World, (Instr.slice 22 (.slice (some ad) l0.length c0) (some (.int .i64 8)) (some (.int .i64 12)) none).run Try.prog W = .ok (.slice A8 4 (c0 - 8)) W := hs8
  have HG8 := Aside0.mk (fun W hB => rgetC A8 4 (c0 - 8) (cut l0 8 12) (cut_bytes 8 12 hb) (cut_len l0 8 12 (by omega)) (by omega) (by omega) w W hB (hC8 w hr0))
  have hz8 := be_range (cut l0 8 12) (cut_bytes 8 12 hb)
  rw [cut_len l0 8 12 (by omega)] at hz8
  obtain ⟨hy8, hq8⟩ := hz8
  have hx8 : be (cut l0 8 12) < 4294967296 := hq8
  clear hq8 hC8
  clear hr0 h1 ha0 hcell hb
  generalize be (cut l0 8 12) = z at *
  have r1 : decide (z > 2048) = true := decide_eq_true hz
  have w1 : wrap64 z = z := by clear r1; unfold wrap64; omega
  have w2 : wrap64 (24 + z) = 24 + z := by clear r1 w1; unfold wrap64; omega
  clear hz
  generalize l0.length = n0 at *
  go_enter Try.func12, Try.ntmps12
  go_wp2_with (first | (go_at_call 20; (with_reducible refine (HG8.out _ ?_).mono ?_); (repeat (with_reducible first | exact Below.refl _ _ | apply below_alloc | apply below_drew | apply pw_below_drewN | refine below_set ?_ (by omega))); rintro e w' ⟨rfl, ⟨m, rfl⟩⟩))
  clear r1 w1 w2
  refine gen_world (fun W' => W'.heap[w.heap.size]? = some (.cells #[Value.slice none 0 0, Value.int .i64 0, Value.string ⟨#[]⟩, Value.int .i64 0, Value.int .u32 0, Value.bool false, Value.bool false, Value.string ⟨#[]⟩, Value.slice none 0 0, Value.slice none 0 0, Value.bool false, Value.string ⟨#[]⟩, Value.int .i64 0, Value.int .i64 0, Value.bool false, Value.int .i64 9] 34 (0, 0)) ∧ Below w.heap.size w W') ⟨set16_blk (blk_drewN (blk_new w _) _) (Value.slice none 0 0) (Value.int .i64 0) (Value.string ⟨#[]⟩) (Value.int .i64 0) (Value.int .u32 0) (Value.bool false) (Value.bool false) (Value.string ⟨#[]⟩) (Value.slice none 0 0) (Value.slice none 0 0) (Value.bool false) (Value.string ⟨#[]⟩) (Value.int .i64 0) (Value.int .i64 0) (Value.bool false) (Value.int .i64 9), set16_below (pw_below_drewN (below_alloc (Below.refl _ _) _) _) (Nat.le_refl _) (Value.slice none 0 0) (Value.int .i64 0) (Value.string ⟨#[]⟩) (Value.int .i64 0) (Value.int .u32 0) (Value.bool false) (Value.bool false) (Value.string ⟨#[]⟩) (Value.slice none 0 0) (Value.slice none 0 0) (Value.bool false) (Value.string ⟨#[]⟩) (Value.int .i64 0) (Value.int .i64 0) (Value.bool false) (Value.int .i64 9)⟩ ?_
  rintro W9 ⟨kr, hB9⟩
  refine bodyPost_ret (v := badV ⟨#[]⟩ 0 9) (results_cell_row rfl _ _ w.heap.size 34 _ (0, 0) _ rfl kr Try.underlying34 rfl (by kernel_rfl)) rfl ?_
  exact ⟨rfl, hB9⟩
set_option maxHeartbeats 8000000 in
set_option maxRecDepth 100000 in
theorem rparse_wait (A0 : Option Addr) (c0 : Nat) (l0 : List Int) (w : World) (hr0 : Kd.C (Kd.int .u8) w A0 l0.length l0) (hc0 : l0.length ≤ c0) (hb : ∀ x ∈ l0, 0 ≤ x ∧ x ≤ 255) (h : 24 ≤ l0.length) (h1 : rd l0 0 = 128) (hz : ¬ 2048 < be (cut l0 8 12)) (hw : (l0.length : Int) < 24 + be (cut l0 8 12)) : Calls Try.prog 12 #[.slice A0 l0.length c0] w fun e w' => e = .returned (badV ⟨#[]⟩ 0 3) ∧ Below w.heap.size w w' := by
  have hu34 := Try.underlying34
  have hu31 := Try.underlying31
  have hu29 := Try.underlying29
  have hu39 := Try.underlying39
  have hu47 := Try.underlying47
  have hu22 := Try.underlying22
  have hu25 := Try.underlying25
  have hu27 := Try.underlying27
  obtain ⟨ad, hA, hcell⟩ := Kd.at_int hr0 0 (by omega) (by omega)
  have ha0 : ad.add (0 : Int).toNat = ad := by simp [Addr.add]
  rw [ha0] at hcell
  subst hA
  have hp : (0 : Int) < (l0.length : Int) := by omega
  have hp2 : ((l0.length : Int) == 0) = false := beq_eq_false_iff_ne.mpr (by omega)
  have hcA : ∀ o : Obj, (w.alloc o).cell? ad = some (.int .u8 (rd l0 0)) := fun o => pw_cell_below (below_alloc (Below.refl _ _) o) hcell
  have hx : (rd l0 0 != 128) = false := bne_eq_false_iff_eq.mpr h1
  have hd : decide (l0.length < 24) = false := decide_eq_false (by omega)
  have hd2 : decide ((l0.length : Int) < 24) = false := decide_eq_false (by omega)
  obtain ⟨A8, hs8, hC8⟩ := cutC (some ad) c0 l0 8 12 (by omega) (by omega) hc0
  replace hs8 : ∀ W : World, (Instr.slice 22 (.slice (some ad) l0.length c0) (some (.int .i64 8)) (some (.int .i64 12)) none).run Try.prog W = .ok (.slice A8 4 (c0 - 8)) W := hs8
  have HG8 := Aside0.mk (fun W hB => rgetC A8 4 (c0 - 8) (cut l0 8 12) (cut_bytes 8 12 hb) (cut_len l0 8 12 (by omega)) (by omega) (by omega) w W hB (hC8 w hr0))
  have hz8 := be_range (cut l0 8 12) (cut_bytes 8 12 hb)
  rw [cut_len l0 8 12 (by omega)] at hz8
  obtain ⟨hy8, hq8⟩ := hz8
  have hx8 : be (cut l0 8 12) < 4294967296 := hq8
  clear hq8 hC8
  clear hr0 h1 ha0 hcell hb
  generalize be (cut l0 8 12) = z at *
  have r1 : decide (z > 2048) = false := decide_eq_false hz
  have r2 : decide ((l0.length : Int) < 24 + z) = true := decide_eq_true hw
  have w1 : wrap64 z = z := by clear r1; unfold wrap64; omega
  have w2 : wrap64 (24 + z) = 24 + z := by clear r1 w1; unfold wrap64; omega
  clear hz
  generalize l0.length = n0 at *
  go_enter Try.func12, Try.ntmps12
  go_wp2_with (first | (go_at_call 20; (with_reducible refine (HG8.out _ ?_).mono ?_); (repeat (with_reducible first | exact Below.refl _ _ | apply below_alloc | apply below_drew | apply pw_below_drewN | refine below_set ?_ (by omega))); rintro e w' ⟨rfl, ⟨m, rfl⟩⟩))
  clear r1 w1 w2 r2
  refine gen_world (fun W' => W'.heap[w.heap.size]? = some (.cells #[Value.slice none 0 0, Value.int .i64 0, Value.string ⟨#[]⟩, Value.int .i64 0, Value.int .u32 0, Value.bool false, Value.bool false, Value.string ⟨#[]⟩, Value.slice none 0 0, Value.slice none 0 0, Value.bool false, Value.string ⟨#[]⟩, Value.int .i64 0, Value.int .i64 0, Value.bool false, Value.int .i64 3] 34 (0, 0)) ∧ Below w.heap.size w W') ⟨set16_blk (blk_drewN (blk_new w _) _) (Value.slice none 0 0) (Value.int .i64 0) (Value.string ⟨#[]⟩) (Value.int .i64 0) (Value.int .u32 0) (Value.bool false) (Value.bool false) (Value.string ⟨#[]⟩) (Value.slice none 0 0) (Value.slice none 0 0) (Value.bool false) (Value.string ⟨#[]⟩) (Value.int .i64 0) (Value.int .i64 0) (Value.bool false) (Value.int .i64 3), set16_below (pw_below_drewN (below_alloc (Below.refl _ _) _) _) (Nat.le_refl _) (Value.slice none 0 0) (Value.int .i64 0) (Value.string ⟨#[]⟩) (Value.int .i64 0) (Value.int .u32 0) (Value.bool false) (Value.bool false) (Value.string ⟨#[]⟩) (Value.slice none 0 0) (Value.slice none 0 0) (Value.bool false) (Value.string ⟨#[]⟩) (Value.int .i64 0) (Value.int .i64 0) (Value.bool false) (Value.int .i64 3)⟩ ?_
  rintro W9 ⟨kr, hB9⟩
  refine bodyPost_ret (v := badV ⟨#[]⟩ 0 3) (results_cell_row rfl _ _ w.heap.size 34 _ (0, 0) _ rfl kr Try.underlying34 rfl (by kernel_rfl)) rfl ?_
  exact ⟨rfl, hB9⟩
theorem cells5 {w : World} {g t : Nat} {v0 v1 v2 v3 v4 : Value} (h : w.heap[g]? = some (.cells #[v0, v1, v2, v3, v4] t (0, 0))) : w.cell? ⟨g, 0, none⟩ = some v0 ∧ w.cell? ⟨g, 1, none⟩ = some v1 ∧ w.cell? ⟨g, 2, none⟩ = some v2 ∧ w.cell? ⟨g, 3, none⟩ = some v3 ∧ w.cell? ⟨g, 4, none⟩ = some v4 :=
  ⟨blk_cell h 0, blk_cell h 1, blk_cell h 2, blk_cell h 3, blk_cell h 4⟩
set_option maxHeartbeats 8000000 in
set_option maxRecDepth 100000 in
theorem rparse_bad (A0 : Option Addr) (c0 : Nat) (l0 : List Int) (w : World) (hr0 : Kd.C (Kd.int .u8) w A0 l0.length l0) (hc0 : l0.length ≤ c0) (hb : ∀ x ∈ l0, 0 ≤ x ∧ x ≤ 255) (h : 24 ≤ l0.length) (h1 : rd l0 0 = 128) (hz : be (cut l0 8 12) ≤ 2048) (hw : 24 + be (cut l0 8 12) ≤ (l0.length : Int)) (z kk xx : Nat) (hZ : be (cut l0 8 12) = (z : Int)) (hK : be (cut l0 2 4) = (kk : Int)) (hX : rd l0 4 = (xx : Int)) (op ee : Int) (kb vb q : Bool) (st : Int)
    (HOf : Aside0 (∀ W, Calls Try.prog 16 #[.int .i64 (rd l0 1)] W fun e w' => e = .returned (RowV op ee kb vb q) ∧ Below W.heap.size W w'))
    (HSt : Aside0 (∀ W, Calls Try.prog 21 #[RowV op ee kb vb q, .int .i64 (xx : Int), .int .i64 (kk : Int), .int .i64 (z : Int)] W fun e w' => e = .returned (.int .i64 st) ∧ Below W.heap.size W w'))
    (hst : st ≠ 0) (rep : ByteArray) (HF : Aside0 (∀ W, Calls Try.prog 22 #[.int .i64 (rd l0 1), .int .i64 st, .int .u32 (be (cut l0 12 16))] W fun e w' => e = .returned (.string rep) ∧ Below W.heap.size W w')) :
    Calls Try.prog 12 #[.slice A0 l0.length c0] w fun e w' => ReqPost w (badS rep (24 + (z : Int)) 2) e w' := by
  have hu34 := Try.underlying34
  have hu31 := Try.underlying31
  have hu29 := Try.underlying29
  have hu39 := Try.underlying39
  have hu47 := Try.underlying47
  have hu22 := Try.underlying22
  have hu25 := Try.underlying25
  have hu27 := Try.underlying27
  obtain ⟨ad, hA, hcell⟩ := Kd.at_int hr0 0 (by omega) (by omega)
  have ha0 : ad.add (0 : Int).toNat = ad := by simp [Addr.add]
  rw [ha0] at hcell
  subst hA
  have hp : (0 : Int) < (l0.length : Int) := by omega
  have hp2 : ((l0.length : Int) == 0) = false := beq_eq_false_iff_ne.mpr (by omega)
  have hcA : ∀ o : Obj, (w.alloc o).cell? ad = some (.int .u8 (rd l0 0)) := fun o => pw_cell_below (below_alloc (Below.refl _ _) o) hcell
  have hx : (rd l0 0 != 128) = false := bne_eq_false_iff_eq.mpr h1
  have hd : decide (l0.length < 24) = false := decide_eq_false (by omega)
  have hd2 : decide ((l0.length : Int) < 24) = false := decide_eq_false (by omega)
  obtain ⟨ad1, hA1, hcell1⟩ := Kd.at_int hr0 1 (by omega) (by omega)
  obtain rfl := Option.some.inj hA1
  rw [show (1 : Int).toNat = 1 from rfl, add_pos ad 1 (by omega)] at hcell1
  have hcc1 : ∀ o : Obj, (w.alloc o).cell? ⟨ad.block, ad.off + 1, none⟩ = some (.int .u8 (rd l0 1)) := fun o => pw_cell_below (below_alloc (Below.refl _ _) o) hcell1
  have hp1 : (1 : Int) < (l0.length : Int) := by omega
  have hv1 := byte_at l0 1 hb
  rw [show rd l0 ((1 : Nat) : Int) = rd l0 1 from rfl] at hv1
  obtain ⟨hv1a, hv1b⟩ := hv1
  obtain ⟨ad4, hA4, hcell4⟩ := Kd.at_int hr0 4 (by omega) (by omega)
  obtain rfl := Option.some.inj hA4
  rw [show (4 : Int).toNat = 4 from rfl, add_pos ad 4 (by omega)] at hcell4
  have hcc4 : ∀ o : Obj, (w.alloc o).cell? ⟨ad.block, ad.off + 4, none⟩ = some (.int .u8 (rd l0 4)) := fun o => pw_cell_below (below_alloc (Below.refl _ _) o) hcell4
  have hp4 : (4 : Int) < (l0.length : Int) := by omega
  have hv4 := byte_at l0 4 hb
  rw [show rd l0 ((4 : Nat) : Int) = rd l0 4 from rfl] at hv4
  obtain ⟨hv4a, hv4b⟩ := hv4
  obtain ⟨A8, hs8, hC8⟩ := cutC (some ad) c0 l0 8 12 (by omega) (by omega) hc0
  replace hs8 : ∀ W : World, (Instr.slice 22 (.slice (some ad) l0.length c0) (some (.int .i64 8)) (some (.int .i64 12)) none).run Try.prog W = .ok (.slice A8 4 (c0 - 8)) W := hs8
  have HG8 := Aside0.mk (fun W hB => rgetC A8 4 (c0 - 8) (cut l0 8 12) (cut_bytes 8 12 hb) (cut_len l0 8 12 (by omega)) (by omega) (by omega) w W hB (hC8 w hr0))
  have hz8 := be_range (cut l0 8 12) (cut_bytes 8 12 hb)
  rw [cut_len l0 8 12 (by omega)] at hz8
  obtain ⟨hy8, hq8⟩ := hz8
  have hx8 : be (cut l0 8 12) < 4294967296 := hq8
  clear hq8 hC8
  obtain ⟨A2, hs2, hC2⟩ := cutC (some ad) c0 l0 2 4 (by omega) (by omega) hc0
  replace hs2 : ∀ W : World, (Instr.slice 22 (.slice (some ad) l0.length c0) (some (.int .i64 2)) (some (.int .i64 4)) none).run Try.prog W = .ok (.slice A2 2 (c0 - 2)) W := hs2
  have HG2 := Aside0.mk (fun W hB => rgetC A2 2 (c0 - 2) (cut l0 2 4) (cut_bytes 2 4 hb) (cut_len l0 2 4 (by omega)) (by omega) (by omega) w W hB (hC2 w hr0))
  have hz2 := be_range (cut l0 2 4) (cut_bytes 2 4 hb)
  rw [cut_len l0 2 4 (by omega)] at hz2
  obtain ⟨hy2, hq2⟩ := hz2
  have hx2 : be (cut l0 2 4) < 65536 := hq2
  clear hq2 hC2
  obtain ⟨A12, hs12, hC12⟩ := cutC (some ad) c0 l0 12 16 (by omega) (by omega) hc0
  replace hs12 : ∀ W : World, (Instr.slice 22 (.slice (some ad) l0.length c0) (some (.int .i64 12)) (some (.int .i64 16)) none).run Try.prog W = .ok (.slice A12 4 (c0 - 12)) W := hs12
  have HG12 := Aside0.mk (fun W hB => rgetC A12 4 (c0 - 12) (cut l0 12 16) (cut_bytes 12 16 hb) (cut_len l0 12 16 (by omega)) (by omega) (by omega) w W hB (hC12 w hr0))
  have hz12 := be_range (cut l0 12 16) (cut_bytes 12 16 hb)
  rw [cut_len l0 12 16 (by omega)] at hz12
  obtain ⟨hy12, hq12⟩ := hz12
  have hx12 : be (cut l0 12 16) < 4294967296 := hq12
  clear hq12 hC12
  obtain ⟨A16, hs16, hC16⟩ := cutC (some ad) c0 l0 16 24 (by omega) (by omega) hc0
  replace hs16 : ∀ W : World, (Instr.slice 22 (.slice (some ad) l0.length c0) (some (.int .i64 16)) (some (.int .i64 24)) none).run Try.prog W = .ok (.slice A16 8 (c0 - 16)) W := hs16
  have HG16 := Aside0.mk (fun W hB => rgetC A16 8 (c0 - 16) (cut l0 16 24) (cut_bytes 16 24 hb) (cut_len l0 16 24 (by omega)) (by omega) (by omega) w W hB (hC16 w hr0))
  have hz16 := be_range (cut l0 16 24) (cut_bytes 16 24 hb)
  rw [cut_len l0 16 24 (by omega)] at hz16
  obtain ⟨hy16, hq16⟩ := hz16
  have hx16 : be (cut l0 16 24) < 18446744073709551616 := hq16
  clear hq16 hC16
  rw [hZ] at HG8 hx8
  rw [hK] at HG2 hx2
  rw [hX] at hcc4 hv4b
  have r1 : decide ((z : Int) > 2048) = false := decide_eq_false (by omega)
  have r2 : decide ((l0.length : Int) < 24 + (z : Int)) = false := decide_eq_false (by omega)
  have w1 : wrap64 (24 + (z : Int)) = 24 + (z : Int) := by clear r1 r2; unfold wrap64; omega
  have w2 : IntKind.u32.wrap (be (cut l0 12 16)) = be (cut l0 12 16) := u32_in _ hy12 hx12
  have w3 : wrap64 (kk : Int) = (kk : Int) := by clear r1 r2 w1 w2; unfold wrap64; omega
  have w4 : wrap64 (rd l0 1) = rd l0 1 := by clear r1 r2 w1 w2 w3; unfold wrap64; omega
  have w5 : wrap64 (xx : Int) = (xx : Int) := by clear r1 r2 w1 w2 w3 w4; unfold wrap64; omega
  have w6 : wrap64 (z : Int) = (z : Int) := by clear r1 r2 w1 w2 w3 w4 w5; unfold wrap64; omega
  have r3 : (st != 0) = true := bne_iff_ne.mpr hst
  clear hr0 h1 ha0 hcell hcell1 hcell4 hb hZ hK hX hz hw hx8 hx2 hx12 hx16 hy8 hy2 hy12 hy16 hv1a hv1b hv4a hv4b hst
  generalize rd l0 1 = cc at *
  generalize be (cut l0 12 16) = oo at *
  generalize be (cut l0 16 24) = qq at *
  generalize rd l0 0 = y at *
  generalize l0.length = n0 at *
  unfold RowV at HOf HSt
  go_enter Try.func12, Try.ntmps12
  go_wp2_with (first | (go_at_call 20; (with_reducible refine (HG8.out _ ?_).mono ?_); (repeat (with_reducible first | exact Below.refl _ _ | apply below_alloc | apply below_drew | apply pw_below_drewN | refine below_set ?_ (by omega))); rintro e w' ⟨rfl, ⟨m, rfl⟩⟩) | (go_at_call 20; (with_reducible refine (HG2.out _ ?_).mono ?_); (repeat (with_reducible first | exact Below.refl _ _ | apply below_alloc | apply below_drew | apply pw_below_drewN | refine below_set ?_ (by omega))); rintro e w' ⟨rfl, ⟨m, rfl⟩⟩) | (go_at_call 20; (with_reducible refine (HG12.out _ ?_).mono ?_); (repeat (with_reducible first | exact Below.refl _ _ | apply below_alloc | apply below_drew | apply pw_below_drewN | refine below_set ?_ (by omega))); rintro e w' ⟨rfl, ⟨m, rfl⟩⟩))
  refine (HOf.out _).mono ?_
  rintro e w1 ⟨rfl, hB⟩
  have HK0 := Aside0.mk (blk_any hB (by first | exact blk_drewN (blk_new w _) _ | exact blk_new w _ : _ = some (.cells #[Value.slice none 0 0, Value.int .i64 0, Value.string ⟨#[]⟩, Value.int .i64 0, Value.int .u32 0, Value.bool false, Value.bool false, Value.string ⟨#[]⟩, Value.slice none 0 0, Value.slice none 0 0, Value.bool false, Value.string ⟨#[]⟩, Value.int .i64 0, Value.int .i64 0, Value.bool false, Value.int .i64 0] 34 (0, 0))))
  have HB1 := Aside0.mk (below_step (show Below w.heap.size w _ from by repeat (with_reducible first | exact Below.refl _ _ | apply below_alloc | apply below_drew | apply pw_below_drewN | refine below_set ?_ (by omega))) hB)
  clear hB hcc1 hcc4 HG2 HG8 HG12 HOf hx hd hd2 r1 r2 w2 w4
  go_wp2_with fail
  refine (HSt.out _).mono ?_
  rintro e w2 ⟨rfl, hB⟩
  have k0 := blk_any hB (blk_alloc HK0.out _)
  have k3 := blk_any hB (blk_new w1 _)
  have HB2 := Aside0.mk (below_step (below_alloc HB1.out _) hB)
  clear hB HK0 HB1 HSt
  have HK0 := Aside0.mk k0
  have HK3 := Aside0.mk k3
  obtain ⟨q0, q1, q2, q3, q4⟩ := cells5 k3
  clear k0 k3
  go_wp2_with fail
  refine (HF.out _).mono ?_
  rintro e w3 ⟨rfl, hB⟩
  have k0 := blk_any hB HK0.out
  have HB3 := Aside0.mk (below_step HB2.out hB)
  clear hB HK0 HK3
  have HK0 := Aside0.mk k0
  obtain ⟨r0, r1, r2, r3, r4, r5, r6, r7, r8, r9, r10, r11, r12, r13, r14, r15⟩ := cells16 k0
  obtain ⟨rf0, rf1, rf2, rf3, rf4, rf5, rf6, rf7, rf8, rf9, rf10, rf11, rf12, rf13, rf14, rf15⟩ := froz16 k0
  clear k0 q0 q1 q2 q3 q4
  go_wp2_with fail
  clear r0 r1 r2 r3 r4 r5 r6 r7 r8 r9 r10 r11 r12 r13 r14 r15 rf0 rf1 rf2 rf3 rf4 rf5 rf6 rf7 rf8 rf9 rf10 rf11 rf12 rf13 rf14 rf15
  refine gen_world (fun W' => W'.heap[w.heap.size]? = some (.cells #[Value.slice none 0 0, Value.int .i64 0, Value.string ⟨#[]⟩, Value.int .i64 0, Value.int .u32 0, Value.bool false, Value.bool false, Value.string ⟨#[]⟩, Value.slice none 0 0, Value.slice none 0 0, Value.bool false, Value.string rep, Value.int .i64 (24 + (z : Int)), Value.int .i64 0, Value.bool false, Value.int .i64 2] 34 (0, 0)) ∧ Below w.heap.size w W') ⟨set16_blk HK0.out (Value.slice none 0 0) (Value.int .i64 0) (Value.string ⟨#[]⟩) (Value.int .i64 0) (Value.int .u32 0) (Value.bool false) (Value.bool false) (Value.string ⟨#[]⟩) (Value.slice none 0 0) (Value.slice none 0 0) (Value.bool false) (Value.string rep) (Value.int .i64 (24 + (z : Int))) (Value.int .i64 0) (Value.bool false) (Value.int .i64 2), set16_below HB3.out (Nat.le_refl _) (Value.slice none 0 0) (Value.int .i64 0) (Value.string ⟨#[]⟩) (Value.int .i64 0) (Value.int .u32 0) (Value.bool false) (Value.bool false) (Value.string ⟨#[]⟩) (Value.slice none 0 0) (Value.slice none 0 0) (Value.bool false) (Value.string rep) (Value.int .i64 (24 + (z : Int))) (Value.int .i64 0) (Value.bool false) (Value.int .i64 2)⟩ ?_
  rintro W9 ⟨kr, hB9⟩
  refine bodyPost_ret (v := badV rep (24 + (z : Int)) 2) (results_cell_row rfl _ _ w.heap.size 34 _ (0, 0) _ rfl kr Try.underlying34 rfl (by kernel_rfl)) rfl ?_
  exact ⟨_, rfl, badS_at _ _ _ _, hB9⟩
theorem infoR : (Try.prog.info? 5).map (fun i => (i.zero, i.size, i.bytes)) = some (some (.int .u8 0), 1, 1) := by kernel_rfl
theorem blk29a (W : World) (m g : Nat) (a b : Value) (o : Obj) : (((((W.drewN m).setCell ⟨g, 5, none⟩ a).setCell ⟨g, 1, none⟩ b)).alloc o).heap[W.heap.size]? = some o := by
  have h := blk_new (((W.drewN m).setCell ⟨g, 5, none⟩ a).setCell ⟨g, 1, none⟩ b) o
  rwa [World.size_setCell, World.size_setCell] at h
theorem blkKa (W : World) (m g : Nat) (a b : Value) (o k : Obj) : (((((W.drewN m).setCell ⟨g, 5, none⟩ a).setCell ⟨g, 1, none⟩ b).alloc o).alloc k).heap[W.heap.size + 1]? = some k := by
  have h := new2 (((W.drewN m).setCell ⟨g, 5, none⟩ a).setCell ⟨g, 1, none⟩ b) o k
  rwa [World.size_setCell, World.size_setCell] at h
theorem blk29v (W : World) (g : Nat) (a : Value) (o : Obj) : ((W.setCell ⟨g, 2, none⟩ a).alloc o).heap[W.heap.size]? = some o := by
  have h := blk_new (W.setCell ⟨g, 2, none⟩ a) o
  rwa [World.size_setCell] at h
theorem blkKv (W : World) (g : Nat) (a : Value) (o k : Obj) : (((W.setCell ⟨g, 2, none⟩ a).alloc o).alloc k).heap[W.heap.size + 1]? = some k := by
  have h := new2 (W.setCell ⟨g, 2, none⟩ a) o k
  rwa [World.size_setCell] at h
set_option maxHeartbeats 8000000 in
set_option maxRecDepth 100000 in
theorem rparse_none (A0 : Option Addr) (c0 : Nat) (l0 : List Int) (w : World) (hr0 : Kd.C (Kd.int .u8) w A0 l0.length l0) (hc0 : l0.length ≤ c0) (hb : ∀ x ∈ l0, 0 ≤ x ∧ x ≤ 255) (h : 24 ≤ l0.length) (h1 : rd l0 0 = 128) (hz : be (cut l0 8 12) ≤ 2048) (hw : 24 + be (cut l0 8 12) ≤ (l0.length : Int)) (z kk xx : Nat) (hZ : be (cut l0 8 12) = (z : Int)) (hK : be (cut l0 2 4) = (kk : Int)) (hX : rd l0 4 = (xx : Int)) (op ee : Int) (q : Bool)
    (HOf : Aside0 (∀ W, Calls Try.prog 16 #[.int .i64 (rd l0 1)] W fun e w' => e = .returned (RowV op ee false false q) ∧ Below W.heap.size W w'))
    (HSt : Aside0 (∀ W, Calls Try.prog 21 #[RowV op ee false false q, .int .i64 (xx : Int), .int .i64 (kk : Int), .int .i64 (z : Int)] W fun e w' => e = .returned (.int .i64 0) ∧ Below W.heap.size W w')) (KL : List Int) (AX AK : Option Addr) (cX cK : Nat) (fl ex de ini : Int) (mk : Bool) (hkz : kk = 0) (hcK : kk ≤ cK)
    (hsX : ∀ W : World, (Instr.slice 22 (.slice A0 l0.length c0) (some (.int .i64 24)) (some (.int .i64 (24 + (xx : Int)))) none).run Try.prog W = .ok (.slice AX xx cX) W)
    (hsK : ∀ W : World, (Instr.slice 22 (.slice A0 l0.length c0) (some (.int .i64 (24 + (xx : Int)))) (some (.int .i64 (24 + (xx : Int) + (kk : Int)))) none).run Try.prog W = .ok (.slice AK kk cK) W)
    (HCm : Aside0 (∀ W, Below w.heap.size w W → Calls Try.prog 23 #[RowV op ee false false q, .slice AX xx cX] W fun e w' => e = .returned (cmdV op ⟨#[]⟩ (.slice none 0 0) fl ex 0 de ini mk) ∧ Below W.heap.size W w'))
    (HCK : Aside0 (Kd.C (Kd.int .u8) w AK kk KL))
    (HKy : Aside0 (∀ W, Calls Try.prog 24 #[.string (strOfNums KL)] W fun e w' => e = .returned (.bool false) ∧ Below W.heap.size W w'))
    (hxz : xx + kk ≤ z) :
    Calls Try.prog 12 #[.slice A0 l0.length c0] w fun e w' => ReqPost w ⟨some ⟨op, strOfNums KL, [], fl, ex, be (cut l0 16 24), de, ini, mk⟩, 2, rd l0 1, be (cut l0 12 16), q, none, ⟨#[]⟩, 24 + (z : Int), 0⟩ e w' := by
  have hu34 := Try.underlying34
  have hu31 := Try.underlying31
  have hu29 := Try.underlying29
  have hu39 := Try.underlying39
  have hu47 := Try.underlying47
  have hu22 := Try.underlying22
  have hu25 := Try.underlying25
  have hu27 := Try.underlying27
  obtain ⟨ad, hA, hcell⟩ := Kd.at_int hr0 0 (by omega) (by omega)
  have ha0 : ad.add (0 : Int).toNat = ad := by simp [Addr.add]
  rw [ha0] at hcell
  subst hA
  have hp : (0 : Int) < (l0.length : Int) := by omega
  have hp2 : ((l0.length : Int) == 0) = false := beq_eq_false_iff_ne.mpr (by omega)
  have hcA : ∀ o : Obj, (w.alloc o).cell? ad = some (.int .u8 (rd l0 0)) := fun o => pw_cell_below (below_alloc (Below.refl _ _) o) hcell
  have hx : (rd l0 0 != 128) = false := bne_eq_false_iff_eq.mpr h1
  have hd : decide (l0.length < 24) = false := decide_eq_false (by omega)
  have hd2 : decide ((l0.length : Int) < 24) = false := decide_eq_false (by omega)
  obtain ⟨ad1, hA1, hcell1⟩ := Kd.at_int hr0 1 (by omega) (by omega)
  obtain rfl := Option.some.inj hA1
  rw [show (1 : Int).toNat = 1 from rfl, add_pos ad 1 (by omega)] at hcell1
  have hcc1 : ∀ o : Obj, (w.alloc o).cell? ⟨ad.block, ad.off + 1, none⟩ = some (.int .u8 (rd l0 1)) := fun o => pw_cell_below (below_alloc (Below.refl _ _) o) hcell1
  have hp1 : (1 : Int) < (l0.length : Int) := by omega
  have hv1 := byte_at l0 1 hb
  rw [show rd l0 ((1 : Nat) : Int) = rd l0 1 from rfl] at hv1
  obtain ⟨hv1a, hv1b⟩ := hv1
  obtain ⟨ad4, hA4, hcell4⟩ := Kd.at_int hr0 4 (by omega) (by omega)
  obtain rfl := Option.some.inj hA4
  rw [show (4 : Int).toNat = 4 from rfl, add_pos ad 4 (by omega)] at hcell4
  have hcc4 : ∀ o : Obj, (w.alloc o).cell? ⟨ad.block, ad.off + 4, none⟩ = some (.int .u8 (rd l0 4)) := fun o => pw_cell_below (below_alloc (Below.refl _ _) o) hcell4
  have hp4 : (4 : Int) < (l0.length : Int) := by omega
  have hv4 := byte_at l0 4 hb
  rw [show rd l0 ((4 : Nat) : Int) = rd l0 4 from rfl] at hv4
  obtain ⟨hv4a, hv4b⟩ := hv4
  obtain ⟨A8, hs8, hC8⟩ := cutC (some ad) c0 l0 8 12 (by omega) (by omega) hc0
  replace hs8 : ∀ W : World, (Instr.slice 22 (.slice (some ad) l0.length c0) (some (.int .i64 8)) (some (.int .i64 12)) none).run Try.prog W = .ok (.slice A8 4 (c0 - 8)) W := hs8
  have HG8 := Aside0.mk (fun W hB => rgetC A8 4 (c0 - 8) (cut l0 8 12) (cut_bytes 8 12 hb) (cut_len l0 8 12 (by omega)) (by omega) (by omega) w W hB (hC8 w hr0))
  have hz8 := be_range (cut l0 8 12) (cut_bytes 8 12 hb)
  rw [cut_len l0 8 12 (by omega)] at hz8
  obtain ⟨hy8, hq8⟩ := hz8
  have hx8 : be (cut l0 8 12) < 4294967296 := hq8
  clear hq8 hC8
  obtain ⟨A2, hs2, hC2⟩ := cutC (some ad) c0 l0 2 4 (by omega) (by omega) hc0
  replace hs2 : ∀ W : World, (Instr.slice 22 (.slice (some ad) l0.length c0) (some (.int .i64 2)) (some (.int .i64 4)) none).run Try.prog W = .ok (.slice A2 2 (c0 - 2)) W := hs2
  have HG2 := Aside0.mk (fun W hB => rgetC A2 2 (c0 - 2) (cut l0 2 4) (cut_bytes 2 4 hb) (cut_len l0 2 4 (by omega)) (by omega) (by omega) w W hB (hC2 w hr0))
  have hz2 := be_range (cut l0 2 4) (cut_bytes 2 4 hb)
  rw [cut_len l0 2 4 (by omega)] at hz2
  obtain ⟨hy2, hq2⟩ := hz2
  have hx2 : be (cut l0 2 4) < 65536 := hq2
  clear hq2 hC2
  obtain ⟨A12, hs12, hC12⟩ := cutC (some ad) c0 l0 12 16 (by omega) (by omega) hc0
  replace hs12 : ∀ W : World, (Instr.slice 22 (.slice (some ad) l0.length c0) (some (.int .i64 12)) (some (.int .i64 16)) none).run Try.prog W = .ok (.slice A12 4 (c0 - 12)) W := hs12
  have HG12 := Aside0.mk (fun W hB => rgetC A12 4 (c0 - 12) (cut l0 12 16) (cut_bytes 12 16 hb) (cut_len l0 12 16 (by omega)) (by omega) (by omega) w W hB (hC12 w hr0))
  have hz12 := be_range (cut l0 12 16) (cut_bytes 12 16 hb)
  rw [cut_len l0 12 16 (by omega)] at hz12
  obtain ⟨hy12, hq12⟩ := hz12
  have hx12 : be (cut l0 12 16) < 4294967296 := hq12
  clear hq12 hC12
  obtain ⟨A16, hs16, hC16⟩ := cutC (some ad) c0 l0 16 24 (by omega) (by omega) hc0
  replace hs16 : ∀ W : World, (Instr.slice 22 (.slice (some ad) l0.length c0) (some (.int .i64 16)) (some (.int .i64 24)) none).run Try.prog W = .ok (.slice A16 8 (c0 - 16)) W := hs16
  have HG16 := Aside0.mk (fun W hB => rgetC A16 8 (c0 - 16) (cut l0 16 24) (cut_bytes 16 24 hb) (cut_len l0 16 24 (by omega)) (by omega) (by omega) w W hB (hC16 w hr0))
  have hz16 := be_range (cut l0 16 24) (cut_bytes 16 24 hb)
  rw [cut_len l0 16 24 (by omega)] at hz16
  obtain ⟨hy16, hq16⟩ := hz16
  have hx16 : be (cut l0 16 24) < 18446744073709551616 := hq16
  clear hq16 hC16
  rw [hZ] at HG8 hx8
  rw [hK] at HG2 hx2
  rw [hX] at hcc4 hv4b
  have r1 : decide ((z : Int) > 2048) = false := decide_eq_false (by omega)
  have r2 : decide ((l0.length : Int) < 24 + (z : Int)) = false := decide_eq_false (by omega)
  have w1 : wrap64 (24 + (z : Int)) = 24 + (z : Int) := by clear r1 r2; unfold wrap64; omega
  have w2 : IntKind.u32.wrap (be (cut l0 12 16)) = be (cut l0 12 16) := u32_in _ hy12 hx12
  have w3 : wrap64 (kk : Int) = (kk : Int) := by clear r1 r2 w1 w2; unfold wrap64; omega
  have w4 : wrap64 (rd l0 1) = rd l0 1 := by clear r1 r2 w1 w2 w3; unfold wrap64; omega
  have w5 : wrap64 (xx : Int) = (xx : Int) := by clear r1 r2 w1 w2 w3 w4; unfold wrap64; omega
  have w6 : wrap64 (z : Int) = (z : Int) := by clear r1 r2 w1 w2 w3 w4 w5; unfold wrap64; omega
  have r3 : ((0 : Int) != 0) = false := rfl
  have w7 : wrap64 (24 + (xx : Int)) = 24 + (xx : Int) := by clear r1 r2 r3 w1 w2 w3 w4 w5 w6; unfold wrap64; omega
  have w8 : wrap64 (24 + (xx : Int) + (kk : Int)) = 24 + (xx : Int) + (kk : Int) := by clear r1 r2 r3 w1 w2 w3 w4 w5 w6 w7; unfold wrap64; omega
  have w9 : IntKind.i64.wrap (24 + (xx : Int)) = 24 + (xx : Int) := (i64_w _).trans w7
  have i5 : 24 + (xx : Int) ≤ (l0.length : Int) := by clear r1 r2 r3 w1 w2 w3 w4 w5 w6 w7 w8 w9; omega
  have i6 : 24 + (xx : Int) + (kk : Int) ≤ (l0.length : Int) := by clear r1 r2 r3 w1 w2 w3 w4 w5 w6 w7 w8 w9; omega
  have i7 : (24 : Int) ≤ 24 + (xx : Int) := by clear r1 r2 r3 w1 w2 w3 w4 w5 w6 w7 w8 w9; omega
  have i8 : 24 + (xx : Int) ≤ 24 + (xx : Int) + (kk : Int) := by clear r1 r2 r3 w1 w2 w3 w4 w5 w6 w7 w8 w9; omega
  have r5 : decide ((kk : Int) > 0) = false := decide_eq_false (by clear r1 r2 r3 w1 w2 w3 w4 w5 w6 w7 w8 w9; omega)
  have r6 : decide (0 < kk) = false := decide_eq_false (by clear r1 r2 r3 r5 w1 w2 w3 w4 w5 w6 w7 w8 w9; omega)
  clear hr0 h1 ha0 hcell hcell1 hcell4 hb hZ hK hX hz hw hx8 hx2 hx12 hx16 hy8 hy2 hy12 hy16 hv1a hv1b hv4a hv4b hkz hxz hcK
  generalize rd l0 1 = cc at *
  generalize be (cut l0 12 16) = oo at *
  generalize be (cut l0 16 24) = qq at *
  generalize rd l0 0 = y at *
  generalize l0.length = n0 at *
  unfold RowV at HOf HSt HCm
  unfold cmdV at HCm
  go_enter Try.func12, Try.ntmps12
  go_wp2_with (first | (go_at_call 20; (with_reducible refine (HG8.out _ ?_).mono ?_); (repeat (with_reducible first | exact Below.refl _ _ | apply below_alloc | apply below_drew | apply pw_below_drewN | refine below_set ?_ (by omega))); rintro e w' ⟨rfl, ⟨m, rfl⟩⟩) | (go_at_call 20; (with_reducible refine (HG2.out _ ?_).mono ?_); (repeat (with_reducible first | exact Below.refl _ _ | apply below_alloc | apply below_drew | apply pw_below_drewN | refine below_set ?_ (by omega))); rintro e w' ⟨rfl, ⟨m, rfl⟩⟩) | (go_at_call 20; (with_reducible refine (HG12.out _ ?_).mono ?_); (repeat (with_reducible first | exact Below.refl _ _ | apply below_alloc | apply below_drew | apply pw_below_drewN | refine below_set ?_ (by omega))); rintro e w' ⟨rfl, ⟨m, rfl⟩⟩))
  refine (HOf.out _).mono ?_
  rintro e w1 ⟨rfl, hB⟩
  have HK0 := Aside0.mk (blk_any hB (by first | exact blk_drewN (blk_new w _) _ | exact blk_new w _ : _ = some (.cells #[Value.slice none 0 0, Value.int .i64 0, Value.string ⟨#[]⟩, Value.int .i64 0, Value.int .u32 0, Value.bool false, Value.bool false, Value.string ⟨#[]⟩, Value.slice none 0 0, Value.slice none 0 0, Value.bool false, Value.string ⟨#[]⟩, Value.int .i64 0, Value.int .i64 0, Value.bool false, Value.int .i64 0] 34 (0, 0))))
  have HB1 := Aside0.mk (below_step (show Below w.heap.size w _ from by repeat (with_reducible first | exact Below.refl _ _ | apply below_alloc | apply below_drew | apply pw_below_drewN | refine below_set ?_ (by omega))) hB)
  clear hB hcc1 hcc4 HG2 HG8 HG12 HOf hx hd hd2 r1 r2 w2 w4
  go_wp2_with fail
  refine (HSt.out _).mono ?_
  rintro e w2 ⟨rfl, hB⟩
  have k0 := blk_any hB (blk_alloc HK0.out _)
  have k3 := blk_any hB (blk_new w1 _)
  have HB2 := Aside0.mk (below_step (below_alloc HB1.out _) hB)
  clear hB HK0 HB1 HSt
  have HK0 := Aside0.mk k0
  have HK3 := Aside0.mk k3
  obtain ⟨q0, q1, q2, q3, q4⟩ := cells5 k3
  clear k0 k3
  go_wp2_with fail
  have ne0 : w2.heap.size ≠ w1.heap.size := World.new_ne w2 ⟨w1.heap.size, 0, none⟩ q0
  go_region_held3 (fun w' => w'.cell? ⟨w1.heap.size, 0, none⟩ = some (.int .i64 op) ∧ w'.cell? ⟨w1.heap.size, 1, none⟩ = some (.int .i64 ee) ∧ w'.cell? ⟨w1.heap.size, 2, none⟩ = some (.bool false) ∧ w'.cell? ⟨w1.heap.size, 3, none⟩ = some (.bool false) ∧ w'.cell? ⟨w1.heap.size, 4, none⟩ = some (.bool q)) (go_keep)
    ((first | (go_at_call 23; (with_reducible refine (HCm.out _ ?_).mono ?_); (repeat (with_reducible first | exact HB2.out | apply below_alloc | apply below_drew | apply pw_below_drewN | refine below_set ?_ (by omega))); rintro e w3 ⟨rfl, hB⟩; have k0 := blk_any hB (by first | exact HK0.out | exact blk_drewN HK0.out _ | exact blk_drew HK0.out); have k3 := blk_any hB (by first | exact HK3.out | exact blk_drewN HK3.out _ | exact blk_drew HK3.out); have HB3 := Aside0.mk (below_step (show Below w.heap.size w _ from by repeat (with_reducible first | exact HB2.out | apply below_alloc | apply below_drew | apply pw_below_drewN | refine below_set ?_ (by omega))) hB); clear q0 q1 q2 q3 q4; have HK0 := Aside0.mk k0; have HK3 := Aside0.mk k3; obtain ⟨q0, q1, q2, q3, q4⟩ := cells5 k3; clear k0 k3 hB) | (go_at_call 23; (with_reducible refine (HCm.out _ ?_).mono ?_); (repeat (with_reducible first | exact HB2.out | apply below_alloc | apply below_drew | apply pw_below_drewN | refine below_set ?_ (by omega))); rintro e w3 ⟨rfl, hB⟩; have k0 := blk_any hB (by first | exact blk_drewN (blk_alloc HK0.out _) _ | exact blk_alloc HK0.out _ | exact blk_alloc (blk_drewN HK0.out _) _); have k3 := blk_any hB (by first | exact blk_drewN (blk_alloc HK3.out _) _ | exact blk_alloc HK3.out _ | exact blk_alloc (blk_drewN HK3.out _) _); have HB3 := Aside0.mk (below_step (show Below w.heap.size w _ from by repeat (with_reducible first | exact HB2.out | apply below_alloc | apply below_drew | apply pw_below_drewN | refine below_set ?_ (by omega))) hB); clear q0 q1 q2 q3 q4; have HK0 := Aside0.mk k0; have HK3 := Aside0.mk k3; obtain ⟨q0, q1, q2, q3, q4⟩ := cells5 k3; have k5 := blk_any hB (by first | exact blk_drewN (blk_new w2 (.cells #[.int .i64 0, .string ⟨#[]⟩, .slice none 0 0, .int .u32 0, .int .i64 0, .int .u64 0, .int .u64 0, .int .u64 0, .bool false, .bool false] 39)) _ | exact blk_new w2 (.cells #[.int .i64 0, .string ⟨#[]⟩, .slice none 0 0, .int .u32 0, .int .i64 0, .int .u64 0, .int .u64 0, .int .u64 0, .bool false, .bool false] 39)); have HK5 := Aside0.mk k5; obtain ⟨z0, z1, z2, z3, z4, z5, z6, z7, z8, z9⟩ := cells10 k5; obtain ⟨zf0, zf1, zf2, zf3, zf4, zf5, zf6, zf7, zf8, zf9⟩ := froz10 k5; clear k5; clear k0 k3 hB)))
  all_goals first
    | (refine gen_world (fun W' => W'.heap[w2.heap.size]? = some (.cells #[Value.int .i64 op, Value.string ⟨#[]⟩, Value.slice none 0 0, Value.int .u32 fl, Value.int .i64 ex, Value.int .u64 0, Value.int .u64 de, Value.int .u64 ini, Value.bool mk, Value.bool false] 39 (0, 0)) ∧ W'.heap[w.heap.size]? = some (.cells #[Value.slice none 0 0, Value.int .i64 0, Value.string ⟨#[]⟩, Value.int .i64 0, Value.int .u32 0, Value.bool false, Value.bool false, Value.string ⟨#[]⟩, Value.slice none 0 0, Value.slice none 0 0, Value.bool false, Value.string ⟨#[]⟩, Value.int .i64 0, Value.int .i64 0, Value.bool false, Value.int .i64 0] 34 (0, 0)) ∧ W'.heap[w1.heap.size]? = some (.cells #[.int .i64 op, .int .i64 ee, .bool false, .bool false, .bool q] 47 (0, 0)) ∧ Below w.heap.size w W') ⟨set10_blk HK5.out (Value.int .i64 op) (Value.string ⟨#[]⟩) (Value.slice none 0 0) (Value.int .u32 fl) (Value.int .i64 ex) (Value.int .u64 0) (Value.int .u64 de) (Value.int .u64 ini) (Value.bool mk) (Value.bool false), (set10_far HK0.out (blk_ne HK0.out HK5.out (by decide)) (Value.int .i64 op) (Value.string ⟨#[]⟩) (Value.slice none 0 0) (Value.int .u32 fl) (Value.int .i64 ex) (Value.int .u64 0) (Value.int .u64 de) (Value.int .u64 ini) (Value.bool mk) (Value.bool false)), (set10_far HK3.out (blk_ne HK3.out HK5.out (by decide)) (Value.int .i64 op) (Value.string ⟨#[]⟩) (Value.slice none 0 0) (Value.int .u32 fl) (Value.int .i64 ex) (Value.int .u64 0) (Value.int .u64 de) (Value.int .u64 ini) (Value.bool mk) (Value.bool false)), set10_below HB3.out (by have := HB2.out.size; omega) (Value.int .i64 op) (Value.string ⟨#[]⟩) (Value.slice none 0 0) (Value.int .u32 fl) (Value.int .i64 ex) (Value.int .u64 0) (Value.int .u64 de) (Value.int .u64 ini) (Value.bool mk) (Value.bool false)⟩ ?_; clear z0 z1 z2 z3 z4 z5 z6 z7 z8 z9 zf0 zf1 zf2 zf3 zf4 zf5 zf6 zf7 zf8 zf9; have HGE := Aside0.mk HB2.out.size; generalize w2.heap.size = g at *)
    | (refine gen_world (fun W' => W'.heap[w3.heap.size]? = some (.cells #[Value.int .i64 op, Value.string ⟨#[]⟩, Value.slice none 0 0, Value.int .u32 fl, Value.int .i64 ex, Value.int .u64 0, Value.int .u64 de, Value.int .u64 ini, Value.bool mk, Value.bool false] 39 (0, 0)) ∧ W'.heap[w.heap.size]? = some (.cells #[Value.slice none 0 0, Value.int .i64 0, Value.string ⟨#[]⟩, Value.int .i64 0, Value.int .u32 0, Value.bool false, Value.bool false, Value.string ⟨#[]⟩, Value.slice none 0 0, Value.slice none 0 0, Value.bool false, Value.string ⟨#[]⟩, Value.int .i64 0, Value.int .i64 0, Value.bool false, Value.int .i64 0] 34 (0, 0)) ∧ W'.heap[w1.heap.size]? = some (.cells #[.int .i64 op, .int .i64 ee, .bool false, .bool false, .bool q] 47 (0, 0)) ∧ Below w.heap.size w W') ⟨blk_new w3 _, blk_alloc HK0.out _, blk_alloc HK3.out _, below_alloc HB3.out _⟩ ?_; have HGE := Aside0.mk HB3.out.size; generalize w3.heap.size = g at *)
  all_goals clear ne0 q0 q1 q2 q3 q4 HK0 HK3 HB3
  all_goals (
    rintro W5 ⟨k5, k0, k3, hB5⟩
    have HK5 := Aside0.mk k5
    have HK0 := Aside0.mk k0
    have HK3 := Aside0.mk k3
    have HB5 := Aside0.mk hB5
    have c5 : W5.cell? ⟨g, 5, none⟩ = some (.int .u64 0) := blk_cell k5 5
    have f5 := blk_frozen k5 5
    have c1 : W5.cell? ⟨g, 1, none⟩ = some (.string ⟨#[]⟩) := blk_cell k5 1
    have f1 := blk_frozen k5 1
    clear k5 k0 k3 hB5
    go_wp2_with (first | (go_at_call 20; refine (HG16.out _ HB5.out).mono ?_; rintro e w' ⟨rfl, ⟨m, rfl⟩⟩; have hcv : (convert 22 9 (.slice AK kk cK)).run Try.prog ((W5.drewN m).setCell ⟨g, 5, none⟩ (Value.int .u64 qq)) = .ok (.string (strOfNums KL)) ((W5.drewN m).setCell ⟨g, 5, none⟩ (Value.int .u64 qq)) := Kd.C_string Try.underlying22 Try.underlying5 Try.underlying9 (C_set_ne (Kd.C_drewN (Kd.C_below HCK.out HB5.out) m) (fun x e => by rw [blk_cell (blk_drewN HK5.out m) 5] at e; cases e)); have j5 := blk_put (cs' := #[Value.int .i64 op, Value.string (strOfNums KL), Value.slice none 0 0, Value.int .u32 fl, Value.int .i64 ex, Value.int .u64 qq, Value.int .u64 de, Value.int .u64 ini, Value.bool mk, Value.bool false]) (blk_put (cs' := #[Value.int .i64 op, Value.string ⟨#[]⟩, Value.slice none 0 0, Value.int .u32 fl, Value.int .i64 ex, Value.int .u64 qq, Value.int .u64 de, Value.int .u64 ini, Value.bool mk, Value.bool false]) (blk_drewN HK5.out m) 5 _ rfl) 1 (Value.string (strOfNums KL)) rfl; have j0 := (blk_far (blk_far (blk_drewN HK0.out m) (p := ⟨g, 5, none⟩) (blk_ne HK0.out HK5.out (by decide)) (Value.int .u64 qq)) (p := ⟨g, 1, none⟩) (blk_ne HK0.out HK5.out (by decide)) (Value.string (strOfNums KL))); have j3 := (blk_far (blk_far (blk_drewN HK3.out m) (p := ⟨g, 5, none⟩) (blk_ne HK3.out HK5.out (by decide)) (Value.int .u64 qq)) (p := ⟨g, 1, none⟩) (blk_ne HK3.out HK5.out (by decide)) (Value.string (strOfNums KL))); have HJ5 := Aside0.mk j5; have HJ0 := Aside0.mk j0; have HJ3 := Aside0.mk j3; have HBW := Aside0.mk (below_set (j := 1) (v := Value.string (strOfNums KL)) (below_set (j := 5) (v := Value.int .u64 qq) (pw_below_drewN HB5.out m) HGE.out) HGE.out); have x3 : (((W5.drewN m).setCell ⟨g, 5, none⟩ (Value.int .u64 qq)).setCell ⟨g, 1, none⟩ (Value.string (strOfNums KL))).cell? ⟨w1.heap.size, 3, none⟩ = some (.bool false) := blk_cell j3 3; have x4 : (((W5.drewN m).setCell ⟨g, 5, none⟩ (Value.int .u64 qq)).setCell ⟨g, 1, none⟩ (Value.string (strOfNums KL))).cell? ⟨w1.heap.size, 4, none⟩ = some (.bool q) := blk_cell j3 4; have y1 : ∀ o : Obj, ((((W5.drewN m).setCell ⟨g, 5, none⟩ (Value.int .u64 qq)).setCell ⟨g, 1, none⟩ (Value.string (strOfNums KL))).alloc o).cell? ⟨g, 1, none⟩ = some (.string (strOfNums KL)) := fun o => blk_cell (blk_alloc j5 o) 1; have y2 : ∀ o o' : Obj, (((((W5.drewN m).setCell ⟨g, 5, none⟩ (Value.int .u64 qq)).setCell ⟨g, 1, none⟩ (Value.string (strOfNums KL))).alloc o).alloc o').cell? ⟨g, 1, none⟩ = some (.string (strOfNums KL)) := fun o o' => blk_cell (blk_alloc (blk_alloc j5 o) o') 1; clear j5 j0 j3))
    refine gen_calls (fun W' => W'.heap[g]? = some (.cells #[Value.int .i64 op, Value.string (strOfNums KL), Value.slice none 0 0, Value.int .u32 fl, Value.int .i64 ex, Value.int .u64 qq, Value.int .u64 de, Value.int .u64 ini, Value.bool mk, Value.bool false] 39 (0, 0)) ∧ W'.heap[w.heap.size]? = some (.cells #[Value.slice none 0 0, Value.int .i64 0, Value.string ⟨#[]⟩, Value.int .i64 0, Value.int .u32 0, Value.bool false, Value.bool false, Value.string ⟨#[]⟩, Value.slice none 0 0, Value.slice none 0 0, Value.bool false, Value.string ⟨#[]⟩, Value.int .i64 0, Value.int .i64 0, Value.bool false, Value.int .i64 0] 34 (0, 0)) ∧ W'.heap[w1.heap.size]? = some (.cells #[.int .i64 op, .int .i64 ee, .bool false, .bool false, .bool q] 47 (0, 0)) ∧ W'.heap[W5.heap.size]? = some (.cells #[.int .i64 2, .string ⟨#[]⟩, .int .i64 cc, .int .u32 oo, .bool q, .bool false, .string ⟨#[]⟩, .slice none 0 0, .slice none 0 0, .bool false] 29 (0, 0)) ∧ Below w.heap.size w W') ⟨(blk_alloc HJ5.out _), (blk_alloc HJ0.out _), (blk_alloc HJ3.out _), blk29a _ _ _ _ _ _, (below_alloc HBW.out _)⟩ ?_
    clear HK5 HK0 HK3 HB5 c5 f5 c1 f1 hcv HJ5 HJ0 HJ3 x4 y1 y2 x3
    generalize W5.heap.size = gf at *
    rintro W8 ⟨k5, k0, k3, k29, hB8⟩
    have HB8 := Aside0.mk hB8
    have HH := Aside0.mk (And.intro k5 (And.intro k0 (And.intro k3 k29)))
    clear k5 k0 k3 k29 hB8
    refine (HKy.out W8).mono ?_
    rintro e w9 ⟨rfl, hB⟩
    have k5 := blk_any hB HH.out.1
    have k0 := blk_any hB HH.out.2.1
    have k3 := blk_any hB HH.out.2.2.1
    have k29 := blk_any hB HH.out.2.2.2
    have HB9 := Aside0.mk (below_step HB8.out hB)
    have HK0 := Aside0.mk k0
    obtain ⟨z0, z1, z2, z3, z4, z5, z6, z7, z8, z9⟩ := cells10 k5
    obtain ⟨t0, t1, t2, t3, t4, t5, t6, t7, t8, t9⟩ := cells10_1 k29
    obtain ⟨r0, r1, r2, r3, r4, r5, r6, r7, r8, r9, r10, r11, r12, r13, r14, r15⟩ := cells16_1 k0
    obtain ⟨rf0, rf1, rf2, rf3, rf4, rf5, rf6, rf7, rf8, rf9, rf10, rf11, rf12, rf13, rf14, rf15⟩ := froz16_1 k0
    have x2 : w9.cell? ⟨w1.heap.size, 2, none⟩ = some (.bool false) := blk_cell k3 2
    clear k5 k0 k3 k29 hB
    go_wp2_with fail
    clear z0 z1 z2 z3 z4 z5 z6 z7 z8 z9 t0 t1 t2 t3 t4 t5 t6 t7 t8 t9 r0 r1 r2 r3 r4 r5 r6 r7 r8 r9 r10 r11 r12 r13 r14 r15 rf0 rf1 rf2 rf3 rf4 rf5 rf6 rf7 rf8 rf9 rf10 rf11 rf12 rf13 rf14 rf15 x2
    refine gen_world (fun W' => W'.heap[w9.heap.size]? = some (.cells #[Value.int .i64 op, Value.string (strOfNums KL), Value.slice none 0 0, Value.int .u32 fl, Value.int .i64 ex, Value.int .u64 qq, Value.int .u64 de, Value.int .u64 ini, Value.bool mk, Value.bool false] 39 (0, 0)) ∧ W'.heap[w.heap.size]? = some (.cells #[Value.slice (some ⟨w9.heap.size, 0, none⟩) 1 1, Value.int .i64 2, Value.string ⟨#[]⟩, Value.int .i64 cc, Value.int .u32 oo, Value.bool q, Value.bool false, Value.string ⟨#[]⟩, Value.slice none 0 0, Value.slice none 0 0, Value.bool false, Value.string ⟨#[]⟩, Value.int .i64 (24 + (z : Int)), Value.int .i64 0, Value.bool false, Value.int .i64 0] 34 (0, 0)) ∧ Below w.heap.size w W') ⟨set16_far (blk_new w9 _) (by have := blk_lt HK0.out; omega) (Value.slice (some ⟨w9.heap.size, 0, none⟩) 1 1) (Value.int .i64 2) (Value.string ⟨#[]⟩) (Value.int .i64 cc) (Value.int .u32 oo) (Value.bool q) (Value.bool false) (Value.string ⟨#[]⟩) (Value.slice none 0 0) (Value.slice none 0 0) (Value.bool false) (Value.string ⟨#[]⟩) (Value.int .i64 (24 + (z : Int))) (Value.int .i64 0) (Value.bool false) (Value.int .i64 0), set16_blk (blk_alloc HK0.out _) (Value.slice (some ⟨w9.heap.size, 0, none⟩) 1 1) (Value.int .i64 2) (Value.string ⟨#[]⟩) (Value.int .i64 cc) (Value.int .u32 oo) (Value.bool q) (Value.bool false) (Value.string ⟨#[]⟩) (Value.slice none 0 0) (Value.slice none 0 0) (Value.bool false) (Value.string ⟨#[]⟩) (Value.int .i64 (24 + (z : Int))) (Value.int .i64 0) (Value.bool false) (Value.int .i64 0), set16_below (below_alloc HB9.out _) (Nat.le_refl _) (Value.slice (some ⟨w9.heap.size, 0, none⟩) 1 1) (Value.int .i64 2) (Value.string ⟨#[]⟩) (Value.int .i64 cc) (Value.int .u32 oo) (Value.bool q) (Value.bool false) (Value.string ⟨#[]⟩) (Value.slice none 0 0) (Value.slice none 0 0) (Value.bool false) (Value.string ⟨#[]⟩) (Value.int .i64 (24 + (z : Int))) (Value.int .i64 0) (Value.bool false) (Value.int .i64 0)⟩ ?_
    rintro W10 ⟨kc, kr, hB10⟩
    refine bodyPost_ret (v := stepV (.slice (some ⟨w9.heap.size, 0, none⟩) 1 1) 2 cc oo q (.slice none 0 0) ⟨#[]⟩ (24 + (z : Int)) 0) (results_cell_row rfl _ _ w.heap.size 34 _ (0, 0) _ rfl kr Try.underlying34 rfl (by kernel_rfl)) rfl ?_
    exact ⟨_, rfl, ⟨_, _, rfl, ⟨_, none, 0, rfl, kc, Kd.C_nil _ _, Nat.le_refl _⟩, rfl⟩, hB10⟩)
set_option maxHeartbeats 8000000 in
set_option maxRecDepth 100000 in
theorem rparse_key (A0 : Option Addr) (c0 : Nat) (l0 : List Int) (w : World) (hr0 : Kd.C (Kd.int .u8) w A0 l0.length l0) (hc0 : l0.length ≤ c0) (hb : ∀ x ∈ l0, 0 ≤ x ∧ x ≤ 255) (h : 24 ≤ l0.length) (h1 : rd l0 0 = 128) (hz : be (cut l0 8 12) ≤ 2048) (hw : 24 + be (cut l0 8 12) ≤ (l0.length : Int)) (z kk xx : Nat) (hZ : be (cut l0 8 12) = (z : Int)) (hK : be (cut l0 2 4) = (kk : Int)) (hX : rd l0 4 = (xx : Int)) (op ee : Int) (q : Bool)
    (HOf : Aside0 (∀ W, Calls Try.prog 16 #[.int .i64 (rd l0 1)] W fun e w' => e = .returned (RowV op ee true false q) ∧ Below W.heap.size W w'))
    (HSt : Aside0 (∀ W, Calls Try.prog 21 #[RowV op ee true false q, .int .i64 (xx : Int), .int .i64 (kk : Int), .int .i64 (z : Int)] W fun e w' => e = .returned (.int .i64 0) ∧ Below W.heap.size W w')) (KL : List Int) (AX AK : Option Addr) (cX cK : Nat) (fl ex de ini : Int) (mk : Bool) (hkz : kk ≠ 0) (hcK : kk ≤ cK)
    (hsX : ∀ W : World, (Instr.slice 22 (.slice A0 l0.length c0) (some (.int .i64 24)) (some (.int .i64 (24 + (xx : Int)))) none).run Try.prog W = .ok (.slice AX xx cX) W)
    (hsK : ∀ W : World, (Instr.slice 22 (.slice A0 l0.length c0) (some (.int .i64 (24 + (xx : Int)))) (some (.int .i64 (24 + (xx : Int) + (kk : Int)))) none).run Try.prog W = .ok (.slice AK kk cK) W)
    (HCm : Aside0 (∀ W, Below w.heap.size w W → Calls Try.prog 23 #[RowV op ee true false q, .slice AX xx cX] W fun e w' => e = .returned (cmdV op ⟨#[]⟩ (.slice none 0 0) fl ex 0 de ini mk) ∧ Below W.heap.size W w'))
    (HCK : Aside0 (Kd.C (Kd.int .u8) w AK kk KL))
    (HKy : Aside0 (∀ W, Calls Try.prog 24 #[.string (strOfNums KL)] W fun e w' => e = .returned (.bool true) ∧ Below W.heap.size W w'))
    (hxz : xx + kk ≤ z) :
    Calls Try.prog 12 #[.slice A0 l0.length c0] w fun e w' => ReqPost w ⟨some ⟨op, strOfNums KL, [], fl, ex, be (cut l0 16 24), de, ini, mk⟩, 2, rd l0 1, be (cut l0 12 16), q, some (strOfNums KL), ⟨#[]⟩, 24 + (z : Int), 0⟩ e w' := by
  have hu34 := Try.underlying34
  have hu31 := Try.underlying31
  have hu29 := Try.underlying29
  have hu39 := Try.underlying39
  have hu47 := Try.underlying47
  have hu22 := Try.underlying22
  have hu25 := Try.underlying25
  have hu27 := Try.underlying27
  obtain ⟨ad, hA, hcell⟩ := Kd.at_int hr0 0 (by omega) (by omega)
  have ha0 : ad.add (0 : Int).toNat = ad := by simp [Addr.add]
  rw [ha0] at hcell
  subst hA
  have hp : (0 : Int) < (l0.length : Int) := by omega
  have hp2 : ((l0.length : Int) == 0) = false := beq_eq_false_iff_ne.mpr (by omega)
  have hcA : ∀ o : Obj, (w.alloc o).cell? ad = some (.int .u8 (rd l0 0)) := fun o => pw_cell_below (below_alloc (Below.refl _ _) o) hcell
  have hx : (rd l0 0 != 128) = false := bne_eq_false_iff_eq.mpr h1
  have hd : decide (l0.length < 24) = false := decide_eq_false (by omega)
  have hd2 : decide ((l0.length : Int) < 24) = false := decide_eq_false (by omega)
  obtain ⟨ad1, hA1, hcell1⟩ := Kd.at_int hr0 1 (by omega) (by omega)
  obtain rfl := Option.some.inj hA1
  rw [show (1 : Int).toNat = 1 from rfl, add_pos ad 1 (by omega)] at hcell1
  have hcc1 : ∀ o : Obj, (w.alloc o).cell? ⟨ad.block, ad.off + 1, none⟩ = some (.int .u8 (rd l0 1)) := fun o => pw_cell_below (below_alloc (Below.refl _ _) o) hcell1
  have hp1 : (1 : Int) < (l0.length : Int) := by omega
  have hv1 := byte_at l0 1 hb
  rw [show rd l0 ((1 : Nat) : Int) = rd l0 1 from rfl] at hv1
  obtain ⟨hv1a, hv1b⟩ := hv1
  obtain ⟨ad4, hA4, hcell4⟩ := Kd.at_int hr0 4 (by omega) (by omega)
  obtain rfl := Option.some.inj hA4
  rw [show (4 : Int).toNat = 4 from rfl, add_pos ad 4 (by omega)] at hcell4
  have hcc4 : ∀ o : Obj, (w.alloc o).cell? ⟨ad.block, ad.off + 4, none⟩ = some (.int .u8 (rd l0 4)) := fun o => pw_cell_below (below_alloc (Below.refl _ _) o) hcell4
  have hp4 : (4 : Int) < (l0.length : Int) := by omega
  have hv4 := byte_at l0 4 hb
  rw [show rd l0 ((4 : Nat) : Int) = rd l0 4 from rfl] at hv4
  obtain ⟨hv4a, hv4b⟩ := hv4
  obtain ⟨A8, hs8, hC8⟩ := cutC (some ad) c0 l0 8 12 (by omega) (by omega) hc0
  replace hs8 : ∀ W : World, (Instr.slice 22 (.slice (some ad) l0.length c0) (some (.int .i64 8)) (some (.int .i64 12)) none).run Try.prog W = .ok (.slice A8 4 (c0 - 8)) W := hs8
  have HG8 := Aside0.mk (fun W hB => rgetC A8 4 (c0 - 8) (cut l0 8 12) (cut_bytes 8 12 hb) (cut_len l0 8 12 (by omega)) (by omega) (by omega) w W hB (hC8 w hr0))
  have hz8 := be_range (cut l0 8 12) (cut_bytes 8 12 hb)
  rw [cut_len l0 8 12 (by omega)] at hz8
  obtain ⟨hy8, hq8⟩ := hz8
  have hx8 : be (cut l0 8 12) < 4294967296 := hq8
  clear hq8 hC8
  obtain ⟨A2, hs2, hC2⟩ := cutC (some ad) c0 l0 2 4 (by omega) (by omega) hc0
  replace hs2 : ∀ W : World, (Instr.slice 22 (.slice (some ad) l0.length c0) (some (.int .i64 2)) (some (.int .i64 4)) none).run Try.prog W = .ok (.slice A2 2 (c0 - 2)) W := hs2
  have HG2 := Aside0.mk (fun W hB => rgetC A2 2 (c0 - 2) (cut l0 2 4) (cut_bytes 2 4 hb) (cut_len l0 2 4 (by omega)) (by omega) (by omega) w W hB (hC2 w hr0))
  have hz2 := be_range (cut l0 2 4) (cut_bytes 2 4 hb)
  rw [cut_len l0 2 4 (by omega)] at hz2
  obtain ⟨hy2, hq2⟩ := hz2
  have hx2 : be (cut l0 2 4) < 65536 := hq2
  clear hq2 hC2
  obtain ⟨A12, hs12, hC12⟩ := cutC (some ad) c0 l0 12 16 (by omega) (by omega) hc0
  replace hs12 : ∀ W : World, (Instr.slice 22 (.slice (some ad) l0.length c0) (some (.int .i64 12)) (some (.int .i64 16)) none).run Try.prog W = .ok (.slice A12 4 (c0 - 12)) W := hs12
  have HG12 := Aside0.mk (fun W hB => rgetC A12 4 (c0 - 12) (cut l0 12 16) (cut_bytes 12 16 hb) (cut_len l0 12 16 (by omega)) (by omega) (by omega) w W hB (hC12 w hr0))
  have hz12 := be_range (cut l0 12 16) (cut_bytes 12 16 hb)
  rw [cut_len l0 12 16 (by omega)] at hz12
  obtain ⟨hy12, hq12⟩ := hz12
  have hx12 : be (cut l0 12 16) < 4294967296 := hq12
  clear hq12 hC12
  obtain ⟨A16, hs16, hC16⟩ := cutC (some ad) c0 l0 16 24 (by omega) (by omega) hc0
  replace hs16 : ∀ W : World, (Instr.slice 22 (.slice (some ad) l0.length c0) (some (.int .i64 16)) (some (.int .i64 24)) none).run Try.prog W = .ok (.slice A16 8 (c0 - 16)) W := hs16
  have HG16 := Aside0.mk (fun W hB => rgetC A16 8 (c0 - 16) (cut l0 16 24) (cut_bytes 16 24 hb) (cut_len l0 16 24 (by omega)) (by omega) (by omega) w W hB (hC16 w hr0))
  have hz16 := be_range (cut l0 16 24) (cut_bytes 16 24 hb)
  rw [cut_len l0 16 24 (by omega)] at hz16
  obtain ⟨hy16, hq16⟩ := hz16
  have hx16 : be (cut l0 16 24) < 18446744073709551616 := hq16
  clear hq16 hC16
  rw [hZ] at HG8 hx8
  rw [hK] at HG2 hx2
  rw [hX] at hcc4 hv4b
  have r1 : decide ((z : Int) > 2048) = false := decide_eq_false (by omega)
  have r2 : decide ((l0.length : Int) < 24 + (z : Int)) = false := decide_eq_false (by omega)
  have w1 : wrap64 (24 + (z : Int)) = 24 + (z : Int) := by clear r1 r2; unfold wrap64; omega
  have w2 : IntKind.u32.wrap (be (cut l0 12 16)) = be (cut l0 12 16) := u32_in _ hy12 hx12
  have w3 : wrap64 (kk : Int) = (kk : Int) := by clear r1 r2 w1 w2; unfold wrap64; omega
  have w4 : wrap64 (rd l0 1) = rd l0 1 := by clear r1 r2 w1 w2 w3; unfold wrap64; omega
  have w5 : wrap64 (xx : Int) = (xx : Int) := by clear r1 r2 w1 w2 w3 w4; unfold wrap64; omega
  have w6 : wrap64 (z : Int) = (z : Int) := by clear r1 r2 w1 w2 w3 w4 w5; unfold wrap64; omega
  have r3 : ((0 : Int) != 0) = false := rfl
  have w7 : wrap64 (24 + (xx : Int)) = 24 + (xx : Int) := by clear r1 r2 r3 w1 w2 w3 w4 w5 w6; unfold wrap64; omega
  have w8 : wrap64 (24 + (xx : Int) + (kk : Int)) = 24 + (xx : Int) + (kk : Int) := by clear r1 r2 r3 w1 w2 w3 w4 w5 w6 w7; unfold wrap64; omega
  have w9 : IntKind.i64.wrap (24 + (xx : Int)) = 24 + (xx : Int) := (i64_w _).trans w7
  have i5 : 24 + (xx : Int) ≤ (l0.length : Int) := by clear r1 r2 r3 w1 w2 w3 w4 w5 w6 w7 w8 w9; omega
  have i6 : 24 + (xx : Int) + (kk : Int) ≤ (l0.length : Int) := by clear r1 r2 r3 w1 w2 w3 w4 w5 w6 w7 w8 w9; omega
  have i7 : (24 : Int) ≤ 24 + (xx : Int) := by clear r1 r2 r3 w1 w2 w3 w4 w5 w6 w7 w8 w9; omega
  have i8 : 24 + (xx : Int) ≤ 24 + (xx : Int) + (kk : Int) := by clear r1 r2 r3 w1 w2 w3 w4 w5 w6 w7 w8 w9; omega
  have r5 : decide ((kk : Int) > 0) = true := decide_eq_true (by clear r1 r2 r3 w1 w2 w3 w4 w5 w6 w7 w8 w9; omega)
  have r6 : decide (0 < kk) = true := decide_eq_true (by clear r1 r2 r3 r5 w1 w2 w3 w4 w5 w6 w7 w8 w9; omega)
  clear hr0 h1 ha0 hcell hcell1 hcell4 hb hZ hK hX hz hw hx8 hx2 hx12 hx16 hy8 hy2 hy12 hy16 hv1a hv1b hv4a hv4b hkz hxz hcK
  generalize rd l0 1 = cc at *
  generalize be (cut l0 12 16) = oo at *
  generalize be (cut l0 16 24) = qq at *
  generalize rd l0 0 = y at *
  generalize l0.length = n0 at *
  unfold RowV at HOf HSt HCm
  unfold cmdV at HCm
  go_enter Try.func12, Try.ntmps12
  go_wp2_with (first | (go_at_call 20; (with_reducible refine (HG8.out _ ?_).mono ?_); (repeat (with_reducible first | exact Below.refl _ _ | apply below_alloc | apply below_drew | apply pw_below_drewN | refine below_set ?_ (by omega))); rintro e w' ⟨rfl, ⟨m, rfl⟩⟩) | (go_at_call 20; (with_reducible refine (HG2.out _ ?_).mono ?_); (repeat (with_reducible first | exact Below.refl _ _ | apply below_alloc | apply below_drew | apply pw_below_drewN | refine below_set ?_ (by omega))); rintro e w' ⟨rfl, ⟨m, rfl⟩⟩) | (go_at_call 20; (with_reducible refine (HG12.out _ ?_).mono ?_); (repeat (with_reducible first | exact Below.refl _ _ | apply below_alloc | apply below_drew | apply pw_below_drewN | refine below_set ?_ (by omega))); rintro e w' ⟨rfl, ⟨m, rfl⟩⟩))
  refine (HOf.out _).mono ?_
  rintro e w1 ⟨rfl, hB⟩
  have HK0 := Aside0.mk (blk_any hB (by first | exact blk_drewN (blk_new w _) _ | exact blk_new w _ : _ = some (.cells #[Value.slice none 0 0, Value.int .i64 0, Value.string ⟨#[]⟩, Value.int .i64 0, Value.int .u32 0, Value.bool false, Value.bool false, Value.string ⟨#[]⟩, Value.slice none 0 0, Value.slice none 0 0, Value.bool false, Value.string ⟨#[]⟩, Value.int .i64 0, Value.int .i64 0, Value.bool false, Value.int .i64 0] 34 (0, 0))))
  have HB1 := Aside0.mk (below_step (show Below w.heap.size w _ from by repeat (with_reducible first | exact Below.refl _ _ | apply below_alloc | apply below_drew | apply pw_below_drewN | refine below_set ?_ (by omega))) hB)
  clear hB hcc1 hcc4 HG2 HG8 HG12 HOf hx hd hd2 r1 r2 w2 w4
  go_wp2_with fail
  refine (HSt.out _).mono ?_
  rintro e w2 ⟨rfl, hB⟩
  have k0 := blk_any hB (blk_alloc HK0.out _)
  have k3 := blk_any hB (blk_new w1 _)
  have HB2 := Aside0.mk (below_step (below_alloc HB1.out _) hB)
  clear hB HK0 HB1 HSt
  have HK0 := Aside0.mk k0
  have HK3 := Aside0.mk k3
  obtain ⟨q0, q1, q2, q3, q4⟩ := cells5 k3
  clear k0 k3
  go_wp2_with fail
  have ne0 : w2.heap.size ≠ w1.heap.size := World.new_ne w2 ⟨w1.heap.size, 0, none⟩ q0
  go_region_held3 (fun w' => w'.cell? ⟨w1.heap.size, 0, none⟩ = some (.int .i64 op) ∧ w'.cell? ⟨w1.heap.size, 1, none⟩ = some (.int .i64 ee) ∧ w'.cell? ⟨w1.heap.size, 2, none⟩ = some (.bool true) ∧ w'.cell? ⟨w1.heap.size, 3, none⟩ = some (.bool false) ∧ w'.cell? ⟨w1.heap.size, 4, none⟩ = some (.bool q)) (go_keep)
    ((first | (go_at_call 23; (with_reducible refine (HCm.out _ ?_).mono ?_); (repeat (with_reducible first | exact HB2.out | apply below_alloc | apply below_drew | apply pw_below_drewN | refine below_set ?_ (by omega))); rintro e w3 ⟨rfl, hB⟩; have k0 := blk_any hB (by first | exact HK0.out | exact blk_drewN HK0.out _ | exact blk_drew HK0.out); have k3 := blk_any hB (by first | exact HK3.out | exact blk_drewN HK3.out _ | exact blk_drew HK3.out); have HB3 := Aside0.mk (below_step (show Below w.heap.size w _ from by repeat (with_reducible first | exact HB2.out | apply below_alloc | apply below_drew | apply pw_below_drewN | refine below_set ?_ (by omega))) hB); clear q0 q1 q2 q3 q4; have HK0 := Aside0.mk k0; have HK3 := Aside0.mk k3; obtain ⟨q0, q1, q2, q3, q4⟩ := cells5 k3; clear k0 k3 hB) | (go_at_call 23; (with_reducible refine (HCm.out _ ?_).mono ?_); (repeat (with_reducible first | exact HB2.out | apply below_alloc | apply below_drew | apply pw_below_drewN | refine below_set ?_ (by omega))); rintro e w3 ⟨rfl, hB⟩; have k0 := blk_any hB (by first | exact blk_drewN (blk_alloc HK0.out _) _ | exact blk_alloc HK0.out _ | exact blk_alloc (blk_drewN HK0.out _) _); have k3 := blk_any hB (by first | exact blk_drewN (blk_alloc HK3.out _) _ | exact blk_alloc HK3.out _ | exact blk_alloc (blk_drewN HK3.out _) _); have HB3 := Aside0.mk (below_step (show Below w.heap.size w _ from by repeat (with_reducible first | exact HB2.out | apply below_alloc | apply below_drew | apply pw_below_drewN | refine below_set ?_ (by omega))) hB); clear q0 q1 q2 q3 q4; have HK0 := Aside0.mk k0; have HK3 := Aside0.mk k3; obtain ⟨q0, q1, q2, q3, q4⟩ := cells5 k3; have k5 := blk_any hB (by first | exact blk_drewN (blk_new w2 (.cells #[.int .i64 0, .string ⟨#[]⟩, .slice none 0 0, .int .u32 0, .int .i64 0, .int .u64 0, .int .u64 0, .int .u64 0, .bool false, .bool false] 39)) _ | exact blk_new w2 (.cells #[.int .i64 0, .string ⟨#[]⟩, .slice none 0 0, .int .u32 0, .int .i64 0, .int .u64 0, .int .u64 0, .int .u64 0, .bool false, .bool false] 39)); have HK5 := Aside0.mk k5; obtain ⟨z0, z1, z2, z3, z4, z5, z6, z7, z8, z9⟩ := cells10 k5; obtain ⟨zf0, zf1, zf2, zf3, zf4, zf5, zf6, zf7, zf8, zf9⟩ := froz10 k5; clear k5; clear k0 k3 hB)))
  all_goals first
    | (refine gen_world (fun W' => W'.heap[w2.heap.size]? = some (.cells #[Value.int .i64 op, Value.string ⟨#[]⟩, Value.slice none 0 0, Value.int .u32 fl, Value.int .i64 ex, Value.int .u64 0, Value.int .u64 de, Value.int .u64 ini, Value.bool mk, Value.bool false] 39 (0, 0)) ∧ W'.heap[w.heap.size]? = some (.cells #[Value.slice none 0 0, Value.int .i64 0, Value.string ⟨#[]⟩, Value.int .i64 0, Value.int .u32 0, Value.bool false, Value.bool false, Value.string ⟨#[]⟩, Value.slice none 0 0, Value.slice none 0 0, Value.bool false, Value.string ⟨#[]⟩, Value.int .i64 0, Value.int .i64 0, Value.bool false, Value.int .i64 0] 34 (0, 0)) ∧ W'.heap[w1.heap.size]? = some (.cells #[.int .i64 op, .int .i64 ee, .bool true, .bool false, .bool q] 47 (0, 0)) ∧ Below w.heap.size w W') ⟨set10_blk HK5.out (Value.int .i64 op) (Value.string ⟨#[]⟩) (Value.slice none 0 0) (Value.int .u32 fl) (Value.int .i64 ex) (Value.int .u64 0) (Value.int .u64 de) (Value.int .u64 ini) (Value.bool mk) (Value.bool false), (set10_far HK0.out (blk_ne HK0.out HK5.out (by decide)) (Value.int .i64 op) (Value.string ⟨#[]⟩) (Value.slice none 0 0) (Value.int .u32 fl) (Value.int .i64 ex) (Value.int .u64 0) (Value.int .u64 de) (Value.int .u64 ini) (Value.bool mk) (Value.bool false)), (set10_far HK3.out (blk_ne HK3.out HK5.out (by decide)) (Value.int .i64 op) (Value.string ⟨#[]⟩) (Value.slice none 0 0) (Value.int .u32 fl) (Value.int .i64 ex) (Value.int .u64 0) (Value.int .u64 de) (Value.int .u64 ini) (Value.bool mk) (Value.bool false)), set10_below HB3.out (by have := HB2.out.size; omega) (Value.int .i64 op) (Value.string ⟨#[]⟩) (Value.slice none 0 0) (Value.int .u32 fl) (Value.int .i64 ex) (Value.int .u64 0) (Value.int .u64 de) (Value.int .u64 ini) (Value.bool mk) (Value.bool false)⟩ ?_; clear z0 z1 z2 z3 z4 z5 z6 z7 z8 z9 zf0 zf1 zf2 zf3 zf4 zf5 zf6 zf7 zf8 zf9; have HGE := Aside0.mk HB2.out.size; generalize w2.heap.size = g at *)
    | (refine gen_world (fun W' => W'.heap[w3.heap.size]? = some (.cells #[Value.int .i64 op, Value.string ⟨#[]⟩, Value.slice none 0 0, Value.int .u32 fl, Value.int .i64 ex, Value.int .u64 0, Value.int .u64 de, Value.int .u64 ini, Value.bool mk, Value.bool false] 39 (0, 0)) ∧ W'.heap[w.heap.size]? = some (.cells #[Value.slice none 0 0, Value.int .i64 0, Value.string ⟨#[]⟩, Value.int .i64 0, Value.int .u32 0, Value.bool false, Value.bool false, Value.string ⟨#[]⟩, Value.slice none 0 0, Value.slice none 0 0, Value.bool false, Value.string ⟨#[]⟩, Value.int .i64 0, Value.int .i64 0, Value.bool false, Value.int .i64 0] 34 (0, 0)) ∧ W'.heap[w1.heap.size]? = some (.cells #[.int .i64 op, .int .i64 ee, .bool true, .bool false, .bool q] 47 (0, 0)) ∧ Below w.heap.size w W') ⟨blk_new w3 _, blk_alloc HK0.out _, blk_alloc HK3.out _, below_alloc HB3.out _⟩ ?_; have HGE := Aside0.mk HB3.out.size; generalize w3.heap.size = g at *)
  all_goals clear ne0 q0 q1 q2 q3 q4 HK0 HK3 HB3
  all_goals (
    rintro W5 ⟨k5, k0, k3, hB5⟩
    have HK5 := Aside0.mk k5
    have HK0 := Aside0.mk k0
    have HK3 := Aside0.mk k3
    have HB5 := Aside0.mk hB5
    have c5 : W5.cell? ⟨g, 5, none⟩ = some (.int .u64 0) := blk_cell k5 5
    have f5 := blk_frozen k5 5
    have c1 : W5.cell? ⟨g, 1, none⟩ = some (.string ⟨#[]⟩) := blk_cell k5 1
    have f1 := blk_frozen k5 1
    clear k5 k0 k3 hB5
    go_wp2_with (first | (go_at_call 20; refine (HG16.out _ HB5.out).mono ?_; rintro e w' ⟨rfl, ⟨m, rfl⟩⟩; have hcv : (convert 22 9 (.slice AK kk cK)).run Try.prog ((W5.drewN m).setCell ⟨g, 5, none⟩ (Value.int .u64 qq)) = .ok (.string (strOfNums KL)) ((W5.drewN m).setCell ⟨g, 5, none⟩ (Value.int .u64 qq)) := Kd.C_string Try.underlying22 Try.underlying5 Try.underlying9 (C_set_ne (Kd.C_drewN (Kd.C_below HCK.out HB5.out) m) (fun x e => by rw [blk_cell (blk_drewN HK5.out m) 5] at e; cases e)); have j5 := blk_put (cs' := #[Value.int .i64 op, Value.string (strOfNums KL), Value.slice none 0 0, Value.int .u32 fl, Value.int .i64 ex, Value.int .u64 qq, Value.int .u64 de, Value.int .u64 ini, Value.bool mk, Value.bool false]) (blk_put (cs' := #[Value.int .i64 op, Value.string ⟨#[]⟩, Value.slice none 0 0, Value.int .u32 fl, Value.int .i64 ex, Value.int .u64 qq, Value.int .u64 de, Value.int .u64 ini, Value.bool mk, Value.bool false]) (blk_drewN HK5.out m) 5 _ rfl) 1 (Value.string (strOfNums KL)) rfl; have j0 := (blk_far (blk_far (blk_drewN HK0.out m) (p := ⟨g, 5, none⟩) (blk_ne HK0.out HK5.out (by decide)) (Value.int .u64 qq)) (p := ⟨g, 1, none⟩) (blk_ne HK0.out HK5.out (by decide)) (Value.string (strOfNums KL))); have j3 := (blk_far (blk_far (blk_drewN HK3.out m) (p := ⟨g, 5, none⟩) (blk_ne HK3.out HK5.out (by decide)) (Value.int .u64 qq)) (p := ⟨g, 1, none⟩) (blk_ne HK3.out HK5.out (by decide)) (Value.string (strOfNums KL))); have HJ5 := Aside0.mk j5; have HJ0 := Aside0.mk j0; have HJ3 := Aside0.mk j3; have HBW := Aside0.mk (below_set (j := 1) (v := Value.string (strOfNums KL)) (below_set (j := 5) (v := Value.int .u64 qq) (pw_below_drewN HB5.out m) HGE.out) HGE.out); have x3 : (((W5.drewN m).setCell ⟨g, 5, none⟩ (Value.int .u64 qq)).setCell ⟨g, 1, none⟩ (Value.string (strOfNums KL))).cell? ⟨w1.heap.size, 3, none⟩ = some (.bool false) := blk_cell j3 3; have x4 : (((W5.drewN m).setCell ⟨g, 5, none⟩ (Value.int .u64 qq)).setCell ⟨g, 1, none⟩ (Value.string (strOfNums KL))).cell? ⟨w1.heap.size, 4, none⟩ = some (.bool q) := blk_cell j3 4; have y1 : ∀ o : Obj, ((((W5.drewN m).setCell ⟨g, 5, none⟩ (Value.int .u64 qq)).setCell ⟨g, 1, none⟩ (Value.string (strOfNums KL))).alloc o).cell? ⟨g, 1, none⟩ = some (.string (strOfNums KL)) := fun o => blk_cell (blk_alloc j5 o) 1; have y2 : ∀ o o' : Obj, (((((W5.drewN m).setCell ⟨g, 5, none⟩ (Value.int .u64 qq)).setCell ⟨g, 1, none⟩ (Value.string (strOfNums KL))).alloc o).alloc o').cell? ⟨g, 1, none⟩ = some (.string (strOfNums KL)) := fun o o' => blk_cell (blk_alloc (blk_alloc j5 o) o') 1; clear j5 j0 j3))
    refine gen_calls (fun W' => W'.heap[g]? = some (.cells #[Value.int .i64 op, Value.string (strOfNums KL), Value.slice none 0 0, Value.int .u32 fl, Value.int .i64 ex, Value.int .u64 qq, Value.int .u64 de, Value.int .u64 ini, Value.bool mk, Value.bool false] 39 (0, 0)) ∧ W'.heap[w.heap.size]? = some (.cells #[Value.slice none 0 0, Value.int .i64 0, Value.string ⟨#[]⟩, Value.int .i64 0, Value.int .u32 0, Value.bool false, Value.bool false, Value.string ⟨#[]⟩, Value.slice none 0 0, Value.slice none 0 0, Value.bool false, Value.string ⟨#[]⟩, Value.int .i64 0, Value.int .i64 0, Value.bool false, Value.int .i64 0] 34 (0, 0)) ∧ W'.heap[w1.heap.size]? = some (.cells #[.int .i64 op, .int .i64 ee, .bool true, .bool false, .bool q] 47 (0, 0)) ∧ W'.heap[W5.heap.size]? = some (.cells #[.int .i64 2, .string ⟨#[]⟩, .int .i64 cc, .int .u32 oo, .bool q, .bool false, .string ⟨#[]⟩, .slice none 0 0, .slice (some ⟨W5.heap.size + 1, 0, none⟩) 1 1, .bool false] 29 (0, 0)) ∧ W'.heap[W5.heap.size + 1]? = some (.cells #[.string (strOfNums KL)] 9 (0, 0)) ∧ Below w.heap.size w W') ⟨(blk_alloc (blk_alloc HJ5.out _) _), (blk_alloc (blk_alloc HJ0.out _) _), (blk_alloc (blk_alloc HJ3.out _) _), blk_alloc (blk29a _ _ _ _ _ _) _, blkKa _ _ _ _ _ _ _, (below_alloc (below_alloc HBW.out _) _)⟩ ?_
    clear HK5 HK0 HK3 HB5 c5 f5 c1 f1 hcv HJ5 HJ0 HJ3 x4 y1 y2 x3
    generalize W5.heap.size = gf at *
    rintro W8 ⟨k5, k0, k3, k29, kk9, hB8⟩
    have HB8 := Aside0.mk hB8
    have HH := Aside0.mk (And.intro k5 (And.intro k0 (And.intro k3 (And.intro k29 kk9))))
    clear k5 k0 k3 k29 hB8 kk9
    refine (HKy.out W8).mono ?_
    rintro e w9 ⟨rfl, hB⟩
    have k5 := blk_any hB HH.out.1
    have k0 := blk_any hB HH.out.2.1
    have k3 := blk_any hB HH.out.2.2.1
    have k29 := blk_any hB HH.out.2.2.2.1
    have HKK := Aside0.mk (blk_any hB HH.out.2.2.2.2)
    have HB9 := Aside0.mk (below_step HB8.out hB)
    have HK0 := Aside0.mk k0
    obtain ⟨z0, z1, z2, z3, z4, z5, z6, z7, z8, z9⟩ := cells10 k5
    obtain ⟨t0, t1, t2, t3, t4, t5, t6, t7, t8, t9⟩ := cells10_1 k29
    obtain ⟨r0, r1, r2, r3, r4, r5, r6, r7, r8, r9, r10, r11, r12, r13, r14, r15⟩ := cells16_1 k0
    obtain ⟨rf0, rf1, rf2, rf3, rf4, rf5, rf6, rf7, rf8, rf9, rf10, rf11, rf12, rf13, rf14, rf15⟩ := froz16_1 k0
    have x2 : w9.cell? ⟨w1.heap.size, 2, none⟩ = some (.bool true) := blk_cell k3 2
    clear k5 k0 k3 k29 hB
    go_wp2_with fail
    clear z0 z1 z2 z3 z4 z5 z6 z7 z8 z9 t0 t1 t2 t3 t4 t5 t6 t7 t8 t9 r0 r1 r2 r3 r4 r5 r6 r7 r8 r9 r10 r11 r12 r13 r14 r15 rf0 rf1 rf2 rf3 rf4 rf5 rf6 rf7 rf8 rf9 rf10 rf11 rf12 rf13 rf14 rf15 x2
    refine gen_world (fun W' => W'.heap[w9.heap.size]? = some (.cells #[Value.int .i64 op, Value.string (strOfNums KL), Value.slice none 0 0, Value.int .u32 fl, Value.int .i64 ex, Value.int .u64 qq, Value.int .u64 de, Value.int .u64 ini, Value.bool mk, Value.bool false] 39 (0, 0)) ∧ W'.heap[w.heap.size]? = some (.cells #[Value.slice (some ⟨w9.heap.size, 0, none⟩) 1 1, Value.int .i64 2, Value.string ⟨#[]⟩, Value.int .i64 cc, Value.int .u32 oo, Value.bool q, Value.bool false, Value.string ⟨#[]⟩, Value.slice none 0 0, Value.slice (some ⟨gf + 1, 0, none⟩) 1 1, Value.bool false, Value.string ⟨#[]⟩, Value.int .i64 (24 + (z : Int)), Value.int .i64 0, Value.bool false, Value.int .i64 0] 34 (0, 0)) ∧ Below w.heap.size w W' ∧ W'.heap[gf + 1]? = some (.cells #[.string (strOfNums KL)] 9 (0, 0))) ⟨set16_far (blk_new w9 _) (by have := blk_lt HK0.out; omega) (Value.slice (some ⟨w9.heap.size, 0, none⟩) 1 1) (Value.int .i64 2) (Value.string ⟨#[]⟩) (Value.int .i64 cc) (Value.int .u32 oo) (Value.bool q) (Value.bool false) (Value.string ⟨#[]⟩) (Value.slice none 0 0) (Value.slice (some ⟨gf + 1, 0, none⟩) 1 1) (Value.bool false) (Value.string ⟨#[]⟩) (Value.int .i64 (24 + (z : Int))) (Value.int .i64 0) (Value.bool false) (Value.int .i64 0), set16_blk (blk_alloc HK0.out _) (Value.slice (some ⟨w9.heap.size, 0, none⟩) 1 1) (Value.int .i64 2) (Value.string ⟨#[]⟩) (Value.int .i64 cc) (Value.int .u32 oo) (Value.bool q) (Value.bool false) (Value.string ⟨#[]⟩) (Value.slice none 0 0) (Value.slice (some ⟨gf + 1, 0, none⟩) 1 1) (Value.bool false) (Value.string ⟨#[]⟩) (Value.int .i64 (24 + (z : Int))) (Value.int .i64 0) (Value.bool false) (Value.int .i64 0), set16_below (below_alloc HB9.out _) (Nat.le_refl _) (Value.slice (some ⟨w9.heap.size, 0, none⟩) 1 1) (Value.int .i64 2) (Value.string ⟨#[]⟩) (Value.int .i64 cc) (Value.int .u32 oo) (Value.bool q) (Value.bool false) (Value.string ⟨#[]⟩) (Value.slice none 0 0) (Value.slice (some ⟨gf + 1, 0, none⟩) 1 1) (Value.bool false) (Value.string ⟨#[]⟩) (Value.int .i64 (24 + (z : Int))) (Value.int .i64 0) (Value.bool false) (Value.int .i64 0), set16_far (blk_alloc HKK.out _) (blk_ne HKK.out HK0.out (by decide)) (Value.slice (some ⟨w9.heap.size, 0, none⟩) 1 1) (Value.int .i64 2) (Value.string ⟨#[]⟩) (Value.int .i64 cc) (Value.int .u32 oo) (Value.bool q) (Value.bool false) (Value.string ⟨#[]⟩) (Value.slice none 0 0) (Value.slice (some ⟨gf + 1, 0, none⟩) 1 1) (Value.bool false) (Value.string ⟨#[]⟩) (Value.int .i64 (24 + (z : Int))) (Value.int .i64 0) (Value.bool false) (Value.int .i64 0)⟩ ?_
    rintro W10 ⟨kc, kr, hB10, kk10⟩
    refine bodyPost_ret (v := stepV (.slice (some ⟨w9.heap.size, 0, none⟩) 1 1) 2 cc oo q (.slice (some ⟨gf + 1, 0, none⟩) 1 1) ⟨#[]⟩ (24 + (z : Int)) 0) (results_cell_row rfl _ _ w.heap.size 34 _ (0, 0) _ rfl kr Try.underlying34 rfl (by kernel_rfl)) rfl ?_
    exact ⟨_, rfl, ⟨_, _, rfl, ⟨_, none, 0, rfl, kc, Kd.C_nil _ _, Nat.le_refl _⟩, ⟨_, rfl, kk10⟩⟩, hB10⟩)
set_option maxHeartbeats 8000000 in
set_option maxRecDepth 100000 in
theorem rparse_val (A0 : Option Addr) (c0 : Nat) (l0 : List Int) (w : World) (hr0 : Kd.C (Kd.int .u8) w A0 l0.length l0) (hc0 : l0.length ≤ c0) (hb : ∀ x ∈ l0, 0 ≤ x ∧ x ≤ 255) (h : 24 ≤ l0.length) (h1 : rd l0 0 = 128) (hz : be (cut l0 8 12) ≤ 2048) (hw : 24 + be (cut l0 8 12) ≤ (l0.length : Int)) (z kk xx : Nat) (hZ : be (cut l0 8 12) = (z : Int)) (hK : be (cut l0 2 4) = (kk : Int)) (hX : rd l0 4 = (xx : Int)) (op ee : Int) (q : Bool)
    (HOf : Aside0 (∀ W, Calls Try.prog 16 #[.int .i64 (rd l0 1)] W fun e w' => e = .returned (RowV op ee true true q) ∧ Below W.heap.size W w'))
    (HSt : Aside0 (∀ W, Calls Try.prog 21 #[RowV op ee true true q, .int .i64 (xx : Int), .int .i64 (kk : Int), .int .i64 (z : Int)] W fun e w' => e = .returned (.int .i64 0) ∧ Below W.heap.size W w')) (KL : List Int) (AX AK : Option Addr) (cX cK : Nat) (fl ex de ini : Int) (mk : Bool) (hkz : kk ≠ 0) (hcK : kk ≤ cK) (vl : List Int) (AV : Option Addr) (nV cV : Nat)
    (hsX : ∀ W : World, (Instr.slice 22 (.slice A0 l0.length c0) (some (.int .i64 24)) (some (.int .i64 (24 + (xx : Int)))) none).run Try.prog W = .ok (.slice AX xx cX) W)
    (hsK : ∀ W : World, (Instr.slice 22 (.slice A0 l0.length c0) (some (.int .i64 (24 + (xx : Int)))) (some (.int .i64 (24 + (xx : Int) + (kk : Int)))) none).run Try.prog W = .ok (.slice AK kk cK) W)
    (HCm : Aside0 (∀ W, Below w.heap.size w W → Calls Try.prog 23 #[RowV op ee true true q, .slice AX xx cX] W fun e w' => e = .returned (cmdV op ⟨#[]⟩ (.slice none 0 0) fl ex 0 de ini mk) ∧ Below W.heap.size W w'))
    (HCK : Aside0 (Kd.C (Kd.int .u8) w AK kk KL))
    (HKy : Aside0 (∀ W, Calls Try.prog 24 #[.string (strOfNums KL)] W fun e w' => e = .returned (.bool true) ∧ Below W.heap.size W w'))
    (hxz : xx + kk ≤ z)
    (hsV : ∀ W : World, (Instr.slice 22 (.slice A0 l0.length c0) (some (.int .i64 (24 + (xx : Int) + (kk : Int)))) (some (.int .i64 (24 + (z : Int)))) none).run Try.prog W = .ok (.slice AV nV cV) W)
    (HCV : Aside0 (Kd.C (Kd.int .u8) w AV nV vl))
    (HNV : Aside0 (nV ≤ 1000)) :
    Calls Try.prog 12 #[.slice A0 l0.length c0] w fun e w' => ReqPost w ⟨some ⟨op, strOfNums KL, vl, fl, ex, be (cut l0 16 24), de, ini, mk⟩, 2, rd l0 1, be (cut l0 12 16), q, some (strOfNums KL), ⟨#[]⟩, 24 + (z : Int), 0⟩ e w' := by
  have hu34 := Try.underlying34
  have hu31 := Try.underlying31
  have hu29 := Try.underlying29
  have hu39 := Try.underlying39
  have hu47 := Try.underlying47
  have hu22 := Try.underlying22
  have hu25 := Try.underlying25
  have hu27 := Try.underlying27
  obtain ⟨ad, hA, hcell⟩ := Kd.at_int hr0 0 (by omega) (by omega)
  have ha0 : ad.add (0 : Int).toNat = ad := by simp [Addr.add]
  rw [ha0] at hcell
  subst hA
  have hp : (0 : Int) < (l0.length : Int) := by omega
  have hp2 : ((l0.length : Int) == 0) = false := beq_eq_false_iff_ne.mpr (by omega)
  have hcA : ∀ o : Obj, (w.alloc o).cell? ad = some (.int .u8 (rd l0 0)) := fun o => pw_cell_below (below_alloc (Below.refl _ _) o) hcell
  have hx : (rd l0 0 != 128) = false := bne_eq_false_iff_eq.mpr h1
  have hd : decide (l0.length < 24) = false := decide_eq_false (by omega)
  have hd2 : decide ((l0.length : Int) < 24) = false := decide_eq_false (by omega)
  obtain ⟨ad1, hA1, hcell1⟩ := Kd.at_int hr0 1 (by omega) (by omega)
  obtain rfl := Option.some.inj hA1
  rw [show (1 : Int).toNat = 1 from rfl, add_pos ad 1 (by omega)] at hcell1
  have hcc1 : ∀ o : Obj, (w.alloc o).cell? ⟨ad.block, ad.off + 1, none⟩ = some (.int .u8 (rd l0 1)) := fun o => pw_cell_below (below_alloc (Below.refl _ _) o) hcell1
  have hp1 : (1 : Int) < (l0.length : Int) := by omega
  have hv1 := byte_at l0 1 hb
  rw [show rd l0 ((1 : Nat) : Int) = rd l0 1 from rfl] at hv1
  obtain ⟨hv1a, hv1b⟩ := hv1
  obtain ⟨ad4, hA4, hcell4⟩ := Kd.at_int hr0 4 (by omega) (by omega)
  obtain rfl := Option.some.inj hA4
  rw [show (4 : Int).toNat = 4 from rfl, add_pos ad 4 (by omega)] at hcell4
  have hcc4 : ∀ o : Obj, (w.alloc o).cell? ⟨ad.block, ad.off + 4, none⟩ = some (.int .u8 (rd l0 4)) := fun o => pw_cell_below (below_alloc (Below.refl _ _) o) hcell4
  have hp4 : (4 : Int) < (l0.length : Int) := by omega
  have hv4 := byte_at l0 4 hb
  rw [show rd l0 ((4 : Nat) : Int) = rd l0 4 from rfl] at hv4
  obtain ⟨hv4a, hv4b⟩ := hv4
  obtain ⟨A8, hs8, hC8⟩ := cutC (some ad) c0 l0 8 12 (by omega) (by omega) hc0
  replace hs8 : ∀ W : World, (Instr.slice 22 (.slice (some ad) l0.length c0) (some (.int .i64 8)) (some (.int .i64 12)) none).run Try.prog W = .ok (.slice A8 4 (c0 - 8)) W := hs8
  have HG8 := Aside0.mk (fun W hB => rgetC A8 4 (c0 - 8) (cut l0 8 12) (cut_bytes 8 12 hb) (cut_len l0 8 12 (by omega)) (by omega) (by omega) w W hB (hC8 w hr0))
  have hz8 := be_range (cut l0 8 12) (cut_bytes 8 12 hb)
  rw [cut_len l0 8 12 (by omega)] at hz8
  obtain ⟨hy8, hq8⟩ := hz8
  have hx8 : be (cut l0 8 12) < 4294967296 := hq8
  clear hq8 hC8
  obtain ⟨A2, hs2, hC2⟩ := cutC (some ad) c0 l0 2 4 (by omega) (by omega) hc0
  replace hs2 : ∀ W : World, (Instr.slice 22 (.slice (some ad) l0.length c0) (some (.int .i64 2)) (some (.int .i64 4)) none).run Try.prog W = .ok (.slice A2 2 (c0 - 2)) W := hs2
  have HG2 := Aside0.mk (fun W hB => rgetC A2 2 (c0 - 2) (cut l0 2 4) (cut_bytes 2 4 hb) (cut_len l0 2 4 (by omega)) (by omega) (by omega) w W hB (hC2 w hr0))
  have hz2 := be_range (cut l0 2 4) (cut_bytes 2 4 hb)
  rw [cut_len l0 2 4 (by omega)] at hz2
  obtain ⟨hy2, hq2⟩ := hz2
  have hx2 : be (cut l0 2 4) < 65536 := hq2
  clear hq2 hC2
  obtain ⟨A12, hs12, hC12⟩ := cutC (some ad) c0 l0 12 16 (by omega) (by omega) hc0
  replace hs12 : ∀ W : World, (Instr.slice 22 (.slice (some ad) l0.length c0) (some (.int .i64 12)) (some (.int .i64 16)) none).run Try.prog W = .ok (.slice A12 4 (c0 - 12)) W := hs12
  have HG12 := Aside0.mk (fun W hB => rgetC A12 4 (c0 - 12) (cut l0 12 16) (cut_bytes 12 16 hb) (cut_len l0 12 16 (by omega)) (by omega) (by omega) w W hB (hC12 w hr0))
  have hz12 := be_range (cut l0 12 16) (cut_bytes 12 16 hb)
  rw [cut_len l0 12 16 (by omega)] at hz12
  obtain ⟨hy12, hq12⟩ := hz12
  have hx12 : be (cut l0 12 16) < 4294967296 := hq12
  clear hq12 hC12
  obtain ⟨A16, hs16, hC16⟩ := cutC (some ad) c0 l0 16 24 (by omega) (by omega) hc0
  replace hs16 : ∀ W : World, (Instr.slice 22 (.slice (some ad) l0.length c0) (some (.int .i64 16)) (some (.int .i64 24)) none).run Try.prog W = .ok (.slice A16 8 (c0 - 16)) W := hs16
  have HG16 := Aside0.mk (fun W hB => rgetC A16 8 (c0 - 16) (cut l0 16 24) (cut_bytes 16 24 hb) (cut_len l0 16 24 (by omega)) (by omega) (by omega) w W hB (hC16 w hr0))
  have hz16 := be_range (cut l0 16 24) (cut_bytes 16 24 hb)
  rw [cut_len l0 16 24 (by omega)] at hz16
  obtain ⟨hy16, hq16⟩ := hz16
  have hx16 : be (cut l0 16 24) < 18446744073709551616 := hq16
  clear hq16 hC16
  rw [hZ] at HG8 hx8
  rw [hK] at HG2 hx2
  rw [hX] at hcc4 hv4b
  have r1 : decide ((z : Int) > 2048) = false := decide_eq_false (by omega)
  have r2 : decide ((l0.length : Int) < 24 + (z : Int)) = false := decide_eq_false (by omega)
  have w1 : wrap64 (24 + (z : Int)) = 24 + (z : Int) := by clear r1 r2; unfold wrap64; omega
  have w2 : IntKind.u32.wrap (be (cut l0 12 16)) = be (cut l0 12 16) := u32_in _ hy12 hx12
  have w3 : wrap64 (kk : Int) = (kk : Int) := by clear r1 r2 w1 w2; unfold wrap64; omega
  have w4 : wrap64 (rd l0 1) = rd l0 1 := by clear r1 r2 w1 w2 w3; unfold wrap64; omega
  have w5 : wrap64 (xx : Int) = (xx : Int) := by clear r1 r2 w1 w2 w3 w4; unfold wrap64; omega
  have w6 : wrap64 (z : Int) = (z : Int) := by clear r1 r2 w1 w2 w3 w4 w5; unfold wrap64; omega
  have r3 : ((0 : Int) != 0) = false := rfl
  have w7 : wrap64 (24 + (xx : Int)) = 24 + (xx : Int) := by clear r1 r2 r3 w1 w2 w3 w4 w5 w6; unfold wrap64; omega
  have w8 : wrap64 (24 + (xx : Int) + (kk : Int)) = 24 + (xx : Int) + (kk : Int) := by clear r1 r2 r3 w1 w2 w3 w4 w5 w6 w7; unfold wrap64; omega
  have w9 : IntKind.i64.wrap (24 + (xx : Int)) = 24 + (xx : Int) := (i64_w _).trans w7
  have i5 : 24 + (xx : Int) ≤ (l0.length : Int) := by clear r1 r2 r3 w1 w2 w3 w4 w5 w6 w7 w8 w9; omega
  have i6 : 24 + (xx : Int) + (kk : Int) ≤ (l0.length : Int) := by clear r1 r2 r3 w1 w2 w3 w4 w5 w6 w7 w8 w9; omega
  have i7 : (24 : Int) ≤ 24 + (xx : Int) := by clear r1 r2 r3 w1 w2 w3 w4 w5 w6 w7 w8 w9; omega
  have i8 : 24 + (xx : Int) ≤ 24 + (xx : Int) + (kk : Int) := by clear r1 r2 r3 w1 w2 w3 w4 w5 w6 w7 w8 w9; omega
  have r5 : decide ((kk : Int) > 0) = true := decide_eq_true (by clear r1 r2 r3 w1 w2 w3 w4 w5 w6 w7 w8 w9; omega)
  have r6 : decide (0 < kk) = true := decide_eq_true (by clear r1 r2 r3 r5 w1 w2 w3 w4 w5 w6 w7 w8 w9; omega)
  clear hr0 h1 ha0 hcell hcell1 hcell4 hb hZ hK hX hz hw hx8 hx2 hx12 hx16 hy8 hy2 hy12 hy16 hv1a hv1b hv4a hv4b hkz hxz hcK
  generalize rd l0 1 = cc at *
  generalize be (cut l0 12 16) = oo at *
  generalize be (cut l0 16 24) = qq at *
  generalize rd l0 0 = y at *
  generalize l0.length = n0 at *
  unfold RowV at HOf HSt HCm
  unfold cmdV at HCm
  go_enter Try.func12, Try.ntmps12
  go_wp2_with (first | (go_at_call 20; (with_reducible refine (HG8.out _ ?_).mono ?_); (repeat (with_reducible first | exact Below.refl _ _ | apply below_alloc | apply below_drew | apply pw_below_drewN | refine below_set ?_ (by omega))); rintro e w' ⟨rfl, ⟨m, rfl⟩⟩) | (go_at_call 20; (with_reducible refine (HG2.out _ ?_).mono ?_); (repeat (with_reducible first | exact Below.refl _ _ | apply below_alloc | apply below_drew | apply pw_below_drewN | refine below_set ?_ (by omega))); rintro e w' ⟨rfl, ⟨m, rfl⟩⟩) | (go_at_call 20; (with_reducible refine (HG12.out _ ?_).mono ?_); (repeat (with_reducible first | exact Below.refl _ _ | apply below_alloc | apply below_drew | apply pw_below_drewN | refine below_set ?_ (by omega))); rintro e w' ⟨rfl, ⟨m, rfl⟩⟩))
  refine (HOf.out _).mono ?_
  rintro e w1 ⟨rfl, hB⟩
  have HK0 := Aside0.mk (blk_any hB (by first | exact blk_drewN (blk_new w _) _ | exact blk_new w _ : _ = some (.cells #[Value.slice none 0 0, Value.int .i64 0, Value.string ⟨#[]⟩, Value.int .i64 0, Value.int .u32 0, Value.bool false, Value.bool false, Value.string ⟨#[]⟩, Value.slice none 0 0, Value.slice none 0 0, Value.bool false, Value.string ⟨#[]⟩, Value.int .i64 0, Value.int .i64 0, Value.bool false, Value.int .i64 0] 34 (0, 0))))
  have HB1 := Aside0.mk (below_step (show Below w.heap.size w _ from by repeat (with_reducible first | exact Below.refl _ _ | apply below_alloc | apply below_drew | apply pw_below_drewN | refine below_set ?_ (by omega))) hB)
  clear hB hcc1 hcc4 HG2 HG8 HG12 HOf hx hd hd2 r1 r2 w2 w4
  go_wp2_with fail
  refine (HSt.out _).mono ?_
  rintro e w2 ⟨rfl, hB⟩
  have k0 := blk_any hB (blk_alloc HK0.out _)
  have k3 := blk_any hB (blk_new w1 _)
  have HB2 := Aside0.mk (below_step (below_alloc HB1.out _) hB)
  clear hB HK0 HB1 HSt
  have HK0 := Aside0.mk k0
  have HK3 := Aside0.mk k3
  obtain ⟨q0, q1, q2, q3, q4⟩ := cells5 k3
  clear k0 k3
  go_wp2_with fail
  have ne0 : w2.heap.size ≠ w1.heap.size := World.new_ne w2 ⟨w1.heap.size, 0, none⟩ q0
  go_region_held3 (fun w' => w'.cell? ⟨w1.heap.size, 0, none⟩ = some (.int .i64 op) ∧ w'.cell? ⟨w1.heap.size, 1, none⟩ = some (.int .i64 ee) ∧ w'.cell? ⟨w1.heap.size, 2, none⟩ = some (.bool true) ∧ w'.cell? ⟨w1.heap.size, 3, none⟩ = some (.bool true) ∧ w'.cell? ⟨w1.heap.size, 4, none⟩ = some (.bool q)) (go_keep)
    ((first | (go_at_call 23; (with_reducible refine (HCm.out _ ?_).mono ?_); (repeat (with_reducible first | exact HB2.out | apply below_alloc | apply below_drew | apply pw_below_drewN | refine below_set ?_ (by omega))); rintro e w3 ⟨rfl, hB⟩; have k0 := blk_any hB (by first | exact HK0.out | exact blk_drewN HK0.out _ | exact blk_drew HK0.out); have k3 := blk_any hB (by first | exact HK3.out | exact blk_drewN HK3.out _ | exact blk_drew HK3.out); have HB3 := Aside0.mk (below_step (show Below w.heap.size w _ from by repeat (with_reducible first | exact HB2.out | apply below_alloc | apply below_drew | apply pw_below_drewN | refine below_set ?_ (by omega))) hB); clear q0 q1 q2 q3 q4; have HK0 := Aside0.mk k0; have HK3 := Aside0.mk k3; obtain ⟨q0, q1, q2, q3, q4⟩ := cells5 k3; clear k0 k3 hB) | (go_at_call 23; (with_reducible refine (HCm.out _ ?_).mono ?_); (repeat (with_reducible first | exact HB2.out | apply below_alloc | apply below_drew | apply pw_below_drewN | refine below_set ?_ (by omega))); rintro e w3 ⟨rfl, hB⟩; have k0 := blk_any hB (by first | exact blk_drewN (blk_alloc HK0.out _) _ | exact blk_alloc HK0.out _ | exact blk_alloc (blk_drewN HK0.out _) _); have k3 := blk_any hB (by first | exact blk_drewN (blk_alloc HK3.out _) _ | exact blk_alloc HK3.out _ | exact blk_alloc (blk_drewN HK3.out _) _); have HB3 := Aside0.mk (below_step (show Below w.heap.size w _ from by repeat (with_reducible first | exact HB2.out | apply below_alloc | apply below_drew | apply pw_below_drewN | refine below_set ?_ (by omega))) hB); clear q0 q1 q2 q3 q4; have HK0 := Aside0.mk k0; have HK3 := Aside0.mk k3; obtain ⟨q0, q1, q2, q3, q4⟩ := cells5 k3; have k5 := blk_any hB (by first | exact blk_drewN (blk_new w2 (.cells #[.int .i64 0, .string ⟨#[]⟩, .slice none 0 0, .int .u32 0, .int .i64 0, .int .u64 0, .int .u64 0, .int .u64 0, .bool false, .bool false] 39)) _ | exact blk_new w2 (.cells #[.int .i64 0, .string ⟨#[]⟩, .slice none 0 0, .int .u32 0, .int .i64 0, .int .u64 0, .int .u64 0, .int .u64 0, .bool false, .bool false] 39)); have HK5 := Aside0.mk k5; obtain ⟨z0, z1, z2, z3, z4, z5, z6, z7, z8, z9⟩ := cells10 k5; obtain ⟨zf0, zf1, zf2, zf3, zf4, zf5, zf6, zf7, zf8, zf9⟩ := froz10 k5; clear k5; clear k0 k3 hB)))
  all_goals first
    | (refine gen_world (fun W' => W'.heap[w2.heap.size]? = some (.cells #[Value.int .i64 op, Value.string ⟨#[]⟩, Value.slice none 0 0, Value.int .u32 fl, Value.int .i64 ex, Value.int .u64 0, Value.int .u64 de, Value.int .u64 ini, Value.bool mk, Value.bool false] 39 (0, 0)) ∧ W'.heap[w.heap.size]? = some (.cells #[Value.slice none 0 0, Value.int .i64 0, Value.string ⟨#[]⟩, Value.int .i64 0, Value.int .u32 0, Value.bool false, Value.bool false, Value.string ⟨#[]⟩, Value.slice none 0 0, Value.slice none 0 0, Value.bool false, Value.string ⟨#[]⟩, Value.int .i64 0, Value.int .i64 0, Value.bool false, Value.int .i64 0] 34 (0, 0)) ∧ W'.heap[w1.heap.size]? = some (.cells #[.int .i64 op, .int .i64 ee, .bool true, .bool true, .bool q] 47 (0, 0)) ∧ Below w.heap.size w W') ⟨set10_blk HK5.out (Value.int .i64 op) (Value.string ⟨#[]⟩) (Value.slice none 0 0) (Value.int .u32 fl) (Value.int .i64 ex) (Value.int .u64 0) (Value.int .u64 de) (Value.int .u64 ini) (Value.bool mk) (Value.bool false), (set10_far HK0.out (blk_ne HK0.out HK5.out (by decide)) (Value.int .i64 op) (Value.string ⟨#[]⟩) (Value.slice none 0 0) (Value.int .u32 fl) (Value.int .i64 ex) (Value.int .u64 0) (Value.int .u64 de) (Value.int .u64 ini) (Value.bool mk) (Value.bool false)), (set10_far HK3.out (blk_ne HK3.out HK5.out (by decide)) (Value.int .i64 op) (Value.string ⟨#[]⟩) (Value.slice none 0 0) (Value.int .u32 fl) (Value.int .i64 ex) (Value.int .u64 0) (Value.int .u64 de) (Value.int .u64 ini) (Value.bool mk) (Value.bool false)), set10_below HB3.out (by have := HB2.out.size; omega) (Value.int .i64 op) (Value.string ⟨#[]⟩) (Value.slice none 0 0) (Value.int .u32 fl) (Value.int .i64 ex) (Value.int .u64 0) (Value.int .u64 de) (Value.int .u64 ini) (Value.bool mk) (Value.bool false)⟩ ?_; clear z0 z1 z2 z3 z4 z5 z6 z7 z8 z9 zf0 zf1 zf2 zf3 zf4 zf5 zf6 zf7 zf8 zf9; have HGE := Aside0.mk HB2.out.size; generalize w2.heap.size = g at *)
    | (refine gen_world (fun W' => W'.heap[w3.heap.size]? = some (.cells #[Value.int .i64 op, Value.string ⟨#[]⟩, Value.slice none 0 0, Value.int .u32 fl, Value.int .i64 ex, Value.int .u64 0, Value.int .u64 de, Value.int .u64 ini, Value.bool mk, Value.bool false] 39 (0, 0)) ∧ W'.heap[w.heap.size]? = some (.cells #[Value.slice none 0 0, Value.int .i64 0, Value.string ⟨#[]⟩, Value.int .i64 0, Value.int .u32 0, Value.bool false, Value.bool false, Value.string ⟨#[]⟩, Value.slice none 0 0, Value.slice none 0 0, Value.bool false, Value.string ⟨#[]⟩, Value.int .i64 0, Value.int .i64 0, Value.bool false, Value.int .i64 0] 34 (0, 0)) ∧ W'.heap[w1.heap.size]? = some (.cells #[.int .i64 op, .int .i64 ee, .bool true, .bool true, .bool q] 47 (0, 0)) ∧ Below w.heap.size w W') ⟨blk_new w3 _, blk_alloc HK0.out _, blk_alloc HK3.out _, below_alloc HB3.out _⟩ ?_; have HGE := Aside0.mk HB3.out.size; generalize w3.heap.size = g at *)
  all_goals clear ne0 q0 q1 q2 q3 q4 HK0 HK3 HB3
  all_goals (
    rintro W5 ⟨k5, k0, k3, hB5⟩
    have HK5 := Aside0.mk k5
    have HK0 := Aside0.mk k0
    have HK3 := Aside0.mk k3
    have HB5 := Aside0.mk hB5
    have c5 : W5.cell? ⟨g, 5, none⟩ = some (.int .u64 0) := blk_cell k5 5
    have f5 := blk_frozen k5 5
    have c1 : W5.cell? ⟨g, 1, none⟩ = some (.string ⟨#[]⟩) := blk_cell k5 1
    have f1 := blk_frozen k5 1
    clear k5 k0 k3 hB5
    go_wp2_with (first | (go_at_call 20; refine (HG16.out _ HB5.out).mono ?_; rintro e w' ⟨rfl, ⟨m, rfl⟩⟩; have hcv : (convert 22 9 (.slice AK kk cK)).run Try.prog ((W5.drewN m).setCell ⟨g, 5, none⟩ (Value.int .u64 qq)) = .ok (.string (strOfNums KL)) ((W5.drewN m).setCell ⟨g, 5, none⟩ (Value.int .u64 qq)) := Kd.C_string Try.underlying22 Try.underlying5 Try.underlying9 (C_set_ne (Kd.C_drewN (Kd.C_below HCK.out HB5.out) m) (fun x e => by rw [blk_cell (blk_drewN HK5.out m) 5] at e; cases e)); have j5 := blk_put (cs' := #[Value.int .i64 op, Value.string (strOfNums KL), Value.slice none 0 0, Value.int .u32 fl, Value.int .i64 ex, Value.int .u64 qq, Value.int .u64 de, Value.int .u64 ini, Value.bool mk, Value.bool false]) (blk_put (cs' := #[Value.int .i64 op, Value.string ⟨#[]⟩, Value.slice none 0 0, Value.int .u32 fl, Value.int .i64 ex, Value.int .u64 qq, Value.int .u64 de, Value.int .u64 ini, Value.bool mk, Value.bool false]) (blk_drewN HK5.out m) 5 _ rfl) 1 (Value.string (strOfNums KL)) rfl; have j0 := (blk_far (blk_far (blk_drewN HK0.out m) (p := ⟨g, 5, none⟩) (blk_ne HK0.out HK5.out (by decide)) (Value.int .u64 qq)) (p := ⟨g, 1, none⟩) (blk_ne HK0.out HK5.out (by decide)) (Value.string (strOfNums KL))); have j3 := (blk_far (blk_far (blk_drewN HK3.out m) (p := ⟨g, 5, none⟩) (blk_ne HK3.out HK5.out (by decide)) (Value.int .u64 qq)) (p := ⟨g, 1, none⟩) (blk_ne HK3.out HK5.out (by decide)) (Value.string (strOfNums KL))); have HJ5 := Aside0.mk j5; have HJ0 := Aside0.mk j0; have HJ3 := Aside0.mk j3; have HBW := Aside0.mk (below_set (j := 1) (v := Value.string (strOfNums KL)) (below_set (j := 5) (v := Value.int .u64 qq) (pw_below_drewN HB5.out m) HGE.out) HGE.out); have d2 : (((W5.drewN m).setCell ⟨g, 5, none⟩ (Value.int .u64 qq)).setCell ⟨g, 1, none⟩ (Value.string (strOfNums KL))).cell? ⟨w1.heap.size, 3, none⟩ = some (.bool true) := blk_cell j3 3; clear j5 j0 j3) | ((with_reducible refine gate_builtin (b := .append) (xs := #[.const (.slice none 0 0), .tmp 103]) rfl ?_); at_builtin; refine Kd.R_append_rows (Kd.int .u8) (w0 := _) _ rfl (.const (.slice none 0 0)) (.tmp 103) 22 5 (.int .u8 0) 1 rfl Try.underlying22 infoR rfl (by decide) (by omega) (.slice none 0 0) ([] : List Int) vl _ _ _ (fun _ => True) (fun _ => False) rfl rfl (Kd.R_nil _ _ _ _ _) (Kd.C_below HCV.out HBW.out) (fun _ _ h => h) (fun _ h => h.elim) (fun _ _ => trivial) (Below.refl _ _) (Nat.le_refl _) (by have := HNV.out; simp only [List.length_nil]; omega) ?_; intro v7 W7 hR hB _ _; rw [List.nil_append] at hR; obtain ⟨B, cB, hv, hle, hC⟩ := Kd.R_reads hR; subst hv; have HV := Aside0.mk (And.intro hR hle); have k5 := blk_any hB HJ5.out; have k0 := blk_any hB HJ0.out; have k3 := blk_any hB HJ3.out; have HK7 := Aside0.mk k5; have HBW7 := Aside0.mk (below_step HBW.out hB); have dd2 := blk_cell k5 2; have ee2 : W7.cell? ⟨g, 2, none⟩ = some (.slice none 0 0) := dd2; have ff2 := blk_frozen k5 2; have j5 := blk_put (cs' := #[Value.int .i64 op, Value.string (strOfNums KL), Value.slice B vl.length cB, Value.int .u32 fl, Value.int .i64 ex, Value.int .u64 qq, Value.int .u64 de, Value.int .u64 ini, Value.bool mk, Value.bool false]) k5 2 (Value.slice B vl.length cB) rfl; have j0 := (blk_far k0 (p := ⟨g, 2, none⟩) (blk_ne k0 k5 (by decide)) (Value.slice B vl.length cB)); have j3 := (blk_far k3 (p := ⟨g, 2, none⟩) (blk_ne k3 k5 (by decide)) (Value.slice B vl.length cB)); have HJ5 := Aside0.mk j5; have HJ0 := Aside0.mk j0; have HJ3 := Aside0.mk j3; have HBW := Aside0.mk (below_set (j := 2) (v := Value.slice B vl.length cB) HBW7.out HGE.out); have x4 : (W7.setCell ⟨g, 2, none⟩ (Value.slice B vl.length cB)).cell? ⟨w1.heap.size, 4, none⟩ = some (.bool q) := blk_cell j3 4; have y1 : ∀ o : Obj, ((W7.setCell ⟨g, 2, none⟩ (Value.slice B vl.length cB)).alloc o).cell? ⟨g, 1, none⟩ = some (.string (strOfNums KL)) := fun o => blk_cell (blk_alloc j5 o) 1; have y2 : ∀ o o' : Obj, (((W7.setCell ⟨g, 2, none⟩ (Value.slice B vl.length cB)).alloc o).alloc o').cell? ⟨g, 1, none⟩ = some (.string (strOfNums KL)) := fun o o' => blk_cell (blk_alloc (blk_alloc j5 o) o') 1; clear d2 dd2 k5 k0 k3 j5 j0 j3 hR hB hC hle))
    refine gen_calls (fun W' => W'.heap[g]? = some (.cells #[Value.int .i64 op, Value.string (strOfNums KL), Value.slice B vl.length cB, Value.int .u32 fl, Value.int .i64 ex, Value.int .u64 qq, Value.int .u64 de, Value.int .u64 ini, Value.bool mk, Value.bool false] 39 (0, 0)) ∧ W'.heap[w.heap.size]? = some (.cells #[Value.slice none 0 0, Value.int .i64 0, Value.string ⟨#[]⟩, Value.int .i64 0, Value.int .u32 0, Value.bool false, Value.bool false, Value.string ⟨#[]⟩, Value.slice none 0 0, Value.slice none 0 0, Value.bool false, Value.string ⟨#[]⟩, Value.int .i64 0, Value.int .i64 0, Value.bool false, Value.int .i64 0] 34 (0, 0)) ∧ W'.heap[w1.heap.size]? = some (.cells #[.int .i64 op, .int .i64 ee, .bool true, .bool true, .bool q] 47 (0, 0)) ∧ W'.heap[W7.heap.size]? = some (.cells #[.int .i64 2, .string ⟨#[]⟩, .int .i64 cc, .int .u32 oo, .bool q, .bool false, .string ⟨#[]⟩, .slice none 0 0, .slice (some ⟨W7.heap.size + 1, 0, none⟩) 1 1, .bool false] 29 (0, 0)) ∧ W'.heap[W7.heap.size + 1]? = some (.cells #[.string (strOfNums KL)] 9 (0, 0)) ∧ Below w.heap.size w W' ∧ Kd.R (Kd.int .u8) 5 W' _ (fun _ => True) (.slice B vl.length cB) vl) ⟨(blk_alloc (blk_alloc HJ5.out _) _), (blk_alloc (blk_alloc HJ0.out _) _), (blk_alloc (blk_alloc HJ3.out _) _), blk_alloc (blk29v _ _ _ _) _, blkKv _ _ _ _ _, (below_alloc (below_alloc HBW.out _) _), (Kd.R_alloc (Kd.R_alloc (Kd.R_set HV.out.1 HK7.out (fun q hq => by simp [Kd.int, Kd.scalar] at hq; omega) 2 (Value.slice B vl.length cB)) _) _)⟩ ?_
    clear HK5 HK0 HK3 HB5 c5 f5 c1 f1 hcv HJ5 HJ0 HJ3 x4 y1 y2 ee2 ff2
    generalize W7.heap.size = gf at *
    rintro W8 ⟨k5, k0, k3, k29, kk9, hB8, hR8⟩
    have HB8 := Aside0.mk hB8
    have HH := Aside0.mk (And.intro k5 (And.intro k0 (And.intro k3 (And.intro k29 kk9))))
    have HR8 := Aside0.mk hR8
    clear k5 k0 k3 k29 hB8 kk9 hR8
    refine (HKy.out W8).mono ?_
    rintro e w9 ⟨rfl, hB⟩
    have k5 := blk_any hB HH.out.1
    have k0 := blk_any hB HH.out.2.1
    have k3 := blk_any hB HH.out.2.2.1
    have k29 := blk_any hB HH.out.2.2.2.1
    have HKK := Aside0.mk (blk_any hB HH.out.2.2.2.2)
    have HR9 := Aside0.mk (Kd.R_below HR8.out hB)
    have HB9 := Aside0.mk (below_step HB8.out hB)
    have HK0 := Aside0.mk k0
    obtain ⟨z0, z1, z2, z3, z4, z5, z6, z7, z8, z9⟩ := cells10 k5
    obtain ⟨t0, t1, t2, t3, t4, t5, t6, t7, t8, t9⟩ := cells10_1 k29
    obtain ⟨r0, r1, r2, r3, r4, r5, r6, r7, r8, r9, r10, r11, r12, r13, r14, r15⟩ := cells16_1 k0
    obtain ⟨rf0, rf1, rf2, rf3, rf4, rf5, rf6, rf7, rf8, rf9, rf10, rf11, rf12, rf13, rf14, rf15⟩ := froz16_1 k0
    have x2 : w9.cell? ⟨w1.heap.size, 2, none⟩ = some (.bool true) := blk_cell k3 2
    clear k5 k0 k3 k29 hB
    go_wp2_with fail
    clear z0 z1 z2 z3 z4 z5 z6 z7 z8 z9 t0 t1 t2 t3 t4 t5 t6 t7 t8 t9 r0 r1 r2 r3 r4 r5 r6 r7 r8 r9 r10 r11 r12 r13 r14 r15 rf0 rf1 rf2 rf3 rf4 rf5 rf6 rf7 rf8 rf9 rf10 rf11 rf12 rf13 rf14 rf15 x2
    refine gen_world (fun W' => W'.heap[w9.heap.size]? = some (.cells #[Value.int .i64 op, Value.string (strOfNums KL), Value.slice B vl.length cB, Value.int .u32 fl, Value.int .i64 ex, Value.int .u64 qq, Value.int .u64 de, Value.int .u64 ini, Value.bool mk, Value.bool false] 39 (0, 0)) ∧ W'.heap[w.heap.size]? = some (.cells #[Value.slice (some ⟨w9.heap.size, 0, none⟩) 1 1, Value.int .i64 2, Value.string ⟨#[]⟩, Value.int .i64 cc, Value.int .u32 oo, Value.bool q, Value.bool false, Value.string ⟨#[]⟩, Value.slice none 0 0, Value.slice (some ⟨gf + 1, 0, none⟩) 1 1, Value.bool false, Value.string ⟨#[]⟩, Value.int .i64 (24 + (z : Int)), Value.int .i64 0, Value.bool false, Value.int .i64 0] 34 (0, 0)) ∧ Below w.heap.size w W' ∧ W'.heap[gf + 1]? = some (.cells #[.string (strOfNums KL)] 9 (0, 0)) ∧ Kd.R (Kd.int .u8) 5 W' _ (fun _ => True) (.slice B vl.length cB) vl) ⟨set16_far (blk_new w9 _) (by have := blk_lt HK0.out; omega) (Value.slice (some ⟨w9.heap.size, 0, none⟩) 1 1) (Value.int .i64 2) (Value.string ⟨#[]⟩) (Value.int .i64 cc) (Value.int .u32 oo) (Value.bool q) (Value.bool false) (Value.string ⟨#[]⟩) (Value.slice none 0 0) (Value.slice (some ⟨gf + 1, 0, none⟩) 1 1) (Value.bool false) (Value.string ⟨#[]⟩) (Value.int .i64 (24 + (z : Int))) (Value.int .i64 0) (Value.bool false) (Value.int .i64 0), set16_blk (blk_alloc HK0.out _) (Value.slice (some ⟨w9.heap.size, 0, none⟩) 1 1) (Value.int .i64 2) (Value.string ⟨#[]⟩) (Value.int .i64 cc) (Value.int .u32 oo) (Value.bool q) (Value.bool false) (Value.string ⟨#[]⟩) (Value.slice none 0 0) (Value.slice (some ⟨gf + 1, 0, none⟩) 1 1) (Value.bool false) (Value.string ⟨#[]⟩) (Value.int .i64 (24 + (z : Int))) (Value.int .i64 0) (Value.bool false) (Value.int .i64 0), set16_below (below_alloc HB9.out _) (Nat.le_refl _) (Value.slice (some ⟨w9.heap.size, 0, none⟩) 1 1) (Value.int .i64 2) (Value.string ⟨#[]⟩) (Value.int .i64 cc) (Value.int .u32 oo) (Value.bool q) (Value.bool false) (Value.string ⟨#[]⟩) (Value.slice none 0 0) (Value.slice (some ⟨gf + 1, 0, none⟩) 1 1) (Value.bool false) (Value.string ⟨#[]⟩) (Value.int .i64 (24 + (z : Int))) (Value.int .i64 0) (Value.bool false) (Value.int .i64 0), set16_far (blk_alloc HKK.out _) (blk_ne HKK.out HK0.out (by decide)) (Value.slice (some ⟨w9.heap.size, 0, none⟩) 1 1) (Value.int .i64 2) (Value.string ⟨#[]⟩) (Value.int .i64 cc) (Value.int .u32 oo) (Value.bool q) (Value.bool false) (Value.string ⟨#[]⟩) (Value.slice none 0 0) (Value.slice (some ⟨gf + 1, 0, none⟩) 1 1) (Value.bool false) (Value.string ⟨#[]⟩) (Value.int .i64 (24 + (z : Int))) (Value.int .i64 0) (Value.bool false) (Value.int .i64 0), R_set16 (Kd.R_alloc HR9.out _) (blk_alloc HK0.out _) (fun q hq => by simp [Kd.int, Kd.scalar] at hq; omega) (Value.slice (some ⟨w9.heap.size, 0, none⟩) 1 1) (Value.int .i64 2) (Value.string ⟨#[]⟩) (Value.int .i64 cc) (Value.int .u32 oo) (Value.bool q) (Value.bool false) (Value.string ⟨#[]⟩) (Value.slice none 0 0) (Value.slice (some ⟨gf + 1, 0, none⟩) 1 1) (Value.bool false) (Value.string ⟨#[]⟩) (Value.int .i64 (24 + (z : Int))) (Value.int .i64 0) (Value.bool false) (Value.int .i64 0)⟩ ?_
    rintro W10 ⟨kc, kr, hB10, kk10, hR10⟩
    refine bodyPost_ret (v := stepV (.slice (some ⟨w9.heap.size, 0, none⟩) 1 1) 2 cc oo q (.slice (some ⟨gf + 1, 0, none⟩) 1 1) ⟨#[]⟩ (24 + (z : Int)) 0) (results_cell_row rfl _ _ w.heap.size 34 _ (0, 0) _ rfl kr Try.underlying34 rfl (by kernel_rfl)) rfl ?_
    have hCC := (Kd.R_reads' hR10).2.2
    exact ⟨_, rfl, ⟨_, _, rfl, ⟨_, B, cB, rfl, kc, hCC, HV.out.2⟩, ⟨_, rfl, kk10⟩⟩, hB10⟩)
theorem rcmd_w (op ee : Int) (b1 b2 q : Bool) (A : Option Addr) (c : Nat) (x : List Int) (w : World) (h : (ee = 8 ∧ x.length = 8) ∨ (ee = 20 ∧ x.length = 20) ∨ ((ee ≠ 8 ∧ ee ≠ 20) ∧ (x.length = 0 ∨ x.length = 4))) (hb : ∀ y ∈ x, 0 ≤ y ∧ y ≤ 255) (hC : Kd.C (Kd.int .u8) w A x.length x) (hc : x.length ≤ c) : Calls Try.prog 23 #[RowV op ee b1 b2 q, .slice A x.length c] w (CmdPost op x w) := by
  rcases h with ⟨rfl, hl⟩ | ⟨rfl, hl⟩ | ⟨he, hl | hl⟩
  · exact rcmd_eight op b1 b2 q A c x w hl hb hC hc
  · exact rcmd_twenty op b1 b2 q A c x w hl hb hC hc
  · exact rcmd_none op ee b1 b2 q A c x w hl hb hC hc he
  · exact rcmd_four op ee b1 b2 q A c x w hl hb hC hc he
theorem cut_cut (l : List Int) (z a b : Nat) (h : b ≤ z) : cut (cut l 24 (24 + z)) a b = cut l (24 + a) (24 + b) := by
  apply List.ext_getElem?
  intro i
  unfold cut
  simp only [List.getElem?_drop, List.getElem?_take]
  by_cases h1 : a + i < b
  · rw [if_pos h1, if_pos (by omega), if_pos (by omega), show 24 + (a + i) = 24 + a + i by omega]
  · rw [if_neg h1, if_neg (by omega)]
theorem take_cut (l : List Int) (z b : Nat) (h : b ≤ z) : (cut l 24 (24 + z)).take b = cut l 24 (24 + b) := by
  have := cut_cut l z 0 b h
  rw [Nat.add_zero] at this
  rw [← this]
  simp [cut]
theorem drop_cut (l : List Int) (z a : Nat) (hz : 24 + z ≤ l.length) : (cut l 24 (24 + z)).drop a = cut l (24 + a) (24 + z) := by
  have := cut_cut l z a z (Nat.le_refl _)
  rw [← this]
  show _ = ((cut l 24 (24 + z)).take z).drop a
  rw [List.take_of_length_le (by rw [cut_len _ _ _ hz]; omega)]
/-- A packet's request, by its status. -/
theorem reqS_stat (code opq cas : Int) (x k : Nat) (body : List Int) : (statN (plainC (loudC code).1) body.length x k ≠ 0 → reqS code opq cas x k body = badS (strOfNums (faultL code (statN (plainC (loudC code).1) body.length x k) opq)) (24 + (body.length : Int)) 2) ∧
    (statN (plainC (loudC code).1) body.length x k = 0 → ∃ r, plainC (loudC code).1 = some r ∧ fitsB body.length x k r.2.1 r.2.2 = true ∧ ¬ ((r.2.2 = 1 ∨ r.2.2 = 3) ∧ ¬ (1 ≤ k ∧ k ≤ 250)) ∧ ¬ x + k + 1000 < body.length ∧
      reqS code opq cas x k body = ⟨some ⟨r.1, strOfNums (cut body x (x + k)), if r.2.2 = 3 then body.drop (x + k) else [], (exOf (body.take x)).flags, (exOf (body.take x)).exp, cas, (exOf (body.take x)).delta, (exOf (body.take x)).init, (exOf (body.take x)).makes⟩, 2, code, opq, (loudC code).2, if k = 0 then none else some (strOfNums (cut body x (x + k))), ⟨#[]⟩, 24 + (body.length : Int), 0⟩) := by
  unfold reqS statN
  cases plainC (loudC code).1 with
  | none => exact ⟨fun _ => rfl, fun h => absurd (show (129 : Int) = 0 from h) (by decide)⟩
  | some r =>
    simp only
    by_cases hf : fitsB body.length x k r.2.1 r.2.2 = false
    · rw [if_pos hf, if_pos hf]; exact ⟨fun _ => rfl, fun h => absurd (show (4 : Int) = 0 from h) (by decide)⟩
    · rw [if_neg hf, if_neg hf]
      by_cases hbk : (r.2.2 = 1 ∨ r.2.2 = 3) ∧ ¬ (1 ≤ k ∧ k ≤ 250)
      · rw [if_pos hbk, if_pos hbk]; exact ⟨fun _ => rfl, fun h => absurd (show (4 : Int) = 0 from h) (by decide)⟩
      · rw [if_neg hbk, if_neg hbk]
        by_cases hlg : x + k + 1000 < body.length
        · rw [if_pos hlg, if_pos hlg]; exact ⟨fun _ => rfl, fun h => absurd (show (3 : Int) = 0 from h) (by decide)⟩
        · rw [if_neg hlg, if_neg hlg]
          exact ⟨fun h => absurd rfl h, fun _ => ⟨r, rfl, by simpa using hf, hbk, hlg, rfl⟩⟩
theorem stat_range (o : Option (Int × Int × Int)) (n x k : Nat) : 0 ≤ statN o n x k ∧ statN o n x k < 256 := by
  unfold statN
  split
  · decide
  · repeat' split
    all_goals omega
theorem rparse_w (A0 : Option Addr) (c0 : Nat) (l0 : List Int) (w : World) (hr0 : Kd.C (Kd.int .u8) w A0 l0.length l0) (hc0 : l0.length ≤ c0) (hb : ∀ x ∈ l0, 0 ≤ x ∧ x ≤ 255) (hn : l0.length ≤ 1000000) :
    Calls Try.prog 12 #[.slice A0 l0.length c0] w fun e w' => ReqPost w (parseS l0) e w' := by
  by_cases hwh : Whole l0
  · rw [parse_whole hwh]
    obtain ⟨g1, g2, g3, g4⟩ := hwh
    have hz0 := be_ok hb 8 12
    have hk0 := be_range (cut l0 2 4) (cut_bytes 2 4 hb)
    rw [cut_len l0 2 4 (by omega), show (256 : Int) ^ (4 - 2) = 65536 from rfl] at hk0
    have ho := be_range (cut l0 12 16) (cut_bytes 12 16 hb)
    rw [cut_len l0 12 16 (by omega), show (256 : Int) ^ (16 - 12) = 4294967296 from rfl] at ho
    have hcd := byte_at l0 1 hb
    rw [show rd l0 ((1 : Nat) : Int) = rd l0 1 from rfl] at hcd
    have hxd := byte_at l0 4 hb
    rw [show rd l0 ((4 : Nat) : Int) = rd l0 4 from rfl] at hxd
    obtain ⟨z, hZ⟩ := Int.eq_ofNat_of_zero_le hz0
    obtain ⟨kk, hK⟩ := Int.eq_ofNat_of_zero_le hk0.1
    obtain ⟨xx, hX⟩ := Int.eq_ofNat_of_zero_le hxd.1
    rw [hZ, hK, hX]
    simp only [Int.toNat_natCast]
    have hbl : (cut l0 24 (24 + z)).length = z := by rw [cut_len _ _ _ (by omega)]; omega
    obtain ⟨hs1, hs2⟩ := reqS_stat (rd l0 1) (be (cut l0 12 16)) (be (cut l0 16 24)) xx kk (cut l0 24 (24 + z))
    rw [hbl] at hs1 hs2
    have hcr := loud_range ⟨(rd l0 1).toNat, by omega⟩
    rw [show (((rd l0 1).toNat : Nat) : Int) = rd l0 1 by omega] at hcr
    have hpk := row_kinds ⟨(loudC (rd l0 1)).1.toNat, by omega⟩
    have hpf := row_flush ⟨(loudC (rd l0 1)).1.toNat, by omega⟩
    rw [show (((loudC (rd l0 1)).1.toNat : Nat) : Int) = (loudC (rd l0 1)).1 by omega] at hpk hpf
    have hst := status_eq (plainC (loudC (rd l0 1)).1) (loudC (rd l0 1)).2 z xx kk (by omega) (by omega) (by omega) (fun r hr => by
      have h1 := hpk r hr
      have h2 := hpf r hr
      exact ⟨by omega, h1.2.2.1, h2.1, h2.2⟩)
    have HOf : Aside0 (∀ W, Calls Try.prog 16 #[.int .i64 (rd l0 1)] W fun e w' => e = .returned (RowV (refRow (plainC (loudC (rd l0 1)).1)).1 (refRow (plainC (loudC (rd l0 1)).1)).2.1 (refRow (plainC (loudC (rd l0 1)).1)).2.2.1 (refRow (plainC (loudC (rd l0 1)).1)).2.2.2 (loudC (rd l0 1)).2) ∧ Below W.heap.size W w') := ⟨fun W => of_w (rd l0 1) hcd.1 hcd.2 W⟩
    have HSt : Aside0 (∀ W, Calls Try.prog 21 #[RowV (refRow (plainC (loudC (rd l0 1)).1)).1 (refRow (plainC (loudC (rd l0 1)).1)).2.1 (refRow (plainC (loudC (rd l0 1)).1)).2.2.1 (refRow (plainC (loudC (rd l0 1)).1)).2.2.2 (loudC (rd l0 1)).2, .int .i64 (xx : Int), .int .i64 (kk : Int), .int .i64 (z : Int)] W fun e w' => e = .returned (.int .i64 (statN (plainC (loudC (rd l0 1)).1) z xx kk)) ∧ Below W.heap.size W w') := ⟨fun W => butteryref16_status.calls 9 _ _ _ _ _ _ _ _ _ W hst⟩
    have hsr := stat_range (plainC (loudC (rd l0 1)).1) z xx kk
    by_cases h0 : statN (plainC (loudC (rd l0 1)).1) z xx kk = 0
    · obtain ⟨r, hr, hfit, hkk, hlg, hq⟩ := hs2 h0
      rw [hq]
      obtain ⟨op, ee, has⟩ := r
      have hk1 := hpk (op, ee, has) hr
      have hk2 := hpf (op, ee, has) hr
      simp only at hfit hkk hlg hk1 hk2 ⊢
      rw [h0] at HSt
      rw [hr] at HOf HSt
      have hfd := of_decide_eq_true (show decide _ = true from hfit)
      obtain ⟨AX, hsX, hCX⟩ := cutC A0 c0 l0 24 (24 + xx) (by omega) (by omega) hc0
      obtain ⟨AK, hsK, hCK⟩ := cutC A0 c0 l0 (24 + xx) (24 + xx + kk) (by omega) (by omega) hc0
      rw [show 24 + xx - 24 = xx by omega] at hsX hCX
      rw [show 24 + xx + kk - (24 + xx) = kk by omega] at hsK hCK
      rw [show ((24 + xx : Nat) : Int) = 24 + (xx : Int) by omega] at hsX
      rw [show ((24 + xx : Nat) : Int) = 24 + (xx : Int) by omega, show ((24 + xx + kk : Nat) : Int) = 24 + (xx : Int) + (kk : Int) by omega] at hsK
      have eX : (cut l0 24 (24 + z)).take xx = cut l0 24 (24 + xx) := take_cut l0 z xx (by omega)
      have eK : cut (cut l0 24 (24 + z)) xx (xx + kk) = cut l0 (24 + xx) (24 + xx + kk) := by rw [cut_cut l0 z xx (xx + kk) (by omega), Nat.add_assoc]
      have eV : (cut l0 24 (24 + z)).drop (xx + kk) = cut l0 (24 + xx + kk) (24 + z) := by rw [drop_cut l0 z (xx + kk) (by omega), Nat.add_assoc]
      rw [eX, eK, eV]
      have hXl : (cut l0 24 (24 + xx)).length = xx := by rw [cut_len _ _ _ (by omega)]; omega
      have hKl : (cut l0 (24 + xx) (24 + xx + kk)).length = kk := by rw [cut_len _ _ _ (by omega)]; omega
      have HCm : ∀ b1 b2 : Bool, Aside0 (∀ W, Below w.heap.size w W → Calls Try.prog 23 #[RowV op ee b1 b2 (loudC (rd l0 1)).2, .slice AX xx (c0 - 24)] W fun e w' => e = .returned (cmdV op ⟨#[]⟩ (.slice none 0 0) (exOf (cut l0 24 (24 + xx))).flags (exOf (cut l0 24 (24 + xx))).exp 0 (exOf (cut l0 24 (24 + xx))).delta (exOf (cut l0 24 (24 + xx))).init (exOf (cut l0 24 (24 + xx))).makes) ∧ Below W.heap.size W w') := fun b1 b2 => ⟨fun W hB => by
        have h := rcmd_w op ee b1 b2 (loudC (rd l0 1)).2 AX (c0 - 24) (cut l0 24 (24 + xx)) W (by rw [hXl]; omega) (cut_bytes _ _ hb) (by rw [hXl]; exact Kd.C_below (hCX w hr0) hB) (by omega)
        rw [hXl] at h
        exact h⟩
      have HCK : Aside0 (Kd.C (Kd.int .u8) w AK kk (cut l0 (24 + xx) (24 + xx + kk))) := ⟨hCK w hr0⟩
      have HKy : Aside0 (∀ W, Calls Try.prog 24 #[.string (strOfNums (cut l0 (24 + xx) (24 + xx + kk)))] W fun e w' => e = .returned (.bool (decide (1 ≤ kk ∧ kk ≤ 250))) ∧ Below W.heap.size W w') := ⟨fun W => by
        have h := keyed13_p (strOfNums (cut l0 (24 + xx) (24 + xx + kk))) W (by rw [strOfNums_size, hKl]; omega)
        rw [strOfNums_size, hKl] at h
        exact h⟩
      by_cases h3 : has = 3
      · subst h3
        rw [if_pos rfl, if_neg (by omega)]
        rw [decide_eq_true (by omega : 1 ≤ kk ∧ kk ≤ 250)] at HKy
        obtain ⟨AV, hsV, hCV⟩ := cutC A0 c0 l0 (24 + xx + kk) (24 + z) (by omega) (by omega) hc0
        rw [show ((24 + z : Nat) : Int) = 24 + (z : Int) by omega, show ((24 + xx + kk : Nat) : Int) = 24 + (xx : Int) + (kk : Int) by omega] at hsV
        exact rparse_val A0 c0 l0 w hr0 hc0 hb g2 g1 g3 g4 z kk xx hZ hK hX op ee _ HOf HSt _ AX AK _ _ _ _ _ _ _ (by omega) (by omega) (cut l0 (24 + xx + kk) (24 + z)) AV _ _ hsX hsK (HCm true true) HCK HKy (by omega) hsV ⟨hCV w hr0⟩ ⟨by omega⟩
      · rw [if_neg h3]
        by_cases h1 : has = 1
        · subst h1
          rw [if_neg (by omega)]
          rw [decide_eq_true (by omega : 1 ≤ kk ∧ kk ≤ 250)] at HKy
          exact rparse_key A0 c0 l0 w hr0 hc0 hb g2 g1 g3 g4 z kk xx hZ hK hX op ee _ HOf HSt _ AX AK _ _ _ _ _ _ _ (by omega) (by omega) hsX hsK (HCm true false) HCK HKy (by omega)
        · rw [if_pos (by omega)]
          rw [decide_eq_false (by omega : ¬ (1 ≤ kk ∧ kk ≤ 250))] at HKy
          have hrf : refRow (some (op, ee, has)) = (op, ee, false, false) := by
            unfold refRow
            simp only [decide_eq_false (show ¬ (has = 1 ∨ has = 3) by omega), decide_eq_false h3]
          rw [hrf] at HOf HSt
          exact rparse_none A0 c0 l0 w hr0 hc0 hb g2 g1 g3 g4 z kk xx hZ hK hX op ee _ HOf HSt _ AX AK _ _ _ _ _ _ _ (by omega) (by omega) hsX hsK (HCm false false) HCK HKy (by omega)
    · rw [hs1 h0]
      exact rparse_bad A0 c0 l0 w hr0 hc0 hb g2 g1 g3 g4 z kk xx hZ hK hX _ _ _ _ _ _ HOf HSt h0 _ ⟨fun W => rfault_w (rd l0 1) _ (be (cut l0 12 16)) W hsr.1 hsr.2 ho.1 ho.2⟩
  · unfold parseS
    by_cases h0 : l0 = []
    · subst h0
      rw [if_pos rfl]
      exact (rparse_nil A0 c0 w).mono fun e w' h => reqPost_badE h
    · have hl : 0 < l0.length := List.length_pos_iff.2 h0
      rw [if_neg h0]
      by_cases h1 : rd l0 0 = 128
      · rw [if_neg (fun h => h h1)]
        by_cases h2 : l0.length < 24
        · rw [if_pos h2]
          exact (rparse_short A0 c0 l0 w hr0 hc0 hl h1 h2).mono fun e w' h => reqPost_badE h
        · rw [if_neg h2]
          by_cases h3 : 2048 < be (cut l0 8 12)
          · rw [if_pos h3]
            exact (rparse_big A0 c0 l0 w hr0 hc0 hb (by omega) h1 h3).mono fun e w' h => reqPost_badE h
          · rw [if_neg h3]
            by_cases h4 : (l0.length : Int) < 24 + be (cut l0 8 12)
            · rw [if_pos h4]
              exact (rparse_wait A0 c0 l0 w hr0 hc0 hb (by omega) h1 h3 h4).mono fun e w' h => reqPost_badE h
            · exact absurd ⟨h1, by omega, by omega, by omega⟩ hwh
      · rw [if_pos h1]
        exact (rparse_other A0 c0 l0 w hr0 hc0 hl h1).mono fun e w' h => reqPost_badE h

end Go.Proofs.Ytkbhnnmngmdkdaa.Hp
