-- Written by this session's own program (wip/hprint.py) out of the translation, over hand-proved contracts. Lean checks it.
import Derived.Test.YtpfjoeagblkonaaHbx0
import Derived.Test.YtpfjoeagblkonaaHbx1
import Derived.Test.YtpfjoeagblkonaaHbx2
import Derived.Test.YtpfjoeagblkonaaHbx3
namespace Go.Proofs.Ytpfjoeagblkonaa.Hb
open Go.RowKit Go.Proofs.YtpfjoeagblkonaaW.PrintWords Go.Proofs.YtpfjoeagblkonaaW.PrintLast Go.Proofs.YtpfjoeagblkonaaW.PrintMore
attribute [local go_sem] max2_int min2_int max_two min_two max_three min_three max_four min_four   -- for this text's walks alone
set_option linter.unusedVariables false
set_option linter.unusedSimpArgs false

/-! ### binout_Encode: function 10 -/
theorem Put16 (a : Int) (h0 : 0 ≤ a) (h1 : a < 65536) : num_Put16.f 9 a = some (putL2 a) := by
  unfold num_Put16.f; rw [u64_in a h0 (by omega), put2]; rfl
theorem C_set_ne {W : World} {A : Option Addr} {n : Nat} {p : Addr} {u : Value} {xs : List Int} (h : Kd.C (Kd.int .u8) W A n xs) (hp : ∀ x, W.cell? p ≠ some (.int .u8 x)) : Kd.C (Kd.int .u8) (W.setCell p u) A n xs := by
  refine ⟨h.1, h.2.1, fun hn => ?_⟩
  obtain ⟨ad, e, hc⟩ := h.2.2 hn
  refine ⟨ad, e, fun j' q hj => ?_⟩
  obtain ⟨cs, h1, h2, h3⟩ := hc j' q hj
  refine ⟨cs, h1, h2, fun i v hv => ?_⟩
  have := h3 i v hv
  have hv' : v = .int .u8 q := by
    have h2' : cs = [.int .u8 q] := h2
    rw [h2'] at hv
    cases i with
    | zero => simpa using hv.symm
    | succ i => simp at hv
  rw [World.cell?_setCell_other]
  · exact this
  · intro e2
    rw [← e2, hv'] at this
    exact hp _ this
theorem rows_C {W : World} {g t : Nat} (rows : List (List Int)) (cs : Array Value) (hk : W.heap[g]? = some (.cells cs t (0, 0))) (hl : rows.length ≤ 9223372036854775807)
    (h : ∀ (j : Nat) (p : List Int), rows[j]? = some p → ∃ (A : Option Addr) (c : Nat), cs[j]? = some (Value.slice A p.length c) ∧ p.length ≤ c ∧ Kd.C (Kd.int .u8) W A p.length p) : Kd.C (Kd.slice 5 (Kd.int .u8)) W (some ⟨g, 0, none⟩) rows.length rows := by
  refine ⟨rfl, hl, fun _ => ⟨_, rfl, fun j p hj => ?_⟩⟩
  obtain ⟨A, c, h1, h2, h3⟩ := h j p hj
  refine ⟨[.slice A p.length c], rfl, ⟨A, c, rfl, h2, h3⟩, fun i u hu => ?_⟩
  cases i with
  | succ i => simp at hu
  | zero =>
    obtain rfl : Value.slice A p.length c = u := by simpa using hu
    rw [Nat.add_zero, show j * (Kd.slice 5 (Kd.int .u8)).sz = j from Nat.mul_one j, add_plain, blk_cell hk]
    exact h1
open Reg in
def rowFact (l : List Int) : Reg.Fact := ⟨fun v W => ∃ (A : Option Addr) (c : Nat), v = .slice A l.length c ∧ l.length ≤ c ∧ Kd.C (Kd.int .u8) W A l.length l, by
  rintro v w w1 hb ⟨A, c, h1, h2, h3⟩
  exact ⟨A, c, h1, h2, Kd.C_below h3 hb⟩⟩
def rowsFact (rows : List (List Int)) : Reg.Fact := ⟨fun v W => ∃ (A : Option Addr) (c : Nat), v = .slice A rows.length c ∧ rows.length ≤ c ∧ Kd.C (Kd.slice 5 (Kd.int .u8)) W A rows.length rows, by
  rintro v w w1 hb ⟨A, c, h1, h2, h3⟩
  exact ⟨A, c, h1, h2, Kd.C_below h3 hb⟩⟩
def ownFact (base : Nat) (l : List Int) : Reg.Fact := ⟨fun v W => Kd.R (Kd.int .u8) 5 W base (fun _ => True) v l, fun v w w1 hb h => Kd.R_below h hb⟩
def BoxAt (W : World) (g : Nat) (adc : Addr) (c0 n0 : Nat) (a0_1 : Int) (a0_2 : ByteArray) (code opq : Int) (quiet a0_6 : Bool) (a0_7 : ByteArray) (A8 : Option Addr) (n8 c8 : Nat) (A9 : Option Addr) (n9 c9 : Nat) (a10 : Bool) : Prop := W.cell? ⟨g, 0, none⟩ = some (.slice (some adc) n0 c0) ∧ W.cell? ⟨g, 1, none⟩ = some (.int .i64 a0_1) ∧ W.cell? ⟨g, 2, none⟩ = some (.string a0_2) ∧ W.cell? ⟨g, 3, none⟩ = some (.int .i64 code) ∧ W.cell? ⟨g, 4, none⟩ = some (.int .u32 opq) ∧ W.cell? ⟨g, 5, none⟩ = some (.bool quiet) ∧ W.cell? ⟨g, 6, none⟩ = some (.bool a0_6) ∧ W.cell? ⟨g, 7, none⟩ = some (.string a0_7) ∧ W.cell? ⟨g, 8, none⟩ = some (.slice A8 n8 c8) ∧ W.cell? ⟨g, 9, none⟩ = some (.slice A9 n9 c9) ∧ W.cell? ⟨g, 10, none⟩ = some (.bool a10)
def XAt (W : World) (adx : Addr) (st fl cas ttl num : Int) (AV : Option Addr) (nV cV : Nat) (b1 b2 b3 : Bool) : Prop := W.cell? adx = some (.int .i64 st) ∧ W.cell? ⟨adx.block, adx.off + 1, none⟩ = some (.slice AV nV cV) ∧ W.cell? ⟨adx.block, adx.off + 2, none⟩ = some (.int .u32 fl) ∧ W.cell? ⟨adx.block, adx.off + 3, none⟩ = some (.int .u64 cas) ∧ W.cell? ⟨adx.block, adx.off + 4, none⟩ = some (.int .i64 ttl) ∧ W.cell? ⟨adx.block, adx.off + 5, none⟩ = some (.int .u64 num) ∧ W.cell? ⟨adx.block, adx.off + 6, none⟩ = some (.bool b1) ∧ W.cell? ⟨adx.block, adx.off + 7, none⟩ = some (.bool b2) ∧ W.cell? ⟨adx.block, adx.off + 8, none⟩ = some (.bool b3)
theorem box_at {W : World} {g : Nat} (adc : Addr) (c0 n0 : Nat) (a0_1 : Int) (a0_2 : ByteArray) (code opq : Int) (quiet a0_6 : Bool) (a0_7 : ByteArray) (A8 : Option Addr) (n8 c8 : Nat) (A9 : Option Addr) (n9 c9 : Nat) (a10 : Bool) (h : W.heap[g]? = some (.cells #[.slice (some adc) n0 c0, .int .i64 a0_1, .string a0_2, .int .i64 code, .int .u32 opq, .bool quiet, .bool a0_6, .string a0_7, .slice A8 n8 c8, .slice A9 n9 c9, .bool a10] 39 (0, 0))) : BoxAt W g adc c0 n0 a0_1 a0_2 code opq quiet a0_6 a0_7 A8 n8 c8 A9 n9 c9 a10 :=
  ⟨blk_cell h 0, blk_cell h 1, blk_cell h 2, blk_cell h 3, blk_cell h 4, blk_cell h 5, blk_cell h 6, blk_cell h 7, blk_cell h 8, blk_cell h 9, blk_cell h 10⟩
theorem XAt.below {W W1 : World} {adx : Addr} {st fl cas ttl num : Int} {AV : Option Addr} {nV cV : Nat} {b1 b2 b3 : Bool} (h : XAt W adx st fl cas ttl num AV nV cV b1 b2 b3) (hb : Below W.heap.size W W1) : XAt W1 adx st fl cas ttl num AV nV cV b1 b2 b3 := by
  obtain ⟨h0, h1, h2, h3, h4, h5, h6, h7, h8⟩ := h
  exact ⟨pw_cell_below hb h0, pw_cell_below hb h1, pw_cell_below hb h2, pw_cell_below hb h3, pw_cell_below hb h4, pw_cell_below hb h5, pw_cell_below hb h6, pw_cell_below hb h7, pw_cell_below hb h8⟩
def EncAt (w W : World) (g : Nat) (adc : Addr) (c0 n0 : Nat) (a0_1 : Int) (a0_2 : ByteArray) (code opq : Int) (quiet a0_6 : Bool) (a0_7 : ByteArray) (A8 : Option Addr) (n8 c8 : Nat) (A9 : Option Addr) (n9 c9 : Nat) (a10 : Bool) (adx : Addr) (st fl cas ttl num : Int) (AV : Option Addr) (nV cV : Nat) (b1 b2 b3 : Bool) (X K Y : List Int) (A1 A2 A3 : Option Addr) (d1 d2 d3 : Nat) : Prop :=
  W.heap[g]? = some (.cells #[.slice A1 X.length d1, .slice A2 K.length d2, .slice A3 Y.length d3] 27 (0, 0)) ∧ W.heap[w.heap.size]? = some (.cells #[.slice (some adc) n0 c0, .int .i64 a0_1, .string a0_2, .int .i64 code, .int .u32 opq, .bool quiet, .bool a0_6, .string a0_7, .slice A8 n8 c8, .slice A9 n9 c9, .bool a10] 39 (0, 0)) ∧ XAt W adx st fl cas ttl num AV nV cV b1 b2 b3 ∧ Below w.heap.size w W ∧ Kd.C (Kd.int .u8) W A1 X.length X ∧ Kd.C (Kd.int .u8) W A2 K.length K ∧ Kd.C (Kd.int .u8) W A3 Y.length Y
theorem wayA {w w1 w2 : World} {adc : Addr} {c0 n0 : Nat} {a0_1 : Int} {a0_2 : ByteArray} {code opq : Int} {quiet a0_6 : Bool} {a0_7 : ByteArray} {A8 : Option Addr} {n8 c8 : Nat} {A9 : Option Addr} {n9 c9 : Nat} {a10 : Bool} {adx : Addr} {st fl cas ttl num : Int} {AV : Option Addr} {nV cV : Nat} {b1 b2 b3 : Bool} {X K Y : List Int} {A1 A2 A3 : Option Addr} {d1 d2 d3 : Nat} (HB1 : Below w.heap.size w w1) (HB : Below w.heap.size w w2) (HK : w2.heap[w.heap.size]? = some (.cells #[.slice (some adc) n0 c0, .int .i64 a0_1, .string a0_2, .int .i64 code, .int .u32 opq, .bool quiet, .bool a0_6, .string a0_7, .slice A8 n8 c8, .slice A9 n9 c9, .bool a10] 39 (0, 0))) (HX : XAt w adx st fl cas ttl num AV nV cV b1 b2 b3) (HZ : w2.heap[w1.heap.size]? = some (.cells #[.slice none 0 0, .slice none 0 0, .slice none 0 0] 27 (0, 0))) (ne0 : w1.heap.size ≠ w.heap.size) (hC : Kd.C (Kd.int .u8) w2 A1 X.length X ∧ Kd.C (Kd.int .u8) w2 A2 K.length K ∧ Kd.C (Kd.int .u8) w2 A3 Y.length Y) :
    EncAt w (((w2.setCell ⟨w1.heap.size, 0, none⟩ (.slice A1 X.length d1)).setCell ⟨w1.heap.size, 1, none⟩ (.slice A2 K.length d2)).setCell ⟨w1.heap.size, 2, none⟩ (.slice A3 Y.length d3)) w1.heap.size adc c0 n0 a0_1 a0_2 code opq quiet a0_6 a0_7 A8 n8 c8 A9 n9 c9 a10 adx st fl cas ttl num AV nV cV b1 b2 b3 X K Y A1 A2 A3 d1 d2 d3 := by
  have hge : w.heap.size ≤ w1.heap.size := HB1.size
  have hB3 := below_set (j := 2) (v := Value.slice A3 Y.length d3) (below_set (j := 1) (v := Value.slice A2 K.length d2) (below_set (j := 0) (v := Value.slice A1 X.length d1) HB hge) hge) hge
  have k0 := HZ
  have k1 := blk_put (cs' := #[.slice A1 X.length d1, .slice none 0 0, .slice none 0 0]) HZ 0 (Value.slice A1 X.length d1) rfl
  have k2 := blk_put (cs' := #[.slice A1 X.length d1, .slice A2 K.length d2, .slice none 0 0]) k1 1 (Value.slice A2 K.length d2) rfl
  have k3 := blk_put (cs' := #[.slice A1 X.length d1, .slice A2 K.length d2, .slice A3 Y.length d3]) k2 2 (Value.slice A3 Y.length d3) rfl
  have e : ∀ {A : Option Addr} {l : List Int}, Kd.C (Kd.int .u8) w2 A l.length l → Kd.C (Kd.int .u8) (((w2.setCell ⟨w1.heap.size, 0, none⟩ (.slice A1 X.length d1)).setCell ⟨w1.heap.size, 1, none⟩ (.slice A2 K.length d2)).setCell ⟨w1.heap.size, 2, none⟩ (.slice A3 Y.length d3)) A l.length l := fun h => C_set_ne (C_set_ne (C_set_ne h (fun x e => by rw [blk_cell k0 0] at e; cases e)) (fun x e => by rw [blk_cell k1 1] at e; cases e)) (fun x e => by rw [blk_cell k2 2] at e; cases e)
  refine ⟨k3, blk_far (blk_far (blk_far HK (p := ⟨w1.heap.size, 0, none⟩) (fun e => ne0 e.symm) _) (p := ⟨w1.heap.size, 1, none⟩) (fun e => ne0 e.symm) _) (p := ⟨w1.heap.size, 2, none⟩) (fun e => ne0 e.symm) _, HX.below hB3, hB3, e hC.1, e hC.2.1, e hC.2.2⟩
theorem wayB {w w2 : World} {adc : Addr} {c0 n0 : Nat} {a0_1 : Int} {a0_2 : ByteArray} {code opq : Int} {quiet a0_6 : Bool} {a0_7 : ByteArray} {A8 : Option Addr} {n8 c8 : Nat} {A9 : Option Addr} {n9 c9 : Nat} {a10 : Bool} {adx : Addr} {st fl cas ttl num : Int} {AV : Option Addr} {nV cV : Nat} {b1 b2 b3 : Bool} {X K Y : List Int} {A1 A2 A3 : Option Addr} {d1 d2 d3 : Nat} (HB : Below w.heap.size w w2) (HK : w2.heap[w.heap.size]? = some (.cells #[.slice (some adc) n0 c0, .int .i64 a0_1, .string a0_2, .int .i64 code, .int .u32 opq, .bool quiet, .bool a0_6, .string a0_7, .slice A8 n8 c8, .slice A9 n9 c9, .bool a10] 39 (0, 0))) (HX : XAt w adx st fl cas ttl num AV nV cV b1 b2 b3) (hC : Kd.C (Kd.int .u8) w2 A1 X.length X ∧ Kd.C (Kd.int .u8) w2 A2 K.length K ∧ Kd.C (Kd.int .u8) w2 A3 Y.length Y) :
    EncAt w (w2.alloc (.cells #[.slice A1 X.length d1, .slice A2 K.length d2, .slice A3 Y.length d3] 27)) w2.heap.size adc c0 n0 a0_1 a0_2 code opq quiet a0_6 a0_7 A8 n8 c8 A9 n9 c9 a10 adx st fl cas ttl num AV nV cV b1 b2 b3 X K Y A1 A2 A3 d1 d2 d3 :=
  ⟨blk_new _ _, blk_alloc HK _, HX.below (below_alloc HB _), below_alloc HB _, Kd.C_alloc hC.1 _, Kd.C_alloc hC.2.1 _, Kd.C_alloc hC.2.2 _⟩
theorem three_rows {W : World} {X K Y : List Int} {A1 A2 A3 : Option Addr} {d1 d2 d3 : Nat} (hd : X.length ≤ d1 ∧ K.length ≤ d2 ∧ Y.length ≤ d3) (h1 : Kd.C (Kd.int .u8) W A1 X.length X) (h2 : Kd.C (Kd.int .u8) W A2 K.length K) (h3 : Kd.C (Kd.int .u8) W A3 Y.length Y) :
    ∀ (j : Nat) (p : List Int), [X, K, Y][j]? = some p → ∃ (A : Option Addr) (c : Nat), (#[Value.slice A1 X.length d1, Value.slice A2 K.length d2, Value.slice A3 Y.length d3])[j]? = some (Value.slice A p.length c) ∧ p.length ≤ c ∧ Kd.C (Kd.int .u8) W A p.length p := by
  intro j p hj
  match j, hj with
  | 0, hj => obtain rfl : X = p := by simpa using hj
             exact ⟨A1, d1, rfl, hd.1, h1⟩
  | 1, hj => obtain rfl : K = p := by simpa using hj
             exact ⟨A2, d2, rfl, hd.2.1, h2⟩
  | 2, hj => obtain rfl : Y = p := by simpa using hj
             exact ⟨A3, d3, rfl, hd.2.2, h3⟩
  | j + 3, hj => simp at hj
theorem concat3 {X K Y : List Int} (h : X.length + K.length + Y.length ≤ 900000) : slices_Concat_byte_byte.f [X, K, Y] = some (X ++ K ++ Y) := by
  have e : [X, K, Y].flatten = X ++ K ++ Y := by simp
  unfold slices_Concat_byte_byte.f
  rw [e, if_pos]
  refine ⟨by simp, ?_⟩
  rw [List.length_append, List.length_append]
  omega
def encRows (code : Int) (nK nX : Nat) (st : Int) (body : List Int) (opq cc : Int) : List Int := [129, code % 256] ++ putL2 (nK : Int) ++ [(nX : Int), 0] ++ putL2 (codeN st) ++ putL4 (body.length : Int) ++ putL4 opq ++ putL8 cc ++ body
theorem row_of_R {W : World} {base : Nat} {ok : Nat → Prop} {v : Value} {l : List Int} (h : Kd.R (Kd.int .u8) 5 W base ok v l) : (rowFact l).p v W := by
  obtain ⟨A, c, h1, h2, h3⟩ := Kd.R_reads h
  exact ⟨A, c, h1, h2, h3⟩
theorem put16C (fl : Int) (h0 : 0 ≤ fl) (h1 : fl < 65536) (W : World) : Calls Try.prog 18 #[.int .u16 fl] W fun e w' => ∃ v0_ : Value, e = .returned v0_ ∧ Kd.R (Kd.int .u8) 5 w' W.heap.size (fun _ => True) v0_ (putL2 fl) ∧ Below W.heap.size W w' :=
  num_Put16.calls 9 fl (putL2 fl) W (Put16 fl h0 h1)
theorem eight_rows {W : World} {l0 l1 l2 l3 l4 l5 l6 l7 : List Int} {A0 A1 A2 A3 A4 A5 A6 A7 : Option Addr} {c0 c1 c2 c3 c4 c5 c6 c7 : Nat} (hd : l0.length ≤ c0 ∧ l1.length ≤ c1 ∧ l2.length ≤ c2 ∧ l3.length ≤ c3 ∧ l4.length ≤ c4 ∧ l5.length ≤ c5 ∧ l6.length ≤ c6 ∧ l7.length ≤ c7)
    (h0 : Kd.C (Kd.int .u8) W A0 l0.length l0) (h1 : Kd.C (Kd.int .u8) W A1 l1.length l1) (h2 : Kd.C (Kd.int .u8) W A2 l2.length l2) (h3 : Kd.C (Kd.int .u8) W A3 l3.length l3) (h4 : Kd.C (Kd.int .u8) W A4 l4.length l4) (h5 : Kd.C (Kd.int .u8) W A5 l5.length l5) (h6 : Kd.C (Kd.int .u8) W A6 l6.length l6) (h7 : Kd.C (Kd.int .u8) W A7 l7.length l7) :
    ∀ (j : Nat) (p : List Int), [l0, l1, l2, l3, l4, l5, l6, l7][j]? = some p → ∃ (A : Option Addr) (c : Nat), (#[Value.slice A0 l0.length c0, Value.slice A1 l1.length c1, Value.slice A2 l2.length c2, Value.slice A3 l3.length c3, Value.slice A4 l4.length c4, Value.slice A5 l5.length c5, Value.slice A6 l6.length c6, Value.slice A7 l7.length c7])[j]? = some (Value.slice A p.length c) ∧ p.length ≤ c ∧ Kd.C (Kd.int .u8) W A p.length p := by
  obtain ⟨d0, d1, d2, d3, d4, d5, d6, d7⟩ := hd
  intro j p hj
  match j, hj with
  | 0, hj =>
    obtain rfl : l0 = p := by simpa using hj
    exact ⟨A0, c0, rfl, d0, h0⟩
  | 1, hj =>
    obtain rfl : l1 = p := by simpa using hj
    exact ⟨A1, c1, rfl, d1, h1⟩
  | 2, hj =>
    obtain rfl : l2 = p := by simpa using hj
    exact ⟨A2, c2, rfl, d2, h2⟩
  | 3, hj =>
    obtain rfl : l3 = p := by simpa using hj
    exact ⟨A3, c3, rfl, d3, h3⟩
  | 4, hj =>
    obtain rfl : l4 = p := by simpa using hj
    exact ⟨A4, c4, rfl, d4, h4⟩
  | 5, hj =>
    obtain rfl : l5 = p := by simpa using hj
    exact ⟨A5, c5, rfl, d5, h5⟩
  | 6, hj =>
    obtain rfl : l6 = p := by simpa using hj
    exact ⟨A6, c6, rfl, d6, h6⟩
  | 7, hj =>
    obtain rfl : l7 = p := by simpa using hj
    exact ⟨A7, c7, rfl, d7, h7⟩
  | j + 8, hj => simp at hj
theorem concat8 {code cc st opq : Int} {nK nX : Nat} {body : List Int} (h : body.length ≤ 900000) : slices_Concat_byte_byte.f [[129, code % 256], putL2 (nK : Int), [(nX : Int), 0], putL2 (codeN st), putL4 (body.length : Int), putL4 opq, putL8 cc, body] = some (encRows code nK nX st body opq cc) := by
  have e : [[129, code % 256], putL2 (nK : Int), [(nX : Int), 0], putL2 (codeN st), putL4 (body.length : Int), putL4 opq, putL8 cc, body].flatten = encRows code nK nX st body opq cc := by simp [encRows]
  unfold slices_Concat_byte_byte.f
  rw [e, if_pos]
  refine ⟨by simp, ?_⟩
  simp [encRows, putL2, putL4, putL8]
  omega
set_option maxHeartbeats 4000000 in
set_option maxRecDepth 100000 in
theorem encode_full (adc : Addr) (c0 n0 : Nat) (a0_1 : Int) (a0_2 : ByteArray) (code opq : Int) (quiet a0_6 : Bool) (a0_7 : ByteArray) (A8 : Option Addr) (n8 c8 : Nat) (A9 : Option Addr) (n9 c9 : Nat) (a10 : Bool) (adx : Addr) (st fl cas ttl num : Int) (AV : Option Addr) (nV cV : Nat) (b1 b2 b3 : Bool) (c1 n1 : Nat) (X K Y : List Int) (cc : Int) (w : World)
    (hn0 : 0 < n0) (hn1 : 0 < n1) (hx : XAt w adx st fl cas ttl num AV nV cV b1 b2 b3)
    (HS : Aside0 (∀ W, Below w.heap.size w W → Calls Try.prog 15 #[.agg #[.slice (some adc) n0 c0, .int .i64 a0_1, .string a0_2, .int .i64 code, .int .u32 opq, .bool quiet, .bool a0_6, .string a0_7, .slice A8 n8 c8, .slice A9 n9 c9, .bool a10], .agg #[.int .i64 st, .slice AV nV cV, .int .u32 fl, .int .u64 cas, .int .i64 ttl, .int .u64 num, .bool b1, .bool b2, .bool b3]] W fun e w' => e = .returned (.bool false) ∧ Below W.heap.size W w'))
    (HP : Aside0 (∀ W, Below w.heap.size w W → Calls Try.prog 16 #[.agg #[.slice (some adc) n0 c0, .int .i64 a0_1, .string a0_2, .int .i64 code, .int .u32 opq, .bool quiet, .bool a0_6, .string a0_7, .slice A8 n8 c8, .slice A9 n9 c9, .bool a10], .agg #[.int .i64 st, .slice AV nV cV, .int .u32 fl, .int .u64 cas, .int .i64 ttl, .int .u64 num, .bool b1, .bool b2, .bool b3]] W (PartsPost W X K Y cc)))
    (HLim : Aside0 (X.length ≤ 8 ∧ K.length < 65536 ∧ X.length + K.length + Y.length ≤ 900000)) (HOpq : Aside0 (0 ≤ opq ∧ opq < 4294967296)) :
    Calls Try.prog 10 #[.agg #[.slice (some adc) n0 c0, .int .i64 a0_1, .string a0_2, .int .i64 code, .int .u32 opq, .bool quiet, .bool a0_6, .string a0_7, .slice A8 n8 c8, .slice A9 n9 c9, .bool a10], .slice (some adx) n1 c1] w fun e w' => ∃ v0_ : Value, e = .returned v0_ ∧ Kd.R (Kd.int .u8) 5 w' w.heap.size (fun _ => True) v0_ (encRows code K.length X.length st (X ++ K ++ Y) opq cc) ∧ Below w.heap.size w w' := by
  have hu39 := Try.underlying39
  have hu46 := Try.underlying46
  have hu27 := Try.underlying27
  have hu22 := Try.underlying22
  have hu40 := Try.underlying40
  have hu34 := Try.underlying34
  have t1 : ((n0 : Int) == 0) = false := beq_eq_false_iff_ne.mpr (by omega)
  have t2 : ((n1 : Int) == 0) = false := beq_eq_false_iff_ne.mpr (by omega)
  have hp : (0 : Int) < (n1 : Int) := by omega
  have HX := Aside0.mk hx
  have hx1 : ∀ o : Obj, XAt (w.alloc o) adx st fl cas ttl num AV nV cV b1 b2 b3 := fun o => hx.below (below_alloc (Below.refl _ _) o)
  unfold XAt at hx1
  obtain ⟨q0, q1, q2, q3, q4, q5, q6, q7, q8⟩ := hx1 (.cells #[.slice (some adc) n0 c0, .int .i64 a0_1, .string a0_2, .int .i64 code, .int .u32 opq, .bool quiet, .bool a0_6, .string a0_7, .slice A8 n8 c8, .slice A9 n9 c9, .bool a10] 39)
  clear hx hx1
  go_enter Try.func10, Try.ntmps10
  go_wp2
  go_region_held3 (fun w' => w'.cell? ⟨w.heap.size, 0, none⟩ = some (.slice (some adc) n0 c0) ∧ w'.cell? ⟨w.heap.size, 1, none⟩ = some (.int .i64 a0_1) ∧ w'.cell? ⟨w.heap.size, 2, none⟩ = some (.string a0_2) ∧ w'.cell? ⟨w.heap.size, 3, none⟩ = some (.int .i64 code) ∧ w'.cell? ⟨w.heap.size, 4, none⟩ = some (.int .u32 opq) ∧ w'.cell? ⟨w.heap.size, 5, none⟩ = some (.bool quiet) ∧ w'.cell? ⟨w.heap.size, 6, none⟩ = some (.bool a0_6) ∧ w'.cell? ⟨w.heap.size, 7, none⟩ = some (.string a0_7) ∧ w'.cell? ⟨w.heap.size, 8, none⟩ = some (.slice A8 n8 c8) ∧ w'.cell? ⟨w.heap.size, 9, none⟩ = some (.slice A9 n9 c9) ∧ w'.cell? ⟨w.heap.size, 10, none⟩ = some (.bool a10) ∧ w'.cell? adx = some (.int .i64 st) ∧ w'.cell? ⟨adx.block, adx.off + 1, none⟩ = some (.slice AV nV cV) ∧ w'.cell? ⟨adx.block, adx.off + 2, none⟩ = some (.int .u32 fl) ∧ w'.cell? ⟨adx.block, adx.off + 3, none⟩ = some (.int .u64 cas) ∧ w'.cell? ⟨adx.block, adx.off + 4, none⟩ = some (.int .i64 ttl) ∧ w'.cell? ⟨adx.block, adx.off + 5, none⟩ = some (.int .u64 num) ∧ w'.cell? ⟨adx.block, adx.off + 6, none⟩ = some (.bool b1) ∧ w'.cell? ⟨adx.block, adx.off + 7, none⟩ = some (.bool b2) ∧ w'.cell? ⟨adx.block, adx.off + 8, none⟩ = some (.bool b3)) (go_keep)
    ((first | (go_at_call 15; (refine (HS.out _ ?_).mono ?_); (repeat (first | exact Below.refl _ _ | apply below_alloc | apply below_drew | apply pw_below_drewN)); rintro e w1 ⟨rfl, hB⟩; clear q0 q1 q2 q3 q4 q5 q6 q7 q8; have hX := HX.out.below (show Below w.heap.size w w1 from below_step (by repeat (first | exact Below.refl _ _ | apply below_alloc | apply below_drew | apply pw_below_drewN)) hB); have hK := blk_any hB (blk_drew (blk_new w _)); have hBX := box_at adc c0 n0 a0_1 a0_2 code opq quiet a0_6 a0_7 A8 n8 c8 A9 n9 c9 a10 hK; unfold XAt at hX; unfold BoxAt at hBX; obtain ⟨q0, q1, q2, q3, q4, q5, q6, q7, q8⟩ := hX; obtain ⟨p0, p1, p2, p3, p4, p5, p6, p7, p8, p9, p10⟩ := hBX; have HK := Aside0.mk hK; have HB := Aside0.mk (below_step (show Below w.heap.size w _ from by repeat (first | exact Below.refl _ _ | apply below_alloc | apply below_drew | apply pw_below_drewN)) hB); clear hB hK)))
  go_wp2
  have ne0 : w1.heap.size ≠ w.heap.size := World.new_ne w1 ⟨w.heap.size, 0, none⟩ p0
  have HB1 := Aside0.mk HB.out
  have neX := World.new_ne w1 adx q0
  go_region_held3 (fun w' => w'.cell? ⟨w.heap.size, 0, none⟩ = some (.slice (some adc) n0 c0) ∧ w'.cell? ⟨w.heap.size, 1, none⟩ = some (.int .i64 a0_1) ∧ w'.cell? ⟨w.heap.size, 2, none⟩ = some (.string a0_2) ∧ w'.cell? ⟨w.heap.size, 3, none⟩ = some (.int .i64 code) ∧ w'.cell? ⟨w.heap.size, 4, none⟩ = some (.int .u32 opq) ∧ w'.cell? ⟨w.heap.size, 5, none⟩ = some (.bool quiet) ∧ w'.cell? ⟨w.heap.size, 6, none⟩ = some (.bool a0_6) ∧ w'.cell? ⟨w.heap.size, 7, none⟩ = some (.string a0_7) ∧ w'.cell? ⟨w.heap.size, 8, none⟩ = some (.slice A8 n8 c8) ∧ w'.cell? ⟨w.heap.size, 9, none⟩ = some (.slice A9 n9 c9) ∧ w'.cell? ⟨w.heap.size, 10, none⟩ = some (.bool a10) ∧ w'.cell? adx = some (.int .i64 st) ∧ w'.cell? ⟨adx.block, adx.off + 1, none⟩ = some (.slice AV nV cV) ∧ w'.cell? ⟨adx.block, adx.off + 2, none⟩ = some (.int .u32 fl) ∧ w'.cell? ⟨adx.block, adx.off + 3, none⟩ = some (.int .u64 cas) ∧ w'.cell? ⟨adx.block, adx.off + 4, none⟩ = some (.int .i64 ttl) ∧ w'.cell? ⟨adx.block, adx.off + 5, none⟩ = some (.int .u64 num) ∧ w'.cell? ⟨adx.block, adx.off + 6, none⟩ = some (.bool b1) ∧ w'.cell? ⟨adx.block, adx.off + 7, none⟩ = some (.bool b2) ∧ w'.cell? ⟨adx.block, adx.off + 8, none⟩ = some (.bool b3)) (go_keep)
    ((first | (go_at_call 16; (refine (HP.out _ ?_).mono ?_); (repeat (first | exact HB.out | apply below_alloc | apply below_drew | apply pw_below_drewN)); rintro e w2 ⟨A1, A2, A3, d1, d2, d3, rfl, hC1, hC2, hC3, hd1, hd2, hd3, hB⟩; have hk0 := blk_any hB (by first | exact blk_drew HK.out | exact blk_drew (blk_alloc HK.out _)); have hX := HX.out.below (show Below w.heap.size w w2 from below_step (by repeat (first | exact HB.out | apply below_alloc | apply below_drew | apply pw_below_drewN)) hB); clear q0 q1 q2 q3 q4 q5 q6 q7 q8 p0 p1 p2 p3 p4 p5 p6 p7 p8 p9 p10; have hBX := box_at adc c0 n0 a0_1 a0_2 code opq quiet a0_6 a0_7 A8 n8 c8 A9 n9 c9 a10 hk0; unfold XAt at hX; unfold BoxAt at hBX; obtain ⟨q0, q1, q2, q3, q4, q5, q6, q7, q8⟩ := hX; obtain ⟨p0, p1, p2, p3, p4, p5, p6, p7, p8, p9, p10⟩ := hBX; have HPC := Aside0.mk (And.intro hC1 (And.intro hC2 hC3)); have HPd := Aside0.mk (And.intro hd1 (And.intro hd2 hd3)); have n0_ := Aside0.mk (below_step (show Below w.heap.size w _ from by repeat (first | exact HB.out | apply below_alloc | apply below_drew | apply pw_below_drewN)) hB); clear HB HK; have HB := n0_; have HK := Aside0.mk hk0; (try (have hz := blk_any hB (blk_drew (blk_new w1 (.cells #[.slice none 0 0, .slice none 0 0, .slice none 0 0] 27))); have zz0 := blk_cell hz 0; have zz1 := blk_cell hz 1; have zz2 := blk_cell hz 2; have zf0 := blk_frozen hz 0; have zf1 := blk_frozen hz 1; have zf2 := blk_frozen hz 2; have HZ := Aside0.mk hz; clear hz)); (try (have ne2 := World.new_ne w2 ⟨w.heap.size, 0, none⟩ p0; have neY := World.new_ne w2 adx q0)); clear n0_ hk0 hB hC1 hC2 hC3 hd1 hd2 hd3)))
  all_goals first
    | (generalize hW3 : ((w2.setCell ⟨w1.heap.size, 0, none⟩ (Value.slice A1 X.length d1)).setCell ⟨w1.heap.size, 1, none⟩ (Value.slice A2 K.length d2)).setCell ⟨w1.heap.size, 2, none⟩ (Value.slice A3 Y.length d3) = W3; have HE := Aside0.mk (wayA (d1 := d1) (d2 := d2) (d3 := d3) HB1.out HB.out HK.out HX.out HZ.out ne0 HPC.out); rw [hW3] at HE; clear hW3; clear zz0 zz1 zz2 zf0 zf1 zf2; clear q0 q1 q2 q3 q4 q5 q6 q7 q8 p0 p1 p2 p3 p4 p5 p6 p7 p8 p9 p10 ; clear ne0 neX ne2 neY; generalize w1.heap.size = g at *)
    | (generalize hW3 : w2.alloc (Obj.cells #[Value.slice A1 X.length d1, Value.slice A2 K.length d2, Value.slice A3 Y.length d3] 27) = W3; have HE := Aside0.mk (wayB (d1 := d1) (d2 := d2) (d3 := d3) HB.out HK.out HX.out HPC.out); rw [hW3] at HE; clear hW3; clear q0 q1 q2 q3 q4 q5 q6 q7 q8 p0 p1 p2 p3 p4 p5 p6 p7 p8 p9 p10 ; clear ne0 neX ne2 neY; generalize w2.heap.size = g at *)
  all_goals (
    have hE := HE.out
    unfold EncAt at hE
    obtain ⟨e1, e2, e3, e4, e5, e6, e7⟩ := hE
    have HD := HPd.out
    obtain ⟨body, hbody⟩ : ∃ b, X ++ K ++ Y = b := ⟨_, rfl⟩
    have HBody := Aside0.mk hbody
    have HLn := Aside0.mk (show X.length ≤ 8 ∧ K.length < 65536 ∧ body.length ≤ 900000 from ⟨HLim.out.1, HLim.out.2.1, by rw [← hbody, List.length_append, List.length_append]; exact HLim.out.2.2⟩)
    have HCc : Aside0 (Calls Try.prog 17 #[.slice (some ⟨g, 0, none⟩) 3 3] W3 fun e w' => ∃ v0_ : Value, e = .returned v0_ ∧ Kd.R (Kd.int .u8) 5 w' W3.heap.size (fun k_ => True) v0_ body ∧ Below W3.heap.size W3 w') := ⟨by rw [← hbody]; exact slices_Concat_byte_byte.calls (some ⟨g, 0, none⟩) 3 [X, K, Y] (X ++ K ++ Y) W3 (rows_C [X, K, Y] _ e1 (by simp) (three_rows HD e5 e6 e7)) (by simp) (concat3 HLim.out.2.2)⟩
    have HE1 := Aside0.mk e1
    have HE2 := Aside0.mk e2
    have HE3 := Aside0.mk e3
    have HE4 := Aside0.mk e4
    clear e1 e2 e3 e4 e5 e6 e7 HD hbody
    go_wp2_with (go_at_call 17; (with_reducible refine HCc.out.mono ?_); rintro e w4 ⟨v7, rfl, hO, hB⟩; have HO := Aside0.mk hO; have HB4 := Aside0.mk hB; obtain ⟨BB, cb, hv, hle, hC⟩ := Kd.R_reads hO; subst hv; clear hO hB hC)
    have HG4 := Aside0.mk (blk_any HB4.out HE1.out)
    have HK4 := Aside0.mk (blk_any HB4.out HE2.out)
    have HX4 := Aside0.mk (HE3.out.below HB4.out)
    have HBw4 := Aside0.mk (below_step HE4.out HB4.out)
    refine Reg.region_facts 68 ([Reg.Fact.eq (.pointer (some ⟨w.heap.size, 1, none⟩)), Reg.Fact.eq (.pointer (some ⟨w.heap.size, 3, none⟩)), Reg.Fact.eq (.int .i64 code), Reg.Fact.eq (.int .u8 (code % 256)), rowFact ([129, code % 256]), Reg.Fact.eq (.pointer (some ⟨g, 1, none⟩)), Reg.Fact.eq (.slice A2 K.length d2), Reg.Fact.eq (.int .i64 (K.length : Int)), Reg.Fact.eq (.int .u16 (K.length : Int)), rowFact (putL2 (K.length : Int)), Reg.Fact.eq (.pointer (some ⟨g, 0, none⟩)), Reg.Fact.eq (.slice A1 X.length d1), Reg.Fact.eq (.int .i64 (X.length : Int)), Reg.Fact.eq (.int .u8 (X.length : Int)), rowFact ([(X.length : Int), 0]), Reg.Fact.eq (.slice (some adx) n1 c1), Reg.Fact.eq (.pointer (some adx)), Reg.Fact.eq (.pointer (some adx)), Reg.Fact.eq (.int .i64 st), Reg.Fact.eq (.int .u16 (codeN st)), rowFact (putL2 (codeN st)), Reg.Fact.eq (.slice BB body.length cb), Reg.Fact.eq (.int .i64 (body.length : Int)), Reg.Fact.eq (.int .u32 (body.length : Int)), rowFact (putL4 (body.length : Int)), Reg.Fact.eq (.pointer (some ⟨w.heap.size, 1, none⟩)), Reg.Fact.eq (.pointer (some ⟨w.heap.size, 4, none⟩)), Reg.Fact.eq (.int .u32 opq), rowFact (putL4 opq), Reg.Fact.eq (.int .u64 cc), rowFact (putL8 cc), Reg.Fact.eq (.slice BB body.length cb), rowsFact ([[129, code % 256], putL2 (K.length : Int), [(X.length : Int), 0], putL2 (codeN st), putL4 (body.length : Int), putL4 opq, putL8 cc, body]), ownFact w.heap.size (encRows code K.length X.length st body opq cc), ownFact w.heap.size (encRows code K.length X.length st body opq cc)]) rfl rfl (by kernel_rfl) ⟨?_, ?_, ?_, ?_, ?_, ?_, ?_, ?_, ?_, ?_, ?_, ?_, ?_, ?_, ?_, ?_, ?_, ?_, ?_, ?_, ?_, ?_, ?_, ?_, ?_, ?_, ?_, ?_, ?_, ?_, ?_, ?_, ?_, ?_, ?_, trivial⟩ ?_
    case refine_1 =>
      intro a W hB hfr hd K' hK
      have e2 : a.tmps.getD 2 undef = .pointer (some ⟨w.heap.size, 0, none⟩) := (hfr 2 (by kernel_rfl)).trans rfl
      have e2' : a.tmps[2]?.getD undef = .pointer (some ⟨w.heap.size, 0, none⟩) := by simpa using e2
      refine Reg.step_value (v := .pointer (some ⟨w.heap.size, 1, none⟩)) (w1 := W) ?_ (hK _ _ rfl (Below.refl _ _))
      clear hfr hd hK
      go_simp
    case refine_2 =>
      intro a W hB hfr hd K' hK
      have e34 : a.tmps.getD 34 undef = .pointer (some ⟨w.heap.size, 1, none⟩) := hd 0 _ _ rfl rfl (by kernel_rfl)
      have e34' : a.tmps[34]?.getD undef = .pointer (some ⟨w.heap.size, 1, none⟩) := by simpa using e34
      refine Reg.step_value (v := .pointer (some ⟨w.heap.size, 3, none⟩)) (w1 := W) ?_ (hK _ _ rfl (Below.refl _ _))
      clear hfr hd hK
      go_simp
    case refine_3 =>
      intro a W hB hfr hd K' hK
      have e35 : a.tmps.getD 35 undef = .pointer (some ⟨w.heap.size, 3, none⟩) := hd 1 _ _ rfl rfl (by kernel_rfl)
      have e35' : a.tmps[35]?.getD undef = .pointer (some ⟨w.heap.size, 3, none⟩) := by simpa using e35
      have hc : W.cell? ⟨w.heap.size, 3, none⟩ = some (.int .i64 code) := blk_cell (blk_any hB HK4.out) 3
      refine Reg.step_value (v := .int .i64 code) (w1 := W) ?_ (hK _ _ rfl (Below.refl _ _))
      clear hfr hd hK
      go_simp
    case refine_4 =>
      intro a W hB hfr hd K' hK
      have e36 : a.tmps.getD 36 undef = .int .i64 code := hd 2 _ _ rfl rfl (by kernel_rfl)
      have e36' : a.tmps[36]?.getD undef = .int .i64 code := by simpa using e36
      have hq : IntKind.u8.wrap code = code % 256 := by simp [IntKind.wrap, IntKind.bits, IntKind.signed]
      refine Reg.step_value (v := .int .u8 (code % 256)) (w1 := W) ?_ (hK _ _ rfl (Below.refl _ _))
      clear hfr hd hK
      go_simp
    case refine_5 =>
      intro a W hB hfr hd K' hK
      have e37 : a.tmps.getD 37 undef = .int .u8 (code % 256) := hd 3 _ _ rfl rfl (by kernel_rfl)
      have e37' : a.tmps[37]?.getD undef = .int .u8 (code % 256) := by simpa using e37
      refine Reg.step_value (v := .slice (some ⟨W.heap.size, 0, none⟩) 2 2) (w1 := W.alloc (.cells #[.int .u8 129, .int .u8 (code % 256)] 5)) ?_ (hK _ _ ⟨_, 2, rfl, by simp, lit_C W [129, code % 256] #[.int .u8 129, .int .u8 (code % 256)] 5 (0, 0) rfl (by simp)⟩ (below_alloc (Below.refl _ _) _))
      clear hfr hd hK
      go_simp
    case refine_6 =>
      intro a W hB hfr hd K' hK
      have e5 : a.tmps.getD 5 undef = .pointer (some ⟨g, 0, none⟩) := (hfr 5 (by kernel_rfl)).trans rfl
      have e5' : a.tmps[5]?.getD undef = .pointer (some ⟨g, 0, none⟩) := by simpa using e5
      refine Reg.step_value (v := .pointer (some ⟨g, 1, none⟩)) (w1 := W) ?_ (hK _ _ rfl (Below.refl _ _))
      clear hfr hd hK
      go_simp
    case refine_7 =>
      intro a W hB hfr hd K' hK
      have e39 : a.tmps.getD 39 undef = .pointer (some ⟨g, 1, none⟩) := hd 5 _ _ rfl rfl (by kernel_rfl)
      have e39' : a.tmps[39]?.getD undef = .pointer (some ⟨g, 1, none⟩) := by simpa using e39
      have hc : W.cell? ⟨g, 1, none⟩ = some (.slice A2 K.length d2) := blk_cell (blk_any hB HG4.out) 1
      refine Reg.step_value (v := .slice A2 K.length d2) (w1 := W) ?_ (hK _ _ rfl (Below.refl _ _))
      clear hfr hd hK
      go_simp
    case refine_8 =>
      intro a W hB hfr hd K' hK
      have e40 : a.tmps.getD 40 undef = .slice A2 K.length d2 := hd 6 _ _ rfl rfl (by kernel_rfl)
      have e40' : a.tmps[40]?.getD undef = .slice A2 K.length d2 := by simpa using e40
      refine Reg.step_value (v := .int .i64 (K.length : Int)) (w1 := W) ?_ (hK _ _ rfl (Below.refl _ _))
      clear hfr hd hK
      go_simp
    case refine_9 =>
      intro a W hB hfr hd K' hK
      have e41 : a.tmps.getD 41 undef = .int .i64 (K.length : Int) := hd 7 _ _ rfl rfl (by kernel_rfl)
      have e41' : a.tmps[41]?.getD undef = .int .i64 (K.length : Int) := by simpa using e41
      have hq : IntKind.u16.wrap (K.length : Int) = (K.length : Int) := u16_in _ (by omega) (by have := HLn.out; omega)
      refine Reg.step_value (v := .int .u16 (K.length : Int)) (w1 := W) ?_ (hK _ _ rfl (Below.refl _ _))
      clear hfr hd hK
      go_simp
    case refine_10 =>
      intro a W hB hfr hd K' hK
      have e42 : a.tmps.getD 42 undef = .int .u16 (K.length : Int) := hd 8 _ _ rfl rfl (by kernel_rfl)
      have e42' : a.tmps[42]?.getD undef = .int .u16 (K.length : Int) := by simpa using e42
      refine Reg.step_call Try.func18 (by kernel_rfl) rfl #[.int .u16 (K.length : Int)] rfl (by simp [Act.eval, e42']) ?_
      refine (put16C _ (by omega) (by have := HLn.out; omega) W).mono ?_
      rintro e w' ⟨v, rfl, hO, hb⟩
      exact ⟨v, rfl, hK _ _ (row_of_R hO) hb⟩
    case refine_11 =>
      intro a W hB hfr hd K' hK
      have e5 : a.tmps.getD 5 undef = .pointer (some ⟨g, 0, none⟩) := (hfr 5 (by kernel_rfl)).trans rfl
      have e5' : a.tmps[5]?.getD undef = .pointer (some ⟨g, 0, none⟩) := by simpa using e5
      refine Reg.step_value (v := .pointer (some ⟨g, 0, none⟩)) (w1 := W) ?_ (hK _ _ rfl (Below.refl _ _))
      clear hfr hd hK
      go_simp
    case refine_12 =>
      intro a W hB hfr hd K' hK
      have e44 : a.tmps.getD 44 undef = .pointer (some ⟨g, 0, none⟩) := hd 10 _ _ rfl rfl (by kernel_rfl)
      have e44' : a.tmps[44]?.getD undef = .pointer (some ⟨g, 0, none⟩) := by simpa using e44
      have hc : W.cell? ⟨g, 0, none⟩ = some (.slice A1 X.length d1) := blk_cell (blk_any hB HG4.out) 0
      refine Reg.step_value (v := .slice A1 X.length d1) (w1 := W) ?_ (hK _ _ rfl (Below.refl _ _))
      clear hfr hd hK
      go_simp
    case refine_13 =>
      intro a W hB hfr hd K' hK
      have e45 : a.tmps.getD 45 undef = .slice A1 X.length d1 := hd 11 _ _ rfl rfl (by kernel_rfl)
      have e45' : a.tmps[45]?.getD undef = .slice A1 X.length d1 := by simpa using e45
      refine Reg.step_value (v := .int .i64 (X.length : Int)) (w1 := W) ?_ (hK _ _ rfl (Below.refl _ _))
      clear hfr hd hK
      go_simp
    case refine_14 =>
      intro a W hB hfr hd K' hK
      have e46 : a.tmps.getD 46 undef = .int .i64 (X.length : Int) := hd 12 _ _ rfl rfl (by kernel_rfl)
      have e46' : a.tmps[46]?.getD undef = .int .i64 (X.length : Int) := by simpa using e46
      have hq : IntKind.u8.wrap (X.length : Int) = (X.length : Int) := by have := HLn.out; simp [IntKind.wrap, IntKind.bits, IntKind.signed]; omega
      refine Reg.step_value (v := .int .u8 (X.length : Int)) (w1 := W) ?_ (hK _ _ rfl (Below.refl _ _))
      clear hfr hd hK
      go_simp
    case refine_15 =>
      intro a W hB hfr hd K' hK
      have e47 : a.tmps.getD 47 undef = .int .u8 (X.length : Int) := hd 13 _ _ rfl rfl (by kernel_rfl)
      have e47' : a.tmps[47]?.getD undef = .int .u8 (X.length : Int) := by simpa using e47
      refine Reg.step_value (v := .slice (some ⟨W.heap.size, 0, none⟩) 2 2) (w1 := W.alloc (.cells #[.int .u8 (X.length : Int), .int .u8 0] 5)) ?_ (hK _ _ ⟨_, 2, rfl, by simp, lit_C W [(X.length : Int), 0] #[.int .u8 (X.length : Int), .int .u8 0] 5 (0, 0) rfl (by simp)⟩ (below_alloc (Below.refl _ _) _))
      clear hfr hd hK
      go_simp
    case refine_16 =>
      intro a W hB hfr hd K' hK
      have e1 : a.tmps.getD 1 undef = .slice (some adx) n1 c1 := (hfr 1 (by kernel_rfl)).trans rfl
      have e1' : a.tmps[1]?.getD undef = .slice (some adx) n1 c1 := by simpa using e1
      refine Reg.step_value (v := .slice (some adx) n1 c1) (w1 := W) ?_ (hK _ _ rfl (Below.refl _ _))
      clear hfr hd hK
      go_simp
    case refine_17 =>
      intro a W hB hfr hd K' hK
      have e49 : a.tmps.getD 49 undef = .slice (some adx) n1 c1 := hd 15 _ _ rfl rfl (by kernel_rfl)
      have e49' : a.tmps[49]?.getD undef = .slice (some adx) n1 c1 := by simpa using e49
      refine Reg.step_value (v := .pointer (some adx)) (w1 := W) ?_ (hK _ _ rfl (Below.refl _ _))
      clear hfr hd hK
      go_simp
    case refine_18 =>
      intro a W hB hfr hd K' hK
      have e50 : a.tmps.getD 50 undef = .pointer (some adx) := hd 16 _ _ rfl rfl (by kernel_rfl)
      have e50' : a.tmps[50]?.getD undef = .pointer (some adx) := by simpa using e50
      refine Reg.step_value (v := .pointer (some adx)) (w1 := W) ?_ (hK _ _ rfl (Below.refl _ _))
      clear hfr hd hK
      go_simp
    case refine_19 =>
      intro a W hB hfr hd K' hK
      have e51 : a.tmps.getD 51 undef = .pointer (some adx) := hd 17 _ _ rfl rfl (by kernel_rfl)
      have e51' : a.tmps[51]?.getD undef = .pointer (some adx) := by simpa using e51
      have hc : W.cell? adx = some (.int .i64 st) := pw_cell_below hB HX4.out.1
      refine Reg.step_value (v := .int .i64 st) (w1 := W) ?_ (hK _ _ rfl (Below.refl _ _))
      clear hfr hd hK
      go_simp
    case refine_20 =>
      intro a W hB hfr hd K' hK
      have e52 : a.tmps.getD 52 undef = .int .i64 st := hd 18 _ _ rfl rfl (by kernel_rfl)
      have e52' : a.tmps[52]?.getD undef = .int .i64 st := by simpa using e52
      refine Reg.step_call Try.func11 (by kernel_rfl) rfl #[.int .i64 st] rfl (by simp [Act.eval, e52']) ?_
      refine (binout_Code.calls 9 st (codeN st) W (Code_eq st)).mono ?_
      rintro e w' ⟨rfl, hb⟩
      exact ⟨_, rfl, hK _ _ rfl hb.below⟩
    case refine_21 =>
      intro a W hB hfr hd K' hK
      have e53 : a.tmps.getD 53 undef = .int .u16 (codeN st) := hd 19 _ _ rfl rfl (by kernel_rfl)
      have e53' : a.tmps[53]?.getD undef = .int .u16 (codeN st) := by simpa using e53
      refine Reg.step_call Try.func18 (by kernel_rfl) rfl #[.int .u16 (codeN st)] rfl (by simp [Act.eval, e53']) ?_
      refine (put16C _ (codeN_range st).1 (codeN_range st).2 W).mono ?_
      rintro e w' ⟨v, rfl, hO, hb⟩
      exact ⟨v, rfl, hK _ _ (row_of_R hO) hb⟩
    case refine_22 =>
      intro a W hB hfr hd K' hK
      have e7 : a.tmps.getD 7 undef = .slice BB body.length cb := (hfr 7 (by kernel_rfl)).trans rfl
      have e7' : a.tmps[7]?.getD undef = .slice BB body.length cb := by simpa using e7
      refine Reg.step_value (v := .slice BB body.length cb) (w1 := W) ?_ (hK _ _ rfl (Below.refl _ _))
      clear hfr hd hK
      go_simp
    case refine_23 =>
      intro a W hB hfr hd K' hK
      have e55 : a.tmps.getD 55 undef = .slice BB body.length cb := hd 21 _ _ rfl rfl (by kernel_rfl)
      have e55' : a.tmps[55]?.getD undef = .slice BB body.length cb := by simpa using e55
      refine Reg.step_value (v := .int .i64 (body.length : Int)) (w1 := W) ?_ (hK _ _ rfl (Below.refl _ _))
      clear hfr hd hK
      go_simp
    case refine_24 =>
      intro a W hB hfr hd K' hK
      have e56 : a.tmps.getD 56 undef = .int .i64 (body.length : Int) := hd 22 _ _ rfl rfl (by kernel_rfl)
      have e56' : a.tmps[56]?.getD undef = .int .i64 (body.length : Int) := by simpa using e56
      have hq : IntKind.u32.wrap (body.length : Int) = (body.length : Int) := u32_in _ (by omega) (by have := HLn.out; omega)
      refine Reg.step_value (v := .int .u32 (body.length : Int)) (w1 := W) ?_ (hK _ _ rfl (Below.refl _ _))
      clear hfr hd hK
      go_simp
    case refine_25 =>
      intro a W hB hfr hd K' hK
      have e57 : a.tmps.getD 57 undef = .int .u32 (body.length : Int) := hd 23 _ _ rfl rfl (by kernel_rfl)
      have e57' : a.tmps[57]?.getD undef = .int .u32 (body.length : Int) := by simpa using e57
      refine Reg.step_call Try.func19 (by kernel_rfl) rfl #[.int .u32 (body.length : Int)] rfl (by simp [Act.eval, e57']) ?_
      refine (put32C _ (by omega) (by have := HLn.out; omega) W).mono ?_
      rintro e w' ⟨v, rfl, hO, hb⟩
      exact ⟨v, rfl, hK _ _ (row_of_R hO) hb⟩
    case refine_26 =>
      intro a W hB hfr hd K' hK
      have e2 : a.tmps.getD 2 undef = .pointer (some ⟨w.heap.size, 0, none⟩) := (hfr 2 (by kernel_rfl)).trans rfl
      have e2' : a.tmps[2]?.getD undef = .pointer (some ⟨w.heap.size, 0, none⟩) := by simpa using e2
      refine Reg.step_value (v := .pointer (some ⟨w.heap.size, 1, none⟩)) (w1 := W) ?_ (hK _ _ rfl (Below.refl _ _))
      clear hfr hd hK
      go_simp
    case refine_27 =>
      intro a W hB hfr hd K' hK
      have e59 : a.tmps.getD 59 undef = .pointer (some ⟨w.heap.size, 1, none⟩) := hd 25 _ _ rfl rfl (by kernel_rfl)
      have e59' : a.tmps[59]?.getD undef = .pointer (some ⟨w.heap.size, 1, none⟩) := by simpa using e59
      refine Reg.step_value (v := .pointer (some ⟨w.heap.size, 4, none⟩)) (w1 := W) ?_ (hK _ _ rfl (Below.refl _ _))
      clear hfr hd hK
      go_simp
    case refine_28 =>
      intro a W hB hfr hd K' hK
      have e60 : a.tmps.getD 60 undef = .pointer (some ⟨w.heap.size, 4, none⟩) := hd 26 _ _ rfl rfl (by kernel_rfl)
      have e60' : a.tmps[60]?.getD undef = .pointer (some ⟨w.heap.size, 4, none⟩) := by simpa using e60
      have hc : W.cell? ⟨w.heap.size, 4, none⟩ = some (.int .u32 opq) := blk_cell (blk_any hB HK4.out) 4
      refine Reg.step_value (v := .int .u32 opq) (w1 := W) ?_ (hK _ _ rfl (Below.refl _ _))
      clear hfr hd hK
      go_simp
    case refine_29 =>
      intro a W hB hfr hd K' hK
      have e61 : a.tmps.getD 61 undef = .int .u32 opq := hd 27 _ _ rfl rfl (by kernel_rfl)
      have e61' : a.tmps[61]?.getD undef = .int .u32 opq := by simpa using e61
      refine Reg.step_call Try.func19 (by kernel_rfl) rfl #[.int .u32 opq] rfl (by simp [Act.eval, e61']) ?_
      refine (put32C _ HOpq.out.1 HOpq.out.2 W).mono ?_
      rintro e w' ⟨v, rfl, hO, hb⟩
      exact ⟨v, rfl, hK _ _ (row_of_R hO) hb⟩
    case refine_30 =>
      intro a W hB hfr hd K' hK
      have e6 : a.tmps.getD 6 undef = .int .u64 cc := (hfr 6 (by kernel_rfl)).trans rfl
      have e6' : a.tmps[6]?.getD undef = .int .u64 cc := by simpa using e6
      refine Reg.step_value (v := .int .u64 cc) (w1 := W) ?_ (hK _ _ rfl (Below.refl _ _))
      clear hfr hd hK
      go_simp
    case refine_31 =>
      intro a W hB hfr hd K' hK
      have e63 : a.tmps.getD 63 undef = .int .u64 cc := hd 29 _ _ rfl rfl (by kernel_rfl)
      have e63' : a.tmps[63]?.getD undef = .int .u64 cc := by simpa using e63
      refine Reg.step_call Try.func20 (by kernel_rfl) rfl #[.int .u64 cc] rfl (by simp [Act.eval, e63']) ?_
      refine (put64C cc W).mono ?_
      rintro e w' ⟨v, rfl, hO, hb⟩
      exact ⟨v, rfl, hK _ _ (row_of_R hO) hb⟩
    case refine_32 =>
      intro a W hB hfr hd K' hK
      have e7 : a.tmps.getD 7 undef = .slice BB body.length cb := (hfr 7 (by kernel_rfl)).trans rfl
      have e7' : a.tmps[7]?.getD undef = .slice BB body.length cb := by simpa using e7
      refine Reg.step_value (v := .slice BB body.length cb) (w1 := W) ?_ (hK _ _ rfl (Below.refl _ _))
      clear hfr hd hK
      go_simp
    case refine_33 =>
      intro a W hB hfr hd K' hK
      obtain ⟨B0, k0, r0, s0, t0⟩ := (show ∃ (A : Option Addr) (c : Nat), a.tmps.getD 38 undef = .slice A ([129, code % 256]).length c ∧ ([129, code % 256]).length ≤ c ∧ Kd.C (Kd.int .u8) W A ([129, code % 256]).length ([129, code % 256]) from hd 4 _ _ rfl rfl (by kernel_rfl))
      obtain ⟨B1, k1, r1, s1, t1⟩ := (show ∃ (A : Option Addr) (c : Nat), a.tmps.getD 43 undef = .slice A (putL2 (K.length : Int)).length c ∧ (putL2 (K.length : Int)).length ≤ c ∧ Kd.C (Kd.int .u8) W A (putL2 (K.length : Int)).length (putL2 (K.length : Int)) from hd 9 _ _ rfl rfl (by kernel_rfl))
      obtain ⟨B2, k2, r2, s2, t2⟩ := (show ∃ (A : Option Addr) (c : Nat), a.tmps.getD 48 undef = .slice A ([(X.length : Int), 0]).length c ∧ ([(X.length : Int), 0]).length ≤ c ∧ Kd.C (Kd.int .u8) W A ([(X.length : Int), 0]).length ([(X.length : Int), 0]) from hd 14 _ _ rfl rfl (by kernel_rfl))
      obtain ⟨B3, k3, r3, s3, t3⟩ := (show ∃ (A : Option Addr) (c : Nat), a.tmps.getD 54 undef = .slice A (putL2 (codeN st)).length c ∧ (putL2 (codeN st)).length ≤ c ∧ Kd.C (Kd.int .u8) W A (putL2 (codeN st)).length (putL2 (codeN st)) from hd 20 _ _ rfl rfl (by kernel_rfl))
      obtain ⟨B4, k4, r4, s4, t4⟩ := (show ∃ (A : Option Addr) (c : Nat), a.tmps.getD 58 undef = .slice A (putL4 (body.length : Int)).length c ∧ (putL4 (body.length : Int)).length ≤ c ∧ Kd.C (Kd.int .u8) W A (putL4 (body.length : Int)).length (putL4 (body.length : Int)) from hd 24 _ _ rfl rfl (by kernel_rfl))
      obtain ⟨B5, k5, r5, s5, t5⟩ := (show ∃ (A : Option Addr) (c : Nat), a.tmps.getD 62 undef = .slice A (putL4 opq).length c ∧ (putL4 opq).length ≤ c ∧ Kd.C (Kd.int .u8) W A (putL4 opq).length (putL4 opq) from hd 28 _ _ rfl rfl (by kernel_rfl))
      obtain ⟨B6, k6, r6, s6, t6⟩ := (show ∃ (A : Option Addr) (c : Nat), a.tmps.getD 64 undef = .slice A (putL8 cc).length c ∧ (putL8 cc).length ≤ c ∧ Kd.C (Kd.int .u8) W A (putL8 cc).length (putL8 cc) from hd 30 _ _ rfl rfl (by kernel_rfl))
      have r7 : a.tmps.getD 65 undef = .slice BB body.length cb := hd 31 _ _ rfl rfl (by kernel_rfl)
      have hbd := Kd.R_reads' (Kd.R_below HO.out hB)
      refine Reg.step_value (v := .slice (some ⟨W.heap.size, 0, none⟩) 8 8) (w1 := W.alloc (.cells #[.slice B0 ([129, code % 256]).length k0, .slice B1 (putL2 (K.length : Int)).length k1, .slice B2 ([(X.length : Int), 0]).length k2, .slice B3 (putL2 (codeN st)).length k3, .slice B4 (putL4 (body.length : Int)).length k4, .slice B5 (putL4 opq).length k5, .slice B6 (putL8 cc).length k6, .slice BB body.length cb] 22)) ?_ (hK _ _ ⟨_, 8, rfl, by simp, rows_C [[129, code % 256], putL2 (K.length : Int), [(X.length : Int), 0], putL2 (codeN st), putL4 (body.length : Int), putL4 opq, putL8 cc, body] _ (blk_new W _) (by simp) (eight_rows ⟨s0, s1, s2, s3, s4, s5, s6, hbd.2.1⟩ (Kd.C_alloc t0 _) (Kd.C_alloc t1 _) (Kd.C_alloc t2 _) (Kd.C_alloc t3 _) (Kd.C_alloc t4 _) (Kd.C_alloc t5 _) (Kd.C_alloc t6 _) (Kd.C_alloc hbd.2.2 _))⟩ (below_alloc (Below.refl _ _) _))
      clear hfr hd hK
      simp only [Array.getD_eq_getD_getElem?] at r0 r1 r2 r3 r4 r5 r6 r7
      go_simp
    case refine_34 =>
      intro a W hB hfr hd K' hK
      obtain ⟨A, c, e66, hl, hC⟩ := (show ∃ (A : Option Addr) (c : Nat), a.tmps.getD 66 undef = .slice A [[129, code % 256], putL2 (K.length : Int), [(X.length : Int), 0], putL2 (codeN st), putL4 (body.length : Int), putL4 opq, putL8 cc, body].length c ∧ [[129, code % 256], putL2 (K.length : Int), [(X.length : Int), 0], putL2 (codeN st), putL4 (body.length : Int), putL4 opq, putL8 cc, body].length ≤ c ∧ Kd.C (Kd.slice 5 (Kd.int .u8)) W A [[129, code % 256], putL2 (K.length : Int), [(X.length : Int), 0], putL2 (codeN st), putL4 (body.length : Int), putL4 opq, putL8 cc, body].length [[129, code % 256], putL2 (K.length : Int), [(X.length : Int), 0], putL2 (codeN st), putL4 (body.length : Int), putL4 opq, putL8 cc, body] from hd 32 _ _ rfl rfl (by kernel_rfl))
      have e66' : a.tmps[66]?.getD undef = _ := (by simpa using e66 : a.tmps[66]?.getD undef = .slice A 8 c)
      refine Reg.step_call Try.func17 (by kernel_rfl) rfl #[.slice A 8 c] rfl (by simp [Act.eval, e66']) ?_
      refine (slices_Concat_byte_byte.calls A c [[129, code % 256], putL2 (K.length : Int), [(X.length : Int), 0], putL2 (codeN st), putL4 (body.length : Int), putL4 opq, putL8 cc, body] (encRows code K.length X.length st body opq cc) W hC hl (concat8 HLn.out.2.2)).mono ?_
      rintro e w' ⟨v, rfl, hO, hb⟩
      exact ⟨v, rfl, hK _ _ (Kd.R_lower hO (Nat.le_trans HBw4.out.size hB.size)) hb⟩
    case refine_35 =>
      intro a W hB hfr hd K' hK
      have e67 : Kd.R (Kd.int .u8) 5 W w.heap.size (fun _ => True) (a.tmps.getD 67 undef) (encRows code K.length X.length st body opq cc) := hd 33 _ _ rfl rfl (by kernel_rfl)
      refine Reg.step_value (v := a.tmps.getD 67 undef) (w1 := W) ?_ (hK _ _ e67 (Below.refl _ _))
      clear hfr hd hK e67
      go_simp
    case refine_36 =>
      intro f W hB hall
      have hR : Kd.R (Kd.int .u8) 5 W w.heap.size (fun _ => True) (f 4) (encRows code K.length X.length st body opq cc) := hall 34 _ 4 rfl rfl
      have HR := Aside0.mk hR
      have HBf := Aside0.mk (below_step HBw4.out hB)
      clear hall hR hB
      simp only [List.filterMap_cons, List.filterMap_nil, List.map_cons, List.map_nil, Reg.putAll, Act.put, List.setIfInBounds_toArray, List.set_cons_zero, List.set_cons_succ]
      go_wp2

      go_ret
      rw [← HBody.out] at HR
      exact ⟨_, rfl, HR.out, HBf.out⟩)
set_option maxHeartbeats 4000000 in
set_option maxRecDepth 100000 in
theorem encode_nil0 (A0 : Option Addr) (c0 n0 : Nat) (a0_1 : Int) (a0_2 : ByteArray) (code opq : Int) (quiet a0_6 : Bool) (a0_7 : ByteArray) (A8 : Option Addr) (n8 c8 : Nat) (A9 : Option Addr) (n9 c9 : Nat) (a10 : Bool) (A1 : Option Addr) (c1 n1 : Nat) (w : World) (h : n0 = 0) : Calls Try.prog 10 #[.agg #[.slice A0 n0 c0, .int .i64 a0_1, .string a0_2, .int .i64 code, .int .u32 opq, .bool quiet, .bool a0_6, .string a0_7, .slice A8 n8 c8, .slice A9 n9 c9, .bool a10], .slice A1 n1 c1] w (fun e w' => ∃ v0_ : Value, e = .returned v0_ ∧ Kd.R (Kd.int .u8) 5 w' w.heap.size (fun _ => True) v0_ [] ∧ Below w.heap.size w w') := by
  have hu39 := Try.underlying39
  have hu46 := Try.underlying46
  have hu27 := Try.underlying27
  have hu22 := Try.underlying22
  have hu40 := Try.underlying40
  have hu34 := Try.underlying34
  have t1 : ((n0 : Int) == 0) = true := beq_iff_eq.mpr (by omega)
  clear h
  go_enter Try.func10, Try.ntmps10
  go_wp2
  go_quiet (fail)
  go_wp2
  go_ret
  exact ⟨_, rfl, Kd.R_nil _ _ _ _ _, by repeat (first | exact Below.refl _ _ | apply below_alloc | apply below_drew | apply pw_below_drewN)⟩
set_option maxHeartbeats 4000000 in
set_option maxRecDepth 100000 in
theorem encode_nil1 (A0 : Option Addr) (c0 n0 : Nat) (a0_1 : Int) (a0_2 : ByteArray) (code opq : Int) (quiet a0_6 : Bool) (a0_7 : ByteArray) (A8 : Option Addr) (n8 c8 : Nat) (A9 : Option Addr) (n9 c9 : Nat) (a10 : Bool) (A1 : Option Addr) (c1 n1 : Nat) (w : World) (h : n0 ≠ 0) (h1 : n1 = 0) : Calls Try.prog 10 #[.agg #[.slice A0 n0 c0, .int .i64 a0_1, .string a0_2, .int .i64 code, .int .u32 opq, .bool quiet, .bool a0_6, .string a0_7, .slice A8 n8 c8, .slice A9 n9 c9, .bool a10], .slice A1 n1 c1] w (fun e w' => ∃ v0_ : Value, e = .returned v0_ ∧ Kd.R (Kd.int .u8) 5 w' w.heap.size (fun _ => True) v0_ [] ∧ Below w.heap.size w w') := by
  have hu39 := Try.underlying39
  have hu46 := Try.underlying46
  have hu27 := Try.underlying27
  have hu22 := Try.underlying22
  have hu40 := Try.underlying40
  have hu34 := Try.underlying34
  have t1 : ((n0 : Int) == 0) = false := beq_eq_false_iff_ne.mpr (by omega)
  have t2 : ((n1 : Int) == 0) = true := beq_iff_eq.mpr (by omega)
  clear h h1
  go_enter Try.func10, Try.ntmps10
  go_wp2
  go_quiet (fail)
  go_wp2
  go_ret
  exact ⟨_, rfl, Kd.R_nil _ _ _ _ _, by repeat (first | exact Below.refl _ _ | apply below_alloc | apply below_drew | apply pw_below_drewN)⟩
set_option maxHeartbeats 4000000 in
set_option maxRecDepth 100000 in
theorem encode_silent (adc : Addr) (c0 n0 : Nat) (a0_1 : Int) (a0_2 : ByteArray) (code opq : Int) (quiet a0_6 : Bool) (a0_7 : ByteArray) (A8 : Option Addr) (n8 c8 : Nat) (A9 : Option Addr) (n9 c9 : Nat) (a10 : Bool) (adx : Addr) (st fl cas ttl num : Int) (AV : Option Addr) (nV cV : Nat) (b1 b2 b3 : Bool) (c1 n1 : Nat) (w : World)
    (hn0 : 0 < n0) (hn1 : 0 < n1) (hx : XAt w adx st fl cas ttl num AV nV cV b1 b2 b3)
    (HS : Aside0 (∀ W, Below w.heap.size w W → Calls Try.prog 15 #[.agg #[.slice (some adc) n0 c0, .int .i64 a0_1, .string a0_2, .int .i64 code, .int .u32 opq, .bool quiet, .bool a0_6, .string a0_7, .slice A8 n8 c8, .slice A9 n9 c9, .bool a10], .agg #[.int .i64 st, .slice AV nV cV, .int .u32 fl, .int .u64 cas, .int .i64 ttl, .int .u64 num, .bool b1, .bool b2, .bool b3]] W fun e w' => e = .returned (.bool true) ∧ Below W.heap.size W w')) :
    Calls Try.prog 10 #[.agg #[.slice (some adc) n0 c0, .int .i64 a0_1, .string a0_2, .int .i64 code, .int .u32 opq, .bool quiet, .bool a0_6, .string a0_7, .slice A8 n8 c8, .slice A9 n9 c9, .bool a10], .slice (some adx) n1 c1] w fun e w' => ∃ v0_ : Value, e = .returned v0_ ∧ Kd.R (Kd.int .u8) 5 w' w.heap.size (fun _ => True) v0_ [] ∧ Below w.heap.size w w' := by
  have hu39 := Try.underlying39
  have hu46 := Try.underlying46
  have hu27 := Try.underlying27
  have hu22 := Try.underlying22
  have hu40 := Try.underlying40
  have hu34 := Try.underlying34
  have t1 : ((n0 : Int) == 0) = false := beq_eq_false_iff_ne.mpr (by omega)
  have t2 : ((n1 : Int) == 0) = false := beq_eq_false_iff_ne.mpr (by omega)
  have hp : (0 : Int) < (n1 : Int) := by omega
  have HX := Aside0.mk hx
  have hx1 : ∀ o : Obj, XAt (w.alloc o) adx st fl cas ttl num AV nV cV b1 b2 b3 := fun o => hx.below (below_alloc (Below.refl _ _) o)
  unfold XAt at hx1
  obtain ⟨q0, q1, q2, q3, q4, q5, q6, q7, q8⟩ := hx1 (.cells #[.slice (some adc) n0 c0, .int .i64 a0_1, .string a0_2, .int .i64 code, .int .u32 opq, .bool quiet, .bool a0_6, .string a0_7, .slice A8 n8 c8, .slice A9 n9 c9, .bool a10] 39)
  clear hx hx1
  go_enter Try.func10, Try.ntmps10
  go_wp2
  go_region_held3 (fun w' => w'.cell? ⟨w.heap.size, 0, none⟩ = some (.slice (some adc) n0 c0) ∧ w'.cell? ⟨w.heap.size, 1, none⟩ = some (.int .i64 a0_1) ∧ w'.cell? ⟨w.heap.size, 2, none⟩ = some (.string a0_2) ∧ w'.cell? ⟨w.heap.size, 3, none⟩ = some (.int .i64 code) ∧ w'.cell? ⟨w.heap.size, 4, none⟩ = some (.int .u32 opq) ∧ w'.cell? ⟨w.heap.size, 5, none⟩ = some (.bool quiet) ∧ w'.cell? ⟨w.heap.size, 6, none⟩ = some (.bool a0_6) ∧ w'.cell? ⟨w.heap.size, 7, none⟩ = some (.string a0_7) ∧ w'.cell? ⟨w.heap.size, 8, none⟩ = some (.slice A8 n8 c8) ∧ w'.cell? ⟨w.heap.size, 9, none⟩ = some (.slice A9 n9 c9) ∧ w'.cell? ⟨w.heap.size, 10, none⟩ = some (.bool a10) ∧ w'.cell? adx = some (.int .i64 st) ∧ w'.cell? ⟨adx.block, adx.off + 1, none⟩ = some (.slice AV nV cV) ∧ w'.cell? ⟨adx.block, adx.off + 2, none⟩ = some (.int .u32 fl) ∧ w'.cell? ⟨adx.block, adx.off + 3, none⟩ = some (.int .u64 cas) ∧ w'.cell? ⟨adx.block, adx.off + 4, none⟩ = some (.int .i64 ttl) ∧ w'.cell? ⟨adx.block, adx.off + 5, none⟩ = some (.int .u64 num) ∧ w'.cell? ⟨adx.block, adx.off + 6, none⟩ = some (.bool b1) ∧ w'.cell? ⟨adx.block, adx.off + 7, none⟩ = some (.bool b2) ∧ w'.cell? ⟨adx.block, adx.off + 8, none⟩ = some (.bool b3)) (go_keep)
    ((first | (go_at_call 15; (refine (HS.out _ ?_).mono ?_); (repeat (first | exact Below.refl _ _ | apply below_alloc | apply below_drew | apply pw_below_drewN)); rintro e w1 ⟨rfl, hB⟩; clear q0 q1 q2 q3 q4 q5 q6 q7 q8; have hX := HX.out.below (show Below w.heap.size w w1 from below_step (by repeat (first | exact Below.refl _ _ | apply below_alloc | apply below_drew | apply pw_below_drewN)) hB); have hK := blk_any hB (blk_drew (blk_new w _)); have hBX := box_at adc c0 n0 a0_1 a0_2 code opq quiet a0_6 a0_7 A8 n8 c8 A9 n9 c9 a10 hK; unfold XAt at hX; unfold BoxAt at hBX; obtain ⟨q0, q1, q2, q3, q4, q5, q6, q7, q8⟩ := hX; obtain ⟨p0, p1, p2, p3, p4, p5, p6, p7, p8, p9, p10⟩ := hBX; have HK := Aside0.mk hK; have HB := Aside0.mk (below_step (show Below w.heap.size w _ from by repeat (first | exact Below.refl _ _ | apply below_alloc | apply below_drew | apply pw_below_drewN)) hB); clear hB hK)))
  go_wp2
  go_ret
  exact ⟨_, rfl, Kd.R_nil _ _ _ _ _, HB.out⟩
def encL (op : Int) (quiet : Bool) (code opq : Int) (key : ByteArray) (st : Int) (V : List Int) (fl cas num : Int) : List Int :=
  if silentB quiet op st = true then [] else encRows code (partsK st code key).length (partsX st fl).length st (partsX st fl ++ partsK st code key ++ partsV st num V) opq (partsC st cas)
theorem partsX_len (st fl : Int) : (partsX st fl).length ≤ 8 := by unfold partsX; split <;> simp [putL4]
theorem partsK_len (st code : Int) (key : ByteArray) : (partsK st code key).length ≤ key.size := by
  unfold partsK
  split
  · split
    · rw [bytesOf_length]; omega
    · simp
  · simp
theorem partsV_len (st num : Int) (V : List Int) : (partsV st num V).length ≤ V.length + 8 := by
  unfold partsV
  split
  · omega
  · split
    · simp [putL8]
    · split <;> simp
def binout_Encode.Ok (l0_0 : List S44) (a0_4 : Int) (l1 : List S46) : Prop := 0 ≤ (rd_T46 l1 0).f2 ∧ (rd_T46 l1 0).f2 < 4294967296 ∧ 0 ≤ a0_4 ∧ a0_4 < 4294967296 ∧ (rd_T44 l0_0 0).f1.size ≤ 65535 ∧ (rd_T46 l1 0).f1.length ≤ 800000
instance (l0_0 : List S44) (a0_4 : Int) (l1 : List S46) : Decidable (binout_Encode.Ok l0_0 a0_4 l1) := by unfold binout_Encode.Ok; infer_instance
def binout_Encode.f (l0_0 : List S44) (a0_1 : Int) (a0_2 : ByteArray) (a0_3 : Int) (a0_4 : Int) (a0_5 : Bool) (a0_6 : Bool) (a0_7 : ByteArray) (l0_8 : List ByteArray) (l0_9 : List ByteArray) (a0_10 : Bool) (l1 : List S46) : Option (List Int) :=
  if l0_0.length = 0 ∨ l1.length = 0 then some [] else if binout_Encode.Ok l0_0 a0_4 l1 then some (encL (rd_T44 l0_0 0).f0 a0_5 a0_3 a0_4 (rd_T44 l0_0 0).f1 (rd_T46 l1 0).f0 (rd_T46 l1 0).f1 (rd_T46 l1 0).f2 (rd_T46 l1 0).f3 (rd_T46 l1 0).f5) else none
theorem binout_Encode.calls (A0_0 : Option Addr) (c0_0 : Nat) (l0_0 : List (S44)) (a0_1 : Int) (a0_2 : ByteArray) (a0_3 : Int) (a0_4 : Int) (a0_5 : Bool) (a0_6 : Bool) (a0_7 : ByteArray) (A0_8 : Option Addr) (c0_8 : Nat) (l0_8 : List ByteArray) (A0_9 : Option Addr) (c0_9 : Nat) (l0_9 : List ByteArray) (a0_10 : Bool) (A1 : Option Addr) (c1 : Nat) (l1 : List (S46)) (r : List Int) (w : World)
    (hr0_0 : Kd.C k44 w A0_0 l0_0.length l0_0) (hc0_0 : l0_0.length ≤ c0_0) (hr0_8 : Kd.C Kd.string w A0_8 l0_8.length l0_8) (hc0_8 : l0_8.length ≤ c0_8) (hr0_9 : Kd.C Kd.string w A0_9 l0_9.length l0_9) (hc0_9 : l0_9.length ≤ c0_9) (hr1 : Kd.C k46 w A1 l1.length l1) (hc1 : l1.length ≤ c1)
    (h : binout_Encode.f l0_0 a0_1 a0_2 a0_3 a0_4 a0_5 a0_6 a0_7 l0_8 l0_9 a0_10 l1 = some r) :
    Calls Try.prog 10 #[.agg #[.slice A0_0 l0_0.length c0_0, .int .i64 a0_1, .string a0_2, .int .i64 a0_3, .int .u32 a0_4, .bool a0_5, .bool a0_6, .string a0_7, .slice A0_8 l0_8.length c0_8, .slice A0_9 l0_9.length c0_9, .bool a0_10], .slice A1 l1.length c1] w fun e w' => ∃ v0_ : Value, e = .returned (v0_) ∧ Kd.R (Kd.int .u8) 5 w' w.heap.size (fun _ => True) v0_ r ∧ Below w.heap.size w w' := by
  unfold binout_Encode.f at h
  by_cases h0 : l0_0.length = 0
  · rw [if_pos (.inl h0)] at h
    obtain rfl := Option.some.inj h
    exact encode_nil0 A0_0 c0_0 l0_0.length a0_1 a0_2 a0_3 a0_4 a0_5 a0_6 a0_7 A0_8 l0_8.length c0_8 A0_9 l0_9.length c0_9 a0_10 A1 c1 l1.length w h0
  · by_cases h1 : l1.length = 0
    · rw [if_pos (.inr h1)] at h
      obtain rfl := Option.some.inj h
      exact encode_nil1 A0_0 c0_0 l0_0.length a0_1 a0_2 a0_3 a0_4 a0_5 a0_6 a0_7 A0_8 l0_8.length c0_8 A0_9 l0_9.length c0_9 a0_10 A1 c1 l1.length w h0 h1
    · rw [if_neg (fun h => h.elim h0 h1)] at h
      by_cases hok : binout_Encode.Ok l0_0 a0_4 l1
      · rw [if_pos hok] at h
        obtain ⟨o1, o2, o3, o4, o5, o6⟩ := hok
        obtain ⟨adc, A2, c2, e0, z0, z1, _⟩ := at_T44 hr0_0 0 (by omega) (by omega)
        obtain ⟨adx, AV, cV, e1, x0, x1, x2, x3, x4, x5, x6, x7, x8, hcV, hV⟩ := at_T46 hr1 0 (by omega) (by omega)
        have a0 : ∀ (a : Addr) (n : Nat), a.add ((0 : Int).toNat * n) = a := fun a n => by rw [show (0 : Int).toNat = 0 from rfl, Nat.zero_mul]; simp [Addr.add]
        rw [a0] at z0 z1 x0 x1 x2 x3 x4 x5 x6 x7 x8
        subst e0
        subst e1
        have hS : ∀ b, silentB a0_5 (rd_T44 l0_0 0).f0 (rd_T46 l1 0).f0 = b → ∀ W, Below w.heap.size w W → _ := fun b hb W hB => binout_silent.calls 9 (some adc) c0_0 l0_0 a0_1 a0_2 a0_3 a0_4 a0_5 a0_6 a0_7 A0_8 c0_8 l0_8 A0_9 c0_9 l0_9 a0_10 (rd_T46 l1 0).f0 AV cV (rd_T46 l1 0).f1 (rd_T46 l1 0).f2 (rd_T46 l1 0).f3 (rd_T46 l1 0).f4 (rd_T46 l1 0).f5 (rd_T46 l1 0).f6 (rd_T46 l1 0).f7 (rd_T46 l1 0).f8 b W (Kd.C_below hr0_0 hB) hc0_0 (Kd.C_below hr0_8 hB) hc0_8 (Kd.C_below hr0_9 hB) hc0_9 (Kd.C_below hV hB) hcV (by rw [silent_eq _ _ _ _ _ _ _ _ _ _ _ _ _ _ _ _ _ _ _ _ (by omega), hb])
        have hX : XAt w adx (rd_T46 l1 0).f0 (rd_T46 l1 0).f2 (rd_T46 l1 0).f3 (rd_T46 l1 0).f4 (rd_T46 l1 0).f5 AV (rd_T46 l1 0).f1.length cV (rd_T46 l1 0).f6 (rd_T46 l1 0).f7 (rd_T46 l1 0).f8 := ⟨x0, x1, x2, x3, x4, x5, x6, x7, x8⟩
        unfold encL at h
        by_cases hs : silentB a0_5 (rd_T44 l0_0 0).f0 (rd_T46 l1 0).f0 = true
        · rw [if_pos hs] at h
          obtain rfl := Option.some.inj h
          exact encode_silent adc c0_0 l0_0.length a0_1 a0_2 a0_3 a0_4 a0_5 a0_6 a0_7 A0_8 l0_8.length c0_8 A0_9 l0_9.length c0_9 a0_10 adx _ _ _ _ _ _ _ _ _ _ _ c1 l1.length w (by omega) (by omega) hX ⟨hS true hs⟩
        · rw [if_neg hs] at h
          obtain rfl := Option.some.inj h
          have hP := fun W hB => parts_any l0_0.length c0_0 a0_1 a0_2 a0_3 a0_4 a0_5 a0_6 a0_7 A0_8 l0_8.length c0_8 A0_9 l0_9.length c0_9 a0_10 (rd_T46 l1 0).f0 AV (rd_T46 l1 0).f1 cV (rd_T46 l1 0).f2 (rd_T46 l1 0).f3 (rd_T46 l1 0).f4 (rd_T46 l1 0).f5 (rd_T46 l1 0).f6 (rd_T46 l1 0).f7 (rd_T46 l1 0).f8 w W hB hV hcV o1 o2 (rd_T44 l0_0 0).f1 o5 (by omega) adc z1
          have q1 := partsX_len (rd_T46 l1 0).f0 (rd_T46 l1 0).f2
          have q2 := partsK_len (rd_T46 l1 0).f0 a0_3 (rd_T44 l0_0 0).f1
          have q3 := partsV_len (rd_T46 l1 0).f0 (rd_T46 l1 0).f5 (rd_T46 l1 0).f1
          exact encode_full adc c0_0 l0_0.length a0_1 a0_2 a0_3 a0_4 a0_5 a0_6 a0_7 A0_8 l0_8.length c0_8 A0_9 l0_9.length c0_9 a0_10 adx _ _ _ _ _ _ _ _ _ _ _ c1 l1.length _ _ _ _ w (by omega) (by omega) hX ⟨hS false (by simpa using hs)⟩ ⟨hP⟩ ⟨⟨q1, by omega, by omega⟩⟩ ⟨⟨o3, o4⟩⟩
      · rw [if_neg hok] at h
        cases h

/-! ### butterylaw17_awake: function 6 -/
theorem row_one {α : Type} {d : Kd α} {W : World} {g t : Nat} {cs : Array Value} {x : α} (hk : W.heap[g]? = some (.cells cs t (0, 0))) (hK : d.K W x cs.toList) : d.C W (some ⟨g, 0, none⟩) 1 [x] := by
  refine ⟨rfl, by decide, fun _ => ⟨_, rfl, fun j p hj => ?_⟩⟩
  cases j with
  | succ j => simp at hj
  | zero =>
    obtain rfl : x = p := by simpa using hj
    refine ⟨cs.toList, d.K_len hK, hK, fun i u hu => ?_⟩
    rw [Nat.zero_mul, Nat.zero_add, add_plain, blk_cell hk, ← Array.getElem?_toList]
    exact hu
def awC : S44 := ⟨14, ⟨#[]⟩, [], 0, 0, 0, 0, 0, false, false⟩
def awX : S46 := ⟨10, [], 0, 0, 0, 0, false, false, false⟩
def awL : List Int := [129, 10, 0, 0, 0, 0, 0, 0, 0, 0, 0, 0, 0, 0, 0, 7, 0, 0, 0, 0, 0, 0, 0, 0]
theorem awF : binout_Encode.f [awC] 0 ⟨#[]⟩ 10 7 false false ⟨#[]⟩ [] [] false [awX] = some awL := by decide +kernel
def awBox : Obj := .cells #[.int .i64 14, .string ⟨#[]⟩, .slice none 0 0, .int .u32 0, .int .i64 0, .int .u64 0, .int .u64 0, .int .u64 0, .bool false, .bool false] 44
def awXs : Obj := .cells #[.int .i64 10, .slice none 0 0, .int .u32 0, .int .u64 0, .int .i64 0, .int .u64 0, .bool false, .bool false, .bool false] 46
theorem awEnc (w : World) (b : Obj) : Calls Try.prog 10 #[.agg #[.slice (some ⟨w.heap.size, 0, none⟩) 1 1, .int .i64 0, .string ⟨#[]⟩, .int .i64 10, .int .u32 7, .bool false, .bool false, .string ⟨#[]⟩, .slice none 0 0, .slice none 0 0, .bool false], .slice (some ⟨w.heap.size + 1 + 1, 0, none⟩) 1 1]
    (((w.alloc (.cells #[.int .i64 14, .string ⟨#[]⟩, .slice none 0 0, .int .u32 0, .int .i64 0, .int .u64 0, .int .u64 0, .int .u64 0, .bool false, .bool false] 44)).alloc b).alloc (.cells #[.int .i64 10, .slice none 0 0, .int .u32 0, .int .u64 0, .int .i64 0, .int .u64 0, .bool false, .bool false, .bool false] 46))
    fun e w' => ∃ v0_ : Value, e = .returned v0_ ∧ Kd.R (Kd.int .u8) 5 w' w.heap.size (fun _ => True) v0_ awL ∧ Below w.heap.size w w' := by
  refine (binout_Encode.calls (some ⟨w.heap.size, 0, none⟩) 1 [awC] 0 ⟨#[]⟩ 10 7 false false ⟨#[]⟩ none 0 [] none 0 [] false (some ⟨w.heap.size + 1 + 1, 0, none⟩) 1 [awX] awL _
    (row_one (blk_alloc (blk_alloc (blk_new w _) _) _) (k44_mk _ awC (Nat.le_refl _) (Kd.C_nil _ _))) (by simp) (Kd.C_nil _ _) (by simp) (Kd.C_nil _ _) (by simp)
    (row_one (blk3 w _ _ _) (k46_mk _ awX (Nat.le_refl _) (Kd.C_nil _ _))) (by simp) awF).mono ?_
  rintro e w' ⟨v, rfl, hO, hB⟩
  have hb := below_step (below_alloc (below_alloc (below_alloc (Below.refl w.heap.size w) _) _) _) hB
  exact ⟨v, rfl, Kd.R_lower hO (below_alloc (below_alloc (below_alloc (Below.refl w.heap.size w) _) _) _).size, hb⟩
theorem awRead (r : Res) (h : ReadIs awL r) : r.c = 10 ∧ r.s = 0 ∧ r.o = 7 ∧ r.u = 24 := by
  have h1 : ¬ ReadNone awL := by unfold ReadNone; decide
  have h2 : ¬ ReadShort awL := by unfold ReadShort; decide
  rw [h.2 h1 h2]
  decide
set_option maxHeartbeats 4000000 in
set_option maxRecDepth 100000 in
theorem awake_w (w : World) : Calls Try.prog 6 #[] w fun e w' => e = .returned (.bool true) ∧ Below w.heap.size w w' := by
  have hu39 := Try.underlying39
  have hu46 := Try.underlying46
  have hu27 := Try.underlying27
  have hu22 := Try.underlying22
  have hu40 := Try.underlying40
  have hu34 := Try.underlying34
  have hu37 := Try.underlying37
  have hu44 := Try.underlying44
  have HE := Aside0.mk (awEnc w)
  have HRd := Aside0.mk (fun (A : Option Addr) (c : Nat) (W : World) (h1 : Kd.C (Kd.int .u8) W A 24 awL) (h2 : 24 ≤ c) => binout_Read.calls A c awL W h1 h2 (by decide) (by decide))
  have HAw := Aside0.mk awRead
  have HCode := Aside0.mk (fun W => binout_Code.calls 9 1 1 W rfl)
  go_enter Try.func6, Try.ntmps6
  go_wp2_with (first | (go_at_call 10; refine (HE.out _).mono ?_; rintro e w1 ⟨v, rfl, hO, hB⟩; obtain ⟨A, c, hv, hl, hC⟩ := Kd.R_reads hO; subst hv; have hC' : Kd.C (Kd.int .u8) w1 A 24 awL := hC; obtain ⟨ad, hA, g0⟩ := Kd.at_int hC' 0 (by decide) (by decide); obtain ⟨ad', hA', g15⟩ := Kd.at_int hC' 15 (by decide) (by decide); subst hA; obtain rfl := Option.some.inj hA'; rw [show ad.add (0 : Int).toNat = ad by simp [Addr.add], show rd awL 0 = 129 from rfl] at g0; rw [show (15 : Int).toNat = 15 from rfl, add_pos ad 15 (by omega), show rd awL 15 = 7 from rfl] at g15; have HC1 := Aside0.mk hC'; have HB1 := Aside0.mk hB; have G0 := Aside0.mk g0; have G15 := Aside0.mk g15; have HL := Aside0.mk (show 24 ≤ c from hl); rw [show awL.length = 24 from rfl]; clear hO hB hC hC' g0 g15 hl HE) | (go_at_call 7; refine (HRd.out _ _ _ HC1.out HL.out).mono ?_; rintro e w2 ⟨r, A1, A2, A3, d1, d2, d3, rfl, _, _, _, _, _, _, hB, hR⟩; obtain ⟨rc, rs, ro, ru⟩ := HAw.out r hR; rw [rc, rs, ro, ru]; have g0 := pw_cell_below hB G0.out; have g15 := pw_cell_below hB G15.out; have ga0 : ∀ o : Obj, (w2.alloc o).cell? ad = some (.int .u8 129) := fun o => pw_cell_below (below_alloc (Below.refl _ _) o) g0; have ga15 : ∀ o : Obj, (w2.alloc o).cell? ⟨ad.block, ad.off + 15, none⟩ = some (.int .u8 7) := fun o => pw_cell_below (below_alloc (Below.refl _ _) o) g15; have HB2 := Aside0.mk (below_step HB1.out hB); clear hB HB1 HRd hR) | (go_at_call 11; refine (HCode.out _).mono ?_; rintro e w3 ⟨rfl, ⟨m, rfl⟩⟩))
  go_ret
  exact ⟨by first | rfl | simp, by repeat (with_reducible first | exact HB2.out | apply below_alloc | apply pw_below_drewN | apply below_drew | refine below_set ?_ (below_size HB2.out))⟩
def butterylaw17_awake.f : Option Bool := some true
theorem butterylaw17_awake.calls (r : Bool) (w : World) (h : butterylaw17_awake.f = some r) : Calls Try.prog 6 #[] w fun e w' => e = .returned (.bool r) ∧ Below w.heap.size w w' := by
  obtain rfl := Option.some.inj h
  exact awake_w w

/-! ### butteryref17_Read: function 8 -/
def RefPost (l0 : List Int) (w : World) (e : Ending) (w' : World) : Prop :=
  ∃ (r : Res) (A1 A2 A3 : Option Addr) (c1 c2 c3 : Nat), e = .returned (.agg #[.int .i64 r.c, .int .u16 r.s, .int .u32 r.o, .int .u64 r.q, .slice A1 r.x.length c1, .slice A2 r.k.length c2, .slice A3 r.v.length c3, .int .i64 r.u]) ∧
    Kd.C (Kd.int .u8) w' A1 r.x.length r.x ∧ Kd.C (Kd.int .u8) w' A2 r.k.length r.k ∧ Kd.C (Kd.int .u8) w' A3 r.v.length r.v ∧ Below w.heap.size w w' ∧ ReadIs l0 r
theorem refPost_zero {l0 : List Int} {w w' : World} (hB : Below w.heap.size w w') (h : ReadNone l0 ∨ ReadShort l0) : RefPost l0 w (.returned (.agg #[.int .i64 0, .int .u16 0, .int .u32 0, .int .u64 0, .slice none 0 0, .slice none 0 0, .slice none 0 0, .int .i64 0])) w' :=
  ⟨zeroRes, none, none, none, 0, 0, 0, rfl, Kd.C_nil _ _, Kd.C_nil _ _, Kd.C_nil _ _, hB, fun _ => rfl, fun h1 h2 => absurd h (fun h => h.elim h1 h2)⟩
theorem rgetC (A : Option Addr) (n c : Nat) (l : List Int) (hb : ∀ x ∈ l, 0 ≤ x ∧ x ≤ 255) (hn : l.length = n) (h8 : n ≤ 8) (hc : n ≤ c) (w W : World) (hB : Below w.heap.size w W) (hC : Kd.C (Kd.int .u8) w A n l) :
    Calls Try.prog 14 #[.slice A n c] W fun e w' => e = .returned (.int .u64 (be l)) ∧ Drawn0 W w' := by
  subst hn
  exact butteryref01_Get.calls 9 A c l (be l) W (Kd.C_below hC hB) hc (rget_be l hb h8)
set_option maxHeartbeats 1000000 in
set_option maxRecDepth 100000 in
theorem rread_short (A0 : Option Addr) (c0 : Nat) (l0 : List Int) (w : World) (hr0 : Kd.C (Kd.int .u8) w A0 l0.length l0) (hc0 : l0.length ≤ c0) (h : l0.length < 24) :
    Calls Try.prog 8 #[.slice A0 l0.length c0] w (RefPost l0 w) := by
  have hh : ((l0.length : Int) < 24) := by omega
  go_enter Try.func8, Try.ntmps8
  go_wp2
  refine bodyPost_ret (v := .agg #[.int .i64 0, .int .u16 0, .int .u32 0, .int .u64 0, .slice none 0 0, .slice none 0 0, .slice none 0 0, .int .i64 0]) (by simp [results, Try.results8, go_sem]) rfl ?_
  exact refPost_zero (by repeat (first | exact Below.refl _ _ | apply below_alloc | refine below_set ?_ (Nat.le_refl _))) (.inl (.inl h))
set_option maxHeartbeats 1000000 in
set_option maxRecDepth 100000 in
theorem rread_other (A0 : Option Addr) (c0 : Nat) (l0 : List Int) (w : World) (hr0 : Kd.C (Kd.int .u8) w A0 l0.length l0) (hc0 : l0.length ≤ c0) (h : 24 ≤ l0.length) (h1 : rd l0 0 ≠ 129) :
    Calls Try.prog 8 #[.slice A0 l0.length c0] w (RefPost l0 w) := by
  obtain ⟨ad, hA, hcell⟩ := Kd.at_int hr0 0 (by omega) (by omega)
  have ha0 : ad.add (0 : Int).toNat = ad := by simp [Addr.add]
  rw [ha0] at hcell
  subst hA
  have hm := hr0.2.1
  have hh : ((l0.length : Int) < 24) = False := eq_false (by omega)
  have hp : (0 : Int) < (l0.length : Int) := by omega
  have hd : decide ((l0.length : Int) < 24) = false := decide_eq_false (by omega)
  have hx : (rd l0 0 != 129) = true := bne_iff_ne.mpr h1
  have hcA : ∀ o : Obj, (w.alloc o).cell? ad = some (.int .u8 (rd l0 0)) := fun o => pw_cell_below (below_alloc (Below.refl _ _) o) hcell
  have HX := Aside0.mk h1
  clear hr0 h1 ha0
  go_enter Try.func8, Try.ntmps8
  go_wp2
  refine bodyPost_ret (v := .agg #[.int .i64 0, .int .u16 0, .int .u32 0, .int .u64 0, .slice none 0 0, .slice none 0 0, .slice none 0 0, .int .i64 0]) (by simp [results, Try.results8, go_sem]) rfl ?_
  exact refPost_zero (by repeat (first | exact Below.refl _ _ | apply below_alloc | refine below_set ?_ (Nat.le_refl _))) (.inl (.inr HX.out))
set_option maxHeartbeats 2000000 in
set_option maxRecDepth 100000 in
theorem rread_small (A0 : Option Addr) (c0 : Nat) (l0 : List Int) (w : World) (hr0 : Kd.C (Kd.int .u8) w A0 l0.length l0) (hc0 : l0.length ≤ c0) (h : 24 ≤ l0.length) (h1 : rd l0 0 = 129) (hb : ∀ x ∈ l0, 0 ≤ x ∧ x ≤ 255) (hm6 : l0.length ≤ 1000000) (hsh : ReadShort l0) :
    Calls Try.prog 8 #[.slice A0 l0.length c0] w (RefPost l0 w) := by
  obtain ⟨ad, hA, hcell⟩ := Kd.at_int hr0 0 (by omega) (by omega)
  have ha0 : ad.add (0 : Int).toNat = ad := by simp [Addr.add]
  rw [ha0] at hcell
  subst hA
  obtain ⟨ad1, hA1, hcell4⟩ := Kd.at_int hr0 4 (by omega) (by omega)
  obtain rfl := Option.some.inj hA1
  rw [show (4 : Int).toNat = 4 from rfl, add_pos ad 4 (by omega)] at hcell4
  obtain ⟨A2, hs2, hC2⟩ := cutC (some ad) c0 l0 2 4 (by omega) (by omega) hc0
  obtain ⟨A8, hs8, hC8⟩ := cutC (some ad) c0 l0 8 12 (by omega) (by omega) hc0
  replace hs2 : ∀ W : World, (Instr.slice 22 (.slice (some ad) l0.length c0) (some (.int .i64 2)) (some (.int .i64 4)) none).run Try.prog W = .ok (.slice A2 2 (c0 - 2)) W := hs2
  have HG2 := Aside0.mk (fun W hB => rgetC A2 2 (c0 - 2) (cut l0 2 4) (cut_bytes 2 4 hb) (cut_len l0 2 4 (by omega)) (by omega) (by omega) w W hB (hC2 w hr0))
  replace hs8 : ∀ W : World, (Instr.slice 22 (.slice (some ad) l0.length c0) (some (.int .i64 8)) (some (.int .i64 12)) none).run Try.prog W = .ok (.slice A8 4 (c0 - 8)) W := hs8
  have HG8 := Aside0.mk (fun W hB => rgetC A8 4 (c0 - 8) (cut l0 8 12) (cut_bytes 8 12 hb) (cut_len l0 8 12 (by omega)) (by omega) (by omega) w W hB (hC8 w hr0))
  have hm := hr0.2.1
  have hd : decide ((l0.length : Int) < 24) = false := decide_eq_false (by omega)
  have hx : (rd l0 0 != 129) = false := bne_eq_false_iff_eq.mpr h1
  have hcA : ∀ o : Obj, (w.alloc o).cell? ad = some (.int .u8 (rd l0 0)) := fun o => pw_cell_below (below_alloc (Below.refl _ _) o) hcell
  have hcB : ∀ o : Obj, (w.alloc o).cell? ⟨ad.block, ad.off + 4, none⟩ = some (.int .u8 (rd l0 4)) := fun o => pw_cell_below (below_alloc (Below.refl _ _) o) hcell4
  have hp : (0 : Int) < (l0.length : Int) := by omega
  have hb4 := byte_at l0 4 hb
  have hz := be_range (cut l0 8 12) (cut_bytes 8 12 hb)
  rw [cut_len l0 8 12 (by omega), show (256 : Int) ^ (12 - 8) = 4294967296 from rfl] at hz
  have hk := be_range (cut l0 2 4) (cut_bytes 2 4 hb)
  rw [cut_len l0 2 4 (by omega), show (256 : Int) ^ (4 - 2) = 65536 from rfl] at hk
  obtain ⟨hz0, hz1⟩ := hz
  obtain ⟨hk0, hk1⟩ := hk
  obtain ⟨hb0, hb1⟩ := hb4
  have HSH := Aside0.mk hsh
  have HR := Aside0.mk hr0
  have HBY := Aside0.mk hb
  have p4 : (4 : Int) < (l0.length : Int) := by omega
  clear hr0 h1 ha0 hb hC2 hC8 hcell hcell4
  have hsh' := hsh
  unfold ReadShort at hsh
  have e4 : rd l0 ((4 : Nat) : Int) = rd l0 4 := rfl
  rw [e4] at hb0 hb1
  clear e4 hsh'
  generalize rd l0 4 = x at *
  generalize be (cut l0 2 4) = k at *
  generalize be (cut l0 8 12) = z at *
  generalize rd l0 0 = y at *
  by_cases q1 : 1048576 ≤ z
  · have r1 : decide (z ≥ 1048576) = true := decide_eq_true q1
    go_enter Try.func8, Try.ntmps8
    go_wp2_with (first | (go_at_call 14; (with_reducible refine (HG2.out _ ?_).mono ?_); (repeat (with_reducible first | exact Below.refl _ _ | apply below_alloc | apply below_drew | apply pw_below_drewN | refine below_set ?_ (Nat.le_refl _))); rintro e w' ⟨rfl, ⟨m, rfl⟩⟩) | (go_at_call 14; (with_reducible refine (HG8.out _ ?_).mono ?_); (repeat (with_reducible first | exact Below.refl _ _ | apply below_alloc | apply below_drew | apply pw_below_drewN | refine below_set ?_ (Nat.le_refl _))); rintro e w' ⟨rfl, ⟨m, rfl⟩⟩))
    refine bodyPost_ret (v := .agg #[.int .i64 0, .int .u16 0, .int .u32 0, .int .u64 0, .slice none 0 0, .slice none 0 0, .slice none 0 0, .int .i64 0]) (by simp [results, Try.results8, go_sem]) rfl ?_
    exact refPost_zero (by repeat (with_reducible first | exact Below.refl _ _ | apply below_alloc | apply below_drew | apply pw_below_drewN | refine below_set ?_ (Nat.le_refl _))) (.inr HSH.out)
  · have r1 : decide (z ≥ 1048576) = false := decide_eq_false q1
    by_cases q2 : (l0.length : Int) < 24 + z
    · have r2 : decide ((l0.length : Int) < 24 + z) = true := decide_eq_true q2
      go_enter Try.func8, Try.ntmps8
      go_wp2_with (first | (go_at_call 14; (with_reducible refine (HG2.out _ ?_).mono ?_); (repeat (with_reducible first | exact Below.refl _ _ | apply below_alloc | apply below_drew | apply pw_below_drewN | refine below_set ?_ (Nat.le_refl _))); rintro e w' ⟨rfl, ⟨m, rfl⟩⟩) | (go_at_call 14; (with_reducible refine (HG8.out _ ?_).mono ?_); (repeat (with_reducible first | exact Below.refl _ _ | apply below_alloc | apply below_drew | apply pw_below_drewN | refine below_set ?_ (Nat.le_refl _))); rintro e w' ⟨rfl, ⟨m, rfl⟩⟩))
      refine bodyPost_ret (v := .agg #[.int .i64 0, .int .u16 0, .int .u32 0, .int .u64 0, .slice none 0 0, .slice none 0 0, .slice none 0 0, .int .i64 0]) (by simp [results, Try.results8, go_sem]) rfl ?_
      exact refPost_zero (by repeat (with_reducible first | exact Below.refl _ _ | apply below_alloc | apply below_drew | apply pw_below_drewN | refine below_set ?_ (Nat.le_refl _))) (.inr HSH.out)
    · have r2 : decide ((l0.length : Int) < 24 + z) = false := decide_eq_false q2
      have q3 : z < x + k := by rcases hsh with h | h | h <;> omega
      have r3 : decide (x + k > z) = true := decide_eq_true q3
      go_enter Try.func8, Try.ntmps8
      go_wp2_with (first | (go_at_call 14; (with_reducible refine (HG2.out _ ?_).mono ?_); (repeat (with_reducible first | exact Below.refl _ _ | apply below_alloc | apply below_drew | apply pw_below_drewN | refine below_set ?_ (Nat.le_refl _))); rintro e w' ⟨rfl, ⟨m, rfl⟩⟩) | (go_at_call 14; (with_reducible refine (HG8.out _ ?_).mono ?_); (repeat (with_reducible first | exact Below.refl _ _ | apply below_alloc | apply below_drew | apply pw_below_drewN | refine below_set ?_ (Nat.le_refl _))); rintro e w' ⟨rfl, ⟨m, rfl⟩⟩))
      refine bodyPost_ret (v := .agg #[.int .i64 0, .int .u16 0, .int .u32 0, .int .u64 0, .slice none 0 0, .slice none 0 0, .slice none 0 0, .int .i64 0]) (by simp [results, Try.results8, go_sem]) rfl ?_
      exact refPost_zero (by repeat (with_reducible first | exact Below.refl _ _ | apply below_alloc | apply below_drew | apply pw_below_drewN | refine below_set ?_ (Nat.le_refl _))) (.inr HSH.out)
theorem cut_take (l : List Int) (a x z : Nat) (h : x ≤ z) : (cut l a (a + z)).take x = cut l a (a + x) := by
  unfold cut
  rw [List.take_drop, List.take_take, Nat.min_eq_left (by omega)]
theorem cut_cut (l : List Int) (a x k z : Nat) (h : x + k ≤ z) : cut (cut l a (a + z)) x (x + k) = cut l (a + x) (a + x + k) := by
  unfold cut
  rw [List.take_drop, List.take_take, Nat.min_eq_left (by omega), List.drop_drop, Nat.add_assoc]
theorem cut_drop (l : List Int) (a x z : Nat) : (cut l a (a + z)).drop x = cut l (a + x) (a + z) := by
  unfold cut
  rw [List.drop_drop]
set_option maxHeartbeats 4000000 in
set_option maxRecDepth 100000 in
theorem rread_full (A0 : Option Addr) (c0 : Nat) (l0 : List Int) (w : World) (hr0 : Kd.C (Kd.int .u8) w A0 l0.length l0) (hc0 : l0.length ≤ c0) (h : 24 ≤ l0.length) (h1 : rd l0 0 = 129) (hb : ∀ x ∈ l0, 0 ≤ x ∧ x ≤ 255) (hm6 : l0.length ≤ 1000000) (hsh : ¬ ReadShort l0) :
    Calls Try.prog 8 #[.slice A0 l0.length c0] w (RefPost l0 w) := by
  have HNS := Aside0.mk (show ¬ (ReadNone l0 ∨ ReadShort l0) from fun h => h.elim (fun h => h.elim (by omega) (fun h => h h1)) hsh)
  obtain ⟨ad, hA, hcell⟩ := Kd.at_int hr0 0 (by omega) (by omega)
  have ha0 : ad.add (0 : Int).toNat = ad := by simp [Addr.add]
  rw [ha0] at hcell
  subst hA
  obtain ⟨ad1, hA1, hcell4⟩ := Kd.at_int hr0 4 (by omega) (by omega)
  obtain rfl := Option.some.inj hA1
  rw [show (4 : Int).toNat = 4 from rfl, add_pos ad 4 (by omega)] at hcell4
  obtain ⟨A2, hs2, hC2⟩ := cutC (some ad) c0 l0 2 4 (by omega) (by omega) hc0
  obtain ⟨A8, hs8, hC8⟩ := cutC (some ad) c0 l0 8 12 (by omega) (by omega) hc0
  replace hs2 : ∀ W : World, (Instr.slice 22 (.slice (some ad) l0.length c0) (some (.int .i64 2)) (some (.int .i64 4)) none).run Try.prog W = .ok (.slice A2 2 (c0 - 2)) W := hs2
  obtain ⟨ad2, hA2, hcell1⟩ := Kd.at_int hr0 1 (by omega) (by omega)
  obtain rfl := Option.some.inj hA2
  rw [show (1 : Int).toNat = 1 from rfl, add_pos ad 1 (by omega)] at hcell1
  obtain ⟨A6, hs6, hC6⟩ := cutC (some ad) c0 l0 6 8 (by omega) (by omega) hc0
  obtain ⟨A12, hs12, hC12⟩ := cutC (some ad) c0 l0 12 16 (by omega) (by omega) hc0
  obtain ⟨A16, hs16, hC16⟩ := cutC (some ad) c0 l0 16 24 (by omega) (by omega) hc0
  replace hs6 : ∀ W : World, (Instr.slice 22 (.slice (some ad) l0.length c0) (some (.int .i64 6)) (some (.int .i64 8)) none).run Try.prog W = .ok (.slice A6 2 (c0 - 6)) W := hs6
  have HG6 := Aside0.mk (fun W hB => rgetC A6 2 (c0 - 6) (cut l0 6 8) (cut_bytes 6 8 hb) (cut_len l0 6 8 (by omega)) (by omega) (by omega) w W hB (hC6 w hr0))
  replace hs12 : ∀ W : World, (Instr.slice 22 (.slice (some ad) l0.length c0) (some (.int .i64 12)) (some (.int .i64 16)) none).run Try.prog W = .ok (.slice A12 4 (c0 - 12)) W := hs12
  have HG12 := Aside0.mk (fun W hB => rgetC A12 4 (c0 - 12) (cut l0 12 16) (cut_bytes 12 16 hb) (cut_len l0 12 16 (by omega)) (by omega) (by omega) w W hB (hC12 w hr0))
  replace hs16 : ∀ W : World, (Instr.slice 22 (.slice (some ad) l0.length c0) (some (.int .i64 16)) (some (.int .i64 24)) none).run Try.prog W = .ok (.slice A16 8 (c0 - 16)) W := hs16
  have HG16 := Aside0.mk (fun W hB => rgetC A16 8 (c0 - 16) (cut l0 16 24) (cut_bytes 16 24 hb) (cut_len l0 16 24 (by omega)) (by omega) (by omega) w W hB (hC16 w hr0))
  have HG2 := Aside0.mk (fun W hB => rgetC A2 2 (c0 - 2) (cut l0 2 4) (cut_bytes 2 4 hb) (cut_len l0 2 4 (by omega)) (by omega) (by omega) w W hB (hC2 w hr0))
  replace hs8 : ∀ W : World, (Instr.slice 22 (.slice (some ad) l0.length c0) (some (.int .i64 8)) (some (.int .i64 12)) none).run Try.prog W = .ok (.slice A8 4 (c0 - 8)) W := hs8
  have HG8 := Aside0.mk (fun W hB => rgetC A8 4 (c0 - 8) (cut l0 8 12) (cut_bytes 8 12 hb) (cut_len l0 8 12 (by omega)) (by omega) (by omega) w W hB (hC8 w hr0))
  have hm := hr0.2.1
  have hd : decide ((l0.length : Int) < 24) = false := decide_eq_false (by omega)
  have hx : (rd l0 0 != 129) = false := bne_eq_false_iff_eq.mpr h1
  have hcA : ∀ o : Obj, (w.alloc o).cell? ad = some (.int .u8 (rd l0 0)) := fun o => pw_cell_below (below_alloc (Below.refl _ _) o) hcell
  have hcB : ∀ o : Obj, (w.alloc o).cell? ⟨ad.block, ad.off + 4, none⟩ = some (.int .u8 (rd l0 4)) := fun o => pw_cell_below (below_alloc (Below.refl _ _) o) hcell4
  have hp : (0 : Int) < (l0.length : Int) := by omega
  have hb4 := byte_at l0 4 hb
  have hz := be_range (cut l0 8 12) (cut_bytes 8 12 hb)
  rw [cut_len l0 8 12 (by omega), show (256 : Int) ^ (12 - 8) = 4294967296 from rfl] at hz
  have hk := be_range (cut l0 2 4) (cut_bytes 2 4 hb)
  rw [cut_len l0 2 4 (by omega), show (256 : Int) ^ (4 - 2) = 65536 from rfl] at hk
  obtain ⟨hz0, hz1⟩ := hz
  obtain ⟨hk0, hk1⟩ := hk
  obtain ⟨hb0, hb1⟩ := hb4
  have hcD : ∀ o : Obj, (w.alloc o).cell? ⟨ad.block, ad.off + 1, none⟩ = some (.int .u8 (rd l0 1)) := fun o => pw_cell_below (below_alloc (Below.refl _ _) o) hcell1
  have HC1 := Aside0.mk hcell1
  have hadlt := World.block_lt_of_cell? w ad hcell
  unfold ReadShort at hsh
  have hu := Try.underlying22
  have h6 := be_range (cut l0 6 8) (cut_bytes 6 8 hb)
  rw [cut_len l0 6 8 (by omega), show (256 : Int) ^ (8 - 6) = 65536 from rfl] at h6
  have h12 := be_range (cut l0 12 16) (cut_bytes 12 16 hb)
  rw [cut_len l0 12 16 (by omega), show (256 : Int) ^ (16 - 12) = 4294967296 from rfl] at h12
  have w6 := u16_in _ h6.1 h6.2
  have w12 := u32_in _ h12.1 h12.2
  have hb9 := byte_at l0 1 hb
  obtain ⟨hb90, hb91⟩ := hb9
  have e1 : rd l0 ((1 : Nat) : Int) = rd l0 1 := rfl
  rw [e1] at hb90 hb91
  clear e1
  clear h6 h12
  obtain ⟨FR, hFR⟩ : ∃ FR, fullRes l0 = FR := ⟨_, rfl⟩
  have HFR := Aside0.mk hFR
  unfold fullRes at hFR
  have HFull := Aside0.mk hFR
  clear hFR
  have HR := Aside0.mk hr0
  have HBY := Aside0.mk hb
  have p1 : (1 : Int) < (l0.length : Int) := by omega
  have p4 : (4 : Int) < (l0.length : Int) := by omega
  clear h1 ha0 hb hC2 hC8 hcell hcell4 hcell1 hC6 hC12 hC16
  have e4 : rd l0 ((4 : Nat) : Int) = rd l0 4 := rfl
  rw [e4] at hb0 hb1
  clear e4
  generalize rd l0 1 = cc at *
  generalize be (cut l0 6 8) = ss at *
  generalize be (cut l0 12 16) = oo at *
  generalize be (cut l0 16 24) = qq at *
  generalize rd l0 4 = x at *
  generalize be (cut l0 2 4) = k at *
  generalize be (cut l0 8 12) = z at *
  generalize rd l0 0 = y at *
  obtain ⟨z, rfl⟩ := Int.eq_ofNat_of_zero_le hz0
  obtain ⟨x, rfl⟩ := Int.eq_ofNat_of_zero_le hb0
  obtain ⟨k, rfl⟩ := Int.eq_ofNat_of_zero_le hk0
  have q1 : ¬ (1048576 ≤ (z : Int)) := fun h => hsh (.inl h)
  have q2 : ¬ ((l0.length : Int) < 24 + (z : Int)) := fun h => hsh (.inr (.inl h))
  have q3 : ¬ ((z : Int) < (x : Int) + (k : Int)) := fun h => hsh (.inr (.inr h))
  clear hsh hz0 hb0 hk0
  have ne0 : w.heap.size ≠ ad.block := by omega
  obtain ⟨A1, hs1, hC1⟩ := cutC (some ad) c0 l0 24 (24 + x) (by omega) (by omega) hc0
  obtain ⟨A2', hs2', hC2'⟩ := cutC (some ad) c0 l0 (24 + x) (24 + x + k) (by omega) (by omega) hc0
  obtain ⟨A3, hs3, hC3⟩ := cutC (some ad) c0 l0 (24 + x + k) (24 + z) (by omega) (by omega) hc0
  obtain ⟨n3, hn3⟩ : ∃ n, 24 + z - (24 + x + k) = n := ⟨_, rfl⟩
  obtain ⟨d1, hd1⟩ : ∃ n, c0 - 24 = n := ⟨_, rfl⟩
  obtain ⟨d2, hd2⟩ : ∃ n, c0 - (24 + x) = n := ⟨_, rfl⟩
  obtain ⟨d3, hd3⟩ : ∃ n, c0 - (24 + x + k) = n := ⟨_, rfl⟩
  rw [show 24 + x - 24 = x by omega] at hs1 hC1
  rw [show 24 + x + k - (24 + x) = k by omega] at hs2' hC2'
  rw [hn3] at hs3 hC3
  rw [hd1] at hs1
  rw [hd2] at hs2'
  rw [hd3] at hs3
  replace hs1 : ∀ W : World, (Instr.slice 22 (.slice (some ad) l0.length c0) (some (.int .i64 24)) (some (.int .i64 (24 + (x : Int)))) none).run Try.prog W = .ok (.slice A1 x d1) W := hs1
  replace hs2' : ∀ W : World, (Instr.slice 22 (.slice (some ad) l0.length c0) (some (.int .i64 (24 + (x : Int)))) (some (.int .i64 (24 + (x : Int) + (k : Int)))) none).run Try.prog W = .ok (.slice A2' k d2) W := hs2'
  replace hs3 : ∀ W : World, (Instr.slice 22 (.slice (some ad) l0.length c0) (some (.int .i64 (24 + (x : Int) + (k : Int)))) (some (.int .i64 (24 + (z : Int)))) none).run Try.prog W = .ok (.slice A3 n3 d3) W := hs3
  have HC3 := Aside0.mk (And.intro (hC1 w hr0) (And.intro (hC2' w hr0) (hC3 w hr0)))
  simp only [Int.toNat_natCast] at HFull
  rw [cut_take l0 24 x z (by omega), cut_cut l0 24 x k z (by omega), cut_drop l0 24 (x + k) z, ← Nat.add_assoc] at HFull
  have HL := Aside0.mk (And.intro (cut_len l0 24 (24 + x) (by omega)) (And.intro (cut_len l0 (24 + x) (24 + x + k) (by omega)) (cut_len l0 (24 + x + k) (24 + z) (by omega))))
  rw [show 24 + x - 24 = x by omega, show 24 + x + k - (24 + x) = k by omega, hn3] at HL
  generalize cut l0 24 (24 + x) = P1 at *
  generalize cut l0 (24 + x) (24 + x + k) = P2 at *
  generalize cut l0 (24 + x + k) (24 + z) = P3 at *
  have r1 : decide ((z : Int) ≥ 1048576) = false := decide_eq_false q1
  have r2 : decide ((l0.length : Int) < 24 + (z : Int)) = false := decide_eq_false q2
  have r3 : decide ((x : Int) + (k : Int) > (z : Int)) = false := decide_eq_false q3
  clear hC1 hC2' hC3 hr0 hn3 hd1 hd2 hd3
  go_enter Try.func8, Try.ntmps8
  go_wp2_with (first | (go_at_call 14; (with_reducible refine (HG2.out _ ?_).mono ?_); (repeat (with_reducible first | exact Below.refl _ _ | apply below_alloc | apply below_drew | apply pw_below_drewN | refine below_set ?_ (Nat.le_refl _))); rintro e w' ⟨rfl, ⟨m, rfl⟩⟩) | (go_at_call 14; (with_reducible refine (HG8.out _ ?_).mono ?_); (repeat (with_reducible first | exact Below.refl _ _ | apply below_alloc | apply below_drew | apply pw_below_drewN | refine below_set ?_ (Nat.le_refl _))); rintro e w' ⟨rfl, ⟨m, rfl⟩⟩))
  have wx : IntKind.i64.wrap (24 + (x : Int)) = 24 + (x : Int) := (i64_w _).trans (by clear w6 w12; unfold wrap64; omega)
  have wxk : IntKind.i64.wrap (24 + (x : Int) + (k : Int)) = 24 + (x : Int) + (k : Int) := (i64_w _).trans (by clear w6 w12 wx; unfold wrap64; omega)
  have wz : IntKind.i64.wrap (24 + (z : Int)) = 24 + (z : Int) := (i64_w _).trans (by clear w6 w12 wx wxk; unfold wrap64; omega)
  go_region_held3 (fun w' => w'.cell? ⟨ad.block, ad.off + 1, none⟩ = some (.int .u8 cc)) (go_keep)
    ((first | (go_at_call 14; (with_reducible refine (HG6.out _ ?_).mono ?_); (repeat (with_reducible first | exact Below.refl _ _ | apply below_alloc | apply below_drew | apply pw_below_drewN | refine below_set ?_ (Nat.le_refl _))); rintro e w' ⟨rfl, ⟨m, rfl⟩⟩) | (go_at_call 14; (with_reducible refine (HG12.out _ ?_).mono ?_); (repeat (with_reducible first | exact Below.refl _ _ | apply below_alloc | apply below_drew | apply pw_below_drewN | refine below_set ?_ (Nat.le_refl _))); rintro e w' ⟨rfl, ⟨m, rfl⟩⟩) | (go_at_call 14; (with_reducible refine (HG16.out _ ?_).mono ?_); (repeat (with_reducible first | exact Below.refl _ _ | apply below_alloc | apply below_drew | apply pw_below_drewN | refine below_set ?_ (Nat.le_refl _))); rintro e w' ⟨rfl, ⟨m, rfl⟩⟩)))
  go_wp2
  have wcc : IntKind.i64.wrap cc = cc := (i64_w _).trans (by clear w6 w12 wx wxk wz; unfold wrap64; omega)
  refine bodyPost_ret (v := .agg #[.int .i64 cc, .int .u16 ss, .int .u32 oo, .int .u64 qq, .slice A1 x d1, .slice A2' k d2, .slice A3 n3 d3, .int .i64 (24 + (z : Int))]) (by simp [results, Try.results8, go_sem, wcc, wz, w6, w12]) rfl ?_
  clear w6 w12 wx wxk wz wcc
  have hfull := HFull.out
  obtain ⟨l1, l2, l3⟩ := HL.out
  obtain ⟨C1, C2, C3⟩ := HC3.out
  rw [← l1, ← l2, ← l3] at *
  refine ⟨FR, A1, A2', A3, d1, d2, d3, by rw [← hfull], ?_, ?_, ?_, ?_, fun h => absurd h HNS.out, fun _ _ => HFR.out.symm⟩
  · rw [← hfull]; exact Kd.C_below C1 (by repeat (with_reducible first | exact Below.refl _ _ | apply below_alloc | apply below_drew | apply pw_below_drewN | refine below_set ?_ (Nat.le_refl _)))
  · rw [← hfull]; exact Kd.C_below C2 (by repeat (with_reducible first | exact Below.refl _ _ | apply below_alloc | apply below_drew | apply pw_below_drewN | refine below_set ?_ (Nat.le_refl _)))
  · rw [← hfull]; exact Kd.C_below C3 (by repeat (with_reducible first | exact Below.refl _ _ | apply below_alloc | apply below_drew | apply pw_below_drewN | refine below_set ?_ (Nat.le_refl _)))
  · (repeat (with_reducible first | exact Below.refl _ _ | apply below_alloc | apply below_drew | apply pw_below_drewN | refine below_set ?_ (Nat.le_refl _)))
theorem butteryref17_Read.calls (A0 : Option Addr) (c0 : Nat) (l0 : List Int) (w : World) (hr0 : Kd.C (Kd.int .u8) w A0 l0.length l0) (hc0 : l0.length ≤ c0) (hb : ∀ x ∈ l0, 0 ≤ x ∧ x ≤ 255) (hm6 : l0.length ≤ 1000000) :
    Calls Try.prog 8 #[.slice A0 l0.length c0] w (RefPost l0 w) := by
  by_cases h : l0.length < 24
  · exact rread_short A0 c0 l0 w hr0 hc0 h
  · by_cases h1 : rd l0 0 = 129
    · by_cases h2 : ReadShort l0
      · exact rread_small A0 c0 l0 w hr0 hc0 (by omega) h1 hb hm6 h2
      · exact rread_full A0 c0 l0 w hr0 hc0 (by omega) h1 hb hm6 h2
    · exact rread_other A0 c0 l0 w hr0 hc0 (by omega) h1

end Go.Proofs.Ytpfjoeagblkonaa.Hb
