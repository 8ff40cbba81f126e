-- Written by this session's own program (wip/hprint.py) out of the translation, over hand-proved contracts. Lean checks it.
import Derived.Test.YtpfjoeagblkonaaHbx0
import Derived.Test.YtpfjoeagblkonaaHbx1
import Derived.Test.YtpfjoeagblkonaaHbx2
namespace Go.Proofs.Ytpfjoeagblkonaa.Hb
open Go.RowKit Go.Proofs.YtpfjoeagblkonaaW.PrintWords Go.Proofs.YtpfjoeagblkonaaW.PrintLast Go.Proofs.YtpfjoeagblkonaaW.PrintMore
attribute [local go_sem] max2_int min2_int max_two min_two max_three min_three max_four min_four   -- for this text's walks alone
set_option linter.unusedVariables false
set_option linter.unusedSimpArgs false

/-! ### binout_parts: function 16 -/
def putL2 (a : Int) : List Int := [a / 256 % 256, a % 256]
def putL4 (a : Int) : List Int := [a / 16777216 % 256, a / 65536 % 256, a / 256 % 256, a % 256]
def putL8 (a : Int) : List Int := [a / 72057594037927936 % 256, a / 281474976710656 % 256, a / 1099511627776 % 256, a / 4294967296 % 256, a / 16777216 % 256, a / 65536 % 256, a / 256 % 256, a % 256]
theorem put2 (a : Int) : num_put.f 9 a 2 = some (putL2 a) := by
  simp [num_put.f, num_put.l0, wrap64, shr, IntKind.bits, putL2]
theorem put4 (a : Int) : num_put.f 9 a 4 = some (putL4 a) := by
  simp [num_put.f, num_put.l0, wrap64, shr, IntKind.bits, putL4]
theorem put8 (a : Int) : num_put.f 9 a 8 = some (putL8 a) := by
  simp [num_put.f, num_put.l0, wrap64, shr, IntKind.bits, putL8]
theorem Put32 (a : Int) (h0 : 0 ≤ a) (h1 : a < 4294967296) : num_Put32.f 9 a = some (putL4 a) := by
  unfold num_Put32.f; rw [u64_in a h0 (by omega), put4]; rfl
theorem Put64 (a : Int) : num_Put64.f 9 a = some (putL8 a) := by
  unfold num_Put64.f; rw [put8]; rfl
theorem lit_C (W : World) (xs : List Int) (C : Array Value) (e : TypeId) (fr : Nat × Nat) (hC : C.toList = xs.map (Value.int .u8)) (hl : xs.length ≤ 9223372036854775807) : Kd.C (Kd.int .u8) (W.alloc (.cells C e fr)) (some ⟨W.heap.size, 0, none⟩) xs.length xs := by
  refine ⟨rfl, hl, fun _ => ⟨_, rfl, fun j p hj => ⟨[.int .u8 p], rfl, rfl, fun i u hu => ?_⟩⟩⟩
  cases i with
  | succ i => simp at hu
  | zero =>
    obtain rfl : Value.int .u8 p = u := by simpa using hu
    rw [add_plain, Nat.add_zero, show j * (Kd.int .u8).sz = j from Nat.mul_one j, World.cell?_alloc_mark, ← Array.getElem?_toList, hC, List.getElem?_map, hj]
    rfl
def PartsPost (w : World) (X K V : List Int) (cas : Int) (e : Ending) (w' : World) : Prop :=
  ∃ (A1 A2 A3 : Option Addr) (c1 c2 c3 : Nat), e = .returned (.tuple #[.agg #[.slice A1 X.length c1, .slice A2 K.length c2, .slice A3 V.length c3], .int .u64 cas]) ∧
    Kd.C (Kd.int .u8) w' A1 X.length X ∧ Kd.C (Kd.int .u8) w' A2 K.length K ∧ Kd.C (Kd.int .u8) w' A3 V.length V ∧ X.length ≤ c1 ∧ K.length ≤ c2 ∧ V.length ≤ c3 ∧ Below w.heap.size w w'
def aggR (A : Option Addr) (n c : Nat) (d : Int) (verb : ByteArray) (code opq : Int) (quiet wcas : Bool) (flags : ByteArray) (A8 : Option Addr) (n8 c8 : Nat) (A9 : Option Addr) (n9 c9 : Nat) (b64 : Bool) : Value :=
  .agg #[.slice A n c, .int .i64 d, .string verb, .int .i64 code, .int .u32 opq, .bool quiet, .bool wcas, .string flags, .slice A8 n8 c8, .slice A9 n9 c9, .bool b64]
def aggX (st : Int) (A : Option Addr) (n c : Nat) (fl cas ttl num : Int) (b1 b2 b3 : Bool) : Value :=
  .agg #[.int .i64 st, .slice A n c, .int .u32 fl, .int .u64 cas, .int .i64 ttl, .int .u64 num, .bool b1, .bool b2, .bool b3]
set_option maxHeartbeats 2000000 in
set_option maxRecDepth 100000 in
theorem parts_other (A : Option Addr) (n c : Nat) (d : Int) (verb : ByteArray) (code opq : Int) (quiet wcas : Bool) (flags : ByteArray) (A8 : Option Addr) (n8 c8 : Nat) (A9 : Option Addr) (n9 c9 : Nat) (b64 : Bool)
    (st : Int) (AV : Option Addr) (V : List Int) (cV : Nat) (fl cas ttl num : Int) (b1 b2 b3 : Bool) (w : World) (h0 : st ≠ 0) (h7 : st ≠ 7) (h2 : st ≠ 2) (h11 : st ≠ 11) :
    Calls Try.prog 16 #[aggR A n c d verb code opq quiet wcas flags A8 n8 c8 A9 n9 c9 b64, aggX st AV V.length cV fl cas ttl num b1 b2 b3] w (PartsPost w [] [] [] 0) := by
  have t0 : (st == 0) = false := beq_eq_false_iff_ne.mpr h0
  have t7 : (st == 7) = false := beq_eq_false_iff_ne.mpr h7
  have t2 : (st == 2) = false := beq_eq_false_iff_ne.mpr h2
  have t11 : (st == 11) = false := beq_eq_false_iff_ne.mpr h11
  have hu39 := Try.underlying39
  have hu46 := Try.underlying46
  have hu27 := Try.underlying27
  have hu22 := Try.underlying22
  clear h0 h7 h2 h11
  generalize V.length = nV
  unfold aggR aggX
  go_enter Try.func16, Try.ntmps16
  go_wp2
  refine bodyPost_ret (v := .tuple #[.agg #[.slice none 0 0, .slice none 0 0, .slice none 0 0], .int .u64 0]) (by simp [results, Try.results16, go_sem]) rfl ?_
  exact ⟨none, none, none, 0, 0, 0, rfl, Kd.C_nil _ _, Kd.C_nil _ _, Kd.C_nil _ _, Nat.le_refl _, Nat.le_refl _, Nat.le_refl _, by repeat (first | exact Below.refl _ _ | apply below_alloc | apply below_drew | apply pw_below_drewN | refine below_set ?_ (by simp; omega))⟩
set_option maxHeartbeats 2000000 in
set_option maxRecDepth 100000 in
theorem parts_stored (A : Option Addr) (n c : Nat) (d : Int) (verb : ByteArray) (code opq : Int) (quiet wcas : Bool) (flags : ByteArray) (A8 : Option Addr) (n8 c8 : Nat) (A9 : Option Addr) (n9 c9 : Nat) (b64 : Bool)
    (AV : Option Addr) (V : List Int) (cV : Nat) (fl cas ttl num : Int) (b1 b2 b3 : Bool) (w : World)  :
    Calls Try.prog 16 #[aggR A n c d verb code opq quiet wcas flags A8 n8 c8 A9 n9 c9 b64, aggX 2 AV V.length cV fl cas ttl num b1 b2 b3] w (PartsPost w [] [] [] cas) := by
  have hu39 := Try.underlying39
  have hu46 := Try.underlying46
  have hu27 := Try.underlying27
  have hu22 := Try.underlying22
  generalize V.length = nV
  unfold aggR aggX
  go_enter Try.func16, Try.ntmps16
  go_wp2
  refine bodyPost_ret (v := .tuple #[.agg #[.slice none 0 0, .slice none 0 0, .slice none 0 0], .int .u64 cas]) (by simp [results, Try.results16, go_sem]) rfl ?_
  exact ⟨none, none, none, 0, 0, 0, rfl, Kd.C_nil _ _, Kd.C_nil _ _, Kd.C_nil _ _, Nat.le_refl _, Nat.le_refl _, Nat.le_refl _, by repeat (first | exact Below.refl _ _ | apply below_alloc | apply below_drew | apply pw_below_drewN | refine below_set ?_ (by simp; omega))⟩
set_option maxHeartbeats 2000000 in
set_option maxRecDepth 100000 in
theorem parts_version (A : Option Addr) (n c : Nat) (d : Int) (verb : ByteArray) (code opq : Int) (quiet wcas : Bool) (flags : ByteArray) (A8 : Option Addr) (n8 c8 : Nat) (A9 : Option Addr) (n9 c9 : Nat) (b64 : Bool)
    (AV : Option Addr) (V : List Int) (cV : Nat) (fl cas ttl num : Int) (b1 b2 b3 : Bool) (w : World)  :
    Calls Try.prog 16 #[aggR A n c d verb code opq quiet wcas flags A8 n8 c8 A9 n9 c9 b64, aggX 11 AV V.length cV fl cas ttl num b1 b2 b3] w (PartsPost w [] [] [49] 0) := by
  have hu39 := Try.underlying39
  have hu46 := Try.underlying46
  have hu27 := Try.underlying27
  have hu22 := Try.underlying22
  have kc : ∀ (X Y Z : Obj) (C : Array Value), (convert 22 22 (.slice (some ⟨w.heap.size + 1 + 1 + 1, 0, none⟩) 1 1)).run Try.prog ((((w.alloc X).alloc Y).alloc Z).alloc (.cells C 5)) = .ok (.slice (some ⟨w.heap.size + 1 + 1 + 1, 0, none⟩) 1 1) ((((w.alloc X).alloc Y).alloc Z).alloc (.cells C 5 (C.size, C.size + 1))) := by
    intro X Y Z C
    have h := Lib.run_convert_bytes_const (P := Try.prog) (((w.alloc X).alloc Y).alloc Z) 22 5 C 1 1 Try.underlying22 Try.underlying5
    have e : (((w.alloc X).alloc Y).alloc Z).heap.size = w.heap.size + 1 + 1 + 1 := by simp only [World.size_alloc]
    rwa [e] at h
  generalize V.length = nV
  unfold aggR aggX
  go_enter Try.func16, Try.ntmps16
  go_wp2
  refine bodyPost_ret (v := .tuple #[.agg #[.slice none 0 0, .slice none 0 0, .slice (some ⟨w.heap.size + 1 + 1 + 1, 0, none⟩) 1 1], .int .u64 0]) (by simp [results, Try.results16, go_sem]) rfl ?_
  refine ⟨none, none, some ⟨w.heap.size + 1 + 1 + 1, 0, none⟩, 0, 0, 1, rfl, Kd.C_nil _ _, Kd.C_nil _ _, ?_, Nat.le_refl _, Nat.le_refl _, Nat.le_refl _, by repeat (first | exact Below.refl _ _ | apply below_alloc | apply below_drew | apply pw_below_drewN | refine below_set ?_ (by simp; omega))⟩
  have hC : ∀ X Y Z : Obj, Kd.C (Kd.int .u8) ((((w.alloc X).alloc Y).alloc Z).alloc (.cells #[.int .u8 49] 5 (1, 2))) (some ⟨w.heap.size + 1 + 1 + 1, 0, none⟩) 1 [49] := by
    intro X Y Z
    have h := lit_C (((w.alloc X).alloc Y).alloc Z) [49] #[.int .u8 49] 5 (1, 2) rfl (by decide)
    have e : (((w.alloc X).alloc Y).alloc Z).heap.size = w.heap.size + 1 + 1 + 1 := by simp only [World.size_alloc]
    rwa [e] at h
  exact hC _ _ _
theorem blk_any {w w1 : World} {g : Nat} {o : Obj} (hb : Below w.heap.size w w1) (h : w.heap[g]? = some o) : w1.heap[g]? = some o := blk_below h hb
theorem blk2 (w : World) (X Y : Obj) : ((w.alloc X).alloc Y).heap[w.heap.size + 1]? = some Y := by
  have := blk_new (w.alloc X) Y
  rwa [World.size_alloc] at this
theorem blk3 (w : World) (X Y Z : Obj) : (((w.alloc X).alloc Y).alloc Z).heap[w.heap.size + 1 + 1]? = some Z := by
  have := blk_new ((w.alloc X).alloc Y) Z
  rwa [World.size_alloc, World.size_alloc] at this
theorem put64C (fl : Int) (W : World) : Calls Try.prog 20 #[.int .u64 fl] W fun e w' => ∃ v0_ : Value, e = .returned v0_ ∧ Kd.R (Kd.int .u8) 5 w' W.heap.size (fun _ => True) v0_ (putL8 fl) ∧ Below W.heap.size W w' :=
  num_Put64.calls 9 fl (putL8 fl) W (Put64 fl)
theorem put32C (fl : Int) (h0 : 0 ≤ fl) (h1 : fl < 4294967296) (W : World) : Calls Try.prog 19 #[.int .u32 fl] W fun e w' => ∃ v0_ : Value, e = .returned v0_ ∧ Kd.R (Kd.int .u8) 5 w' W.heap.size (fun _ => True) v0_ (putL4 fl) ∧ Below W.heap.size W w' :=
  num_Put32.calls 9 fl (putL4 fl) W (Put32 fl h0 h1)
set_option maxHeartbeats 2000000 in
set_option maxRecDepth 100000 in
theorem parts_hit (A : Option Addr) (n c : Nat) (d : Int) (verb : ByteArray) (code opq : Int) (quiet wcas : Bool) (flags : ByteArray) (A8 : Option Addr) (n8 c8 : Nat) (A9 : Option Addr) (n9 c9 : Nat) (b64 : Bool)
    (AV : Option Addr) (V : List Int) (cV : Nat) (fl cas ttl num : Int) (b1 b2 b3 : Bool) (w : World) (hV : Kd.C (Kd.int .u8) w AV V.length V) (hcV : V.length ≤ cV) (hf0 : 0 ≤ fl) (hf1 : fl < 4294967296) (h12 : code ≠ 12) (h13 : code ≠ 13) :
    Calls Try.prog 16 #[aggR A n c d verb code opq quiet wcas flags A8 n8 c8 A9 n9 c9 b64, aggX 0 AV V.length cV fl cas ttl num b1 b2 b3] w (PartsPost w (putL4 fl) [] V cas) := by
  have hu39 := Try.underlying39
  have hu46 := Try.underlying46
  have hu27 := Try.underlying27
  have hu22 := Try.underlying22
  have t12 : (code == 12) = false := beq_eq_false_iff_ne.mpr h12
  have t13 : (code == 13) = false := beq_eq_false_iff_ne.mpr h13
  have HV := Aside0.mk (And.intro hV hcV)
  have HG := Aside0.mk (put32C fl hf0 hf1)
  clear h12 h13 hV hcV hf0 hf1
  generalize hnV : V.length = nV at *
  have HN := Aside0.mk hnV
  clear hnV
  unfold aggR aggX
  go_enter Try.func16, Try.ntmps16
  go_wp2
  go_region_held3 (fun w' => w'.cell? ⟨w.heap.size + 1, 2, none⟩ = some (.int .u32 fl) ∧ w'.cell? ⟨w.heap.size + 1, 1, none⟩ = some (.slice AV nV cV) ∧ w'.cell? ⟨w.heap.size + 1, 3, none⟩ = some (.int .u64 cas)) (go_keep)
    ((first | (go_at_call 19; refine (HG.out _).mono ?_; rintro e w1 ⟨v, rfl, hO, hB⟩; obtain ⟨B, cB, hv, hle, hC⟩ := Kd.R_reads hO; subst hv; have HO := Aside0.mk (Kd.R_lower hO (below_size (show Below w.heap.size w _ from by repeat (first | exact Below.refl _ _ | apply below_alloc | apply below_drew)))); have HB := Aside0.mk (below_step (show Below w.heap.size w _ from by repeat (first | exact Below.refl _ _ | apply below_alloc | apply below_drew)) hB); have k1 := blk_any hB (blk_drew (blk_alloc (blk_alloc (blk_new w _) _) _)); have z3 := blk_cell k1 3; have k2 := blk_any hB (blk_drew (blk_alloc (blk2 w _ _) _)); have k3 := blk_any hB (blk_drew (blk3 w _ _ _)); have HK := Aside0.mk k3; have u0 := blk_cell k3 0; have u2 := blk_cell k3 2; have v0 := blk_frozen k3 0; have v1 := blk_frozen k3 1; have v2 := blk_frozen k3 2; have u1 := blk_cell k3 1; have x1 := blk_cell k2 1; have x2 := blk_cell k2 2; have x3 := blk_cell k2 3; have HK1 := Aside0.mk k1; clear hO hB hC k1 k2 k3)))
  generalize hW3 : (w1.setCell ⟨w.heap.size + 1 + 1, 0, none⟩ (Value.slice B (putL4 fl).length cB)).setCell ⟨w.heap.size + 1 + 1, 2, none⟩ (Value.slice AV nV cV) = W3
  clear u0 u1 u2 v0 v1 v2 x1 x2 x3 z3
  have ht : ∀ q, q ∈ 5 :: (Kd.int IntKind.u8).E → q ≠ 27 := by intro q hq; simp [Kd.int, Kd.scalar] at hq; omega
  have hk3 : W3.heap[w.heap.size + 1 + 1]? = some (.cells #[.slice B (putL4 fl).length cB, .slice none 0 0, .slice AV nV cV] 27 (0, 0)) := by
    rw [← hW3]
    exact blk_put (blk_put HK.out 0 _ rfl) 2 _ rfl
  have hk1 : W3.heap[w.heap.size]? = some (.cells #[.slice A n c, .int .i64 d, .string verb, .int .i64 code, .int .u32 opq, .bool quiet, .bool wcas, .string flags, .slice A8 n8 c8, .slice A9 n9 c9, .bool b64] 39 (0, 0)) := by
    rw [← hW3]
    exact blk_far (blk_far HK1.out (p := ⟨w.heap.size + 1 + 1, 0, none⟩) (by show w.heap.size ≠ w.heap.size + 1 + 1; omega) _) (p := ⟨w.heap.size + 1 + 1, 2, none⟩) (by show w.heap.size ≠ w.heap.size + 1 + 1; omega) _
  have hO3 : Kd.R (Kd.int .u8) 5 W3 w.heap.size (fun _ => True) (.slice B (putL4 fl).length cB) (putL4 fl) := by
    rw [← hW3]
    exact Kd.R_set (Kd.R_set HO.out HK.out ht 0 _) (blk_put HK.out 0 _ rfl) ht 2 _
  have hB3 : Below w.heap.size w W3 := by
    rw [← hW3]
    exact below_set (below_set HB.out (by omega)) (by omega)
  have z3 : W3.cell? ⟨w.heap.size, 3, none⟩ = some (.int .i64 code) := blk_cell hk1 3
  have u0 : W3.cell? ⟨w.heap.size + 1 + 1, 0, none⟩ = some (.slice B (putL4 fl).length cB) := blk_cell hk3 0
  have u1 : W3.cell? ⟨w.heap.size + 1 + 1, 1, none⟩ = some (.slice none 0 0) := blk_cell hk3 1
  have u2 : W3.cell? ⟨w.heap.size + 1 + 1, 2, none⟩ = some (.slice AV nV cV) := blk_cell hk3 2
  have s0 : W3.setCell ⟨w.heap.size + 1 + 1, 0, none⟩ (.slice B (putL4 fl).length cB) = W3 := setCell_same hk3 rfl
  have s1 : W3.setCell ⟨w.heap.size + 1 + 1, 1, none⟩ (.slice none 0 0) = W3 := setCell_same hk3 rfl
  have s2 : W3.setCell ⟨w.heap.size + 1 + 1, 2, none⟩ (.slice AV nV cV) = W3 := setCell_same hk3 rfl
  have v0 := blk_frozen hk3 0
  have v1 := blk_frozen hk3 1
  have v2 := blk_frozen hk3 2
  have HO3 := Aside0.mk hO3
  have HB3 := Aside0.mk hB3
  clear hW3 hk3 hk1 hO3 hB3 ht
  go_wp2
  refine bodyPost_ret (v := .tuple #[.agg #[.slice B (putL4 fl).length cB, .slice none 0 0, .slice AV nV cV], .int .u64 cas]) (by simp [results, Try.results16, go_sem, u0, u1, u2]) rfl ?_
  obtain ⟨hV, hcV⟩ := HV.out
  have hn := HN.out
  subst hn
  exact ⟨B, none, AV, cB, 0, cV, rfl, (Kd.R_reads' HO3.out).2.2, Kd.C_nil _ _, Kd.C_below hV HB3.out, hle, Nat.le_refl _, hcV, HB3.out⟩
set_option maxHeartbeats 2000000 in
set_option maxRecDepth 100000 in
theorem parts_number (A : Option Addr) (n c : Nat) (d : Int) (verb : ByteArray) (code opq : Int) (quiet wcas : Bool) (flags : ByteArray) (A8 : Option Addr) (n8 c8 : Nat) (A9 : Option Addr) (n9 c9 : Nat) (b64 : Bool)
    (AV : Option Addr) (V : List Int) (cV : Nat) (fl cas ttl num : Int) (b1 b2 b3 : Bool) (w : World)  :
    Calls Try.prog 16 #[aggR A n c d verb code opq quiet wcas flags A8 n8 c8 A9 n9 c9 b64, aggX 7 AV V.length cV fl cas ttl num b1 b2 b3] w (PartsPost w [] [] (putL8 num) cas) := by
  have hu39 := Try.underlying39
  have hu46 := Try.underlying46
  have hu27 := Try.underlying27
  have hu22 := Try.underlying22
  have HG := Aside0.mk (put64C num)
  generalize hnV : V.length = nV at *
  have HN := Aside0.mk hnV
  clear hnV
  unfold aggR aggX
  go_enter Try.func16, Try.ntmps16
  go_wp2
  go_region_held3 (fun w' => w'.cell? ⟨w.heap.size + 1, 5, none⟩ = some (.int .u64 num) ∧ w'.cell? ⟨w.heap.size + 1, 3, none⟩ = some (.int .u64 cas)) (go_keep)
    ((first | (go_at_call 20; refine (HG.out _).mono ?_; rintro e w1 ⟨v, rfl, hO, hB⟩; obtain ⟨B, cB, hv, hle, hC⟩ := Kd.R_reads hO; subst hv; have HO := Aside0.mk (Kd.R_lower hO (below_size (show Below w.heap.size w _ from by repeat (first | exact Below.refl _ _ | apply below_alloc | apply below_drew)))); have HB := Aside0.mk (below_step (show Below w.heap.size w _ from by repeat (first | exact Below.refl _ _ | apply below_alloc | apply below_drew)) hB); have k1 := blk_any hB (blk_drew (blk_alloc (blk_alloc (blk_new w _) _) _)); have z3 := blk_cell k1 3; have k2 := blk_any hB (blk_drew (blk_alloc (blk2 w _ _) _)); have k3 := blk_any hB (blk_drew (blk3 w _ _ _)); have HK := Aside0.mk k3; have u0 := blk_cell k3 0; have u2 := blk_cell k3 2; have v0 := blk_frozen k3 0; have v1 := blk_frozen k3 1; have v2 := blk_frozen k3 2; have u1 := blk_cell k3 1; have x5 := blk_cell k2 5; have x3 := blk_cell k2 3; have HK1 := Aside0.mk k1; clear hO hB hC k1 k2 k3)))
  generalize hW3 : w1.setCell ⟨w.heap.size + 1 + 1, 2, none⟩ (Value.slice B (putL8 num).length cB) = W3
  clear u0 u1 u2 v0 v1 v2 x5 x3 z3
  have ht : ∀ q, q ∈ 5 :: (Kd.int IntKind.u8).E → q ≠ 27 := by intro q hq; simp [Kd.int, Kd.scalar] at hq; omega
  have hk3 : W3.heap[w.heap.size + 1 + 1]? = some (.cells #[.slice none 0 0, .slice none 0 0, .slice B (putL8 num).length cB] 27 (0, 0)) := by
    rw [← hW3]
    exact blk_put HK.out 2 _ rfl
  have hk1 : W3.heap[w.heap.size]? = some (.cells #[.slice A n c, .int .i64 d, .string verb, .int .i64 code, .int .u32 opq, .bool quiet, .bool wcas, .string flags, .slice A8 n8 c8, .slice A9 n9 c9, .bool b64] 39 (0, 0)) := by
    rw [← hW3]
    exact blk_far HK1.out (p := ⟨w.heap.size + 1 + 1, 2, none⟩) (by show w.heap.size ≠ w.heap.size + 1 + 1; omega) _
  have hO3 : Kd.R (Kd.int .u8) 5 W3 w.heap.size (fun _ => True) (.slice B (putL8 num).length cB) (putL8 num) := by
    rw [← hW3]
    exact Kd.R_set HO.out HK.out ht 2 _
  have hB3 : Below w.heap.size w W3 := by
    rw [← hW3]
    exact below_set HB.out (by omega)
  have z3 : W3.cell? ⟨w.heap.size, 3, none⟩ = some (.int .i64 code) := blk_cell hk1 3
  have u0 : W3.cell? ⟨w.heap.size + 1 + 1, 0, none⟩ = some (.slice none 0 0) := blk_cell hk3 0
  have u1 : W3.cell? ⟨w.heap.size + 1 + 1, 1, none⟩ = some (.slice none 0 0) := blk_cell hk3 1
  have u2 : W3.cell? ⟨w.heap.size + 1 + 1, 2, none⟩ = some (.slice B (putL8 num).length cB) := blk_cell hk3 2
  have s0 : W3.setCell ⟨w.heap.size + 1 + 1, 0, none⟩ (.slice none 0 0) = W3 := setCell_same hk3 rfl
  have s1 : W3.setCell ⟨w.heap.size + 1 + 1, 1, none⟩ (.slice none 0 0) = W3 := setCell_same hk3 rfl
  have s2 : W3.setCell ⟨w.heap.size + 1 + 1, 2, none⟩ (.slice B (putL8 num).length cB) = W3 := setCell_same hk3 rfl
  have v0 := blk_frozen hk3 0
  have v1 := blk_frozen hk3 1
  have v2 := blk_frozen hk3 2
  have HO3 := Aside0.mk hO3
  have HB3 := Aside0.mk hB3
  clear hW3 hk3 hk1 hO3 hB3 ht
  go_wp2
  refine bodyPost_ret (v := .tuple #[.agg #[.slice none 0 0, .slice none 0 0, .slice B (putL8 num).length cB], .int .u64 cas]) (by simp [results, Try.results16, go_sem, u0, u1, u2]) rfl ?_
  exact ⟨none, none, B, 0, 0, cB, rfl, Kd.C_nil _ _, Kd.C_nil _ _, (Kd.R_reads' HO3.out).2.2, Nat.le_refl _, Nat.le_refl _, hle, HB3.out⟩
set_option maxHeartbeats 2000000 in
set_option maxRecDepth 100000 in
theorem parts_key (A : Option Addr) (n c : Nat) (d : Int) (verb : ByteArray) (code opq : Int) (quiet wcas : Bool) (flags : ByteArray) (A8 : Option Addr) (n8 c8 : Nat) (A9 : Option Addr) (n9 c9 : Nat) (b64 : Bool)
    (AV : Option Addr) (V : List Int) (cV : Nat) (fl cas ttl num : Int) (b1 b2 b3 : Bool) (w : World) (hV : Kd.C (Kd.int .u8) w AV V.length V) (hcV : V.length ≤ cV) (hf0 : 0 ≤ fl) (hf1 : fl < 4294967296) (hcode : code = 12 ∨ code = 13) (key : ByteArray) (hk : key.size ≤ 65535) (hn : 0 < n) (ad : Addr) (hA : A = some ad) (hkey : w.cell? ⟨ad.block, ad.off + 1, none⟩ = some (.string key)) :
    Calls Try.prog 16 #[aggR A n c d verb code opq quiet wcas flags A8 n8 c8 A9 n9 c9 b64, aggX 0 AV V.length cV fl cas ttl num b1 b2 b3] w (PartsPost w (putL4 fl) (bytesOf key) V cas) := by
  have hu39 := Try.underlying39
  have hu46 := Try.underlying46
  have hu27 := Try.underlying27
  have hu22 := Try.underlying22
  subst hA
  have hcodes : ((code == 12) = true ∧ True) ∨ ((code == 12) = false ∧ (code == 13) = true) := by
    rcases hcode with rfl | rfl
    · exact .inl ⟨rfl, trivial⟩
    · exact .inr ⟨rfl, rfl⟩
  have HKey := Aside0.mk hkey
  have HSz := Aside0.mk hk
  have hnI : (0 : Int) < (n : Int) := by omega
  have hu34 := Try.underlying34
  have hu44 := Try.underlying44
  have HV := Aside0.mk (And.intro hV hcV)
  have HG := Aside0.mk (put32C fl hf0 hf1)
  clear hcode hkey hk hn hV hcV hf0 hf1
  generalize hnV : V.length = nV at *
  have HN := Aside0.mk hnV
  clear hnV
  rcases hcodes with ⟨t12, _⟩ | ⟨t12, t13⟩
  all_goals (
    unfold aggR aggX
    go_enter Try.func16, Try.ntmps16
    go_wp2
    go_region_held3 (fun w' => w'.cell? ⟨w.heap.size + 1, 2, none⟩ = some (.int .u32 fl) ∧ w'.cell? ⟨w.heap.size + 1, 1, none⟩ = some (.slice AV nV cV) ∧ w'.cell? ⟨w.heap.size + 1, 3, none⟩ = some (.int .u64 cas)) (go_keep)
      ((first | (go_at_call 19; refine (HG.out _).mono ?_; rintro e w1 ⟨v, rfl, hO, hB⟩; obtain ⟨B, cB, hv, hle, hC⟩ := Kd.R_reads hO; subst hv; have HO := Aside0.mk (Kd.R_lower hO (below_size (show Below w.heap.size w _ from by repeat (first | exact Below.refl _ _ | apply below_alloc | apply below_drew)))); have HB := Aside0.mk (below_step (show Below w.heap.size w _ from by repeat (first | exact Below.refl _ _ | apply below_alloc | apply below_drew)) hB); have k1 := blk_any hB (blk_drew (blk_alloc (blk_alloc (blk_new w _) _) _)); have z3 := blk_cell k1 3; have k2 := blk_any hB (blk_drew (blk_alloc (blk2 w _ _) _)); have k3 := blk_any hB (blk_drew (blk3 w _ _ _)); have HK := Aside0.mk k3; have u0 := blk_cell k3 0; have u2 := blk_cell k3 2; have v0 := blk_frozen k3 0; have v1 := blk_frozen k3 1; have v2 := blk_frozen k3 2; have u1 := blk_cell k3 1; have x1 := blk_cell k2 1; have x2 := blk_cell k2 2; have x3 := blk_cell k2 3; have HK1 := Aside0.mk k1; clear hO hB hC k1 k2 k3)))
    generalize hW3 : (w1.setCell ⟨w.heap.size + 1 + 1, 0, none⟩ (Value.slice B (putL4 fl).length cB)).setCell ⟨w.heap.size + 1 + 1, 2, none⟩ (Value.slice AV nV cV) = W3
    clear u0 u1 u2 v0 v1 v2 x1 x2 x3 z3
    have ht : ∀ q, q ∈ 5 :: (Kd.int IntKind.u8).E → q ≠ 27 := by intro q hq; simp [Kd.int, Kd.scalar] at hq; omega
    have hk3 : W3.heap[w.heap.size + 1 + 1]? = some (.cells #[.slice B (putL4 fl).length cB, .slice none 0 0, .slice AV nV cV] 27 (0, 0)) := by
      rw [← hW3]
      exact blk_put (blk_put HK.out 0 _ rfl) 2 _ rfl
    have hk1 : W3.heap[w.heap.size]? = some (.cells #[.slice (some ad) n c, .int .i64 d, .string verb, .int .i64 code, .int .u32 opq, .bool quiet, .bool wcas, .string flags, .slice A8 n8 c8, .slice A9 n9 c9, .bool b64] 39 (0, 0)) := by
      rw [← hW3]
      exact blk_far (blk_far HK1.out (p := ⟨w.heap.size + 1 + 1, 0, none⟩) (by show w.heap.size ≠ w.heap.size + 1 + 1; omega) _) (p := ⟨w.heap.size + 1 + 1, 2, none⟩) (by show w.heap.size ≠ w.heap.size + 1 + 1; omega) _
    have hO3 : Kd.R (Kd.int .u8) 5 W3 w.heap.size (fun _ => True) (.slice B (putL4 fl).length cB) (putL4 fl) := by
      rw [← hW3]
      exact Kd.R_set (Kd.R_set HO.out HK.out ht 0 _) (blk_put HK.out 0 _ rfl) ht 2 _
    have hB3 : Below w.heap.size w W3 := by
      rw [← hW3]
      exact below_set (below_set HB.out (by omega)) (by omega)
    have kb0 := print_bytes (P := Try.prog) 9 22 5 Try.underlying9 Try.underlying22 Try.underlying5 key W3
    have hB4 : Below W3.heap.size W3 (Lib.bytesWorld W3 5 key) := bytes_below (Below.refl _ _) (Nat.le_refl _) 5 key
    have hR4 : Kd.C (Kd.int .u8) (Lib.bytesWorld W3 5 key) (some ⟨W3.heap.size, 0, none⟩) key.size (bytesOf key) := by
      have h := bytes_reads W3 5 key (by have := HSz.out; omega)
      refine Kd.C_of_reads (d := (0 : Int)) ?_
      exact h
    have hcap : key.size ≤ grownCap W3 key.size 0 5 := grownCap_ge _ _ _ _
    obtain ⟨cap, hcq⟩ : ∃ cap, grownCap W3 key.size 0 5 = cap := ⟨_, rfl⟩
    obtain ⟨W4, hW4⟩ : ∃ W4, Lib.bytesWorld W3 5 key = W4 := ⟨_, rfl⟩
    rw [hcq, hW4] at kb0
    rw [hW4] at hB4 hR4
    rw [hcq] at hcap
    have kb : (convert 9 22 (.string key)).run Try.prog W3 = .ok (.slice (some ⟨W3.heap.size, 0, none⟩) key.size cap) W4 := kb0
    have hI1 : (key.size : Int) ≤ (cap : Int) := by omega
    have hI2 : (key.size : Int) ≤ 65535 := by have := HSz.out; omega
    have hk4 : W4.heap[w.heap.size + 1 + 1]? = some (.cells #[.slice B (putL4 fl).length cB, .slice none 0 0, .slice AV nV cV] 27 (0, 0)) := blk_below hk3 hB4
    have y1 : W4.cell? ⟨w.heap.size + 1 + 1, 1, none⟩ = some (.slice none 0 0) := blk_cell hk4 1
    have y2 := blk_frozen hk4 1
    obtain ⟨W5, hW5⟩ : ∃ W5, W4.setCell ⟨w.heap.size + 1 + 1, 1, none⟩ (.slice (some ⟨W3.heap.size, 0, none⟩) key.size cap) = W5 := ⟨_, rfl⟩
    have hk5 : W5.heap[w.heap.size + 1 + 1]? = some (.cells #[.slice B (putL4 fl).length cB, .slice (some ⟨W3.heap.size, 0, none⟩) key.size cap, .slice AV nV cV] 27 (0, 0)) := by
      rw [← hW5]
      exact blk_put hk4 1 _ rfl
    have hB5 : Below w.heap.size w W5 := by
      rw [← hW5]
      exact below_set (below_step hB3 hB4) (by omega)
    have hO5 : Kd.R (Kd.int .u8) 5 W5 w.heap.size (fun _ => True) (.slice B (putL4 fl).length cB) (putL4 fl) := by
      rw [← hW5]
      exact Kd.R_set (Kd.R_below hO3 hB4) hk4 ht 1 _
    have hne : W3.heap.size ≠ w.heap.size + 1 + 1 := by have := blk_lt hk3; omega
    have hR5 : Kd.C (Kd.int .u8) W5 (some ⟨W3.heap.size, 0, none⟩) key.size (bytesOf key) := by
      rw [← hW5]
      exact C_set_far hR4 hne
    have zz : W3.cell? ⟨ad.block, ad.off + 1, none⟩ = some (.string key) := pw_cell_below hB3 HKey.out
    have z0 : W3.cell? ⟨w.heap.size, 0, none⟩ = some (.slice (some ad) n c) := blk_cell hk1 0
    have z3 : W3.cell? ⟨w.heap.size, 3, none⟩ = some (.int .i64 code) := blk_cell hk1 3
    have u0 : W5.cell? ⟨w.heap.size + 1 + 1, 0, none⟩ = some (.slice B (putL4 fl).length cB) := blk_cell hk5 0
    have u1 : W5.cell? ⟨w.heap.size + 1 + 1, 1, none⟩ = some (.slice (some ⟨W3.heap.size, 0, none⟩) key.size cap) := blk_cell hk5 1
    have u2 : W5.cell? ⟨w.heap.size + 1 + 1, 2, none⟩ = some (.slice AV nV cV) := blk_cell hk5 2
    have s0 : W5.setCell ⟨w.heap.size + 1 + 1, 0, none⟩ (.slice B (putL4 fl).length cB) = W5 := setCell_same hk5 rfl
    have s1 : W5.setCell ⟨w.heap.size + 1 + 1, 1, none⟩ (.slice (some ⟨W3.heap.size, 0, none⟩) key.size cap) = W5 := setCell_same hk5 rfl
    have s2 : W5.setCell ⟨w.heap.size + 1 + 1, 2, none⟩ (.slice AV nV cV) = W5 := setCell_same hk5 rfl
    have v0 := blk_frozen hk5 0
    have v1 := blk_frozen hk5 1
    have v2 := blk_frozen hk5 2
    have HO3 := Aside0.mk hO5
    have HB3 := Aside0.mk hB5
    have HR5 := Aside0.mk hR5
    clear hO5 hB5 hR5 hk5 hk4 hB4 hR4 kb0 hcap hne hcq hW4
    clear hW3 hk3 hk1 hO3 hB3 ht
    go_wp2
    refine bodyPost_ret (v := .tuple #[.agg #[.slice B (putL4 fl).length cB, .slice (some ⟨W3.heap.size, 0, none⟩) key.size cap, .slice AV nV cV], .int .u64 cas]) (by simp [results, Try.results16, go_sem, u0, u1, u2]) rfl ?_
    obtain ⟨hV, hcV⟩ := HV.out
    have hn := HN.out
    subst hn
    refine ⟨B, some ⟨W3.heap.size, 0, none⟩, AV, cB, cap, cV, ?_, (Kd.R_reads' HO3.out).2.2, ?_, Kd.C_below hV HB3.out, hle, ?_, hcV, HB3.out⟩
    · rw [bytesOf_length]
    · rw [bytesOf_length]; exact HR5.out
    · rw [bytesOf_length]; omega)
def partsX (st fl : Int) : List Int := if st = 0 then putL4 fl else []
def partsK (st code : Int) (key : ByteArray) : List Int := if st = 0 then (if code = 12 ∨ code = 13 then bytesOf key else []) else []
def partsV (st num : Int) (V : List Int) : List Int := if st = 0 then V else if st = 7 then putL8 num else if st = 11 then [49] else []
def partsC (st cas : Int) : Int := if st = 0 ∨ st = 7 ∨ st = 2 then cas else 0
theorem parts_any (n c : Nat) (d : Int) (verb : ByteArray) (code opq : Int) (quiet wcas : Bool) (flags : ByteArray) (A8 : Option Addr) (n8 c8 : Nat) (A9 : Option Addr) (n9 c9 : Nat) (b64 : Bool)
    (st : Int) (AV : Option Addr) (V : List Int) (cV : Nat) (fl cas ttl num : Int) (b1 b2 b3 : Bool) (w W : World) (hB : Below w.heap.size w W) (hV : Kd.C (Kd.int .u8) w AV V.length V) (hcV : V.length ≤ cV) (hf0 : 0 ≤ fl) (hf1 : fl < 4294967296)
    (key : ByteArray) (hk : key.size ≤ 65535) (hn : 0 < n) (ad : Addr) (hkey : w.cell? ⟨ad.block, ad.off + 1, none⟩ = some (.string key)) :
    Calls Try.prog 16 #[.agg #[.slice (some ad) n c, .int .i64 d, .string verb, .int .i64 code, .int .u32 opq, .bool quiet, .bool wcas, .string flags, .slice A8 n8 c8, .slice A9 n9 c9, .bool b64],
      .agg #[.int .i64 st, .slice AV V.length cV, .int .u32 fl, .int .u64 cas, .int .i64 ttl, .int .u64 num, .bool b1, .bool b2, .bool b3]] W (PartsPost W (partsX st fl) (partsK st code key) (partsV st num V) (partsC st cas)) := by
  have hV' := Kd.C_below hV hB
  have hkey' := pw_cell_below hB hkey
  unfold partsX partsK partsV partsC
  by_cases h0 : st = 0
  · subst h0
    by_cases hc : code = 12 ∨ code = 13
    · simp only [if_pos, hc, true_or]
      exact parts_key (some ad) n c d verb code opq quiet wcas flags A8 n8 c8 A9 n9 c9 b64 AV V cV fl cas ttl num b1 b2 b3 W hV' hcV hf0 hf1 hc key hk hn ad rfl hkey'
    · simp only [if_pos, if_neg hc, true_or]
      exact parts_hit (some ad) n c d verb code opq quiet wcas flags A8 n8 c8 A9 n9 c9 b64 AV V cV fl cas ttl num b1 b2 b3 W hV' hcV hf0 hf1 (fun h => hc (.inl h)) (fun h => hc (.inr h))
  · by_cases h7 : st = 7
    · subst h7
      exact parts_number (some ad) n c d verb code opq quiet wcas flags A8 n8 c8 A9 n9 c9 b64 AV V cV fl cas ttl num b1 b2 b3 W
    · by_cases h2 : st = 2
      · subst h2
        exact parts_stored (some ad) n c d verb code opq quiet wcas flags A8 n8 c8 A9 n9 c9 b64 AV V cV fl cas ttl num b1 b2 b3 W
      · by_cases h11 : st = 11
        · subst h11
          exact parts_version (some ad) n c d verb code opq quiet wcas flags A8 n8 c8 A9 n9 c9 b64 AV V cV fl cas ttl num b1 b2 b3 W
        · rw [if_neg h0, if_neg h0, if_neg h0, if_neg h7, if_neg h11, if_neg (by omega)]
          exact parts_other (some ad) n c d verb code opq quiet wcas flags A8 n8 c8 A9 n9 c9 b64 st AV V cV fl cas ttl num b1 b2 b3 W h0 h7 h2 h11
def codeN (st : Int) : Int := if st = 0 ∨ st = 2 ∨ st = 5 ∨ st = 6 ∨ st = 7 ∨ st = 10 ∨ st = 11 then 0 else if st = 1 then 1 else if st = 4 then 2 else if st = 3 then 5 else if st = 8 then 6 else if st = 9 then 130 else 132
theorem codeN_range (st : Int) : 0 ≤ codeN st ∧ codeN st < 65536 := by
  unfold codeN
  repeat (first | omega | split)
theorem Code_eq (st : Int) : binout_Code.f 9 st = some (codeN st) := by
  unfold codeN
  by_cases h : st = 0 ∨ st = 2 ∨ st = 5 ∨ st = 6 ∨ st = 7 ∨ st = 10 ∨ st = 11
  · rw [if_pos h]
    rcases h with rfl | rfl | rfl | rfl | rfl | rfl | rfl <;> rfl
  · rw [if_neg h]
    simp only [not_or] at h
    obtain ⟨a, b, c, d, e, f, g⟩ := h
    simp [binout_Code.f, binout_Code.j0, a, b, c, d, e, f, g]
    repeat (first | rfl | split)
def silentB (quiet : Bool) (op st : Int) : Bool := quiet && (if op = 0 ∨ op = 1 then st == 1 else codeN st == 0)
theorem silent_eq (l0_0 : List S44) (a0_1 : Int) (a0_2 : ByteArray) (a0_3 a0_4 : Int) (q a0_6 : Bool) (a0_7 : ByteArray) (l8 l9 : List ByteArray) (a10 : Bool) (st : Int) (V : List Int) (x2 x3 x4 x5 : Int) (x6 x7 x8 : Bool) (h : 0 < l0_0.length) :
    binout_silent.f 9 l0_0 a0_1 a0_2 a0_3 a0_4 q a0_6 a0_7 l8 l9 a10 st V x2 x3 x4 x5 x6 x7 x8 = some (silentB q (rd_T44 l0_0 0).f0 st) := by
  unfold binout_silent.f silentB
  rw [if_pos (by omega), Code_eq]
  generalize (rd_T44 l0_0 0).f0 = op
  by_cases h0 : op = 0
  · have e : op = 0 ∨ op = 1 := .inl h0
    rw [if_pos h0, if_pos e]; cases q <;> simp
  · rw [if_neg h0]
    by_cases h1 : op = 1
    · have e : op = 0 ∨ op = 1 := .inr h1
      rw [if_pos h1, if_pos e]; cases q <;> simp
    · have e : ¬ (op = 0 ∨ op = 1) := fun h => h.elim h0 h1
      rw [if_neg h1, if_neg e]; cases q <;> simp

/-! ### slices_Grow_byte_byte: function 21 -/
/-- Of nil alone. -/
def slices_Grow_byte_byte.f (l0 : List Int) (a1 : Int) : Option (List Int) := if l0 = [] ∧ 0 ≤ a1 ∧ a1 ≤ 1000000 then some [] else none
set_option maxHeartbeats 2000000 in
set_option maxRecDepth 100000 in
theorem slices_Grow_byte_byte.nil (a1 : Int) (h0 : 0 ≤ a1) (h1 : a1 ≤ 1000000) (w : World) :
    Calls Try.prog 21 #[.slice none 0 0, .int .i64 a1] w fun e w' => ∃ v0_ : Value, e = .returned v0_ ∧ Kd.R (Kd.int .u8) 5 w' w.heap.size (fun k_ => True) v0_ [] ∧ Below w.heap.size w w' := by
  have hu := Try.underlying22
  have c1 : decide (a1 < 0) = false := decide_eq_false (by omega)
  have hw : wrap64 a1 = a1 := by unfold wrap64; omega
  by_cases hp : a1 > 0
  · have c2 : decide (a1 > 0) = true := decide_eq_true hp
    have HP := Aside0.mk (And.intro hp h1)
    clear hp h0 h1
    obtain ⟨i0, hi0, _, hsz, _⟩ := info_parts (show ((Try.prog).info? 5).map (fun i => (i.zero, i.size, i.bytes)) = some (some (.int .u8 0), 1, 1) by kernel_rfl)
    go_enter Try.func21, Try.ntmps21
    go_wp2_with ((with_reducible refine gate_builtin (b := .append) (xs := #[.tmp 20, .tmp 21]) rfl ?_); at_builtin; refine Kd.R_append_zeros (Kd.int .u8) (w0 := w) w.heap.size rfl (.tmp 20) (.tmp 21) 22 3 5 (.int .u8 0) 1 rfl Try.underlying22 Try.underlying3 (by kernel_rfl) rfl (by decide) (by decide) (.slice none 0 0) ([] : List Int) (0 : Int) _ (fun _ => True) rfl rfl rfl (fun _ _ => trivial) (Kd.R_nil _ _ _ _ _) (by have := HP.out; rw [hw]; omega) (Below.refl _ _) (Nat.le_refl _) (by have := HP.out; rw [hw, List.length_nil]; omega) ?_; intro v1 w1 ho hb hg hat; generalize ([] ++ List.replicate _ (0 : Int)) = xs at ho; obtain ⟨B, c, hv, hle, hC⟩ := Kd.R_reads ho; subst hv; have h3 := (print_take_of (P := Try.prog) (Value.int .u8) 0 22 5 .i64 hu hi0 hsz B c xs 0 (by omega) (by omega) hle).1; have h4 : (xs.take (0 : Int).toNat).length = 0 := rfl; rw [h4] at h3; have HO := Aside0.mk (Kd.R_take ho (show 0 ≤ xs.length from Nat.zero_le _)); have HB := Aside0.mk hb; clear ho hb hg hat hC hle h4)
    go_ret
    exact ⟨_, rfl, HO.out, HB.out⟩
  · have c2 : decide (a1 > 0) = false := decide_eq_false hp
    clear hp h0 h1
    go_enter Try.func21, Try.ntmps21
    go_wp2
    go_ret
    exact ⟨_, rfl, Kd.R_nil _ _ _ _ _, Below.refl _ _⟩

/-! ### slices_Concat_byte_byte: function 17 -/
def slices_Concat_byte_byte.f (l0 : List (List Int)) : Option (List Int) := if l0.length ≤ 1000000 ∧ l0.flatten.length ≤ 1000000 then some l0.flatten else none
theorem slices_Concat_byte_byte.elem {W : World} {A0 : Option Addr} {l0 : List (List Int)} (hr0 : Kd.C (Kd.slice 5 (Kd.int .u8)) W A0 l0.length l0) (k : Nat) (hk : k < l0.length) :
    ∃ ad A c, A0 = some ad ∧ W.cell? (ad.add k) = some (.slice A (l0[k]).length c) ∧ (l0[k]).length ≤ c ∧ Kd.C (Kd.int .u8) W A (l0[k]).length (l0[k]) := by
  obtain ⟨ad, e, h⟩ := hr0.2.2 (by omega)
  obtain ⟨cs, _, ⟨A, c, hcs, hle, hC⟩, hcell⟩ := h k _ (List.getElem?_eq_getElem hk)
  refine ⟨ad, A, c, e, ?_, hle, hC⟩
  have := hcell 0 (.slice A (l0[k]).length c) (by rw [hcs]; rfl)
  rwa [Nat.add_zero, show k * (Kd.slice 5 (Kd.int .u8)).sz = k from Nat.mul_one k] at this
/-- So many bytes lie ahead of the row k. -/
def slices_Concat_byte_byte.S (l0 : List (List Int)) (k : Nat) : Nat := (l0.take k).flatten.length
theorem slices_Concat_byte_byte.S_succ (l0 : List (List Int)) (k : Nat) (hk : k < l0.length) : slices_Concat_byte_byte.S l0 (k + 1) = slices_Concat_byte_byte.S l0 k + (l0[k]).length := by
  unfold slices_Concat_byte_byte.S
  rw [List.take_succ_eq_append_getElem hk, List.flatten_append, List.length_append]
  simp
theorem slices_Concat_byte_byte.S_le (l0 : List (List Int)) (k : Nat) : slices_Concat_byte_byte.S l0 k ≤ l0.flatten.length := by
  unfold slices_Concat_byte_byte.S
  conv => rhs; rw [← List.take_append_drop k l0, List.flatten_append, List.length_append]
  exact Nat.le_add_right _ _
theorem slices_Concat_byte_byte.take_succ (l0 : List (List Int)) (k : Nat) (hk : k < l0.length) : (l0.take (k + 1)).flatten = (l0.take k).flatten ++ l0[k] := by
  rw [List.take_succ_eq_append_getElem hk, List.flatten_append]
  simp
set_option maxHeartbeats 2000000 in
set_option maxRecDepth 100000 in
theorem slices_Concat_byte_byte.calls (A0 : Option Addr) (c0 : Nat) (l0 : List (List Int)) (r : List Int) (w : World) (hr0 : Kd.C (Kd.slice 5 (Kd.int .u8)) w A0 l0.length l0) (hc0 : l0.length ≤ c0) (h : slices_Concat_byte_byte.f l0 = some r) :
    Calls Try.prog 17 #[.slice A0 l0.length c0] w fun e w' => ∃ v0_ : Value, e = .returned v0_ ∧ Kd.R (Kd.int .u8) 5 w' w.heap.size (fun k_ => True) v0_ r ∧ Below w.heap.size w w' := by
  unfold slices_Concat_byte_byte.f at h
  by_cases hl : l0.length ≤ 1000000 ∧ l0.flatten.length ≤ 1000000
  · rw [if_pos hl] at h
    obtain rfl := Option.some.inj h
    obtain ⟨hl1, hl2⟩ := hl
    clear h
    have HE := Aside0.mk (fun k hk => slices_Concat_byte_byte.elem hr0 k hk)
    have HR := Aside0.mk hr0
    have HL := Aside0.mk (fun k => Nat.le_trans (slices_Concat_byte_byte.S_le l0 k) hl2)
    have HS := Aside0.mk (slices_Concat_byte_byte.S_succ l0)
    have HT := Aside0.mk (slices_Concat_byte_byte.take_succ l0)
    have hSn : slices_Concat_byte_byte.S l0 l0.length = l0.flatten.length := by unfold slices_Concat_byte_byte.S; rw [List.take_length]
    obtain ⟨N, hN⟩ : ∃ N, l0.flatten.length = N := ⟨_, rfl⟩
    rw [hN] at hSn hl2
    have HG := Aside0.mk (fun W => slices_Grow_byte_byte.nil (N : Int) (by omega) (by omega) W)
    have HN := Aside0.mk (And.intro hl1 hl2)
    have HZ := Aside0.mk hSn
    clear hr0 hl1 hl2 hSn hN
    have hu := Try.underlying22
    go_enter Try.func17, Try.ntmps17
    go_wp2
    go_loop [3, 11] (fun t s => ∃ k : Nat, k ≤ l0.length ∧ t = .int .i64 ((slices_Concat_byte_byte.S l0 k : Nat) : Int) ∧ s = .int .i64 k) (fun t s => l0.length - (intOf s).toNat)
    case atStart => exact ⟨0, Nat.zero_le _, rfl, rfl⟩
    case round =>
      obtain ⟨k, hk, rfl, rfl⟩ := hrel
      by_cases hlt : k < l0.length
      · obtain ⟨ad, A, c, hA, hcell, hle, hC⟩ := HE.out k hlt
        subst hA
        have hs := HS.out k hlt
        have hb := HL.out (k + 1)
        have hn := HN.out
        have HI := Aside0.mk (And.intro hlt hn)
        generalize hq : (l0[k]).length = n at *
        generalize hqb : slices_Concat_byte_byte.S l0 (k + 1) = b at *
        generalize slices_Concat_byte_byte.S l0 k = a at *
        have HQ := Aside0.mk hqb
        have t1 : decide ((k : Int) < (l0.length : Int)) = true := decide_eq_true (by omega)
        have t2 : decide ((b : Int) < 0) = false := decide_eq_false (by omega)
        have w1 : wrap64 ((a : Int) + (n : Int)) = (b : Int) := by unfold wrap64; omega
        have w2 : wrap64 ((k : Int) + 1) = ((k + 1 : Nat) : Int) := by clear w1; unfold wrap64; omega
        clear hs hb hqb hq hn hle hC hk
        go_wp2
        go_round
        case rel => exact ⟨k + 1, by clear w1 w2; have := HI.out; omega, by rw [HQ.out]; exact congrArg (Value.int .i64) w1, congrArg (Value.int .i64) w2⟩
        case measure => rw [w2]; clear w1 w2; have h9 := HI.out.1; show l0.length - ((k + 1 : Nat) : Int).toNat < l0.length - (k : Int).toNat; omega
      · obtain rfl : k = l0.length := by omega
        have t1 : decide ((l0.length : Int) < (l0.length : Int)) = false := decide_eq_false (by omega)
        rw [HZ.out]
        clear hlt hk
        go_wp2_with (go_at_call 21; refine (HG.out _).mono ?_; rintro e w1 ⟨v0, rfl, hO, hB⟩; have HO := Aside0.mk hO; have HB := Aside0.mk hB; clear hO hB HG)
        go_loopg [6, 27] l0.length (fun kq v t w' => ∃ k : Nat, k ≤ l0.length ∧ t = .int .i64 k ∧ Aside0 (kq = l0.length - k) ∧ Aside0 (Kd.R (Kd.int .u8) 5 w' w.heap.size (fun k_ => True) v (l0.take k).flatten) ∧ Aside0 (Below w.heap.size w w'))
        case atStart => exact ⟨0, Nat.zero_le _, rfl, ⟨(Nat.sub_zero _).symm⟩, HO, HB⟩
        case round =>
          clear HO HB
          obtain ⟨k, hk, rfl, HK, HO, HB⟩ := hrel
          by_cases hlt : k < l0.length
          · obtain ⟨ad, A, c, hA, hcell0, hle, hC⟩ := HE.out k hlt
            subst hA
            have hcell := (HB.out.cell (World.block_lt_of_cell? w _ hcell0)).trans hcell0
            have HC := Aside0.mk (Kd.C_below hC HB.out)
            have HLn := Aside0.mk (show (l0.take k).flatten.length + (l0[k]).length ≤ 1000000 by
              have := HS.out k hlt
              have h2 := HL.out (k + 1)
              unfold slices_Concat_byte_byte.S at this h2
              omega)
            have HX := Aside0.mk (HT.out k hlt)
            have HI := Aside0.mk hlt
            have t1 : decide ((k : Int) < (l0.length : Int)) = true := decide_eq_true (by omega)
            clear hcell0 hle hC HS HL HT HE
            generalize l0[k] = p at *
            cases gk with
            | zero => exact absurd HK.out (by omega)
            | succ k1 =>
              have HK1 := Aside0.mk (show k1 = l0.length - (k + 1) by have := HK.out; omega)
              clear HK hk
              generalize (l0.take k).flatten = ys at *
              go_wp2_with ((with_reducible refine gate_builtin (b := .append) (xs := #[.tmp 31, .tmp 32]) rfl ?_); at_builtin; refine Kd.R_append_rows (Kd.int .u8) (w0 := w) w.heap.size rfl (.tmp 31) (.tmp 32) 22 5 (.int .u8 0) 1 rfl Try.underlying22 (by kernel_rfl) rfl (by decide) (by omega) _ ys p _ _ _ (fun _ => True) (fun _ => False) rfl rfl ?aO ?aR (fun _ _ h => h) (fun _ h => h.elim) ?aF ?aB ?aS ?aL ?_; (case aR => exact HC.out); (case aB => exact HB.out); (case aF => exact (fun _ _ => trivial)); (case aO => exact HO.out); (case aS => exact below_size HB.out); (case aL => have := HLn.out; omega); intro v1 w1 ho hb hg hat; rw [← HX.out] at ho; have HO1 := Aside0.mk ho; have HB1 := Aside0.mk hb; clear ho hb hg hat HB HO)
              have w2 : wrap64 ((k : Int) + 1) = ((k + 1 : Nat) : Int) := by have := HN.out; have := HI.out; unfold wrap64; omega
              go_roundg k1
              case measure => exact Nat.lt_succ_self _
              case rel => exact ⟨k + 1, by clear w2; have := HI.out; omega, congrArg (Value.int .i64) w2, HK1, HO1, HB1⟩
          · obtain rfl : k = l0.length := by omega
            have t1 : decide ((l0.length : Int) < (l0.length : Int)) = false := decide_eq_false (by omega)
            have ho := HO.out
            rw [List.take_length] at ho
            have HO1 := Aside0.mk ho
            clear ho HO hlt hk HK
            go_wp2
            go_ret
            exact ⟨_, rfl, HO1.out, HB.out⟩
  · rw [if_neg hl] at h; cases h

/-! ### num_Put16: function 18 -/
def num_Put16.f (k : Nat) (a0 : Int) : Option (List Int) := (num_put.f k (IntKind.u64.wrap (a0)) 2).bind fun t117 => (some t117)
theorem num_Put16.mono : ∀ a0 k, LeO (num_Put16.f k a0) (num_Put16.f (k + 1) a0) := by
  intro a0 k
  unfold num_Put16.f
  repeat' first
      | (with_reducible exact num_put.mono _ _ _)
      | (with_reducible exact LeO.refl _)
      | (with_reducible exact LeO.none _)
      | (with_reducible refine LeO.ite ?_ ?_)
      | (with_reducible refine LeO.bind ?_ (fun _ => ?_))
      | exact num_put.mono _ _ _
      | exact LeO.none _
      | refine LeO.ite ?_ ?_
      | refine LeO.bind ?_ (fun _ => ?_)
set_option maxHeartbeats 8000000 in
set_option maxRecDepth 100000 in
theorem num_Put16.calls (k : Nat) (a0 : Int) (r : List Int) (w : World) (h : num_Put16.f k a0 = some r) :
    Calls Try.prog 18 #[.int .u16 a0] w fun e w' => ∃ v0_ : Value, e = .returned (v0_) ∧ Kd.R (Kd.int .u8) 5 w' w.heap.size (fun _ => True) v0_ r ∧ Below w.heap.size w w' := by
  have HB := Aside0.mk (Below.refl w.heap.size w)
  have H : ((num_put.f k (IntKind.u64.wrap (a0)) 2).bind fun t117 => (some t117)) = some r := h
  clear h
  replace H := Option.bind_eq_some_iff.mp H
  obtain ⟨t117, A20, H⟩ := H
  replace H : (some t117) = some r := H
  have A2 := Aside0.mk A20
  clear A20
  obtain rfl := Option.some.inj H
  go_enter Try.func18, Try.ntmps18
  go_wp2_with (first | ((with_reducible refine gate_callee (f := 22) rfl ?_); refine goesL_ (some 5) rfl rfl Try.func22 (by kernel_rfl) rfl #[.int .u64 (IntKind.u64.wrap (a0)), .int .i64 2] rfl (by (try simp only [List.map_toArray, List.map_cons, List.map_nil]); first | done | rfl | (simp only [List.length_drop, List.length_take]; rfl)) ?_; (with_reducible refine (num_put.calls k (IntKind.u64.wrap (a0)) 2 t117 _ A2.out).mono ?_); rintro e w3 ⟨v118, rfl, ho0, hb⟩; refine ⟨_, rfl, ?_⟩; have n0_ := Aside0.mk (Kd.R_lower ho0 (below_size (by repeat (first | (with_reducible first | exact HB.out | apply below_alloc | apply pw_below_drewN | apply below_drew1) | exact HB.out)))); have n1_ := Aside0.mk (below_step (by repeat (first | (with_reducible first | exact HB.out | apply below_alloc | apply pw_below_drewN | apply below_drew1) | exact HB.out)) hb); clear HB; have HO119 := n0_; have HB := n1_; clear n0_ n1_; (try clear hb); (try clear hb2); (try clear hk); (try clear hi); (try clear ho0)))
  go_ret
  exact ⟨_, by first | rfl | (simp [errW_none, errW_some] <;> rfl) | (simp [*, errW_none, errW_some] <;> rfl), by (with_reducible repeat (first | apply Kd.R_alloc | apply Kd.R_drewN | apply Kd.R_drew)); exact HO119.out, by repeat (first | (with_reducible first | exact HB.out | apply below_alloc | apply pw_below_drewN | apply below_drew1) | exact HB.out)⟩

end Go.Proofs.Ytpfjoeagblkonaa.Hb
