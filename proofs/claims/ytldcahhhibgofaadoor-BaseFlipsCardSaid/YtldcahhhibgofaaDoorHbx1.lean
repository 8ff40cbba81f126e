-- Written by this session's own program (wip/hprint.py) out of the translation, over hand-proved contracts. Lean checks it.
import Derived.Test.YtldcahhhibgofaaDoorHbx0
namespace Go.Proofs.YtldcahhhibgofaaDoor.Hb
open Go.RowKit Go.Proofs.YtldcahhhibgofaaDoorW.PrintWords Go.Proofs.YtldcahhhibgofaaDoorW.PrintLast Go.Proofs.YtldcahhhibgofaaDoorW.PrintMore
attribute [local go_sem] max2_int min2_int max_two min_two max_three min_three max_four min_four   -- for this text's walks alone
set_option linter.unusedVariables false
set_option linter.unusedSimpArgs false

/-! ### base_Encode: function 12 -/
section
open Go.Shelf
def lays169_ren : Go.Shelf.Ren := ⟨fun | 169 => 18 | n => n, fun | 70 => 36 | 9 => 9 | 0 => 0 | 72 => 38 | 37 => 22 | 127 => 50 | 3 => 3 | 5 => 5 | n => n, fun | n => n⟩
theorem lays169 : Go.Proofs.Lays.n169 Tryd.prog lays169_ren := {
  mixed := by kernel_rfl
  f169 := Tryd.func18.trans (congrArg some (by kernel_rfl))
  t0 := Tryd.underlying0
  a0 := Tryd.isAgg0
  z0 := Tryd.sizeOf0
  v0 := Tryd.zeroValue0
  t3 := Tryd.underlying3
  a3 := Tryd.isAgg3
  z3 := Tryd.sizeOf3
  v3 := Tryd.zeroValue3
  t9 := Tryd.underlying9
  a9 := Tryd.isAgg9
  z9 := Tryd.sizeOf9
  v9 := Tryd.zeroValue9
  t37 := Tryd.underlying22
  a37 := Tryd.isAgg22
  z37 := Tryd.sizeOf22
  v37 := Tryd.zeroValue22
  t70 := Tryd.underlying36
  a70 := Tryd.isAgg36
  z70 := Tryd.sizeOf36
  v70 := Tryd.zeroValue36
  t72 := Tryd.underlying38
  a72 := Tryd.isAgg38
  z72 := Tryd.sizeOf38
  v72 := Tryd.zeroValue38
  t127 := Tryd.underlying50
  a127 := Tryd.isAgg50
  z127 := Tryd.sizeOf50
  v127 := Tryd.zeroValue50 }
theorem sh_Builder_Extra_169 : Builder.Extra Tryd.prog lays169_ren := {
  sizeBuilder := by kernel_rfl
  liesBuilder := by kernel_rfl
  t5 := Tryd.underlying5
  a5 := Tryd.isAgg5
  z5 := Tryd.sizeOf5
  v5 := Tryd.zeroValue5
  infoByte := by kernel_rfl
  cellsByte := by kernel_rfl
  sizeByte := by kernel_rfl
  neB5 := by decide }
theorem sh_Builder_String (B b : Nat) (l : List UInt8) (w : World) (h : Lib.IsBuilder 38 5 B b (Lib.byteCells l) w) (h0 : l ≠ []) :
    Calls Tryd.prog 18 #[.pointer (some ⟨b, 0, none⟩)] w fun e w' => e = .returned (.string ⟨l.toArray⟩) ∧ Below B w w' := Any.Builder_String lays169 sh_Builder_Extra_169 B b l w h h0
theorem sh_Builder_String_empty (B b : Nat) (w : World) (h : Lib.IsBuilder 38 5 B b [] w) (hBw : B ≤ w.heap.size) :
    Calls Tryd.prog 18 #[.pointer (some ⟨b, 0, none⟩)] w fun e w' => e = .returned (.string ⟨#[]⟩) ∧ Below B w w' := Any.Builder_String_empty lays169 sh_Builder_Extra_169 B b w h hBw
theorem sh_Builder_String_any (B b : Nat) (l : List UInt8) (w : World) (h : Lib.IsBuilder 38 5 B b (Lib.byteCells l) w) (hBw : B ≤ w.heap.size) :
    Calls Tryd.prog 18 #[.pointer (some ⟨b, 0, none⟩)] w fun e w' => e = .returned (.string ⟨l.toArray⟩) ∧ Below B w w' := Any.Builder_String_any lays169 sh_Builder_Extra_169 B b l w h hBw
def lays137_ren : Go.Shelf.Ren := ⟨fun | 137 => 21 | 217 => 28 | 266 => 37 | n => n, fun | 9 => 9 | 5 => 5 | 3 => 3 | n => n, fun | n => n⟩
theorem lays137 : Go.Proofs.Lays.n137 Tryd.prog lays137_ren := {
  mixed := by kernel_rfl
  f137 := Tryd.func21.trans (congrArg some (by kernel_rfl))
  f217 := Tryd.func28.trans (congrArg some (by kernel_rfl))
  f266 := Tryd.func37.trans (congrArg some (by kernel_rfl))
  t3 := Tryd.underlying3
  a3 := Tryd.isAgg3
  z3 := Tryd.sizeOf3
  v3 := Tryd.zeroValue3
  t5 := Tryd.underlying5
  a5 := Tryd.isAgg5
  z5 := Tryd.sizeOf5
  v5 := Tryd.zeroValue5
  t9 := Tryd.underlying9
  a9 := Tryd.isAgg9
  z9 := Tryd.sizeOf9
  v9 := Tryd.zeroValue9 }
theorem sh_IndexByte (s : ByteArray) (c : Int) (w : World) :
    Calls Tryd.prog 21 #[.string s, .int .u8 c] w fun e w' => e = .returned (.int .i64 (Lib.indexByte s.data.toList c.toNat.toUInt8)) ∧ w' = w := Any.strings_IndexByte lays137 s c w
theorem infoByte : (Tryd.prog.info? 5).map (fun i => (i.zero, i.size, i.bytes)) = some (some (.int .u8 0), 1, 1) := by kernel_rfl
theorem sizeBuilder : (Tryd.prog.info? 38).map (·.size) = some 2 := by kernel_rfl
theorem liesBuilder : liesAt Tryd.prog Tryd.prog.depth 38 (2 / Tryd.prog.cellsOf 38) 0 38 1 = true := by kernel_rfl
set_option maxHeartbeats 1000000 in
set_option maxRecDepth 100000 in
theorem copyCheck_used (b : Nat) (w : World) (h0 : w.cell? ⟨b, 0, none⟩ = some (.pointer (some ⟨b, 0, none⟩))) :
    Calls Tryd.prog 22 #[.pointer (some ⟨b, 0, none⟩)] w fun e w' => e = .returned (.tuple #[]) ∧ w' = w := by
  obtain ⟨j, hj, _⟩ := Option.map_eq_some_iff.1 sizeBuilder
  have hu := Tryd.underlying38
  have hu36 := Tryd.underlying36
  go_enter Tryd.func22, Tryd.ntmps22
  go_wp2
  rw [Lib.run_neq_ptr_same w _ Tryd.underlying36 hj]
  go_wp2
  go_end0
  exact ⟨rfl, rfl⟩
set_option maxHeartbeats 1000000 in
set_option maxRecDepth 100000 in
theorem copyCheck_fresh (b : Nat) (w : World) (h0 : w.cell? ⟨b, 0, none⟩ = some (.pointer none)) (hsh : w.shape? b = some (38, 2)) (hfz : w.frozen? ⟨b, 0, none⟩ = false) :
    Calls Tryd.prog 22 #[.pointer (some ⟨b, 0, none⟩)] w fun e w' => e = .returned (.tuple #[]) ∧ w' = w.setCell ⟨b, 0, none⟩ (.pointer (some ⟨b, 0, none⟩)) := by
  obtain ⟨j, hj, hjs⟩ := Option.map_eq_some_iff.1 sizeBuilder
  have hu := Tryd.underlying38
  have hu36 := Tryd.underlying36
  have z38 := Tryd.sizeOf38
  go_enter Tryd.func22, Tryd.ntmps22
  go_wp2
  rw [Lib.run_to_unsafe w ⟨b, 0, none⟩ Tryd.underlying36 Tryd.underlying58 hj (by rw [hjs]; decide) hsh (Nat.zero_lt_succ 1)]
  simp only [Result.andThen]
  rw [Oper.upon_value]
  go_wp2
  rw [run_callFunc_extern Tryd.func29 (by kernel_rfl) (by kernel_rfl) (by kernel_rfl) (e := Extern.AbiNoEscape.same) (by kernel_rfl)]
  rw [Lib.run_noEscape]
  simp only [Result.andThen]
  rw [Oper.upon_value]
  go_wp2
  rw [Lib.run_from_unsafe w ⟨b, 0, none⟩ Tryd.underlying58 Tryd.underlying36 hj hsh liesBuilder]
  simp only [Result.andThen]
  rw [Oper.upon_value]
  go_wp2
  try (rw [Lib.run_neq_ptr_same _ _ Tryd.underlying36 hj]; go_wp2)
  go_end0
  exact ⟨rfl, rfl⟩
theorem copyCheck (B b : Nat) (bs : List Value) (w : World) (h : Lib.IsBuilder 38 5 B b bs w) :
    Calls Tryd.prog 22 #[.pointer (some ⟨b, 0, none⟩)] w fun e w' => e = .returned (.tuple #[]) ∧ (Lib.BuilderAt 38 5 B b (.pointer (some ⟨b, 0, none⟩)) bs w' ∧ Below B w w') := by
  rcases h with h | h
  · refine (copyCheck_fresh b w h.cell0 h.shape h.frozen0).mono ?_
    rintro e w' ⟨rfl, rfl⟩
    exact ⟨rfl, h.used _, (Below.refl B w).setCell (p := ⟨b, 0, none⟩) h.1 _⟩
  · refine (copyCheck_used b w h.cell0).mono ?_
    rintro e w' ⟨rfl, rfl⟩
    exact ⟨rfl, h, Below.refl B _⟩
set_option maxHeartbeats 2000000 in
set_option maxRecDepth 100000 in
theorem WriteString (B b : Nat) (bs : List Value) (s : ByteArray) (w : World) (h : Lib.IsBuilder 38 5 B b bs w) (hlen : bs.length + s.size ≤ 140737488355328) (hBw : B ≤ w.heap.size) :
    Calls Tryd.prog 16 #[.pointer (some ⟨b, 0, none⟩), .string s] w fun e w' => e = .returned (.tuple #[.int .i64 s.size, .nilIface]) ∧ (Lib.BuilderAt 38 5 B b (.pointer (some ⟨b, 0, none⟩)) (bs ++ Lib.strCells s) w' ∧ Below B w w') := by
  obtain ⟨i0, hi, hz0, hz1, hz2⟩ := info_parts infoByte
  have hu38 := Tryd.underlying38
  have hu36 := Tryd.underlying36
  go_enter Tryd.func16, Tryd.ntmps16
  go_wp2_with (go_at_call 22; refine (copyCheck B b bs _ h).mono ?_)
  rintro e w1 ⟨rfl, h1, hb1⟩
  obtain ⟨hB, v, hbk, hown, hne⟩ := h1
  have c0 : w1.cell? ⟨b, 0, none⟩ = some (.pointer (some ⟨b, 0, none⟩)) := by rw [Lib.cell_of_heap hbk]; rfl
  have c1 : w1.cell? ⟨b, 1, none⟩ = some v := by rw [Lib.cell_of_heap hbk]; rfl
  go_wp2_with (at_builtin; refine Lib.wpList_append_own_string _ rfl _ _ 22 9 rfl B 5 i0 Tryd.underlying22 Tryd.underlying9 hi hz0 hz1 hz2 _ _ _ rfl hown s rfl ?c3 ?c4 ?c5 ?_)
  case c3 => unfold maxLen; omega
  case c4 => omega
  case c5 => have := hb1.size; omega
  intro v' w2 hown' hgrow _
  have hlt : b < w1.heap.size := by
    rcases Nat.lt_or_ge b w1.heap.size with h' | h'
    · exact h'
    · simp [Array.getElem?_eq_none h'] at hbk
  have hb2 : w2.heap[b]? = some (.cells #[.pointer (some ⟨b, 0, none⟩), v] 38 (0, 0)) := by
    rw [hgrow.block b hlt (fun e => hne e.symm)]
    exact hbk
  have d0 : w2.cell? ⟨b, 0, none⟩ = some (.pointer (some ⟨b, 0, none⟩)) := by rw [Lib.cell_of_heap hb2]; rfl
  have d1 : w2.cell? ⟨b, 1, none⟩ = some v := by rw [Lib.cell_of_heap hb2]; rfl
  have f1 : w2.frozen? ⟨b, 1, none⟩ = false := Lib.frozen_of_heap hb2 1
  obtain ⟨ao, n', cap, rfl⟩ : ∃ ao n' cap, v' = .slice ao n' cap := by
    rcases hown'.2 with ⟨hv, _⟩ | ⟨g, cap, cur, hv, _⟩
    · exact ⟨_, _, _, hv⟩
    · exact ⟨_, _, _, hv⟩
  go_wp2
  go_ret2
  refine ⟨rfl, ?_, ?_⟩
  · exact Lib.BuilderAt.put (T := 38) (e := 5) hB hb2 (bs' := bs ++ Lib.strCells s) (by simpa [Lib.strCells_length] using hown') (by decide)
  · exact (hb1.grown hgrow (by have := hb1.size; omega) (fun k hk => (hown.lt k hk).1)).setCell (p := ⟨b, 1, none⟩) hB _
set_option maxHeartbeats 2000000 in
set_option maxRecDepth 100000 in
theorem mul12 (w : World) : Calls Tryd.prog 30 #[.int .u64 1, .int .u64 2] w fun e w' => e = .returned (.tuple #[.int .u64 0, .int .u64 2]) ∧ w' = w := by
  go_enter Tryd.func30, Tryd.ntmps30
  go_wp2
  go_ret2
  exact ⟨rfl, rfl⟩
set_option maxHeartbeats 2000000 in
set_option maxRecDepth 100000 in
theorem repeat0 (w : World) : Calls Tryd.prog 23 #[.string ⟨#[61]⟩, .int .i64 0] w fun e w' => e = .returned (.string ⟨#[]⟩) ∧ w' = w := by
  go_enter Tryd.func23, Tryd.ntmps23
  go_wp2_with fail
  go_ret
  exact ⟨rfl, rfl⟩
set_option maxHeartbeats 2000000 in
set_option maxRecDepth 100000 in
theorem repeat1 (w : World) : Calls Tryd.prog 23 #[.string ⟨#[61]⟩, .int .i64 1] w fun e w' => e = .returned (.string ⟨#[61]⟩) ∧ w' = w := by
  go_enter Tryd.func23, Tryd.ntmps23
  go_wp2_with fail
  go_ret
  exact ⟨rfl, rfl⟩
set_option maxHeartbeats 2000000 in
set_option maxRecDepth 100000 in
theorem hasPrefixL (s p : ByteArray) (w : World) (hle : p.size ≤ s.size) : Calls Tryd.prog 40 #[.string s, .string p] w fun e w' => e = .returned (.bool ((s.extract 0 p.size).toList == p.toList)) ∧ w' = w := by
  have c1 : decide ((p.size : Int) ≤ (s.size : Int)) = true := decide_eq_true (by omega)
  have c2 : decide (p.size ≤ s.size) = true := decide_eq_true hle
  have c3 := eq_true (show (p.size : Int) ≤ (s.size : Int) by omega)
  have c4 := eq_true (show 0 ≤ (p.size : Int) by omega)
  go_enter Tryd.func40, Tryd.ntmps40
  go_wp2_with fail
  go_ret
  exact ⟨by first | rfl | (simp; done) | (simp [*]; done), rfl⟩
set_option maxHeartbeats 2000000 in
set_option maxRecDepth 100000 in
theorem hasPrefix (s p : ByteArray) (w : World) (hle : p.size ≤ s.size) : Calls Tryd.prog 31 #[.string s, .string p] w fun e w' => e = .returned (.bool ((s.extract 0 p.size).toList == p.toList)) ∧ w' = w := by
  go_enter Tryd.func31, Tryd.ntmps31
  go_wp2_with (go_at_call 40; refine (hasPrefixL s p _ hle).mono ?_; rintro e w' ⟨rfl, rfl⟩)
  go_ret
  exact ⟨rfl, rfl⟩
theorem hasPrefixB (s p : ByteArray) (b : Bool) (w : World) (hle : p.size ≤ s.size) (hb : ((s.extract 0 p.size).toList == p.toList) = b) : Calls Tryd.prog 31 #[.string s, .string p] w fun e w' => e = .returned (.bool b) ∧ w' = w := by
  subst hb
  exact hasPrefix s p w hle
set_option maxHeartbeats 2000000 in
set_option maxRecDepth 100000 in
theorem repeat2 (w : World) : Calls Tryd.prog 23 #[.string ⟨#[61]⟩, .int .i64 2] w fun e w' => e = .returned (.string ⟨#[61, 61]⟩) ∧ w' = w := by
  have c1 : IntKind.u64.wrap 1 = 1 := by decide
  have c2 : IntKind.u64.wrap 2 = 2 := by decide
  have c3 : IntKind.i64.wrap 2 = 2 := by decide
  go_enter Tryd.func23, Tryd.ntmps23
  go_wp2_with (first | (go_at_call 30; refine (mul12 _).mono ?_; rintro e w' ⟨rfl, rfl⟩) | (go_at_call 31; (first | refine (hasPrefixB _ _ false _ (by decide +kernel) (by decide +kernel)).mono ?_ | refine (hasPrefixB _ _ true _ (by decide +kernel) (by decide +kernel)).mono ?_); rintro e w' ⟨rfl, rfl⟩))
  go_ret
  exact ⟨rfl, rfl⟩
theorem Repeat (n : Nat) (hn : n ≤ 2) (w : World) : Calls Tryd.prog 23 #[.string ⟨#[61]⟩, .int .i64 (n : Int)] w fun e w' => e = .returned (.string ⟨Array.replicate n 61⟩) ∧ w' = w := by
  obtain rfl | rfl | rfl : n = 0 ∨ n = 1 ∨ n = 2 := by omega
  · exact repeat0 w
  · exact repeat1 w
  · exact repeat2 w
/-- A byte of a row, 0 behind its end. -/
def at0 (l : List Int) (i : Nat) : Int := l.getD i 0
def num0 (l : List Int) : Nat → Int
  | 0 => 0
  | i + 1 => num0 l i * 256 + at0 l i
theorem at0_range (l : List Int) (hb : ∀ x ∈ l, 0 ≤ x ∧ x < 256) (i : Nat) : 0 ≤ at0 l i ∧ at0 l i < 256 := by
  unfold at0
  rw [List.getD_eq_getElem?_getD]
  cases h : l[i]? with
  | none => simp
  | some x => exact hb x (List.mem_of_getElem? h)
theorem num0_range (l : List Int) (hb : ∀ x ∈ l, 0 ≤ x ∧ x < 256) : ∀ i, 0 ≤ num0 l i ∧ num0 l i < 256 ^ i
  | 0 => by simp [num0]
  | i + 1 => by
    have h1 := num0_range l hb i
    have h2 := at0_range l hb i
    have h3 : (256 : Int) ^ (i + 1) = 256 ^ i * 256 := Int.pow_succ ..
    simp only [num0]
    omega
theorem i64_in (n : Int) (h0 : 0 ≤ n) (h1 : n < 9223372036854775808) : IntKind.i64.wrap n = n := by rw [IntKind.wrap_i64]; omega
theorem or_join (n x : Int) (i : Nat) (h0 : 0 ≤ n) (h1 : n < 16777216) (hd : n % 2 ^ i = 0) (h2 : 0 ≤ x) (h3 : x < 2 ^ i) (h4 : x < 16777216) : Go.bits .or .i64 n x = n + x :=
  bits_join .i64 24 (by decide) (fun n h0 h1 => i64_in n h0 (by omega)) i n x h0 hd (by omega) h2 h3 (by omega)
/-- The sign of a number. -/
def sg (n : Int) : Int := if n < 26 then 65 + n else if n < 52 then 71 + n else if n < 62 then n - 4 else if n = 62 then 43 else 47
def dig (n : Int) : Nat → Int
  | 0 => n / 262144 % 64
  | 1 => n / 4096 % 64
  | 2 => n / 64 % 64
  | _ => n % 64
def arr (n : Int) (i : Nat) : Array Value := #[.int .u8 (if 0 < i then sg (dig n 0) else 0), .int .u8 (if 1 < i then sg (dig n 1) else 0), .int .u8 (if 2 < i then sg (dig n 2) else 0), .int .u8 (if 3 < i then sg (dig n 3) else 0)]
def signsB : ByteArray := ⟨#[65, 66, 67, 68, 69, 70, 71, 72, 73, 74, 75, 76, 77, 78, 79, 80, 81, 82, 83, 84, 85, 86, 87, 88, 89, 90, 97, 98, 99, 100, 101, 102, 103, 104, 105, 106, 107, 108, 109, 110, 111, 112, 113, 114, 115, 116, 117, 118, 119, 120, 121, 122, 48, 49, 50, 51, 52, 53, 54, 55, 56, 57, 43, 47]⟩
theorem sg_nat : ∀ n : Fin 64, bt signsB ((n : Nat) : Int) = sg ((n : Nat) : Int) := by decide +kernel
theorem sg_at (d : Int) (h0 : 0 ≤ d) (h1 : d < 64) : bt signsB d = sg d := by
  obtain ⟨n, rfl⟩ := Int.eq_ofNat_of_zero_le h0
  exact sg_nat ⟨n, by omega⟩
theorem signs_at (d : Int) (h0 : 0 ≤ d) (h1 : d < 64) (h : d.toNat < (⟨#[65, 66, 67, 68, 69, 70, 71, 72, 73, 74, 75, 76, 77, 78, 79, 80, 81, 82, 83, 84, 85, 86, 87, 88, 89, 90, 97, 98, 99, 100, 101, 102, 103, 104, 105, 106, 107, 108, 109, 110, 111, 112, 113, 114, 115, 116, 117, 118, 119, 120, 121, 122, 48, 49, 50, 51, 52, 53, 54, 55, 56, 57, 43, 47]⟩ : ByteArray).size) : (((⟨#[65, 66, 67, 68, 69, 70, 71, 72, 73, 74, 75, 76, 77, 78, 79, 80, 81, 82, 83, 84, 85, 86, 87, 88, 89, 90, 97, 98, 99, 100, 101, 102, 103, 104, 105, 106, 107, 108, 109, 110, 111, 112, 113, 114, 115, 116, 117, 118, 119, 120, 121, 122, 48, 49, 50, 51, 52, 53, 54, 55, 56, 57, 43, 47]⟩ : ByteArray)[d.toNat]'h).toNat : Int) = sg d :=
  (bt_at signsB d h).trans (sg_at d h0 h1)
theorem and63 (n : Int) (h0 : 0 ≤ n) (h1 : n < 16777216) : Go.bits .and .i64 n 63 = n % 64 :=
  bits_mask .i64 24 (by decide) (fun n h0 h1 => i64_in n h0 (by omega)) 6 (by decide) n h0 (by omega)
theorem alloc_start (w : World) (g : Nat) (o : Obj) (hg : w.heap.size = g) : Below g w (w.alloc o) ∧ (w.alloc o).heap[g]? = some o := by
  subst hg; exact ⟨below_alloc (w := w) (Below.refl _ _) o, Array.getElem?_push_size⟩
def enc4 (l : List Int) : List Int := ((List.range 4).map fun i => sg (dig (num0 l 3) i)).take (l.length + 1) ++ List.replicate (3 - l.length) 61
theorem row_C {W : World} {g : Nat} {C : Array Value} {e : TypeId} {fr : Nat × Nat} {xs : List Int} (h : W.heap[g]? = some (.cells C e fr)) (hC : C.toList = xs.map (Value.int .u8)) (hl : xs.length ≤ 9223372036854775807) (j : Nat) (hj : j ≤ xs.length) : Kd.C (Kd.int .u8) W (some ⟨g, 0, none⟩) j (xs.take j) := by
  refine ⟨by rw [List.length_take]; omega, by omega, fun _ => ⟨_, rfl, fun j' p hj' => ⟨[.int .u8 p], rfl, rfl, fun i u hu => ?_⟩⟩⟩
  cases i with
  | succ i => simp at hu
  | zero =>
    obtain rfl : Value.int .u8 p = u := by simpa using hu
    have hx : xs[j']? = some p := by
      rw [List.getElem?_take] at hj'
      split at hj'
      · exact hj'
      · cases hj'
    rw [add_plain, Nat.add_zero, show j' * (Kd.int .u8).sz = j' from Nat.mul_one j', Lib.cell_of_heap h, ← Array.getElem?_toList, hC, List.getElem?_map, hx]
    rfl
def four0 (n : Int) : List Int := (List.range 4).map fun i => sg (dig n i)
theorem arr_C {W : World} {g : Nat} {n : Int} (h : W.heap[g]? = some (.cells (arr n 4) 48 (0, 0))) (j : Nat) (hj : j ≤ 4) : Kd.C (Kd.int .u8) W (some ⟨g, 0, none⟩) j ((four0 n).take j) :=
  row_C h rfl (by simp [four0]) j (by simpa [four0] using hj)
theorem strOfNums_append (a b : List Int) : strOfNums (a ++ b) = strOfNums a ++ strOfNums b := by
  apply ByteArray.ext
  rw [ByteArray.data_append]
  simp [strOfNums]
theorem enc4_text (l : List Int) (n m : Nat) (hl : l.length = n) (hm : 3 - n = m) : strOfNums ((four0 (num0 l 3)).take (n + 1)) ++ ⟨Array.replicate m 61⟩ = strOfNums (enc4 l) := by
  subst hm
  unfold enc4
  rw [strOfNums_append, hl]
  congr 1
  apply ByteArray.ext
  simp [strOfNums]
structure SFour (w : World) (n : Int) (W : World) : Prop where
  k : W.heap[w.heap.size]? = some (.cells (arr n 4) 48 (0, 0))
  b : Below w.heap.size w W
theorem SFour.drew {w W : World} {n : Int} (h : SFour w n W) : SFour w n W.drew := ⟨blk_drew h.k, below_drew h.b⟩
set_option maxHeartbeats 4000000 in
set_option maxRecDepth 100000 in
theorem four_w (A : Option Addr) (c n : Nat) (l : List Int) (w : World) (hln : l.length = n) (hr : Kd.C (Kd.int .u8) w A n l) (hc : n ≤ c) (h1 : 1 ≤ n) (h3 : n ≤ 3) (hb : ∀ x ∈ l, 0 ≤ x ∧ x < 256) :
    Calls Tryd.prog 17 #[.slice A n c] w fun e w' => e = .returned (.string (strOfNums (enc4 l))) ∧ Below w.heap.size w w' := by
  go_enter Tryd.func17, Tryd.ntmps17
  go_wp2
  go_loopg [3, 7] 3 (fun kq v3 v7 w' => ∃ i : Nat, i + kq = 3 ∧ v3 = .int .i64 (num0 l i) ∧ v7 = .int .i64 (i : Int) ∧ w' = w)
  case atStart => exact ⟨0, rfl, rfl, rfl, rfl⟩
  case round =>
    obtain ⟨i, hi, rfl, rfl, hw⟩ := hrel
    have hw' := hw.symm
    subst hw'
    have hn := num0_range l hb i
    have ha := at0_range l hb i
    have hp : (256 : Int) ^ i ≤ 65536 ∨ i = 3 := by
      obtain rfl | rfl | rfl | rfl : i = 0 ∨ i = 1 ∨ i = 2 ∨ i = 3 := by omega
      all_goals simp
    obtain rfl | hlt : i = 3 ∨ i < 3 := by omega
    · go_wp2
      go_loopg [6, 24] 4 (fun kq v6 v24 w' => ∃ i : Nat, i + kq = 4 ∧ v24 = .int .i64 (i : Int) ∧ Below w.heap.size w w' ∧ w'.heap[w.heap.size]? = some (.cells (arr (num0 l 3) i) 48 (0, 0)))
      case atStart => exact ⟨0, rfl, rfl, (alloc_start w _ _ rfl).1, (alloc_start w _ _ rfl).2⟩
      case round =>
        obtain ⟨i, hi, rfl, hB, hk⟩ := hrel
        obtain rfl | rfl | rfl | rfl | rfl : i = 4 ∨ i = 0 ∨ i = 1 ∨ i = 2 ∨ i = 3 := by omega
        · go_wp2
          have hcv : ∀ (j : Nat), j ≤ 4 → ∀ W : World, SFour w (num0 l 3) W → (convert 22 9 (.slice (some ⟨w.heap.size, 0, none⟩) j 4)).run Tryd.prog W = .ok (.string (strOfNums ((four0 (num0 l 3)).take j))) W := fun j hj W hW => Kd.C_string Tryd.underlying22 Tryd.underlying5 Tryd.underlying9 (arr_C hW.k j hj)
          have hS : SFour w (num0 l 3) wr := ⟨hk, hB⟩
          obtain rfl | rfl | rfl : n = 1 ∨ n = 2 ∨ n = 3 := by omega
          · have hcv' := hcv 2 (by decide)
            have kk := eq_false (show ¬ (9223372036854775807 < (strOfNums ((four0 (num0 l 3)).take 2)).size + 2) by rw [strOfNums_size, List.length_take]; omega)
            have k1 : IntKind.i64.wrap 2 = 2 := by decide
            have k2 : IntKind.i64.wrap 1 = 1 := by decide
            have k3 : IntKind.i64.wrap 3 = 3 := by decide
            have k4 : IntKind.i64.wrap 4 = 4 := by decide
            have k0 : IntKind.i64.wrap 0 = 0 := by decide
            go_region_held3 (SFour w (num0 l 3)) (first | assumption | exact SFour.drew (by assumption)) ((first | (go_at_call 23; refine (Repeat 2 (by decide) _).mono ?_; rintro e w' ⟨rfl, rfl⟩)))
            all_goals go_wp2
            all_goals go_ret
            all_goals exact ⟨congrArg Ending.returned (congrArg Value.string (enc4_text l 1 2 hln rfl)), SFour.b (n := num0 l 3) (by first | assumption | exact SFour.drew (by assumption) | exact SFour.drew (SFour.drew (by assumption)))⟩
          · have hcv' := hcv 3 (by decide)
            have kk := eq_false (show ¬ (9223372036854775807 < (strOfNums ((four0 (num0 l 3)).take 3)).size + 1) by rw [strOfNums_size, List.length_take]; omega)
            have k1 : IntKind.i64.wrap 2 = 2 := by decide
            have k2 : IntKind.i64.wrap 1 = 1 := by decide
            have k3 : IntKind.i64.wrap 3 = 3 := by decide
            have k4 : IntKind.i64.wrap 4 = 4 := by decide
            have k0 : IntKind.i64.wrap 0 = 0 := by decide
            go_region_held3 (SFour w (num0 l 3)) (first | assumption | exact SFour.drew (by assumption)) ((first | (go_at_call 23; refine (Repeat 1 (by decide) _).mono ?_; rintro e w' ⟨rfl, rfl⟩)))
            all_goals go_wp2
            all_goals go_ret
            all_goals exact ⟨congrArg Ending.returned (congrArg Value.string (enc4_text l 2 1 hln rfl)), SFour.b (n := num0 l 3) (by first | assumption | exact SFour.drew (by assumption) | exact SFour.drew (SFour.drew (by assumption)))⟩
          · have hcv' := hcv 4 (by decide)
            have kk := eq_false (show ¬ (9223372036854775807 < (strOfNums ((four0 (num0 l 3)).take 4)).size) by rw [strOfNums_size, List.length_take]; omega)
            have k1 : IntKind.i64.wrap 2 = 2 := by decide
            have k2 : IntKind.i64.wrap 1 = 1 := by decide
            have k3 : IntKind.i64.wrap 3 = 3 := by decide
            have k4 : IntKind.i64.wrap 4 = 4 := by decide
            have k0 : IntKind.i64.wrap 0 = 0 := by decide
            go_region_held3 (SFour w (num0 l 3)) (first | assumption | exact SFour.drew (by assumption)) ((first | (go_at_call 23; refine (Repeat 0 (by decide) _).mono ?_; rintro e w' ⟨rfl, rfl⟩)))
            all_goals go_wp2
            all_goals go_ret
            all_goals exact ⟨congrArg Ending.returned (congrArg Value.string (enc4_text l 3 0 hln rfl)), SFour.b (n := num0 l 3) (by first | assumption | exact SFour.drew (by assumption) | exact SFour.drew (SFour.drew (by assumption)))⟩
        · have hd0 : 0 ≤ dig (num0 l 3) 0 := by simp only [dig]; omega
          have hd1 : dig (num0 l 3) 0 < 64 := by simp only [dig]; omega
          have e1 : Go.bits .and .i64 (num0 l 3 / 262144) 63 = dig (num0 l 3) 0 := and63 _ (by omega) (by omega)
          have e2 := eq_true hd0
          have e3 := eq_true hd1
          have e4 := signs_at (dig (num0 l 3) 0) hd0 hd1
          have f0 : wr.frozen? ⟨w.heap.size, 0, none⟩ = false := Lib.frozen_of_heap hk 0
          have x0 : wr.cell? ⟨w.heap.size, 0, none⟩ = some (.int .u8 0) := by rw [Lib.cell_of_heap hk]; rfl
          go_wp2
          go_roundg (gk - 1)
          case measure => omega
          case rel => exact ⟨1, by omega, rfl, below_set hB (Nat.le_refl _), (blk_put hk 0 _ rfl)⟩
        · have hd0 : 0 ≤ dig (num0 l 3) 1 := by simp only [dig]; omega
          have hd1 : dig (num0 l 3) 1 < 64 := by simp only [dig]; omega
          have e1 : Go.bits .and .i64 (num0 l 3 / 4096) 63 = dig (num0 l 3) 1 := and63 _ (by omega) (by omega)
          have e2 := eq_true hd0
          have e3 := eq_true hd1
          have e4 := signs_at (dig (num0 l 3) 1) hd0 hd1
          have f0 : wr.frozen? ⟨w.heap.size, 1, none⟩ = false := Lib.frozen_of_heap hk 1
          have x0 : wr.cell? ⟨w.heap.size, 1, none⟩ = some (.int .u8 0) := by rw [Lib.cell_of_heap hk]; rfl
          go_wp2
          go_roundg (gk - 1)
          case measure => omega
          case rel => exact ⟨2, by omega, rfl, below_set hB (Nat.le_refl _), (blk_put hk 1 _ rfl)⟩
        · have hd0 : 0 ≤ dig (num0 l 3) 2 := by simp only [dig]; omega
          have hd1 : dig (num0 l 3) 2 < 64 := by simp only [dig]; omega
          have e1 : Go.bits .and .i64 (num0 l 3 / 64) 63 = dig (num0 l 3) 2 := and63 _ (by omega) (by omega)
          have e2 := eq_true hd0
          have e3 := eq_true hd1
          have e4 := signs_at (dig (num0 l 3) 2) hd0 hd1
          have f0 : wr.frozen? ⟨w.heap.size, 2, none⟩ = false := Lib.frozen_of_heap hk 2
          have x0 : wr.cell? ⟨w.heap.size, 2, none⟩ = some (.int .u8 0) := by rw [Lib.cell_of_heap hk]; rfl
          go_wp2
          go_roundg (gk - 1)
          case measure => omega
          case rel => exact ⟨3, by omega, rfl, below_set hB (Nat.le_refl _), (blk_put hk 2 _ rfl)⟩
        · have hd0 : 0 ≤ dig (num0 l 3) 3 := by simp only [dig]; omega
          have hd1 : dig (num0 l 3) 3 < 64 := by simp only [dig]; omega
          have e1 : Go.bits .and .i64 (num0 l 3) 63 = dig (num0 l 3) 3 := and63 _ (by omega) (by omega)
          have e2 := eq_true hd0
          have e3 := eq_true hd1
          have e4 := signs_at (dig (num0 l 3) 3) hd0 hd1
          have f0 : wr.frozen? ⟨w.heap.size, 3, none⟩ = false := Lib.frozen_of_heap hk 3
          have x0 : wr.cell? ⟨w.heap.size, 3, none⟩ = some (.int .u8 0) := by rw [Lib.cell_of_heap hk]; rfl
          go_wp2
          go_roundg (gk - 1)
          case measure => omega
          case rel => exact ⟨4, by omega, rfl, below_set hB (Nat.le_refl _), (blk_put hk 3 _ rfl)⟩
    · have c1 : decide ((i : Int) < 3) = true := decide_eq_true (by omega)
      have c2 : wrap64 (num0 l i * 256) = num0 l i * 256 := (i64_w _).symm.trans (i64_in _ (by omega) (by omega))
      by_cases hl : i < n
      · have c3 : decide (i < n) = true := decide_eq_true hl
        have c4 := eq_true (show (0 : Int) ≤ (i : Int) by omega)
        have c5 := eq_true (show (i : Int) < (n : Int) by omega)
        obtain ⟨ad, rfl, hx⟩ := Kd.at_int hr (i : Int) (by omega) (by omega)
        have hrd : rd l (i : Int) = at0 l i := by simp [rd, at0]
        rw [hrd, Int.toNat_natCast] at hx
        have c6 : Go.bits .or .i64 (num0 l i * 256) (at0 l i) = num0 l (i + 1) := or_join _ _ 8 (by omega) (by omega) (by omega) (by omega) (by omega) (by omega)
        have c7 : wrap64 (at0 l i) = at0 l i := (i64_w _).symm.trans (i64_in _ (by omega) (by omega))
        go_wp2
        go_roundg (gk - 1)
        case measure => omega
        case rel => exact ⟨i + 1, by omega, rfl, rfl, rfl⟩
      · have c3 : decide (i < n) = false := decide_eq_false hl
        have c6 : num0 l i * 256 = num0 l (i + 1) := by simp [num0, at0, List.getD_eq_getElem?_getD, List.getElem?_eq_none (by omega : l.length ≤ i)]
        go_wp2
        go_roundg (gk - 1)
        case measure => omega
        case rel => exact ⟨i + 1, by omega, rfl, rfl, rfl⟩
/-- Bytes as text, three by three. -/
def enc : List Int → List Int
  | [] => []
  | [a] => enc4 [a]
  | [a, b] => enc4 [a, b]
  | a :: b :: c :: t => enc4 [a, b, c] ++ enc t
theorem enc4_len (l : List Int) (h : l.length ≤ 3) : (enc4 l).length = 4 := by
  unfold enc4
  simp
  omega
theorem enc_len : ∀ l : List Int, (enc l).length = (l.length + 2) / 3 * 4
  | [] => rfl
  | [a] => by rw [enc, enc4_len _ (by simp)]; simp
  | [a, b] => by rw [enc, enc4_len _ (by simp)]; simp
  | a :: b :: c :: t => by
    rw [enc, List.length_append, enc4_len _ (by simp), enc_len t]
    simp only [List.length_cons]
    omega
theorem enc_more (l : List Int) (h : 3 < l.length) : enc l = enc4 (l.take 3) ++ enc (l.drop 3) := by
  match l, h with
  | a :: b :: c :: t, _ => rfl
theorem enc_few (l : List Int) (h0 : 0 < l.length) (h : l.length ≤ 3) : enc l = enc4 l := by
  match l, h0, h with
  | [a], _, _ => rfl
  | [a, b], _, _ => rfl
  | [a, b, c], _, _ => simp [enc]
theorem builder_below {T e : TypeId} {B b : Nat} {bs : List Value} {w w1 : World} (h : Lib.IsBuilder T e B b bs w) (hb : Below w.heap.size w w1) : Lib.IsBuilder T e B b bs w1 := by
  have one : ∀ p, Lib.BuilderAt T e B b p bs w → Lib.BuilderAt T e B b p bs w1 := by
    rintro p ⟨hB, v, hk, ho, hne⟩
    have hlt : b < w.heap.size := by
      rcases Nat.lt_or_ge b w.heap.size with h' | h'
      · exact h'
      · simp [Array.getElem?_eq_none h'] at hk
    exact ⟨hB, v, by rw [hb.block b hlt]; exact hk, pw_own_below ho hb, hne⟩
  exact h.imp (one _) (one _)
theorem builder_new {T e : TypeId} (w : World) : Lib.IsBuilder T e w.heap.size w.heap.size [] (w.alloc (.cells #[.pointer none, .slice none 0 0] T (0, 0))) :=
  .inl ⟨Nat.le_refl _, .slice none 0 0, Array.getElem?_push_size, ⟨rfl, .inl ⟨rfl, rfl⟩⟩, by simp [Value.ownBlock]⟩
theorem cells_nums (a b : List Int) : Lib.strCells (strOfNums a) ++ Lib.strCells (strOfNums b) = Lib.strCells (strOfNums (a ++ b)) := by
  simp [Lib.strCells, strOfNums_append]
theorem string_nums (a : List Int) : (⟨(strOfNums a).data.toList.toArray⟩ : ByteArray) = strOfNums a := rfl
theorem below_trans {B : Nat} {w w1 w2 : World} (h : Below B w w1) (hs : B ≤ w.heap.size) (k : Below w1.heap.size w1 w2) : Below B w w2 :=
  ⟨k.os.trans h.os, k.tape.trans h.tape, k.output.trans h.output, Nat.le_trans h.size k.size, fun i hi => (k.block i (by have := h.size; omega)).trans (h.block i hi)⟩
theorem below_same {B : Nat} {w w1 w2 : World} (h : Below B w w1) (k : Below B w1 w2) : Below B w w2 :=
  ⟨k.os.trans h.os, k.tape.trans h.tape, k.output.trans h.output, Nat.le_trans h.size k.size, fun i hi => (k.block i hi).trans (h.block i hi)⟩
theorem bsTake {P : Program} (t e : TypeId) {i : TypeInfo} (ht : P.underlying t = some (.slice e)) (hi : P.info? e = some i) (hsz : i.size = 1) (A : Option Addr) (n c : Nat) (xs : List Int) (hn : xs.length = n) (j : Nat) (hm : j ≤ n) (hc : n ≤ c) :
    (∀ W : World, (Instr.slice t (.slice A n c) none (some (.int .i64 j)) (some (.int .i64 j))).run P W = .ok (.slice A j j) W) ∧
      (∀ w : World, Kd.C (Kd.int .u8) w A n xs → Kd.C (Kd.int .u8) w A j (xs.take j)) := by
  subst hn
  refine ⟨fun W => ?_, fun w h => ?_⟩
  · have hel : P.elem t = e := by simp [Program.elem, ht]
    have hu : P.underlying t = some (.slice (P.elem t)) := by rw [hel]; exact ht
    have ha : (A.map fun x => x.add 0) = A := by cases A <;> simp [Addr.add]
    rw [run_slice_hm W t A xs.length c hu .i64 .i64 j j (by omega) (Int.le_refl _) (by omega), hel]
    simp [sizeOf, typeInfo, hi, hsz, sliced, Result.andThen, ha]
  · have h2 := (print_take_of (P := P) (Value.int .u8) (0 : Int) t e .i64 ht hi hsz A c xs (j : Int) (by omega) (by omega) hc).2.1 w (Kd.reads_of_C (enc := Value.int .u8) (d := (0 : Int)) (h1 := fun _ => rfl) h)
    have h3 := Kd.C_of_reads (h1 := fun _ => rfl) h2
    rw [List.length_take, Int.toNat_natCast, Nat.min_eq_left hm] at h3
    exact h3
theorem bsDrop {P : Program} (t e : TypeId) {i : TypeInfo} (ht : P.underlying t = some (.slice e)) (hi : P.info? e = some i) (hsz : i.size = 1) (A : Option Addr) (n c : Nat) (xs : List Int) (hn : xs.length = n) (j : Nat) (hm : j ≤ n) (hc : n ≤ c) :
    ∃ A' : Option Addr, (∀ W : World, (Instr.slice t (.slice A n c) (some (.int .i64 j)) none none).run P W = .ok (.slice A' (n - j) (c - j)) W) ∧
      (∀ w : World, Kd.C (Kd.int .u8) w A n xs → Kd.C (Kd.int .u8) w A' (n - j) (xs.drop j)) := by
  subst hn
  obtain ⟨A', h1, h2, _⟩ := print_drop_of (P := P) (Value.int .u8) (0 : Int) t e .i64 ht hi hsz A c xs (j : Int) (by omega) (by omega) hc
  rw [List.length_drop, Int.toNat_natCast] at h1
  refine ⟨A', h1, fun w h => ?_⟩
  have h3 := Kd.C_of_reads (h1 := fun _ => rfl) (h2 w (Kd.reads_of_C (enc := Value.int .u8) (d := (0 : Int)) (h1 := fun _ => rfl) h))
  rw [List.length_drop, Int.toNat_natCast] at h3
  exact h3
set_option maxHeartbeats 4000000 in
set_option maxRecDepth 100000 in
theorem encode_w (A : Option Addr) (c : Nat) (l : List Int) (w : World) (hr : Kd.C (Kd.int .u8) w A l.length l) (hc : l.length ≤ c) (hb : ∀ x ∈ l, 0 ≤ x ∧ x < 256) (hmax : l.length ≤ 1000000) :
    Calls Tryd.prog 12 #[.slice A l.length c] w fun e w' => e = .returned (.string (strOfNums (enc l))) ∧ Below w.heap.size w w' := by
  go_enter Tryd.func12, Tryd.ntmps12
  go_wp2
  go_loopg [0] l.length (fun kq v0 w' => ∃ (A1 : Option Addr) (n c1 : Nat) (x done : List Int), v0 = .slice A1 n c1 ∧ Aside0 (x.length = n ∧ n ≤ c1 ∧ n ≤ kq ∧ enc l = done ++ enc x ∧ (∀ y ∈ x, 0 ≤ y ∧ y < 256) ∧ Kd.C (Kd.int .u8) w A1 n x ∧ Lib.IsBuilder 38 5 w.heap.size w.heap.size (Lib.strCells (strOfNums done)) w' ∧ Below w.heap.size w w'))
  case atStart => exact ⟨A, l.length, c, l, [], rfl, ⟨rfl, hc, Nat.le_refl _, rfl, hb, hr, builder_new w, below_alloc (Below.refl _ _) _⟩⟩
  case round =>
    obtain ⟨A1, n, c1, x, done, rfl, ⟨hn, hc1, hk, he, hx, hC, hI, hB⟩⟩ := hrel
    have hel : done.length ≤ 2000000 ∧ n ≤ 1000002 := by
      have h1 := congrArg List.length he
      rw [List.length_append, enc_len, enc_len] at h1
      omega
    obtain ⟨i0, hi0, hz0, hz1, hz2⟩ := info_parts infoByte
    by_cases h3 : 3 < n
    · have c1' : decide (3 < n) = true := decide_eq_true h3
      obtain ⟨hs1, hs2⟩ := bsTake (P := Tryd.prog) 22 5 Tryd.underlying22 hi0 hz1 A1 n c1 x hn 3 (by omega) hc1
      obtain ⟨A2, ht1, ht2⟩ := bsDrop (P := Tryd.prog) 22 5 Tryd.underlying22 hi0 hz1 A1 n c1 x hn 3 (by omega) hc1
      have hs1' : ∀ W : World, (Instr.slice 22 (.slice A1 n c1) none (some (.int .i64 3)) (some (.int .i64 3))).run Tryd.prog W = .ok (.slice A1 3 3) W := hs1
      have ht1' : ∀ W : World, (Instr.slice 22 (.slice A1 n c1) (some (.int .i64 3)) none none).run Tryd.prog W = .ok (.slice A2 (n - 3) (c1 - 3)) W := ht1
      have ht2' := ht2 w hC
      clear hs1 ht1 ht2
      have hf : ∀ W, Below w.heap.size w W → Calls Tryd.prog 17 #[.slice A1 3 3] W fun e w' => e = .returned (.string (strOfNums (enc4 (x.take 3)))) ∧ Below W.heap.size W w' := fun W hW =>
        four_w A1 3 3 (x.take 3) W (by rw [List.length_take]; omega) (Kd.C_below (hs2 w hC) hW) (by omega) (by omega) (by omega) (fun y hy => hx y (List.mem_of_mem_take hy))
      have H := Aside0.mk (And.intro hI (And.intro hB hf))
      clear hI hB hf hC hs2
      go_wp2_with (first | (go_at_call 17; refine (H.out.2.2 _ H.out.2.1).mono ?_; rintro e w2 ⟨rfl, hB2⟩; have H2 := Aside0.mk hB2; clear hB2) | (go_at_call 16; refine (WriteString w.heap.size w.heap.size _ _ _ (builder_below H.out.1 H2.out) (by rw [Lib.strCells_length, strOfNums_size, strOfNums_size, enc4_len _ (by rw [List.length_take]; omega)]; omega) (by have := H.out.2.1.size; have := H2.out.size; omega)).mono ?_; rintro e w3 ⟨rfl, hI3, hB3⟩; have H3 := Aside0.mk (And.intro hI3 hB3); clear hI3 hB3))
      go_roundg (gk - 1)
      case measure => omega
      case rel => exact ⟨A2, n - 3, c1 - 3, x.drop 3, done ++ enc4 (x.take 3), rfl, ⟨by rw [List.length_drop]; omega, by omega, by omega, by rw [he, enc_more x (by omega), List.append_assoc], fun y hy => hx y (List.mem_of_mem_drop hy), ht2', .inr (by have := H3.out.1; rwa [cells_nums] at this), below_same (below_trans H.out.2.1 (by have := H.out.2.1.size; omega) H2.out) H3.out.2⟩⟩
    · have c1' : decide (3 < n) = false := decide_eq_false h3
      by_cases h0 : 0 < n
      · have c2' : decide (0 < n) = true := decide_eq_true h0
        have hf : ∀ W, Below w.heap.size w W → Calls Tryd.prog 17 #[.slice A1 n c1] W fun e w' => e = .returned (.string (strOfNums (enc4 x))) ∧ Below W.heap.size W w' := fun W hW =>
          four_w A1 c1 n x W hn (Kd.C_below hC hW) hc1 (by omega) (by omega) hx
        have H := Aside0.mk (And.intro hI (And.intro hB hf))
        clear hI hB hf hC
        go_wp2_with (first | (go_at_call 17; refine (H.out.2.2 _ H.out.2.1).mono ?_; rintro e w2 ⟨rfl, hB2⟩; have H2 := Aside0.mk hB2; clear hB2) | (go_at_call 16; refine (WriteString w.heap.size w.heap.size _ _ _ (builder_below H.out.1 H2.out) (by rw [Lib.strCells_length, strOfNums_size, strOfNums_size, enc4_len _ (by omega)]; omega) (by have := H.out.2.1.size; have := H2.out.size; omega)).mono ?_; rintro e w3 ⟨rfl, hI3, hB3⟩; have H3 := Aside0.mk (And.intro hI3 hB3); clear hI3 hB3) | (go_at_call 18; refine (sh_Builder_String_any w.heap.size w.heap.size (strOfNums (done ++ enc4 x)).data.toList _ (.inr (by have := H3.out.1; rwa [cells_nums] at this)) (by have := H.out.2.1.size; have := H2.out.size; have := H3.out.2.size; omega)).mono ?_; rintro e w4 ⟨rfl, hB4⟩; have H4 := Aside0.mk hB4; clear hB4))
        go_ret
        exact ⟨by rw [he, enc_few x (by omega) (by omega)]; rfl, below_same (below_same (below_trans H.out.2.1 (by have := H.out.2.1.size; omega) H2.out) H3.out.2) H4.out⟩
      · have c2' : decide (0 < n) = false := decide_eq_false h0
        have H := Aside0.mk (And.intro hI hB)
        clear hI hB hC
        go_wp2_with (first | (go_at_call 18; refine (sh_Builder_String_any w.heap.size w.heap.size (strOfNums done).data.toList _ H.out.1 (by have := H.out.2.size; omega)).mono ?_; rintro e w4 ⟨rfl, hB4⟩; have H4 := Aside0.mk hB4; clear hB4))
        go_ret
        have hx0 : x = [] := List.eq_nil_of_length_eq_zero (by omega)
        exact ⟨by rw [he, hx0]; simp [enc], below_same H.out.2 H4.out⟩
/-- A text without the fillers at its end. -/
def trim (xs : List Int) : List Int := (xs.reverse.dropWhile (· == 61)).reverse
theorem trim_hit (zs : List Int) : trim (zs ++ [61]) = trim zs := by simp [trim]
theorem trim_miss (zs : List Int) (z : Int) (h : z ≠ 61) : trim (zs ++ [z]) = zs ++ [z] := by simp [trim, h]
theorem str_at (xs : List Int) (hx : ∀ x ∈ xs, 0 ≤ x ∧ x < 256) (i : Nat) (h : i < (strOfNums xs).size) : (((strOfNums xs)[i]'h).toNat : Int) = at0 xs i := by
  have hi : i < xs.length := by rw [strOfNums_size] at h; exact h
  have h1 : (strOfNums xs)[i]'h = UInt8.ofNat (xs[i]).toNat := by
    show (strOfNums xs).data[i]'h = _
    simp [strOfNums]
  have h2 := hx xs[i] (List.getElem_mem hi)
  rw [h1, at0, List.getD_eq_getElem?_getD, List.getElem?_eq_getElem hi]
  simp
  omega
theorem str_take (xs : List Int) (k : Nat) : (strOfNums xs).extract 0 k = strOfNums (xs.take k) := by
  apply ByteArray.ext
  rw [ByteArray.data_extract]
  apply Array.ext'
  simp [strOfNums, List.map_take]
theorem str_drop (xs : List Int) (k : Nat) : (strOfNums xs).extract k (strOfNums xs).size = strOfNums (xs.drop k) := by
  apply ByteArray.ext
  rw [ByteArray.data_extract]
  apply Array.ext'
  rw [strOfNums_size]
  simp [strOfNums, List.map_drop]
  rw [List.take_of_length_le (by simp)]
theorem str_inj (xs ys : List Int) (hx : ∀ x ∈ xs, 0 ≤ x ∧ x < 256) (hy : ∀ x ∈ ys, 0 ≤ x ∧ x < 256) (h : strOfNums xs = strOfNums ys) : xs = ys := by
  have hl : xs.length = ys.length := by rw [← strOfNums_size xs, ← strOfNums_size ys, h]
  apply List.ext_getElem hl
  intro i h1 h2
  have e1 := str_at xs hx i (by rw [strOfNums_size]; exact h1)
  have e2 := str_at ys hy i (by rw [strOfNums_size]; exact h2)
  simp only [h] at e1
  rw [e2] at e1
  simpa [at0, List.getD_eq_getElem?_getD, h1, h2] using e1.symm
theorem str_all (s : ByteArray) : ∃ xs : List Int, (∀ x ∈ xs, 0 ≤ x ∧ x < 256) ∧ s = strOfNums xs := by
  refine ⟨s.data.toList.map fun b => (b.toNat : Int), fun x hx => ?_, ?_⟩
  · obtain ⟨b, _, rfl⟩ := List.mem_map.1 hx
    have := b.toNat_lt
    omega
  · apply ByteArray.ext
    apply Array.ext'
    simp only [strOfNums, List.map_map]
    exact (List.map_id _).symm.trans (List.map_congr_left fun b _ => by simp)
set_option maxHeartbeats 4000000 in
set_option maxRecDepth 100000 in
theorem trimByte_w (xs : List Int) (hx : ∀ x ∈ xs, 0 ≤ x ∧ x < 256) (hl : xs.length ≤ 1000000) (w : World) :
    Calls Tryd.prog 24 #[.string (strOfNums xs), .int .u8 61] w fun e w' => e = .returned (.string (strOfNums (trim xs))) ∧ w' = w := by
  go_enter Tryd.func24, Tryd.ntmps24
  go_wp2
  go_loopg [0] xs.length (fun kq v0 w' => ∃ (ys : List Int), v0 = .string (strOfNums ys) ∧ trim ys = trim xs ∧ (∀ x ∈ ys, 0 ≤ x ∧ x < 256) ∧ ys.length ≤ kq ∧ ys.length ≤ 1000000 ∧ w' = w)
  case atStart => exact ⟨xs, rfl, rfl, hx, Nat.le_refl _, hl, rfl⟩
  case round =>
    obtain ⟨ys, rfl, he, hy, hk, hm, hw⟩ := hrel
    have hw' := hw.symm
    subst hw'
    have hz := strOfNums_size ys
    have hi := str_at ys hy
    rcases List.eq_nil_or_concat ys with rfl | ⟨zs, z, rfl⟩
    · have c1 : decide (0 < (strOfNums []).size) = false := by decide
      go_wp2
      go_ret
      exact ⟨by rw [← he]; rfl, rfl⟩
    · simp only [List.concat_eq_append, List.length_append, List.length_singleton] at hz hk hm hi hy he ⊢
      have c1 : decide (0 < (strOfNums (zs ++ [z])).size) = true := decide_eq_true (by omega)
      have c2 : IntKind.i64.wrap (((zs.length + 1 : Nat) : Int) - 1) = zs.length := by rw [i64_in _ (by omega) (by omega)]; omega
      have hi' := hi zs.length
      have ha : at0 (zs ++ [z]) zs.length = z := by simp [at0, List.getD_eq_getElem?_getD]
      rw [ha] at hi'
      by_cases h6 : z = 61
      · subst h6
        go_wp2
        have e1 : (strOfNums (zs ++ [61])).extract 0 zs.length = strOfNums zs := by rw [str_take, List.take_left' rfl]
        rw [e1]
        go_roundg (gk - 1)
        case measure => omega
        case rel => exact ⟨zs, rfl, by rw [← he, trim_hit], fun x hx => hy x (List.mem_append_left _ hx), by omega, by omega, rfl⟩
      · go_wp2
        go_ret
        exact ⟨by rw [← he, trim_miss _ _ h6]; rfl, rfl⟩
set_option maxHeartbeats 4000000 in
set_option maxRecDepth 100000 in
theorem trimRight_w (xs : List Int) (h0 : xs ≠ []) (hx : ∀ x ∈ xs, 0 ≤ x ∧ x < 256) (hl : xs.length ≤ 1000000) (w : World) :
    Calls Tryd.prog 20 #[.string (strOfNums xs), .string ⟨#[61]⟩] w fun e w' => e = .returned (.string (strOfNums (trim xs))) ∧ w' = w := by
  have c1 : ((strOfNums xs).toList == ([] : List UInt8)) = false := by
    rw [beq_eq_false_iff_ne]
    intro h
    rw [Lib.strOfNums_toList] at h
    have := congrArg List.length h
    simp at this
    exact h0 (List.eq_nil_of_length_eq_zero (by simpa [Lib.bytesOf] using this))
  go_enter Tryd.func20, Tryd.ntmps20
  go_wp2_with (go_at_call 24; refine (trimByte_w xs hx hl _).mono ?_; rintro e w' ⟨rfl, rfl⟩)
  go_ret
  exact ⟨rfl, rfl⟩
/-- The number of a sign; below 0: it is none. -/
def idx (x : Int) : Int := Lib.indexByte signsB.data.toList x.toNat.toUInt8
theorem idx_range (x : Int) : -1 ≤ idx x ∧ idx x < 64 := by
  have key : ∀ (u : List UInt8) (y : UInt8), Lib.indexByte u y < u.length ∧ -1 ≤ Lib.indexByte u y := by
    intro u y
    refine ⟨?_, Lib.indexByte_ge u y⟩
    induction u with
    | nil => simp [Lib.indexByte]
    | cons b t ih =>
      have := Lib.indexByte_ge t y
      simp only [Lib.indexByte, List.length_cons]
      split
      · omega
      · split
        · omega
        · omega
  have h := key signsB.data.toList x.toNat.toUInt8
  exact ⟨h.2, h.1⟩
def num6 (f : List Int) : Nat → Int
  | 0 => 0
  | i + 1 => num6 f i * 64 + (if i < f.length then idx (at0 f i) else 0)
def Sgn (f : List Int) : Prop := ∀ i, i < f.length → 0 ≤ idx (at0 f i)
def cutN (n : Int) (m : Nat) : List Int := [n / 65536 % 256, n / 256 % 256, n % 256].take m
instance (f : List Int) : Decidable (Sgn f) := inferInstanceAs (Decidable (∀ i, i < f.length → 0 ≤ idx (at0 f i)))
def dec4 (xs : List Int) : Option (List Int) :=
  if Sgn (trim xs) ∧ 2 ≤ (trim xs).length ∧ enc4 (cutN (num6 (trim xs) 4) ((trim xs).length - 1)) = xs then some (cutN (num6 (trim xs) 4) ((trim xs).length - 1)) else none
def ThreePost (xs : List Int) (w : World) (e : Ending) (w' : World) : Prop :=
  ((dec4 xs = none ∧ e = .returned (.tuple #[.slice none 0 0, .bool false])) ∨
    ∃ (l : List Int) (A : Option Addr) (c : Nat), dec4 xs = some l ∧ e = .returned (.tuple #[.slice A l.length c, .bool true]) ∧ Kd.C (Kd.int .u8) w' A l.length l ∧ l.length ≤ c) ∧ Below w.heap.size w w'
theorem trim_len (xs : List Int) : (trim xs).length ≤ xs.length := by
  unfold trim
  rw [List.length_reverse]
  have h : (xs.reverse.dropWhile (· == 61)).length ≤ xs.reverse.length := (List.dropWhile_sublist _).length_le
  rwa [List.length_reverse] at h
theorem trim_mem (xs : List Int) : ∀ x ∈ trim xs, x ∈ xs := fun x hx => by
  have h1 := List.mem_reverse.1 hx
  exact List.mem_reverse.1 ((List.dropWhile_sublist _).subset h1)
theorem num6_range' (f : List Int) : ∀ i, (∀ j, j < i → j < f.length → 0 ≤ idx (at0 f j)) → 0 ≤ num6 f i ∧ num6 f i < 64 ^ i
  | 0, _ => by simp [num6]
  | i + 1, hb => by
    have h1 := num6_range' f i (fun j h => hb j (by omega))
    have h3 : (64 : Int) ^ (i + 1) = 64 ^ i * 64 := Int.pow_succ ..
    simp only [num6]
    split
    · rename_i h
      have h2 := hb i (by omega) h
      have h4 := (idx_range (at0 f i)).2
      omega
    · omega
theorem bsTo {P : Program} (t e : TypeId) {i : TypeInfo} (ht : P.underlying t = some (.slice e)) (hi : P.info? e = some i) (hsz : i.size = 1) (A : Option Addr) (n c : Nat) (xs : List Int) (hn : xs.length = n) (j : Nat) (hm : j ≤ n) (hc : n ≤ c) :
    (∀ W : World, (Instr.slice t (.slice A n c) none (some (.int .i64 j)) none).run P W = .ok (.slice A j c) W) ∧
      (∀ w : World, Kd.C (Kd.int .u8) w A n xs → Kd.C (Kd.int .u8) w A j (xs.take j)) := by
  subst hn
  obtain ⟨h1, h2, _⟩ := print_take_of (P := P) (Value.int .u8) (0 : Int) t e .i64 ht hi hsz A c xs (j : Int) (by omega) (by omega) hc
  rw [List.length_take, Int.toNat_natCast, Nat.min_eq_left hm] at h1
  refine ⟨h1, fun w h => ?_⟩
  have h3 := Kd.C_of_reads (h1 := fun _ => rfl) (h2 w (Kd.reads_of_C (enc := Value.int .u8) (d := (0 : Int)) (h1 := fun _ => rfl) h))
  rw [List.length_take, Int.toNat_natCast, Nat.min_eq_left hm] at h3
  exact h3
theorem toList_ne {a b : ByteArray} (h : a ≠ b) : (a.toList == b.toList) = false := by
  rw [beq_eq_false_iff_ne]
  intro e
  rw [ByteArray.toList_eq, ByteArray.toList_eq] at e
  exact h (ByteArray.ext (Array.ext' e))
theorem sg_range (d : Int) (h0 : 0 ≤ d) (h1 : d < 64) : 0 ≤ sg d ∧ sg d < 256 := by
  unfold sg
  repeat' split
  all_goals omega
theorem enc4_range (l : List Int) (hb : ∀ x ∈ l, 0 ≤ x ∧ x < 256) : ∀ x ∈ enc4 l, 0 ≤ x ∧ x < 256 := by
  have hn := num0_range l hb 3
  intro x hx
  unfold enc4 at hx
  rcases List.mem_append.1 hx with h | h
  · obtain ⟨i, _, rfl⟩ := List.mem_map.1 (List.mem_of_mem_take h)
    refine sg_range _ ?_ ?_ <;> (unfold dig; split <;> omega)
  · rw [List.mem_replicate] at h
    omega
theorem enc4_of_str {xs l : List Int} {m : Nat} (hx : ∀ x ∈ xs, 0 ≤ x ∧ x < 256) (_ : l.length = m - 1) (_ : ¬ m < 2) (hcr : ∀ x ∈ l, 0 ≤ x ∧ x < 256) (hs : strOfNums (enc4 l) = strOfNums xs) : enc4 l = xs :=
  str_inj _ _ (enc4_range l hcr) hx hs
set_option maxHeartbeats 4000000 in
set_option maxRecDepth 100000 in
theorem three_w (xs : List Int) (hx : ∀ x ∈ xs, 0 ≤ x ∧ x < 256) (hl : xs.length = 4) (w : World) :
    Calls Tryd.prog 14 #[.string (strOfNums xs)] w fun e w' => ThreePost xs w e w' := by
  have hne : xs ≠ [] := by rintro rfl; simp at hl
  have hml := trim_len xs
  rw [hl] at hml
  have hfx : ∀ x ∈ trim xs, 0 ≤ x ∧ x < 256 := fun x h => hx x (trim_mem xs x h)
  obtain ⟨f, hf⟩ : ∃ f, trim xs = f := ⟨_, rfl⟩
  obtain ⟨m, hm⟩ : ∃ m, f.length = m := ⟨_, rfl⟩
  have hz := strOfNums_size f
  rw [hf] at hml hfx
  rw [hm] at hml hz
  have ht := trimRight_w xs hne hx (by omega)
  rw [hf] at ht
  have HT := Aside0.mk ht
  clear ht
  go_enter Tryd.func14, Tryd.ntmps14
  go_wp2_with (go_at_call 20; refine (HT.out _).mono ?_; rintro e w1 ⟨rfl, hw1⟩; have hw2 := hw1.symm; subst hw2)
  go_loopg [5, 11] 4 (fun kq v5 v11 w' => ∃ i : Nat, i + kq = 4 ∧ v5 = .int .i64 (num6 f i) ∧ v11 = .int .i64 (i : Int) ∧ Aside0 (∀ j, j < i → j < m → 0 ≤ idx (at0 f j)) ∧ w' = w)
  case atStart => exact ⟨0, rfl, rfl, rfl, ⟨fun j h => by omega⟩, rfl⟩
  case round =>
    obtain ⟨i, hi, rfl, rfl, hS, hw⟩ := hrel
    have hw' := hw.symm
    subst hw'
    have hn : 0 ≤ num6 f i ∧ num6 f i < 64 ^ i := num6_range' f i (fun j h h' => hS.out j h (by omega))
    have hp : (64 : Int) ^ i ≤ 262144 ∨ i = 4 := by
      obtain rfl | rfl | rfl | rfl | rfl : i = 0 ∨ i = 1 ∨ i = 2 ∨ i = 3 ∨ i = 4 := by omega
      all_goals simp
    obtain rfl | hlt : i = 4 ∨ i < 4 := by omega
    · obtain ⟨N, hN⟩ : ∃ N, num6 f 4 = N := ⟨_, rfl⟩
      rw [hN] at hn ⊢
      have hSg : Sgn (trim xs) := fun j hj => by rw [hf] at hj ⊢; exact hS.out j (by omega) (by omega)
      have e1 : IntKind.u8.wrap (N / 65536) = N / 65536 % 256 := by simp [IntKind.wrap, IntKind.bits, IntKind.signed]
      have e2 : IntKind.u8.wrap (N / 256) = N / 256 % 256 := by simp [IntKind.wrap, IntKind.bits, IntKind.signed]
      have e3 : IntKind.u8.wrap N = N % 256 := by simp [IntKind.wrap, IntKind.bits, IntKind.signed]
      by_cases h2 : m < 2
      · have c2 : decide (m < 2) = true := decide_eq_true h2
        have hd : dec4 xs = none := by
          unfold dec4
          rw [if_neg]
          rintro ⟨_, h1, _⟩
          rw [hf] at h1
          omega
        go_wp2_with fail
        go_ret2
        exact ⟨.inl ⟨hd, rfl⟩, below_alloc (Below.refl _ _) _⟩
      · have c2 : decide (m < 2) = false := decide_eq_false h2
        have hC : Kd.C (Kd.int .u8) (w.alloc (.cells #[.int .u8 (N / 65536 % 256), .int .u8 (N / 256 % 256), .int .u8 (N % 256)] 5)) (some ⟨w.heap.size, 0, none⟩) (m - 1) (cutN N (m - 1)) :=
          row_C (xs := [N / 65536 % 256, N / 256 % 256, N % 256]) (alloc_start w _ _ rfl).2 rfl (by simp) (m - 1) (by simp; omega)
        have hcl : (cutN N (m - 1)).length = m - 1 := by simp [cutN]; omega
        have hcr : ∀ x ∈ cutN N (m - 1), 0 ≤ x ∧ x < 256 := fun x hx' => by
          have := List.mem_of_mem_take hx'
          simp only [List.mem_cons, List.not_mem_nil, or_false] at this
          omega
        have H4 := Aside0.mk (four_w (some ⟨w.heap.size, 0, none⟩) 3 (m - 1) (cutN N (m - 1)) _ hcl hC (by omega) (by omega) (by omega) hcr)
        have HC := Aside0.mk hC
        clear hC
        by_cases hs : strOfNums (enc4 (cutN N (m - 1))) = strOfNums xs
        · have c3 : ((strOfNums xs).toList == (strOfNums xs).toList) = true := beq_self_eq_true _
          have c4 : ((strOfNums xs).toList != (strOfNums xs).toList) = false := by simp
          rw [hs] at H4
          go_wp2_with (go_at_call 17; refine H4.out.mono ?_; rintro e w1 ⟨rfl, hB⟩; have HB := Aside0.mk hB; clear hB)
          go_ret2
          have hd : dec4 xs = some (cutN N (m - 1)) := by
            unfold dec4
            rw [hf, hm, hN, if_pos]
            exact ⟨hf ▸ hSg, by omega, enc4_of_str hx hcl h2 hcr hs⟩
          exact ⟨.inr ⟨_, some ⟨w.heap.size, 0, none⟩, 3, hd, by rw [hcl]; rfl, by rw [hcl]; exact Kd.C_below HC.out HB.out, by omega⟩, below_trans (below_alloc (Below.refl _ _) _) (by simp [World.alloc]) HB.out⟩
        · have c3 : ((strOfNums (enc4 (cutN N (m - 1)))).toList == (strOfNums xs).toList) = false := toList_ne hs
          have c4 : ((strOfNums (enc4 (cutN N (m - 1)))).toList != (strOfNums xs).toList) = true := by rw [bne, c3]; rfl
          go_wp2_with (go_at_call 17; refine H4.out.mono ?_; rintro e w1 ⟨rfl, hB⟩; have HB := Aside0.mk hB; clear hB)
          go_ret2
          have hd : dec4 xs = none := by
            unfold dec4
            rw [hf, hm, hN, if_neg]
            rintro ⟨_, _, h⟩
            exact hs (by rw [h])
          exact ⟨.inl ⟨hd, rfl⟩, below_trans (below_alloc (Below.refl _ _) _) (by simp [World.alloc]) HB.out⟩
    · have c1 : decide ((i : Int) < 4) = true := decide_eq_true (by omega)
      have c2 : wrap64 (num6 f i * 64) = num6 f i * 64 := (i64_w _).symm.trans (i64_in _ (by omega) (by omega))
      by_cases hl : i < m
      · have c3 : decide (i < m) = true := decide_eq_true hl
        have c4 := eq_true (show (0 : Int) ≤ (i : Int) by omega)
        have c5 := eq_true (show (i : Int) < (m : Int) by omega)
        have hxa := str_at f hfx i
        have hI : ∀ W, Calls Tryd.prog 21 #[.string signsB, .int .u8 (at0 f i)] W fun e w' => e = .returned (.int .i64 (idx (at0 f i))) ∧ w' = W := fun W => sh_IndexByte signsB (at0 f i) W
        have HI := Aside0.mk hI
        clear hI
        have hr := idx_range (at0 f i)
        by_cases h0 : idx (at0 f i) < 0
        · have c7 : decide (idx (at0 f i) < 0) = true := decide_eq_true h0
          have hd : dec4 xs = none := by
            unfold dec4
            rw [if_neg]
            rintro ⟨h1, _⟩
            rw [hf] at h1
            have := h1 i (by omega)
            omega
          go_wp2_with (go_at_call 21; refine (HI.out _).mono ?_; rintro e w1 ⟨rfl, hw1⟩; have hw2 := hw1.symm; subst hw2)
          go_ret2
          exact ⟨.inl ⟨hd, rfl⟩, Below.refl _ _⟩
        · have c7 : decide (idx (at0 f i) < 0) = false := decide_eq_false h0
          have c6 : Go.bits .or .i64 (num6 f i * 64) (idx (at0 f i)) = num6 f (i + 1) := by
            rw [or_join _ _ 6 (by omega) (by omega) (by omega) (by omega) (by omega) (by omega)]
            simp [num6, hm, hl]
          go_wp2_with (go_at_call 21; refine (HI.out _).mono ?_; rintro e w1 ⟨rfl, hw1⟩; have hw2 := hw1.symm; subst hw2)
          go_roundg (gk - 1)
          case measure => omega
          case rel => exact ⟨i + 1, by omega, rfl, rfl, ⟨fun j h1 h2 => by
            obtain rfl | h3 : j = i ∨ j < i := by omega
            · omega
            · exact hS.out j h3 h2⟩, rfl⟩
      · have c3 : decide (i < m) = false := decide_eq_false hl
        have c6 : num6 f i * 64 = num6 f (i + 1) := by simp [num6, hm, hl]
        go_wp2
        go_roundg (gk - 1)
        case measure => omega
        case rel => exact ⟨i + 1, by omega, rfl, rfl, ⟨fun j h1 h2 => hS.out j (by omega) h2⟩, rfl⟩
/-- A text as bytes, four by four; none: it is no bytes' text. -/
def decN : Nat → List Int → Option (List Int)
  | 0, _ => none
  | k + 1, xs => if xs = [] then some [] else if xs.length < 4 then none else match dec4 (xs.take 4) with
    | none => none
    | some l => if l.length < 3 ∧ 4 < xs.length then none else (decN k (xs.drop 4)).map (l ++ ·)
def dec (xs : List Int) : Option (List Int) := decN (xs.length + 1) xs
theorem dec4_len {xs l : List Int} (h : dec4 xs = some l) : l.length ≤ 3 := by
  unfold dec4 at h
  split at h
  · obtain rfl := Option.some.inj h
    unfold cutN
    rw [List.length_take]
    exact Nat.le_trans (Nat.min_le_right _ _) (by simp)
  · cases h
def DecPost (xs : List Int) (w : World) (e : Ending) (w' : World) : Prop :=
  ((dec xs = none ∧ e = .returned (.tuple #[.slice none 0 0, .int .i64 2])) ∨
    ∃ (l : List Int) (v : Value), dec xs = some l ∧ e = .returned (.tuple #[v, .int .i64 0]) ∧ Kd.R (Kd.int .u8) 5 w' w.heap.size (fun _ => True) v l) ∧ Below w.heap.size w w'
set_option maxHeartbeats 4000000 in
set_option maxRecDepth 100000 in
theorem decode_w (xs : List Int) (hx : ∀ x ∈ xs, 0 ≤ x ∧ x < 256) (hl : xs.length ≤ 1000000) (w : World) :
    Calls Tryd.prog 10 #[.string (strOfNums xs)] w fun e w' => DecPost xs w e w' := by
  go_enter Tryd.func10, Tryd.ntmps10
  go_wp2
  go_loopg [0, 4] xs.length (fun kq v0 v4 w' => ∃ (ys done : List Int), v0 = .string (strOfNums ys) ∧ Aside0 (dec xs = (decN (kq + 1) ys).map (done ++ ·) ∧ ys.length ≤ kq ∧ done.length + ys.length ≤ 1000000 ∧ (∀ x ∈ ys, 0 ≤ x ∧ x < 256) ∧ Kd.R (Kd.int .u8) 5 w' w.heap.size (fun _ => True) v4 done ∧ Below w.heap.size w w'))
  case atStart => exact ⟨xs, [], rfl, ⟨by unfold dec; cases decN (xs.length + 1) xs <;> rfl, Nat.le_refl _, by simpa using hl, hx, Kd.R_nil _ _ _ _ _, Below.refl _ _⟩⟩
  case round =>
    obtain ⟨ys, done, rfl, ⟨hd, hk, hm, hy, hR, hB⟩⟩ := hrel
    have hz := strOfNums_size ys
    have H := Aside0.mk (And.intro hR hB)
    clear hR hB
    by_cases h0 : ys = []
    · subst h0
      have c1 : (strOfNums []).toList.isEmpty = true := by rw [ByteArray.toList_eq]; rfl
      go_wp2
      go_ret2
      refine ⟨.inr ⟨done, _, ?_, rfl, H.out.1⟩, H.out.2⟩
      rw [hd, decN, if_pos rfl]
      simp
    · have c1 : (strOfNums ys).toList.isEmpty = false := by
        rw [ByteArray.toList_eq, strOfNums_data]
        simpa using h0
      by_cases h4 : ys.length < 4
      · have c2 : decide (ys.length < 4) = true := decide_eq_true h4
        go_wp2
        go_ret2
        refine ⟨.inl ⟨?_, rfl⟩, H.out.2⟩
        rw [hd, decN, if_neg h0, if_pos h4]
        rfl
      · have c2 : decide (ys.length < 4) = false := decide_eq_false h4
        have e1 : (strOfNums ys).extract 0 4 = strOfNums (ys.take 4) := str_take ys 4
        have HT := Aside0.mk (fun W => three_w (ys.take 4) (fun x h => hy x (List.mem_of_mem_take h)) (by rw [List.length_take]; omega) W)
        have hstep : decN (gk + 1) ys = match dec4 (ys.take 4) with
            | none => none
            | some l => if l.length < 3 ∧ 4 < ys.length then none else (decN gk (ys.drop 4)).map (l ++ ·) := by
          rw [decN, if_neg h0, if_neg h4]
        go_wp2_with fail
        refine (HT.out _).mono ?_
        rintro e w1 ⟨⟨hdn, rfl⟩ | ⟨l, A, c, hds, rfl, hC, hc⟩, hB2⟩
        · have H2 := Aside0.mk hB2
          clear hB2
          go_wp2
          go_ret2
          refine ⟨.inl ⟨?_, rfl⟩, below_trans H.out.2 (Nat.le_refl _) H2.out⟩
          rw [hd, hstep, hdn]
          rfl
        · have H2 := Aside0.mk (And.intro hC hB2)
          clear hC hB2
          have hl3 := dec4_len hds
          by_cases h5 : l.length < 3 ∧ 4 < ys.length
          · have c3 : decide (l.length < 3) = true := decide_eq_true h5.1
            have c4 : decide (4 < ys.length) = true := decide_eq_true h5.2
            go_wp2
            go_ret2
            refine ⟨.inl ⟨?_, rfl⟩, below_trans H.out.2 (Nat.le_refl _) H2.out.2⟩
            rw [hd, hstep, hds]
            simp [h5]
          · have hstep2 : decN (gk + 1) ys = (decN gk (ys.drop 4)).map (l ++ ·) := by
              rw [hstep, hds]
              simp [h5]
            have e2 : (strOfNums ys).extract 4 ys.length = strOfNums (ys.drop 4) := by rw [← hz]; exact str_drop ys 4
            have e3 : (strOfNums ys).extract 4 (strOfNums ys).size = strOfNums (ys.drop 4) := str_drop ys 4
            rcases (by omega : (l.length < 3 ∧ ¬ 4 < ys.length) ∨ ¬ l.length < 3) with ⟨h6, h7⟩ | h6
            · have c3 : decide (l.length < 3) = true := decide_eq_true h6
              have c4 : decide (4 < ys.length) = false := decide_eq_false h7
              go_wp2_with (first | ((with_reducible refine gate_builtin (b := .append) (xs := #[.tmp 30, .tmp 31]) rfl ?_); at_builtin; refine Kd.R_append_rows (Kd.int .u8) (w0 := w) w.heap.size rfl (.tmp 30) (.tmp 31) 22 5 (.int .u8 0) 1 rfl Tryd.underlying22 infoByte rfl (by decide) (by omega) u4 done l _ _ _ (fun _ => True) (fun _ => False) rfl rfl (Kd.R_below H.out.1 H2.out.2) H2.out.1 (fun _ _ h => h) (fun _ h => h.elim) (fun _ _ => trivial) (below_trans H.out.2 (Nat.le_refl _) H2.out.2) (by have := H.out.2.size; have := H2.out.2.size; omega) (by omega) ?_; intro v1 w2 hR2 hB3 _ _; have H3 := Aside0.mk (And.intro hR2 hB3); clear hR2 hB3))
              go_roundg (gk - 1)
              case measure => omega
              case rel =>
                exact ⟨ys.drop 4, done ++ l, rfl, ⟨by rw [hd, hstep2, show gk - 1 + 1 = gk by omega, Option.map_map]; congr 1; funext z; simp, by rw [List.length_drop]; omega, by rw [List.length_append, List.length_drop]; omega, fun x h => hy x (List.mem_of_mem_drop h), H3.out.1, H3.out.2⟩⟩
            · have c3 : decide (l.length < 3) = false := decide_eq_false h6
              go_wp2_with (first | ((with_reducible refine gate_builtin (b := .append) (xs := #[.tmp 30, .tmp 31]) rfl ?_); at_builtin; refine Kd.R_append_rows (Kd.int .u8) (w0 := w) w.heap.size rfl (.tmp 30) (.tmp 31) 22 5 (.int .u8 0) 1 rfl Tryd.underlying22 infoByte rfl (by decide) (by omega) u4 done l _ _ _ (fun _ => True) (fun _ => False) rfl rfl (Kd.R_below H.out.1 H2.out.2) H2.out.1 (fun _ _ h => h) (fun _ h => h.elim) (fun _ _ => trivial) (below_trans H.out.2 (Nat.le_refl _) H2.out.2) (by have := H.out.2.size; have := H2.out.2.size; omega) (by omega) ?_; intro v1 w2 hR2 hB3 _ _; have H3 := Aside0.mk (And.intro hR2 hB3); clear hR2 hB3))
              go_roundg (gk - 1)
              case measure => omega
              case rel =>
                exact ⟨ys.drop 4, done ++ l, rfl, ⟨by rw [hd, hstep2, show gk - 1 + 1 = gk by omega, Option.map_map]; congr 1; funext z; simp, by rw [List.length_drop]; omega, by rw [List.length_append, List.length_drop]; omega, fun x h => hy x (List.mem_of_mem_drop h), H3.out.1, H3.out.2⟩⟩
def bytesL (s : ByteArray) : List Int := s.data.toList.map fun b => (b.toNat : Int)
theorem bytesL_range (s : ByteArray) : ∀ x ∈ bytesL s, 0 ≤ x ∧ x < 256 := fun x hx => by
  obtain ⟨b, _, rfl⟩ := List.mem_map.1 hx
  have := b.toNat_lt
  omega
theorem u8_back (b : UInt8) : UInt8.ofNat ((b.toNat : Int)).toNat = b := by simp
theorem bytesL_str (s : ByteArray) : strOfNums (bytesL s) = s := by
  obtain ⟨⟨l⟩⟩ := s
  simp only [strOfNums, bytesL, List.map_map]
  congr 2
  exact ((List.map_id l).symm.trans (List.map_congr_left fun b _ => (u8_back b).symm)).symm
theorem bytesL_nums (xs : List Int) (hx : ∀ x ∈ xs, 0 ≤ x ∧ x < 256) : bytesL (strOfNums xs) = xs :=
  str_inj _ _ (bytesL_range _) hx (bytesL_str _)
theorem bytesL_len (s : ByteArray) : (bytesL s).length = s.size := by
  unfold bytesL
  rw [List.length_map]
  rfl
end
def Byts (l : List Int) : Prop := ∀ x ∈ l, 0 ≤ x ∧ x < 256
instance (l : List Int) : Decidable (Byts l) := inferInstanceAs (Decidable (∀ x ∈ l, 0 ≤ x ∧ x < 256))
def base_Encode.f (l0 : List Int) : Option (ByteArray) := if Byts l0 ∧ l0.length ≤ 1000000 then some (strOfNums (enc l0)) else none
theorem base_Encode.calls (A0 : Option Addr) (c0 : Nat) (l0 : List Int) (r : ByteArray) (w : World) (hr0 : Kd.C (Kd.int .u8) w A0 l0.length l0) (hc0 : l0.length ≤ c0) (h : base_Encode.f l0 = some r) :
    Calls Tryd.prog 12 #[.slice A0 l0.length c0] w fun e w' => e = .returned (.string r) ∧ Below w.heap.size w w' := by
  unfold base_Encode.f at h
  by_cases hb : Byts l0 ∧ l0.length ≤ 1000000
  · rw [if_pos hb] at h
    obtain rfl := Option.some.inj h
    exact encode_w A0 c0 l0 w hr0 hc0 hb.1 hb.2
  · rw [if_neg hb] at h
    cases h

end Go.Proofs.YtldcahhhibgofaaDoor.Hb
