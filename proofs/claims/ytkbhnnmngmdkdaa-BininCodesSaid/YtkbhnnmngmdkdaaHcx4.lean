-- Written by this session's own program (wip/hprint.py) out of the translation, over hand-proved contracts. Lean checks it.
import Derived.Test.YtkbhnnmngmdkdaaHcx0
import Derived.Test.YtkbhnnmngmdkdaaHcx1
import Derived.Test.YtkbhnnmngmdkdaaHcx3
namespace Go.Proofs.Ytkbhnnmngmdkdaa.Hc
open Go.RowKit Go.Proofs.YtkbhnnmngmdkdaaW.PrintWords Go.Proofs.YtkbhnnmngmdkdaaW.PrintLast Go.Proofs.YtkbhnnmngmdkdaaW.PrintMore
attribute [local go_sem] max2_int min2_int max_two min_two max_three min_three max_four min_four   -- for this text's walks alone
set_option linter.unusedVariables false
set_option linter.unusedSimpArgs false

/-! ### binin_cmd: function 34 -/
def cmdV (op : Int) (key : ByteArray) (val : Value) (flags exp cas delta init : Int) (makes : Bool) : Value :=
  .agg #[.int .i64 op, .string key, val, .int .u32 flags, .int .i64 exp, .int .u64 cas, .int .u64 delta, .int .u64 init, .bool makes, .bool false]
/-- The numbers of a command's extras: flags, time, delta, initial, whether it makes. -/
structure Ex where
  flags : Int
  exp : Int
  delta : Int
  init : Int
  makes : Bool
def exOf (x : List Int) : Ex :=
  if x.length = 4 then ⟨0, be x, 0, 0, false⟩
  else if x.length = 8 then ⟨be (cut x 0 4), be (cut x 4 8), 0, 0, false⟩
  else if x.length = 20 then ⟨0, if be (cut x 16 20) = 4294967295 then 0 else be (cut x 16 20), be (cut x 0 8), be (cut x 8 16), be (cut x 16 20) != 4294967295⟩
  else ⟨0, 0, 0, 0, false⟩
def CmdPost (op : Int) (x : List Int) (w : World) (e : Ending) (w' : World) : Prop :=
  e = .returned (cmdV op ⟨#[]⟩ (.slice none 0 0) (exOf x).flags (exOf x).exp 0 (exOf x).delta (exOf x).init (exOf x).makes) ∧ Below w.heap.size w w'
set_option maxHeartbeats 4000000 in
set_option maxRecDepth 100000 in
theorem cmd_none (op : Int) (A : Option Addr) (c : Nat) (w : World) : Calls Try.prog 34 #[.int .i64 op, .slice A 0 c] w (CmdPost op [] w) := by
  have hu39 := Try.underlying39
  go_enter Try.func34, Try.ntmps34
  go_wp2
  refine bodyPost_ret (v := cmdV op ⟨#[]⟩ (.slice none 0 0) 0 0 0 0 0 false) (by simp [results, Try.results34, go_sem, cmdV]) rfl ?_
  exact ⟨rfl, by repeat (with_reducible first | exact Below.refl _ _ | apply below_alloc | apply below_drew | apply pw_below_drewN | refine below_set ?_ (by omega))⟩
set_option maxHeartbeats 4000000 in
set_option maxRecDepth 100000 in
theorem cmd_four (op : Int) (A : Option Addr) (c : Nat) (x : List Int) (w : World) (hl : x.length = 4) (hb : ∀ y ∈ x, 0 ≤ y ∧ y ≤ 255) (hC : Kd.C (Kd.int .u8) w A 4 x) (hc : 4 ≤ c) : Calls Try.prog 34 #[.int .i64 op, .slice A 4 c] w (CmdPost op x w) := by
  have hu39 := Try.underlying39
  have hr := be_range x hb
  rw [hl] at hr
  have hr0 := hr.1
  have hr1 : be x < 4294967296 := hr.2
  have HG := Aside0.mk (fun W hB => getC A 4 c x hb hl (by omega) hc w W hB hC)
  have hx : exOf x = ⟨0, be x, 0, 0, false⟩ := by unfold exOf; rw [if_pos hl]
  have HX := Aside0.mk hx
  clear hC hx hb hr
  generalize be x = z at *
  go_enter Try.func34, Try.ntmps34
  go_wp2_with (go_at_call 18; (with_reducible refine (HG.out _ ?_).mono ?_); (repeat (with_reducible first | exact Below.refl _ _ | apply below_alloc | apply below_drew | apply pw_below_drewN | refine below_set ?_ (by omega))); rintro e w' ⟨rfl, ⟨m, rfl⟩⟩)
  refine bodyPost_ret (v := cmdV op ⟨#[]⟩ (.slice none 0 0) 0 z 0 0 0 false) (by simp [results, Try.results34, go_sem, cmdV]) rfl ?_
  refine ⟨by rw [HX.out], by repeat (with_reducible first | exact Below.refl _ _ | apply below_alloc | apply below_drew | apply pw_below_drewN | refine below_set ?_ (by omega))⟩
theorem takeC (A : Option Addr) (c : Nat) (l : List Int) (b : Nat) (hb : b ≤ l.length) (hc : l.length ≤ c) :
    (∀ W : World, (Instr.slice 22 (.slice A l.length c) none (some (.int .i64 (b : Int))) none).run Try.prog W = .ok (.slice A b c) W) ∧ (∀ w, Kd.C (Kd.int .u8) w A l.length l → Kd.C (Kd.int .u8) w A b (cut l 0 b)) := by
  obtain ⟨i0, hi0, _, hsz, _⟩ := info_parts (show ((Try.prog).info? 5).map (fun i => (i.zero, i.size, i.bytes)) = some (some (.int .u8 0), 1, 1) by kernel_rfl)
  obtain ⟨h1, h2, _⟩ := print_take_of (P := Try.prog) (Value.int .u8) 0 22 5 .i64 Try.underlying22 hi0 hsz A c l (b : Int) (by omega) (by omega) hc
  have e : l.take (b : Int).toNat = cut l 0 b := by simp [cut]
  have el : (cut l 0 b).length = b := by rw [cut_len l 0 b hb]; omega
  rw [e, el] at h1 h2
  exact ⟨h1, fun w h => Kd.C_of_reads (h2 w (Kd.reads_of_C (enc := Value.int .u8) (d := (0 : Int)) (h1 := fun _ => rfl) h))⟩
theorem dropC (A : Option Addr) (c : Nat) (l : List Int) (a : Nat) (ha : a ≤ l.length) (hc : l.length ≤ c) :
    ∃ A' : Option Addr, (∀ W : World, (Instr.slice 22 (.slice A l.length c) (some (.int .i64 (a : Int))) none none).run Try.prog W = .ok (.slice A' (l.length - a) (c - a)) W) ∧ (∀ w, Kd.C (Kd.int .u8) w A l.length l → Kd.C (Kd.int .u8) w A' (l.length - a) (cut l a l.length)) := by
  obtain ⟨i0, hi0, _, hsz, _⟩ := info_parts (show ((Try.prog).info? 5).map (fun i => (i.zero, i.size, i.bytes)) = some (some (.int .u8 0), 1, 1) by kernel_rfl)
  obtain ⟨A', h1, h2, _⟩ := print_drop_of (P := Try.prog) (Value.int .u8) 0 22 5 .i64 Try.underlying22 hi0 hsz A c l (a : Int) (by omega) (by omega) hc
  have e : l.drop (a : Int).toNat = cut l a l.length := by simp [cut]
  have el : (cut l a l.length).length = l.length - a := cut_len l a _ (Nat.le_refl _)
  rw [e, el] at h1 h2
  exact ⟨A', h1, fun w h => Kd.C_of_reads (h2 w (Kd.reads_of_C (enc := Value.int .u8) (d := (0 : Int)) (h1 := fun _ => rfl) h))⟩
set_option maxHeartbeats 4000000 in
set_option maxRecDepth 100000 in
theorem cmd_eight (op : Int) (A : Option Addr) (c : Nat) (x : List Int) (w : World) (hl : x.length = 8) (hb : ∀ y ∈ x, 0 ≤ y ∧ y ≤ 255) (hC : Kd.C (Kd.int .u8) w A x.length x) (hc : x.length ≤ c) : Calls Try.prog 34 #[.int .i64 op, .slice A x.length c] w (CmdPost op x w) := by
  have hu39 := Try.underlying39
  obtain ⟨hs0, hC0⟩ := takeC A c x 4 (by omega) hc
  have hr0 := be_range (cut x 0 4) (cut_bytes 0 4 hb)
  rw [cut_len x 0 4 (by omega)] at hr0
  obtain ⟨hp0, hq0⟩ := hr0
  have hQ0 : be (cut x 0 4) < 4294967296 := hq0
  clear hq0
  have HG0 := Aside0.mk (fun W hB => getC A 4 c (cut x 0 4) (cut_bytes 0 4 hb) (by rw [cut_len x 0 4 (by omega)]) (by omega) (by omega) w W hB (hC0 w (by first | exact hC | (rw [hl] at hC; exact hC))))
  obtain ⟨A1, hs1, hC1⟩ := dropC A c x 4 (by omega) hc
  rw [hl] at hC1
  have hr1 := be_range (cut x 4 8) (cut_bytes 4 8 hb)
  rw [cut_len x 4 8 (by omega)] at hr1
  obtain ⟨hp1, hq1⟩ := hr1
  have hQ1 : be (cut x 4 8) < 4294967296 := hq1
  clear hq1
  have HG1 := Aside0.mk (fun W hB => getC A1 4 (c - 4) (cut x 4 8) (cut_bytes 4 8 hb) (by rw [cut_len x 4 8 (by omega)]) (by omega) (by omega) w W hB (hC1 w (by first | exact hC | (rw [hl] at hC; exact hC))))
  have hx : exOf x = ⟨be (cut x 0 4), be (cut x 4 8), 0, 0, false⟩ := by
    unfold exOf
    rw [if_neg (by omega), if_pos hl]
  have HX := Aside0.mk hx
  rw [hl] at hs0 hs1 ⊢
  clear hx hb hC hc hC0 hC1
  replace hs0 : ∀ W : World, (Instr.slice 22 (.slice A 8 c) none (some (.int .i64 4)) none).run Try.prog W = .ok (.slice A 4 c) W := hs0
  replace hs1 : ∀ W : World, (Instr.slice 22 (.slice A 8 c) (some (.int .i64 4)) none none).run Try.prog W = .ok (.slice A1 4 (c - 4)) W := hs1
  generalize be (cut x 0 4) = fl at *
  generalize be (cut x 4 8) = ex at *
  have w0 : IntKind.u32.wrap fl = fl := u32_in _ hp0 hQ0
  have w1 : IntKind.i64.wrap ex = ex := (i64_w _).trans (by clear w0; unfold wrap64; omega)
  go_enter Try.func34, Try.ntmps34
  go_wp2
  go_region_held3 (fun w' => True) (trivial) ((first | (go_at_call 18; (with_reducible refine (HG0.out _ ?_).mono ?_); (repeat (with_reducible first | exact Below.refl _ _ | apply below_alloc | apply below_drew | apply pw_below_drewN | refine below_set ?_ (by omega))); rintro e w' ⟨rfl, ⟨m, rfl⟩⟩) | (go_at_call 18; (with_reducible refine (HG1.out _ ?_).mono ?_); (repeat (with_reducible first | exact Below.refl _ _ | apply below_alloc | apply below_drew | apply pw_below_drewN | refine below_set ?_ (by omega))); rintro e w' ⟨rfl, ⟨m, rfl⟩⟩)))
  go_wp2
  clear w0 w1
  refine bodyPost_ret (v := cmdV op ⟨#[]⟩ (.slice none 0 0) fl ex 0 0 0 false) (by simp [results, Try.results34, go_sem, cmdV]) rfl ?_
  exact ⟨by rw [HX.out], by repeat (with_reducible first | exact Below.refl _ _ | apply below_alloc | apply below_drew | apply pw_below_drewN | refine below_set ?_ (by omega))⟩
set_option maxHeartbeats 4000000 in
set_option maxRecDepth 100000 in
theorem cmd_twenty (op : Int) (A : Option Addr) (c : Nat) (x : List Int) (w : World) (hl : x.length = 20) (hb : ∀ y ∈ x, 0 ≤ y ∧ y ≤ 255) (hC : Kd.C (Kd.int .u8) w A x.length x) (hc : x.length ≤ c) : Calls Try.prog 34 #[.int .i64 op, .slice A x.length c] w (CmdPost op x w) := by
  have hu39 := Try.underlying39
  obtain ⟨hs0, hC0⟩ := takeC A c x 8 (by omega) hc
  have hr0 := be_range (cut x 0 8) (cut_bytes 0 8 hb)
  rw [cut_len x 0 8 (by omega)] at hr0
  obtain ⟨hp0, hq0⟩ := hr0
  have hQ0 : be (cut x 0 8) < 18446744073709551616 := hq0
  clear hq0
  have HG0 := Aside0.mk (fun W hB => getC A 8 c (cut x 0 8) (cut_bytes 0 8 hb) (by rw [cut_len x 0 8 (by omega)]) (by omega) (by omega) w W hB (hC0 w (by first | exact hC | (rw [hl] at hC; exact hC))))
  obtain ⟨A1, hs1, hC1⟩ := cutC A c x 8 16 (by omega) (by omega) hc
  have hr1 := be_range (cut x 8 16) (cut_bytes 8 16 hb)
  rw [cut_len x 8 16 (by omega)] at hr1
  obtain ⟨hp1, hq1⟩ := hr1
  have hQ1 : be (cut x 8 16) < 18446744073709551616 := hq1
  clear hq1
  have HG1 := Aside0.mk (fun W hB => getC A1 8 (c - 8) (cut x 8 16) (cut_bytes 8 16 hb) (by rw [cut_len x 8 16 (by omega)]) (by omega) (by omega) w W hB (hC1 w (by first | exact hC | (rw [hl] at hC; exact hC))))
  obtain ⟨A2, hs2, hC2⟩ := dropC A c x 16 (by omega) hc
  rw [hl] at hC2
  have hr2 := be_range (cut x 16 20) (cut_bytes 16 20 hb)
  rw [cut_len x 16 20 (by omega)] at hr2
  obtain ⟨hp2, hq2⟩ := hr2
  have hQ2 : be (cut x 16 20) < 4294967296 := hq2
  clear hq2
  have HG2 := Aside0.mk (fun W hB => getC A2 4 (c - 16) (cut x 16 20) (cut_bytes 16 20 hb) (by rw [cut_len x 16 20 (by omega)]) (by omega) (by omega) w W hB (hC2 w (by first | exact hC | (rw [hl] at hC; exact hC))))
  have hx : exOf x = ⟨0, if be (cut x 16 20) = 4294967295 then 0 else be (cut x 16 20), be (cut x 0 8), be (cut x 8 16), be (cut x 16 20) != 4294967295⟩ := by
    unfold exOf
    rw [if_neg (by omega), if_neg (by omega), if_pos hl]
  have HX := Aside0.mk hx
  rw [hl] at hs0 hs1 hs2 ⊢
  clear hx hb hC hc hC0 hC1 hC2
  replace hs0 : ∀ W : World, (Instr.slice 22 (.slice A 20 c) none (some (.int .i64 8)) none).run Try.prog W = .ok (.slice A 8 c) W := hs0
  replace hs1 : ∀ W : World, (Instr.slice 22 (.slice A 20 c) (some (.int .i64 8)) (some (.int .i64 16)) none).run Try.prog W = .ok (.slice A1 8 (c - 8)) W := hs1
  replace hs2 : ∀ W : World, (Instr.slice 22 (.slice A 20 c) (some (.int .i64 16)) none none).run Try.prog W = .ok (.slice A2 4 (c - 16)) W := hs2
  generalize be (cut x 0 8) = de at *
  generalize be (cut x 8 16) = ini at *
  generalize be (cut x 16 20) = ex at *
  have w1 : IntKind.i64.wrap ex = ex := (i64_w _).trans (by unfold wrap64; omega)
  clear hp0 hQ0 hp1 hQ1 hp2 hQ2
  by_cases h5 : ex = 4294967295
  · have w5 : (ex != 4294967295) = false := bne_eq_false_iff_eq.mpr h5
    rw [if_pos h5, w5] at HX
    clear h5
    go_enter Try.func34, Try.ntmps34
    go_wp2
    go_region_held3 (fun w' => True) (trivial) ((first | (go_at_call 18; (with_reducible refine (HG0.out _ ?_).mono ?_); (repeat (with_reducible first | exact Below.refl _ _ | apply below_alloc | apply below_drew | apply pw_below_drewN | refine below_set ?_ (by omega))); rintro e w' ⟨rfl, ⟨m, rfl⟩⟩) | (go_at_call 18; (with_reducible refine (HG1.out _ ?_).mono ?_); (repeat (with_reducible first | exact Below.refl _ _ | apply below_alloc | apply below_drew | apply pw_below_drewN | refine below_set ?_ (by omega))); rintro e w' ⟨rfl, ⟨m, rfl⟩⟩) | (go_at_call 18; (with_reducible refine (HG2.out _ ?_).mono ?_); (repeat (with_reducible first | exact Below.refl _ _ | apply below_alloc | apply below_drew | apply pw_below_drewN | refine below_set ?_ (by omega))); rintro e w' ⟨rfl, ⟨m, rfl⟩⟩)))
    refine gen_world (fun W' => W'.heap[w.heap.size + 1]? = some (.cells #[.int .i64 op, .string ⟨#[]⟩, .slice none 0 0, .int .u32 0, .int .i64 ex, .int .u64 0, .int .u64 de, .int .u64 ini, .bool false, .bool false] 39 (0, 0)) ∧ W'.heap[w.heap.size]? = some (.cells #[.int .i64 0, .string ⟨#[]⟩, .slice none 0 0, .int .u32 0, .int .i64 0, .int .u64 0, .int .u64 0, .int .u64 0, .bool false, .bool false] 39 (0, 0)) ∧ Below w.heap.size w W') ?_ ?_
    · refine ⟨?_, ?_, ?_⟩
      · refine blk_put (cs' := #[.int .i64 op, .string ⟨#[]⟩, .slice none 0 0, .int .u32 0, .int .i64 ex, .int .u64 0, .int .u64 de, .int .u64 ini, .bool false, .bool false]) (blk_put (cs' := #[.int .i64 op, .string ⟨#[]⟩, .slice none 0 0, .int .u32 0, .int .i64 0, .int .u64 0, .int .u64 de, .int .u64 ini, .bool false, .bool false]) (blk_put (cs' := #[.int .i64 op, .string ⟨#[]⟩, .slice none 0 0, .int .u32 0, .int .i64 0, .int .u64 0, .int .u64 de, .int .u64 0, .bool false, .bool false]) (t := 39) (cs := #[.int .i64 op, .string ⟨#[]⟩, .slice none 0 0, .int .u32 0, .int .i64 0, .int .u64 0, .int .u64 0, .int .u64 0, .bool false, .bool false]) ?_ 6 _ rfl) 7 _ rfl) 4 _ rfl
        have h := blk_new (w.alloc (.cells #[.int .i64 0, .string ⟨#[]⟩, .slice none 0 0, .int .u32 0, .int .i64 0, .int .u64 0, .int .u64 0, .int .u64 0, .bool false, .bool false] 39)) (.cells #[.int .i64 op, .string ⟨#[]⟩, .slice none 0 0, .int .u32 0, .int .i64 0, .int .u64 0, .int .u64 0, .int .u64 0, .bool false, .bool false] 39)
        rw [World.size_alloc] at h
        exact h
      · refine blk_far (blk_far (blk_far ?_ (p := ⟨w.heap.size + 1, 6, none⟩) (by show w.heap.size ≠ w.heap.size + 1; omega) _) (p := ⟨w.heap.size + 1, 7, none⟩) (by show w.heap.size ≠ w.heap.size + 1; omega) _) (p := ⟨w.heap.size + 1, 4, none⟩) (by show w.heap.size ≠ w.heap.size + 1; omega) _
        exact blk_alloc (blk_new w _) _
      · repeat (with_reducible first | exact Below.refl _ _ | apply below_alloc | apply below_drew | apply pw_below_drewN | refine below_set ?_ (by omega))
    rintro W3 ⟨hk1, hk0, hB3⟩
    have HB3 := Aside0.mk hB3
    have HK0 := Aside0.mk hk0
    have HK1 := Aside0.mk hk1
    obtain ⟨c0, c1, c2, c3, c4, c5, c6, c7, c8, c9⟩ := cells10 hk1
    obtain ⟨f0, f1, f2, f3, f4, f5, f6, f7, f8, f9⟩ := froz10 hk1
    obtain ⟨d0, d1, d2, d3, d4, d5, d6, d7, d8, d9⟩ := cells10 hk0
    obtain ⟨g0, g1, g2, g3, g4, g5, g6, g7, g8, g9⟩ := froz10 hk0
    clear hk1 hk0 hB3 w1
    go_wp2
    clear c0 c1 c2 c3 c4 c5 c6 c7 c8 c9 f0 f1 f2 f3 f4 f5 f6 f7 f8 f9 d0 d1 d2 d3 d4 d5 d6 d7 d8 d9 g0 g1 g2 g3 g4 g5 g6 g7 g8 g9
    refine gen_world (fun W' => W'.heap[w.heap.size]? = some (.cells #[.int .i64 op, .string ⟨#[]⟩, .slice none 0 0, .int .u32 0, .int .i64 0, .int .u64 0, .int .u64 de, .int .u64 ini, .bool false, .bool false] 39 (0, 0)) ∧ Below w.heap.size w W') ⟨set10_blk (blk_far (blk_far HK0.out (p := ⟨w.heap.size + 1, 8, none⟩) (by show w.heap.size ≠ w.heap.size + 1; omega) _) (p := ⟨w.heap.size + 1, 4, none⟩) (by show w.heap.size ≠ w.heap.size + 1; omega) _) (.int .i64 op) (.string ⟨#[]⟩) (.slice none 0 0) (.int .u32 0) (.int .i64 0) (.int .u64 0) (.int .u64 de) (.int .u64 ini) (.bool false) (.bool false), set10_below (below_set (below_set HB3.out (by omega)) (by omega)) (Nat.le_refl _) (.int .i64 op) (.string ⟨#[]⟩) (.slice none 0 0) (.int .u32 0) (.int .i64 0) (.int .u64 0) (.int .u64 de) (.int .u64 ini) (.bool false) (.bool false)⟩ ?_
    rintro W4 ⟨hk4, hB4⟩
    refine bodyPost_ret (v := cmdV op ⟨#[]⟩ (.slice none 0 0) 0 0 0 de ini false) (results_cell_row rfl _ _ w.heap.size 39 _ (0, 0) _ rfl hk4 Try.underlying39 rfl (by kernel_rfl)) rfl ?_
    exact ⟨by rw [HX.out], hB4⟩
  · have w5 : (ex != 4294967295) = true := bne_iff_ne.mpr h5
    rw [if_neg h5, w5] at HX
    clear h5
    go_enter Try.func34, Try.ntmps34
    go_wp2
    go_region_held3 (fun w' => True) (trivial) ((first | (go_at_call 18; (with_reducible refine (HG0.out _ ?_).mono ?_); (repeat (with_reducible first | exact Below.refl _ _ | apply below_alloc | apply below_drew | apply pw_below_drewN | refine below_set ?_ (by omega))); rintro e w' ⟨rfl, ⟨m, rfl⟩⟩) | (go_at_call 18; (with_reducible refine (HG1.out _ ?_).mono ?_); (repeat (with_reducible first | exact Below.refl _ _ | apply below_alloc | apply below_drew | apply pw_below_drewN | refine below_set ?_ (by omega))); rintro e w' ⟨rfl, ⟨m, rfl⟩⟩) | (go_at_call 18; (with_reducible refine (HG2.out _ ?_).mono ?_); (repeat (with_reducible first | exact Below.refl _ _ | apply below_alloc | apply below_drew | apply pw_below_drewN | refine below_set ?_ (by omega))); rintro e w' ⟨rfl, ⟨m, rfl⟩⟩)))
    refine gen_world (fun W' => W'.heap[w.heap.size + 1]? = some (.cells #[.int .i64 op, .string ⟨#[]⟩, .slice none 0 0, .int .u32 0, .int .i64 ex, .int .u64 0, .int .u64 de, .int .u64 ini, .bool false, .bool false] 39 (0, 0)) ∧ W'.heap[w.heap.size]? = some (.cells #[.int .i64 0, .string ⟨#[]⟩, .slice none 0 0, .int .u32 0, .int .i64 0, .int .u64 0, .int .u64 0, .int .u64 0, .bool false, .bool false] 39 (0, 0)) ∧ Below w.heap.size w W') ?_ ?_
    · refine ⟨?_, ?_, ?_⟩
      · refine blk_put (cs' := #[.int .i64 op, .string ⟨#[]⟩, .slice none 0 0, .int .u32 0, .int .i64 ex, .int .u64 0, .int .u64 de, .int .u64 ini, .bool false, .bool false]) (blk_put (cs' := #[.int .i64 op, .string ⟨#[]⟩, .slice none 0 0, .int .u32 0, .int .i64 0, .int .u64 0, .int .u64 de, .int .u64 ini, .bool false, .bool false]) (blk_put (cs' := #[.int .i64 op, .string ⟨#[]⟩, .slice none 0 0, .int .u32 0, .int .i64 0, .int .u64 0, .int .u64 de, .int .u64 0, .bool false, .bool false]) (t := 39) (cs := #[.int .i64 op, .string ⟨#[]⟩, .slice none 0 0, .int .u32 0, .int .i64 0, .int .u64 0, .int .u64 0, .int .u64 0, .bool false, .bool false]) ?_ 6 _ rfl) 7 _ rfl) 4 _ rfl
        have h := blk_new (w.alloc (.cells #[.int .i64 0, .string ⟨#[]⟩, .slice none 0 0, .int .u32 0, .int .i64 0, .int .u64 0, .int .u64 0, .int .u64 0, .bool false, .bool false] 39)) (.cells #[.int .i64 op, .string ⟨#[]⟩, .slice none 0 0, .int .u32 0, .int .i64 0, .int .u64 0, .int .u64 0, .int .u64 0, .bool false, .bool false] 39)
        rw [World.size_alloc] at h
        exact h
      · refine blk_far (blk_far (blk_far ?_ (p := ⟨w.heap.size + 1, 6, none⟩) (by show w.heap.size ≠ w.heap.size + 1; omega) _) (p := ⟨w.heap.size + 1, 7, none⟩) (by show w.heap.size ≠ w.heap.size + 1; omega) _) (p := ⟨w.heap.size + 1, 4, none⟩) (by show w.heap.size ≠ w.heap.size + 1; omega) _
        exact blk_alloc (blk_new w _) _
      · repeat (with_reducible first | exact Below.refl _ _ | apply below_alloc | apply below_drew | apply pw_below_drewN | refine below_set ?_ (by omega))
    rintro W3 ⟨hk1, hk0, hB3⟩
    have HB3 := Aside0.mk hB3
    have HK0 := Aside0.mk hk0
    have HK1 := Aside0.mk hk1
    obtain ⟨c0, c1, c2, c3, c4, c5, c6, c7, c8, c9⟩ := cells10 hk1
    obtain ⟨f0, f1, f2, f3, f4, f5, f6, f7, f8, f9⟩ := froz10 hk1
    obtain ⟨d0, d1, d2, d3, d4, d5, d6, d7, d8, d9⟩ := cells10 hk0
    obtain ⟨g0, g1, g2, g3, g4, g5, g6, g7, g8, g9⟩ := froz10 hk0
    clear hk1 hk0 hB3 w1
    go_wp2
    clear c0 c1 c2 c3 c4 c5 c6 c7 c8 c9 f0 f1 f2 f3 f4 f5 f6 f7 f8 f9 d0 d1 d2 d3 d4 d5 d6 d7 d8 d9 g0 g1 g2 g3 g4 g5 g6 g7 g8 g9
    refine gen_world (fun W' => W'.heap[w.heap.size]? = some (.cells #[.int .i64 op, .string ⟨#[]⟩, .slice none 0 0, .int .u32 0, .int .i64 ex, .int .u64 0, .int .u64 de, .int .u64 ini, .bool true, .bool false] 39 (0, 0)) ∧ Below w.heap.size w W') ⟨set10_blk (blk_far HK0.out (p := ⟨w.heap.size + 1, 8, none⟩) (by show w.heap.size ≠ w.heap.size + 1; omega) _) (.int .i64 op) (.string ⟨#[]⟩) (.slice none 0 0) (.int .u32 0) (.int .i64 ex) (.int .u64 0) (.int .u64 de) (.int .u64 ini) (.bool true) (.bool false), set10_below (below_set HB3.out (by omega)) (Nat.le_refl _) (.int .i64 op) (.string ⟨#[]⟩) (.slice none 0 0) (.int .u32 0) (.int .i64 ex) (.int .u64 0) (.int .u64 de) (.int .u64 ini) (.bool true) (.bool false)⟩ ?_
    rintro W4 ⟨hk4, hB4⟩
    refine bodyPost_ret (v := cmdV op ⟨#[]⟩ (.slice none 0 0) 0 ex 0 de ini true) (results_cell_row rfl _ _ w.heap.size 39 _ (0, 0) _ rfl hk4 Try.underlying39 rfl (by kernel_rfl)) rfl ?_
    exact ⟨by rw [HX.out], hB4⟩
theorem cmd_w (op : Int) (A : Option Addr) (c : Nat) (x : List Int) (w : World) (hl : x.length = 0 ∨ x.length = 4 ∨ x.length = 8 ∨ x.length = 20) (hb : ∀ y ∈ x, 0 ≤ y ∧ y ≤ 255) (hC : Kd.C (Kd.int .u8) w A x.length x) (hc : x.length ≤ c) : Calls Try.prog 34 #[.int .i64 op, .slice A x.length c] w (CmdPost op x w) := by
  rcases hl with hl | hl | hl | hl
  · obtain rfl := List.eq_nil_of_length_eq_zero hl
    exact cmd_none op A c w
  · rw [hl] at hC hc ⊢
    exact cmd_four op A c x w hl hb hC hc
  · exact cmd_eight op A c x w hl hb hC hc
  · exact cmd_twenty op A c x w hl hb hC hc

/-! ### slices_Clone_byte_byte: function 35 -/
def slices_Clone_byte_byte.f (l0 : List Int) : Option (List Int) := if l0.length ≤ 1000000 then some l0 else none
theorem slices_Clone_byte_byte.empty (w : World) : Kd.R (Kd.int .u8) 5 (w.alloc (.cells #[] 5)) w.heap.size (fun _ => True) (.slice (some ⟨w.heap.size, 0, none⟩) 0 0) ([] : List Int) :=
  ⟨fun _ _ => trivial, [], World.ownsRow_lit (base := w.heap.size) (e := 5) (size := 1) w #[] 0 (Nat.le_refl _) (by simp) (by simp), Reps.none _ _⟩
set_option maxHeartbeats 2000000 in
set_option maxRecDepth 100000 in
theorem slices_Clone_byte_byte.calls (A0 : Option Addr) (c0 : Nat) (l0 : List Int) (r : List Int) (w : World) (hr0 : Kd.C (Kd.int .u8) w A0 l0.length l0) (hc0 : l0.length ≤ c0) (h : slices_Clone_byte_byte.f l0 = some r) :
    Calls Try.prog 35 #[.slice A0 l0.length c0] w fun e w' => ∃ v0_ : Value, e = .returned (v0_) ∧ Kd.R (Kd.int .u8) 5 w' w.heap.size (fun k_ => True) v0_ r ∧ Below w.heap.size w w' := by
  unfold slices_Clone_byte_byte.f at h
  by_cases hlen : l0.length ≤ 1000000
  · rw [if_pos hlen] at h
    obtain rfl := Option.some.inj h
    clear h
    have hu := Try.underlying22
    have q22 : ∀ (w : World) (a : Option Addr) (n c n' c' : Nat), (binOp .eql 22 (.slice a n c) (.slice none n' c')).run Try.prog w = .ok (.bool a.isNone) w := fun w a n c n' c' => Lib.run_eql_slice_nil w _ _ a n c n' c' Try.underlying22
    cases A0 with
    | none =>
      have h0 : l0 = [] := by
        cases l0 with
        | nil => rfl
        | cons x t =>
          obtain ⟨ad, e, _⟩ := hr0.2.2 (by simp)
          cases e
      subst h0
      clear hr0 hc0
      go_enter Try.func35, Try.ntmps35
      go_wp2
      go_ret
      exact ⟨_, rfl, Kd.R_nil _ _ _ _ _, Below.refl _ _⟩
    | some ad =>
      have HR0 := Aside0.mk hr0
      clear hr0 hc0
      go_enter Try.func35, Try.ntmps35
      go_wp2_with ((with_reducible refine gate_builtin (b := .append) (xs := #[.tmp 5, .tmp 6]) rfl ?_); at_builtin; refine Kd.R_append_rows (Kd.int .u8) (w0 := w) w.heap.size rfl (.tmp 5) (.tmp 6) 22 5 (.int .u8 0) 1 rfl Try.underlying22 (by kernel_rfl) rfl (by decide) (by omega) (.slice (some ⟨w.heap.size, 0, none⟩) 0 0) ([] : List Int) l0 _ _ _ (fun _ => True) (fun _ => False) rfl rfl ?aO ?aR (fun _ _ h => h) (fun _ h => h.elim) ?aF ?aB ?aS ?aL ?_; (case aR => exact Kd.C_alloc HR0.out _); (case aB => exact below_alloc (Below.refl _ _) _); (case aF => exact (fun _ _ => trivial)); (case aO => exact slices_Clone_byte_byte.empty w); (case aS => exact Nat.le_trans (Nat.le_refl _) (by simp)); (case aL => simp; omega); intro v1 w1 ho hb hg hat; have HO := Aside0.mk ho; have HB := Aside0.mk hb; clear ho hb hg hat)
      go_ret
      exact ⟨v1, rfl, HO.out, HB.out⟩
  · rw [if_neg hlen] at h
    cases h

/-! ### binin_packet_request: function 19 -/
theorem parts3 (B : Option Addr) (cB : Nat) (l : List Int) (x k : Nat) (h : x + k ≤ l.length) (hc : l.length ≤ cB) :
    ∃ (B2 B3 : Option Addr) (n3 c3 : Nat), n3 = l.length - (x + k) ∧ n3 ≤ c3 ∧ (∀ W : World, (Instr.slice 22 (.slice B l.length cB) none (some (.int .i64 (x : Int))) (some (.int .i64 (x : Int)))).run Try.prog W = .ok (.slice B x x) W) ∧
      (∀ W : World, (Instr.slice 22 (.slice B l.length cB) (some (.int .i64 (x : Int))) (some (.int .i64 ((x : Int) + (k : Int)))) (some (.int .i64 ((x : Int) + (k : Int))))).run Try.prog W = .ok (.slice B2 k k) W) ∧
      (∀ W : World, (Instr.slice 22 (.slice B l.length cB) (some (.int .i64 ((x : Int) + (k : Int)))) none none).run Try.prog W = .ok (.slice B3 n3 c3) W) ∧
      (∀ w, Kd.C (Kd.int .u8) w B l.length l → Kd.C (Kd.int .u8) w B x (l.take x) ∧ Kd.C (Kd.int .u8) w B2 k (cut l x (x + k)) ∧ Kd.C (Kd.int .u8) w B3 n3 (l.drop (x + k))) := by
  obtain ⟨i0, hi0, _, hsz, _⟩ := info_parts (show ((Try.prog).info? 5).map (fun i => (i.zero, i.size, i.bytes)) = some (some (.int .u8 0), 1, 1) by kernel_rfl)
  have e : (x : Int) + (k : Int) = ((x + k : Nat) : Int) := by omega
  obtain ⟨a1, a2, _⟩ := cut3_take (P := Try.prog) (Value.int .u8) 0 22 5 .i64 .i64 Try.underlying22 hi0 hsz B cB l (x : Int) (by omega) (by omega) hc
  obtain ⟨B2, b1, b2, _⟩ := cut3_mid (P := Try.prog) (Value.int .u8) 0 22 5 .i64 .i64 .i64 Try.underlying22 hi0 hsz B cB l (x : Int) ((x + k : Nat) : Int) (by omega) (by omega) (by omega) hc
  obtain ⟨B3, c1, c2, _⟩ := print_drop_of (P := Try.prog) (Value.int .u8) 0 22 5 .i64 Try.underlying22 hi0 hsz B cB l ((x + k : Nat) : Int) (by omega) (by omega) hc
  rw [e]
  have l1 : (l.take (x : Int).toNat).length = x := by rw [List.length_take]; omega
  have l2 : ((l.take ((x + k : Nat) : Int).toNat).drop (x : Int).toNat).length = k := by rw [List.length_drop, List.length_take]; omega
  have l3 : (l.drop ((x + k : Nat) : Int).toNat).length = l.length - (x + k) := by rw [List.length_drop]; omega
  rw [l1] at a1 a2
  rw [l2, show ((x + k : Nat) : Int).toNat - (x : Int).toNat = k by omega] at b1
  rw [l2] at b2
  rw [l3] at c1 c2
  refine ⟨B2, B3, _, _, rfl, ?_, a1, b1, c1, fun w h => ?_⟩
  · omega
  · have hr := Kd.reads_of_C (enc := Value.int .u8) (d := (0 : Int)) (h1 := fun _ => rfl) h
    exact ⟨Kd.C_of_reads (a2 w hr), Kd.C_of_reads (b2 w hr), Kd.C_of_reads (c2 w hr)⟩
/-- The code of which a quiet one is, and whether it is one. -/
def loudC (c : Int) : Int × Bool :=
  if c = 9 then (0, true) else if c = 13 then (12, true) else if 17 ≤ c ∧ c ≤ 24 then (c - 16, true) else if c = 25 ∨ c = 26 then (c - 11, true) else if c = 30 then (29, true) else (c, false)
/-- What a code that is not quiet asks for: the command, its extras, what it has (1: a key, 3: a key and a value, 4: a time). -/
def plainC (c : Int) : Option (Int × Int × Int) :=
  if c = 0 ∨ c = 12 then some (0, 0, 1) else if c = 1 then some (3, 8, 3) else if c = 2 then some (4, 8, 3) else if c = 3 then some (5, 8, 3)
  else if c = 4 then some (8, 0, 1) else if c = 5 then some (10, 20, 1) else if c = 6 then some (11, 20, 1) else if c = 7 then some (16, 0, 0)
  else if c = 8 then some (13, 0, 4) else if c = 10 then some (14, 0, 0) else if c = 11 then some (15, 0, 0) else if c = 14 then some (6, 0, 3)
  else if c = 15 then some (7, 0, 3) else if c = 28 then some (2, 4, 1) else if c = 29 then some (1, 4, 1) else none
theorem loud_all : ∀ n : Fin 256, binin_loud.f 9 ((n : Nat) : Int) = some (loudC ((n : Nat) : Int)) := by decide +kernel
def rowOf (o : Option (Int × Int × Int)) : Int × Int × Int × Bool × Bool := match o with
  | some (a, b, c) => (a, b, c, false, true)
  | none => (0, 0, 0, false, false)
theorem plain_all : ∀ n : Fin 256, binin_plain.f 9 ((n : Nat) : Int) = some (rowOf (plainC ((n : Nat) : Int))) := by decide +kernel
theorem loud_range : ∀ n : Fin 256, 0 ≤ (loudC ((n : Nat) : Int)).1 ∧ (loudC ((n : Nat) : Int)).1 < 256 := by decide +kernel
theorem row_kinds : ∀ n : Fin 256, ∀ r ∈ plainC ((n : Nat) : Int), (r.2.2 = 0 ∧ r.2.1 = 0 ∨ r.2.2 = 1 ∨ r.2.2 = 3 ∨ r.2.2 = 4 ∧ r.2.1 = 0) ∧ (r.2.1 = 0 ∨ r.2.1 = 4 ∨ r.2.1 = 8 ∨ r.2.1 = 20) ∧ 0 ≤ r.1 ∧ r.1 ≤ 16 := by decide +kernel
/-- Whether the parts of a body of n bytes are as long as they must be. -/
def fitsB (n x k ext has : Int) : Bool :=
  decide ((x = ext ∨ has = 4 ∧ x = 4) ∧ x + k ≤ n ∧ (x + k = n ∨ has = 3) ∧ (k = 0 ∨ has = 1 ∨ has = 3))
theorem fits_eq (code k x opq cas : Int) (body : List Int) (op ext has : Int) (q : Bool) (h0 : 0 ≤ x) (h1 : x ≤ 65535) (h2 : 0 ≤ k) (h3 : k ≤ 65535) (hn : body.length ≤ 1000000) (hh : has = 0 ∨ has = 1 ∨ has = 3 ∨ has = 4) :
    binin_packet_fits.f code k x opq cas body op ext has q = some (fitsB body.length x k ext has) := by
  have e1 : wrap64 ((body.length : Int) - x) = (body.length : Int) - x := by unfold wrap64; omega
  have e2 : wrap64 ((body.length : Int) - x - k) = (body.length : Int) - x - k := by unfold wrap64; omega
  have b1 : Go.bits .and .i64 0 1 = 0 := by decide
  have b2 : Go.bits .and .i64 0 2 = 0 := by decide
  have b3 : Go.bits .and .i64 0 4 = 0 := by decide
  have b4 : Go.bits .and .i64 1 1 = 1 := by decide
  have b5 : Go.bits .and .i64 1 2 = 0 := by decide
  have b6 : Go.bits .and .i64 1 4 = 0 := by decide
  have b7 : Go.bits .and .i64 3 1 = 1 := by decide
  have b8 : Go.bits .and .i64 3 2 = 2 := by decide
  have b9 : Go.bits .and .i64 3 4 = 0 := by decide
  have b10 : Go.bits .and .i64 4 1 = 0 := by decide
  have b11 : Go.bits .and .i64 4 2 = 0 := by decide
  have b12 : Go.bits .and .i64 4 4 = 4 := by decide
  unfold binin_packet_fits.f
  rw [e1, e2]
  clear e1 e2
  rcases hh with rfl | rfl | rfl | rfl <;> simp only [b1, b2, b3, b4, b5, b6, b7, b8, b9, b10, b11, b12] <;> (repeat' split) <;> (try (exfalso; first | omega | (exact absurd trivial ‹¬ True›))) <;> (refine congrArg some ?_; unfold fitsB; refine Eq.symm ?_; first | (refine decide_eq_true ?_; omega) | (refine decide_eq_false ?_; omega))
set_option maxHeartbeats 8000000 in
set_option maxRecDepth 100000 in
theorem req_unknown (code opq cas : Int) (x k : Nat) (A : Option Addr) (n c : Nat) (cl op ee has : Int) (q : Bool) (w : World) (hn : n ≤ 1000000)
    (HL : Aside0 (∀ W, Calls Try.prog 29 #[.int .i64 code] W fun e w' => e = .returned (.tuple #[.int .i64 cl, .bool q]) ∧ Drawn0 W w'))
    (HP : Aside0 (∀ W, Calls Try.prog 30 #[.int .i64 cl] W fun e w' => e = .returned (.tuple #[.agg #[.int .i64 op, .int .i64 ee, .int .i64 has, .bool false], .bool false]) ∧ Below W.heap.size W w'))
    (HF : Aside0 (∀ W, Calls Try.prog 31 #[pktV code (k : Int) (x : Int) opq cas A n c, .int .u16 129] W fun e w' => e = .returned (badV (strOfNums (faultL code 129 opq)) (24 + (n : Int)) 2) ∧ Below W.heap.size W w')) :
    Calls Try.prog 19 #[pktV code (k : Int) (x : Int) opq cas A n c] w fun e w' => e = .returned (badV (strOfNums (faultL code 129 opq)) (24 + (n : Int)) 2) ∧ Below w.heap.size w w' := by
  have hu53 := Try.underlying53
  have hu66 := Try.underlying66
  have hu34 := Try.underlying34
  have hu39 := Try.underlying39
  have hu29 := Try.underlying29
  have hu31 := Try.underlying31
  have hu22 := Try.underlying22
  have hu25 := Try.underlying25
  have hu27 := Try.underlying27
  have HF' := HF
  unfold pktV badV stepV at HF'
  unfold pktV
  go_enter Try.func19, Try.ntmps19
  go_wp2_with (first | (go_at_call 29; refine (HL.out _).mono ?_; rintro e w' ⟨rfl, ⟨m, rfl⟩⟩) | (go_at_call 30; refine (HP.out _).mono ?_; rintro e w1 ⟨rfl, hB⟩; have k0 := blk_any hB (by first | exact blk_alloc (blk_new w _) _ | exact blk_drewN (blk_alloc (blk_new w _) _) _); have k1 := blk_any hB (by have h := blk_new (w.alloc (.cells #[.int .i64 code, .int .i64 (k : Int), .int .i64 (x : Int), .int .u32 opq, .int .u64 cas, .slice A n c] 53)) (.cells #[.slice none 0 0, .int .i64 0, .string ⟨#[]⟩, .int .i64 0, .int .u32 0, .bool false, .bool false, .string ⟨#[]⟩, .slice none 0 0, .slice none 0 0, .bool false, .string ⟨#[]⟩, .int .i64 0, .int .i64 0, .bool false, .int .i64 0] 34); rw [World.size_alloc] at h; first | exact h | exact blk_drewN h _); have HK0 := Aside0.mk k0; have HK1 := Aside0.mk k1; have HB := Aside0.mk (below_step (show Below w.heap.size w _ from by repeat (with_reducible first | exact Below.refl _ _ | apply below_alloc | apply below_drew | apply pw_below_drewN | refine below_set ?_ (by omega))) hB); obtain ⟨p0, p1, p2, p3, p4, p5⟩ := cells6 (blk_alloc k0 (.cells #[.int .i64 op, .int .i64 ee, .int .i64 has, .bool false] 66)); obtain ⟨pf0, pf1, pf2, pf3, pf4, pf5⟩ := froz6 (blk_alloc k0 (.cells #[.int .i64 op, .int .i64 ee, .int .i64 has, .bool false] 66)); obtain ⟨r0, r1, r2, r3, r4, r5, r6, r7, r8, r9, r10, r11, r12, r13, r14, r15⟩ := cells16 (blk_alloc k1 (.cells #[.int .i64 op, .int .i64 ee, .int .i64 has, .bool false] 66)); obtain ⟨rf0, rf1, rf2, rf3, rf4, rf5, rf6, rf7, rf8, rf9, rf10, rf11, rf12, rf13, rf14, rf15⟩ := froz16 (blk_alloc k1 (.cells #[.int .i64 op, .int .i64 ee, .int .i64 has, .bool false] 66)); clear k0 k1 hB) | (go_at_call 31; refine (HF'.out _).mono ?_; rintro e w2 ⟨rfl, hB⟩; have k2 := blk_any hB (blk_alloc HK1.out _); have HB2 := Aside0.mk (below_step (show Below w.heap.size w _ from by repeat (with_reducible first | exact HB.out | apply below_alloc | apply below_drew | apply pw_below_drewN | refine below_set ?_ (by omega))) hB); clear p0 p1 p2 p3 p4 p5 pf0 pf1 pf2 pf3 pf4 pf5 r0 r1 r2 r3 r4 r5 r6 r7 r8 r9 r10 r11 r12 r13 r14 r15 rf0 rf1 rf2 rf3 rf4 rf5 rf6 rf7 rf8 rf9 rf10 rf11 rf12 rf13 rf14 rf15; clear hB; obtain ⟨r0, r1, r2, r3, r4, r5, r6, r7, r8, r9, r10, r11, r12, r13, r14, r15⟩ := cells16 k2; obtain ⟨rf0, rf1, rf2, rf3, rf4, rf5, rf6, rf7, rf8, rf9, rf10, rf11, rf12, rf13, rf14, rf15⟩ := froz16 k2; have HK2 := Aside0.mk k2; clear k2))
  clear r0 r1 r2 r3 r4 r5 r6 r7 r8 r9 r10 r11 r12 r13 r14 r15 rf0 rf1 rf2 rf3 rf4 rf5 rf6 rf7 rf8 rf9 rf10 rf11 rf12 rf13 rf14 rf15
  refine gen_world (fun W' => W'.heap[w.heap.size + 1]? = some (.cells #[Value.slice none 0 0, Value.int .i64 0, Value.string ⟨#[]⟩, Value.int .i64 0, Value.int .u32 0, Value.bool false, Value.bool false, Value.string ⟨#[]⟩, Value.slice none 0 0, Value.slice none 0 0, Value.bool false, Value.string (strOfNums (faultL code 129 opq)), Value.int .i64 (24 + (n : Int)), Value.int .i64 0, Value.bool false, Value.int .i64 2] 34 (0, 0)) ∧ Below w.heap.size w W') ⟨set16_blk HK2.out (Value.slice none 0 0) (Value.int .i64 0) (Value.string ⟨#[]⟩) (Value.int .i64 0) (Value.int .u32 0) (Value.bool false) (Value.bool false) (Value.string ⟨#[]⟩) (Value.slice none 0 0) (Value.slice none 0 0) (Value.bool false) (Value.string (strOfNums (faultL code 129 opq))) (Value.int .i64 (24 + (n : Int))) (Value.int .i64 0) (Value.bool false) (Value.int .i64 2), set16_below HB2.out (by omega) (Value.slice none 0 0) (Value.int .i64 0) (Value.string ⟨#[]⟩) (Value.int .i64 0) (Value.int .u32 0) (Value.bool false) (Value.bool false) (Value.string ⟨#[]⟩) (Value.slice none 0 0) (Value.slice none 0 0) (Value.bool false) (Value.string (strOfNums (faultL code 129 opq))) (Value.int .i64 (24 + (n : Int))) (Value.int .i64 0) (Value.bool false) (Value.int .i64 2)⟩ ?_
  rintro W4 ⟨hk4, hB4⟩
  refine bodyPost_ret (v := badV (strOfNums (faultL code 129 opq)) (24 + (n : Int)) 2) (results_cell_row rfl _ _ (w.heap.size + 1) 34 _ (0, 0) _ rfl hk4 Try.underlying34 rfl (by kernel_rfl)) rfl ?_
  exact ⟨rfl, hB4⟩
set_option maxHeartbeats 8000000 in
set_option maxRecDepth 100000 in
theorem req_unfit (code opq cas : Int) (x k : Nat) (A : Option Addr) (n c : Nat) (cl op ee has : Int) (q : Bool) (w : World) (hn : n ≤ 1000000)
    (HL : Aside0 (∀ W, Calls Try.prog 29 #[.int .i64 code] W fun e w' => e = .returned (.tuple #[.int .i64 cl, .bool q]) ∧ Drawn0 W w'))
    (HP : Aside0 (∀ W, Calls Try.prog 30 #[.int .i64 cl] W fun e w' => e = .returned (.tuple #[.agg #[.int .i64 op, .int .i64 ee, .int .i64 has, .bool false], .bool true]) ∧ Below W.heap.size W w'))
    (HT : Aside0 (∀ W, Below w.heap.size w W → Calls Try.prog 32 #[.agg #[.int .i64 code, .int .i64 (k : Int), .int .i64 (x : Int), .int .u32 opq, .int .u64 cas, .slice A n c], .agg #[.int .i64 op, .int .i64 ee, .int .i64 has, .bool false]] W fun e w' => e = .returned (.bool false) ∧ Below W.heap.size W w'))
    (HF : Aside0 (∀ W, Calls Try.prog 31 #[pktV code (k : Int) (x : Int) opq cas A n c, .int .u16 4] W fun e w' => e = .returned (badV (strOfNums (faultL code 4 opq)) (24 + (n : Int)) 2) ∧ Below W.heap.size W w')) :
    Calls Try.prog 19 #[pktV code (k : Int) (x : Int) opq cas A n c] w fun e w' => e = .returned (badV (strOfNums (faultL code 4 opq)) (24 + (n : Int)) 2) ∧ Below w.heap.size w w' := by
  have hu53 := Try.underlying53
  have hu66 := Try.underlying66
  have hu34 := Try.underlying34
  have hu39 := Try.underlying39
  have hu29 := Try.underlying29
  have hu31 := Try.underlying31
  have hu22 := Try.underlying22
  have hu25 := Try.underlying25
  have hu27 := Try.underlying27
  have HF' := HF
  unfold pktV badV stepV at HF'
  unfold pktV
  go_enter Try.func19, Try.ntmps19
  go_wp2_with (first | (go_at_call 29; refine (HL.out _).mono ?_; rintro e w' ⟨rfl, ⟨m, rfl⟩⟩) | (go_at_call 30; refine (HP.out _).mono ?_; rintro e w1 ⟨rfl, hB⟩; have k0 := blk_any hB (by first | exact blk_alloc (blk_new w _) _ | exact blk_drewN (blk_alloc (blk_new w _) _) _); have k1 := blk_any hB (by have h := blk_new (w.alloc (.cells #[.int .i64 code, .int .i64 (k : Int), .int .i64 (x : Int), .int .u32 opq, .int .u64 cas, .slice A n c] 53)) (.cells #[.slice none 0 0, .int .i64 0, .string ⟨#[]⟩, .int .i64 0, .int .u32 0, .bool false, .bool false, .string ⟨#[]⟩, .slice none 0 0, .slice none 0 0, .bool false, .string ⟨#[]⟩, .int .i64 0, .int .i64 0, .bool false, .int .i64 0] 34); rw [World.size_alloc] at h; first | exact h | exact blk_drewN h _); have HK0 := Aside0.mk k0; have HK1 := Aside0.mk k1; have HB := Aside0.mk (below_step (show Below w.heap.size w _ from by repeat (with_reducible first | exact Below.refl _ _ | apply below_alloc | apply below_drew | apply pw_below_drewN | refine below_set ?_ (by omega))) hB); obtain ⟨p0, p1, p2, p3, p4, p5⟩ := cells6 (blk_alloc k0 (.cells #[.int .i64 op, .int .i64 ee, .int .i64 has, .bool false] 66)); obtain ⟨pf0, pf1, pf2, pf3, pf4, pf5⟩ := froz6 (blk_alloc k0 (.cells #[.int .i64 op, .int .i64 ee, .int .i64 has, .bool false] 66)); obtain ⟨r0, r1, r2, r3, r4, r5, r6, r7, r8, r9, r10, r11, r12, r13, r14, r15⟩ := cells16 (blk_alloc k1 (.cells #[.int .i64 op, .int .i64 ee, .int .i64 has, .bool false] 66)); obtain ⟨rf0, rf1, rf2, rf3, rf4, rf5, rf6, rf7, rf8, rf9, rf10, rf11, rf12, rf13, rf14, rf15⟩ := froz16 (blk_alloc k1 (.cells #[.int .i64 op, .int .i64 ee, .int .i64 has, .bool false] 66)); clear k0 k1 hB) | (go_at_call 32; refine (HT.out _ (by repeat (with_reducible first | exact HB.out | apply below_alloc | apply below_drew | apply pw_below_drewN | refine below_set ?_ (by omega)))).mono ?_; rintro e w2 ⟨rfl, hB⟩; have k0 := blk_any hB (blk_alloc HK0.out _); have k1 := blk_any hB (blk_alloc HK1.out _); have k3 := blk_any hB (blk_new w1 _); have HK0 := Aside0.mk k0; have HK1 := Aside0.mk k1; have HK3 := Aside0.mk k3; have HB2 := Aside0.mk (below_step (show Below w.heap.size w _ from by repeat (with_reducible first | exact HB.out | apply below_alloc | apply below_drew | apply pw_below_drewN | refine below_set ?_ (by omega))) hB); clear p0 p1 p2 p3 p4 p5 pf0 pf1 pf2 pf3 pf4 pf5 r0 r1 r2 r3 r4 r5 r6 r7 r8 r9 r10 r11 r12 r13 r14 r15 rf0 rf1 rf2 rf3 rf4 rf5 rf6 rf7 rf8 rf9 rf10 rf11 rf12 rf13 rf14 rf15; obtain ⟨p0, p1, p2, p3, p4, p5⟩ := cells6 k0; obtain ⟨r0, r1, r2, r3, r4, r5, r6, r7, r8, r9, r10, r11, r12, r13, r14, r15⟩ := cells16 k1; obtain ⟨rf0, rf1, rf2, rf3, rf4, rf5, rf6, rf7, rf8, rf9, rf10, rf11, rf12, rf13, rf14, rf15⟩ := froz16 k1; obtain ⟨q0, q1, q2, q3⟩ := cells4 k3; clear k0 k1 k3 hB) | (go_at_call 31; refine (HF'.out _).mono ?_; rintro e w3 ⟨rfl, hB⟩; have k2 := blk_any hB HK1.out; have HB2 := Aside0.mk (below_step (show Below w.heap.size w _ from by repeat (with_reducible first | exact HB2.out | apply below_alloc | apply below_drew | apply pw_below_drewN | refine below_set ?_ (by omega))) hB); clear p0 p1 p2 p3 p4 p5 r0 r1 r2 r3 r4 r5 r6 r7 r8 r9 r10 r11 r12 r13 r14 r15 rf0 rf1 rf2 rf3 rf4 rf5 rf6 rf7 rf8 rf9 rf10 rf11 rf12 rf13 rf14 rf15 q0 q1 q2 q3; clear hB; obtain ⟨r0, r1, r2, r3, r4, r5, r6, r7, r8, r9, r10, r11, r12, r13, r14, r15⟩ := cells16 k2; obtain ⟨rf0, rf1, rf2, rf3, rf4, rf5, rf6, rf7, rf8, rf9, rf10, rf11, rf12, rf13, rf14, rf15⟩ := froz16 k2; have HK2 := Aside0.mk k2; clear k2))
  clear r0 r1 r2 r3 r4 r5 r6 r7 r8 r9 r10 r11 r12 r13 r14 r15 rf0 rf1 rf2 rf3 rf4 rf5 rf6 rf7 rf8 rf9 rf10 rf11 rf12 rf13 rf14 rf15
  refine gen_world (fun W' => W'.heap[w.heap.size + 1]? = some (.cells #[Value.slice none 0 0, Value.int .i64 0, Value.string ⟨#[]⟩, Value.int .i64 0, Value.int .u32 0, Value.bool false, Value.bool false, Value.string ⟨#[]⟩, Value.slice none 0 0, Value.slice none 0 0, Value.bool false, Value.string (strOfNums (faultL code 4 opq)), Value.int .i64 (24 + (n : Int)), Value.int .i64 0, Value.bool false, Value.int .i64 2] 34 (0, 0)) ∧ Below w.heap.size w W') ⟨set16_blk HK2.out (Value.slice none 0 0) (Value.int .i64 0) (Value.string ⟨#[]⟩) (Value.int .i64 0) (Value.int .u32 0) (Value.bool false) (Value.bool false) (Value.string ⟨#[]⟩) (Value.slice none 0 0) (Value.slice none 0 0) (Value.bool false) (Value.string (strOfNums (faultL code 4 opq))) (Value.int .i64 (24 + (n : Int))) (Value.int .i64 0) (Value.bool false) (Value.int .i64 2), set16_below HB2.out (by omega) (Value.slice none 0 0) (Value.int .i64 0) (Value.string ⟨#[]⟩) (Value.int .i64 0) (Value.int .u32 0) (Value.bool false) (Value.bool false) (Value.string ⟨#[]⟩) (Value.slice none 0 0) (Value.slice none 0 0) (Value.bool false) (Value.string (strOfNums (faultL code 4 opq))) (Value.int .i64 (24 + (n : Int))) (Value.int .i64 0) (Value.bool false) (Value.int .i64 2)⟩ ?_
  rintro W4 ⟨hk4, hB4⟩
  refine bodyPost_ret (v := badV (strOfNums (faultL code 4 opq)) (24 + (n : Int)) 2) (results_cell_row rfl _ _ (w.heap.size + 1) 34 _ (0, 0) _ rfl hk4 Try.underlying34 rfl (by kernel_rfl)) rfl ?_
  exact ⟨rfl, hB4⟩
set_option maxHeartbeats 8000000 in
set_option maxRecDepth 100000 in
theorem req_badkey (code opq cas : Int) (x k : Nat) (A : Option Addr) (n c : Nat) (cl op ee has : Int) (q : Bool) (w : World) (body : List Int) (hlen : body.length = n) (hC : Kd.C (Kd.int .u8) w A n body) (hc : n ≤ c) (hxk : x + k ≤ n) (hx : x ≤ 255) (hn : n ≤ 1000000) (hb1 : (Go.bits .and .i64 has 1 != 0) = true)
    (HL : Aside0 (∀ W, Calls Try.prog 29 #[.int .i64 code] W fun e w' => e = .returned (.tuple #[.int .i64 cl, .bool q]) ∧ Drawn0 W w'))
    (HP : Aside0 (∀ W, Calls Try.prog 30 #[.int .i64 cl] W fun e w' => e = .returned (.tuple #[.agg #[.int .i64 op, .int .i64 ee, .int .i64 has, .bool false], .bool true]) ∧ Below W.heap.size W w'))
    (HT : Aside0 (∀ W, Below w.heap.size w W → Calls Try.prog 32 #[.agg #[.int .i64 code, .int .i64 (k : Int), .int .i64 (x : Int), .int .u32 opq, .int .u64 cas, .slice A n c], .agg #[.int .i64 op, .int .i64 ee, .int .i64 has, .bool false]] W fun e w' => e = .returned (.bool true) ∧ Below W.heap.size W w'))
    (HY : Aside0 (∀ W, Calls Try.prog 33 #[.string (strOfNums (cut body x (x + k)))] W fun e w' => e = .returned (.bool false) ∧ Drawn0 W w'))
    (HF : Aside0 (∀ W, Calls Try.prog 31 #[pktV code (k : Int) (x : Int) opq cas A n c, .int .u16 4] W fun e w' => e = .returned (badV (strOfNums (faultL code 4 opq)) (24 + (n : Int)) 2) ∧ Below W.heap.size W w')) :
    Calls Try.prog 19 #[pktV code (k : Int) (x : Int) opq cas A n c] w fun e w' => e = .returned (badV (strOfNums (faultL code 4 opq)) (24 + (n : Int)) 2) ∧ Below w.heap.size w w' := by
  have hu53 := Try.underlying53
  have hu66 := Try.underlying66
  have hu34 := Try.underlying34
  have hu39 := Try.underlying39
  have hu29 := Try.underlying29
  have hu31 := Try.underlying31
  have hu22 := Try.underlying22
  have hu25 := Try.underlying25
  have hu27 := Try.underlying27
  have HF' := HF
  unfold pktV badV stepV at HF'
  obtain ⟨B2, B3, n3, c3, hn3, hc3, hp1, hp2, hp3, hpC⟩ := parts3 A c body x k (by omega) (by omega)
  rw [hlen] at hp1 hp2 hp3 hpC hn3
  have HPC := Aside0.mk (fun W (hB : Below w.heap.size w W) => hpC W (Kd.C_below hC hB))
  have HN3 := Aside0.mk (And.intro hn3 hc3)
  have hws : wrap64 ((x : Int) + (k : Int)) = (x : Int) + (k : Int) := by unfold wrap64; omega
  have hi1 : (0 : Int) ≤ (x : Int) := by omega
  have hi2 : (x : Int) ≤ (x : Int) + (k : Int) := by omega
  have hi3 : (x : Int) + (k : Int) ≤ (n : Int) := by omega
  clear hpC hC hn3 hc3
  unfold pktV
  go_enter Try.func19, Try.ntmps19
  go_wp2_with (first | (go_at_call 29; refine (HL.out _).mono ?_; rintro e w' ⟨rfl, ⟨m, rfl⟩⟩) | (go_at_call 30; refine (HP.out _).mono ?_; rintro e w1 ⟨rfl, hB⟩; have k0 := blk_any hB (by first | exact blk_alloc (blk_new w _) _ | exact blk_drewN (blk_alloc (blk_new w _) _) _); have k1 := blk_any hB (by have h := blk_new (w.alloc (.cells #[.int .i64 code, .int .i64 (k : Int), .int .i64 (x : Int), .int .u32 opq, .int .u64 cas, .slice A n c] 53)) (.cells #[.slice none 0 0, .int .i64 0, .string ⟨#[]⟩, .int .i64 0, .int .u32 0, .bool false, .bool false, .string ⟨#[]⟩, .slice none 0 0, .slice none 0 0, .bool false, .string ⟨#[]⟩, .int .i64 0, .int .i64 0, .bool false, .int .i64 0] 34); rw [World.size_alloc] at h; first | exact h | exact blk_drewN h _); have HK0 := Aside0.mk k0; have HK1 := Aside0.mk k1; have HB := Aside0.mk (below_step (show Below w.heap.size w _ from by repeat (with_reducible first | exact Below.refl _ _ | apply below_alloc | apply below_drew | apply pw_below_drewN | refine below_set ?_ (by omega))) hB); obtain ⟨p0, p1, p2, p3, p4, p5⟩ := cells6 (blk_alloc k0 (.cells #[.int .i64 op, .int .i64 ee, .int .i64 has, .bool false] 66)); obtain ⟨pf0, pf1, pf2, pf3, pf4, pf5⟩ := froz6 (blk_alloc k0 (.cells #[.int .i64 op, .int .i64 ee, .int .i64 has, .bool false] 66)); obtain ⟨r0, r1, r2, r3, r4, r5, r6, r7, r8, r9, r10, r11, r12, r13, r14, r15⟩ := cells16 (blk_alloc k1 (.cells #[.int .i64 op, .int .i64 ee, .int .i64 has, .bool false] 66)); obtain ⟨rf0, rf1, rf2, rf3, rf4, rf5, rf6, rf7, rf8, rf9, rf10, rf11, rf12, rf13, rf14, rf15⟩ := froz16 (blk_alloc k1 (.cells #[.int .i64 op, .int .i64 ee, .int .i64 has, .bool false] 66)); clear k0 k1 hB) | (go_at_call 32; refine (HT.out _ (by repeat (with_reducible first | exact HB.out | apply below_alloc | apply below_drew | apply pw_below_drewN | refine below_set ?_ (by omega)))).mono ?_; rintro e w2 ⟨rfl, hB⟩; have k0 := blk_any hB (blk_alloc HK0.out _); have k1 := blk_any hB (blk_alloc HK1.out _); have k3 := blk_any hB (blk_new w1 _); have HK0 := Aside0.mk k0; have HK1 := Aside0.mk k1; have HK3 := Aside0.mk k3; have HB2 := Aside0.mk (below_step (show Below w.heap.size w _ from by repeat (with_reducible first | exact HB.out | apply below_alloc | apply below_drew | apply pw_below_drewN | refine below_set ?_ (by omega))) hB); clear p0 p1 p2 p3 p4 p5 pf0 pf1 pf2 pf3 pf4 pf5 r0 r1 r2 r3 r4 r5 r6 r7 r8 r9 r10 r11 r12 r13 r14 r15 rf0 rf1 rf2 rf3 rf4 rf5 rf6 rf7 rf8 rf9 rf10 rf11 rf12 rf13 rf14 rf15; obtain ⟨p0, p1, p2, p3, p4, p5⟩ := cells6 k0; obtain ⟨r0, r1, r2, r3, r4, r5, r6, r7, r8, r9, r10, r11, r12, r13, r14, r15⟩ := cells16 k1; obtain ⟨rf0, rf1, rf2, rf3, rf4, rf5, rf6, rf7, rf8, rf9, rf10, rf11, rf12, rf13, rf14, rf15⟩ := froz16 k1; obtain ⟨q0, q1, q2, q3⟩ := cells4 k3; clear k0 k1 k3 hB; have hcv : (convert 22 9 (.slice B2 k k)).run Try.prog w2 = .ok (.string (strOfNums (cut body x (x + k)))) w2 := Kd.C_string Try.underlying22 Try.underlying5 Try.underlying9 (HPC.out w2 HB2.out).2.1) | (go_at_call 33; refine (HY.out _).mono ?_; rintro e w' ⟨rfl, ⟨m, rfl⟩⟩) | (go_at_call 31; refine (HF'.out _).mono ?_; rintro e w3 ⟨rfl, hB⟩; have k2 := blk_any hB (blk_drewN HK1.out _); have HB2 := Aside0.mk (below_step (show Below w.heap.size w _ from by repeat (with_reducible first | exact HB2.out | apply below_alloc | apply below_drew | apply pw_below_drewN | refine below_set ?_ (by omega))) hB); clear p0 p1 p2 p3 p4 p5 r0 r1 r2 r3 r4 r5 r6 r7 r8 r9 r10 r11 r12 r13 r14 r15 rf0 rf1 rf2 rf3 rf4 rf5 rf6 rf7 rf8 rf9 rf10 rf11 rf12 rf13 rf14 rf15 q0 q1 q2 q3; clear hB; obtain ⟨r0, r1, r2, r3, r4, r5, r6, r7, r8, r9, r10, r11, r12, r13, r14, r15⟩ := cells16 k2; obtain ⟨rf0, rf1, rf2, rf3, rf4, rf5, rf6, rf7, rf8, rf9, rf10, rf11, rf12, rf13, rf14, rf15⟩ := froz16 k2; have HK2 := Aside0.mk k2; clear k2))
  clear r0 r1 r2 r3 r4 r5 r6 r7 r8 r9 r10 r11 r12 r13 r14 r15 rf0 rf1 rf2 rf3 rf4 rf5 rf6 rf7 rf8 rf9 rf10 rf11 rf12 rf13 rf14 rf15
  refine gen_world (fun W' => W'.heap[w.heap.size + 1]? = some (.cells #[Value.slice none 0 0, Value.int .i64 0, Value.string ⟨#[]⟩, Value.int .i64 0, Value.int .u32 0, Value.bool false, Value.bool false, Value.string ⟨#[]⟩, Value.slice none 0 0, Value.slice none 0 0, Value.bool false, Value.string (strOfNums (faultL code 4 opq)), Value.int .i64 (24 + (n : Int)), Value.int .i64 0, Value.bool false, Value.int .i64 2] 34 (0, 0)) ∧ Below w.heap.size w W') ⟨set16_blk HK2.out (Value.slice none 0 0) (Value.int .i64 0) (Value.string ⟨#[]⟩) (Value.int .i64 0) (Value.int .u32 0) (Value.bool false) (Value.bool false) (Value.string ⟨#[]⟩) (Value.slice none 0 0) (Value.slice none 0 0) (Value.bool false) (Value.string (strOfNums (faultL code 4 opq))) (Value.int .i64 (24 + (n : Int))) (Value.int .i64 0) (Value.bool false) (Value.int .i64 2), set16_below HB2.out (by omega) (Value.slice none 0 0) (Value.int .i64 0) (Value.string ⟨#[]⟩) (Value.int .i64 0) (Value.int .u32 0) (Value.bool false) (Value.bool false) (Value.string ⟨#[]⟩) (Value.slice none 0 0) (Value.slice none 0 0) (Value.bool false) (Value.string (strOfNums (faultL code 4 opq))) (Value.int .i64 (24 + (n : Int))) (Value.int .i64 0) (Value.bool false) (Value.int .i64 2)⟩ ?_
  rintro W4 ⟨hk4, hB4⟩
  refine bodyPost_ret (v := badV (strOfNums (faultL code 4 opq)) (24 + (n : Int)) 2) (results_cell_row rfl _ _ (w.heap.size + 1) 34 _ (0, 0) _ rfl hk4 Try.underlying34 rfl (by kernel_rfl)) rfl ?_
  exact ⟨rfl, hB4⟩
set_option maxHeartbeats 8000000 in
set_option maxRecDepth 100000 in
theorem req_large (code opq cas : Int) (x k : Nat) (A : Option Addr) (n c : Nat) (cl op ee has : Int) (q : Bool) (w : World) (body : List Int) (hlen : body.length = n) (hC : Kd.C (Kd.int .u8) w A n body) (hc : n ≤ c) (hxk : x + k ≤ n) (hx : x ≤ 255) (hn : n ≤ 1000000) (hl : x + k + 1000 < n) (hb1 : (Go.bits .and .i64 has 1 != 0) = true)
    (HL : Aside0 (∀ W, Calls Try.prog 29 #[.int .i64 code] W fun e w' => e = .returned (.tuple #[.int .i64 cl, .bool q]) ∧ Drawn0 W w'))
    (HP : Aside0 (∀ W, Calls Try.prog 30 #[.int .i64 cl] W fun e w' => e = .returned (.tuple #[.agg #[.int .i64 op, .int .i64 ee, .int .i64 has, .bool false], .bool true]) ∧ Below W.heap.size W w'))
    (HT : Aside0 (∀ W, Below w.heap.size w W → Calls Try.prog 32 #[.agg #[.int .i64 code, .int .i64 (k : Int), .int .i64 (x : Int), .int .u32 opq, .int .u64 cas, .slice A n c], .agg #[.int .i64 op, .int .i64 ee, .int .i64 has, .bool false]] W fun e w' => e = .returned (.bool true) ∧ Below W.heap.size W w'))
    (HY : Aside0 (∀ W, Calls Try.prog 33 #[.string (strOfNums (cut body x (x + k)))] W fun e w' => e = .returned (.bool true) ∧ Drawn0 W w'))
    (HF : Aside0 (∀ W, Calls Try.prog 31 #[pktV code (k : Int) (x : Int) opq cas A n c, .int .u16 3] W fun e w' => e = .returned (badV (strOfNums (faultL code 3 opq)) (24 + (n : Int)) 2) ∧ Below W.heap.size W w')) :
    Calls Try.prog 19 #[pktV code (k : Int) (x : Int) opq cas A n c] w fun e w' => e = .returned (badV (strOfNums (faultL code 3 opq)) (24 + (n : Int)) 2) ∧ Below w.heap.size w w' := by
  have hu53 := Try.underlying53
  have hu66 := Try.underlying66
  have hu34 := Try.underlying34
  have hu39 := Try.underlying39
  have hu29 := Try.underlying29
  have hu31 := Try.underlying31
  have hu22 := Try.underlying22
  have hu25 := Try.underlying25
  have hu27 := Try.underlying27
  have HF' := HF
  unfold pktV badV stepV at HF'
  obtain ⟨B2, B3, n3, c3, hn3, hc3, hp1, hp2, hp3, hpC⟩ := parts3 A c body x k (by omega) (by omega)
  rw [hlen] at hp1 hp2 hp3 hpC hn3
  have HPC := Aside0.mk (fun W (hB : Below w.heap.size w W) => hpC W (Kd.C_below hC hB))
  have HN3 := Aside0.mk (And.intro hn3 hc3)
  have hws : wrap64 ((x : Int) + (k : Int)) = (x : Int) + (k : Int) := by unfold wrap64; omega
  have hi1 : (0 : Int) ≤ (x : Int) := by omega
  have hi2 : (x : Int) ≤ (x : Int) + (k : Int) := by omega
  have hi3 : (x : Int) + (k : Int) ≤ (n : Int) := by omega
  have hgt : decide (1000 < n3) = true := decide_eq_true (by omega)
  have hgt2 : decide ((1000 : Int) < (n3 : Int)) = true := decide_eq_true (by omega)
  have hgt3 : decide ((n3 : Int) > 1000) = true := decide_eq_true (by omega)
  clear hpC hC hn3 hc3
  unfold pktV
  go_enter Try.func19, Try.ntmps19
  go_wp2_with (first | (go_at_call 29; refine (HL.out _).mono ?_; rintro e w' ⟨rfl, ⟨m, rfl⟩⟩) | (go_at_call 30; refine (HP.out _).mono ?_; rintro e w1 ⟨rfl, hB⟩; have k0 := blk_any hB (by first | exact blk_alloc (blk_new w _) _ | exact blk_drewN (blk_alloc (blk_new w _) _) _); have k1 := blk_any hB (by have h := blk_new (w.alloc (.cells #[.int .i64 code, .int .i64 (k : Int), .int .i64 (x : Int), .int .u32 opq, .int .u64 cas, .slice A n c] 53)) (.cells #[.slice none 0 0, .int .i64 0, .string ⟨#[]⟩, .int .i64 0, .int .u32 0, .bool false, .bool false, .string ⟨#[]⟩, .slice none 0 0, .slice none 0 0, .bool false, .string ⟨#[]⟩, .int .i64 0, .int .i64 0, .bool false, .int .i64 0] 34); rw [World.size_alloc] at h; first | exact h | exact blk_drewN h _); have HK0 := Aside0.mk k0; have HK1 := Aside0.mk k1; have HB := Aside0.mk (below_step (show Below w.heap.size w _ from by repeat (with_reducible first | exact Below.refl _ _ | apply below_alloc | apply below_drew | apply pw_below_drewN | refine below_set ?_ (by omega))) hB); obtain ⟨p0, p1, p2, p3, p4, p5⟩ := cells6 (blk_alloc k0 (.cells #[.int .i64 op, .int .i64 ee, .int .i64 has, .bool false] 66)); obtain ⟨pf0, pf1, pf2, pf3, pf4, pf5⟩ := froz6 (blk_alloc k0 (.cells #[.int .i64 op, .int .i64 ee, .int .i64 has, .bool false] 66)); obtain ⟨r0, r1, r2, r3, r4, r5, r6, r7, r8, r9, r10, r11, r12, r13, r14, r15⟩ := cells16 (blk_alloc k1 (.cells #[.int .i64 op, .int .i64 ee, .int .i64 has, .bool false] 66)); obtain ⟨rf0, rf1, rf2, rf3, rf4, rf5, rf6, rf7, rf8, rf9, rf10, rf11, rf12, rf13, rf14, rf15⟩ := froz16 (blk_alloc k1 (.cells #[.int .i64 op, .int .i64 ee, .int .i64 has, .bool false] 66)); clear k0 k1 hB) | (go_at_call 32; refine (HT.out _ (by repeat (with_reducible first | exact HB.out | apply below_alloc | apply below_drew | apply pw_below_drewN | refine below_set ?_ (by omega)))).mono ?_; rintro e w2 ⟨rfl, hB⟩; have k0 := blk_any hB (blk_alloc HK0.out _); have k1 := blk_any hB (blk_alloc HK1.out _); have k3 := blk_any hB (blk_new w1 _); have HK0 := Aside0.mk k0; have HK1 := Aside0.mk k1; have HK3 := Aside0.mk k3; have HB2 := Aside0.mk (below_step (show Below w.heap.size w _ from by repeat (with_reducible first | exact HB.out | apply below_alloc | apply below_drew | apply pw_below_drewN | refine below_set ?_ (by omega))) hB); clear p0 p1 p2 p3 p4 p5 pf0 pf1 pf2 pf3 pf4 pf5 r0 r1 r2 r3 r4 r5 r6 r7 r8 r9 r10 r11 r12 r13 r14 r15 rf0 rf1 rf2 rf3 rf4 rf5 rf6 rf7 rf8 rf9 rf10 rf11 rf12 rf13 rf14 rf15; obtain ⟨p0, p1, p2, p3, p4, p5⟩ := cells6 k0; obtain ⟨r0, r1, r2, r3, r4, r5, r6, r7, r8, r9, r10, r11, r12, r13, r14, r15⟩ := cells16 k1; obtain ⟨rf0, rf1, rf2, rf3, rf4, rf5, rf6, rf7, rf8, rf9, rf10, rf11, rf12, rf13, rf14, rf15⟩ := froz16 k1; obtain ⟨q0, q1, q2, q3⟩ := cells4 k3; clear k0 k1 k3 hB; have hcv : (convert 22 9 (.slice B2 k k)).run Try.prog w2 = .ok (.string (strOfNums (cut body x (x + k)))) w2 := Kd.C_string Try.underlying22 Try.underlying5 Try.underlying9 (HPC.out w2 HB2.out).2.1) | (go_at_call 33; refine (HY.out _).mono ?_; rintro e w' ⟨rfl, ⟨m, rfl⟩⟩) | (go_at_call 31; refine (HF'.out _).mono ?_; rintro e w3 ⟨rfl, hB⟩; have k2 := blk_any hB (blk_drewN HK1.out _); have HB2 := Aside0.mk (below_step (show Below w.heap.size w _ from by repeat (with_reducible first | exact HB2.out | apply below_alloc | apply below_drew | apply pw_below_drewN | refine below_set ?_ (by omega))) hB); clear p0 p1 p2 p3 p4 p5 r0 r1 r2 r3 r4 r5 r6 r7 r8 r9 r10 r11 r12 r13 r14 r15 rf0 rf1 rf2 rf3 rf4 rf5 rf6 rf7 rf8 rf9 rf10 rf11 rf12 rf13 rf14 rf15 q0 q1 q2 q3; clear hB; obtain ⟨r0, r1, r2, r3, r4, r5, r6, r7, r8, r9, r10, r11, r12, r13, r14, r15⟩ := cells16 k2; obtain ⟨rf0, rf1, rf2, rf3, rf4, rf5, rf6, rf7, rf8, rf9, rf10, rf11, rf12, rf13, rf14, rf15⟩ := froz16 k2; have HK2 := Aside0.mk k2; clear k2))
  clear r0 r1 r2 r3 r4 r5 r6 r7 r8 r9 r10 r11 r12 r13 r14 r15 rf0 rf1 rf2 rf3 rf4 rf5 rf6 rf7 rf8 rf9 rf10 rf11 rf12 rf13 rf14 rf15
  refine gen_world (fun W' => W'.heap[w.heap.size + 1]? = some (.cells #[Value.slice none 0 0, Value.int .i64 0, Value.string ⟨#[]⟩, Value.int .i64 0, Value.int .u32 0, Value.bool false, Value.bool false, Value.string ⟨#[]⟩, Value.slice none 0 0, Value.slice none 0 0, Value.bool false, Value.string (strOfNums (faultL code 3 opq)), Value.int .i64 (24 + (n : Int)), Value.int .i64 0, Value.bool false, Value.int .i64 2] 34 (0, 0)) ∧ Below w.heap.size w W') ⟨set16_blk HK2.out (Value.slice none 0 0) (Value.int .i64 0) (Value.string ⟨#[]⟩) (Value.int .i64 0) (Value.int .u32 0) (Value.bool false) (Value.bool false) (Value.string ⟨#[]⟩) (Value.slice none 0 0) (Value.slice none 0 0) (Value.bool false) (Value.string (strOfNums (faultL code 3 opq))) (Value.int .i64 (24 + (n : Int))) (Value.int .i64 0) (Value.bool false) (Value.int .i64 2), set16_below HB2.out (by omega) (Value.slice none 0 0) (Value.int .i64 0) (Value.string ⟨#[]⟩) (Value.int .i64 0) (Value.int .u32 0) (Value.bool false) (Value.bool false) (Value.string ⟨#[]⟩) (Value.slice none 0 0) (Value.slice none 0 0) (Value.bool false) (Value.string (strOfNums (faultL code 3 opq))) (Value.int .i64 (24 + (n : Int))) (Value.int .i64 0) (Value.bool false) (Value.int .i64 2)⟩ ?_
  rintro W4 ⟨hk4, hB4⟩
  refine bodyPost_ret (v := badV (strOfNums (faultL code 3 opq)) (24 + (n : Int)) 2) (results_cell_row rfl _ _ (w.heap.size + 1) 34 _ (0, 0) _ rfl hk4 Try.underlying34 rfl (by kernel_rfl)) rfl ?_
  exact ⟨rfl, hB4⟩
set_option maxHeartbeats 8000000 in
set_option maxRecDepth 100000 in
theorem req_key (code opq cas : Int) (x k : Nat) (A : Option Addr) (n c : Nat) (cl op ee has : Int) (q : Bool) (w : World) (body : List Int) (hlen : body.length = n) (hC : Kd.C (Kd.int .u8) w A n body) (hc : n ≤ c) (hxk : x + k ≤ n) (hx : x ≤ 255) (hn : n ≤ 1000000) (hl : n ≤ x + k + 1000) (fl ex de ini : Int) (mk : Bool) (hk : 0 < k) (hb1 : (Go.bits .and .i64 has 1 != 0) = true) (hb2 : (Go.bits .and .i64 has 2 != 0) = false)
    (HL : Aside0 (∀ W, Calls Try.prog 29 #[.int .i64 code] W fun e w' => e = .returned (.tuple #[.int .i64 cl, .bool q]) ∧ Drawn0 W w'))
    (HP : Aside0 (∀ W, Calls Try.prog 30 #[.int .i64 cl] W fun e w' => e = .returned (.tuple #[.agg #[.int .i64 op, .int .i64 ee, .int .i64 has, .bool false], .bool true]) ∧ Below W.heap.size W w'))
    (HT : Aside0 (∀ W, Below w.heap.size w W → Calls Try.prog 32 #[.agg #[.int .i64 code, .int .i64 (k : Int), .int .i64 (x : Int), .int .u32 opq, .int .u64 cas, .slice A n c], .agg #[.int .i64 op, .int .i64 ee, .int .i64 has, .bool false]] W fun e w' => e = .returned (.bool true) ∧ Below W.heap.size W w'))
    (HY : Aside0 (∀ W, Calls Try.prog 33 #[.string (strOfNums (cut body x (x + k)))] W fun e w' => e = .returned (.bool true) ∧ Drawn0 W w'))
    (HM : Aside0 (∀ W, Below w.heap.size w W → Calls Try.prog 34 #[.int .i64 op, .slice A x x] W fun e w' => e = .returned (cmdV op ⟨#[]⟩ (.slice none 0 0) fl ex 0 de ini mk) ∧ Below W.heap.size W w')) :
    Calls Try.prog 19 #[pktV code (k : Int) (x : Int) opq cas A n c] w fun e w' => ∃ v, e = .returned v ∧ StepAt w' v ⟨some ⟨op, (strOfNums (cut body x (x + k))), [], fl, ex, cas, de, ini, mk⟩, 2, code, opq, q, some (strOfNums (cut body x (x + k))), ⟨#[]⟩, 24 + (n : Int), 0⟩ ∧ Below w.heap.size w w' := by
  have hu53 := Try.underlying53
  have hu66 := Try.underlying66
  have hu34 := Try.underlying34
  have hu39 := Try.underlying39
  have hu29 := Try.underlying29
  have hu31 := Try.underlying31
  have hu22 := Try.underlying22
  have hu25 := Try.underlying25
  have hu27 := Try.underlying27
  have HM' := HM
  unfold cmdV at HM'
  obtain ⟨B2, B3, n3, c3, hn3, hc3, hp1, hp2, hp3, hpC⟩ := parts3 A c body x k (by omega) (by omega)
  rw [hlen] at hp1 hp2 hp3 hpC hn3
  have HPC := Aside0.mk (fun W (hB : Below w.heap.size w W) => hpC W (Kd.C_below hC hB))
  have HN3 := Aside0.mk (And.intro hn3 hc3)
  have hws : wrap64 ((x : Int) + (k : Int)) = (x : Int) + (k : Int) := by unfold wrap64; omega
  have hi1 : (0 : Int) ≤ (x : Int) := by omega
  have hi2 : (x : Int) ≤ (x : Int) + (k : Int) := by omega
  have hi3 : (x : Int) + (k : Int) ≤ (n : Int) := by omega
  have hgt : decide (1000 < n3) = false := decide_eq_false (by omega)
  have hgt2 : decide ((1000 : Int) < (n3 : Int)) = false := decide_eq_false (by omega)
  have hgt3 : decide ((n3 : Int) > 1000) = false := decide_eq_false (by omega)
  have ky := key_ne (cut body x (x + k)) (by rw [cut_len _ _ _ (by omega)]; omega)
  have ky2 : (!(strOfNums (cut body x (x + k))).toList.isEmpty) = true := by rw [ky]; rfl
  clear hpC hC hn3 hc3
  unfold pktV
  go_enter Try.func19, Try.ntmps19
  go_wp2_with (first | (go_at_call 29; refine (HL.out _).mono ?_; rintro e w' ⟨rfl, ⟨m, rfl⟩⟩) | (go_at_call 30; refine (HP.out _).mono ?_; rintro e w1 ⟨rfl, hB⟩; have k0 := blk_any hB (by first | exact blk_alloc (blk_new w _) _ | exact blk_drewN (blk_alloc (blk_new w _) _) _); have k1 := blk_any hB (by have h := blk_new (w.alloc (.cells #[.int .i64 code, .int .i64 (k : Int), .int .i64 (x : Int), .int .u32 opq, .int .u64 cas, .slice A n c] 53)) (.cells #[.slice none 0 0, .int .i64 0, .string ⟨#[]⟩, .int .i64 0, .int .u32 0, .bool false, .bool false, .string ⟨#[]⟩, .slice none 0 0, .slice none 0 0, .bool false, .string ⟨#[]⟩, .int .i64 0, .int .i64 0, .bool false, .int .i64 0] 34); rw [World.size_alloc] at h; first | exact h | exact blk_drewN h _); have HK0 := Aside0.mk k0; have HK1 := Aside0.mk k1; have HB := Aside0.mk (below_step (show Below w.heap.size w _ from by repeat (with_reducible first | exact Below.refl _ _ | apply below_alloc | apply below_drew | apply pw_below_drewN | refine below_set ?_ (by omega))) hB); obtain ⟨p0, p1, p2, p3, p4, p5⟩ := cells6 (blk_alloc k0 (.cells #[.int .i64 op, .int .i64 ee, .int .i64 has, .bool false] 66)); obtain ⟨pf0, pf1, pf2, pf3, pf4, pf5⟩ := froz6 (blk_alloc k0 (.cells #[.int .i64 op, .int .i64 ee, .int .i64 has, .bool false] 66)); obtain ⟨r0, r1, r2, r3, r4, r5, r6, r7, r8, r9, r10, r11, r12, r13, r14, r15⟩ := cells16 (blk_alloc k1 (.cells #[.int .i64 op, .int .i64 ee, .int .i64 has, .bool false] 66)); obtain ⟨rf0, rf1, rf2, rf3, rf4, rf5, rf6, rf7, rf8, rf9, rf10, rf11, rf12, rf13, rf14, rf15⟩ := froz16 (blk_alloc k1 (.cells #[.int .i64 op, .int .i64 ee, .int .i64 has, .bool false] 66)); clear k0 k1 hB) | (go_at_call 32; refine (HT.out _ (by repeat (with_reducible first | exact HB.out | apply below_alloc | apply below_drew | apply pw_below_drewN | refine below_set ?_ (by omega)))).mono ?_; rintro e w2 ⟨rfl, hB⟩; have k0 := blk_any hB (blk_alloc HK0.out _); have k1 := blk_any hB (blk_alloc HK1.out _); have k3 := blk_any hB (blk_new w1 _); have HK0 := Aside0.mk k0; have HK1 := Aside0.mk k1; have HK3 := Aside0.mk k3; have HB2 := Aside0.mk (below_step (show Below w.heap.size w _ from by repeat (with_reducible first | exact HB.out | apply below_alloc | apply below_drew | apply pw_below_drewN | refine below_set ?_ (by omega))) hB); clear p0 p1 p2 p3 p4 p5 pf0 pf1 pf2 pf3 pf4 pf5 r0 r1 r2 r3 r4 r5 r6 r7 r8 r9 r10 r11 r12 r13 r14 r15 rf0 rf1 rf2 rf3 rf4 rf5 rf6 rf7 rf8 rf9 rf10 rf11 rf12 rf13 rf14 rf15; obtain ⟨p0, p1, p2, p3, p4, p5⟩ := cells6 k0; obtain ⟨r0, r1, r2, r3, r4, r5, r6, r7, r8, r9, r10, r11, r12, r13, r14, r15⟩ := cells16 k1; obtain ⟨rf0, rf1, rf2, rf3, rf4, rf5, rf6, rf7, rf8, rf9, rf10, rf11, rf12, rf13, rf14, rf15⟩ := froz16 k1; obtain ⟨q0, q1, q2, q3⟩ := cells4 k3; clear k0 k1 k3 hB; have hcv : (convert 22 9 (.slice B2 k k)).run Try.prog w2 = .ok (.string (strOfNums (cut body x (x + k)))) w2 := Kd.C_string Try.underlying22 Try.underlying5 Try.underlying9 (HPC.out w2 HB2.out).2.1) | (go_at_call 33; refine (HY.out _).mono ?_; rintro e w' ⟨rfl, ⟨m, rfl⟩⟩))
  have ne0 : w2.heap.size ≠ w.heap.size := World.new_ne w2 ⟨w.heap.size, 2, none⟩ p2
  have ne1 : w2.heap.size ≠ w1.heap.size := World.new_ne w2 ⟨w1.heap.size, 0, none⟩ q0
  go_region_held3 (fun w' => w'.cell? ⟨w.heap.size, 2, none⟩ = some (.int .i64 (x : Int)) ∧ w'.cell? ⟨w.heap.size, 5, none⟩ = some (.slice A n c) ∧ w'.cell? ⟨w1.heap.size, 0, none⟩ = some (.int .i64 op)) (go_keep)
    ((first | (go_at_call 34; (with_reducible refine (HM'.out _ ?_).mono ?_); (repeat (with_reducible first | exact HB2.out | apply below_alloc | apply below_drew | apply pw_below_drewN | refine below_set ?_ (by omega))); rintro e w3 ⟨rfl, hB⟩; have k0 := blk_any hB (by first | exact HK0.out | exact blk_drewN HK0.out _); have k1 := blk_any hB (by first | exact HK1.out | exact blk_drewN HK1.out _); have k3 := blk_any hB (by first | exact HK3.out | exact blk_drewN HK3.out _); have HB3 := Aside0.mk (below_step (show Below w.heap.size w _ from by repeat (with_reducible first | exact HB2.out | apply below_alloc | apply below_drew | apply pw_below_drewN | refine below_set ?_ (by omega))) hB); clear p0 p1 p2 p3 p4 p5 q0 q1 q2 q3 r0 r1 r2 r3 r4 r5 r6 r7 r8 r9 r10 r11 r12 r13 r14 r15 rf0 rf1 rf2 rf3 rf4 rf5 rf6 rf7 rf8 rf9 rf10 rf11 rf12 rf13 rf14 rf15; have HK0 := Aside0.mk k0; have HK1 := Aside0.mk k1; have HK3 := Aside0.mk k3; obtain ⟨p0, p1, p2, p3, p4, p5⟩ := cells6 k0; obtain ⟨q0, q1, q2, q3⟩ := cells4 k3; clear k0 k1 k3 hB) | (go_at_call 34; (with_reducible refine (HM'.out _ ?_).mono ?_); (repeat (with_reducible first | exact HB2.out | apply below_alloc | apply below_drew | apply pw_below_drewN | refine below_set ?_ (by omega))); rintro e w3 ⟨rfl, hB⟩; have k0 := blk_any hB (by first | exact blk_drewN (blk_alloc HK0.out _) _ | exact blk_alloc HK0.out _ | exact blk_alloc (blk_drewN HK0.out _) _); have k1 := blk_any hB (by first | exact blk_drewN (blk_alloc HK1.out _) _ | exact blk_alloc HK1.out _ | exact blk_alloc (blk_drewN HK1.out _) _); have k3 := blk_any hB (by first | exact blk_drewN (blk_alloc HK3.out _) _ | exact blk_alloc HK3.out _ | exact blk_alloc (blk_drewN HK3.out _) _); have HB3 := Aside0.mk (below_step (show Below w.heap.size w _ from by repeat (with_reducible first | exact HB2.out | apply below_alloc | apply below_drew | apply pw_below_drewN | refine below_set ?_ (by omega))) hB); clear p0 p1 p2 p3 p4 p5 q0 q1 q2 q3 r0 r1 r2 r3 r4 r5 r6 r7 r8 r9 r10 r11 r12 r13 r14 r15 rf0 rf1 rf2 rf3 rf4 rf5 rf6 rf7 rf8 rf9 rf10 rf11 rf12 rf13 rf14 rf15; have HK0 := Aside0.mk k0; have HK1 := Aside0.mk k1; have HK3 := Aside0.mk k3; obtain ⟨p0, p1, p2, p3, p4, p5⟩ := cells6 k0; obtain ⟨q0, q1, q2, q3⟩ := cells4 k3; have k5 := blk_any hB (by first | exact blk_drewN (blk_new w2 (.cells #[.int .i64 0, .string ⟨#[]⟩, .slice none 0 0, .int .u32 0, .int .i64 0, .int .u64 0, .int .u64 0, .int .u64 0, .bool false, .bool false] 39)) _ | exact blk_new w2 (.cells #[.int .i64 0, .string ⟨#[]⟩, .slice none 0 0, .int .u32 0, .int .i64 0, .int .u64 0, .int .u64 0, .int .u64 0, .bool false, .bool false] 39)); have HK5 := Aside0.mk k5; obtain ⟨z0, z1, z2, z3, z4, z5, z6, z7, z8, z9⟩ := cells10 k5; obtain ⟨zf0, zf1, zf2, zf3, zf4, zf5, zf6, zf7, zf8, zf9⟩ := froz10 k5; clear k5; clear k0 k1 k3 hB)))
  all_goals first
    | (refine gen_world (fun W' => W'.heap[w2.heap.size]? = some (.cells #[Value.int .i64 op, Value.string ⟨#[]⟩, Value.slice none 0 0, Value.int .u32 fl, Value.int .i64 ex, Value.int .u64 0, Value.int .u64 de, Value.int .u64 ini, Value.bool mk, Value.bool false] 39 (0, 0)) ∧ W'.heap[w.heap.size]? = some (.cells #[.int .i64 code, .int .i64 (k : Int), .int .i64 (x : Int), .int .u32 opq, .int .u64 cas, .slice A n c] 53 (0, 0)) ∧ W'.heap[w.heap.size + 1]? = some (.cells #[.slice none 0 0, .int .i64 0, .string ⟨#[]⟩, .int .i64 0, .int .u32 0, .bool false, .bool false, .string ⟨#[]⟩, .slice none 0 0, .slice none 0 0, .bool false, .string ⟨#[]⟩, .int .i64 0, .int .i64 0, .bool false, .int .i64 0] 34 (0, 0)) ∧ W'.heap[w1.heap.size]? = some (.cells #[.int .i64 op, .int .i64 ee, .int .i64 has, .bool false] 66 (0, 0)) ∧ Below w.heap.size w W') ⟨set10_blk HK5.out (Value.int .i64 op) (Value.string ⟨#[]⟩) (Value.slice none 0 0) (Value.int .u32 fl) (Value.int .i64 ex) (Value.int .u64 0) (Value.int .u64 de) (Value.int .u64 ini) (Value.bool mk) (Value.bool false), (set10_far HK0.out (blk_ne HK0.out HK5.out (by decide)) (Value.int .i64 op) (Value.string ⟨#[]⟩) (Value.slice none 0 0) (Value.int .u32 fl) (Value.int .i64 ex) (Value.int .u64 0) (Value.int .u64 de) (Value.int .u64 ini) (Value.bool mk) (Value.bool false)), (set10_far HK1.out (blk_ne HK1.out HK5.out (by decide)) (Value.int .i64 op) (Value.string ⟨#[]⟩) (Value.slice none 0 0) (Value.int .u32 fl) (Value.int .i64 ex) (Value.int .u64 0) (Value.int .u64 de) (Value.int .u64 ini) (Value.bool mk) (Value.bool false)), (set10_far HK3.out (blk_ne HK3.out HK5.out (by decide)) (Value.int .i64 op) (Value.string ⟨#[]⟩) (Value.slice none 0 0) (Value.int .u32 fl) (Value.int .i64 ex) (Value.int .u64 0) (Value.int .u64 de) (Value.int .u64 ini) (Value.bool mk) (Value.bool false)), set10_below HB3.out (by have := HB2.out.size; omega) (Value.int .i64 op) (Value.string ⟨#[]⟩) (Value.slice none 0 0) (Value.int .u32 fl) (Value.int .i64 ex) (Value.int .u64 0) (Value.int .u64 de) (Value.int .u64 ini) (Value.bool mk) (Value.bool false)⟩ ?_; clear z0 z1 z2 z3 z4 z5 z6 z7 z8 z9 zf0 zf1 zf2 zf3 zf4 zf5 zf6 zf7 zf8 zf9; have HGE := Aside0.mk HB2.out.size; generalize w2.heap.size = g at *)
    | (refine gen_world (fun W' => W'.heap[w3.heap.size]? = some (.cells #[Value.int .i64 op, Value.string ⟨#[]⟩, Value.slice none 0 0, Value.int .u32 fl, Value.int .i64 ex, Value.int .u64 0, Value.int .u64 de, Value.int .u64 ini, Value.bool mk, Value.bool false] 39 (0, 0)) ∧ W'.heap[w.heap.size]? = some (.cells #[.int .i64 code, .int .i64 (k : Int), .int .i64 (x : Int), .int .u32 opq, .int .u64 cas, .slice A n c] 53 (0, 0)) ∧ W'.heap[w.heap.size + 1]? = some (.cells #[.slice none 0 0, .int .i64 0, .string ⟨#[]⟩, .int .i64 0, .int .u32 0, .bool false, .bool false, .string ⟨#[]⟩, .slice none 0 0, .slice none 0 0, .bool false, .string ⟨#[]⟩, .int .i64 0, .int .i64 0, .bool false, .int .i64 0] 34 (0, 0)) ∧ W'.heap[w1.heap.size]? = some (.cells #[.int .i64 op, .int .i64 ee, .int .i64 has, .bool false] 66 (0, 0)) ∧ Below w.heap.size w W') ⟨blk_new w3 _, blk_alloc HK0.out _, blk_alloc HK1.out _, blk_alloc HK3.out _, below_alloc HB3.out _⟩ ?_; have HGE := Aside0.mk HB3.out.size; generalize w3.heap.size = g at *)
  all_goals clear ne0 ne1 p0 p1 p2 p3 p4 p5 q0 q1 q2 q3 HK0 HK1 HK3 HB3
  all_goals (
    rintro W5 ⟨k5, k0, k1, k3, hB5⟩
    have HK5 := Aside0.mk k5
    have HK0 := Aside0.mk k0
    have HK1 := Aside0.mk k1
    have HK3 := Aside0.mk k3
    have HB5 := Aside0.mk hB5
    have HG := Aside0.mk (below_size hB5)
    have HGG := Aside0.mk (show w.heap.size ≤ g by first | exact HGE.out)
    obtain ⟨z0, z1, z2, z3, z4, z5, z6, z7, z8, z9⟩ := cells10 k5
    obtain ⟨zf0, zf1, zf2, zf3, zf4, zf5, zf6, zf7, zf8, zf9⟩ := froz10 k5
    obtain ⟨p0, p1, p2, p3, p4, p5⟩ := cells6 k0
    obtain ⟨r0, r1, r2, r3, r4, r5, r6, r7, r8, r9, r10, r11, r12, r13, r14, r15⟩ := cells16 k1
    obtain ⟨rf0, rf1, rf2, rf3, rf4, rf5, rf6, rf7, rf8, rf9, rf10, rf11, rf12, rf13, rf14, rf15⟩ := froz16 k1
    obtain ⟨q0, q1, q2, q3⟩ := cells4 k3
    clear k5 k0 k1 k3 hB5
    go_wp2
    have neg : g ≠ w.heap.size := blk_ne HK5.out HK0.out (by decide)
    go_region_held3 (fun w' => w'.cell? ⟨w.heap.size, 4, none⟩ = some (.int .u64 cas)) (go_keep) (fail)
    clear z0 z1 z2 z3 z4 z5 z6 z7 z8 z9 zf0 zf1 zf2 zf3 zf4 zf5 zf6 zf7 zf8 zf9 p0 p1 p2 p3 p4 p5 q0 q1 q2 q3 r0 r1 r2 r3 r4 r5 r6 r7 r8 r9 r10 r11 r12 r13 r14 r15 rf0 rf1 rf2 rf3 rf4 rf5 rf6 rf7 rf8 rf9 rf10 rf11 rf12 rf13 rf14 rf15
    refine gen_world (fun W' => W'.heap[g]? = some (.cells #[Value.int .i64 op, Value.string (strOfNums (cut body x (x + k))), Value.slice none 0 0, Value.int .u32 fl, Value.int .i64 ex, Value.int .u64 cas, Value.int .u64 de, Value.int .u64 ini, Value.bool mk, Value.bool false] 39 (0, 0)) ∧ W'.heap[w.heap.size]? = some (.cells #[.int .i64 code, .int .i64 (k : Int), .int .i64 (x : Int), .int .u32 opq, .int .u64 cas, .slice A n c] 53 (0, 0)) ∧ W'.heap[w.heap.size + 1]? = some (.cells #[.slice none 0 0, .int .i64 0, .string ⟨#[]⟩, .int .i64 0, .int .u32 0, .bool false, .bool false, .string ⟨#[]⟩, .slice none 0 0, .slice none 0 0, .bool false, .string ⟨#[]⟩, .int .i64 0, .int .i64 0, .bool false, .int .i64 0] 34 (0, 0)) ∧ W'.heap[w1.heap.size]? = some (.cells #[.int .i64 op, .int .i64 ee, .int .i64 has, .bool false] 66 (0, 0)) ∧ Below w.heap.size w W') ⟨blk_drew (blk_put (cs' := #[Value.int .i64 op, Value.string (strOfNums (cut body x (x + k))), Value.slice none 0 0, Value.int .u32 fl, Value.int .i64 ex, Value.int .u64 cas, Value.int .u64 de, Value.int .u64 ini, Value.bool mk, Value.bool false]) (blk_put (cs' := #[Value.int .i64 op, Value.string (strOfNums (cut body x (x + k))), Value.slice none 0 0, Value.int .u32 fl, Value.int .i64 ex, Value.int .u64 0, Value.int .u64 de, Value.int .u64 ini, Value.bool mk, Value.bool false]) HK5.out 1 _ rfl) 5 _ rfl), (blk_drew (blk_far (blk_far HK0.out (p := ⟨g, 1, none⟩) (blk_ne HK0.out HK5.out (by decide)) _) (p := ⟨g, 5, none⟩) (blk_ne HK0.out HK5.out (by decide)) _)), (blk_drew (blk_far (blk_far HK1.out (p := ⟨g, 1, none⟩) (blk_ne HK1.out HK5.out (by decide)) _) (p := ⟨g, 5, none⟩) (blk_ne HK1.out HK5.out (by decide)) _)), (blk_drew (blk_far (blk_far HK3.out (p := ⟨g, 1, none⟩) (blk_ne HK3.out HK5.out (by decide)) _) (p := ⟨g, 5, none⟩) (blk_ne HK3.out HK5.out (by decide)) _)), below_drew (below_set (below_set HB5.out HGG.out) HGG.out)⟩ ?_
    clear HK5 HK0 HK1 HK3 HB5
    rintro W6 ⟨k5, k0, k1, k3, hB6⟩
    have HK5 := Aside0.mk k5
    have HK0 := Aside0.mk k0
    have HK1 := Aside0.mk k1
    have HB6 := Aside0.mk hB6
    obtain ⟨z0, z1, z2, z3, z4, z5, z6, z7, z8, z9⟩ := cells10_2 k5
    obtain ⟨p0, p1, p2, p3, p4, p5⟩ := cells6 k0
    have pp5 : ∀ o o' o'' : Obj, (((W6.alloc o).alloc o').alloc o'').cell? ⟨w.heap.size, 5, none⟩ = some (.slice A n c) := fun o o' o'' => blk_cell (blk_alloc (blk_alloc (blk_alloc k0 o) o') o'') 5
    obtain ⟨r0, r1, r2, r3, r4, r5, r6, r7, r8, r9, r10, r11, r12, r13, r14, r15⟩ := cells16_3 k1
    obtain ⟨rf0, rf1, rf2, rf3, rf4, rf5, rf6, rf7, rf8, rf9, rf10, rf11, rf12, rf13, rf14, rf15⟩ := froz16_3 k1
    obtain ⟨q0, q1, q2, q3⟩ := cells4 k3
    clear k5 k0 k1 k3 hB6
    go_wp2
    clear q0 q1 q2 q3
    clear z0 z1 z2 z3 z4 z5 z6 z7 z8 z9 p0 p1 p2 p3 p4 p5 r0 r1 r2 r3 r4 r5 r6 r7 r8 r9 r10 r11 r12 r13 r14 r15 rf0 rf1 rf2 rf3 rf4 rf5 rf6 rf7 rf8 rf9 rf10 rf11 rf12 rf13 rf14 rf15 pp5
    have hlt := blk_lt HK1.out
    refine gen_world (fun W' => W'.heap[W6.heap.size + 1 + 1]? = some (.cells #[Value.int .i64 op, Value.string (strOfNums (cut body x (x + k))), Value.slice none 0 0, Value.int .u32 fl, Value.int .i64 ex, Value.int .u64 cas, Value.int .u64 de, Value.int .u64 ini, Value.bool mk, Value.bool false] 39 (0, 0)) ∧ W'.heap[W6.heap.size + 1]? = some (.cells #[.string (strOfNums (cut body x (x + k)))] 9 (0, 0)) ∧ W'.heap[w.heap.size + 1]? = some (.cells #[Value.slice (some ⟨W6.heap.size + 1 + 1, 0, none⟩) 1 1, Value.int .i64 2, Value.string ⟨#[]⟩, Value.int .i64 code, Value.int .u32 opq, Value.bool q, Value.bool false, Value.string ⟨#[]⟩, Value.slice none 0 0, Value.slice (some ⟨W6.heap.size + 1, 0, none⟩) 1 1, Value.bool false, Value.string ⟨#[]⟩, Value.int .i64 (24 + (n : Int)), Value.int .i64 0, Value.bool false, Value.int .i64 0] 34 (0, 0)) ∧ Below w.heap.size w W')
      ⟨set16_far (new3 W6 _ _ _) (by omega) (Value.slice (some ⟨W6.heap.size + 1 + 1, 0, none⟩) 1 1) (Value.int .i64 2) (Value.string ⟨#[]⟩) (Value.int .i64 code) (Value.int .u32 opq) (Value.bool q) (Value.bool false) (Value.string ⟨#[]⟩) (Value.slice none 0 0) (Value.slice (some ⟨W6.heap.size + 1, 0, none⟩) 1 1) (Value.bool false) (Value.string ⟨#[]⟩) (Value.int .i64 (24 + (n : Int))) (Value.int .i64 0) (Value.bool false) (Value.int .i64 0), set16_far (blk_alloc (new2 W6 _ _) _) (by omega) (Value.slice (some ⟨W6.heap.size + 1 + 1, 0, none⟩) 1 1) (Value.int .i64 2) (Value.string ⟨#[]⟩) (Value.int .i64 code) (Value.int .u32 opq) (Value.bool q) (Value.bool false) (Value.string ⟨#[]⟩) (Value.slice none 0 0) (Value.slice (some ⟨W6.heap.size + 1, 0, none⟩) 1 1) (Value.bool false) (Value.string ⟨#[]⟩) (Value.int .i64 (24 + (n : Int))) (Value.int .i64 0) (Value.bool false) (Value.int .i64 0), set16_blk (blk_alloc (blk_alloc (blk_alloc HK1.out _) _) _) (Value.slice (some ⟨W6.heap.size + 1 + 1, 0, none⟩) 1 1) (Value.int .i64 2) (Value.string ⟨#[]⟩) (Value.int .i64 code) (Value.int .u32 opq) (Value.bool q) (Value.bool false) (Value.string ⟨#[]⟩) (Value.slice none 0 0) (Value.slice (some ⟨W6.heap.size + 1, 0, none⟩) 1 1) (Value.bool false) (Value.string ⟨#[]⟩) (Value.int .i64 (24 + (n : Int))) (Value.int .i64 0) (Value.bool false) (Value.int .i64 0), set16_below (below_alloc (below_alloc (below_alloc HB6.out _) _) _) (by omega) (Value.slice (some ⟨W6.heap.size + 1 + 1, 0, none⟩) 1 1) (Value.int .i64 2) (Value.string ⟨#[]⟩) (Value.int .i64 code) (Value.int .u32 opq) (Value.bool q) (Value.bool false) (Value.string ⟨#[]⟩) (Value.slice none 0 0) (Value.slice (some ⟨W6.heap.size + 1, 0, none⟩) 1 1) (Value.bool false) (Value.string ⟨#[]⟩) (Value.int .i64 (24 + (n : Int))) (Value.int .i64 0) (Value.bool false) (Value.int .i64 0)⟩ ?_
    rintro W9 ⟨kc, kk, kr, hB9⟩
    refine bodyPost_ret (v := stepV (.slice (some ⟨W6.heap.size + 1 + 1, 0, none⟩) 1 1) 2 code opq q (.slice (some ⟨W6.heap.size + 1, 0, none⟩) 1 1) ⟨#[]⟩ (24 + (n : Int)) 0) (results_cell_row rfl _ _ (w.heap.size + 1) 34 _ (0, 0) _ rfl kr Try.underlying34 rfl (by kernel_rfl)) rfl ?_
    exact ⟨_, rfl, ⟨_, _, rfl, ⟨_, none, 0, rfl, kc, Kd.C_nil _ _, Nat.le_refl _⟩, ⟨_, rfl, kk⟩⟩, hB9⟩)
set_option maxHeartbeats 8000000 in
set_option maxRecDepth 100000 in
theorem req_none (code opq cas : Int) (x k : Nat) (A : Option Addr) (n c : Nat) (cl op ee has : Int) (q : Bool) (w : World) (body : List Int) (hlen : body.length = n) (hC : Kd.C (Kd.int .u8) w A n body) (hc : n ≤ c) (hxk : x + k ≤ n) (hx : x ≤ 255) (hn : n ≤ 1000000) (hl : n ≤ x + k + 1000) (fl ex de ini : Int) (mk : Bool) (hk : k = 0) (hb1 : (Go.bits .and .i64 has 1 != 0) = false) (hb2 : (Go.bits .and .i64 has 2 != 0) = false)
    (HL : Aside0 (∀ W, Calls Try.prog 29 #[.int .i64 code] W fun e w' => e = .returned (.tuple #[.int .i64 cl, .bool q]) ∧ Drawn0 W w'))
    (HP : Aside0 (∀ W, Calls Try.prog 30 #[.int .i64 cl] W fun e w' => e = .returned (.tuple #[.agg #[.int .i64 op, .int .i64 ee, .int .i64 has, .bool false], .bool true]) ∧ Below W.heap.size W w'))
    (HT : Aside0 (∀ W, Below w.heap.size w W → Calls Try.prog 32 #[.agg #[.int .i64 code, .int .i64 (k : Int), .int .i64 (x : Int), .int .u32 opq, .int .u64 cas, .slice A n c], .agg #[.int .i64 op, .int .i64 ee, .int .i64 has, .bool false]] W fun e w' => e = .returned (.bool true) ∧ Below W.heap.size W w'))
    (HM : Aside0 (∀ W, Below w.heap.size w W → Calls Try.prog 34 #[.int .i64 op, .slice A x x] W fun e w' => e = .returned (cmdV op ⟨#[]⟩ (.slice none 0 0) fl ex 0 de ini mk) ∧ Below W.heap.size W w')) :
    Calls Try.prog 19 #[pktV code (k : Int) (x : Int) opq cas A n c] w fun e w' => ∃ v, e = .returned v ∧ StepAt w' v ⟨some ⟨op, (strOfNums (cut body x (x + k))), [], fl, ex, cas, de, ini, mk⟩, 2, code, opq, q, none, ⟨#[]⟩, 24 + (n : Int), 0⟩ ∧ Below w.heap.size w w' := by
  have hu53 := Try.underlying53
  have hu66 := Try.underlying66
  have hu34 := Try.underlying34
  have hu39 := Try.underlying39
  have hu29 := Try.underlying29
  have hu31 := Try.underlying31
  have hu22 := Try.underlying22
  have hu25 := Try.underlying25
  have hu27 := Try.underlying27
  have HM' := HM
  unfold cmdV at HM'
  obtain ⟨B2, B3, n3, c3, hn3, hc3, hp1, hp2, hp3, hpC⟩ := parts3 A c body x k (by omega) (by omega)
  rw [hlen] at hp1 hp2 hp3 hpC hn3
  have HPC := Aside0.mk (fun W (hB : Below w.heap.size w W) => hpC W (Kd.C_below hC hB))
  have HN3 := Aside0.mk (And.intro hn3 hc3)
  have hws : wrap64 ((x : Int) + (k : Int)) = (x : Int) + (k : Int) := by unfold wrap64; omega
  have hi1 : (0 : Int) ≤ (x : Int) := by omega
  have hi2 : (x : Int) ≤ (x : Int) + (k : Int) := by omega
  have hi3 : (x : Int) + (k : Int) ≤ (n : Int) := by omega
  have hgt : decide (1000 < n3) = false := decide_eq_false (by omega)
  have hgt2 : decide ((1000 : Int) < (n3 : Int)) = false := decide_eq_false (by omega)
  have hgt3 : decide ((n3 : Int) > 1000) = false := decide_eq_false (by omega)
  have ky := key_eq (cut body x (x + k)) (by rw [cut_len _ _ _ (by omega)]; omega)
  have ky2 : (!(strOfNums (cut body x (x + k))).toList.isEmpty) = false := by rw [ky]; rfl
  clear hk
  clear hpC hC hn3 hc3
  unfold pktV
  go_enter Try.func19, Try.ntmps19
  go_wp2_with (first | (go_at_call 29; refine (HL.out _).mono ?_; rintro e w' ⟨rfl, ⟨m, rfl⟩⟩) | (go_at_call 30; refine (HP.out _).mono ?_; rintro e w1 ⟨rfl, hB⟩; have k0 := blk_any hB (by first | exact blk_alloc (blk_new w _) _ | exact blk_drewN (blk_alloc (blk_new w _) _) _); have k1 := blk_any hB (by have h := blk_new (w.alloc (.cells #[.int .i64 code, .int .i64 (k : Int), .int .i64 (x : Int), .int .u32 opq, .int .u64 cas, .slice A n c] 53)) (.cells #[.slice none 0 0, .int .i64 0, .string ⟨#[]⟩, .int .i64 0, .int .u32 0, .bool false, .bool false, .string ⟨#[]⟩, .slice none 0 0, .slice none 0 0, .bool false, .string ⟨#[]⟩, .int .i64 0, .int .i64 0, .bool false, .int .i64 0] 34); rw [World.size_alloc] at h; first | exact h | exact blk_drewN h _); have HK0 := Aside0.mk k0; have HK1 := Aside0.mk k1; have HB := Aside0.mk (below_step (show Below w.heap.size w _ from by repeat (with_reducible first | exact Below.refl _ _ | apply below_alloc | apply below_drew | apply pw_below_drewN | refine below_set ?_ (by omega))) hB); obtain ⟨p0, p1, p2, p3, p4, p5⟩ := cells6 (blk_alloc k0 (.cells #[.int .i64 op, .int .i64 ee, .int .i64 has, .bool false] 66)); obtain ⟨pf0, pf1, pf2, pf3, pf4, pf5⟩ := froz6 (blk_alloc k0 (.cells #[.int .i64 op, .int .i64 ee, .int .i64 has, .bool false] 66)); obtain ⟨r0, r1, r2, r3, r4, r5, r6, r7, r8, r9, r10, r11, r12, r13, r14, r15⟩ := cells16 (blk_alloc k1 (.cells #[.int .i64 op, .int .i64 ee, .int .i64 has, .bool false] 66)); obtain ⟨rf0, rf1, rf2, rf3, rf4, rf5, rf6, rf7, rf8, rf9, rf10, rf11, rf12, rf13, rf14, rf15⟩ := froz16 (blk_alloc k1 (.cells #[.int .i64 op, .int .i64 ee, .int .i64 has, .bool false] 66)); clear k0 k1 hB) | (go_at_call 32; refine (HT.out _ (by repeat (with_reducible first | exact HB.out | apply below_alloc | apply below_drew | apply pw_below_drewN | refine below_set ?_ (by omega)))).mono ?_; rintro e w2 ⟨rfl, hB⟩; have k0 := blk_any hB (blk_alloc HK0.out _); have k1 := blk_any hB (blk_alloc HK1.out _); have k3 := blk_any hB (blk_new w1 _); have HK0 := Aside0.mk k0; have HK1 := Aside0.mk k1; have HK3 := Aside0.mk k3; have HB2 := Aside0.mk (below_step (show Below w.heap.size w _ from by repeat (with_reducible first | exact HB.out | apply below_alloc | apply below_drew | apply pw_below_drewN | refine below_set ?_ (by omega))) hB); clear p0 p1 p2 p3 p4 p5 pf0 pf1 pf2 pf3 pf4 pf5 r0 r1 r2 r3 r4 r5 r6 r7 r8 r9 r10 r11 r12 r13 r14 r15 rf0 rf1 rf2 rf3 rf4 rf5 rf6 rf7 rf8 rf9 rf10 rf11 rf12 rf13 rf14 rf15; obtain ⟨p0, p1, p2, p3, p4, p5⟩ := cells6 k0; obtain ⟨r0, r1, r2, r3, r4, r5, r6, r7, r8, r9, r10, r11, r12, r13, r14, r15⟩ := cells16 k1; obtain ⟨rf0, rf1, rf2, rf3, rf4, rf5, rf6, rf7, rf8, rf9, rf10, rf11, rf12, rf13, rf14, rf15⟩ := froz16 k1; obtain ⟨q0, q1, q2, q3⟩ := cells4 k3; clear k0 k1 k3 hB; have hcv : (convert 22 9 (.slice B2 k k)).run Try.prog w2 = .ok (.string (strOfNums (cut body x (x + k)))) w2 := Kd.C_string Try.underlying22 Try.underlying5 Try.underlying9 (HPC.out w2 HB2.out).2.1))
  have ne0 : w2.heap.size ≠ w.heap.size := World.new_ne w2 ⟨w.heap.size, 2, none⟩ p2
  have ne1 : w2.heap.size ≠ w1.heap.size := World.new_ne w2 ⟨w1.heap.size, 0, none⟩ q0
  go_region_held3 (fun w' => w'.cell? ⟨w.heap.size, 2, none⟩ = some (.int .i64 (x : Int)) ∧ w'.cell? ⟨w.heap.size, 5, none⟩ = some (.slice A n c) ∧ w'.cell? ⟨w1.heap.size, 0, none⟩ = some (.int .i64 op)) (go_keep)
    ((first | (go_at_call 34; (with_reducible refine (HM'.out _ ?_).mono ?_); (repeat (with_reducible first | exact HB2.out | apply below_alloc | apply below_drew | apply pw_below_drewN | refine below_set ?_ (by omega))); rintro e w3 ⟨rfl, hB⟩; have k0 := blk_any hB (by first | exact HK0.out | exact blk_drewN HK0.out _); have k1 := blk_any hB (by first | exact HK1.out | exact blk_drewN HK1.out _); have k3 := blk_any hB (by first | exact HK3.out | exact blk_drewN HK3.out _); have HB3 := Aside0.mk (below_step (show Below w.heap.size w _ from by repeat (with_reducible first | exact HB2.out | apply below_alloc | apply below_drew | apply pw_below_drewN | refine below_set ?_ (by omega))) hB); clear p0 p1 p2 p3 p4 p5 q0 q1 q2 q3 r0 r1 r2 r3 r4 r5 r6 r7 r8 r9 r10 r11 r12 r13 r14 r15 rf0 rf1 rf2 rf3 rf4 rf5 rf6 rf7 rf8 rf9 rf10 rf11 rf12 rf13 rf14 rf15; have HK0 := Aside0.mk k0; have HK1 := Aside0.mk k1; have HK3 := Aside0.mk k3; obtain ⟨p0, p1, p2, p3, p4, p5⟩ := cells6 k0; obtain ⟨q0, q1, q2, q3⟩ := cells4 k3; clear k0 k1 k3 hB) | (go_at_call 34; (with_reducible refine (HM'.out _ ?_).mono ?_); (repeat (with_reducible first | exact HB2.out | apply below_alloc | apply below_drew | apply pw_below_drewN | refine below_set ?_ (by omega))); rintro e w3 ⟨rfl, hB⟩; have k0 := blk_any hB (by first | exact blk_drewN (blk_alloc HK0.out _) _ | exact blk_alloc HK0.out _ | exact blk_alloc (blk_drewN HK0.out _) _); have k1 := blk_any hB (by first | exact blk_drewN (blk_alloc HK1.out _) _ | exact blk_alloc HK1.out _ | exact blk_alloc (blk_drewN HK1.out _) _); have k3 := blk_any hB (by first | exact blk_drewN (blk_alloc HK3.out _) _ | exact blk_alloc HK3.out _ | exact blk_alloc (blk_drewN HK3.out _) _); have HB3 := Aside0.mk (below_step (show Below w.heap.size w _ from by repeat (with_reducible first | exact HB2.out | apply below_alloc | apply below_drew | apply pw_below_drewN | refine below_set ?_ (by omega))) hB); clear p0 p1 p2 p3 p4 p5 q0 q1 q2 q3 r0 r1 r2 r3 r4 r5 r6 r7 r8 r9 r10 r11 r12 r13 r14 r15 rf0 rf1 rf2 rf3 rf4 rf5 rf6 rf7 rf8 rf9 rf10 rf11 rf12 rf13 rf14 rf15; have HK0 := Aside0.mk k0; have HK1 := Aside0.mk k1; have HK3 := Aside0.mk k3; obtain ⟨p0, p1, p2, p3, p4, p5⟩ := cells6 k0; obtain ⟨q0, q1, q2, q3⟩ := cells4 k3; have k5 := blk_any hB (by first | exact blk_drewN (blk_new w2 (.cells #[.int .i64 0, .string ⟨#[]⟩, .slice none 0 0, .int .u32 0, .int .i64 0, .int .u64 0, .int .u64 0, .int .u64 0, .bool false, .bool false] 39)) _ | exact blk_new w2 (.cells #[.int .i64 0, .string ⟨#[]⟩, .slice none 0 0, .int .u32 0, .int .i64 0, .int .u64 0, .int .u64 0, .int .u64 0, .bool false, .bool false] 39)); have HK5 := Aside0.mk k5; obtain ⟨z0, z1, z2, z3, z4, z5, z6, z7, z8, z9⟩ := cells10 k5; obtain ⟨zf0, zf1, zf2, zf3, zf4, zf5, zf6, zf7, zf8, zf9⟩ := froz10 k5; clear k5; clear k0 k1 k3 hB)))
  all_goals first
    | (refine gen_world (fun W' => W'.heap[w2.heap.size]? = some (.cells #[Value.int .i64 op, Value.string ⟨#[]⟩, Value.slice none 0 0, Value.int .u32 fl, Value.int .i64 ex, Value.int .u64 0, Value.int .u64 de, Value.int .u64 ini, Value.bool mk, Value.bool false] 39 (0, 0)) ∧ W'.heap[w.heap.size]? = some (.cells #[.int .i64 code, .int .i64 (k : Int), .int .i64 (x : Int), .int .u32 opq, .int .u64 cas, .slice A n c] 53 (0, 0)) ∧ W'.heap[w.heap.size + 1]? = some (.cells #[.slice none 0 0, .int .i64 0, .string ⟨#[]⟩, .int .i64 0, .int .u32 0, .bool false, .bool false, .string ⟨#[]⟩, .slice none 0 0, .slice none 0 0, .bool false, .string ⟨#[]⟩, .int .i64 0, .int .i64 0, .bool false, .int .i64 0] 34 (0, 0)) ∧ W'.heap[w1.heap.size]? = some (.cells #[.int .i64 op, .int .i64 ee, .int .i64 has, .bool false] 66 (0, 0)) ∧ Below w.heap.size w W') ⟨set10_blk HK5.out (Value.int .i64 op) (Value.string ⟨#[]⟩) (Value.slice none 0 0) (Value.int .u32 fl) (Value.int .i64 ex) (Value.int .u64 0) (Value.int .u64 de) (Value.int .u64 ini) (Value.bool mk) (Value.bool false), (set10_far HK0.out (blk_ne HK0.out HK5.out (by decide)) (Value.int .i64 op) (Value.string ⟨#[]⟩) (Value.slice none 0 0) (Value.int .u32 fl) (Value.int .i64 ex) (Value.int .u64 0) (Value.int .u64 de) (Value.int .u64 ini) (Value.bool mk) (Value.bool false)), (set10_far HK1.out (blk_ne HK1.out HK5.out (by decide)) (Value.int .i64 op) (Value.string ⟨#[]⟩) (Value.slice none 0 0) (Value.int .u32 fl) (Value.int .i64 ex) (Value.int .u64 0) (Value.int .u64 de) (Value.int .u64 ini) (Value.bool mk) (Value.bool false)), (set10_far HK3.out (blk_ne HK3.out HK5.out (by decide)) (Value.int .i64 op) (Value.string ⟨#[]⟩) (Value.slice none 0 0) (Value.int .u32 fl) (Value.int .i64 ex) (Value.int .u64 0) (Value.int .u64 de) (Value.int .u64 ini) (Value.bool mk) (Value.bool false)), set10_below HB3.out (by have := HB2.out.size; omega) (Value.int .i64 op) (Value.string ⟨#[]⟩) (Value.slice none 0 0) (Value.int .u32 fl) (Value.int .i64 ex) (Value.int .u64 0) (Value.int .u64 de) (Value.int .u64 ini) (Value.bool mk) (Value.bool false)⟩ ?_; clear z0 z1 z2 z3 z4 z5 z6 z7 z8 z9 zf0 zf1 zf2 zf3 zf4 zf5 zf6 zf7 zf8 zf9; have HGE := Aside0.mk HB2.out.size; generalize w2.heap.size = g at *)
    | (refine gen_world (fun W' => W'.heap[w3.heap.size]? = some (.cells #[Value.int .i64 op, Value.string ⟨#[]⟩, Value.slice none 0 0, Value.int .u32 fl, Value.int .i64 ex, Value.int .u64 0, Value.int .u64 de, Value.int .u64 ini, Value.bool mk, Value.bool false] 39 (0, 0)) ∧ W'.heap[w.heap.size]? = some (.cells #[.int .i64 code, .int .i64 (k : Int), .int .i64 (x : Int), .int .u32 opq, .int .u64 cas, .slice A n c] 53 (0, 0)) ∧ W'.heap[w.heap.size + 1]? = some (.cells #[.slice none 0 0, .int .i64 0, .string ⟨#[]⟩, .int .i64 0, .int .u32 0, .bool false, .bool false, .string ⟨#[]⟩, .slice none 0 0, .slice none 0 0, .bool false, .string ⟨#[]⟩, .int .i64 0, .int .i64 0, .bool false, .int .i64 0] 34 (0, 0)) ∧ W'.heap[w1.heap.size]? = some (.cells #[.int .i64 op, .int .i64 ee, .int .i64 has, .bool false] 66 (0, 0)) ∧ Below w.heap.size w W') ⟨blk_new w3 _, blk_alloc HK0.out _, blk_alloc HK1.out _, blk_alloc HK3.out _, below_alloc HB3.out _⟩ ?_; have HGE := Aside0.mk HB3.out.size; generalize w3.heap.size = g at *)
  all_goals clear ne0 ne1 p0 p1 p2 p3 p4 p5 q0 q1 q2 q3 HK0 HK1 HK3 HB3
  all_goals (
    rintro W5 ⟨k5, k0, k1, k3, hB5⟩
    have HK5 := Aside0.mk k5
    have HK0 := Aside0.mk k0
    have HK1 := Aside0.mk k1
    have HK3 := Aside0.mk k3
    have HB5 := Aside0.mk hB5
    have HG := Aside0.mk (below_size hB5)
    have HGG := Aside0.mk (show w.heap.size ≤ g by first | exact HGE.out)
    obtain ⟨z0, z1, z2, z3, z4, z5, z6, z7, z8, z9⟩ := cells10 k5
    obtain ⟨zf0, zf1, zf2, zf3, zf4, zf5, zf6, zf7, zf8, zf9⟩ := froz10 k5
    obtain ⟨p0, p1, p2, p3, p4, p5⟩ := cells6 k0
    obtain ⟨r0, r1, r2, r3, r4, r5, r6, r7, r8, r9, r10, r11, r12, r13, r14, r15⟩ := cells16 k1
    obtain ⟨rf0, rf1, rf2, rf3, rf4, rf5, rf6, rf7, rf8, rf9, rf10, rf11, rf12, rf13, rf14, rf15⟩ := froz16 k1
    obtain ⟨q0, q1, q2, q3⟩ := cells4 k3
    clear k5 k0 k1 k3 hB5
    go_wp2
    have neg : g ≠ w.heap.size := blk_ne HK5.out HK0.out (by decide)
    go_region_held3 (fun w' => w'.cell? ⟨w.heap.size, 4, none⟩ = some (.int .u64 cas)) (go_keep) (fail)
    clear z0 z1 z2 z3 z4 z5 z6 z7 z8 z9 zf0 zf1 zf2 zf3 zf4 zf5 zf6 zf7 zf8 zf9 p0 p1 p2 p3 p4 p5 q0 q1 q2 q3 r0 r1 r2 r3 r4 r5 r6 r7 r8 r9 r10 r11 r12 r13 r14 r15 rf0 rf1 rf2 rf3 rf4 rf5 rf6 rf7 rf8 rf9 rf10 rf11 rf12 rf13 rf14 rf15
    refine gen_world (fun W' => W'.heap[g]? = some (.cells #[Value.int .i64 op, Value.string (strOfNums (cut body x (x + k))), Value.slice none 0 0, Value.int .u32 fl, Value.int .i64 ex, Value.int .u64 cas, Value.int .u64 de, Value.int .u64 ini, Value.bool mk, Value.bool false] 39 (0, 0)) ∧ W'.heap[w.heap.size]? = some (.cells #[.int .i64 code, .int .i64 (k : Int), .int .i64 (x : Int), .int .u32 opq, .int .u64 cas, .slice A n c] 53 (0, 0)) ∧ W'.heap[w.heap.size + 1]? = some (.cells #[.slice none 0 0, .int .i64 0, .string ⟨#[]⟩, .int .i64 0, .int .u32 0, .bool false, .bool false, .string ⟨#[]⟩, .slice none 0 0, .slice none 0 0, .bool false, .string ⟨#[]⟩, .int .i64 0, .int .i64 0, .bool false, .int .i64 0] 34 (0, 0)) ∧ W'.heap[w1.heap.size]? = some (.cells #[.int .i64 op, .int .i64 ee, .int .i64 has, .bool false] 66 (0, 0)) ∧ Below w.heap.size w W') ⟨blk_drew (blk_put (cs' := #[Value.int .i64 op, Value.string (strOfNums (cut body x (x + k))), Value.slice none 0 0, Value.int .u32 fl, Value.int .i64 ex, Value.int .u64 cas, Value.int .u64 de, Value.int .u64 ini, Value.bool mk, Value.bool false]) (blk_put (cs' := #[Value.int .i64 op, Value.string (strOfNums (cut body x (x + k))), Value.slice none 0 0, Value.int .u32 fl, Value.int .i64 ex, Value.int .u64 0, Value.int .u64 de, Value.int .u64 ini, Value.bool mk, Value.bool false]) HK5.out 1 _ rfl) 5 _ rfl), (blk_drew (blk_far (blk_far HK0.out (p := ⟨g, 1, none⟩) (blk_ne HK0.out HK5.out (by decide)) _) (p := ⟨g, 5, none⟩) (blk_ne HK0.out HK5.out (by decide)) _)), (blk_drew (blk_far (blk_far HK1.out (p := ⟨g, 1, none⟩) (blk_ne HK1.out HK5.out (by decide)) _) (p := ⟨g, 5, none⟩) (blk_ne HK1.out HK5.out (by decide)) _)), (blk_drew (blk_far (blk_far HK3.out (p := ⟨g, 1, none⟩) (blk_ne HK3.out HK5.out (by decide)) _) (p := ⟨g, 5, none⟩) (blk_ne HK3.out HK5.out (by decide)) _)), below_drew (below_set (below_set HB5.out HGG.out) HGG.out)⟩ ?_
    clear HK5 HK0 HK1 HK3 HB5
    rintro W6 ⟨k5, k0, k1, k3, hB6⟩
    have HK5 := Aside0.mk k5
    have HK0 := Aside0.mk k0
    have HK1 := Aside0.mk k1
    have HB6 := Aside0.mk hB6
    obtain ⟨z0, z1, z2, z3, z4, z5, z6, z7, z8, z9⟩ := cells10_1 k5
    obtain ⟨p0, p1, p2, p3, p4, p5⟩ := cells6 k0
    have pp5 : ∀ o o' : Obj, ((W6.alloc o).alloc o').cell? ⟨w.heap.size, 5, none⟩ = some (.slice A n c) := fun o o' => blk_cell (blk_alloc (blk_alloc k0 o) o') 5
    obtain ⟨r0, r1, r2, r3, r4, r5, r6, r7, r8, r9, r10, r11, r12, r13, r14, r15⟩ := cells16_2 k1
    obtain ⟨rf0, rf1, rf2, rf3, rf4, rf5, rf6, rf7, rf8, rf9, rf10, rf11, rf12, rf13, rf14, rf15⟩ := froz16_2 k1
    obtain ⟨q0, q1, q2, q3⟩ := cells4 k3
    clear k5 k0 k1 k3 hB6
    go_wp2
    clear q0 q1 q2 q3
    clear z0 z1 z2 z3 z4 z5 z6 z7 z8 z9 p0 p1 p2 p3 p4 p5 r0 r1 r2 r3 r4 r5 r6 r7 r8 r9 r10 r11 r12 r13 r14 r15 rf0 rf1 rf2 rf3 rf4 rf5 rf6 rf7 rf8 rf9 rf10 rf11 rf12 rf13 rf14 rf15 pp5
    have hlt := blk_lt HK1.out
    refine gen_world (fun W' => W'.heap[W6.heap.size + 1]? = some (.cells #[Value.int .i64 op, Value.string (strOfNums (cut body x (x + k))), Value.slice none 0 0, Value.int .u32 fl, Value.int .i64 ex, Value.int .u64 cas, Value.int .u64 de, Value.int .u64 ini, Value.bool mk, Value.bool false] 39 (0, 0)) ∧ W'.heap[w.heap.size + 1]? = some (.cells #[Value.slice (some ⟨W6.heap.size + 1, 0, none⟩) 1 1, Value.int .i64 2, Value.string ⟨#[]⟩, Value.int .i64 code, Value.int .u32 opq, Value.bool q, Value.bool false, Value.string ⟨#[]⟩, Value.slice none 0 0, Value.slice none 0 0, Value.bool false, Value.string ⟨#[]⟩, Value.int .i64 (24 + (n : Int)), Value.int .i64 0, Value.bool false, Value.int .i64 0] 34 (0, 0)) ∧ Below w.heap.size w W')
      ⟨set16_far (new2 W6 _ _) (by omega) (Value.slice (some ⟨W6.heap.size + 1, 0, none⟩) 1 1) (Value.int .i64 2) (Value.string ⟨#[]⟩) (Value.int .i64 code) (Value.int .u32 opq) (Value.bool q) (Value.bool false) (Value.string ⟨#[]⟩) (Value.slice none 0 0) (Value.slice none 0 0) (Value.bool false) (Value.string ⟨#[]⟩) (Value.int .i64 (24 + (n : Int))) (Value.int .i64 0) (Value.bool false) (Value.int .i64 0), set16_blk (blk_alloc (blk_alloc HK1.out _) _) (Value.slice (some ⟨W6.heap.size + 1, 0, none⟩) 1 1) (Value.int .i64 2) (Value.string ⟨#[]⟩) (Value.int .i64 code) (Value.int .u32 opq) (Value.bool q) (Value.bool false) (Value.string ⟨#[]⟩) (Value.slice none 0 0) (Value.slice none 0 0) (Value.bool false) (Value.string ⟨#[]⟩) (Value.int .i64 (24 + (n : Int))) (Value.int .i64 0) (Value.bool false) (Value.int .i64 0), set16_below (below_alloc (below_alloc HB6.out _) _) (by omega) (Value.slice (some ⟨W6.heap.size + 1, 0, none⟩) 1 1) (Value.int .i64 2) (Value.string ⟨#[]⟩) (Value.int .i64 code) (Value.int .u32 opq) (Value.bool q) (Value.bool false) (Value.string ⟨#[]⟩) (Value.slice none 0 0) (Value.slice none 0 0) (Value.bool false) (Value.string ⟨#[]⟩) (Value.int .i64 (24 + (n : Int))) (Value.int .i64 0) (Value.bool false) (Value.int .i64 0)⟩ ?_
    rintro W9 ⟨kc, kr, hB9⟩
    refine bodyPost_ret (v := stepV (.slice (some ⟨W6.heap.size + 1, 0, none⟩) 1 1) 2 code opq q (.slice none 0 0) ⟨#[]⟩ (24 + (n : Int)) 0) (results_cell_row rfl _ _ (w.heap.size + 1) 34 _ (0, 0) _ rfl kr Try.underlying34 rfl (by kernel_rfl)) rfl ?_
    exact ⟨_, rfl, ⟨_, _, rfl, ⟨_, none, 0, rfl, kc, Kd.C_nil _ _, Nat.le_refl _⟩, rfl⟩, hB9⟩)
set_option maxHeartbeats 8000000 in
set_option maxRecDepth 100000 in
theorem req_val (code opq cas : Int) (x k : Nat) (A : Option Addr) (n c : Nat) (cl op ee has : Int) (q : Bool) (w : World) (body : List Int) (hlen : body.length = n) (hC : Kd.C (Kd.int .u8) w A n body) (hc : n ≤ c) (hxk : x + k ≤ n) (hx : x ≤ 255) (hn : n ≤ 1000000) (hl : n ≤ x + k + 1000) (fl ex de ini : Int) (mk : Bool) (hk : 0 < k) (hb1 : (Go.bits .and .i64 has 1 != 0) = true) (hb2 : (Go.bits .and .i64 has 2 != 0) = true)
    (HL : Aside0 (∀ W, Calls Try.prog 29 #[.int .i64 code] W fun e w' => e = .returned (.tuple #[.int .i64 cl, .bool q]) ∧ Drawn0 W w'))
    (HP : Aside0 (∀ W, Calls Try.prog 30 #[.int .i64 cl] W fun e w' => e = .returned (.tuple #[.agg #[.int .i64 op, .int .i64 ee, .int .i64 has, .bool false], .bool true]) ∧ Below W.heap.size W w'))
    (HT : Aside0 (∀ W, Below w.heap.size w W → Calls Try.prog 32 #[.agg #[.int .i64 code, .int .i64 (k : Int), .int .i64 (x : Int), .int .u32 opq, .int .u64 cas, .slice A n c], .agg #[.int .i64 op, .int .i64 ee, .int .i64 has, .bool false]] W fun e w' => e = .returned (.bool true) ∧ Below W.heap.size W w'))
    (HY : Aside0 (∀ W, Calls Try.prog 33 #[.string (strOfNums (cut body x (x + k)))] W fun e w' => e = .returned (.bool true) ∧ Drawn0 W w'))
    (HM : Aside0 (∀ W, Below w.heap.size w W → Calls Try.prog 34 #[.int .i64 op, .slice A x x] W fun e w' => e = .returned (cmdV op ⟨#[]⟩ (.slice none 0 0) fl ex 0 de ini mk) ∧ Below W.heap.size W w')) :
    Calls Try.prog 19 #[pktV code (k : Int) (x : Int) opq cas A n c] w fun e w' => ∃ v, e = .returned v ∧ StepAt w' v ⟨some ⟨op, (strOfNums (cut body x (x + k))), body.drop (x + k), fl, ex, cas, de, ini, mk⟩, 2, code, opq, q, some (strOfNums (cut body x (x + k))), ⟨#[]⟩, 24 + (n : Int), 0⟩ ∧ Below w.heap.size w w' := by
  have hu53 := Try.underlying53
  have hu66 := Try.underlying66
  have hu34 := Try.underlying34
  have hu39 := Try.underlying39
  have hu29 := Try.underlying29
  have hu31 := Try.underlying31
  have hu22 := Try.underlying22
  have hu25 := Try.underlying25
  have hu27 := Try.underlying27
  have HM' := HM
  unfold cmdV at HM'
  obtain ⟨B2, B3, n3, c3, hn3, hc3, hp1, hp2, hp3, hpC⟩ := parts3 A c body x k (by omega) (by omega)
  rw [hlen] at hp1 hp2 hp3 hpC hn3
  have HPC := Aside0.mk (fun W (hB : Below w.heap.size w W) => hpC W (Kd.C_below hC hB))
  have HN3 := Aside0.mk (And.intro hn3 hc3)
  have hws : wrap64 ((x : Int) + (k : Int)) = (x : Int) + (k : Int) := by unfold wrap64; omega
  have hi1 : (0 : Int) ≤ (x : Int) := by omega
  have hi2 : (x : Int) ≤ (x : Int) + (k : Int) := by omega
  have hi3 : (x : Int) + (k : Int) ≤ (n : Int) := by omega
  have hgt : decide (1000 < n3) = false := decide_eq_false (by omega)
  have hgt2 : decide ((1000 : Int) < (n3 : Int)) = false := decide_eq_false (by omega)
  have hgt3 : decide ((n3 : Int) > 1000) = false := decide_eq_false (by omega)
  have ky := key_ne (cut body x (x + k)) (by rw [cut_len _ _ _ (by omega)]; omega)
  have ky2 : (!(strOfNums (cut body x (x + k))).toList.isEmpty) = true := by rw [ky]; rfl
  have hl3 : (body.drop (x + k)).length = n3 := by rw [List.length_drop, hlen, hn3]
  have HCL : Aside0 (∀ W, Below w.heap.size w W → Calls Try.prog 35 #[.slice B3 n3 c3] W fun e w' => ∃ v0_ : Value, e = .returned v0_ ∧ Kd.R (Kd.int .u8) 5 w' W.heap.size (fun _ => True) v0_ (body.drop (x + k)) ∧ Below W.heap.size W w') := ⟨fun W hB => by
    have h := slices_Clone_byte_byte.calls B3 c3 (body.drop (x + k)) (body.drop (x + k)) W (by rw [hl3]; exact (HPC.out W hB).2.2) (by omega) (if_pos (by omega))
    rw [hl3] at h
    exact h⟩
  clear hl3
  obtain ⟨vl, hvl⟩ : ∃ vl, body.drop (x + k) = vl := ⟨_, rfl⟩
  rw [hvl] at HCL
  have HVL := Aside0.mk hvl
  clear hvl
  clear hpC hC hn3 hc3
  unfold pktV
  go_enter Try.func19, Try.ntmps19
  go_wp2_with (first | (go_at_call 29; refine (HL.out _).mono ?_; rintro e w' ⟨rfl, ⟨m, rfl⟩⟩) | (go_at_call 30; refine (HP.out _).mono ?_; rintro e w1 ⟨rfl, hB⟩; have k0 := blk_any hB (by first | exact blk_alloc (blk_new w _) _ | exact blk_drewN (blk_alloc (blk_new w _) _) _); have k1 := blk_any hB (by have h := blk_new (w.alloc (.cells #[.int .i64 code, .int .i64 (k : Int), .int .i64 (x : Int), .int .u32 opq, .int .u64 cas, .slice A n c] 53)) (.cells #[.slice none 0 0, .int .i64 0, .string ⟨#[]⟩, .int .i64 0, .int .u32 0, .bool false, .bool false, .string ⟨#[]⟩, .slice none 0 0, .slice none 0 0, .bool false, .string ⟨#[]⟩, .int .i64 0, .int .i64 0, .bool false, .int .i64 0] 34); rw [World.size_alloc] at h; first | exact h | exact blk_drewN h _); have HK0 := Aside0.mk k0; have HK1 := Aside0.mk k1; have HB := Aside0.mk (below_step (show Below w.heap.size w _ from by repeat (with_reducible first | exact Below.refl _ _ | apply below_alloc | apply below_drew | apply pw_below_drewN | refine below_set ?_ (by omega))) hB); obtain ⟨p0, p1, p2, p3, p4, p5⟩ := cells6 (blk_alloc k0 (.cells #[.int .i64 op, .int .i64 ee, .int .i64 has, .bool false] 66)); obtain ⟨pf0, pf1, pf2, pf3, pf4, pf5⟩ := froz6 (blk_alloc k0 (.cells #[.int .i64 op, .int .i64 ee, .int .i64 has, .bool false] 66)); obtain ⟨r0, r1, r2, r3, r4, r5, r6, r7, r8, r9, r10, r11, r12, r13, r14, r15⟩ := cells16 (blk_alloc k1 (.cells #[.int .i64 op, .int .i64 ee, .int .i64 has, .bool false] 66)); obtain ⟨rf0, rf1, rf2, rf3, rf4, rf5, rf6, rf7, rf8, rf9, rf10, rf11, rf12, rf13, rf14, rf15⟩ := froz16 (blk_alloc k1 (.cells #[.int .i64 op, .int .i64 ee, .int .i64 has, .bool false] 66)); clear k0 k1 hB) | (go_at_call 32; refine (HT.out _ (by repeat (with_reducible first | exact HB.out | apply below_alloc | apply below_drew | apply pw_below_drewN | refine below_set ?_ (by omega)))).mono ?_; rintro e w2 ⟨rfl, hB⟩; have k0 := blk_any hB (blk_alloc HK0.out _); have k1 := blk_any hB (blk_alloc HK1.out _); have k3 := blk_any hB (blk_new w1 _); have HK0 := Aside0.mk k0; have HK1 := Aside0.mk k1; have HK3 := Aside0.mk k3; have HB2 := Aside0.mk (below_step (show Below w.heap.size w _ from by repeat (with_reducible first | exact HB.out | apply below_alloc | apply below_drew | apply pw_below_drewN | refine below_set ?_ (by omega))) hB); clear p0 p1 p2 p3 p4 p5 pf0 pf1 pf2 pf3 pf4 pf5 r0 r1 r2 r3 r4 r5 r6 r7 r8 r9 r10 r11 r12 r13 r14 r15 rf0 rf1 rf2 rf3 rf4 rf5 rf6 rf7 rf8 rf9 rf10 rf11 rf12 rf13 rf14 rf15; obtain ⟨p0, p1, p2, p3, p4, p5⟩ := cells6 k0; obtain ⟨r0, r1, r2, r3, r4, r5, r6, r7, r8, r9, r10, r11, r12, r13, r14, r15⟩ := cells16 k1; obtain ⟨rf0, rf1, rf2, rf3, rf4, rf5, rf6, rf7, rf8, rf9, rf10, rf11, rf12, rf13, rf14, rf15⟩ := froz16 k1; obtain ⟨q0, q1, q2, q3⟩ := cells4 k3; clear k0 k1 k3 hB; have hcv : (convert 22 9 (.slice B2 k k)).run Try.prog w2 = .ok (.string (strOfNums (cut body x (x + k)))) w2 := Kd.C_string Try.underlying22 Try.underlying5 Try.underlying9 (HPC.out w2 HB2.out).2.1) | (go_at_call 33; refine (HY.out _).mono ?_; rintro e w' ⟨rfl, ⟨m, rfl⟩⟩))
  have ne0 : w2.heap.size ≠ w.heap.size := World.new_ne w2 ⟨w.heap.size, 2, none⟩ p2
  have ne1 : w2.heap.size ≠ w1.heap.size := World.new_ne w2 ⟨w1.heap.size, 0, none⟩ q0
  go_region_held3 (fun w' => w'.cell? ⟨w.heap.size, 2, none⟩ = some (.int .i64 (x : Int)) ∧ w'.cell? ⟨w.heap.size, 5, none⟩ = some (.slice A n c) ∧ w'.cell? ⟨w1.heap.size, 0, none⟩ = some (.int .i64 op)) (go_keep)
    ((first | (go_at_call 34; (with_reducible refine (HM'.out _ ?_).mono ?_); (repeat (with_reducible first | exact HB2.out | apply below_alloc | apply below_drew | apply pw_below_drewN | refine below_set ?_ (by omega))); rintro e w3 ⟨rfl, hB⟩; have k0 := blk_any hB (by first | exact HK0.out | exact blk_drewN HK0.out _); have k1 := blk_any hB (by first | exact HK1.out | exact blk_drewN HK1.out _); have k3 := blk_any hB (by first | exact HK3.out | exact blk_drewN HK3.out _); have HB3 := Aside0.mk (below_step (show Below w.heap.size w _ from by repeat (with_reducible first | exact HB2.out | apply below_alloc | apply below_drew | apply pw_below_drewN | refine below_set ?_ (by omega))) hB); clear p0 p1 p2 p3 p4 p5 q0 q1 q2 q3 r0 r1 r2 r3 r4 r5 r6 r7 r8 r9 r10 r11 r12 r13 r14 r15 rf0 rf1 rf2 rf3 rf4 rf5 rf6 rf7 rf8 rf9 rf10 rf11 rf12 rf13 rf14 rf15; have HK0 := Aside0.mk k0; have HK1 := Aside0.mk k1; have HK3 := Aside0.mk k3; obtain ⟨p0, p1, p2, p3, p4, p5⟩ := cells6 k0; obtain ⟨q0, q1, q2, q3⟩ := cells4 k3; clear k0 k1 k3 hB) | (go_at_call 34; (with_reducible refine (HM'.out _ ?_).mono ?_); (repeat (with_reducible first | exact HB2.out | apply below_alloc | apply below_drew | apply pw_below_drewN | refine below_set ?_ (by omega))); rintro e w3 ⟨rfl, hB⟩; have k0 := blk_any hB (by first | exact blk_drewN (blk_alloc HK0.out _) _ | exact blk_alloc HK0.out _ | exact blk_alloc (blk_drewN HK0.out _) _); have k1 := blk_any hB (by first | exact blk_drewN (blk_alloc HK1.out _) _ | exact blk_alloc HK1.out _ | exact blk_alloc (blk_drewN HK1.out _) _); have k3 := blk_any hB (by first | exact blk_drewN (blk_alloc HK3.out _) _ | exact blk_alloc HK3.out _ | exact blk_alloc (blk_drewN HK3.out _) _); have HB3 := Aside0.mk (below_step (show Below w.heap.size w _ from by repeat (with_reducible first | exact HB2.out | apply below_alloc | apply below_drew | apply pw_below_drewN | refine below_set ?_ (by omega))) hB); clear p0 p1 p2 p3 p4 p5 q0 q1 q2 q3 r0 r1 r2 r3 r4 r5 r6 r7 r8 r9 r10 r11 r12 r13 r14 r15 rf0 rf1 rf2 rf3 rf4 rf5 rf6 rf7 rf8 rf9 rf10 rf11 rf12 rf13 rf14 rf15; have HK0 := Aside0.mk k0; have HK1 := Aside0.mk k1; have HK3 := Aside0.mk k3; obtain ⟨p0, p1, p2, p3, p4, p5⟩ := cells6 k0; obtain ⟨q0, q1, q2, q3⟩ := cells4 k3; have k5 := blk_any hB (by first | exact blk_drewN (blk_new w2 (.cells #[.int .i64 0, .string ⟨#[]⟩, .slice none 0 0, .int .u32 0, .int .i64 0, .int .u64 0, .int .u64 0, .int .u64 0, .bool false, .bool false] 39)) _ | exact blk_new w2 (.cells #[.int .i64 0, .string ⟨#[]⟩, .slice none 0 0, .int .u32 0, .int .i64 0, .int .u64 0, .int .u64 0, .int .u64 0, .bool false, .bool false] 39)); have HK5 := Aside0.mk k5; obtain ⟨z0, z1, z2, z3, z4, z5, z6, z7, z8, z9⟩ := cells10 k5; obtain ⟨zf0, zf1, zf2, zf3, zf4, zf5, zf6, zf7, zf8, zf9⟩ := froz10 k5; clear k5; clear k0 k1 k3 hB)))
  all_goals first
    | (refine gen_world (fun W' => W'.heap[w2.heap.size]? = some (.cells #[Value.int .i64 op, Value.string ⟨#[]⟩, Value.slice none 0 0, Value.int .u32 fl, Value.int .i64 ex, Value.int .u64 0, Value.int .u64 de, Value.int .u64 ini, Value.bool mk, Value.bool false] 39 (0, 0)) ∧ W'.heap[w.heap.size]? = some (.cells #[.int .i64 code, .int .i64 (k : Int), .int .i64 (x : Int), .int .u32 opq, .int .u64 cas, .slice A n c] 53 (0, 0)) ∧ W'.heap[w.heap.size + 1]? = some (.cells #[.slice none 0 0, .int .i64 0, .string ⟨#[]⟩, .int .i64 0, .int .u32 0, .bool false, .bool false, .string ⟨#[]⟩, .slice none 0 0, .slice none 0 0, .bool false, .string ⟨#[]⟩, .int .i64 0, .int .i64 0, .bool false, .int .i64 0] 34 (0, 0)) ∧ W'.heap[w1.heap.size]? = some (.cells #[.int .i64 op, .int .i64 ee, .int .i64 has, .bool false] 66 (0, 0)) ∧ Below w.heap.size w W') ⟨set10_blk HK5.out (Value.int .i64 op) (Value.string ⟨#[]⟩) (Value.slice none 0 0) (Value.int .u32 fl) (Value.int .i64 ex) (Value.int .u64 0) (Value.int .u64 de) (Value.int .u64 ini) (Value.bool mk) (Value.bool false), (set10_far HK0.out (blk_ne HK0.out HK5.out (by decide)) (Value.int .i64 op) (Value.string ⟨#[]⟩) (Value.slice none 0 0) (Value.int .u32 fl) (Value.int .i64 ex) (Value.int .u64 0) (Value.int .u64 de) (Value.int .u64 ini) (Value.bool mk) (Value.bool false)), (set10_far HK1.out (blk_ne HK1.out HK5.out (by decide)) (Value.int .i64 op) (Value.string ⟨#[]⟩) (Value.slice none 0 0) (Value.int .u32 fl) (Value.int .i64 ex) (Value.int .u64 0) (Value.int .u64 de) (Value.int .u64 ini) (Value.bool mk) (Value.bool false)), (set10_far HK3.out (blk_ne HK3.out HK5.out (by decide)) (Value.int .i64 op) (Value.string ⟨#[]⟩) (Value.slice none 0 0) (Value.int .u32 fl) (Value.int .i64 ex) (Value.int .u64 0) (Value.int .u64 de) (Value.int .u64 ini) (Value.bool mk) (Value.bool false)), set10_below HB3.out (by have := HB2.out.size; omega) (Value.int .i64 op) (Value.string ⟨#[]⟩) (Value.slice none 0 0) (Value.int .u32 fl) (Value.int .i64 ex) (Value.int .u64 0) (Value.int .u64 de) (Value.int .u64 ini) (Value.bool mk) (Value.bool false)⟩ ?_; clear z0 z1 z2 z3 z4 z5 z6 z7 z8 z9 zf0 zf1 zf2 zf3 zf4 zf5 zf6 zf7 zf8 zf9; have HGE := Aside0.mk HB2.out.size; generalize w2.heap.size = g at *)
    | (refine gen_world (fun W' => W'.heap[w3.heap.size]? = some (.cells #[Value.int .i64 op, Value.string ⟨#[]⟩, Value.slice none 0 0, Value.int .u32 fl, Value.int .i64 ex, Value.int .u64 0, Value.int .u64 de, Value.int .u64 ini, Value.bool mk, Value.bool false] 39 (0, 0)) ∧ W'.heap[w.heap.size]? = some (.cells #[.int .i64 code, .int .i64 (k : Int), .int .i64 (x : Int), .int .u32 opq, .int .u64 cas, .slice A n c] 53 (0, 0)) ∧ W'.heap[w.heap.size + 1]? = some (.cells #[.slice none 0 0, .int .i64 0, .string ⟨#[]⟩, .int .i64 0, .int .u32 0, .bool false, .bool false, .string ⟨#[]⟩, .slice none 0 0, .slice none 0 0, .bool false, .string ⟨#[]⟩, .int .i64 0, .int .i64 0, .bool false, .int .i64 0] 34 (0, 0)) ∧ W'.heap[w1.heap.size]? = some (.cells #[.int .i64 op, .int .i64 ee, .int .i64 has, .bool false] 66 (0, 0)) ∧ Below w.heap.size w W') ⟨blk_new w3 _, blk_alloc HK0.out _, blk_alloc HK1.out _, blk_alloc HK3.out _, below_alloc HB3.out _⟩ ?_; have HGE := Aside0.mk HB3.out.size; generalize w3.heap.size = g at *)
  all_goals clear ne0 ne1 p0 p1 p2 p3 p4 p5 q0 q1 q2 q3 HK0 HK1 HK3 HB3
  all_goals (
    rintro W5 ⟨k5, k0, k1, k3, hB5⟩
    have HK5 := Aside0.mk k5
    have HK0 := Aside0.mk k0
    have HK1 := Aside0.mk k1
    have HK3 := Aside0.mk k3
    have HB5 := Aside0.mk hB5
    have HG := Aside0.mk (below_size hB5)
    have HGG := Aside0.mk (show w.heap.size ≤ g by first | exact HGE.out)
    obtain ⟨z0, z1, z2, z3, z4, z5, z6, z7, z8, z9⟩ := cells10 k5
    obtain ⟨zf0, zf1, zf2, zf3, zf4, zf5, zf6, zf7, zf8, zf9⟩ := froz10 k5
    obtain ⟨p0, p1, p2, p3, p4, p5⟩ := cells6 k0
    obtain ⟨r0, r1, r2, r3, r4, r5, r6, r7, r8, r9, r10, r11, r12, r13, r14, r15⟩ := cells16 k1
    obtain ⟨rf0, rf1, rf2, rf3, rf4, rf5, rf6, rf7, rf8, rf9, rf10, rf11, rf12, rf13, rf14, rf15⟩ := froz16 k1
    obtain ⟨q0, q1, q2, q3⟩ := cells4 k3
    clear k5 k0 k1 k3 hB5
    go_wp2
    have neg : g ≠ w.heap.size := blk_ne HK5.out HK0.out (by decide)
    go_region_held3 (fun w' => w'.cell? ⟨w.heap.size, 4, none⟩ = some (.int .u64 cas)) (go_keep) (fail)
    clear z0 z1 z2 z3 z4 z5 z6 z7 z8 z9 zf0 zf1 zf2 zf3 zf4 zf5 zf6 zf7 zf8 zf9 p0 p1 p2 p3 p4 p5 q0 q1 q2 q3 r0 r1 r2 r3 r4 r5 r6 r7 r8 r9 r10 r11 r12 r13 r14 r15 rf0 rf1 rf2 rf3 rf4 rf5 rf6 rf7 rf8 rf9 rf10 rf11 rf12 rf13 rf14 rf15
    refine gen_world (fun W' => W'.heap[g]? = some (.cells #[Value.int .i64 op, Value.string (strOfNums (cut body x (x + k))), Value.slice none 0 0, Value.int .u32 fl, Value.int .i64 ex, Value.int .u64 cas, Value.int .u64 de, Value.int .u64 ini, Value.bool mk, Value.bool false] 39 (0, 0)) ∧ W'.heap[w.heap.size]? = some (.cells #[.int .i64 code, .int .i64 (k : Int), .int .i64 (x : Int), .int .u32 opq, .int .u64 cas, .slice A n c] 53 (0, 0)) ∧ W'.heap[w.heap.size + 1]? = some (.cells #[.slice none 0 0, .int .i64 0, .string ⟨#[]⟩, .int .i64 0, .int .u32 0, .bool false, .bool false, .string ⟨#[]⟩, .slice none 0 0, .slice none 0 0, .bool false, .string ⟨#[]⟩, .int .i64 0, .int .i64 0, .bool false, .int .i64 0] 34 (0, 0)) ∧ W'.heap[w1.heap.size]? = some (.cells #[.int .i64 op, .int .i64 ee, .int .i64 has, .bool false] 66 (0, 0)) ∧ Below w.heap.size w W') ⟨blk_drew (blk_put (cs' := #[Value.int .i64 op, Value.string (strOfNums (cut body x (x + k))), Value.slice none 0 0, Value.int .u32 fl, Value.int .i64 ex, Value.int .u64 cas, Value.int .u64 de, Value.int .u64 ini, Value.bool mk, Value.bool false]) (blk_put (cs' := #[Value.int .i64 op, Value.string (strOfNums (cut body x (x + k))), Value.slice none 0 0, Value.int .u32 fl, Value.int .i64 ex, Value.int .u64 0, Value.int .u64 de, Value.int .u64 ini, Value.bool mk, Value.bool false]) HK5.out 1 _ rfl) 5 _ rfl), (blk_drew (blk_far (blk_far HK0.out (p := ⟨g, 1, none⟩) (blk_ne HK0.out HK5.out (by decide)) _) (p := ⟨g, 5, none⟩) (blk_ne HK0.out HK5.out (by decide)) _)), (blk_drew (blk_far (blk_far HK1.out (p := ⟨g, 1, none⟩) (blk_ne HK1.out HK5.out (by decide)) _) (p := ⟨g, 5, none⟩) (blk_ne HK1.out HK5.out (by decide)) _)), (blk_drew (blk_far (blk_far HK3.out (p := ⟨g, 1, none⟩) (blk_ne HK3.out HK5.out (by decide)) _) (p := ⟨g, 5, none⟩) (blk_ne HK3.out HK5.out (by decide)) _)), below_drew (below_set (below_set HB5.out HGG.out) HGG.out)⟩ ?_
    clear HK5 HK0 HK1 HK3 HB5
    rintro W6 ⟨k5, k0, k1, k3, hB6⟩
    have HK5 := Aside0.mk k5
    have HK0 := Aside0.mk k0
    have HK1 := Aside0.mk k1
    have HB6 := Aside0.mk hB6
    obtain ⟨q0, q1, q2, q3⟩ := cells4 k3
    clear k5 k0 k1 k3 hB6
    go_wp2_with (first | (go_at_call 35; refine (HCL.out _ HB6.out).mono ?_; rintro e W7 ⟨v, rfl, hO, hB⟩; obtain ⟨B, cB, hv, hle, hC⟩ := Kd.R_reads hO; subst hv; clear hC q0 q1 q2 q3; have HV := Aside0.mk (And.intro hO hle); have k5 := blk_any hB HK5.out; have k0 := blk_any hB HK0.out; have k1 := blk_any hB HK1.out; have HB7 := Aside0.mk (below_step HB6.out hB); have zc2 := blk_cell k5 2; have zd2 : W7.cell? ⟨g, 2, none⟩ = some (.slice none 0 0) := zc2; clear zc2; have zf2 := blk_frozen k5 2; have j5 := blk_put (cs' := #[Value.int .i64 op, Value.string (strOfNums (cut body x (x + k))), Value.slice B vl.length cB, Value.int .u32 fl, Value.int .i64 ex, Value.int .u64 cas, Value.int .u64 de, Value.int .u64 ini, Value.bool mk, Value.bool false]) k5 2 (Value.slice B vl.length cB) rfl; have j0 := (blk_far k0 (p := ⟨g, 2, none⟩) (blk_ne k0 k5 (by decide)) (Value.slice B vl.length cB)); have j1 := (blk_far k1 (p := ⟨g, 2, none⟩) (blk_ne k1 k5 (by decide)) (Value.slice B vl.length cB)); have HJ5 := Aside0.mk j5; have HJ0 := Aside0.mk j0; have HJ1 := Aside0.mk j1; have HK7 := Aside0.mk k5; obtain ⟨z0, z1, z2, z3, z4, z5, z6, z7, z8, z9⟩ := cells10_2 j5; obtain ⟨p0, p1, p2, p3, p4, p5⟩ := cells6 j0; have pp5 : ∀ o o' o'' : Obj, ((((W7.setCell ⟨g, 2, none⟩ (Value.slice B vl.length cB)).alloc o).alloc o').alloc o'').cell? ⟨w.heap.size, 5, none⟩ = some (.slice A n c) := fun o o' o'' => blk_cell (blk_alloc (blk_alloc (blk_alloc j0 o) o') o'') 5; obtain ⟨r0, r1, r2, r3, r4, r5, r6, r7, r8, r9, r10, r11, r12, r13, r14, r15⟩ := cells16_3 j1; obtain ⟨rf0, rf1, rf2, rf3, rf4, rf5, rf6, rf7, rf8, rf9, rf10, rf11, rf12, rf13, rf14, rf15⟩ := froz16_3 j1; clear k5 k0 k1 j5 j0 j1 hO hB hle HK5 HK0 HK1 HB6))
    clear zd2 zf2
    clear z0 z1 z2 z3 z4 z5 z6 z7 z8 z9 p0 p1 p2 p3 p4 p5 r0 r1 r2 r3 r4 r5 r6 r7 r8 r9 r10 r11 r12 r13 r14 r15 rf0 rf1 rf2 rf3 rf4 rf5 rf6 rf7 rf8 rf9 rf10 rf11 rf12 rf13 rf14 rf15 pp5
    have hlt := blk_lt HJ1.out
    rw [World.size_setCell] at hlt
    refine gen_world (fun W' => W'.heap[W7.heap.size + 1 + 1]? = some (.cells #[Value.int .i64 op, Value.string (strOfNums (cut body x (x + k))), Value.slice B vl.length cB, Value.int .u32 fl, Value.int .i64 ex, Value.int .u64 cas, Value.int .u64 de, Value.int .u64 ini, Value.bool mk, Value.bool false] 39 (0, 0)) ∧ W'.heap[W7.heap.size + 1]? = some (.cells #[.string (strOfNums (cut body x (x + k)))] 9 (0, 0)) ∧ W'.heap[w.heap.size + 1]? = some (.cells #[Value.slice (some ⟨W7.heap.size + 1 + 1, 0, none⟩) 1 1, Value.int .i64 2, Value.string ⟨#[]⟩, Value.int .i64 code, Value.int .u32 opq, Value.bool q, Value.bool false, Value.string ⟨#[]⟩, Value.slice none 0 0, Value.slice (some ⟨W7.heap.size + 1, 0, none⟩) 1 1, Value.bool false, Value.string ⟨#[]⟩, Value.int .i64 (24 + (n : Int)), Value.int .i64 0, Value.bool false, Value.int .i64 0] 34 (0, 0)) ∧ Below w.heap.size w W' ∧ Kd.R (Kd.int .u8) 5 W' W6.heap.size (fun _ => True) (.slice B vl.length cB) vl)
      ⟨set16_far (new3s W7 _ _ _ _) (by omega) (Value.slice (some ⟨W7.heap.size + 1 + 1, 0, none⟩) 1 1) (Value.int .i64 2) (Value.string ⟨#[]⟩) (Value.int .i64 code) (Value.int .u32 opq) (Value.bool q) (Value.bool false) (Value.string ⟨#[]⟩) (Value.slice none 0 0) (Value.slice (some ⟨W7.heap.size + 1, 0, none⟩) 1 1) (Value.bool false) (Value.string ⟨#[]⟩) (Value.int .i64 (24 + (n : Int))) (Value.int .i64 0) (Value.bool false) (Value.int .i64 0), set16_far (blk_alloc (new2s W7 _ _ _) _) (by omega) (Value.slice (some ⟨W7.heap.size + 1 + 1, 0, none⟩) 1 1) (Value.int .i64 2) (Value.string ⟨#[]⟩) (Value.int .i64 code) (Value.int .u32 opq) (Value.bool q) (Value.bool false) (Value.string ⟨#[]⟩) (Value.slice none 0 0) (Value.slice (some ⟨W7.heap.size + 1, 0, none⟩) 1 1) (Value.bool false) (Value.string ⟨#[]⟩) (Value.int .i64 (24 + (n : Int))) (Value.int .i64 0) (Value.bool false) (Value.int .i64 0), set16_blk (blk_alloc (blk_alloc (blk_alloc HJ1.out _) _) _) (Value.slice (some ⟨W7.heap.size + 1 + 1, 0, none⟩) 1 1) (Value.int .i64 2) (Value.string ⟨#[]⟩) (Value.int .i64 code) (Value.int .u32 opq) (Value.bool q) (Value.bool false) (Value.string ⟨#[]⟩) (Value.slice none 0 0) (Value.slice (some ⟨W7.heap.size + 1, 0, none⟩) 1 1) (Value.bool false) (Value.string ⟨#[]⟩) (Value.int .i64 (24 + (n : Int))) (Value.int .i64 0) (Value.bool false) (Value.int .i64 0), set16_below (below_alloc (below_alloc (below_alloc (below_set HB7.out HGG.out) _) _) _) (by omega) (Value.slice (some ⟨W7.heap.size + 1 + 1, 0, none⟩) 1 1) (Value.int .i64 2) (Value.string ⟨#[]⟩) (Value.int .i64 code) (Value.int .u32 opq) (Value.bool q) (Value.bool false) (Value.string ⟨#[]⟩) (Value.slice none 0 0) (Value.slice (some ⟨W7.heap.size + 1, 0, none⟩) 1 1) (Value.bool false) (Value.string ⟨#[]⟩) (Value.int .i64 (24 + (n : Int))) (Value.int .i64 0) (Value.bool false) (Value.int .i64 0), R_set16 (Kd.R_alloc (Kd.R_alloc (Kd.R_alloc (Kd.R_set HV.out.1 HK7.out (fun q hq => by simp [Kd.int, Kd.scalar] at hq; omega) 2 (Value.slice B vl.length cB)) _) _) _) (blk_alloc (blk_alloc (blk_alloc HJ1.out _) _) _) (fun q hq => by simp [Kd.int, Kd.scalar] at hq; omega) (Value.slice (some ⟨W7.heap.size + 1 + 1, 0, none⟩) 1 1) (Value.int .i64 2) (Value.string ⟨#[]⟩) (Value.int .i64 code) (Value.int .u32 opq) (Value.bool q) (Value.bool false) (Value.string ⟨#[]⟩) (Value.slice none 0 0) (Value.slice (some ⟨W7.heap.size + 1, 0, none⟩) 1 1) (Value.bool false) (Value.string ⟨#[]⟩) (Value.int .i64 (24 + (n : Int))) (Value.int .i64 0) (Value.bool false) (Value.int .i64 0)⟩ ?_
    rintro W9 ⟨kc, kk, kr, hB9, hR9⟩
    refine bodyPost_ret (v := stepV (.slice (some ⟨W7.heap.size + 1 + 1, 0, none⟩) 1 1) 2 code opq q (.slice (some ⟨W7.heap.size + 1, 0, none⟩) 1 1) ⟨#[]⟩ (24 + (n : Int)) 0) (results_cell_row rfl _ _ (w.heap.size + 1) 34 _ (0, 0) _ rfl kr Try.underlying34 rfl (by kernel_rfl)) rfl ?_
    have hvl := HVL.out
    subst hvl
    have hCC := (Kd.R_reads' hR9).2.2
    exact ⟨_, rfl, ⟨_, _, rfl, ⟨_, B, cB, rfl, kc, hCC, HV.out.2⟩, ⟨_, rfl, kk⟩⟩, hB9⟩)
/-- What a packet asks for. -/
def reqS (code opq cas : Int) (x k : Nat) (body : List Int) : St :=
  match plainC (loudC code).1 with
  | none => badS (strOfNums (faultL code 129 opq)) (24 + (body.length : Int)) 2
  | some r =>
    if fitsB body.length x k r.2.1 r.2.2 = false then badS (strOfNums (faultL code 4 opq)) (24 + (body.length : Int)) 2
    else if (r.2.2 = 1 ∨ r.2.2 = 3) ∧ ¬ (1 ≤ k ∧ k ≤ 250) then badS (strOfNums (faultL code 4 opq)) (24 + (body.length : Int)) 2
    else if x + k + 1000 < body.length then badS (strOfNums (faultL code 3 opq)) (24 + (body.length : Int)) 2
    else ⟨some ⟨r.1, strOfNums (cut body x (x + k)), if r.2.2 = 3 then body.drop (x + k) else [], (exOf (body.take x)).flags, (exOf (body.take x)).exp, cas, (exOf (body.take x)).delta, (exOf (body.take x)).init, (exOf (body.take x)).makes⟩,
      2, code, opq, (loudC code).2, if k = 0 then none else some (strOfNums (cut body x (x + k))), ⟨#[]⟩, 24 + (body.length : Int), 0⟩
theorem keyed_eq (l : List Int) : frame_Keyed.f (strOfNums l) = some (decide (1 ≤ l.length ∧ l.length ≤ 250)) := by
  unfold frame_Keyed.f
  have hz := strOfNums_size l
  by_cases h : l = []
  · subst h
    rw [if_pos (by rw [ByteArray.toList_eq]; rfl)]
    simp
  · have hne : ¬ (strOfNums l).toList = [] := fun e => by
      have := key_ne l (List.length_pos_iff.2 h)
      rw [e] at this
      simp at this
    rw [if_neg hne, hz]
    have := List.length_pos_iff.2 h
    congr 1
    rw [Bool.eq_iff_iff, decide_eq_true_eq, decide_eq_true_eq]
    omega
def ReqPost (w : World) (s : St) (e : Ending) (w' : World) : Prop := ∃ v, e = .returned v ∧ StepAt w' v s ∧ Below w.heap.size w w'
theorem reqPost_bad {w : World} {reply : ByteArray} {used : Int} {e : Ending} {w' : World} (h : e = .returned (badV reply used 2) ∧ Below w.heap.size w w') : ReqPost w (badS reply used 2) e w' :=
  ⟨_, h.1, badS_at _ _ _ _, h.2⟩
theorem request_w (code opq cas : Int) (x k : Nat) (A : Option Addr) (c : Nat) (body : List Int) (w : World) (hc0 : 0 ≤ code) (hc1 : code ≤ 255) (hx : x ≤ 255) (hk : k ≤ 65535) (ho0 : 0 ≤ opq) (ho1 : opq < 4294967296)
    (hC : Kd.C (Kd.int .u8) w A body.length body) (hc : body.length ≤ c) (hb : ∀ y ∈ body, 0 ≤ y ∧ y ≤ 255) (hn : body.length ≤ 1000000) :
    Calls Try.prog 19 #[pktV code (k : Int) (x : Int) opq cas A body.length c] w fun e w' => ReqPost w (reqS code opq cas x k body) e w' := by
  have hcl := loud_all ⟨code.toNat, by omega⟩
  have hcr := loud_range ⟨code.toNat, by omega⟩
  rw [show ((code.toNat : Nat) : Int) = code by omega] at hcl hcr
  have hpl := plain_all ⟨(loudC code).1.toNat, by omega⟩
  have hpk := row_kinds ⟨(loudC code).1.toNat, by omega⟩
  rw [show (((loudC code).1.toNat : Nat) : Int) = (loudC code).1 by omega] at hpl hpk
  have HL := Aside0.mk (fun W => binin_loud.calls 9 code (loudC code).1 (loudC code).2 W hcl)
  have HF : ∀ st : Int, 0 ≤ st → st < 65536 → Aside0 (∀ W, Calls Try.prog 31 #[pktV code (k : Int) (x : Int) opq cas A body.length c, .int .u16 st] W fun e w' => e = .returned (badV (strOfNums (faultL code st opq)) (24 + (body.length : Int)) 2) ∧ Below W.heap.size W w') :=
    fun st h0 h1 => ⟨fun W => fault_w code k x opq cas st A body.length c W ho0 ho1 h0 h1 hn⟩
  unfold reqS
  cases hp : plainC (loudC code).1 with
  | none =>
    rw [hp] at hpl
    exact (req_unknown code opq cas x k A body.length c _ 0 0 0 _ w hn HL ⟨fun W => binin_plain.calls 9 _ _ _ _ _ _ W hpl⟩ (HF 129 (by omega) (by omega))).mono fun e w' h => reqPost_bad h
  | some r =>
    obtain ⟨op, ee, has⟩ := r
    rw [hp] at hpl
    obtain ⟨hh, hee, _⟩ := hpk (op, ee, has) hp
    simp only at hh hee ⊢
    have HP : Aside0 (∀ W, Calls Try.prog 30 #[.int .i64 (loudC code).1] W fun e w' => e = .returned (.tuple #[.agg #[.int .i64 op, .int .i64 ee, .int .i64 has, .bool false], .bool true]) ∧ Below W.heap.size W w') := ⟨fun W => binin_plain.calls 9 _ _ _ _ _ _ W hpl⟩
    have hfe := fits_eq code k x opq cas body op ee has false (by omega) (by omega) (by omega) (by omega) hn (by omega)
    have HT : ∀ b, fitsB body.length x k ee has = b → Aside0 (∀ W, Below w.heap.size w W → Calls Try.prog 32 #[.agg #[.int .i64 code, .int .i64 (k : Int), .int .i64 (x : Int), .int .u32 opq, .int .u64 cas, .slice A body.length c], .agg #[.int .i64 op, .int .i64 ee, .int .i64 has, .bool false]] W fun e w' => e = .returned (.bool b) ∧ Below W.heap.size W w') :=
      fun b hb' => ⟨fun W hB => binin_packet_fits.calls code k x opq cas A c body op ee has false b W (Kd.C_below hC hB) hc (hb' ▸ hfe)⟩
    by_cases hf : fitsB body.length x k ee has = false
    · rw [if_pos hf]
      exact (req_unfit code opq cas x k A body.length c _ op ee has _ w hn HL HP (HT false hf) (HF 4 (by omega) (by omega))).mono fun e w' h => reqPost_bad h
    · rw [if_neg hf]
      have hf' : fitsB body.length x k ee has = true := by simpa using hf
      have hft := HT true hf'
      have hfd := of_decide_eq_true (show decide _ = true from hf')
      have hlk : (cut body x (x + k)).length = k := by rw [cut_len _ _ _ (by omega)]; omega
      have hkd := keyed_eq (cut body x (x + k))
      rw [hlk] at hkd
      have b1 : has = 1 ∨ has = 3 → (Go.bits .and .i64 has 1 != 0) = true := by rintro (rfl | rfl) <;> decide
      by_cases hbk : (has = 1 ∨ has = 3) ∧ ¬ (1 ≤ k ∧ k ≤ 250)
      · rw [if_pos hbk]
        rw [decide_eq_false hbk.2] at hkd
        exact (req_badkey code opq cas x k A body.length c _ op ee has _ w body rfl hC hc (by omega) hx hn (b1 hbk.1) HL HP hft ⟨fun W => frame_Keyed.calls _ false W hkd⟩ (HF 4 (by omega) (by omega))).mono fun e w' h => reqPost_bad h
      · rw [if_neg hbk]
        by_cases hlg : x + k + 1000 < body.length
        · rw [if_pos hlg]
          have h3 : has = 3 := by omega
          rw [decide_eq_true (by omega : 1 ≤ k ∧ k ≤ 250)] at hkd
          exact (req_large code opq cas x k A body.length c _ op ee has _ w body rfl hC hc (by omega) hx hn hlg (b1 (.inr h3)) HL HP hft ⟨fun W => frame_Keyed.calls _ true W hkd⟩ (HF 3 (by omega) (by omega))).mono fun e w' h => reqPost_bad h
        · rw [if_neg hlg]
          have hlx : (body.take x).length = x := by rw [List.length_take]; omega
          have htk := takeC A c body x (by omega) hc
          have e0 : cut body 0 x = body.take x := by simp [cut]
          rw [e0] at htk
          have HM : Aside0 (∀ W, Below w.heap.size w W → Calls Try.prog 34 #[.int .i64 op, .slice A x x] W fun e w' => e = .returned (cmdV op ⟨#[]⟩ (.slice none 0 0) (exOf (body.take x)).flags (exOf (body.take x)).exp 0 (exOf (body.take x)).delta (exOf (body.take x)).init (exOf (body.take x)).makes) ∧ Below W.heap.size W w') := ⟨fun W hB => by
            have hCx := htk.2 W (Kd.C_below hC hB)
            have h := cmd_w op A x (body.take x) W (by rw [hlx]; omega) (fun y hy => hb y (List.mem_of_mem_take hy)) (by rw [hlx]; exact hCx) (by rw [hlx]; exact Nat.le_refl _)
            rw [hlx] at h
            exact h⟩
          by_cases h3 : has = 3
          · rw [if_pos h3, if_neg (by omega)]
            rw [decide_eq_true (by omega : 1 ≤ k ∧ k ≤ 250)] at hkd
            exact req_val code opq cas x k A body.length c _ op ee has _ w body rfl hC hc (by omega) hx hn (by omega) _ _ _ _ _ (by omega) (b1 (.inr h3)) (by subst h3; decide) HL HP hft ⟨fun W => frame_Keyed.calls _ true W hkd⟩ HM
          · rw [if_neg h3]
            by_cases h1 : has = 1
            · rw [if_neg (by omega)]
              rw [decide_eq_true (by omega : 1 ≤ k ∧ k ≤ 250)] at hkd
              exact req_key code opq cas x k A body.length c _ op ee has _ w body rfl hC hc (by omega) hx hn (by omega) _ _ _ _ _ (by omega) (b1 (.inl h1)) (by subst h1; decide) HL HP hft ⟨fun W => frame_Keyed.calls _ true W hkd⟩ HM
            · rw [if_pos (by omega)]
              have h04 : has = 0 ∨ has = 4 := by omega
              exact req_none code opq cas x k A body.length c _ op ee has _ w body rfl hC hc (by omega) hx hn (by omega) _ _ _ _ _ (by omega) (by rcases h04 with rfl | rfl <;> decide) (by rcases h04 with rfl | rfl <;> decide) HL HP hft HM

end Go.Proofs.Ytkbhnnmngmdkdaa.Hc
