-- Written by this session's own program (wip/hprint.py) out of the translation, over hand-proved contracts. Lean checks it.
import Derived.Test.YtpfjoeagblkonaaHbx0
namespace Go.Proofs.Ytpfjoeagblkonaa.Hb
open Go.RowKit Go.Proofs.YtpfjoeagblkonaaW.PrintWords Go.Proofs.YtpfjoeagblkonaaW.PrintLast Go.Proofs.YtpfjoeagblkonaaW.PrintMore
attribute [local go_sem] max2_int min2_int max_two min_two max_three min_three max_four min_four   -- for this text's walks alone
set_option linter.unusedVariables false
set_option linter.unusedSimpArgs false

/-! ### num_Get: function 12 -/
def num_Get.l0 : Nat → Int → List Int → Int → Int → Option (Int)
  | 0, _, _, _, _ => none
  | k + 1, x3, x6, x7, x8 => if x8 < x7 then (if 0 ≤ x8 then (if x8 < (x6.length : Int) then (num_Get.l0 k (Go.bits .or .u64 (IntKind.u64.wrap (x3 * 256)) (IntKind.u64.wrap (rd x6 x8))) x6 x7 (wrap64 (x8 + 1))) else (none)) else (none)) else (some x3)
def num_Get.f (k : Nat) (l0 : List Int) : Option (Int) := num_Get.l0 k 0 l0 (l0.length : Int) 0
theorem num_Get.mono_l : ∀ k, (∀ y0 y1 y2 y3, LeO (num_Get.l0 k y0 y1 y2 y3) (num_Get.l0 (k + 1) y0 y1 y2 y3))
  | 0 => fun _ _ _ _ r h => by simp [num_Get.l0] at h
  | k + 1 => by
    have ih0 := num_Get.mono_l k
    · intro y0 y1 y2 y3
      unfold num_Get.l0
      repeat' first
      | (with_reducible exact ih0 _ _ _ _)
      | (with_reducible exact LeO.refl _)
      | (with_reducible exact LeO.none _)
      | (with_reducible refine LeO.ite ?_ ?_)
      | (with_reducible refine LeO.bind ?_ (fun _ => ?_))
      | exact ih0 _ _ _ _
      | exact LeO.none _
      | refine LeO.ite ?_ ?_
      | refine LeO.bind ?_ (fun _ => ?_)
theorem num_Get.mono : ∀ a0 k, LeO (num_Get.f k a0) (num_Get.f (k + 1) a0) := by
  intro a0 k
  have ih0 := num_Get.mono_l k
  unfold num_Get.f
  repeat' first
      | (with_reducible exact ih0 _ _ _ _)
      | (with_reducible exact LeO.refl _)
      | (with_reducible exact LeO.none _)
      | (with_reducible refine LeO.ite ?_ ?_)
      | (with_reducible refine LeO.bind ?_ (fun _ => ?_))
      | exact ih0 _ _ _ _
      | exact LeO.none _
      | refine LeO.ite ?_ ?_
      | refine LeO.bind ?_ (fun _ => ?_)
set_option maxHeartbeats 8000000 in
set_option maxRecDepth 100000 in
theorem num_Get.calls (k : Nat) (A0 : Option Addr) (c0 : Nat) (l0 : List Int) (r : Int) (w : World) (hr0 : Kd.C (Kd.int .u8) w A0 l0.length l0) (hc0 : l0.length ≤ c0) (h : num_Get.f k l0 = some r) :
    Calls Try.prog 12 #[.slice A0 l0.length c0] w fun e w' => e = .returned (.int .u64 r) ∧ Drawn0 w w' := by
  have HR0 := Aside0.mk hr0
  have HC0 := Aside0.mk hc0
  clear hr0 hc0
  have H : (num_Get.l0 k 0 l0 (l0.length : Int) 0) = some r := h
  clear h
  have H' := Aside0.mk H
  clear H
  go_enter Try.func12, Try.ntmps12
  go_wp2
  go_loopg [3, 8] k (fun kq v3 v8 w' => ∃ (x3_1 : Int) (x8_1 : Int), v3 = .int .u64 x3_1 ∧ v8 = .int .i64 x8_1 ∧ Aside0 (num_Get.l0 kq x3_1 l0 (l0.length : Int) x8_1 = some r) ∧ Aside0 (kq ≤ k) ∧ Drawn0 w w')
  case atStart => exact ⟨(0), (0), (by first | rfl | (simp; done) | (simp [*]; done)), (by first | rfl | (simp; done) | (simp [*]; done)), H', ⟨Nat.le_refl _⟩, by repeat (first | exact Drawn0.refl _ | apply Drawn0.step)⟩
  case round =>
    clear H'
    try clear c1
    obtain ⟨x3_1, x8_1, rfl, rfl, HA, HK1, ⟨m1, rfl⟩⟩ := hrel
    cases gk with
    | zero => exact absurd HA.out (by simp [num_Get.l0])
    | succ k1 =>
      have H := HA.out
      clear HA
      simp only [num_Get.l0] at H
      by_cases c2 : x8_1 < (l0.length : Int)
      · rw [if_pos c2] at H
        have c2b0 : decide (x8_1 < (l0.length : Int)) = true := decide_eq_true c2
        clear c2
        by_cases c3 : 0 ≤ x8_1
        · rw [if_pos c3] at H
          have c3b0 : decide (0 ≤ x8_1) = true := decide_eq_true c3
          clear c3
          by_cases c4 : x8_1 < (l0.length : Int)
          · rw [if_pos c4] at H
            have c4b0 : decide (x8_1 < (l0.length : Int)) = true := decide_eq_true c4
            clear c4
            have H' := Aside0.mk H
            clear H
            have p101 : 0 ≤ (x8_1 : Int) := of_decide_eq_true (by first | (with_reducible assumption) | assumption)
            have q101 : x8_1 < (l0.length : Int) := of_decide_eq_true (by first | (with_reducible assumption) | assumption)
            obtain ⟨ad101, e101, hx101_0⟩ := Kd.at_int HR0.out x8_1 p101 q101
            cases e101
            replace p101 := eq_true p101
            replace q101 := eq_true q101
            go_wp2
            go_roundg k1
            case measure => have := HK1.out; omega
            case rel => exact ⟨(Go.bits .or .u64 (IntKind.u64.wrap (x3_1 * 256)) (IntKind.u64.wrap (rd l0 x8_1))), (wrap64 (x8_1 + 1)), (by first | rfl | (simp; done) | (simp [*]; done)), (by first | rfl | (simp; done) | (simp [*]; done)), H', ⟨by have := HK1.out; omega⟩, by repeat (first | exact Drawn0.refl _ | apply Drawn0.step)⟩
          · rw [if_neg c4] at H
            exact absurd H (by simp)
        · rw [if_neg c3] at H
          exact absurd H (by simp)
      · rw [if_neg c2] at H
        have c2b0 : decide (x8_1 < (l0.length : Int)) = false := decide_eq_false c2
        clear c2
        obtain rfl := Option.some.inj H
        go_wp2
        go_ret
        exact ⟨by first | rfl | (simp; done) | (simp [*]; done), by repeat (first | exact Drawn0.refl _ | apply Drawn0.step)⟩

/-! ### slices_Clone_byte_byte: function 13 -/
def slices_Clone_byte_byte.f (l0 : List Int) : Option (List Int) := if l0.length ≤ 1000000 then some l0 else none
theorem slices_Clone_byte_byte.empty (w : World) : Kd.R (Kd.int .u8) 5 (w.alloc (.cells #[] 5)) w.heap.size (fun _ => True) (.slice (some ⟨w.heap.size, 0, none⟩) 0 0) ([] : List Int) :=
  ⟨fun _ _ => trivial, [], World.ownsRow_lit (base := w.heap.size) (e := 5) (size := 1) w #[] 0 (Nat.le_refl _) (by simp) (by simp), Reps.none _ _⟩
set_option maxHeartbeats 2000000 in
set_option maxRecDepth 100000 in
theorem slices_Clone_byte_byte.calls (A0 : Option Addr) (c0 : Nat) (l0 : List Int) (r : List Int) (w : World) (hr0 : Kd.C (Kd.int .u8) w A0 l0.length l0) (hc0 : l0.length ≤ c0) (h : slices_Clone_byte_byte.f l0 = some r) :
    Calls Try.prog 13 #[.slice A0 l0.length c0] w fun e w' => ∃ v0_ : Value, e = .returned (v0_) ∧ Kd.R (Kd.int .u8) 5 w' w.heap.size (fun k_ => True) v0_ r ∧ Below w.heap.size w w' := by
  unfold slices_Clone_byte_byte.f at h
  by_cases hlen : l0.length ≤ 1000000
  · rw [if_pos hlen] at h
    obtain rfl := Option.some.inj h
    clear h
    have hu := Try.underlying22
    have q22 : ∀ (w : World) (a : Option Addr) (n c n' c' : Nat), (binOp .eql 22 (.slice a n c) (.slice none n' c')).run Try.prog w = .ok (.bool a.isNone) w := fun w a n c n' c' => Lib.run_eql_slice_nil w _ _ a n c n' c' Try.underlying22
    cases A0 with
    | none =>
      have h0 : l0 = [] := by
        cases l0 with
        | nil => rfl
        | cons x t =>
          obtain ⟨ad, e, _⟩ := hr0.2.2 (by simp)
          cases e
      subst h0
      clear hr0 hc0
      go_enter Try.func13, Try.ntmps13
      go_wp2
      go_ret
      exact ⟨_, rfl, Kd.R_nil _ _ _ _ _, Below.refl _ _⟩
    | some ad =>
      have HR0 := Aside0.mk hr0
      clear hr0 hc0
      go_enter Try.func13, Try.ntmps13
      go_wp2_with ((with_reducible refine gate_builtin (b := .append) (xs := #[.tmp 5, .tmp 6]) rfl ?_); at_builtin; refine Kd.R_append_rows (Kd.int .u8) (w0 := w) w.heap.size rfl (.tmp 5) (.tmp 6) 22 5 (.int .u8 0) 1 rfl Try.underlying22 (by kernel_rfl) rfl (by decide) (by omega) (.slice (some ⟨w.heap.size, 0, none⟩) 0 0) ([] : List Int) l0 _ _ _ (fun _ => True) (fun _ => False) rfl rfl ?aO ?aR (fun _ _ h => h) (fun _ h => h.elim) ?aF ?aB ?aS ?aL ?_; (case aR => exact Kd.C_alloc HR0.out _); (case aB => exact below_alloc (Below.refl _ _) _); (case aF => exact (fun _ _ => trivial)); (case aO => exact slices_Clone_byte_byte.empty w); (case aS => exact Nat.le_trans (Nat.le_refl _) (by simp)); (case aL => simp; omega); intro v1 w1 ho hb hg hat; have HO := Aside0.mk ho; have HB := Aside0.mk hb; clear ho hb hg hat)
      go_ret
      exact ⟨v1, rfl, HO.out, HB.out⟩
  · rw [if_neg hlen] at h
    cases h

/-! ### butteryref01_Get: function 14 -/
def butteryref01_Get.l0 : Nat → List Int → Int → Int → Option (Int)
  | 0, _, _, _ => none
  | k + 1, x0, x3, x4 => if x4 < (x0.length : Int) then (if 0 ≤ x4 then (butteryref01_Get.l0 k x0 (IntKind.u64.wrap ((IntKind.u64.wrap (x3 * 256)) + (IntKind.u64.wrap (rd x0 x4)))) (wrap64 (x4 + 1))) else (none)) else (some x3)
def butteryref01_Get.f (k : Nat) (l0 : List Int) : Option (Int) := butteryref01_Get.l0 k l0 0 0
theorem butteryref01_Get.mono_l : ∀ k, (∀ y0 y1 y2, LeO (butteryref01_Get.l0 k y0 y1 y2) (butteryref01_Get.l0 (k + 1) y0 y1 y2))
  | 0 => fun _ _ _ r h => by simp [butteryref01_Get.l0] at h
  | k + 1 => by
    have ih0 := butteryref01_Get.mono_l k
    · intro y0 y1 y2
      unfold butteryref01_Get.l0
      repeat' first
      | (with_reducible exact ih0 _ _ _)
      | (with_reducible exact LeO.refl _)
      | (with_reducible exact LeO.none _)
      | (with_reducible refine LeO.ite ?_ ?_)
      | (with_reducible refine LeO.bind ?_ (fun _ => ?_))
      | exact ih0 _ _ _
      | exact LeO.none _
      | refine LeO.ite ?_ ?_
      | refine LeO.bind ?_ (fun _ => ?_)
theorem butteryref01_Get.mono : ∀ a0 k, LeO (butteryref01_Get.f k a0) (butteryref01_Get.f (k + 1) a0) := by
  intro a0 k
  have ih0 := butteryref01_Get.mono_l k
  unfold butteryref01_Get.f
  repeat' first
      | (with_reducible exact ih0 _ _ _)
      | (with_reducible exact LeO.refl _)
      | (with_reducible exact LeO.none _)
      | (with_reducible refine LeO.ite ?_ ?_)
      | (with_reducible refine LeO.bind ?_ (fun _ => ?_))
      | exact ih0 _ _ _
      | exact LeO.none _
      | refine LeO.ite ?_ ?_
      | refine LeO.bind ?_ (fun _ => ?_)
set_option maxHeartbeats 8000000 in
set_option maxRecDepth 100000 in
theorem butteryref01_Get.calls (k : Nat) (A0 : Option Addr) (c0 : Nat) (l0 : List Int) (r : Int) (w : World) (hr0 : Kd.C (Kd.int .u8) w A0 l0.length l0) (hc0 : l0.length ≤ c0) (h : butteryref01_Get.f k l0 = some r) :
    Calls Try.prog 14 #[.slice A0 l0.length c0] w fun e w' => e = .returned (.int .u64 r) ∧ Drawn0 w w' := by
  have HR0 := Aside0.mk hr0
  have HC0 := Aside0.mk hc0
  clear hr0 hc0
  have H : (butteryref01_Get.l0 k l0 0 0) = some r := h
  clear h
  have H' := Aside0.mk H
  clear H
  go_enter Try.func14, Try.ntmps14
  go_wp2
  go_loopg [3, 4] k (fun kq v3 v4 w' => ∃ (x3_1 : Int) (x4_1 : Int), v3 = .int .u64 x3_1 ∧ v4 = .int .i64 x4_1 ∧ Aside0 (butteryref01_Get.l0 kq l0 x3_1 x4_1 = some r) ∧ Aside0 (kq ≤ k) ∧ Drawn0 w w')
  case atStart => exact ⟨(0), (0), (by first | rfl | (simp; done) | (simp [*]; done)), (by first | rfl | (simp; done) | (simp [*]; done)), H', ⟨Nat.le_refl _⟩, by repeat (first | exact Drawn0.refl _ | apply Drawn0.step)⟩
  case round =>
    clear H'
    try clear c1
    obtain ⟨x3_1, x4_1, rfl, rfl, HA, HK1, ⟨m1, rfl⟩⟩ := hrel
    cases gk with
    | zero => exact absurd HA.out (by simp [butteryref01_Get.l0])
    | succ k1 =>
      have H := HA.out
      clear HA
      simp only [butteryref01_Get.l0] at H
      by_cases c2 : x4_1 < (l0.length : Int)
      · rw [if_pos c2] at H
        have c2b0 : decide (x4_1 < (l0.length : Int)) = true := decide_eq_true c2
        clear c2
        by_cases c3 : 0 ≤ x4_1
        · rw [if_pos c3] at H
          have c3b0 : decide (0 ≤ x4_1) = true := decide_eq_true c3
          clear c3
          have H' := Aside0.mk H
          clear H
          have p102 : 0 ≤ (x4_1 : Int) := of_decide_eq_true (by first | (with_reducible assumption) | assumption)
          have q102 : x4_1 < (l0.length : Int) := of_decide_eq_true (by first | (with_reducible assumption) | assumption)
          obtain ⟨ad102, e102, hx102_0⟩ := Kd.at_int HR0.out x4_1 p102 q102
          cases e102
          replace p102 := eq_true p102
          replace q102 := eq_true q102
          go_wp2
          go_roundg k1
          case measure => have := HK1.out; omega
          case rel => exact ⟨(IntKind.u64.wrap ((IntKind.u64.wrap (x3_1 * 256)) + (IntKind.u64.wrap (rd l0 x4_1)))), (wrap64 (x4_1 + 1)), (by first | rfl | (simp; done) | (simp [*]; done)), (by first | rfl | (simp; done) | (simp [*]; done)), H', ⟨by have := HK1.out; omega⟩, by repeat (first | exact Drawn0.refl _ | apply Drawn0.step)⟩
        · rw [if_neg c3] at H
          exact absurd H (by simp)
      · rw [if_neg c2] at H
        have c2b0 : decide (x4_1 < (l0.length : Int)) = false := decide_eq_false c2
        clear c2
        obtain rfl := Option.some.inj H
        go_wp2
        go_ret
        exact ⟨by first | rfl | (simp; done) | (simp [*]; done), by repeat (first | exact Drawn0.refl _ | apply Drawn0.step)⟩

/-! ### binout_Read: function 7 -/
/-- Bytes as a number, the most significant one first. -/
def be (l : List Int) : Int := l.foldl (fun n x => n * 256 + x) 0
theorem u64_in (n : Int) (h0 : 0 ≤ n) (h1 : n < 18446744073709551616) : IntKind.u64.wrap n = n := by
  simp [IntKind.wrap, IntKind.bits, IntKind.signed]; omega
theorem u32_in (n : Int) (h0 : 0 ≤ n) (h1 : n < 4294967296) : IntKind.u32.wrap n = n := by
  simp [IntKind.wrap, IntKind.bits, IntKind.signed]; omega
theorem u16_in (n : Int) (h0 : 0 ≤ n) (h1 : n < 65536) : IntKind.u16.wrap n = n := by
  simp [IntKind.wrap, IntKind.bits, IntKind.signed]; omega
theorem or_byte (n x : Int) (h0 : 0 ≤ n) (h1 : n < 72057594037927936) (h2 : 0 ≤ x) (h3 : x < 256) : Go.bits .or .u64 (IntKind.u64.wrap (n * 256)) (IntKind.u64.wrap x) = n * 256 + x := by
  rw [u64_in (n * 256) (by omega) (by omega), u64_in x (by omega) (by omega)]
  exact bits_join .u64 64 (by decide) (fun n h0 h1 => u64_in n h0 (by omega)) 8 _ _ (by omega) (by omega) (by omega) h2 (by omega) (by omega)
theorem fold_lt : ∀ (l : List Int) (a : Int) (m : Nat), 0 ≤ a → a < 256 ^ m → (∀ x ∈ l, 0 ≤ x ∧ x ≤ 255) → 0 ≤ l.foldl (fun n x => n * 256 + x) a ∧ l.foldl (fun n x => n * 256 + x) a < 256 ^ (m + l.length)
  | [], a, m, h0, h1, _ => ⟨h0, by simpa using h1⟩
  | x :: l, a, m, h0, h1, h => by
    have hx := h x (by simp)
    have := fold_lt l (a * 256 + x) (m + 1) (by omega) (by rw [Int.pow_succ]; omega) (fun y hy => h y (by simp [hy]))
    simp only [List.foldl_cons, List.length_cons]
    rw [show m + (l.length + 1) = m + 1 + l.length by omega]
    exact this
theorem be_range (l : List Int) (h : ∀ x ∈ l, 0 ≤ x ∧ x ≤ 255) : 0 ≤ be l ∧ be l < 256 ^ l.length := by
  have := fold_lt l 0 0 (by omega) (by simp) h
  simpa [be] using this
theorem rd_mem (l : List Int) (i : Nat) (h : i < l.length) : rd l i ∈ l := by
  have : rd l (i : Int) = l[i] := by simp [rd, h]
  rw [this]
  exact List.getElem_mem _
theorem drop_cons_rd (l : List Int) (i : Nat) (h : i < l.length) : l.drop i = rd l i :: l.drop (i + 1) := by
  rw [List.drop_eq_getElem_cons h]
  simp [rd, h]
theorem get_go (l : List Int) (hb : ∀ x ∈ l, 0 ≤ x ∧ x ≤ 255) (hl : l.length ≤ 8) : ∀ (d i k : Nat) (a : Int), l.length - i = d → i ≤ l.length → d < k → 0 ≤ a → a < 256 ^ i →
    num_Get.l0 k a l (l.length : Int) (i : Int) = some ((l.drop i).foldl (fun n x => n * 256 + x) a) ∧ butteryref01_Get.l0 k l a (i : Int) = some ((l.drop i).foldl (fun n x => n * 256 + x) a) := by
  intro d
  induction d with
  | zero =>
    intro i k a hd hi hk h0 h1
    obtain ⟨k, rfl⟩ : ∃ m, k = m + 1 := ⟨k - 1, by omega⟩
    obtain rfl : i = l.length := by omega
    simp only [num_Get.l0, butteryref01_Get.l0]
    rw [if_neg (by omega), if_neg (by omega), List.drop_length]
    exact ⟨rfl, rfl⟩
  | succ d ih =>
    intro i k a hd hi hk h0 h1
    obtain ⟨k, rfl⟩ : ∃ m, k = m + 1 := ⟨k - 1, by omega⟩
    have hlt : i < l.length := by omega
    have hx := hb (rd l i) (rd_mem l i hlt)
    have hp := Int.ofNat_le.2 (Nat.pow_le_pow_right (n := 256) (by decide) (show i ≤ 7 by omega))
    rw [Int.natCast_pow, Int.natCast_pow, show ((256 : Nat) : Int) = 256 from rfl] at hp
    have hp2 : (256 : Int) ^ 7 = 72057594037927936 := by decide
    have hw : wrap64 ((i : Int) + 1) = ((i + 1 : Nat) : Int) := by unfold wrap64; omega
    have ih' := ih (i + 1) k (a * 256 + rd l i) (by omega) (by omega) (by omega) (by omega) (by rw [Int.pow_succ]; omega)
    simp only [num_Get.l0, butteryref01_Get.l0]
    rw [if_pos (by omega), if_pos (by omega), if_pos (by omega), if_pos (by omega), if_pos (by omega), or_byte _ _ h0 (by omega) hx.1 (by omega), hw, u64_in (a * 256) (by omega) (by omega), u64_in (rd l i) (by omega) (by omega), u64_in _ (by omega) (by omega), drop_cons_rd l i hlt, List.foldl_cons]
    exact ih'
theorem get_be (l : List Int) (hb : ∀ x ∈ l, 0 ≤ x ∧ x ≤ 255) (hl : l.length ≤ 8) : num_Get.f 9 l = some (be l) :=
  (get_go l hb hl l.length 0 9 0 (by omega) (by omega) (by omega) (by omega) (by simp)).1
theorem rget_be (l : List Int) (hb : ∀ x ∈ l, 0 ≤ x ∧ x ≤ 255) (hl : l.length ≤ 8) : butteryref01_Get.f 9 l = some (be l) :=
  (get_go l hb hl l.length 0 9 0 (by omega) (by omega) (by omega) (by omega) (by simp)).2
/-- A store of what lies there already. -/
theorem setCell_same {w : World} {g i : Nat} {cs : Array Value} {t : TypeId} {fz : Nat × Nat} {v : Value} (h : w.heap[g]? = some (.cells cs t fz)) (hv : cs[i]? = some v) : w.setCell ⟨g, i, none⟩ v = w := by
  have hg := (Array.getElem?_eq_some_iff.1 h).1
  have he := (Array.getElem?_eq_some_iff.1 h).2
  have hi := (Array.getElem?_eq_some_iff.1 hv).1
  have hiv := (Array.getElem?_eq_some_iff.1 hv).2
  cases w with
  | mk heap tape drawn os output =>
    unfold World.setCell
    congr 1
    refine Array.ext (by simp) fun j h1 h2 => ?_
    rw [Array.getElem_modify]
    by_cases hj : g = j
    · subst hj
      rw [if_pos rfl]
      have he' : heap[g] = .cells cs t fz := he
      rw [he']
      show Obj.cells (cs.setIfInBounds i v) t fz = _
      congr 1
      refine Array.ext (by simp) fun k h3 h4 => ?_
      rw [Array.getElem_setIfInBounds]
      split
      · rename_i e; subst e; exact hiv.symm
      · rfl
    · rw [if_neg hj]
theorem C_set_far {W : World} {b g j n : Nat} {v : Value} {xs : List Int} (h : Kd.C (Kd.int .u8) W (some ⟨b, 0, none⟩) n xs) (hne : b ≠ g) : Kd.C (Kd.int .u8) (W.setCell ⟨g, j, none⟩ v) (some ⟨b, 0, none⟩) n xs := by
  refine ⟨h.1, h.2.1, fun hn => ?_⟩
  obtain ⟨ad, e, hc⟩ := h.2.2 hn
  obtain rfl := Option.some.inj e
  refine ⟨_, rfl, fun j' p hj => ?_⟩
  obtain ⟨cs, h1, h2, h3⟩ := hc j' p hj
  refine ⟨cs, h1, h2, fun i u hu => ?_⟩
  have := h3 i u hu
  rw [add_plain] at this ⊢
  rw [World.cell?_setCell_far _ _ _ _ (fun e => hne e.symm)]
  exact this
def cut (l : List Int) (a b : Nat) : List Int := (l.take b).drop a
theorem cut_len (l : List Int) (a b : Nat) (h : b ≤ l.length) : (cut l a b).length = b - a := by
  unfold cut; rw [List.length_drop, List.length_take]; omega
theorem cut_bytes {l : List Int} (a b : Nat) (h : ∀ x ∈ l, 0 ≤ x ∧ x ≤ 255) : ∀ x ∈ cut l a b, 0 ≤ x ∧ x ≤ 255 := fun x hx => h x (List.mem_of_mem_take (List.mem_of_mem_drop hx))
def ReadNone (l : List Int) : Prop := l.length < 24 ∨ rd l 0 ≠ 129
def ReadShort (l : List Int) : Prop := 1048576 ≤ be (cut l 8 12) ∨ (l.length : Int) < 24 + be (cut l 8 12) ∨ be (cut l 8 12) < rd l 4 + be (cut l 2 4)
/-- The results of Read. -/
structure Res where
  c : Int
  s : Int
  o : Int
  q : Int
  x : List Int
  k : List Int
  v : List Int
  u : Int
def zeroRes : Res := ⟨0, 0, 0, 0, [], [], [], 0⟩
def fullRes (l : List Int) : Res :=
  ⟨rd l 1, be (cut l 6 8), be (cut l 12 16), be (cut l 16 24), (cut l 24 (24 + (be (cut l 8 12)).toNat)).take (rd l 4).toNat, cut (cut l 24 (24 + (be (cut l 8 12)).toNat)) (rd l 4).toNat ((rd l 4).toNat + (be (cut l 2 4)).toNat),
    (cut l 24 (24 + (be (cut l 8 12)).toNat)).drop ((rd l 4).toNat + (be (cut l 2 4)).toNat), 24 + be (cut l 8 12)⟩
def ReadIs (l : List Int) (r : Res) : Prop := (ReadNone l ∨ ReadShort l → r = zeroRes) ∧ (¬ ReadNone l → ¬ ReadShort l → r = fullRes l)
/-- What binout.Read hands back. -/
def ReadPost (l0 : List Int) (w : World) (e : Ending) (w' : World) : Prop :=
  ∃ (r : Res) (A1 A2 A3 : Option Addr) (c1 c2 c3 : Nat), e = .returned (.tuple #[.int .i64 r.c, .int .u16 r.s, .int .u32 r.o, .int .u64 r.q, .agg #[.slice A1 r.x.length c1, .slice A2 r.k.length c2, .slice A3 r.v.length c3], .int .i64 r.u]) ∧
    Kd.C (Kd.int .u8) w' A1 r.x.length r.x ∧ Kd.C (Kd.int .u8) w' A2 r.k.length r.k ∧ Kd.C (Kd.int .u8) w' A3 r.v.length r.v ∧ r.x.length ≤ c1 ∧ r.k.length ≤ c2 ∧ r.v.length ≤ c3 ∧ Below w.heap.size w w' ∧ ReadIs l0 r
theorem readPost_zero {l0 : List Int} {w w' : World} (hB : Below w.heap.size w w') (h : ReadNone l0 ∨ ReadShort l0) : ReadPost l0 w (.returned (.tuple #[.int .i64 0, .int .u16 0, .int .u32 0, .int .u64 0, .agg #[.slice none 0 0, .slice none 0 0, .slice none 0 0], .int .i64 0])) w' :=
  ⟨zeroRes, none, none, none, 0, 0, 0, rfl, Kd.C_nil _ _, Kd.C_nil _ _, Kd.C_nil _ _, Nat.le_refl _, Nat.le_refl _, Nat.le_refl _, hB, fun _ => rfl, fun h1 h2 => absurd h (fun h => h.elim h1 h2)⟩
set_option maxHeartbeats 1000000 in
set_option maxRecDepth 100000 in
theorem read_short (A0 : Option Addr) (c0 : Nat) (l0 : List Int) (w : World) (hr0 : Kd.C (Kd.int .u8) w A0 l0.length l0) (hc0 : l0.length ≤ c0) (h : l0.length < 24) :
    Calls Try.prog 7 #[.slice A0 l0.length c0] w (ReadPost l0 w) := by
  have hh : ((l0.length : Int) < 24) := by omega
  go_enter Try.func7, Try.ntmps7
  go_wp2
  refine bodyPost_ret (v := .tuple #[.int .i64 0, .int .u16 0, .int .u32 0, .int .u64 0, .agg #[.slice none 0 0, .slice none 0 0, .slice none 0 0], .int .i64 0]) (by simp [results, Try.results7, go_sem]) rfl ?_
  exact readPost_zero (below_alloc (Below.refl _ _) _) (.inl (.inl h))
set_option maxHeartbeats 1000000 in
set_option maxRecDepth 100000 in
theorem read_other (A0 : Option Addr) (c0 : Nat) (l0 : List Int) (w : World) (hr0 : Kd.C (Kd.int .u8) w A0 l0.length l0) (hc0 : l0.length ≤ c0) (h : 24 ≤ l0.length) (h1 : rd l0 0 ≠ 129) :
    Calls Try.prog 7 #[.slice A0 l0.length c0] w (ReadPost l0 w) := by
  obtain ⟨ad, hA, hcell⟩ := Kd.at_int hr0 0 (by omega) (by omega)
  have ha0 : ad.add (0 : Int).toNat = ad := by simp [Addr.add]
  rw [ha0] at hcell
  subst hA
  have hm := hr0.2.1
  have hh : ((l0.length : Int) < 24) = False := eq_false (by omega)
  have hp : (0 : Int) < (l0.length : Int) := by omega
  have hd : decide ((l0.length : Int) < 24) = false := decide_eq_false (by omega)
  have hx : (rd l0 0 != 129) = true := bne_iff_ne.mpr h1
  have hcA : ∀ o : Obj, (w.alloc o).cell? ad = some (.int .u8 (rd l0 0)) := fun o => pw_cell_below (below_alloc (Below.refl _ _) o) hcell
  have HX := Aside0.mk h1
  clear hr0 h1 ha0
  go_enter Try.func7, Try.ntmps7
  go_wp2
  refine bodyPost_ret (v := .tuple #[.int .i64 0, .int .u16 0, .int .u32 0, .int .u64 0, .agg #[.slice none 0 0, .slice none 0 0, .slice none 0 0], .int .i64 0]) (by simp [results, Try.results7, go_sem]) rfl ?_
  exact readPost_zero (below_alloc (Below.refl _ _) _) (.inl (.inr HX.out))
theorem byte_at (l : List Int) (i : Nat) (h : ∀ x ∈ l, 0 ≤ x ∧ x ≤ 255) : 0 ≤ rd l i ∧ rd l i ≤ 255 := by
  by_cases hi : i < l.length
  · exact h _ (rd_mem l i hi)
  · have : rd l (i : Int) = 0 := by simp [rd, hi]
    omega
theorem add_pos (ad : Addr) (j : Nat) (h : 0 < j) : ad.add j = ⟨ad.block, ad.off + j, none⟩ := by
  have := add_field ad 0 j h
  rwa [Nat.zero_add, show ad.add 0 = ad by simp [Addr.add]] at this
theorem cutC (A : Option Addr) (c : Nat) (l : List Int) (a b : Nat) (h0 : a ≤ b) (hb : b ≤ l.length) (hc : l.length ≤ c) :
    ∃ A' : Option Addr, (∀ W : World, (Instr.slice 22 (.slice A l.length c) (some (.int .i64 (a : Int))) (some (.int .i64 (b : Int))) none).run Try.prog W = .ok (.slice A' (b - a) (c - a)) W) ∧ (∀ w, Kd.C (Kd.int .u8) w A l.length l → Kd.C (Kd.int .u8) w A' (b - a) (cut l a b)) := by
  obtain ⟨i0, hi0, _, hsz, _⟩ := info_parts (show ((Try.prog).info? 5).map (fun i => (i.zero, i.size, i.bytes)) = some (some (.int .u8 0), 1, 1) by kernel_rfl)
  obtain ⟨A', h1, h2, _⟩ := print_mid_of (P := Try.prog) (Value.int .u8) 0 22 5 .i64 .i64 Try.underlying22 hi0 hsz A c l a b (by omega) (by omega) (by omega) hc
  have e : ((l.take (b : Int).toNat).drop (a : Int).toNat) = cut l a b := rfl
  have el : (cut l a b).length = b - a := cut_len l a b hb
  rw [e, el] at h1 h2
  exact ⟨A', h1, fun w h => Kd.C_of_reads (h2 w (Kd.reads_of_C (enc := Value.int .u8) (d := (0 : Int)) (h1 := fun _ => rfl) h))⟩
theorem getC (A : Option Addr) (n c : Nat) (l : List Int) (hb : ∀ x ∈ l, 0 ≤ x ∧ x ≤ 255) (hn : l.length = n) (h8 : n ≤ 8) (hc : n ≤ c) (w W : World) (hB : Below w.heap.size w W) (hC : Kd.C (Kd.int .u8) w A n l) :
    Calls Try.prog 12 #[.slice A n c] W fun e w' => e = .returned (.int .u64 (be l)) ∧ Drawn0 W w' := by
  subst hn
  exact num_Get.calls 9 A c l (be l) W (Kd.C_below hC hB) hc (get_be l hb h8)
set_option maxHeartbeats 2000000 in
set_option maxRecDepth 100000 in
theorem read_small (A0 : Option Addr) (c0 : Nat) (l0 : List Int) (w : World) (hr0 : Kd.C (Kd.int .u8) w A0 l0.length l0) (hc0 : l0.length ≤ c0) (h : 24 ≤ l0.length) (h1 : rd l0 0 = 129) (hb : ∀ x ∈ l0, 0 ≤ x ∧ x ≤ 255) (hm6 : l0.length ≤ 1000000) (hsh : ReadShort l0) :
    Calls Try.prog 7 #[.slice A0 l0.length c0] w (ReadPost l0 w) := by
  obtain ⟨ad, hA, hcell⟩ := Kd.at_int hr0 0 (by omega) (by omega)
  have ha0 : ad.add (0 : Int).toNat = ad := by simp [Addr.add]
  rw [ha0] at hcell
  subst hA
  obtain ⟨ad1, hA1, hcell4⟩ := Kd.at_int hr0 4 (by omega) (by omega)
  obtain rfl := Option.some.inj hA1
  rw [show (4 : Int).toNat = 4 from rfl, add_pos ad 4 (by omega)] at hcell4
  obtain ⟨A2, hs2, hC2⟩ := cutC (some ad) c0 l0 2 4 (by omega) (by omega) hc0
  obtain ⟨A8, hs8, hC8⟩ := cutC (some ad) c0 l0 8 12 (by omega) (by omega) hc0
  replace hs2 : ∀ W : World, (Instr.slice 22 (.slice (some ad) l0.length c0) (some (.int .i64 2)) (some (.int .i64 4)) none).run Try.prog W = .ok (.slice A2 2 (c0 - 2)) W := hs2
  have HG2 := Aside0.mk (fun W hB => getC A2 2 (c0 - 2) (cut l0 2 4) (cut_bytes 2 4 hb) (cut_len l0 2 4 (by omega)) (by omega) (by omega) w W hB (hC2 w hr0))
  replace hs8 : ∀ W : World, (Instr.slice 22 (.slice (some ad) l0.length c0) (some (.int .i64 8)) (some (.int .i64 12)) none).run Try.prog W = .ok (.slice A8 4 (c0 - 8)) W := hs8
  have HG8 := Aside0.mk (fun W hB => getC A8 4 (c0 - 8) (cut l0 8 12) (cut_bytes 8 12 hb) (cut_len l0 8 12 (by omega)) (by omega) (by omega) w W hB (hC8 w hr0))
  have hm := hr0.2.1
  have hd : decide ((l0.length : Int) < 24) = false := decide_eq_false (by omega)
  have hx : (rd l0 0 != 129) = false := bne_eq_false_iff_eq.mpr h1
  have hcA : ∀ o : Obj, (w.alloc o).cell? ad = some (.int .u8 (rd l0 0)) := fun o => pw_cell_below (below_alloc (Below.refl _ _) o) hcell
  have hcB : ∀ o : Obj, (w.alloc o).cell? ⟨ad.block, ad.off + 4, none⟩ = some (.int .u8 (rd l0 4)) := fun o => pw_cell_below (below_alloc (Below.refl _ _) o) hcell4
  have hp : (0 : Int) < (l0.length : Int) := by omega
  have hb4 := byte_at l0 4 hb
  have hz := be_range (cut l0 8 12) (cut_bytes 8 12 hb)
  rw [cut_len l0 8 12 (by omega), show (256 : Int) ^ (12 - 8) = 4294967296 from rfl] at hz
  have hk := be_range (cut l0 2 4) (cut_bytes 2 4 hb)
  rw [cut_len l0 2 4 (by omega), show (256 : Int) ^ (4 - 2) = 65536 from rfl] at hk
  obtain ⟨hz0, hz1⟩ := hz
  obtain ⟨hk0, hk1⟩ := hk
  obtain ⟨hb0, hb1⟩ := hb4
  have HSH := Aside0.mk hsh
  have HR := Aside0.mk hr0
  have HBY := Aside0.mk hb
  have p4 : (4 : Int) < (l0.length : Int) := by omega
  clear hr0 h1 ha0 hb hC2 hC8 hcell hcell4
  have hsh' := hsh
  unfold ReadShort at hsh
  have e4 : rd l0 ((4 : Nat) : Int) = rd l0 4 := rfl
  rw [e4] at hb0 hb1
  clear e4 hsh'
  generalize rd l0 4 = x at *
  generalize be (cut l0 2 4) = k at *
  generalize be (cut l0 8 12) = z at *
  generalize rd l0 0 = y at *
  by_cases q1 : 1048576 ≤ z
  · have r1 : decide (z ≥ 1048576) = true := decide_eq_true q1
    go_enter Try.func7, Try.ntmps7
    go_wp2
    go_region_held3 (fun w' => w'.cell? ⟨ad.block, ad.off + 4, none⟩ = some (.int .u8 x)) (go_keep)
      ((first | (go_at_call 12; (with_reducible refine (HG2.out _ ?_).mono ?_); (repeat (first | exact Below.refl _ _ | apply below_alloc | apply below_drew | apply pw_below_drewN)); rintro e w' ⟨rfl, ⟨m, rfl⟩⟩) | (go_at_call 12; (with_reducible refine (HG8.out _ ?_).mono ?_); (repeat (first | exact Below.refl _ _ | apply below_alloc | apply below_drew | apply pw_below_drewN)); rintro e w' ⟨rfl, ⟨m, rfl⟩⟩)))
    go_wp2
    refine bodyPost_ret (v := .tuple #[.int .i64 0, .int .u16 0, .int .u32 0, .int .u64 0, .agg #[.slice none 0 0, .slice none 0 0, .slice none 0 0], .int .i64 0]) (by simp [results, Try.results7, go_sem]) rfl ?_
    exact readPost_zero (by repeat (first | exact Below.refl _ _ | apply below_alloc | apply below_drew | apply pw_below_drewN)) (.inr HSH.out)
  · have r1 : decide (z ≥ 1048576) = false := decide_eq_false q1
    by_cases q2 : (l0.length : Int) < 24 + z
    · have r2 : decide ((l0.length : Int) < 24 + z) = true := decide_eq_true q2
      go_enter Try.func7, Try.ntmps7
      go_wp2
      go_region_held3 (fun w' => w'.cell? ⟨ad.block, ad.off + 4, none⟩ = some (.int .u8 x)) (go_keep)
        ((first | (go_at_call 12; (with_reducible refine (HG2.out _ ?_).mono ?_); (repeat (first | exact Below.refl _ _ | apply below_alloc | apply below_drew | apply pw_below_drewN)); rintro e w' ⟨rfl, ⟨m, rfl⟩⟩) | (go_at_call 12; (with_reducible refine (HG8.out _ ?_).mono ?_); (repeat (first | exact Below.refl _ _ | apply below_alloc | apply below_drew | apply pw_below_drewN)); rintro e w' ⟨rfl, ⟨m, rfl⟩⟩)))
      go_wp2
      refine bodyPost_ret (v := .tuple #[.int .i64 0, .int .u16 0, .int .u32 0, .int .u64 0, .agg #[.slice none 0 0, .slice none 0 0, .slice none 0 0], .int .i64 0]) (by simp [results, Try.results7, go_sem]) rfl ?_
      exact readPost_zero (by repeat (first | exact Below.refl _ _ | apply below_alloc | apply below_drew | apply pw_below_drewN)) (.inr HSH.out)
    · have r2 : decide ((l0.length : Int) < 24 + z) = false := decide_eq_false q2
      have q3 : z < x + k := by rcases hsh with h | h | h <;> omega
      have r3 : decide (x + k > z) = true := decide_eq_true q3
      go_enter Try.func7, Try.ntmps7
      go_wp2
      go_region_held3 (fun w' => w'.cell? ⟨ad.block, ad.off + 4, none⟩ = some (.int .u8 x)) (go_keep)
        ((first | (go_at_call 12; (with_reducible refine (HG2.out _ ?_).mono ?_); (repeat (first | exact Below.refl _ _ | apply below_alloc | apply below_drew | apply pw_below_drewN)); rintro e w' ⟨rfl, ⟨m, rfl⟩⟩) | (go_at_call 12; (with_reducible refine (HG8.out _ ?_).mono ?_); (repeat (first | exact Below.refl _ _ | apply below_alloc | apply below_drew | apply pw_below_drewN)); rintro e w' ⟨rfl, ⟨m, rfl⟩⟩)))
      go_wp2
      refine bodyPost_ret (v := .tuple #[.int .i64 0, .int .u16 0, .int .u32 0, .int .u64 0, .agg #[.slice none 0 0, .slice none 0 0, .slice none 0 0], .int .i64 0]) (by simp [results, Try.results7, go_sem]) rfl ?_
      exact readPost_zero (by repeat (first | exact Below.refl _ _ | apply below_alloc | apply below_drew | apply pw_below_drewN)) (.inr HSH.out)
theorem parts3 (B : Option Addr) (cB : Nat) (l : List Int) (x k : Nat) (h : x + k ≤ l.length) (hc : l.length ≤ cB) :
    ∃ (B2 B3 : Option Addr) (n3 c3 : Nat), n3 = l.length - (x + k) ∧ n3 ≤ c3 ∧ (∀ W : World, (Instr.slice 22 (.slice B l.length cB) none (some (.int .i64 (x : Int))) (some (.int .i64 (x : Int)))).run Try.prog W = .ok (.slice B x x) W) ∧
      (∀ W : World, (Instr.slice 22 (.slice B l.length cB) (some (.int .i64 (x : Int))) (some (.int .i64 ((x : Int) + (k : Int)))) (some (.int .i64 ((x : Int) + (k : Int))))).run Try.prog W = .ok (.slice B2 k k) W) ∧
      (∀ W : World, (Instr.slice 22 (.slice B l.length cB) (some (.int .i64 ((x : Int) + (k : Int)))) none none).run Try.prog W = .ok (.slice B3 n3 c3) W) ∧
      (∀ w, Kd.C (Kd.int .u8) w B l.length l → Kd.C (Kd.int .u8) w B x (l.take x) ∧ Kd.C (Kd.int .u8) w B2 k (cut l x (x + k)) ∧ Kd.C (Kd.int .u8) w B3 n3 (l.drop (x + k))) := by
  obtain ⟨i0, hi0, _, hsz, _⟩ := info_parts (show ((Try.prog).info? 5).map (fun i => (i.zero, i.size, i.bytes)) = some (some (.int .u8 0), 1, 1) by kernel_rfl)
  have e : (x : Int) + (k : Int) = ((x + k : Nat) : Int) := by omega
  obtain ⟨a1, a2, _⟩ := cut3_take (P := Try.prog) (Value.int .u8) 0 22 5 .i64 .i64 Try.underlying22 hi0 hsz B cB l (x : Int) (by omega) (by omega) hc
  obtain ⟨B2, b1, b2, _⟩ := cut3_mid (P := Try.prog) (Value.int .u8) 0 22 5 .i64 .i64 .i64 Try.underlying22 hi0 hsz B cB l (x : Int) ((x + k : Nat) : Int) (by omega) (by omega) (by omega) hc
  obtain ⟨B3, c1, c2, _⟩ := print_drop_of (P := Try.prog) (Value.int .u8) 0 22 5 .i64 Try.underlying22 hi0 hsz B cB l ((x + k : Nat) : Int) (by omega) (by omega) hc
  rw [e]
  have l1 : (l.take (x : Int).toNat).length = x := by rw [List.length_take]; omega
  have l2 : ((l.take ((x + k : Nat) : Int).toNat).drop (x : Int).toNat).length = k := by rw [List.length_drop, List.length_take]; omega
  have l3 : (l.drop ((x + k : Nat) : Int).toNat).length = l.length - (x + k) := by rw [List.length_drop]; omega
  rw [l1] at a1 a2
  rw [l2, show ((x + k : Nat) : Int).toNat - (x : Int).toNat = k by omega] at b1
  rw [l2] at b2
  rw [l3] at c1 c2
  refine ⟨B2, B3, _, _, rfl, ?_, a1, b1, c1, fun w h => ?_⟩
  · omega
  · have hr := Kd.reads_of_C (enc := Value.int .u8) (d := (0 : Int)) (h1 := fun _ => rfl) h
    exact ⟨Kd.C_of_reads (a2 w hr), Kd.C_of_reads (b2 w hr), Kd.C_of_reads (c2 w hr)⟩
set_option maxHeartbeats 2000000 in
set_option maxRecDepth 100000 in
theorem read_full (A0 : Option Addr) (c0 : Nat) (l0 : List Int) (w : World) (hr0 : Kd.C (Kd.int .u8) w A0 l0.length l0) (hc0 : l0.length ≤ c0) (h : 24 ≤ l0.length) (h1 : rd l0 0 = 129) (hb : ∀ x ∈ l0, 0 ≤ x ∧ x ≤ 255) (hm6 : l0.length ≤ 1000000) (hsh : ¬ ReadShort l0) :
    Calls Try.prog 7 #[.slice A0 l0.length c0] w (ReadPost l0 w) := by
  have HNS := Aside0.mk (show ¬ (ReadNone l0 ∨ ReadShort l0) from fun h => h.elim (fun h => h.elim (by omega) (fun h => h h1)) hsh)
  obtain ⟨ad, hA, hcell⟩ := Kd.at_int hr0 0 (by omega) (by omega)
  have ha0 : ad.add (0 : Int).toNat = ad := by simp [Addr.add]
  rw [ha0] at hcell
  subst hA
  obtain ⟨ad1, hA1, hcell4⟩ := Kd.at_int hr0 4 (by omega) (by omega)
  obtain rfl := Option.some.inj hA1
  rw [show (4 : Int).toNat = 4 from rfl, add_pos ad 4 (by omega)] at hcell4
  obtain ⟨A2, hs2, hC2⟩ := cutC (some ad) c0 l0 2 4 (by omega) (by omega) hc0
  obtain ⟨A8, hs8, hC8⟩ := cutC (some ad) c0 l0 8 12 (by omega) (by omega) hc0
  replace hs2 : ∀ W : World, (Instr.slice 22 (.slice (some ad) l0.length c0) (some (.int .i64 2)) (some (.int .i64 4)) none).run Try.prog W = .ok (.slice A2 2 (c0 - 2)) W := hs2
  obtain ⟨ad2, hA2, hcell1⟩ := Kd.at_int hr0 1 (by omega) (by omega)
  obtain rfl := Option.some.inj hA2
  rw [show (1 : Int).toNat = 1 from rfl, add_pos ad 1 (by omega)] at hcell1
  obtain ⟨A6, hs6, hC6⟩ := cutC (some ad) c0 l0 6 8 (by omega) (by omega) hc0
  obtain ⟨A12, hs12, hC12⟩ := cutC (some ad) c0 l0 12 16 (by omega) (by omega) hc0
  obtain ⟨A16, hs16, hC16⟩ := cutC (some ad) c0 l0 16 24 (by omega) (by omega) hc0
  replace hs6 : ∀ W : World, (Instr.slice 22 (.slice (some ad) l0.length c0) (some (.int .i64 6)) (some (.int .i64 8)) none).run Try.prog W = .ok (.slice A6 2 (c0 - 6)) W := hs6
  have HG6 := Aside0.mk (fun W hB => getC A6 2 (c0 - 6) (cut l0 6 8) (cut_bytes 6 8 hb) (cut_len l0 6 8 (by omega)) (by omega) (by omega) w W hB (hC6 w hr0))
  replace hs12 : ∀ W : World, (Instr.slice 22 (.slice (some ad) l0.length c0) (some (.int .i64 12)) (some (.int .i64 16)) none).run Try.prog W = .ok (.slice A12 4 (c0 - 12)) W := hs12
  have HG12 := Aside0.mk (fun W hB => getC A12 4 (c0 - 12) (cut l0 12 16) (cut_bytes 12 16 hb) (cut_len l0 12 16 (by omega)) (by omega) (by omega) w W hB (hC12 w hr0))
  replace hs16 : ∀ W : World, (Instr.slice 22 (.slice (some ad) l0.length c0) (some (.int .i64 16)) (some (.int .i64 24)) none).run Try.prog W = .ok (.slice A16 8 (c0 - 16)) W := hs16
  have HG16 := Aside0.mk (fun W hB => getC A16 8 (c0 - 16) (cut l0 16 24) (cut_bytes 16 24 hb) (cut_len l0 16 24 (by omega)) (by omega) (by omega) w W hB (hC16 w hr0))
  have HG2 := Aside0.mk (fun W hB => getC A2 2 (c0 - 2) (cut l0 2 4) (cut_bytes 2 4 hb) (cut_len l0 2 4 (by omega)) (by omega) (by omega) w W hB (hC2 w hr0))
  replace hs8 : ∀ W : World, (Instr.slice 22 (.slice (some ad) l0.length c0) (some (.int .i64 8)) (some (.int .i64 12)) none).run Try.prog W = .ok (.slice A8 4 (c0 - 8)) W := hs8
  have HG8 := Aside0.mk (fun W hB => getC A8 4 (c0 - 8) (cut l0 8 12) (cut_bytes 8 12 hb) (cut_len l0 8 12 (by omega)) (by omega) (by omega) w W hB (hC8 w hr0))
  have hm := hr0.2.1
  have hd : decide ((l0.length : Int) < 24) = false := decide_eq_false (by omega)
  have hx : (rd l0 0 != 129) = false := bne_eq_false_iff_eq.mpr h1
  have hcA : ∀ o : Obj, (w.alloc o).cell? ad = some (.int .u8 (rd l0 0)) := fun o => pw_cell_below (below_alloc (Below.refl _ _) o) hcell
  have hcB : ∀ o : Obj, (w.alloc o).cell? ⟨ad.block, ad.off + 4, none⟩ = some (.int .u8 (rd l0 4)) := fun o => pw_cell_below (below_alloc (Below.refl _ _) o) hcell4
  have hp : (0 : Int) < (l0.length : Int) := by omega
  have hb4 := byte_at l0 4 hb
  have hz := be_range (cut l0 8 12) (cut_bytes 8 12 hb)
  rw [cut_len l0 8 12 (by omega), show (256 : Int) ^ (12 - 8) = 4294967296 from rfl] at hz
  have hk := be_range (cut l0 2 4) (cut_bytes 2 4 hb)
  rw [cut_len l0 2 4 (by omega), show (256 : Int) ^ (4 - 2) = 65536 from rfl] at hk
  obtain ⟨hz0, hz1⟩ := hz
  obtain ⟨hk0, hk1⟩ := hk
  obtain ⟨hb0, hb1⟩ := hb4
  have hcD : ∀ o : Obj, (w.alloc o).cell? ⟨ad.block, ad.off + 1, none⟩ = some (.int .u8 (rd l0 1)) := fun o => pw_cell_below (below_alloc (Below.refl _ _) o) hcell1
  have HC1 := Aside0.mk hcell1
  have hadlt := World.block_lt_of_cell? w ad hcell
  unfold ReadShort at hsh
  have hu := Try.underlying22
  have h6 := be_range (cut l0 6 8) (cut_bytes 6 8 hb)
  rw [cut_len l0 6 8 (by omega), show (256 : Int) ^ (8 - 6) = 65536 from rfl] at h6
  have h12 := be_range (cut l0 12 16) (cut_bytes 12 16 hb)
  rw [cut_len l0 12 16 (by omega), show (256 : Int) ^ (16 - 12) = 4294967296 from rfl] at h12
  have w6 := u16_in _ h6.1 h6.2
  have w12 := u32_in _ h12.1 h12.2
  have hb9 := byte_at l0 1 hb
  obtain ⟨hb90, hb91⟩ := hb9
  have e1 : rd l0 ((1 : Nat) : Int) = rd l0 1 := rfl
  rw [e1] at hb90 hb91
  clear e1
  clear h6 h12
  obtain ⟨FR, hFR⟩ : ∃ FR, fullRes l0 = FR := ⟨_, rfl⟩
  have HFR := Aside0.mk hFR
  unfold fullRes at hFR
  have HFull := Aside0.mk hFR
  clear hFR
  have HR := Aside0.mk hr0
  have HBY := Aside0.mk hb
  have p1 : (1 : Int) < (l0.length : Int) := by omega
  have p4 : (4 : Int) < (l0.length : Int) := by omega
  clear h1 ha0 hb hC2 hC8 hcell hcell4 hcell1 hC6 hC12 hC16
  have e4 : rd l0 ((4 : Nat) : Int) = rd l0 4 := rfl
  rw [e4] at hb0 hb1
  clear e4
  generalize rd l0 1 = cc at *
  generalize be (cut l0 6 8) = ss at *
  generalize be (cut l0 12 16) = oo at *
  generalize be (cut l0 16 24) = qq at *
  generalize rd l0 4 = x at *
  generalize be (cut l0 2 4) = k at *
  generalize be (cut l0 8 12) = z at *
  generalize rd l0 0 = y at *
  obtain ⟨z, rfl⟩ := Int.eq_ofNat_of_zero_le hz0
  obtain ⟨x, rfl⟩ := Int.eq_ofNat_of_zero_le hb0
  obtain ⟨k, rfl⟩ := Int.eq_ofNat_of_zero_le hk0
  have q1 : ¬ (1048576 ≤ (z : Int)) := fun h => hsh (.inl h)
  have q2 : ¬ ((l0.length : Int) < 24 + (z : Int)) := fun h => hsh (.inr (.inl h))
  have q3 : ¬ ((z : Int) < (x : Int) + (k : Int)) := fun h => hsh (.inr (.inr h))
  clear hsh hz0 hb0 hk0
  obtain ⟨AB, hsB, hCB⟩ := cutC (some ad) c0 l0 24 (24 + z) (by omega) (by omega) hc0
  rw [show 24 + z - 24 = z by omega] at hsB hCB
  replace hsB : ∀ W : World, (Instr.slice 22 (.slice (some ad) l0.length c0) (some (.int .i64 24)) (some (.int .i64 (24 + (z : Int)))) none).run Try.prog W = .ok (.slice AB z (c0 - 24)) W := hsB
  have hlB : (cut l0 24 (24 + z)).length = z := by rw [cut_len l0 24 (24 + z) (by omega)]; omega
  have HCB := Aside0.mk (hCB w hr0)
  have HCl := Aside0.mk (fun (W : World) (hB : Below w.heap.size w W) => (slices_Clone_byte_byte.calls AB (c0 - 24) (cut l0 24 (24 + z)) _ W (Kd.C_below (show Kd.C (Kd.int .u8) w AB (cut l0 24 (24 + z)).length (cut l0 24 (24 + z)) by rw [hlB]; exact hCB w hr0) hB) (by omega) (show slices_Clone_byte_byte.f (cut l0 24 (24 + z)) = some (cut l0 24 (24 + z)) by unfold slices_Clone_byte_byte.f; rw [if_pos]; omega)).mono (R' := fun e w' => ∃ v0_ : Value, e = .returned v0_ ∧ Kd.R (Kd.int .u8) 5 w' w.heap.size (fun k_ => True) v0_ (cut l0 24 (24 + z)) ∧ Below W.heap.size W w') (fun e w' ⟨v, he, hR, hb⟩ => ⟨v, he, Kd.R_lower hR hB.size, hb⟩))
  simp only [Int.toNat_natCast] at HFull
  have HB9 := Aside0.mk (And.intro hlB (show x + k ≤ z by omega))
  rw [hlB] at HCl
  generalize cut l0 24 (24 + z) = body at *
  have r1 : decide ((z : Int) ≥ 1048576) = false := decide_eq_false q1
  have r2 : decide ((l0.length : Int) < 24 + (z : Int)) = false := decide_eq_false q2
  have r3 : decide ((x : Int) + (k : Int) > (z : Int)) = false := decide_eq_false q3
  clear hlB hCB hr0
  go_enter Try.func7, Try.ntmps7
  go_wp2
  go_region_held3 (fun w' => w'.cell? ⟨ad.block, ad.off + 4, none⟩ = some (.int .u8 (x : Int))) (go_keep)
    ((first | (go_at_call 12; (with_reducible refine (HG2.out _ ?_).mono ?_); (repeat (first | exact Below.refl _ _ | apply below_alloc | apply below_drew | apply pw_below_drewN)); rintro e w' ⟨rfl, ⟨m, rfl⟩⟩) | (go_at_call 12; (with_reducible refine (HG8.out _ ?_).mono ?_); (repeat (first | exact Below.refl _ _ | apply below_alloc | apply below_drew | apply pw_below_drewN)); rintro e w' ⟨rfl, ⟨m, rfl⟩⟩)))
  go_wp2_with (go_at_call 13; refine (HCl.out _ (by repeat (first | exact Below.refl _ _ | apply below_alloc | apply below_drew | apply pw_below_drewN))).mono ?_; rintro e w1 ⟨v, rfl, hO, hB⟩; have HO := Aside0.mk hO; have HB := Aside0.mk hB; obtain ⟨B, cB, hv, hle, hC⟩ := Kd.R_reads hO; subst hv; clear hO)
  obtain ⟨B2, B3, n3, c3, hn3, hc3, hp1, hp2, hp3, hpC⟩ := parts3 B cB body x k (by have := HB9.out; omega) hle
  have HPC := Aside0.mk hpC
  have hblk : w1.heap[w.heap.size]? = some (.cells #[.slice none 0 0, .slice none 0 0, .slice none 0 0] 27 (0, 0)) := by
    refine blk_below ?_ hB
    repeat (first | exact blk_new _ _ | refine blk_drewN ?_ _ | refine blk_drew ?_)
  have HBlk := Aside0.mk hblk
  have g0 := blk_cell hblk 0
  have g1 := blk_cell hblk 1
  have g2 := blk_cell hblk 2
  have f0 := blk_frozen hblk 0
  have f1 := blk_frozen hblk 1
  have f2 := blk_frozen hblk 2
  have hB1 : Below w.heap.size w w1 := below_step (by repeat (first | exact Below.refl _ _ | apply below_alloc | apply below_drew | apply pw_below_drewN)) hB
  have HB1 := Aside0.mk hB1
  have hcE : w1.cell? ⟨ad.block, ad.off + 1, none⟩ = some (.int .u8 cc) := by
    refine pw_cell_below hB ?_
    repeat (first | exact hcD _ | refine pw_cell_below (below_drew (Below.refl _ _)) ?_ | refine pw_cell_below (pw_below_drewN (Below.refl _ _) _) ?_)
  have hws : IntKind.i64.wrap ((x : Int) + (k : Int)) = (x : Int) + (k : Int) := (i64_w _).trans (by have := HB9.out; unfold wrap64; omega)
  have HN3 := Aside0.mk (And.intro hn3 hc3)
  clear hn3 hc3
  clear hB hpC hblk HB hB1 HCl hsB hs2 hs8 HG2 HG8 hcA hcB hcD
  go_region_held3 (fun w' => True) (trivial) (fail)
  clear hws hp1 hp2 hp3 g0 g1 g2 f0 f1 f2
  go_wp2
  generalize hW2 : (((w1.setCell ⟨w.heap.size, 0, none⟩ (Value.slice B x x)).setCell ⟨w.heap.size, 1, none⟩ (Value.slice B2 k k)).setCell ⟨w.heap.size, 2, none⟩ (Value.slice B3 n3 c3)).drew = W2
  have hk2 : W2.heap[w.heap.size]? = some (.cells #[.slice B x x, .slice B2 k k, .slice B3 n3 c3] 27 (0, 0)) := by
    rw [← hW2]
    refine blk_drew ?_
    exact blk_put (blk_put (blk_put HBlk.out 0 _ rfl) 1 _ rfl) 2 _ rfl
  have hB2 : Below w.heap.size w W2 := by
    rw [← hW2]
    exact below_drew (below_set (below_set (below_set HB1.out (Nat.le_refl _)) (Nat.le_refl _)) (Nat.le_refl _))
  have hO2 : Kd.R (Kd.int .u8) 5 W2 w.heap.size (fun _ => True) (.slice B body.length cB) body := by
    rw [← hW2]
    have ht : ∀ q, q ∈ 5 :: (Kd.int IntKind.u8).E → q ≠ 27 := by intro q hq; simp [Kd.int, Kd.scalar] at hq; omega
    exact Kd.R_drew (Kd.R_set (Kd.R_set (Kd.R_set HO.out HBlk.out ht 0 _) (blk_put HBlk.out 0 _ rfl) ht 1 _) (blk_put (blk_put HBlk.out 0 _ rfl) 1 _ rfl) ht 2 _)
  have hcF := pw_cell_below hB2 HC1.out
  have s0 : ∀ n, (W2.drewN n).setCell ⟨w.heap.size, 0, none⟩ (.slice B x x) = W2.drewN n := fun n => setCell_same (w := W2.drewN n) hk2 rfl
  have s1 : ∀ n, (W2.drewN n).setCell ⟨w.heap.size, 1, none⟩ (.slice B2 k k) = W2.drewN n := fun n => setCell_same (w := W2.drewN n) hk2 rfl
  have s2 : ∀ n, (W2.drewN n).setCell ⟨w.heap.size, 2, none⟩ (.slice B3 n3 c3) = W2.drewN n := fun n => setCell_same (w := W2.drewN n) hk2 rfl
  have HO2 := Aside0.mk hO2
  have HB2 := Aside0.mk hB2
  have HK2 := Aside0.mk hk2
  have g0 : W2.cell? ⟨w.heap.size, 0, none⟩ = some (.slice B x x) := blk_cell hk2 0
  have g1 : W2.cell? ⟨w.heap.size, 1, none⟩ = some (.slice B2 k k) := blk_cell hk2 1
  have g2 : W2.cell? ⟨w.heap.size, 2, none⟩ = some (.slice B3 n3 c3) := blk_cell hk2 2
  have f0 := blk_frozen hk2 0
  have f1 := blk_frozen hk2 1
  have f2 := blk_frozen hk2 2
  clear hcE hk2 hB2 hO2 hW2
  go_region_held3 (fun w' => w'.cell? ⟨ad.block, ad.off + 1, none⟩ = some (.int .u8 cc) ∧ w'.cell? ⟨w.heap.size, 0, none⟩ = some (.slice B x x) ∧ w'.cell? ⟨w.heap.size, 1, none⟩ = some (.slice B2 k k) ∧ w'.cell? ⟨w.heap.size, 2, none⟩ = some (.slice B3 n3 c3)) (go_keep)
    ((first | (go_at_call 12; (with_reducible refine (HG6.out _ ?_).mono ?_); (repeat (first | exact HB2.out | apply below_alloc | apply below_drew | apply pw_below_drewN)); rintro e w' ⟨rfl, ⟨m, rfl⟩⟩) | (go_at_call 12; (with_reducible refine (HG12.out _ ?_).mono ?_); (repeat (first | exact HB2.out | apply below_alloc | apply below_drew | apply pw_below_drewN)); rintro e w' ⟨rfl, ⟨m, rfl⟩⟩) | (go_at_call 12; (with_reducible refine (HG16.out _ ?_).mono ?_); (repeat (first | exact HB2.out | apply below_alloc | apply below_drew | apply pw_below_drewN)); rintro e w' ⟨rfl, ⟨m, rfl⟩⟩)))
  clear s0 s1 s2
  go_wp2
  have wcc : IntKind.i64.wrap cc = cc := (i64_w _).trans (by clear w6 w12; unfold wrap64; omega)
  have w24 : IntKind.i64.wrap (24 + (z : Int)) = 24 + (z : Int) := (i64_w _).trans (by clear w6 w12 wcc; unfold wrap64; omega)
  refine bodyPost_ret (v := .tuple #[.int .i64 cc, .int .u16 ss, .int .u32 oo, .int .u64 qq, .agg #[.slice B x x, .slice B2 k k, .slice B3 n3 c3], .int .i64 (24 + (z : Int))]) (by simp [results, Try.results7, go_sem, g0, g1, g2, wcc, w24]) rfl ?_
  clear g0 g1 g2 f0 f1 f2 w6 w12 wcc w24
  obtain ⟨hlb, hxk⟩ := HB9.out
  have hfull := HFull.out
  have hn := HN3.out
  have hO3 : ∀ n, Kd.C (Kd.int .u8) (W2.drewN n) B body.length body := fun n => Kd.C_drewN (Kd.R_reads' HO2.out).2.2 n
  have e1 : (body.take x).length = x := by rw [List.length_take]; omega
  have e2 : (cut body x (x + k)).length = k := by rw [cut_len _ _ _ (by omega)]; omega
  have e3 : (body.drop (x + k)).length = n3 := by rw [List.length_drop]; omega
  refine ⟨FR, B, B2, B3, x, k, c3, ?_⟩
  rw [← hfull]
  show Ending.returned (.tuple #[.int .i64 cc, .int .u16 ss, .int .u32 oo, .int .u64 qq, .agg #[.slice B x x, .slice B2 k k, .slice B3 n3 c3], .int .i64 (24 + (z : Int))]) = .returned (.tuple #[.int .i64 cc, .int .u16 ss, .int .u32 oo, .int .u64 qq, .agg #[.slice B (body.take x).length x, .slice B2 (cut body x (x + k)).length k, .slice B3 (body.drop (x + k)).length c3], .int .i64 (24 + (z : Int))]) ∧ _
  rw [e1, e2, e3]
  have hC3 := fun n => HPC.out _ (hO3 n)
  refine ⟨rfl, (hC3 _).1, (hC3 _).2.1, (hC3 _).2.2, Nat.le_refl _, Nat.le_refl _, hn.2, by repeat (first | exact HB2.out | apply below_alloc | apply below_drew | apply pw_below_drewN), fun h => ?_, fun _ _ => ?_⟩
  · exact absurd h HNS.out
  · rw [HFR.out, hfull]
theorem binout_Read.calls (A0 : Option Addr) (c0 : Nat) (l0 : List Int) (w : World) (hr0 : Kd.C (Kd.int .u8) w A0 l0.length l0) (hc0 : l0.length ≤ c0) (hb : ∀ x ∈ l0, 0 ≤ x ∧ x ≤ 255) (hm6 : l0.length ≤ 1000000) :
    Calls Try.prog 7 #[.slice A0 l0.length c0] w (ReadPost l0 w) := by
  by_cases h : l0.length < 24
  · exact read_short A0 c0 l0 w hr0 hc0 h
  · by_cases h1 : rd l0 0 = 129
    · by_cases h2 : ReadShort l0
      · exact read_small A0 c0 l0 w hr0 hc0 (by omega) h1 hb hm6 h2
      · exact read_full A0 c0 l0 w hr0 hc0 (by omega) h1 hb hm6 h2
    · exact read_other A0 c0 l0 w hr0 hc0 (by omega) h1

end Go.Proofs.Ytpfjoeagblkonaa.Hb
