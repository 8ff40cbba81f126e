-- Written by this session's own program (wip/hprint.py) out of the translation, over hand-proved contracts. Lean checks it.
import Derived.Test.YtkbhnnmngmdkdaaHcx0
namespace Go.Proofs.Ytkbhnnmngmdkdaa.Hc
open Go.RowKit Go.Proofs.YtkbhnnmngmdkdaaW.PrintWords Go.Proofs.YtkbhnnmngmdkdaaW.PrintLast Go.Proofs.YtkbhnnmngmdkdaaW.PrintMore
attribute [local go_sem] max2_int min2_int max_two min_two max_three min_three max_four min_four   -- for this text's walks alone
set_option linter.unusedVariables false
set_option linter.unusedSimpArgs false

/-! ### butteryref01_Get: function 20 -/
def butteryref01_Get.l0 : Nat → List Int → Int → Int → Option (Int)
  | 0, _, _, _ => none
  | k + 1, x0, x3, x4 => if x4 < (x0.length : Int) then (if 0 ≤ x4 then (butteryref01_Get.l0 k x0 (IntKind.u64.wrap ((IntKind.u64.wrap (x3 * 256)) + (IntKind.u64.wrap (rd x0 x4)))) (wrap64 (x4 + 1))) else (none)) else (some x3)
def butteryref01_Get.f (k : Nat) (l0 : List Int) : Option (Int) := butteryref01_Get.l0 k l0 0 0
theorem butteryref01_Get.mono_l : ∀ k, (∀ y0 y1 y2, LeO (butteryref01_Get.l0 k y0 y1 y2) (butteryref01_Get.l0 (k + 1) y0 y1 y2))
  | 0 => fun _ _ _ r h => by simp [butteryref01_Get.l0] at h
  | k + 1 => by
    have ih0 := butteryref01_Get.mono_l k
    · intro y0 y1 y2
      unfold butteryref01_Get.l0
      repeat' first
      | (with_reducible exact ih0 _ _ _)
      | (with_reducible exact LeO.refl _)
      | (with_reducible exact LeO.none _)
      | (with_reducible refine LeO.ite ?_ ?_)
      | (with_reducible refine LeO.bind ?_ (fun _ => ?_))
      | exact ih0 _ _ _
      | exact LeO.none _
      | refine LeO.ite ?_ ?_
      | refine LeO.bind ?_ (fun _ => ?_)
theorem butteryref01_Get.mono : ∀ a0 k, LeO (butteryref01_Get.f k a0) (butteryref01_Get.f (k + 1) a0) := by
  intro a0 k
  have ih0 := butteryref01_Get.mono_l k
  unfold butteryref01_Get.f
  repeat' first
      | (with_reducible exact ih0 _ _ _)
      | (with_reducible exact LeO.refl _)
      | (with_reducible exact LeO.none _)
      | (with_reducible refine LeO.ite ?_ ?_)
      | (with_reducible refine LeO.bind ?_ (fun _ => ?_))
      | exact ih0 _ _ _
      | exact LeO.none _
      | refine LeO.ite ?_ ?_
      | refine LeO.bind ?_ (fun _ => ?_)
set_option maxHeartbeats 8000000 in
set_option maxRecDepth 100000 in
theorem butteryref01_Get.calls (k : Nat) (A0 : Option Addr) (c0 : Nat) (l0 : List Int) (r : Int) (w : World) (hr0 : Kd.C (Kd.int .u8) w A0 l0.length l0) (hc0 : l0.length ≤ c0) (h : butteryref01_Get.f k l0 = some r) :
    Calls Try.prog 20 #[.slice A0 l0.length c0] w fun e w' => e = .returned (.int .u64 r) ∧ Drawn0 w w' := by
  have HR0 := Aside0.mk hr0
  have HC0 := Aside0.mk hc0
  clear hr0 hc0
  have H : (butteryref01_Get.l0 k l0 0 0) = some r := h
  clear h
  have H' := Aside0.mk H
  clear H
  go_enter Try.func20, Try.ntmps20
  go_wp2
  go_loopg [3, 4] k (fun kq v3 v4 w' => ∃ (x3_1 : Int) (x4_1 : Int), v3 = .int .u64 x3_1 ∧ v4 = .int .i64 x4_1 ∧ Aside0 (butteryref01_Get.l0 kq l0 x3_1 x4_1 = some r) ∧ Aside0 (kq ≤ k) ∧ Drawn0 w w')
  case atStart => exact ⟨(0), (0), (by first | rfl | (simp; done) | (simp [*]; done)), (by first | rfl | (simp; done) | (simp [*]; done)), H', ⟨Nat.le_refl _⟩, by repeat (first | exact Drawn0.refl _ | apply Drawn0.step)⟩
  case round =>
    clear H'
    obtain ⟨x3_1, x4_1, rfl, rfl, HA, HK1, ⟨m1, rfl⟩⟩ := hrel
    cases gk with
    | zero => exact absurd HA.out (by simp [butteryref01_Get.l0])
    | succ k1 =>
      have H := HA.out
      clear HA
      simp only [butteryref01_Get.l0] at H
      by_cases c2 : x4_1 < (l0.length : Int)
      · rw [if_pos c2] at H
        have c2b0 : decide (x4_1 < (l0.length : Int)) = true := decide_eq_true c2
        clear c2
        by_cases c3 : 0 ≤ x4_1
        · rw [if_pos c3] at H
          have c3b0 : decide (0 ≤ x4_1) = true := decide_eq_true c3
          clear c3
          have H' := Aside0.mk H
          clear H
          have p103 : 0 ≤ (x4_1 : Int) := of_decide_eq_true (by first | (with_reducible assumption) | assumption)
          have q103 : x4_1 < (l0.length : Int) := of_decide_eq_true (by first | (with_reducible assumption) | assumption)
          obtain ⟨ad103, e103, hx103_0⟩ := Kd.at_int HR0.out x4_1 p103 q103
          cases e103
          replace p103 := eq_true p103
          replace q103 := eq_true q103
          go_wp2
          go_roundg k1
          case measure => have := HK1.out; omega
          case rel => exact ⟨(IntKind.u64.wrap ((IntKind.u64.wrap (x3_1 * 256)) + (IntKind.u64.wrap (rd l0 x4_1)))), (wrap64 (x4_1 + 1)), (by first | rfl | (simp; done) | (simp [*]; done)), (by first | rfl | (simp; done) | (simp [*]; done)), H', ⟨by have := HK1.out; omega⟩, by repeat (first | exact Drawn0.refl _ | apply Drawn0.step)⟩
        · rw [if_neg c3] at H
          exact absurd H (by simp)
      · rw [if_neg c2] at H
        have c2b0 : decide (x4_1 < (l0.length : Int)) = false := decide_eq_false c2
        clear c2
        obtain rfl := Option.some.inj H
        go_wp2
        go_ret
        exact ⟨by first | rfl | (simp; done) | (simp [*]; done), by repeat (first | exact Drawn0.refl _ | apply Drawn0.step)⟩

/-! ### slices_Grow_byte_byte: function 39 -/
/-- Of nil alone. -/
def slices_Grow_byte_byte.f (l0 : List Int) (a1 : Int) : Option (List Int) := if l0 = [] ∧ 0 ≤ a1 ∧ a1 ≤ 1000000 then some [] else none
set_option maxHeartbeats 2000000 in
set_option maxRecDepth 100000 in
theorem slices_Grow_byte_byte.nil (a1 : Int) (h0 : 0 ≤ a1) (h1 : a1 ≤ 1000000) (w : World) :
    Calls Try.prog 39 #[.slice none 0 0, .int .i64 a1] w fun e w' => ∃ v0_ : Value, e = .returned v0_ ∧ Kd.R (Kd.int .u8) 5 w' w.heap.size (fun k_ => True) v0_ [] ∧ Below w.heap.size w w' := by
  have hu := Try.underlying22
  have c1 : decide (a1 < 0) = false := decide_eq_false (by omega)
  have hw : wrap64 a1 = a1 := by unfold wrap64; omega
  by_cases hp : a1 > 0
  · have c2 : decide (a1 > 0) = true := decide_eq_true hp
    have HP := Aside0.mk (And.intro hp h1)
    clear hp h0 h1
    obtain ⟨i0, hi0, _, hsz, _⟩ := info_parts (show ((Try.prog).info? 5).map (fun i => (i.zero, i.size, i.bytes)) = some (some (.int .u8 0), 1, 1) by kernel_rfl)
    go_enter Try.func39, Try.ntmps39
    go_wp2_with ((with_reducible refine gate_builtin (b := .append) (xs := #[.tmp 20, .tmp 21]) rfl ?_); at_builtin; refine Kd.R_append_zeros (Kd.int .u8) (w0 := w) w.heap.size rfl (.tmp 20) (.tmp 21) 22 3 5 (.int .u8 0) 1 rfl Try.underlying22 Try.underlying3 (by kernel_rfl) rfl (by decide) (by decide) (.slice none 0 0) ([] : List Int) (0 : Int) _ (fun _ => True) rfl rfl rfl (fun _ _ => trivial) (Kd.R_nil _ _ _ _ _) (by have := HP.out; rw [hw]; omega) (Below.refl _ _) (Nat.le_refl _) (by have := HP.out; rw [hw, List.length_nil]; omega) ?_; intro v1 w1 ho hb hg hat; generalize ([] ++ List.replicate _ (0 : Int)) = xs at ho; obtain ⟨B, c, hv, hle, hC⟩ := Kd.R_reads ho; subst hv; have h3 := (print_take_of (P := Try.prog) (Value.int .u8) 0 22 5 .i64 hu hi0 hsz B c xs 0 (by omega) (by omega) hle).1; have h4 : (xs.take (0 : Int).toNat).length = 0 := rfl; rw [h4] at h3; have HO := Aside0.mk (Kd.R_take ho (show 0 ≤ xs.length from Nat.zero_le _)); have HB := Aside0.mk hb; clear ho hb hg hat hC hle h4)
    go_ret
    exact ⟨_, rfl, HO.out, HB.out⟩
  · have c2 : decide (a1 > 0) = false := decide_eq_false hp
    clear hp h0 h1
    go_enter Try.func39, Try.ntmps39
    go_wp2
    go_ret
    exact ⟨_, rfl, Kd.R_nil _ _ _ _ _, Below.refl _ _⟩

/-! ### slices_Concat_byte_byte: function 36 -/
def slices_Concat_byte_byte.f (l0 : List (List Int)) : Option (List Int) := if l0.length ≤ 1000000 ∧ l0.flatten.length ≤ 1000000 then some l0.flatten else none
theorem slices_Concat_byte_byte.elem {W : World} {A0 : Option Addr} {l0 : List (List Int)} (hr0 : Kd.C (Kd.slice 5 (Kd.int .u8)) W A0 l0.length l0) (k : Nat) (hk : k < l0.length) :
    ∃ ad A c, A0 = some ad ∧ W.cell? (ad.add k) = some (.slice A (l0[k]).length c) ∧ (l0[k]).length ≤ c ∧ Kd.C (Kd.int .u8) W A (l0[k]).length (l0[k]) := by
  obtain ⟨ad, e, h⟩ := hr0.2.2 (by omega)
  obtain ⟨cs, _, ⟨A, c, hcs, hle, hC⟩, hcell⟩ := h k _ (List.getElem?_eq_getElem hk)
  refine ⟨ad, A, c, e, ?_, hle, hC⟩
  have := hcell 0 (.slice A (l0[k]).length c) (by rw [hcs]; rfl)
  rwa [Nat.add_zero, show k * (Kd.slice 5 (Kd.int .u8)).sz = k from Nat.mul_one k] at this
/-- So many bytes lie ahead of the row k. -/
def slices_Concat_byte_byte.S (l0 : List (List Int)) (k : Nat) : Nat := (l0.take k).flatten.length
theorem slices_Concat_byte_byte.S_succ (l0 : List (List Int)) (k : Nat) (hk : k < l0.length) : slices_Concat_byte_byte.S l0 (k + 1) = slices_Concat_byte_byte.S l0 k + (l0[k]).length := by
  unfold slices_Concat_byte_byte.S
  rw [List.take_succ_eq_append_getElem hk, List.flatten_append, List.length_append]
  simp
theorem slices_Concat_byte_byte.S_le (l0 : List (List Int)) (k : Nat) : slices_Concat_byte_byte.S l0 k ≤ l0.flatten.length := by
  unfold slices_Concat_byte_byte.S
  conv => rhs; rw [← List.take_append_drop k l0, List.flatten_append, List.length_append]
  exact Nat.le_add_right _ _
theorem slices_Concat_byte_byte.take_succ (l0 : List (List Int)) (k : Nat) (hk : k < l0.length) : (l0.take (k + 1)).flatten = (l0.take k).flatten ++ l0[k] := by
  rw [List.take_succ_eq_append_getElem hk, List.flatten_append]
  simp
set_option maxHeartbeats 2000000 in
set_option maxRecDepth 100000 in
theorem slices_Concat_byte_byte.calls (A0 : Option Addr) (c0 : Nat) (l0 : List (List Int)) (r : List Int) (w : World) (hr0 : Kd.C (Kd.slice 5 (Kd.int .u8)) w A0 l0.length l0) (hc0 : l0.length ≤ c0) (h : slices_Concat_byte_byte.f l0 = some r) :
    Calls Try.prog 36 #[.slice A0 l0.length c0] w fun e w' => ∃ v0_ : Value, e = .returned v0_ ∧ Kd.R (Kd.int .u8) 5 w' w.heap.size (fun k_ => True) v0_ r ∧ Below w.heap.size w w' := by
  unfold slices_Concat_byte_byte.f at h
  by_cases hl : l0.length ≤ 1000000 ∧ l0.flatten.length ≤ 1000000
  · rw [if_pos hl] at h
    obtain rfl := Option.some.inj h
    obtain ⟨hl1, hl2⟩ := hl
    clear h
    have HE := Aside0.mk (fun k hk => slices_Concat_byte_byte.elem hr0 k hk)
    have HR := Aside0.mk hr0
    have HL := Aside0.mk (fun k => Nat.le_trans (slices_Concat_byte_byte.S_le l0 k) hl2)
    have HS := Aside0.mk (slices_Concat_byte_byte.S_succ l0)
    have HT := Aside0.mk (slices_Concat_byte_byte.take_succ l0)
    have hSn : slices_Concat_byte_byte.S l0 l0.length = l0.flatten.length := by unfold slices_Concat_byte_byte.S; rw [List.take_length]
    obtain ⟨N, hN⟩ : ∃ N, l0.flatten.length = N := ⟨_, rfl⟩
    rw [hN] at hSn hl2
    have HG := Aside0.mk (fun W => slices_Grow_byte_byte.nil (N : Int) (by omega) (by omega) W)
    have HN := Aside0.mk (And.intro hl1 hl2)
    have HZ := Aside0.mk hSn
    clear hr0 hl1 hl2 hSn hN
    have hu := Try.underlying22
    go_enter Try.func36, Try.ntmps36
    go_wp2
    go_loop [3, 11] (fun t s => ∃ k : Nat, k ≤ l0.length ∧ t = .int .i64 ((slices_Concat_byte_byte.S l0 k : Nat) : Int) ∧ s = .int .i64 k) (fun t s => l0.length - (intOf s).toNat)
    case atStart => exact ⟨0, Nat.zero_le _, rfl, rfl⟩
    case round =>
      obtain ⟨k, hk, rfl, rfl⟩ := hrel
      by_cases hlt : k < l0.length
      · obtain ⟨ad, A, c, hA, hcell, hle, hC⟩ := HE.out k hlt
        subst hA
        have hs := HS.out k hlt
        have hb := HL.out (k + 1)
        have hn := HN.out
        have HI := Aside0.mk (And.intro hlt hn)
        generalize hq : (l0[k]).length = n at *
        generalize hqb : slices_Concat_byte_byte.S l0 (k + 1) = b at *
        generalize slices_Concat_byte_byte.S l0 k = a at *
        have HQ := Aside0.mk hqb
        have t1 : decide ((k : Int) < (l0.length : Int)) = true := decide_eq_true (by omega)
        have t2 : decide ((b : Int) < 0) = false := decide_eq_false (by omega)
        have w1 : wrap64 ((a : Int) + (n : Int)) = (b : Int) := by unfold wrap64; omega
        have w2 : wrap64 ((k : Int) + 1) = ((k + 1 : Nat) : Int) := by clear w1; unfold wrap64; omega
        clear hs hb hqb hq hn hle hC hk
        go_wp2
        go_round
        case rel => exact ⟨k + 1, by clear w1 w2; have := HI.out; omega, by rw [HQ.out]; exact congrArg (Value.int .i64) w1, congrArg (Value.int .i64) w2⟩
        case measure => rw [w2]; clear w1 w2; have h9 := HI.out.1; show l0.length - ((k + 1 : Nat) : Int).toNat < l0.length - (k : Int).toNat; omega
      · obtain rfl : k = l0.length := by omega
        have t1 : decide ((l0.length : Int) < (l0.length : Int)) = false := decide_eq_false (by omega)
        rw [HZ.out]
        clear hlt hk
        go_wp2_with (go_at_call 39; refine (HG.out _).mono ?_; rintro e w1 ⟨v0, rfl, hO, hB⟩; have HO := Aside0.mk hO; have HB := Aside0.mk hB; clear hO hB HG)
        go_loopg [6, 27] l0.length (fun kq v t w' => ∃ k : Nat, k ≤ l0.length ∧ t = .int .i64 k ∧ Aside0 (kq = l0.length - k) ∧ Aside0 (Kd.R (Kd.int .u8) 5 w' w.heap.size (fun k_ => True) v (l0.take k).flatten) ∧ Aside0 (Below w.heap.size w w'))
        case atStart => exact ⟨0, Nat.zero_le _, rfl, ⟨(Nat.sub_zero _).symm⟩, HO, HB⟩
        case round =>
          clear HO HB
          obtain ⟨k, hk, rfl, HK, HO, HB⟩ := hrel
          by_cases hlt : k < l0.length
          · obtain ⟨ad, A, c, hA, hcell0, hle, hC⟩ := HE.out k hlt
            subst hA
            have hcell := (HB.out.cell (World.block_lt_of_cell? w _ hcell0)).trans hcell0
            have HC := Aside0.mk (Kd.C_below hC HB.out)
            have HLn := Aside0.mk (show (l0.take k).flatten.length + (l0[k]).length ≤ 1000000 by
              have := HS.out k hlt
              have h2 := HL.out (k + 1)
              unfold slices_Concat_byte_byte.S at this h2
              omega)
            have HX := Aside0.mk (HT.out k hlt)
            have HI := Aside0.mk hlt
            have t1 : decide ((k : Int) < (l0.length : Int)) = true := decide_eq_true (by omega)
            clear hcell0 hle hC HS HL HT HE
            generalize l0[k] = p at *
            cases gk with
            | zero => exact absurd HK.out (by omega)
            | succ k1 =>
              have HK1 := Aside0.mk (show k1 = l0.length - (k + 1) by have := HK.out; omega)
              clear HK hk
              generalize (l0.take k).flatten = ys at *
              go_wp2_with ((with_reducible refine gate_builtin (b := .append) (xs := #[.tmp 31, .tmp 32]) rfl ?_); at_builtin; refine Kd.R_append_rows (Kd.int .u8) (w0 := w) w.heap.size rfl (.tmp 31) (.tmp 32) 22 5 (.int .u8 0) 1 rfl Try.underlying22 (by kernel_rfl) rfl (by decide) (by omega) _ ys p _ _ _ (fun _ => True) (fun _ => False) rfl rfl ?aO ?aR (fun _ _ h => h) (fun _ h => h.elim) ?aF ?aB ?aS ?aL ?_; (case aR => exact HC.out); (case aB => exact HB.out); (case aF => exact (fun _ _ => trivial)); (case aO => exact HO.out); (case aS => exact below_size HB.out); (case aL => have := HLn.out; omega); intro v1 w1 ho hb hg hat; rw [← HX.out] at ho; have HO1 := Aside0.mk ho; have HB1 := Aside0.mk hb; clear ho hb hg hat HB HO)
              have w2 : wrap64 ((k : Int) + 1) = ((k + 1 : Nat) : Int) := by have := HN.out; have := HI.out; unfold wrap64; omega
              go_roundg k1
              case measure => exact Nat.lt_succ_self _
              case rel => exact ⟨k + 1, by clear w2; have := HI.out; omega, congrArg (Value.int .i64) w2, HK1, HO1, HB1⟩
          · obtain rfl : k = l0.length := by omega
            have t1 : decide ((l0.length : Int) < (l0.length : Int)) = false := decide_eq_false (by omega)
            have ho := HO.out
            rw [List.take_length] at ho
            have HO1 := Aside0.mk ho
            clear ho HO hlt hk HK
            go_wp2
            go_ret
            exact ⟨_, rfl, HO1.out, HB.out⟩
  · rw [if_neg hl] at h; cases h

/-! ### num_put: function 40 -/
def num_put.l0 : Nat → Int → Int → List Int → Int → Int → Option (List Int)
  | 0, _, _, _, _, _ => none
  | k + 1, x0, x1, x5, x9, x10 => if x10 < x9 then (if 0 ≤ (wrap64 (8 * x10)) then (if 0 ≤ (wrap64 ((wrap64 (x1 - 1)) - x10)) then (if (wrap64 ((wrap64 (x1 - 1)) - x10)) < (x5.length : Int) then (num_put.l0 k x0 x1 (x5.set ((wrap64 ((wrap64 (x1 - 1)) - x10)) : Int).toNat ((shr .u64 x0 (wrap64 (8 * x10))) % 256)) x9 (wrap64 (x10 + 1))) else (none)) else (none)) else (none)) else (some x5)
def num_put.f (k : Nat) (a0 : Int) (a1 : Int) : Option (List Int) := if 0 ≤ a1 then (if (a1 : Int).toNat ≤ 281474976710656 then (num_put.l0 k a0 a1 (List.replicate (a1 : Int).toNat 0) a1 0) else (none)) else (none)
theorem num_put.mono_l : ∀ k, (∀ y0 y1 y2 y3 y4, LeO (num_put.l0 k y0 y1 y2 y3 y4) (num_put.l0 (k + 1) y0 y1 y2 y3 y4))
  | 0 => fun _ _ _ _ _ r h => by simp [num_put.l0] at h
  | k + 1 => by
    have ih0 := num_put.mono_l k
    · intro y0 y1 y2 y3 y4
      unfold num_put.l0
      repeat' first
      | (with_reducible exact ih0 _ _ _ _ _)
      | (with_reducible exact LeO.refl _)
      | (with_reducible exact LeO.none _)
      | (with_reducible refine LeO.ite ?_ ?_)
      | (with_reducible refine LeO.bind ?_ (fun _ => ?_))
      | exact ih0 _ _ _ _ _
      | exact LeO.none _
      | refine LeO.ite ?_ ?_
      | refine LeO.bind ?_ (fun _ => ?_)
theorem num_put.mono : ∀ a0 a1 k, LeO (num_put.f k a0 a1) (num_put.f (k + 1) a0 a1) := by
  intro a0 a1 k
  have ih0 := num_put.mono_l k
  unfold num_put.f
  repeat' first
      | (with_reducible exact ih0 _ _ _ _ _)
      | (with_reducible exact LeO.refl _)
      | (with_reducible exact LeO.none _)
      | (with_reducible refine LeO.ite ?_ ?_)
      | (with_reducible refine LeO.bind ?_ (fun _ => ?_))
      | exact ih0 _ _ _ _ _
      | exact LeO.none _
      | refine LeO.ite ?_ ?_
      | refine LeO.bind ?_ (fun _ => ?_)
set_option maxHeartbeats 8000000 in
set_option maxRecDepth 100000 in
theorem num_put.calls (k : Nat) (a0 : Int) (a1 : Int) (r : List Int) (w : World) (h : num_put.f k a0 a1 = some r) :
    Calls Try.prog 40 #[.int .u64 a0, .int .i64 a1] w fun e w' => ∃ v0_ : Value, e = .returned (v0_) ∧ Kd.R (Kd.int .u8) 5 w' w.heap.size (fun _ => True) v0_ r ∧ Below w.heap.size w w' := by
  have HB := Aside0.mk (Below.refl w.heap.size w)
  have H : (if 0 ≤ a1 then (if (a1 : Int).toNat ≤ 281474976710656 then (num_put.l0 k a0 a1 (List.replicate (a1 : Int).toNat 0) a1 0) else (none)) else (none)) = some r := h
  clear h
  by_cases c3 : 0 ≤ a1
  · rw [if_pos c3] at H
    have c3b0 := eq_true c3
    have c3b1 : decide (0 ≤ a1) = true := decide_eq_true c3
    clear c3
    by_cases c4 : (a1 : Int).toNat ≤ 281474976710656
    · rw [if_pos c4] at H
      have c4b0 := eq_true c4
      have c4b1 : decide ((a1 : Int).toNat ≤ 281474976710656) = true := decide_eq_true c4
      clear c4
      obtain ⟨y104, hy104⟩ : ∃ y_ : List Int, y_ = (List.replicate (a1 : Int).toNat 0) := ⟨_, rfl⟩
      replace H : (num_put.l0 k a0 a1 y104 a1 0) = some r := by first | (rw [hy104]; with_reducible exact H) | (have H2_ := (Option.bind_some _ _).symm.trans H; rw [hy104]; with_reducible exact H2_) | (have H2_ := (Option.bind_some _ _).symm.trans H; with_reducible exact H2_) | with_reducible exact H | (rw [hy104]; exact H) | exact H
      have Ny104 := Aside0.mk hy104
      clear hy104
      have H' := Aside0.mk H
      clear H
      go_enter Try.func40, Try.ntmps40
      go_wp2_with (first | ((with_reducible refine gate_dst (N := 8) rfl ?_); refine Kd.R_make (Kd.int .u8) _ 5 rfl (N := 8) rfl 22 _ _ rfl a1 rfl rfl Try.underlying22 (.int .u8 0) 1 info5 rfl (by decide) (by omega) 0 (ok := fun _ => True) (okp := fun _ => True) rfl (fun _ hk => hk) trivial (of_decide_eq_true (by first | (with_reducible assumption) | assumption)) (Nat.le_trans (Nat.mul_le_mul_right _ (of_decide_eq_true (by first | (with_reducible assumption) | assumption) : a1.toNat ≤ 281474976710656)) (by omega)) (Below.refl _ _) (Nat.le_refl _) ?_; intro v105 w5 ho6 hb hg_ hnew_; clear hg_ hnew_; (first | rw [← Ny104.out] at ho6 | (simp only [Int.reduceToNat] at ho6; rw [← Ny104.out] at ho6)); have n0_ := Aside0.mk (Kd.R_lower ho6 (below_size (by repeat (first | (with_reducible first | exact HB.out | apply below_alloc | apply pw_below_drewN | apply below_drew1) | exact HB.out)))); have n1_ := Aside0.mk (below_step (by repeat (first | (with_reducible first | exact HB.out | apply below_alloc | apply pw_below_drewN | apply below_drew1) | exact HB.out)) hb); clear HB; have HO106 := n0_; have HB := n1_; clear n0_ n1_; clear hb ho6))
      go_loopg [10] k (fun kq v10 w' => ∃ (x5_1 : List Int) (x10_1 : Int), v10 = .int .i64 x10_1 ∧ Aside0 (num_put.l0 kq a0 a1 x5_1 a1 x10_1 = some r) ∧ Aside0 (kq ≤ k) ∧ Aside0 (Kd.R (Kd.int .u8) 5 w' w.heap.size (fun _ => True) v105 x5_1) ∧ Aside0 (Below w.heap.size w w'))
      case atStart => exact ⟨(y104), (0), (by first | rfl | (simp; done) | (simp [*]; done)), H', ⟨Nat.le_refl _⟩, ⟨by (with_reducible repeat (first | apply Kd.R_alloc | apply Kd.R_drewN | apply Kd.R_drew)); exact HO106.out⟩, ⟨by repeat (first | (with_reducible first | exact HB.out | apply below_alloc | apply pw_below_drewN | apply below_drew1) | exact HB.out)⟩⟩
      case round =>
        clear H'
        try clear p2
        try clear c3
        try clear c3b0
        try clear c3b1
        try clear c4
        try clear c4b0
        try clear c4b1
        obtain ⟨x5_1, x10_1, rfl, HA, HK1, HO_5, HB⟩ := hrel
        cases gk with
        | zero => exact absurd HA.out (by simp [num_put.l0])
        | succ k1 =>
          have H := HA.out
          clear HA
          simp only [num_put.l0] at H
          by_cases c7 : x10_1 < a1
          · rw [if_pos c7] at H
            have c7b0 : decide (x10_1 < a1) = true := decide_eq_true c7
            clear c7
            obtain ⟨ji8, hji8⟩ : ∃ j_ : Int, (wrap64 (8 * x10_1)) = j_ := ⟨_, rfl⟩
            replace H : (if 0 ≤ (ji8) then (if 0 ≤ (wrap64 ((wrap64 (a1 - 1)) - x10_1)) then (if (wrap64 ((wrap64 (a1 - 1)) - x10_1)) < (x5_1.length : Int) then (num_put.l0 k1 a0 a1 (x5_1.set ((wrap64 ((wrap64 (a1 - 1)) - x10_1)) : Int).toNat ((shr .u64 a0 (ji8)) % 256)) a1 (wrap64 (x10_1 + 1))) else (none)) else (none)) else (none)) = some r := by first | (rw [hji8] at H; exact H) | (simp only [hji8] at H ⊢; exact H)
            have hji8w : (IntKind.i64.wrap (8 * x10_1)) = ji8 := (i64_w _).trans hji8
            by_cases c9 : 0 ≤ (ji8)
            · rw [if_pos c9] at H
              have c9b0 := eq_true c9
              have c9b1 : decide (0 ≤ (ji8)) = true := decide_eq_true c9
              clear c9
              obtain ⟨ji10, hji10⟩ : ∃ j_ : Int, (shr .u64 a0 (ji8)) = j_ := ⟨_, rfl⟩
              replace H : (if 0 ≤ (wrap64 ((wrap64 (a1 - 1)) - x10_1)) then (if (wrap64 ((wrap64 (a1 - 1)) - x10_1)) < (x5_1.length : Int) then (num_put.l0 k1 a0 a1 (x5_1.set ((wrap64 ((wrap64 (a1 - 1)) - x10_1)) : Int).toNat ((ji10) % 256)) a1 (wrap64 (x10_1 + 1))) else (none)) else (none)) = some r := by first | (rw [hji10] at H; exact H) | (simp only [hji10] at H ⊢; exact H)
              have hji10_ : (a0 / 2 ^ min (ji8).toNat 64) = ji10 := hji10
              have hji10z : (ji8) ≤ 64 → (a0 / 2 ^ (ji8).toNat) = ji10 := shr_small hji10
              obtain ⟨ji11, hji11⟩ : ∃ j_ : Int, (wrap64 ((wrap64 (a1 - 1)) - x10_1)) = j_ := ⟨_, rfl⟩
              replace H : (if 0 ≤ (ji11) then (if (ji11) < (x5_1.length : Int) then (num_put.l0 k1 a0 a1 (x5_1.set ((ji11) : Int).toNat ((ji10) % 256)) a1 (wrap64 (x10_1 + 1))) else (none)) else (none)) = some r := by first | (rw [hji11] at H; exact H) | (simp only [hji11] at H ⊢; exact H)
              have hji11w : (IntKind.i64.wrap ((wrap64 (a1 - 1)) - x10_1)) = ji11 := (i64_w _).trans hji11
              by_cases c12 : 0 ≤ (ji11)
              · rw [if_pos c12] at H
                have c12b0 : decide (0 ≤ (ji11)) = true := decide_eq_true c12
                clear c12
                by_cases c13 : (ji11) < (x5_1.length : Int)
                · rw [if_pos c13] at H
                  have c13b0 : decide ((ji11) < (x5_1.length : Int)) = true := decide_eq_true c13
                  clear c13
                  obtain ⟨y107, hy107⟩ : ∃ y_ : List Int, y_ = (x5_1.set ((ji11) : Int).toNat ((ji10) % 256)) := ⟨_, rfl⟩
                  replace H : (num_put.l0 k1 a0 a1 y107 a1 (wrap64 (x10_1 + 1))) = some r := by first | (rw [hy107]; with_reducible exact H) | (have H2_ := (Option.bind_some _ _).symm.trans H; rw [hy107]; with_reducible exact H2_) | (have H2_ := (Option.bind_some _ _).symm.trans H; with_reducible exact H2_) | with_reducible exact H | (rw [hy107]; exact H) | exact H
                  have Ny107 := Aside0.mk hy107
                  clear hy107
                  have H' := Aside0.mk H
                  clear H
                  have p14 : 0 ≤ ((ji11) : Int) := of_decide_eq_true (by first | (with_reducible assumption) | assumption)
                  have q14 : ((ji11) : Int) < ((x5_1.length : Int) : Int) := of_decide_eq_true (by first | (with_reducible assumption) | assumption)
                  obtain ⟨go14, co14, eo14, gb14, gl14, cl14, HG14⟩ := Kd.R_form HO_5.out (by omega)
                  (first | cases eo14 | (injection eo14 with ea_ en_ ec_; (first | subst ea_ | (injection ea_ with ea_; subst ea_)); subst ec_; clear en_))
                  have GB14 := Aside0.mk gb14
                  have GG14 := Aside0.mk HG14
                  clear gb14 gl14 HG14
                  obtain ⟨hx14_0, hf14_0⟩ := Kd.R_celln 0 HO_5.out ((ji11) : Int) p14 q14
                  replace p14 := eq_true p14
                  replace q14 := eq_true q14
                  have HP15 := Kd.R_putg HO_5.out ((ji11) : Int) ((ji10) % 256)
                  go_wp2_with (first | ((with_reducible refine gate_store (t := 5) (p := 23) rfl ?_); refine store_event (t := 5) (p := 23) (v := ?vo_w16) (w1 := (wr.setCell ⟨go14, ((ji11) : Int).toNat, none⟩ (.int .u8 ((ji10) % 256)))) ?hg ?ho ?hn ?hr ?_; (case ho => rfl); (case hg => rfl); (case hn => rfl); (case hr => first | (go_simp; done) | (go_simp; rfl)); intro w16 hw; have hg : wr.grownBy w16 (some go14) := (by rw [hw]; exact HP15.2); have hp_ : Kd.R (Kd.int .u8) 5 w16 w.heap.size (fun _ => True) (.slice (some ⟨go14, 0, none⟩) x5_1.length co14) y107 := (by rw [hw, Ny107.out]; exact HP15.1); clear HP15; have n0_ := Aside0.mk (hp_); have n1_ := Aside0.mk ((by rw [hw]; exact below_set (HB.out) GB14.out : Below w.heap.size w w16)); clear HO_5; clear HB; have HO_5 := n0_; have HB := n1_; clear n0_ n1_; clear hg hw hp_))
                  go_roundg k1
                  case measure => have := HK1.out; omega
                  case rel => exact ⟨(y107), (wrap64 (x10_1 + 1)), (by first | rfl | (simp; done) | (simp [*]; done)), H', ⟨by have := HK1.out; omega⟩, ⟨by (with_reducible repeat (first | apply Kd.R_alloc | apply Kd.R_drewN | apply Kd.R_drew)); exact HO_5.out⟩, ⟨by repeat (first | (with_reducible first | exact HB.out | apply below_alloc | apply pw_below_drewN | apply below_drew1) | exact HB.out)⟩⟩
                · rw [if_neg c13] at H
                  exact absurd H (by simp)
              · rw [if_neg c12] at H
                exact absurd H (by simp)
            · rw [if_neg c9] at H
              exact absurd H (by simp)
          · rw [if_neg c7] at H
            have c7b0 : decide (x10_1 < a1) = false := decide_eq_false c7
            clear c7
            obtain rfl := Option.some.inj H
            go_wp2
            go_ret
            exact ⟨_, by first | rfl | (simp [errW_none, errW_some] <;> rfl) | (simp [*, errW_none, errW_some] <;> rfl), by (with_reducible repeat (first | apply Kd.R_alloc | apply Kd.R_drewN | apply Kd.R_drew)); exact HO_5.out, by repeat (first | (with_reducible first | exact HB.out | apply below_alloc | apply pw_below_drewN | apply below_drew1) | exact HB.out)⟩
    · rw [if_neg c4] at H
      exact absurd H (by simp)
  · rw [if_neg c3] at H
    exact absurd H (by simp)

/-! ### num_Put16: function 37 -/
def num_Put16.f (k : Nat) (a0 : Int) : Option (List Int) := (num_put.f k (IntKind.u64.wrap (a0)) 2).bind fun t108 => (some t108)
theorem num_Put16.mono : ∀ a0 k, LeO (num_Put16.f k a0) (num_Put16.f (k + 1) a0) := by
  intro a0 k
  unfold num_Put16.f
  repeat' first
      | (with_reducible exact num_put.mono _ _ _)
      | (with_reducible exact LeO.refl _)
      | (with_reducible exact LeO.none _)
      | (with_reducible refine LeO.ite ?_ ?_)
      | (with_reducible refine LeO.bind ?_ (fun _ => ?_))
      | exact num_put.mono _ _ _
      | exact LeO.none _
      | refine LeO.ite ?_ ?_
      | refine LeO.bind ?_ (fun _ => ?_)
set_option maxHeartbeats 8000000 in
set_option maxRecDepth 100000 in
theorem num_Put16.calls (k : Nat) (a0 : Int) (r : List Int) (w : World) (h : num_Put16.f k a0 = some r) :
    Calls Try.prog 37 #[.int .u16 a0] w fun e w' => ∃ v0_ : Value, e = .returned (v0_) ∧ Kd.R (Kd.int .u8) 5 w' w.heap.size (fun _ => True) v0_ r ∧ Below w.heap.size w w' := by
  have HB := Aside0.mk (Below.refl w.heap.size w)
  have H : ((num_put.f k (IntKind.u64.wrap (a0)) 2).bind fun t108 => (some t108)) = some r := h
  clear h
  replace H := Option.bind_eq_some_iff.mp H
  obtain ⟨t108, A20, H⟩ := H
  replace H : (some t108) = some r := H
  have A2 := Aside0.mk A20
  clear A20
  obtain rfl := Option.some.inj H
  go_enter Try.func37, Try.ntmps37
  go_wp2_with (first | ((with_reducible refine gate_callee (f := 40) rfl ?_); refine goesL_ (some 5) rfl rfl Try.func40 (by kernel_rfl) rfl #[.int .u64 (IntKind.u64.wrap (a0)), .int .i64 2] rfl (by (try simp only [List.map_toArray, List.map_cons, List.map_nil]); first | done | rfl | (simp only [List.length_drop, List.length_take]; rfl)) ?_; (with_reducible refine (num_put.calls k (IntKind.u64.wrap (a0)) 2 t108 _ A2.out).mono ?_); rintro e w3 ⟨v109, rfl, ho0, hb⟩; refine ⟨_, rfl, ?_⟩; have n0_ := Aside0.mk (Kd.R_lower ho0 (below_size (by repeat (first | (with_reducible first | exact HB.out | apply below_alloc | apply pw_below_drewN | apply below_drew1) | exact HB.out)))); have n1_ := Aside0.mk (below_step (by repeat (first | (with_reducible first | exact HB.out | apply below_alloc | apply pw_below_drewN | apply below_drew1) | exact HB.out)) hb); clear HB; have HO110 := n0_; have HB := n1_; clear n0_ n1_; (try clear hb); (try clear hb2); (try clear hk); (try clear hi); (try clear ho0)))
  go_ret
  exact ⟨_, by first | rfl | (simp [errW_none, errW_some] <;> rfl) | (simp [*, errW_none, errW_some] <;> rfl), by (with_reducible repeat (first | apply Kd.R_alloc | apply Kd.R_drewN | apply Kd.R_drew)); exact HO110.out, by repeat (first | (with_reducible first | exact HB.out | apply below_alloc | apply pw_below_drewN | apply below_drew1) | exact HB.out)⟩

/-! ### num_Put32: function 38 -/
def num_Put32.f (k : Nat) (a0 : Int) : Option (List Int) := (num_put.f k (IntKind.u64.wrap (a0)) 4).bind fun t111 => (some t111)
theorem num_Put32.mono : ∀ a0 k, LeO (num_Put32.f k a0) (num_Put32.f (k + 1) a0) := by
  intro a0 k
  unfold num_Put32.f
  repeat' first
      | (with_reducible exact num_put.mono _ _ _)
      | (with_reducible exact LeO.refl _)
      | (with_reducible exact LeO.none _)
      | (with_reducible refine LeO.ite ?_ ?_)
      | (with_reducible refine LeO.bind ?_ (fun _ => ?_))
      | exact num_put.mono _ _ _
      | exact LeO.none _
      | refine LeO.ite ?_ ?_
      | refine LeO.bind ?_ (fun _ => ?_)
set_option maxHeartbeats 8000000 in
set_option maxRecDepth 100000 in
theorem num_Put32.calls (k : Nat) (a0 : Int) (r : List Int) (w : World) (h : num_Put32.f k a0 = some r) :
    Calls Try.prog 38 #[.int .u32 a0] w fun e w' => ∃ v0_ : Value, e = .returned (v0_) ∧ Kd.R (Kd.int .u8) 5 w' w.heap.size (fun _ => True) v0_ r ∧ Below w.heap.size w w' := by
  have HB := Aside0.mk (Below.refl w.heap.size w)
  have H : ((num_put.f k (IntKind.u64.wrap (a0)) 4).bind fun t111 => (some t111)) = some r := h
  clear h
  replace H := Option.bind_eq_some_iff.mp H
  obtain ⟨t111, A20, H⟩ := H
  replace H : (some t111) = some r := H
  have A2 := Aside0.mk A20
  clear A20
  obtain rfl := Option.some.inj H
  go_enter Try.func38, Try.ntmps38
  go_wp2_with (first | ((with_reducible refine gate_callee (f := 40) rfl ?_); refine goesL_ (some 5) rfl rfl Try.func40 (by kernel_rfl) rfl #[.int .u64 (IntKind.u64.wrap (a0)), .int .i64 4] rfl (by (try simp only [List.map_toArray, List.map_cons, List.map_nil]); first | done | rfl | (simp only [List.length_drop, List.length_take]; rfl)) ?_; (with_reducible refine (num_put.calls k (IntKind.u64.wrap (a0)) 4 t111 _ A2.out).mono ?_); rintro e w3 ⟨v112, rfl, ho0, hb⟩; refine ⟨_, rfl, ?_⟩; have n0_ := Aside0.mk (Kd.R_lower ho0 (below_size (by repeat (first | (with_reducible first | exact HB.out | apply below_alloc | apply pw_below_drewN | apply below_drew1) | exact HB.out)))); have n1_ := Aside0.mk (below_step (by repeat (first | (with_reducible first | exact HB.out | apply below_alloc | apply pw_below_drewN | apply below_drew1) | exact HB.out)) hb); clear HB; have HO113 := n0_; have HB := n1_; clear n0_ n1_; (try clear hb); (try clear hb2); (try clear hk); (try clear hi); (try clear ho0)))
  go_ret
  exact ⟨_, by first | rfl | (simp [errW_none, errW_some] <;> rfl) | (simp [*, errW_none, errW_some] <;> rfl), by (with_reducible repeat (first | apply Kd.R_alloc | apply Kd.R_drewN | apply Kd.R_drew)); exact HO113.out, by repeat (first | (with_reducible first | exact HB.out | apply below_alloc | apply pw_below_drewN | apply below_drew1) | exact HB.out)⟩

end Go.Proofs.Ytkbhnnmngmdkdaa.Hc
