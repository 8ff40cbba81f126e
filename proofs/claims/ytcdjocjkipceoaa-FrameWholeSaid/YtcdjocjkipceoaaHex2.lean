-- Written by this session's own program (wip/hprint.py) out of the translation, over hand-proved contracts. Lean checks it.
import Derived.Test.YtcdjocjkipceoaaHex0
import Derived.Test.YtcdjocjkipceoaaHex1
namespace Go.Proofs.Ytcdjocjkipceoaa.He
open Go.RowKit Go.Proofs.YtcdjocjkipceoaaW.PrintWords Go.Proofs.YtcdjocjkipceoaaW.PrintLast Go.Proofs.YtcdjocjkipceoaaW.PrintMore
attribute [local go_sem] max2_int min2_int max_two min_two max_three min_three max_four min_four   -- for this text's walks alone
set_option linter.unusedVariables false
set_option linter.unusedSimpArgs false

/-! ### butterylaw13_FrameWhole: function 8 -/
/-- A string's bytes as cells. -/
theorem bytesRow_take (s : ByteArray) (cap : Nat) (j : Nat) (u : Value) (h : ((bytesOf s).map (Value.int .u8))[j]? = some u) : (bytesRow s cap)[j]? = some u := by
  have hs : (bytesOf s).length = s.data.size := by unfold bytesOf; rw [List.length_map, Array.length_toList]
  have hj : j < s.data.size := by
    rw [← hs, ← List.length_map (f := Value.int .u8)]
    exact (List.getElem?_eq_some_iff.mp h).1
  rw [bytesRow_at s cap j hj, ← h]
  unfold bytesOf
  rw [List.getElem?_map, List.getElem?_map, Array.getElem?_toList, Array.getElem?_eq_getElem hj]
  rfl
/-- Cells of bytes, read as a row. -/
theorem cells_C (W : World) (a : Addr) (xs : List Int) (hl : xs.length ≤ 9223372036854775807) (h : ∀ j u, (xs.map (Value.int .u8))[j]? = some u → W.cell? (a.add j) = some u) : Kd.C (Kd.int .u8) W (some a) xs.length xs := by
  refine ⟨rfl, hl, fun _ => ⟨_, rfl, fun j p hj => ⟨[.int .u8 p], rfl, rfl, fun i u hu => ?_⟩⟩⟩
  cases i with
  | succ i => simp at hu
  | zero =>
    obtain rfl : Value.int .u8 p = u := by simpa using hu
    rw [Nat.add_zero, show j * (Kd.int .u8).sz = j from Nat.mul_one j]
    exact h j _ (by rw [List.getElem?_map, hj]; rfl)
theorem C_cells {W : World} {A : Option Addr} {xs : List Int} (h : Kd.C (Kd.int .u8) W A xs.length xs) (a : Addr) (hA : xs ≠ [] → A = some a) : ∀ j u, (xs.map (Value.int .u8))[j]? = some u → W.cell? (a.add j) = some u := by
  intro j u hu
  rw [List.getElem?_map] at hu
  obtain ⟨p, hp, rfl⟩ := Option.map_eq_some_iff.mp hu
  have hj := (List.getElem?_eq_some_iff.mp hp).1
  obtain ⟨ad, e, hc⟩ := h.2.2 (by omega)
  have : A = some a := hA (fun h0 => by rw [h0] at hj; simp at hj)
  rw [this] at e
  cases e
  obtain ⟨c, h1, h2, h3⟩ := hc j p hp
  have h2' : c = [.int .u8 p] := h2
  have := h3 0 _ (by rw [h2']; rfl)
  rwa [Nat.add_zero, show j * (Kd.int .u8).sz = j from Nat.mul_one j] at this
theorem tape_setCells (b : Nat) : ∀ (vs : List Value) (o : Nat) (w : World), (w.setCells b o vs).tape = w.tape
  | [], _, _ => rfl
  | v :: r, o, w => by rw [World.setCells, tape_setCells b r]; exact (by first | rfl | (unfold World.setCell; split <;> rfl) | (simp [World.setCell]))
theorem below_setCells {B : Nat} {a w : World} (h : Below B a w) (g o : Nat) (vs : List Value) (hg : B ≤ g) (hB : B ≤ w.heap.size) : Below B a (w.setCells g o vs) :=
  h.trans ⟨World.os_setCells w g o vs, tape_setCells g vs o w, World.output_setCells w g o vs, (World.keptBut_setCells g (may := fun _ => True) vs o w (fun _ _ => trivial)).size, fun k hk => World.heap_setCells_other w g o vs (by omega) (by omega)⟩
/-- Behind an append to what '[]byte(..)' laid: a row of these bytes, read. -/
def ConvRow (w1 : World) (v1 : Value) (zs : List Int) : Prop := ∃ A c, v1 = .slice A zs.length c ∧ zs.length ≤ c ∧ Kd.C (Kd.int .u8) w1 A zs.length zs
theorem bytesOf_len (s : ByteArray) : (bytesOf s).length = s.size := by unfold bytesOf; rw [List.length_map, Array.length_toList]; rfl
theorem append_conv {P : Program} {ops : Array Oper} {rest : List Oper} {o : Oper} {a : Act} {Q : Exit → Act → World → Prop} {w0 W : World} (base : Nat) (hgd : o.guard = none) (s x : Operand) (t e : TypeId)
    (hop : o.op = .call { callee := .builtin .append, args := #[s, x], argTypes := #[t, t] })
    (ht : P.underlying t = some (.slice e)) (hinfo : (P.info? e).map (fun i => (i.zero, i.size, i.bytes)) = some (some (.int .u8 0), 1, 1))
    (S : ByteArray) (n cap : Nat) (hn : n = S.size) (hcap : S.size ≤ cap) (hcapm : cap ≤ maxLen) (A : Option Addr) (c : Nat) (ys : List Int)
    (hs : a.eval s = .slice (some ⟨W.heap.size, 0, none⟩) n cap) (hx : a.eval x = .slice A ys.length c)
    (HR : Kd.C (Kd.int .u8) ((W.alloc (.cells (bytesRow S cap) e ((bytesRow S cap).size, (bytesRow S cap).size + 1))).drew) A ys.length ys)
    (HB : Below base w0 W) (hbase : base ≤ W.heap.size) (hl : S.size + ys.length ≤ 1000000)
    (h : ∀ v1 w1, ConvRow w1 v1 (bytesOf S ++ ys) → Below base w0 w1 → wpList P ops Q rest (a.put o.dst v1) w1) :
    wpList P ops Q (o :: rest) a ((W.alloc (.cells (bytesRow S cap) e ((bytesRow S cap).size, (bytesRow S cap).size + 1))).drew) := by
  subst hn
  obtain ⟨i0, hi, hz, hsz, hby⟩ := info_parts hinfo
  have hbs := bytesOf_len S
  have hrs : (bytesRow S cap).size = cap := by
    unfold bytesRow
    rw [Array.size_append, Array.size_map, Array.size_replicate]
    show S.size + (cap - S.size) = cap
    omega
  have hnew : ∀ j : Nat, (W.alloc (.cells (bytesRow S cap) e ((bytesRow S cap).size, (bytesRow S cap).size + 1))).drew.cell? ⟨W.heap.size, j, none⟩ = (bytesRow S cap)[j]? := fun j => World.cell?_alloc_mark W _ e _ j
  have HB1 : Below base w0 ((W.alloc (.cells (bytesRow S cap) e ((bytesRow S cap).size, (bytesRow S cap).size + 1))).drew) := HB.trans ((below_drew (below_alloc (Below.refl _ W) _)).mono hbase)
  have hW1 : (W.alloc (.cells (bytesRow S cap) e ((bytesRow S cap).size, (bytesRow S cap).size + 1))).drew.heap.size = W.heap.size + 1 := by
    show (W.heap.push _).size = _
    rw [Array.size_push]
  have hfz : ∀ j, j < cap → (W.alloc (.cells (bytesRow S cap) e ((bytesRow S cap).size, (bytesRow S cap).size + 1))).drew.frozen? ⟨W.heap.size, j, none⟩ = false := fun j hj => by
    have := World.frozen?_alloc_mark W (bytesRow S cap) e (bytesRow S cap).size ((bytesRow S cap).size + 1) j
    refine Eq.trans (b := (decide ((bytesRow S cap).size ≤ j) && decide (j < (bytesRow S cap).size + 1))) this ?_
    rw [decide_eq_false (by omega)]
    rfl
  generalize ((W.alloc (.cells (bytesRow S cap) e ((bytesRow S cap).size, (bytesRow S cap).size + 1))).drew) = W1 at *
  have olds : ∀ j u, ((bytesOf S).map (Value.int .u8))[j]? = some u → W1.cell? ⟨W.heap.size, 0 + j, none⟩ = some u := fun j u hu => by
    rw [Nat.zero_add, hnew j]; exact bytesRow_take S cap j u hu
  have hlen : (bytesOf S ++ ys).length = S.size + ys.length := by rw [List.length_append, hbs]
  cases A with
  | none =>
    obtain rfl : ys = [] := by
      cases ys with
      | nil => rfl
      | cons y t => obtain ⟨ad, e1, _⟩ := HR.2.2 (by simp); cases e1
    refine wpList_plain hgd fun K hK' => ?_
    have hrun := run_append_nothing (P := P) W1 t t o.type e i0 ht hi (some ⟨W.heap.size, 0, none⟩) S.size cap hcap (.slice none 0 c) (Src.ofNil W1 ht c)
    unfold Oper.wp
    simp only [List.length_nil] at hx
    simp [execOp, hop, resolve, invoke, builtin, hs, hx, hrun, Result.andThen]
    refine hK' _ _ (h _ _ ⟨_, _, by rw [hlen]; rfl, by rw [hlen]; simpa using hcap, ?_⟩ HB1)
    refine cells_C W1 _ _ (by rw [hlen]; omega) ?_
    intro j u hu
    rw [List.append_nil] at hu
    have := olds j u hu
    rw [Nat.zero_add] at this
    rw [add_plain]
    exact this
  | some ad =>
    refine wpList_append_arg W1 hgd s x t hop e i0 (.int .u8 0) 1 1 ht hi hz hsz hby rfl (by decide) W.heap.size 0 S.size cap ((bytesOf S).map (Value.int .u8)) hs (by rw [List.length_map, hbs, Nat.mul_one]) olds ad ys.length c (ys.map (Value.int .u8)) hx (by rw [List.length_map, Nat.mul_one]) (C_cells HR ad (fun _ => rfl)) ?_ ?_ (by simp only [maxLen]; omega) (by omega) ?_ ?_
    · intro u hu
      obtain ⟨p, _, rfl⟩ := List.mem_map.mp hu
      rfl
    · intro hr j hj
      rw [List.length_map] at hj
      rw [Nat.mul_one, Nat.zero_add]
      refine ⟨?_, hfz _ (by omega)⟩
      rw [hnew, Array.getElem?_eq_getElem (by omega)]
      rfl
    · intro hr
      rw [Nat.mul_one, Nat.zero_add]
      refine h _ _ ⟨some ⟨W.heap.size, 0, none⟩, cap, by rw [hlen], by rw [hlen]; exact hr, cells_C _ _ _ (by rw [hlen]; omega) ?_⟩ (below_setCells HB1 _ _ _ hbase (by omega))
      intro j u hu
      rw [List.map_append] at hu
      rw [add_plain]
      by_cases hj : j < S.size
      · rw [List.getElem?_append_left (by rw [List.length_map, hbs]; exact hj)] at hu
        rw [World.cell?_setCells_out _ _ _ _ _ (fun _ _ => .inl hj)]
        have := olds j u hu
        rwa [Nat.zero_add] at this
      · rw [List.getElem?_append_right (by rw [List.length_map, hbs]; omega), List.length_map, hbs] at hu
        have hj2 := (List.getElem?_eq_some_iff.mp hu).1
        have := World.cell?_setCells_in W.heap.size (ys.map (Value.int .u8)) S.size W1 (fun i hi => by
          rw [List.length_map] at hi
          rw [hnew, Array.getElem?_eq_getElem (by omega)]
          rfl) (j - S.size) hj2
        rw [show S.size + (j - S.size) = j by omega] at this
        rw [this, ← hu, List.getElem?_eq_getElem hj2]
    · intro hr v1 w1 hown hgrow
      have hown' : w1.ownsRow W1.heap.size e 1 v1 (S.size + ys.length) (encs (Value.int .u8) (bytesOf S ++ ys)) := by
        rw [show encs (Value.int .u8) (bytesOf S ++ ys) = (bytesOf S).map (Value.int .u8) ++ ys.map (Value.int .u8) from List.map_append]
        exact hown
      obtain ⟨A, c', rfl, hle, hrd⟩ := own_reads_of_le (d := (0 : Int)) hown'
      refine h _ _ ⟨A, c', by rw [hlen], by rw [hlen]; exact hle, ?_⟩ (HB1.grown hgrow (by omega) (fun k hk => by cases hk))
      rw [hlen]
      by_cases h0 : 0 < S.size + ys.length
      · obtain ⟨ad', e1, hc'⟩ := hrd.2.2 h0
        subst e1
        rw [← hlen]
        refine cells_C w1 ad' _ (by rw [hlen]; omega) ?_
        intro j u hu
        rw [List.getElem?_map] at hu
        obtain ⟨p, hp, rfl⟩ := Option.map_eq_some_iff.mp hu
        have hj := (List.getElem?_eq_some_iff.mp hp).1
        rw [hc' j (by omega), List.getD_eq_getElem?_getD, hp]
        rfl
      · refine ⟨hlen, by omega, fun hh => absurd hh h0⟩
/-- What the law says of Line and Body, under its own guards. -/
def butterylaw13_FrameWhole.Ok (a0 : ByteArray) (l1 l2 : List Int) : Prop := a0.size ≤ 2048 → l1.length ≤ 1000 → l2.length ≤ 1000 → (∀ j : Nat, j < a0.size → bt a0 j ≠ 10) →
  frame_Line.f (bytesOf (a0 ++ ⟨#[13, 10]⟩) ++ l2) = some (a0, (a0.size : Int) + 2, 0) ∧ frame_Body.f (l1 ++ [13, 10] ++ l2) (l1.length : Int) = some (l1, (l1.length : Int) + 2, 0)
def butterylaw13_FrameWhole.f (a0 : ByteArray) (l1 l2 : List Int) : Option Bool := @ite _ (butterylaw13_FrameWhole.Ok a0 l1 l2) (by unfold butterylaw13_FrameWhole.Ok; infer_instance) (some true) none
set_option maxHeartbeats 1600000 in
set_option maxRecDepth 100000 in
theorem butterylaw13_FrameWhole.calls (a0 : ByteArray) (A1 : Option Addr) (c1 : Nat) (l1 : List Int) (A2 : Option Addr) (c2 : Nat) (l2 : List Int) (r : Bool) (w : World) (hr1 : Kd.C (Kd.int .u8) w A1 l1.length l1) (hc1 : l1.length ≤ c1) (hr2 : Kd.C (Kd.int .u8) w A2 l2.length l2) (hc2 : l2.length ≤ c2) (h : butterylaw13_FrameWhole.f a0 l1 l2 = some r) :
    Calls Try.prog 8 #[.string a0, .slice A1 l1.length c1, .slice A2 l2.length c2] w fun e w' => e = .returned (.bool r) ∧ Below w.heap.size w w' := by
  unfold butterylaw13_FrameWhole.f at h
  by_cases hO : butterylaw13_FrameWhole.Ok a0 l1 l2
  · rw [if_pos hO] at h
    obtain rfl := Option.some.inj h
    have HO := Aside0.mk hO
    clear h hO
    have HR1 := Aside0.mk hr1
    have HR2 := Aside0.mk hr2
    clear hr1 hr2
    have hu := Try.underlying22
    have HA := Aside0.mk (butterylaw13_awake.calls true w rfl)
    by_cases g1 : a0.size ≤ 2048 ∧ l1.length ≤ 1000 ∧ l2.length ≤ 1000
    · obtain ⟨h1, h2, h3⟩ := g1
      have t1 : decide ((a0.size : Int) > 2048) = false := decide_eq_false (by omega)
      have t2 : decide ((l1.length : Int) > 1000) = false := decide_eq_false (by omega)
      have t3 : decide ((l2.length : Int) > 1000) = false := decide_eq_false (by omega)
      go_enter Try.func8, Try.ntmps8
      go_wp2_with (go_at_call 10; refine HA.out.mono ?_; rintro e w1 ⟨rfl, hB⟩; have HB := Aside0.mk hB; clear hB HA)
      go_loop [8] (fun t => ∃ x : Int, 0 ≤ x ∧ x ≤ (a0.size : Int) ∧ t = .int .i64 x ∧ Aside0 (∀ j : Nat, (j : Int) < x → bt a0 j ≠ 10)) (fun t => a0.size - (intOf t).toNat)
      case atStart => exact ⟨0, by omega, by omega, rfl, ⟨fun j hj => absurd hj (by omega)⟩⟩
      case round =>
        obtain ⟨x, hx0, hx1, rfl, HK⟩ := hrel
        by_cases hlt : x < (a0.size : Int)
        · have c5b0 : decide (x < (a0.size : Int)) = true := decide_eq_true hlt
          have p7 := eq_true hx0
          have q7 := eq_true hlt
          have hx7 := bt_at a0 x
          by_cases hb : bt a0 x = 10
          · have c10b0 : ((bt a0 x) == 10) = true := beq_iff_eq.mpr hb
            have c10b1 : ((bt a0 x) != 10) = false := bne_eq_false_iff_eq.mpr hb
            clear hb hlt hx0 hx1
            go_wp2
            go_ret
            exact ⟨rfl, HB.out⟩
          · have c10b0 : ((bt a0 x) == 10) = false := beq_eq_false_iff_ne.mpr hb
            have c10b1 : ((bt a0 x) != 10) = true := bne_iff_ne.mpr hb
            have HN : Aside0 (∀ j : Nat, (j : Int) < x + 1 → bt a0 j ≠ 10) := ⟨fun j hj => by
              by_cases hjx : (j : Int) < x
              · exact HK.out j hjx
              · rw [show (j : Int) = x by omega]; exact hb⟩
            have hw : IntKind.i64.wrap (x + 1) = x + 1 := (i64_w _).trans (by unfold wrap64; omega)
            have HX := Aside0.mk (And.intro hx0 hlt)
            clear hb hlt hx0 hx1 HK
            go_wp2
            go_round
            case rel => exact ⟨x + 1, by have := HX.out; omega, by have := HX.out; omega, by first | rfl | (rw [hw]) | (simp [hw]), HN⟩
            case measure => have := HX.out; simp [intOf, hw]; omega
        · have c5b0 : decide (x < (a0.size : Int)) = false := decide_eq_false hlt
          have hno : ∀ j : Nat, j < a0.size → bt a0 j ≠ 10 := fun j hj => HK.out j (by omega)
          obtain ⟨HL0, HD0⟩ := HO.out h1 h2 h3 hno
          obtain ⟨zs, hzs⟩ : ∃ zs : List Int, zs = bytesOf (a0 ++ ⟨#[13, 10]⟩) ++ l2 := ⟨_, rfl⟩
          obtain ⟨y2, hy2⟩ : ∃ zs : List Int, zs = [] ++ l1 := ⟨_, rfl⟩
          obtain ⟨y3, hy3⟩ : ∃ zs : List Int, zs = y2 ++ [13, 10] := ⟨_, rfl⟩
          obtain ⟨y4, hy4⟩ : ∃ zs : List Int, zs = y3 ++ l2 := ⟨_, rfl⟩
          have hD4 : frame_Body.f y4 (l1.length : Int) = some (l1, (l1.length : Int) + 2, 0) := by rw [hy4, hy3, hy2, List.nil_append]; exact HD0
          rw [← hzs] at HL0
          have L2 : y2.length = l1.length := by rw [hy2, List.nil_append]
          have L3 : y3.length = l1.length + 2 := by rw [hy3, List.length_append, L2]; rfl
          have LL := Aside0.mk (And.intro L2 L3)
          have NZ := Aside0.mk hzs
          have N2 := Aside0.mk hy2
          have N3 := Aside0.mk hy3
          have N4 := Aside0.mk hy4
          clear hzs hy2 hy3 hy4 L2 L3
          have HL := Aside0.mk HL0
          have HD := Aside0.mk hD4
          clear hD4
          have hsum : a0.size + 2 ≤ 9223372036854775807 := by omega
          clear HL0 HD0 hno hlt hx0 hx1 HK HO
          have hn2 := Aside0.mk (show a0.size + 2 = (a0 ++ (⟨#[13, 10]⟩ : ByteArray)).size by rw [ByteArray.size_append]; rfl)
          have hn3 := Aside0.mk (show a0.size + 2 ≤ maxLen by simp only [maxLen]; omega)
          have kc := fun (w : World) (s : ByteArray) => run_bytes_of_string (P := Try.prog) w 9 22 5 s Try.underlying9 Try.underlying22 Try.underlying5
          go_wp2_with (first | ((with_reducible refine gate_builtin (b := .append) (xs := #[.tmp 45, .tmp 46]) rfl ?_); (try (refine gate_guard (by rfl) ?_; dsimp only)); at_builtin; refine append_conv (w0 := w) w.heap.size rfl (.tmp 45) (.tmp 46) 22 5 rfl Try.underlying22 (by kernel_rfl) (a0 ++ ⟨#[13, 10]⟩) (a0.size + 2) _ hn2.out (by rw [← hn2.out]; exact grownCap_ge _ _ _ _) (grownCap_le_maxLen _ _ _ _ hn3.out) A2 c2 l2 rfl rfl ?aR ?aB ?aS ?aL ?_; (case aR => repeat (first | exact (Kd.C_below HR2.out HB.out) | (with_reducible refine Kd.C_alloc ?_ _) | (with_reducible refine Kd.C_drewN ?_ _) | (with_reducible refine Kd.C_drew ?_))); (case aB => exact (by repeat (first | (with_reducible first | exact HB.out | apply below_alloc | apply pw_below_drewN | apply below_drew1) | exact HB.out))); (case aS => exact (below_size (by repeat (first | (with_reducible first | exact HB.out | apply below_alloc | apply pw_below_drewN | apply below_drew1) | exact HB.out)))); (case aL => rw [← hn2.out]; omega); intro v1 w2 ho hb; rw [← NZ.out] at ho; obtain ⟨A, c, hv, hle, hC⟩ := ho; subst hv; have n0_ := Aside0.mk hb; have HC := Aside0.mk (frame_Line.calls A c _ _ _ _ w2 hC hle HL.out); clear HB HL hle hC; have HB := n0_; clear n0_ hb) | (go_at_call 11; refine HC.out.mono ?_; rintro e w3 ⟨rfl, hB⟩; have n0_ := Aside0.mk (below_step HB.out hB); clear hB HB HC; have HB := n0_; clear n0_) | ((with_reducible refine gate_builtin (b := .append) (xs := #[.const (.slice none 0 0), .tmp 54]) rfl ?_); (try (refine gate_guard (by rfl) ?_; dsimp only)); at_builtin; refine Kd.R_append_rows (Kd.int .u8) (w0 := w) w.heap.size rfl (.const (.slice none 0 0)) (.tmp 54) 22 5 (.int .u8 0) 1 rfl Try.underlying22 (by kernel_rfl) rfl (by decide) (by omega) (.slice none 0 0) ([] : List Int) l1 _ _ _ (fun _ => True) (fun _ => False) rfl rfl ?aO ?aR (fun _ _ h => h) (fun _ h => h.elim) ?aF ?aB ?aS ?aL ?_; (case aR => repeat (first | exact (Kd.C_below HR1.out HB.out) | (with_reducible refine Kd.C_alloc ?_ _) | (with_reducible refine Kd.C_drewN ?_ _) | (with_reducible refine Kd.C_drew ?_))); (case aB => exact (by repeat (first | (with_reducible first | exact HB.out | apply below_alloc | apply pw_below_drewN | apply below_drew1) | exact HB.out))); (case aF => exact (fun _ _ => trivial)); (case aO => exact (Kd.R_nil _ _ _ _ (fun _ => True))); (case aS => exact (below_size (by repeat (first | (with_reducible first | exact HB.out | apply below_alloc | apply pw_below_drewN | apply below_drew1) | exact HB.out)))); (case aL => (simp only [List.length_nil]; omega)); intro v2 w4 ho hb hg hat; rw [← N2.out] at ho; have n0_ := Aside0.mk hb; have HO2 := Aside0.mk ho; clear HB; have HB := n0_; clear n0_ ho hb hg hat) | ((with_reducible refine gate_builtin (b := .append) (xs := #[.tmp 55, .tmp 56]) rfl ?_); (try (refine gate_guard (by rfl) ?_; dsimp only)); at_builtin; refine Kd.R_append_rows (Kd.int .u8) (w0 := w) w.heap.size rfl (.tmp 55) (.tmp 56) 22 5 (.int .u8 0) 1 rfl Try.underlying22 (by kernel_rfl) rfl (by decide) (by omega) v2 y2 [13, 10] _ _ _ (fun _ => True) (fun _ => False) rfl rfl ?aO ?aR (fun _ _ h => h) (fun _ h => h.elim) ?aF ?aB ?aS ?aL ?_; (case aR => exact lit_C _ [13, 10] _ _ _ rfl (by decide)); (case aB => exact (by repeat (first | (with_reducible first | exact HB.out | apply below_alloc | apply pw_below_drewN | apply below_drew1) | exact HB.out))); (case aF => exact (fun _ _ => trivial)); (case aO => exact (by (with_reducible repeat (first | apply Kd.R_alloc | apply Kd.R_drewN | apply Kd.R_drew)); exact HO2.out)); (case aS => exact (below_size (by repeat (first | (with_reducible first | exact HB.out | apply below_alloc | apply pw_below_drewN | apply below_drew1) | exact HB.out)))); (case aL => (have := LL.out; omega)); intro v3 w5 ho hb hg hat; rw [← N3.out] at ho; have n0_ := Aside0.mk hb; have HO3 := Aside0.mk ho; clear HB; have HB := n0_; clear n0_ ho hb hg hat) | ((with_reducible refine gate_builtin (b := .append) (xs := #[.tmp 58, .tmp 59]) rfl ?_); (try (refine gate_guard (by rfl) ?_; dsimp only)); at_builtin; refine Kd.R_append_rows (Kd.int .u8) (w0 := w) w.heap.size rfl (.tmp 58) (.tmp 59) 22 5 (.int .u8 0) 1 rfl Try.underlying22 (by kernel_rfl) rfl (by decide) (by omega) v3 y3 l2 _ _ _ (fun _ => True) (fun _ => False) rfl rfl ?aO ?aR (fun _ _ h => h) (fun _ h => h.elim) ?aF ?aB ?aS ?aL ?_; (case aR => repeat (first | exact (Kd.C_below HR2.out HB.out) | (with_reducible refine Kd.C_alloc ?_ _) | (with_reducible refine Kd.C_drewN ?_ _) | (with_reducible refine Kd.C_drew ?_))); (case aB => exact (by repeat (first | (with_reducible first | exact HB.out | apply below_alloc | apply pw_below_drewN | apply below_drew1) | exact HB.out))); (case aF => exact (fun _ _ => trivial)); (case aO => exact (by (with_reducible repeat (first | apply Kd.R_alloc | apply Kd.R_drewN | apply Kd.R_drew)); exact HO3.out)); (case aS => exact (below_size (by repeat (first | (with_reducible first | exact HB.out | apply below_alloc | apply pw_below_drewN | apply below_drew1) | exact HB.out)))); (case aL => (have := LL.out; omega)); intro v4 w6 ho hb hg hat; rw [← N4.out] at ho; have n0_ := Aside0.mk hb; have HO4 := Aside0.mk ho; clear HB; have HB := n0_; clear n0_ ho hb hg hat; obtain ⟨A4, c4, hv4, hle4, hC4⟩ := Kd.R_reads HO4.out; subst hv4; have HC2 := Aside0.mk (frame_Body.calls A4 c4 _ _ _ _ _ w6 hC4 hle4 HD.out); clear hle4 hC4) | (go_at_call 13; refine HC2.out.mono ?_; rintro e w7 ⟨v7, rfl, hO, hB⟩; have n0_ := Aside0.mk (below_step HB.out hB); obtain ⟨A7, c7, hv7, _, hC7⟩ := Kd.R_reads hO; subst hv7; have hs7 := Kd.C_string (P := Try.prog) (A := A7) (c := c7) Try.underlying22 Try.underlying5 Try.underlying9 hC7; have hs1 := Kd.C_string (P := Try.prog) (A := A1) (c := c1) Try.underlying22 Try.underlying5 Try.underlying9 (Kd.C_below HR1.out n0_.out); clear hO hB HB HC2 hC7; have HB := n0_; clear n0_))
          go_ret
          exact ⟨rfl, HB.out⟩
    · have key : ∀ (b1 b2 b3 : Bool), decide ((a0.size : Int) > 2048) = b1 → decide ((l1.length : Int) > 1000) = b2 → decide ((l2.length : Int) > 1000) = b3 → (b1 = true ∨ (b1 = false ∧ b2 = true) ∨ (b1 = false ∧ b2 = false ∧ b3 = true)) →
          Calls Try.prog 8 #[.string a0, .slice A1 l1.length c1, .slice A2 l2.length c2] w fun e w' => e = .returned (.bool true) ∧ Below w.heap.size w w' := by
        intro b1 b2 b3 t1 t2 t3 hb
        clear g1 HO
        rcases hb with rfl | ⟨rfl, rfl⟩ | ⟨rfl, rfl, rfl⟩
        all_goals (
          go_enter Try.func8, Try.ntmps8
          go_wp2_with (go_at_call 10; refine HA.out.mono ?_; rintro e w1 ⟨rfl, hB⟩; have HB := Aside0.mk hB; clear hB HA)
          go_ret
          exact ⟨rfl, HB.out⟩)
      refine key _ _ _ rfl rfl rfl ?_
      by_cases e1 : (a0.size : Int) > 2048
      · exact .inl (decide_eq_true e1)
      · by_cases e2 : (l1.length : Int) > 1000
        · exact .inr (.inl ⟨decide_eq_false e1, decide_eq_true e2⟩)
        · exact .inr (.inr ⟨decide_eq_false e1, decide_eq_false e2, decide_eq_true (by omega)⟩)
  · rw [if_neg hO] at h; cases h

/-- THE ONE PURE STATEMENT of butterylaw13_FrameWhole: yours. -/
def butterylaw13_FrameWhole.Pure : Prop := ∀ (a0 : ByteArray) (l1 : List Int) (l2 : List Int), a0.size ≤ 140737488351232 → l1.length ≤ maxLen → l1.length * 1 ≤ 140737488351232 → (∀ x ∈ l1, (Lit.int .u8 x).wf = true) → l2.length ≤ maxLen → l2.length * 1 ≤ 140737488351232 → (∀ x ∈ l2, (Lit.int .u8 x).wf = true) → butterylaw13_FrameWhole.f a0 l1 l2 = some true
theorem butterylaw13_FrameWhole.walk (P : butterylaw13_FrameWhole.Pure) (a0 : ByteArray) (a1 : Option Addr) (len1 cap1 : Nat) (z1 : List Int) (a2 : Option Addr) (len2 cap2 : Nat) (z2 : List Int) (w : World) (w0 : a0.size ≤ 140737488351232) (w1 : (a1 = none ∧ len1 = 0 ∧ cap1 = 0 ∧ z1 = []) ∨ ∃ x, a1 = some x ∧ len1 ≤ cap1 ∧ cap1 ≤ maxLen ∧ z1.length = cap1 ∧ (∀ i, i < z1.length → w.cell? (x.add i) = some (.int .u8 (z1.getD i 0))) ∧ ∀ n ∈ z1, (Lit.int .u8 n).wf = true) (y1 : len1 * 1 ≤ 140737488351232) (w2 : (a2 = none ∧ len2 = 0 ∧ cap2 = 0 ∧ z2 = []) ∨ ∃ x, a2 = some x ∧ len2 ≤ cap2 ∧ cap2 ≤ maxLen ∧ z2.length = cap2 ∧ (∀ i, i < z2.length → w.cell? (x.add i) = some (.int .u8 (z2.getD i 0))) ∧ ∀ n ∈ z2, (Lit.int .u8 n).wf = true) (y2 : len2 * 1 ≤ 140737488351232) :
    Calls Try.prog 8 #[.string a0, .slice a1 len1 cap1, .slice a2 len2 cap2] w fun e w' => e = .returned (.bool true) ∧ Below w.heap.size w w' := by
  obtain ⟨l1, rfl, hr1, hm1, hw1, hc1⟩ := ReadsInt.ofRowC w1
  obtain ⟨l2, rfl, hr2, hm2, hw2, hc2⟩ := ReadsInt.ofRowC w2
  have h := P a0 l1 l2 w0 hm1 y1 hw1 hm2 y2 hw2
  refine (butterylaw13_FrameWhole.calls a0 _ _ l1 _ _ l2 true w (Kd.C_of_reads (d := (0 : Int)) (h1 := fun _ => rfl) hr1) hc1 (Kd.C_of_reads (d := (0 : Int)) (h1 := fun _ => rfl) hr2) hc2 h).mono ?_
  rintro e w' ⟨rfl, hd⟩
  exact ⟨rfl, hd⟩

end Go.Proofs.Ytcdjocjkipceoaa.He
