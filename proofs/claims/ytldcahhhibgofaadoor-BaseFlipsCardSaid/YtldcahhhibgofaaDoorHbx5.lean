-- Written by this session's own program (wip/hprint.py) out of the translation, over hand-proved contracts. Lean checks it.
import Derived.Test.YtldcahhhibgofaaDoorHbx0
import Derived.Test.YtldcahhhibgofaaDoorHbx1
import Derived.Test.YtldcahhhibgofaaDoorHbx2
namespace Go.Proofs.YtldcahhhibgofaaDoor.Hb
open Go.RowKit Go.Proofs.YtldcahhhibgofaaDoorW.PrintWords Go.Proofs.YtldcahhhibgofaaDoorW.PrintLast Go.Proofs.YtldcahhhibgofaaDoorW.PrintMore
attribute [local go_sem] max2_int min2_int max_two min_two max_three min_three max_four min_four   -- for this text's walks alone
set_option linter.unusedVariables false
set_option linter.unusedSimpArgs false

/-! ### butterylaw02_BaseFlips: function 8 -/
set_option maxHeartbeats 4000000 in
set_option maxRecDepth 100000 in
theorem flips_long (A : Option Addr) (n c : Nat) (p v : Int) (w : World) (h : 3000 < n) :
    Calls Tryd.prog 8 #[.slice A n c, .int .i64 p, .int .u8 v] w fun e w' => e = .returned (.bool true) ∧ Below w.heap.size w w' := by
  have c1 : decide (3000 < n) = true := decide_eq_true h
  have H := Aside0.mk awake_w
  go_enter Tryd.func8, Tryd.ntmps8
  go_wp2_with (go_at_call 9; refine (H.out _).mono ?_; rintro e w1 ⟨rfl, hB⟩; have HB := Aside0.mk hB; clear hB)
  go_ret
  exact ⟨rfl, HB.out⟩
set_option maxHeartbeats 4000000 in
set_option maxRecDepth 100000 in
theorem flips_out (A : Option Addr) (c : Nat) (l : List Int) (p v : Int) (w : World) (hr : Kd.C (Kd.int .u8) w A l.length l) (hc : l.length ≤ c) (hb : ∀ x ∈ l, 0 ≤ x ∧ x < 256) (h : l.length ≤ 3000) (hp : p < 0 ∨ ((enc l).length : Int) ≤ p) :
    Calls Tryd.prog 8 #[.slice A l.length c, .int .i64 p, .int .u8 v] w fun e w' => e = .returned (.bool true) ∧ Below w.heap.size w w' := by
  have c1 : decide (3000 < l.length) = false := decide_eq_false (by omega)
  obtain ⟨n, hn⟩ : ∃ n, l.length = n := ⟨_, rfl⟩
  have hz : (strOfNums (enc l)).size = (enc l).length := strOfNums_size _
  have kb := fun W => print_bytes (P := Tryd.prog) 9 22 5 Tryd.underlying9 Tryd.underlying22 Tryd.underlying5 (strOfNums (enc l)) W
  have H := Aside0.mk awake_w
  have HE := Aside0.mk (fun W (hW : Below w.heap.size w W) => encode_w A c l W (Kd.C_below hr hW) hc hb (by omega))
  rw [hn] at HE c1 ⊢
  clear hr
  rcases hp with hp | hp
  · have c2 : decide (p < 0) = true := decide_eq_true hp
    go_enter Tryd.func8, Tryd.ntmps8
    go_wp2_with (first | (go_at_call 9; refine (H.out _).mono ?_; rintro e w1 ⟨rfl, hB⟩; have HB := Aside0.mk hB; clear hB) | (go_at_call 12; refine (HE.out _ HB.out).mono ?_; rintro e w2 ⟨rfl, hB2⟩; have HB2 := Aside0.mk hB2; clear hB2))
    go_ret
    exact ⟨rfl, bytes_below (below_trans HB.out (Nat.le_refl _) HB2.out) (by have := HB.out.size; have := HB2.out.size; omega) _ _⟩
  · have c2 : decide (p < 0) = false := decide_eq_false (by omega)
    obtain ⟨m, hm⟩ : ∃ m, (enc l).length = m := ⟨_, rfl⟩
    rw [hm] at hz hp
    have c3 : decide ((m : Int) ≤ p) = true := decide_eq_true hp
    go_enter Tryd.func8, Tryd.ntmps8
    go_wp2_with (first | (go_at_call 9; refine (H.out _).mono ?_; rintro e w1 ⟨rfl, hB⟩; have HB := Aside0.mk hB; clear hB) | (go_at_call 12; refine (HE.out _ HB.out).mono ?_; rintro e w2 ⟨rfl, hB2⟩; have HB2 := Aside0.mk hB2; clear hB2))
    go_ret
    exact ⟨rfl, bytes_below (below_trans HB.out (Nat.le_refl _) HB2.out) (by have := HB.out.size; have := HB2.out.size; omega) _ _⟩
theorem row_more {W : World} {g : Nat} {C : Array Value} {e : TypeId} {fr : Nat × Nat} {xs : List Int} {rest : List Value} (h : W.heap[g]? = some (.cells C e fr)) (hC : C.toList = xs.map (Value.int .u8) ++ rest) (hl : xs.length ≤ 9223372036854775807) : Kd.C (Kd.int .u8) W (some ⟨g, 0, none⟩) xs.length xs := by
  refine ⟨rfl, hl, fun _ => ⟨_, rfl, fun j' p hj' => ⟨[.int .u8 p], rfl, rfl, fun i u hu => ?_⟩⟩⟩
  cases i with
  | succ i => simp at hu
  | zero =>
    obtain rfl : Value.int .u8 p = u := by simpa using hu
    have hlt : j' < xs.length := (List.getElem?_eq_some_iff.1 hj').1
    rw [add_plain, Nat.add_zero, show j' * (Kd.int .u8).sz = j' from Nat.mul_one j', Lib.cell_of_heap h, ← Array.getElem?_toList, hC, List.getElem?_append_left (by simpa using hlt), List.getElem?_map, hj']
    rfl
theorem bytesCells_list (W : World) (xs : List Int) (hx : ∀ x ∈ xs, 0 ≤ x ∧ x < 256) : ∃ rest, (Lib.bytesCells W 5 (strOfNums xs)).toList = xs.map (Value.int .u8) ++ rest := by
  refine ⟨(Array.replicate (grownCap W (strOfNums xs).size 0 5 - (strOfNums xs).size) (Value.int .u8 0)).toList, ?_⟩
  unfold Lib.bytesCells
  rw [Array.toList_append]
  congr 1
  simp only [strOfNums, Array.toList_map, List.map_map]
  refine List.map_congr_left fun x h => ?_
  have := hx x h
  simp
  omega
theorem bytes_frozen (W : World) (s : ByteArray) (q : Nat) (hq : q < s.size) : (Lib.bytesWorld W 5 s).frozen? ⟨W.heap.size, q, none⟩ = false := by
  have h := Lib.bytesWorld_at_new W 5 s
  unfold World.frozen?
  simp only [h]
  have : q < (Lib.bytesCells W 5 s).size := by
    simp [Lib.bytesCells]
    have : s.data.size = s.size := rfl
    omega
  simp
  omega
theorem heap_put {w : World} {g i : Nat} {cs : Array Value} {t : TypeId} {fr : Nat × Nat} {v : Value} (h : w.heap[g]? = some (.cells cs t fr)) : (w.setCell ⟨g, i, none⟩ v).heap[g]? = some (.cells (cs.setIfInBounds i v) t fr) := by
  have hg : g < w.heap.size := by
    rcases Nat.lt_or_ge g w.heap.size with h' | h'
    · exact h'
    · simp [Array.getElem?_eq_none h'] at h
  have h2 := (Array.getElem?_eq_some_iff.1 h).2
  unfold World.setCell
  simp [Array.getElem?_modify, h]
set_option maxHeartbeats 4000000 in
set_option maxRecDepth 100000 in
theorem flips_same (A : Option Addr) (c : Nat) (l : List Int) (q : Nat) (v : Int) (w : World) (hr : Kd.C (Kd.int .u8) w A l.length l) (hc : l.length ≤ c) (hb : ∀ x ∈ l, 0 ≤ x ∧ x < 256) (h : l.length ≤ 3000) (hq : q < (enc l).length) (hbe : ∀ x ∈ enc l, 0 ≤ x ∧ x < 256) (hv : at0 (enc l) q = v) :
    Calls Tryd.prog 8 #[.slice A l.length c, .int .i64 (q : Int), .int .u8 v] w fun e w' => e = .returned (.bool true) ∧ Below w.heap.size w w' := by
  have c1 : decide (3000 < l.length) = false := decide_eq_false (by omega)
  obtain ⟨n, hn⟩ : ∃ n, l.length = n := ⟨_, rfl⟩
  have hz : (strOfNums (enc l)).size = (enc l).length := strOfNums_size _
  have kb := fun W => print_bytes (P := Tryd.prog) 9 22 5 Tryd.underlying9 Tryd.underlying22 Tryd.underlying5 (strOfNums (enc l)) W
  have kc : ∀ W : World, (Lib.bytesWorld W 5 (strOfNums (enc l))).cell? ⟨W.heap.size, q, none⟩ = some (.int .u8 v) := fun W => by
    obtain ⟨rest, hl⟩ := bytesCells_list W (enc l) hbe
    rw [Lib.cell_of_heap (Lib.bytesWorld_at_new W 5 _), ← Array.getElem?_toList, hl, List.getElem?_append_left (by simpa using hq), List.getElem?_map, List.getElem?_eq_getElem hq, ← hv]
    simp [at0, List.getD_eq_getElem?_getD, hq]
  have H := Aside0.mk awake_w
  have HE := Aside0.mk (fun W (hW : Below w.heap.size w W) => encode_w A c l W (Kd.C_below hr hW) hc hb (by omega))
  obtain ⟨m, hm⟩ : ∃ m, (enc l).length = m := ⟨_, rfl⟩
  rw [hm] at hz hq
  rw [hn] at HE c1 ⊢
  clear hr
  have c2 : decide ((q : Int) < 0) = false := decide_eq_false (by omega)
  have c3 : decide ((m : Int) ≤ (q : Int)) = false := decide_eq_false (by omega)
  have c3' : decide (m ≤ q) = false := decide_eq_false (by omega)
  have c4 := eq_true (show (0 : Int) ≤ (q : Int) by omega)
  have c5 := eq_true (show (q : Int) < (m : Int) by omega)
  go_enter Tryd.func8, Tryd.ntmps8
  go_wp2_with (first | (go_at_call 9; refine (H.out _).mono ?_; rintro e w1 ⟨rfl, hB⟩; have HB := Aside0.mk hB; clear hB) | (go_at_call 12; refine (HE.out _ HB.out).mono ?_; rintro e w2 ⟨rfl, hB2⟩; have HB2 := Aside0.mk hB2; clear hB2))
  go_ret
  exact ⟨rfl, bytes_below (below_trans HB.out (Nat.le_refl _) HB2.out) (by have := HB.out.size; have := HB2.out.size; omega) _ _⟩
set_option maxHeartbeats 4000000 in
set_option maxRecDepth 100000 in
theorem flips_other (A : Option Addr) (c : Nat) (l : List Int) (q : Nat) (v : Int) (w : World) (hr : Kd.C (Kd.int .u8) w A l.length l) (hc : l.length ≤ c) (hb : ∀ x ∈ l, 0 ≤ x ∧ x < 256) (h : l.length ≤ 3000) (hq : q < (enc l).length) (hbe : ∀ x ∈ enc l, 0 ≤ x ∧ x < 256) (hv : at0 (enc l) q ≠ v) (hv0 : 0 ≤ v ∧ v < 256) (hd : ∀ l2, dec ((enc l).set q v) = some l2 → strOfNums l2 ≠ strOfNums l) :
    Calls Tryd.prog 8 #[.slice A l.length c, .int .i64 (q : Int), .int .u8 v] w fun e w' => e = .returned (.bool true) ∧ Below w.heap.size w w' := by
  have c1 : decide (3000 < l.length) = false := decide_eq_false (by omega)
  obtain ⟨n, hn⟩ : ∃ n, l.length = n := ⟨_, rfl⟩
  have hz : (strOfNums (enc l)).size = (enc l).length := strOfNums_size _
  have kb := fun W => print_bytes (P := Tryd.prog) 9 22 5 Tryd.underlying9 Tryd.underlying22 Tryd.underlying5 (strOfNums (enc l)) W
  have kc : ∀ W : World, (Lib.bytesWorld W 5 (strOfNums (enc l))).cell? ⟨W.heap.size, q, none⟩ = some (.int .u8 (at0 (enc l) q)) := fun W => by
    obtain ⟨rest, hl⟩ := bytesCells_list W (enc l) hbe
    rw [Lib.cell_of_heap (Lib.bytesWorld_at_new W 5 _), ← Array.getElem?_toList, hl, List.getElem?_append_left (by simpa using hq), List.getElem?_map, List.getElem?_eq_getElem hq]
    simp [at0, List.getD_eq_getElem?_getD, hq]
  have kf : ∀ W : World, (Lib.bytesWorld W 5 (strOfNums (enc l))).frozen? ⟨W.heap.size, q, none⟩ = false := fun W => bytes_frozen W _ q (by rw [hz]; exact hq)
  have ks : ∀ W : World, (convert 22 9 (.slice (some ⟨W.heap.size, 0, none⟩) (enc l).length (grownCap W (enc l).length 0 5))).run Tryd.prog ((Lib.bytesWorld W 5 (strOfNums (enc l))).setCell ⟨W.heap.size, q, none⟩ (.int .u8 v)) = .ok (.string (strOfNums ((enc l).set q v))) ((Lib.bytesWorld W 5 (strOfNums (enc l))).setCell ⟨W.heap.size, q, none⟩ (.int .u8 v)) := fun W => by
    obtain ⟨rest, hL⟩ := bytesCells_list W (enc l) hbe
    have hk := heap_put (i := q) (v := .int .u8 v) (Lib.bytesWorld_at_new W 5 (strOfNums (enc l)))
    have hC := row_more (xs := (enc l).set q v) (rest := rest) hk (by rw [Array.toList_setIfInBounds, hL, List.set_append_left _ _ (by simpa using hq), List.map_set]) (by rw [List.length_set, enc_len]; omega)
    rw [List.length_set] at hC
    exact Kd.C_string Tryd.underlying22 Tryd.underlying5 Tryd.underlying9 hC
  have hv' : (at0 (enc l) q == v) = false := beq_eq_false_iff_ne.mpr hv
  have H := Aside0.mk awake_w
  have HE := Aside0.mk (fun W (hW : Below w.heap.size w W) => encode_w A c l W (Kd.C_below hr hW) hc hb (by omega))
  obtain ⟨m, hm⟩ : ∃ m, (enc l).length = m := ⟨_, rfl⟩
  rw [hm] at hz hq ks
  rw [hn] at HE c1 ⊢
  have c2 : decide ((q : Int) < 0) = false := decide_eq_false (by omega)
  have c3 : decide ((m : Int) ≤ (q : Int)) = false := decide_eq_false (by omega)
  have c3' : decide (m ≤ q) = false := decide_eq_false (by omega)
  have c4 := eq_true (show (0 : Int) ≤ (q : Int) by omega)
  have c5 := eq_true (show (q : Int) < (m : Int) by omega)
  have HL := Aside0.mk (And.intro hb hr)
  have HD := Aside0.mk (fun W => decode_w ((enc l).set q v) (fun x hx => (List.mem_or_eq_of_mem_set hx).elim (hbe x) (fun e => e ▸ hv0)) (by rw [List.length_set]; have := enc_len l; omega) W)
  have HND := Aside0.mk hd
  go_enter Tryd.func8, Tryd.ntmps8
  go_wp2_with (first | (go_at_call 9; refine (H.out _).mono ?_; rintro e w1 ⟨rfl, hB⟩; have HB := Aside0.mk hB; clear hB) | (go_at_call 12; refine (HE.out _ HB.out).mono ?_; rintro e w2 ⟨rfl, hB2⟩; have HB2 := Aside0.mk hB2; clear hB2))
  have hB0 : Below w.heap.size w ((Lib.bytesWorld w2 5 (strOfNums (enc l))).setCell { block := w2.heap.size, off := q } (.int .u8 v)) := below_set (bytes_below (below_trans HB.out (Nat.le_refl _) HB2.out) (by have := HB.out.size; have := HB2.out.size; omega) _ _) (by have := HB.out.size; have := HB2.out.size; omega)
  generalize (Lib.bytesWorld w2 5 (strOfNums (enc l))).setCell { block := w2.heap.size, off := q } (.int .u8 v) = W at hB0 ⊢
  have HB0 := Aside0.mk hB0
  clear hB0 kb kc kf ks
  refine (HD.out W).mono ?_
  rintro e w3 ⟨⟨hdn, rfl⟩ | ⟨l2, v2, hds, rfl, hR⟩, hB3⟩
  · have HB3 := Aside0.mk (below_step HB0.out hB3)
    clear hB3
    have c6 : ((2 : Int) == 2) = true := rfl
    go_wp2
    go_ret
    exact ⟨rfl, by repeat (first | exact HB3.out | apply below_drew | apply pw_below_drewN)⟩
  · have HB3 := Aside0.mk (below_step HB0.out hB3)
    obtain ⟨hb', hr'⟩ := HL.out
    obtain ⟨B, cB, hv, hle, hC⟩ := Kd.R_reads hR
    subst hv
    have k1 : (convert 22 9 (.slice B l2.length cB)).run Tryd.prog w3 = .ok (.string (strOfNums l2)) w3 := Kd.C_string Tryd.underlying22 Tryd.underlying5 Tryd.underlying9 hC
    have k2 : (convert 22 9 (.slice A l.length c)).run Tryd.prog w3 = .ok (.string (strOfNums l)) w3 := Kd.C_string Tryd.underlying22 Tryd.underlying5 Tryd.underlying9 (Kd.C_below hr' HB3.out)
    have c7 : ((strOfNums l2).toList == (strOfNums l).toList) = false := toList_ne (HND.out l2 hds)
    have c8 : ((strOfNums l2).toList != (strOfNums l).toList) = true := by rw [bne, c7]; rfl
    rw [hn] at k2
    clear hR hC hb' hr' hB3
    go_wp2
    go_ret
    exact ⟨rfl, by repeat (first | exact HB3.out | apply below_drew | apply pw_below_drewN)⟩
/-- What the law needs to know of the bytes, in plain words: it is shown on the plain side. -/
def FlipOk (l : List Int) (p v : Int) : Prop :=
  (∀ x ∈ l, 0 ≤ x ∧ x < 256) ∧ (∀ x ∈ enc l, 0 ≤ x ∧ x < 256) ∧ (0 ≤ v ∧ v < 256) ∧
    ∀ q : Nat, q < (enc l).length → at0 (enc l) q ≠ v → ∀ l2, dec ((enc l).set q v) = some l2 → strOfNums l2 ≠ strOfNums l
theorem flips_w (A : Option Addr) (c : Nat) (l : List Int) (p v : Int) (w : World) (hr : Kd.C (Kd.int .u8) w A l.length l) (hc : l.length ≤ c) (hk : FlipOk l p v) :
    Calls Tryd.prog 8 #[.slice A l.length c, .int .i64 p, .int .u8 v] w fun e w' => e = .returned (.bool true) ∧ Below w.heap.size w w' := by
  obtain ⟨hb, hbe, hv0, hd⟩ := hk
  by_cases h3 : 3000 < l.length
  · exact flips_long A l.length c p v w h3
  · by_cases hp : p < 0 ∨ ((enc l).length : Int) ≤ p
    · exact flips_out A c l p v w hr hc hb (by omega) hp
    · obtain ⟨q, rfl⟩ := Int.eq_ofNat_of_zero_le (show 0 ≤ p by omega)
      by_cases hv : at0 (enc l) q = v
      · exact flips_same A c l q v w hr hc hb (by omega) (by omega) hbe hv
      · exact flips_other A c l q v w hr hc hb (by omega) (by omega) hbe hv hv0 (hd q (by omega) hv)
noncomputable def butterylaw02_BaseFlips.f (l0 : List Int) (a1 a2 : Int) : Option Bool := @ite _ (FlipOk l0 a1 a2) (Classical.propDecidable _) (some true) none
theorem butterylaw02_BaseFlips.calls (A0 : Option Addr) (c0 : Nat) (l0 : List Int) (a1 a2 : Int) (r : Bool) (w : World) (hr0 : Kd.C (Kd.int .u8) w A0 l0.length l0) (hc0 : l0.length ≤ c0) (h : butterylaw02_BaseFlips.f l0 a1 a2 = some r) :
    Calls Tryd.prog 8 #[.slice A0 l0.length c0, .int .i64 a1, .int .u8 a2] w fun e w' => e = .returned (.bool r) ∧ Below w.heap.size w w' := by
  unfold butterylaw02_BaseFlips.f at h
  by_cases hO : FlipOk l0 a1 a2
  · rw [if_pos hO] at h
    obtain rfl := Option.some.inj h
    exact flips_w A0 c0 l0 a1 a2 w hr0 hc0 hO
  · rw [if_neg hO] at h
    cases h

/-- THE ONE PURE STATEMENT of butterylaw02_BaseFlips: yours. -/
def butterylaw02_BaseFlips.Pure : Prop := ∀ (l0 : List Int) (a1 : Int) (a2 : Int), l0.length ≤ maxLen → l0.length * 1 ≤ 140737488351232 → (∀ x ∈ l0, (Lit.int .u8 x).wf = true) → (Lit.int .i64 a1).wf = true → (Lit.int .u8 a2).wf = true → butterylaw02_BaseFlips.f l0 a1 a2 = some true
theorem butterylaw02_BaseFlips.walk (P : butterylaw02_BaseFlips.Pure) (a0 : Option Addr) (len0 cap0 : Nat) (z0 : List Int) (a1 : Int) (a2 : Int) (w : World) (w0 : (a0 = none ∧ len0 = 0 ∧ cap0 = 0 ∧ z0 = []) ∨ ∃ x, a0 = some x ∧ len0 ≤ cap0 ∧ cap0 ≤ maxLen ∧ z0.length = cap0 ∧ (∀ i, i < z0.length → w.cell? (x.add i) = some (.int .u8 (z0.getD i 0))) ∧ ∀ n ∈ z0, (Lit.int .u8 n).wf = true) (y0 : len0 * 1 ≤ 140737488351232) (w1 : (Lit.int .i64 a1).wf = true) (w2 : (Lit.int .u8 a2).wf = true) :
    Calls Tryd.prog 8 #[.slice a0 len0 cap0, .int .i64 a1, .int .u8 a2] w fun e w' => e = .returned (.bool true) ∧ Below w.heap.size w w' := by
  obtain ⟨l0, rfl, hr0, hm0, hw0, hc0⟩ := ReadsInt.ofRowC w0
  have h := P l0 a1 a2 hm0 y0 hw0 w1 w2
  refine (butterylaw02_BaseFlips.calls _ _ l0 a1 a2 true w (Kd.C_of_reads (d := (0 : Int)) (h1 := fun _ => rfl) hr0) hc0 h).mono ?_
  rintro e w' ⟨rfl, hd⟩
  exact ⟨rfl, hd⟩

end Go.Proofs.YtldcahhhibgofaaDoor.Hb
