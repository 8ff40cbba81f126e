-- Written by this session's own program (wip/hprint.py) out of the translation, over hand-proved contracts. Lean checks it.
import Derived.Test.YtpfjoeagblkonaaHbx0
import Derived.Test.YtpfjoeagblkonaaHbx1
import Derived.Test.YtpfjoeagblkonaaHbx3
import Derived.Test.YtpfjoeagblkonaaHbx4
namespace Go.Proofs.Ytpfjoeagblkonaa.Hb
open Go.RowKit Go.Proofs.YtpfjoeagblkonaaW.PrintWords Go.Proofs.YtpfjoeagblkonaaW.PrintLast Go.Proofs.YtpfjoeagblkonaaW.PrintMore
attribute [local go_sem] max2_int min2_int max_two min_two max_three min_three max_four min_four   -- for this text's walks alone
set_option linter.unusedVariables false
set_option linter.unusedSimpArgs false

/-! ### butterylaw17_BinoutLong: function 5 -/
theorem longEnc (w : World) (b : Obj) (key : ByteArray) (d : Int) (verb : ByteArray) (code opq : Int) (wc : Bool) (flags : ByteArray) (A8 : Option Addr) (c8 : Nat) (l8 : List ByteArray) (A9 : Option Addr) (c9 : Nat) (l9 : List ByteArray) (b64 : Bool) (st : Int) (AV : Option Addr) (cV : Nat) (V : List Int) (fl cas ttl num : Int) (b1 b2 b3 : Bool)
    (h8 : Kd.C Kd.string w A8 l8.length l8) (g8 : l8.length ≤ c8) (h9 : Kd.C Kd.string w A9 l9.length l9) (g9 : l9.length ≤ c9) (hV : Kd.C (Kd.int .u8) w AV V.length V) (hcV : V.length ≤ cV) (hf0 : 0 ≤ fl) (hf1 : fl < 4294967296) (ho0 : 0 ≤ opq) (ho1 : opq < 4294967296) (hk : key.size ≤ 300) (hv : V.length ≤ 2000) :
    Calls Try.prog 10 #[.agg #[.slice (some ⟨w.heap.size, 0, none⟩) 1 1, .int .i64 d, .string verb, .int .i64 code, .int .u32 opq, .bool false, .bool wc, .string flags, .slice A8 l8.length c8, .slice A9 l9.length c9, .bool b64], .slice (some ⟨w.heap.size + 1 + 1, 0, none⟩) 1 1]
      (((w.alloc (.cells #[.int .i64 0, .string key, .slice none 0 0, .int .u32 0, .int .i64 0, .int .u64 0, .int .u64 0, .int .u64 0, .bool false, .bool false] 44)).alloc b).alloc (.cells #[.int .i64 st, .slice AV V.length cV, .int .u32 fl, .int .u64 cas, .int .i64 ttl, .int .u64 num, .bool b1, .bool b2, .bool b3] 46))
      fun e w' => ∃ v0_ : Value, e = .returned v0_ ∧ Kd.R (Kd.int .u8) 5 w' w.heap.size (fun _ => True) v0_ (encRows code (partsK st code key).length (partsX st fl).length st (partsX st fl ++ partsK st code key ++ partsV st num V) opq (partsC st cas)) ∧ Below w.heap.size w w' := by
  have hw := below_alloc (below_alloc (below_alloc (Below.refl w.heap.size w) (.cells #[.int .i64 0, .string key, .slice none 0 0, .int .u32 0, .int .i64 0, .int .u64 0, .int .u64 0, .int .u64 0, .bool false, .bool false] 44)) b) (.cells #[.int .i64 st, .slice AV V.length cV, .int .u32 fl, .int .u64 cas, .int .i64 ttl, .int .u64 num, .bool b1, .bool b2, .bool b3] 46)
  have e0 : rd_T44 [(⟨0, key, [], 0, 0, 0, 0, 0, false, false⟩ : S44)] 0 = ⟨0, key, [], 0, 0, 0, 0, 0, false, false⟩ := rfl
  have e1 : rd_T46 [(⟨st, V, fl, cas, ttl, num, b1, b2, b3⟩ : S46)] 0 = ⟨st, V, fl, cas, ttl, num, b1, b2, b3⟩ := rfl
  refine (binout_Encode.calls (some ⟨w.heap.size, 0, none⟩) 1 [⟨0, key, [], 0, 0, 0, 0, 0, false, false⟩] d verb code opq false wc flags A8 c8 l8 A9 c9 l9 b64 (some ⟨w.heap.size + 1 + 1, 0, none⟩) 1 [⟨st, V, fl, cas, ttl, num, b1, b2, b3⟩] (encRows code (partsK st code key).length (partsX st fl).length st (partsX st fl ++ partsK st code key ++ partsV st num V) opq (partsC st cas)) _
    (row_one (blk_alloc (blk_alloc (blk_new w _) _) _) (k44_mk _ ⟨0, key, [], 0, 0, 0, 0, 0, false, false⟩ (Nat.le_refl _) (Kd.C_nil _ _))) (by simp) (Kd.C_below h8 hw) g8 (Kd.C_below h9 hw) g9
    (row_one (blk3 w _ _ _) (k46_mk _ ⟨st, V, fl, cas, ttl, num, b1, b2, b3⟩ hcV (Kd.C_below hV hw))) (by simp) ?_).mono ?_
  · unfold binout_Encode.f
    rw [if_neg (by simp), if_pos]
    · rw [e0, e1]
      unfold encL
      rw [if_neg (by simp [silentB])]
    · refine ⟨?_, ?_, ho0, ho1, ?_, ?_⟩
      · rw [e1]; exact hf0
      · rw [e1]; exact hf1
      · rw [e0]; show key.size ≤ 65535; omega
      · rw [e1]; show V.length ≤ 800000; omega
  · rintro e w' ⟨v, rfl, hO, hB⟩
    exact ⟨v, rfl, Kd.R_lower hO hw.size, below_step hw hB⟩
/-- What the law reads of an answer. -/
theorem long_bytes (code : Int) (nK nX : Nat) (st : Int) (body : List Int) (opq cc : Int) (hb : body.length < 65536) :
    let L := encRows code nK nX st body opq cc
    L.length = 24 + body.length ∧ rd L 0 = 129 ∧ rd L 2 = (nK : Int) / 256 % 256 ∧ rd L 3 = (nK : Int) % 256 ∧ rd L 4 = (nX : Int) ∧ rd L 8 = 0 ∧ rd L 9 = 0 ∧ rd L 10 = (body.length : Int) / 256 ∧ rd L 11 = (body.length : Int) % 256 := by
  intro L
  have e : L = 129 :: (code % 256) :: ((nK : Int) / 256 % 256) :: ((nK : Int) % 256) :: (nX : Int) :: 0 :: (codeN st / 256 % 256) :: (codeN st % 256) :: ((body.length : Int) / 16777216 % 256) :: ((body.length : Int) / 65536 % 256) :: ((body.length : Int) / 256 % 256) :: ((body.length : Int) % 256) :: (putL4 opq ++ putL8 cc ++ body) := by
    simp [L, encRows, putL2, putL4]
  rw [e]
  refine ⟨by simp [putL4, putL8]; omega, rfl, rfl, rfl, rfl, ?_, ?_, ?_, rfl⟩
  · show (body.length : Int) / 16777216 % 256 = 0; omega
  · show (body.length : Int) / 65536 % 256 = 0; omega
  · show (body.length : Int) / 256 % 256 = (body.length : Int) / 256; omega
set_option maxHeartbeats 4000000 in
set_option maxRecDepth 100000 in
theorem long_early (d : Int) (verb : ByteArray) (code opq : Int) (quiet wc : Bool) (flags : ByteArray) (A8 : Option Addr) (c8 : Nat) (l8 : List ByteArray) (A9 : Option Addr) (c9 : Nat) (l9 : List ByteArray) (b64 : Bool) (st : Int) (AV : Option Addr) (cV : Nat) (V : List Int) (fl cas ttl num : Int) (b1 b2 b3 : Bool) (key : ByteArray) (w : World) (h : 2000 < V.length ∨ 300 < key.size ∨ quiet = true) :
    Calls Try.prog 5 #[.agg #[.int .i64 d, .string verb, .int .i64 code, .int .u32 opq, .bool quiet, .bool wc, .string flags, .slice A8 l8.length c8, .slice A9 l9.length c9, .bool b64], .agg #[.int .i64 st, .slice AV V.length cV, .int .u32 fl, .int .u64 cas, .int .i64 ttl, .int .u64 num, .bool b1, .bool b2, .bool b3], .string key] w (fun e w' => e = .returned (.bool true) ∧ Below w.heap.size w w') := by
  have hu39 := Try.underlying39
  have hu46 := Try.underlying46
  have hu27 := Try.underlying27
  have hu22 := Try.underlying22
  have hu40 := Try.underlying40
  have hu34 := Try.underlying34
  have hu37 := Try.underlying37
  have hu44 := Try.underlying44
  have HA := Aside0.mk (fun W => awake_w W)
  have key3 : (decide ((V.length : Int) > 2000) = true) ∨ (decide ((V.length : Int) > 2000) = false ∧ decide ((key.size : Int) > 300) = true) ∨ (decide ((V.length : Int) > 2000) = false ∧ decide ((key.size : Int) > 300) = false ∧ quiet = true) := by
    by_cases h1 : (V.length : Int) > 2000
    · exact .inl (decide_eq_true h1)
    · by_cases h2 : (key.size : Int) > 300
      · exact .inr (.inl ⟨decide_eq_false h1, decide_eq_true h2⟩)
      · refine .inr (.inr ⟨decide_eq_false h1, decide_eq_false h2, ?_⟩)
        rcases h with h | h | h
        · omega
        · omega
        · exact h
  clear h
  generalize V.length = nV at *
  generalize l8.length = n8 at *
  generalize l9.length = n9 at *
  have g1 : ∀ (W w1 : World), Below W.heap.size W w1 → W = W := fun _ _ _ => rfl
  clear g1
  rcases key3 with t1 | ⟨t1, t2⟩ | ⟨t1, t2, rfl⟩
  all_goals (
    go_enter Try.func5, Try.ntmps5
    go_wp2_with (go_at_call 6; refine (HA.out _).mono ?_; rintro e w1 ⟨rfl, hB⟩; have k2 := blk_any hB (blk2 w _ _); have k1 := blk_any hB (blk_alloc (blk_new w _) _); have z1 := blk_cell k2 1; have y4 := blk_cell k1 4; have HB := Aside0.mk (below_step (show Below w.heap.size w _ from by repeat (with_reducible first | exact Below.refl _ _ | apply below_alloc | apply below_drew | apply pw_below_drewN)) hB); clear hB k1 k2 HA)
    go_ret
    exact ⟨rfl, HB.out⟩)
set_option maxHeartbeats 8000000 in
set_option maxRecDepth 100000 in
theorem long_b (d : Int) (verb : ByteArray) (code opq : Int) (wc : Bool) (flags : ByteArray) (A8 : Option Addr) (c8 : Nat) (n8 : Nat) (A9 : Option Addr) (c9 : Nat) (n9 : Nat) (b64 : Bool) (st : Int) (AV : Option Addr) (cV : Nat) (nV : Nat) (fl cas ttl num : Int) (b1 b2 b3 : Bool) (key : ByteArray) (w : World) (L : List Int) (N n : Nat) (a b' c dd : Int) (hlen : L.length = N) (hN : N = 24 + n)
    (HE : Aside0 (∀ (W : World) (b : Obj), Below w.heap.size w W → Calls Try.prog 10 #[.agg #[.slice (some ⟨W.heap.size, 0, none⟩) 1 1, .int .i64 d, .string verb, .int .i64 code, .int .u32 opq, .bool false, .bool wc, .string flags, .slice A8 n8 c8, .slice A9 n9 c9, .bool b64], .slice (some ⟨W.heap.size + 1 + 1, 0, none⟩) 1 1] (((W.alloc (.cells #[.int .i64 0, .string key, .slice none 0 0, .int .u32 0, .int .i64 0, .int .u64 0, .int .u64 0, .int .u64 0, .bool false, .bool false] 44)).alloc b).alloc (.cells #[.int .i64 st, .slice AV nV cV, .int .u32 fl, .int .u64 cas, .int .i64 ttl, .int .u64 num, .bool b1, .bool b2, .bool b3] 46)) fun e w' => ∃ v0_ : Value, e = .returned v0_ ∧ Kd.R (Kd.int .u8) 5 w' W.heap.size (fun _ => True) v0_ L ∧ Below W.heap.size W w')) (HV : Aside0 (rd L 0 = 129 ∧ rd L 2 = c ∧ rd L 3 = dd ∧ rd L 4 = 0 ∧ rd L 8 = 0 ∧ rd L 9 = 0 ∧ rd L 10 = a ∧ rd L 11 = b'))
    (ha : 0 ≤ a ∧ a ≤ 255) (hb : 0 ≤ b' ∧ b' ≤ 255) (hc : 0 ≤ c ∧ c ≤ 255) (hd : 0 ≤ dd ∧ dd ≤ 255) (hab : a * 256 + b' = n) (hcd : c * 256 + dd = (0 : Int)) (hk : key.size ≤ 300) (hv : nV ≤ 2000) (hst : st ≠ 0) (hn8 : n ≤ 8) :
    Calls Try.prog 5 #[.agg #[.int .i64 d, .string verb, .int .i64 code, .int .u32 opq, .bool false, .bool wc, .string flags, .slice A8 n8 c8, .slice A9 n9 c9, .bool b64], .agg #[.int .i64 st, .slice AV nV cV, .int .u32 fl, .int .u64 cas, .int .i64 ttl, .int .u64 num, .bool b1, .bool b2, .bool b3], .string key] w (fun e w' => e = .returned (.bool true) ∧ Below w.heap.size w w') := by
  have hu39 := Try.underlying39
  have hu46 := Try.underlying46
  have hu27 := Try.underlying27
  have hu22 := Try.underlying22
  have hu40 := Try.underlying40
  have hu34 := Try.underlying34
  have hu37 := Try.underlying37
  have hu44 := Try.underlying44
  have HA := Aside0.mk (fun W => awake_w W)
  have HN := Aside0.mk hlen
  have t1 : decide ((nV : Int) > 2000) = false := decide_eq_false (by omega)
  have t2 : decide ((key.size : Int) > 300) = false := decide_eq_false (by omega)
  have t3 : decide ((N : Int) < 24) = false := decide_eq_false (by omega)
  have q1 : IntKind.i64.wrap (a * 256) = a * 256 := (i64_w _).trans (by unfold wrap64; omega)
  have q2 : IntKind.i64.wrap (a * 256 + b') = (n : Int) := (i64_w _).trans (by clear q1; unfold wrap64; omega)
  have q3 : IntKind.i64.wrap (c * 256) = c * 256 := (i64_w _).trans (by clear q1 q2; unfold wrap64; omega)
  have q4 : IntKind.i64.wrap (c * 256 + dd) = (0 : Int) := (i64_w _).trans (by clear q1 q2 q3; unfold wrap64; omega)
  have q5 : IntKind.i64.wrap a = a := (i64_w _).trans (by clear q1 q2 q3 q4; unfold wrap64; omega)
  have q6 : IntKind.i64.wrap b' = b' := (i64_w _).trans (by clear q1 q2 q3 q4 q5; unfold wrap64; omega)
  have q7 : IntKind.i64.wrap c = c := (i64_w _).trans (by clear q1 q2 q3 q4 q5 q6; unfold wrap64; omega)
  have q8 : IntKind.i64.wrap dd = dd := (i64_w _).trans (by clear q1 q2 q3 q4 q5 q6 q7; unfold wrap64; omega)
  have q9 : IntKind.i64.wrap 0 = 0 := by decide
  have QQ := Aside0.mk (And.intro q1 (And.intro q2 (And.intro q3 (And.intro q4 (And.intro q5 (And.intro q6 (And.intro q7 (And.intro q8 q9))))))))
  clear q1 q2 q3 q4 q5 q6 q7 q8 q9
  have p24 : (24 : Int) ≤ (N : Int) := by omega
  have pN : (N : Int) ≤ 100000 := by omega
  have u1 : ((n : Int) != (N : Int) - 24) = false := bne_eq_false_iff_eq.mpr (by omega)
  have u2 : (st == 0) = false := beq_eq_false_iff_ne.mpr hst
  have u3 : decide ((n : Int) ≤ 8) = true := decide_eq_true (by omega)
  clear hst hn8
  have p2 : (2 : Int) < (N : Int) := by omega
  have p3 : (3 : Int) < (N : Int) := by omega
  have p4 : (4 : Int) < (N : Int) := by omega
  have p8 : (8 : Int) < (N : Int) := by omega
  have p9 : (9 : Int) < (N : Int) := by omega
  have p10 : (10 : Int) < (N : Int) := by omega
  have p11 : (11 : Int) < (N : Int) := by omega
  have p0 : (0 : Int) < (N : Int) := by omega
  have HH := Aside0.mk (And.intro ha (And.intro hb (And.intro hc (And.intro hd (And.intro hab (And.intro hcd (And.intro hk (And.intro hv hN))))))))
  have hN24 : 24 ≤ L.length := by omega
  clear ha hb hc hd hab hcd hk hv hlen hN
  go_enter Try.func5, Try.ntmps5
  go_wp2_with (first | (go_at_call 6; refine (HA.out _).mono ?_; rintro e w1 ⟨rfl, hB⟩; have k2 := blk_any hB (blk2 w _ _); have k1 := blk_any hB (blk_alloc (blk_new w _) _); have zs := blk_cell k2 1; have ys := blk_cell k1 4; have z0 : ∀ o o' : Obj, ((w1.alloc o).alloc o').cell? ⟨w.heap.size + 1, 0, none⟩ = some (.int .i64 st) := fun o o' => blk_cell (blk_alloc (blk_alloc k2 o) o') 0; have z1 : ∀ o o' : Obj, ((w1.alloc o).alloc o').cell? ⟨w.heap.size + 1, 1, none⟩ = some (.slice AV nV cV) := fun o o' => blk_cell (blk_alloc (blk_alloc k2 o) o') 1; have z2 : ∀ o o' : Obj, ((w1.alloc o).alloc o').cell? ⟨w.heap.size + 1, 2, none⟩ = some (.int .u32 fl) := fun o o' => blk_cell (blk_alloc (blk_alloc k2 o) o') 2; have z3 : ∀ o o' : Obj, ((w1.alloc o).alloc o').cell? ⟨w.heap.size + 1, 3, none⟩ = some (.int .u64 cas) := fun o o' => blk_cell (blk_alloc (blk_alloc k2 o) o') 3; have z4 : ∀ o o' : Obj, ((w1.alloc o).alloc o').cell? ⟨w.heap.size + 1, 4, none⟩ = some (.int .i64 ttl) := fun o o' => blk_cell (blk_alloc (blk_alloc k2 o) o') 4; have z5 : ∀ o o' : Obj, ((w1.alloc o).alloc o').cell? ⟨w.heap.size + 1, 5, none⟩ = some (.int .u64 num) := fun o o' => blk_cell (blk_alloc (blk_alloc k2 o) o') 5; have z6 : ∀ o o' : Obj, ((w1.alloc o).alloc o').cell? ⟨w.heap.size + 1, 6, none⟩ = some (.bool b1) := fun o o' => blk_cell (blk_alloc (blk_alloc k2 o) o') 6; have z7 : ∀ o o' : Obj, ((w1.alloc o).alloc o').cell? ⟨w.heap.size + 1, 7, none⟩ = some (.bool b2) := fun o o' => blk_cell (blk_alloc (blk_alloc k2 o) o') 7; have z8 : ∀ o o' : Obj, ((w1.alloc o).alloc o').cell? ⟨w.heap.size + 1, 8, none⟩ = some (.bool b3) := fun o o' => blk_cell (blk_alloc (blk_alloc k2 o) o') 8; have y0 : ∀ o : Obj, (w1.alloc o).cell? ⟨w.heap.size, 0, none⟩ = some (.int .i64 d) := fun o => blk_cell (blk_alloc k1 o) 0; have y1 : ∀ o : Obj, (w1.alloc o).cell? ⟨w.heap.size, 1, none⟩ = some (.string verb) := fun o => blk_cell (blk_alloc k1 o) 1; have y2 : ∀ o : Obj, (w1.alloc o).cell? ⟨w.heap.size, 2, none⟩ = some (.int .i64 code) := fun o => blk_cell (blk_alloc k1 o) 2; have y3 : ∀ o : Obj, (w1.alloc o).cell? ⟨w.heap.size, 3, none⟩ = some (.int .u32 opq) := fun o => blk_cell (blk_alloc k1 o) 3; have y4 : ∀ o : Obj, (w1.alloc o).cell? ⟨w.heap.size, 4, none⟩ = some (.bool false) := fun o => blk_cell (blk_alloc k1 o) 4; have y5 : ∀ o : Obj, (w1.alloc o).cell? ⟨w.heap.size, 5, none⟩ = some (.bool wc) := fun o => blk_cell (blk_alloc k1 o) 5; have y6 : ∀ o : Obj, (w1.alloc o).cell? ⟨w.heap.size, 6, none⟩ = some (.string flags) := fun o => blk_cell (blk_alloc k1 o) 6; have y7 : ∀ o : Obj, (w1.alloc o).cell? ⟨w.heap.size, 7, none⟩ = some (.slice A8 n8 c8) := fun o => blk_cell (blk_alloc k1 o) 7; have y8 : ∀ o : Obj, (w1.alloc o).cell? ⟨w.heap.size, 8, none⟩ = some (.slice A9 n9 c9) := fun o => blk_cell (blk_alloc k1 o) 8; have y9 : ∀ o : Obj, (w1.alloc o).cell? ⟨w.heap.size, 9, none⟩ = some (.bool b64) := fun o => blk_cell (blk_alloc k1 o) 9; have HB := Aside0.mk (below_step (show Below w.heap.size w _ from by repeat (with_reducible first | exact Below.refl _ _ | apply below_alloc | apply below_drew | apply pw_below_drewN)) hB); have HK2 := Aside0.mk k2; clear hB k1 k2 HA) | (go_at_call 10; refine (HE.out w1 _ HB.out).mono ?_; rintro e w2 ⟨v, rfl, hO, hB⟩; obtain ⟨A, cc, hv, hl, hC⟩ := Kd.R_reads hO; subst hv; obtain ⟨ad, hA, g0⟩ := Kd.at_int hC 0 (by omega) (by omega); rw [show ad.add (0 : Int).toNat = ad by simp [Addr.add], HV.out.1] at g0; obtain ⟨ad2, hA2, g2⟩ := Kd.at_int hC 2 (by omega) (by omega); obtain rfl := Option.some.inj (hA.symm.trans hA2); rw [show (2 : Int).toNat = 2 from rfl, add_pos ad 2 (by omega), HV.out.2.1] at g2; obtain ⟨ad3, hA3, g3⟩ := Kd.at_int hC 3 (by omega) (by omega); obtain rfl := Option.some.inj (hA.symm.trans hA3); rw [show (3 : Int).toNat = 3 from rfl, add_pos ad 3 (by omega), HV.out.2.2.1] at g3; obtain ⟨ad4, hA4, g4⟩ := Kd.at_int hC 4 (by omega) (by omega); obtain rfl := Option.some.inj (hA.symm.trans hA4); rw [show (4 : Int).toNat = 4 from rfl, add_pos ad 4 (by omega), HV.out.2.2.2.1] at g4; obtain ⟨ad8, hA8, g8⟩ := Kd.at_int hC 8 (by omega) (by omega); obtain rfl := Option.some.inj (hA.symm.trans hA8); rw [show (8 : Int).toNat = 8 from rfl, add_pos ad 8 (by omega), HV.out.2.2.2.2.1] at g8; obtain ⟨ad9, hA9, g9⟩ := Kd.at_int hC 9 (by omega) (by omega); obtain rfl := Option.some.inj (hA.symm.trans hA9); rw [show (9 : Int).toNat = 9 from rfl, add_pos ad 9 (by omega), HV.out.2.2.2.2.2.1] at g9; obtain ⟨ad10, hA10, g10⟩ := Kd.at_int hC 10 (by omega) (by omega); obtain rfl := Option.some.inj (hA.symm.trans hA10); rw [show (10 : Int).toNat = 10 from rfl, add_pos ad 10 (by omega), HV.out.2.2.2.2.2.2.1] at g10; obtain ⟨ad11, hA11, g11⟩ := Kd.at_int hC 11 (by omega) (by omega); obtain rfl := Option.some.inj (hA.symm.trans hA11); rw [show (11 : Int).toNat = 11 from rfl, add_pos ad 11 (by omega), HV.out.2.2.2.2.2.2.2] at g11; subst hA; have k2 := blk_below HK2.out hB; have zz0 := blk_cell k2 0; have zz1 := blk_cell k2 1; have HB2 := Aside0.mk (below_step HB.out hB); rw [HN.out]; clear hO hB hC hl hA2 hA3 hA4 hA8 hA9 hA10 hA11 k2 HE HK2 zs ys z0 z1 z2 z3 z4 z5 z6 z7 z8 y0 y1 y2 y3 y4 y5 y6 y7 y8 y9))
  obtain ⟨q1, q2, q3, q4, q5, q6, q7, q8, q9⟩ := QQ.out
  go_quiet (fail)
  go_wp2
  go_quiet (fail)
  clear q1 q2 q3 q4 q5 q6 q7 q8 q9
  go_wp2
  all_goals (
    go_ret
    exact ⟨by first | rfl | simp, by repeat (with_reducible first | exact HB2.out | apply pw_below_drewN)⟩)
set_option maxHeartbeats 8000000 in
set_option maxRecDepth 100000 in
theorem long_a1 (d : Int) (verb : ByteArray) (code opq : Int) (wc : Bool) (flags : ByteArray) (A8 : Option Addr) (c8 : Nat) (n8 : Nat) (A9 : Option Addr) (c9 : Nat) (n9 : Nat) (b64 : Bool) (AV : Option Addr) (cV : Nat) (nV : Nat) (fl cas ttl num : Int) (b1 b2 b3 : Bool) (key : ByteArray) (w : World) (L : List Int) (N n : Nat) (a b' c dd : Int) (hlen : L.length = N) (hN : N = 24 + n)
    (HE : Aside0 (∀ (W : World) (b : Obj), Below w.heap.size w W → Calls Try.prog 10 #[.agg #[.slice (some ⟨W.heap.size, 0, none⟩) 1 1, .int .i64 d, .string verb, .int .i64 code, .int .u32 opq, .bool false, .bool wc, .string flags, .slice A8 n8 c8, .slice A9 n9 c9, .bool b64], .slice (some ⟨W.heap.size + 1 + 1, 0, none⟩) 1 1] (((W.alloc (.cells #[.int .i64 0, .string key, .slice none 0 0, .int .u32 0, .int .i64 0, .int .u64 0, .int .u64 0, .int .u64 0, .bool false, .bool false] 44)).alloc b).alloc (.cells #[.int .i64 0, .slice AV nV cV, .int .u32 fl, .int .u64 cas, .int .i64 ttl, .int .u64 num, .bool b1, .bool b2, .bool b3] 46)) fun e w' => ∃ v0_ : Value, e = .returned v0_ ∧ Kd.R (Kd.int .u8) 5 w' W.heap.size (fun _ => True) v0_ L ∧ Below W.heap.size W w')) (HV : Aside0 (rd L 0 = 129 ∧ rd L 2 = c ∧ rd L 3 = dd ∧ rd L 4 = 4 ∧ rd L 8 = 0 ∧ rd L 9 = 0 ∧ rd L 10 = a ∧ rd L 11 = b'))
    (ha : 0 ≤ a ∧ a ≤ 255) (hb : 0 ≤ b' ∧ b' ≤ 255) (hc : 0 ≤ c ∧ c ≤ 255) (hd : 0 ≤ dd ∧ dd ≤ 255) (hab : a * 256 + b' = n) (hcd : c * 256 + dd = 0) (hk : key.size ≤ 300) (hv : nV ≤ 2000) (hna : n = 4 + nV) :
    Calls Try.prog 5 #[.agg #[.int .i64 d, .string verb, .int .i64 code, .int .u32 opq, .bool false, .bool wc, .string flags, .slice A8 n8 c8, .slice A9 n9 c9, .bool b64], .agg #[.int .i64 0, .slice AV nV cV, .int .u32 fl, .int .u64 cas, .int .i64 ttl, .int .u64 num, .bool b1, .bool b2, .bool b3], .string key] w (fun e w' => e = .returned (.bool true) ∧ Below w.heap.size w w') := by
  have hu39 := Try.underlying39
  have hu46 := Try.underlying46
  have hu27 := Try.underlying27
  have hu22 := Try.underlying22
  have hu40 := Try.underlying40
  have hu34 := Try.underlying34
  have hu37 := Try.underlying37
  have hu44 := Try.underlying44
  have HA := Aside0.mk (fun W => awake_w W)
  have HN := Aside0.mk hlen
  have t1 : decide ((nV : Int) > 2000) = false := decide_eq_false (by omega)
  have t2 : decide ((key.size : Int) > 300) = false := decide_eq_false (by omega)
  have t3 : decide ((N : Int) < 24) = false := decide_eq_false (by omega)
  have q1 : IntKind.i64.wrap (a * 256) = a * 256 := (i64_w _).trans (by unfold wrap64; omega)
  have q2 : IntKind.i64.wrap (a * 256 + b') = (n : Int) := (i64_w _).trans (by clear q1; unfold wrap64; omega)
  have q3 : IntKind.i64.wrap (c * 256) = c * 256 := (i64_w _).trans (by clear q1 q2; unfold wrap64; omega)
  have q4 : IntKind.i64.wrap (c * 256 + dd) = 0 := (i64_w _).trans (by clear q1 q2 q3; unfold wrap64; omega)
  have q5 : IntKind.i64.wrap a = a := (i64_w _).trans (by clear q1 q2 q3 q4; unfold wrap64; omega)
  have q6 : IntKind.i64.wrap b' = b' := (i64_w _).trans (by clear q1 q2 q3 q4 q5; unfold wrap64; omega)
  have q7 : IntKind.i64.wrap c = c := (i64_w _).trans (by clear q1 q2 q3 q4 q5 q6; unfold wrap64; omega)
  have q8 : IntKind.i64.wrap dd = dd := (i64_w _).trans (by clear q1 q2 q3 q4 q5 q6 q7; unfold wrap64; omega)
  have q9 : IntKind.i64.wrap 0 = 0 := by decide
  have QQ := Aside0.mk (And.intro q1 (And.intro q2 (And.intro q3 (And.intro q4 (And.intro q5 (And.intro q6 (And.intro q7 (And.intro q8 q9))))))))
  clear q1 q2 q3 q4 q5 q6 q7 q8 q9
  have p24 : (24 : Int) ≤ (N : Int) := by omega
  have pN : (N : Int) ≤ 100000 := by omega
  have u1 : ((n : Int) != (N : Int) - 24) = false := bne_eq_false_iff_eq.mpr (by omega)
  have u4 : ((n : Int) == 4 + (nV : Int)) = true := beq_iff_eq.mpr (by omega)
  have pk0 : (0 : Int) ≤ (key.size : Int) := by omega
  have pk1 : (key.size : Int) ≤ 300 := by omega
  have pv : (nV : Int) ≤ 2000 := by omega
  clear hna
  have p2 : (2 : Int) < (N : Int) := by omega
  have p3 : (3 : Int) < (N : Int) := by omega
  have p4 : (4 : Int) < (N : Int) := by omega
  have p8 : (8 : Int) < (N : Int) := by omega
  have p9 : (9 : Int) < (N : Int) := by omega
  have p10 : (10 : Int) < (N : Int) := by omega
  have p11 : (11 : Int) < (N : Int) := by omega
  have p0 : (0 : Int) < (N : Int) := by omega
  have HH := Aside0.mk (And.intro ha (And.intro hb (And.intro hc (And.intro hd (And.intro hab (And.intro hcd (And.intro hk (And.intro hv hN))))))))
  have hN24 : 24 ≤ L.length := by omega
  clear ha hb hc hd hab hcd hk hv hlen hN
  go_enter Try.func5, Try.ntmps5
  go_wp2_with (first | (go_at_call 6; refine (HA.out _).mono ?_; rintro e w1 ⟨rfl, hB⟩; have k2 := blk_any hB (blk2 w _ _); have k1 := blk_any hB (blk_alloc (blk_new w _) _); have zs := blk_cell k2 1; have ys := blk_cell k1 4; have z0 : ∀ o o' : Obj, ((w1.alloc o).alloc o').cell? ⟨w.heap.size + 1, 0, none⟩ = some (.int .i64 0) := fun o o' => blk_cell (blk_alloc (blk_alloc k2 o) o') 0; have z1 : ∀ o o' : Obj, ((w1.alloc o).alloc o').cell? ⟨w.heap.size + 1, 1, none⟩ = some (.slice AV nV cV) := fun o o' => blk_cell (blk_alloc (blk_alloc k2 o) o') 1; have z2 : ∀ o o' : Obj, ((w1.alloc o).alloc o').cell? ⟨w.heap.size + 1, 2, none⟩ = some (.int .u32 fl) := fun o o' => blk_cell (blk_alloc (blk_alloc k2 o) o') 2; have z3 : ∀ o o' : Obj, ((w1.alloc o).alloc o').cell? ⟨w.heap.size + 1, 3, none⟩ = some (.int .u64 cas) := fun o o' => blk_cell (blk_alloc (blk_alloc k2 o) o') 3; have z4 : ∀ o o' : Obj, ((w1.alloc o).alloc o').cell? ⟨w.heap.size + 1, 4, none⟩ = some (.int .i64 ttl) := fun o o' => blk_cell (blk_alloc (blk_alloc k2 o) o') 4; have z5 : ∀ o o' : Obj, ((w1.alloc o).alloc o').cell? ⟨w.heap.size + 1, 5, none⟩ = some (.int .u64 num) := fun o o' => blk_cell (blk_alloc (blk_alloc k2 o) o') 5; have z6 : ∀ o o' : Obj, ((w1.alloc o).alloc o').cell? ⟨w.heap.size + 1, 6, none⟩ = some (.bool b1) := fun o o' => blk_cell (blk_alloc (blk_alloc k2 o) o') 6; have z7 : ∀ o o' : Obj, ((w1.alloc o).alloc o').cell? ⟨w.heap.size + 1, 7, none⟩ = some (.bool b2) := fun o o' => blk_cell (blk_alloc (blk_alloc k2 o) o') 7; have z8 : ∀ o o' : Obj, ((w1.alloc o).alloc o').cell? ⟨w.heap.size + 1, 8, none⟩ = some (.bool b3) := fun o o' => blk_cell (blk_alloc (blk_alloc k2 o) o') 8; have y0 : ∀ o : Obj, (w1.alloc o).cell? ⟨w.heap.size, 0, none⟩ = some (.int .i64 d) := fun o => blk_cell (blk_alloc k1 o) 0; have y1 : ∀ o : Obj, (w1.alloc o).cell? ⟨w.heap.size, 1, none⟩ = some (.string verb) := fun o => blk_cell (blk_alloc k1 o) 1; have y2 : ∀ o : Obj, (w1.alloc o).cell? ⟨w.heap.size, 2, none⟩ = some (.int .i64 code) := fun o => blk_cell (blk_alloc k1 o) 2; have y3 : ∀ o : Obj, (w1.alloc o).cell? ⟨w.heap.size, 3, none⟩ = some (.int .u32 opq) := fun o => blk_cell (blk_alloc k1 o) 3; have y4 : ∀ o : Obj, (w1.alloc o).cell? ⟨w.heap.size, 4, none⟩ = some (.bool false) := fun o => blk_cell (blk_alloc k1 o) 4; have y5 : ∀ o : Obj, (w1.alloc o).cell? ⟨w.heap.size, 5, none⟩ = some (.bool wc) := fun o => blk_cell (blk_alloc k1 o) 5; have y6 : ∀ o : Obj, (w1.alloc o).cell? ⟨w.heap.size, 6, none⟩ = some (.string flags) := fun o => blk_cell (blk_alloc k1 o) 6; have y7 : ∀ o : Obj, (w1.alloc o).cell? ⟨w.heap.size, 7, none⟩ = some (.slice A8 n8 c8) := fun o => blk_cell (blk_alloc k1 o) 7; have y8 : ∀ o : Obj, (w1.alloc o).cell? ⟨w.heap.size, 8, none⟩ = some (.slice A9 n9 c9) := fun o => blk_cell (blk_alloc k1 o) 8; have y9 : ∀ o : Obj, (w1.alloc o).cell? ⟨w.heap.size, 9, none⟩ = some (.bool b64) := fun o => blk_cell (blk_alloc k1 o) 9; have HB := Aside0.mk (below_step (show Below w.heap.size w _ from by repeat (with_reducible first | exact Below.refl _ _ | apply below_alloc | apply below_drew | apply pw_below_drewN)) hB); have HK2 := Aside0.mk k2; clear hB k1 k2 HA) | (go_at_call 10; refine (HE.out w1 _ HB.out).mono ?_; rintro e w2 ⟨v, rfl, hO, hB⟩; obtain ⟨A, cc, hv, hl, hC⟩ := Kd.R_reads hO; subst hv; obtain ⟨ad, hA, g0⟩ := Kd.at_int hC 0 (by omega) (by omega); rw [show ad.add (0 : Int).toNat = ad by simp [Addr.add], HV.out.1] at g0; obtain ⟨ad2, hA2, g2⟩ := Kd.at_int hC 2 (by omega) (by omega); obtain rfl := Option.some.inj (hA.symm.trans hA2); rw [show (2 : Int).toNat = 2 from rfl, add_pos ad 2 (by omega), HV.out.2.1] at g2; obtain ⟨ad3, hA3, g3⟩ := Kd.at_int hC 3 (by omega) (by omega); obtain rfl := Option.some.inj (hA.symm.trans hA3); rw [show (3 : Int).toNat = 3 from rfl, add_pos ad 3 (by omega), HV.out.2.2.1] at g3; obtain ⟨ad4, hA4, g4⟩ := Kd.at_int hC 4 (by omega) (by omega); obtain rfl := Option.some.inj (hA.symm.trans hA4); rw [show (4 : Int).toNat = 4 from rfl, add_pos ad 4 (by omega), HV.out.2.2.2.1] at g4; obtain ⟨ad8, hA8, g8⟩ := Kd.at_int hC 8 (by omega) (by omega); obtain rfl := Option.some.inj (hA.symm.trans hA8); rw [show (8 : Int).toNat = 8 from rfl, add_pos ad 8 (by omega), HV.out.2.2.2.2.1] at g8; obtain ⟨ad9, hA9, g9⟩ := Kd.at_int hC 9 (by omega) (by omega); obtain rfl := Option.some.inj (hA.symm.trans hA9); rw [show (9 : Int).toNat = 9 from rfl, add_pos ad 9 (by omega), HV.out.2.2.2.2.2.1] at g9; obtain ⟨ad10, hA10, g10⟩ := Kd.at_int hC 10 (by omega) (by omega); obtain rfl := Option.some.inj (hA.symm.trans hA10); rw [show (10 : Int).toNat = 10 from rfl, add_pos ad 10 (by omega), HV.out.2.2.2.2.2.2.1] at g10; obtain ⟨ad11, hA11, g11⟩ := Kd.at_int hC 11 (by omega) (by omega); obtain rfl := Option.some.inj (hA.symm.trans hA11); rw [show (11 : Int).toNat = 11 from rfl, add_pos ad 11 (by omega), HV.out.2.2.2.2.2.2.2] at g11; subst hA; have k2 := blk_below HK2.out hB; have zz0 := blk_cell k2 0; have zz1 := blk_cell k2 1; have HB2 := Aside0.mk (below_step HB.out hB); rw [HN.out]; clear hO hB hC hl hA2 hA3 hA4 hA8 hA9 hA10 hA11 k2 HE HK2 zs ys z0 z1 z2 z3 z4 z5 z6 z7 z8 y0 y1 y2 y3 y4 y5 y6 y7 y8 y9))
  obtain ⟨q1, q2, q3, q4, q5, q6, q7, q8, q9⟩ := QQ.out
  go_quiet (fail)
  go_wp2
  go_quiet (fail)
  clear q1 q2 q3 q4 q5 q6 q7 q8 q9
  go_wp2
  all_goals (
    go_ret
    exact ⟨by first | rfl | simp, by repeat (with_reducible first | exact HB2.out | apply pw_below_drewN)⟩)
set_option maxHeartbeats 8000000 in
set_option maxRecDepth 100000 in
theorem long_a2 (d : Int) (verb : ByteArray) (code opq : Int) (wc : Bool) (flags : ByteArray) (A8 : Option Addr) (c8 : Nat) (n8 : Nat) (A9 : Option Addr) (c9 : Nat) (n9 : Nat) (b64 : Bool) (AV : Option Addr) (cV : Nat) (nV : Nat) (fl cas ttl num : Int) (b1 b2 b3 : Bool) (key : ByteArray) (w : World) (L : List Int) (N n : Nat) (a b' c dd : Int) (hlen : L.length = N) (hN : N = 24 + n)
    (HE : Aside0 (∀ (W : World) (b : Obj), Below w.heap.size w W → Calls Try.prog 10 #[.agg #[.slice (some ⟨W.heap.size, 0, none⟩) 1 1, .int .i64 d, .string verb, .int .i64 code, .int .u32 opq, .bool false, .bool wc, .string flags, .slice A8 n8 c8, .slice A9 n9 c9, .bool b64], .slice (some ⟨W.heap.size + 1 + 1, 0, none⟩) 1 1] (((W.alloc (.cells #[.int .i64 0, .string key, .slice none 0 0, .int .u32 0, .int .i64 0, .int .u64 0, .int .u64 0, .int .u64 0, .bool false, .bool false] 44)).alloc b).alloc (.cells #[.int .i64 0, .slice AV nV cV, .int .u32 fl, .int .u64 cas, .int .i64 ttl, .int .u64 num, .bool b1, .bool b2, .bool b3] 46)) fun e w' => ∃ v0_ : Value, e = .returned v0_ ∧ Kd.R (Kd.int .u8) 5 w' W.heap.size (fun _ => True) v0_ L ∧ Below W.heap.size W w')) (HV : Aside0 (rd L 0 = 129 ∧ rd L 2 = c ∧ rd L 3 = dd ∧ rd L 4 = 4 ∧ rd L 8 = 0 ∧ rd L 9 = 0 ∧ rd L 10 = a ∧ rd L 11 = b'))
    (ha : 0 ≤ a ∧ a ≤ 255) (hb : 0 ≤ b' ∧ b' ≤ 255) (hc : 0 ≤ c ∧ c ≤ 255) (hd : 0 ≤ dd ∧ dd ≤ 255) (hab : a * 256 + b' = n) (hcd : c * 256 + dd = key.size) (hk : key.size ≤ 300) (hv : nV ≤ 2000) (hna : n = 4 + key.size + nV) (hkz : key.size ≠ 0) :
    Calls Try.prog 5 #[.agg #[.int .i64 d, .string verb, .int .i64 code, .int .u32 opq, .bool false, .bool wc, .string flags, .slice A8 n8 c8, .slice A9 n9 c9, .bool b64], .agg #[.int .i64 0, .slice AV nV cV, .int .u32 fl, .int .u64 cas, .int .i64 ttl, .int .u64 num, .bool b1, .bool b2, .bool b3], .string key] w (fun e w' => e = .returned (.bool true) ∧ Below w.heap.size w w') := by
  have hu39 := Try.underlying39
  have hu46 := Try.underlying46
  have hu27 := Try.underlying27
  have hu22 := Try.underlying22
  have hu40 := Try.underlying40
  have hu34 := Try.underlying34
  have hu37 := Try.underlying37
  have hu44 := Try.underlying44
  have HA := Aside0.mk (fun W => awake_w W)
  have HN := Aside0.mk hlen
  have t1 : decide ((nV : Int) > 2000) = false := decide_eq_false (by omega)
  have t2 : decide ((key.size : Int) > 300) = false := decide_eq_false (by omega)
  have t3 : decide ((N : Int) < 24) = false := decide_eq_false (by omega)
  have q1 : IntKind.i64.wrap (a * 256) = a * 256 := (i64_w _).trans (by unfold wrap64; omega)
  have q2 : IntKind.i64.wrap (a * 256 + b') = (n : Int) := (i64_w _).trans (by clear q1; unfold wrap64; omega)
  have q3 : IntKind.i64.wrap (c * 256) = c * 256 := (i64_w _).trans (by clear q1 q2; unfold wrap64; omega)
  have q4 : IntKind.i64.wrap (c * 256 + dd) = key.size := (i64_w _).trans (by clear q1 q2 q3; unfold wrap64; omega)
  have q5 : IntKind.i64.wrap a = a := (i64_w _).trans (by clear q1 q2 q3 q4; unfold wrap64; omega)
  have q6 : IntKind.i64.wrap b' = b' := (i64_w _).trans (by clear q1 q2 q3 q4 q5; unfold wrap64; omega)
  have q7 : IntKind.i64.wrap c = c := (i64_w _).trans (by clear q1 q2 q3 q4 q5 q6; unfold wrap64; omega)
  have q8 : IntKind.i64.wrap dd = dd := (i64_w _).trans (by clear q1 q2 q3 q4 q5 q6 q7; unfold wrap64; omega)
  have q9 : IntKind.i64.wrap 0 = 0 := by decide
  have QQ := Aside0.mk (And.intro q1 (And.intro q2 (And.intro q3 (And.intro q4 (And.intro q5 (And.intro q6 (And.intro q7 (And.intro q8 q9))))))))
  clear q1 q2 q3 q4 q5 q6 q7 q8 q9
  have p24 : (24 : Int) ≤ (N : Int) := by omega
  have pN : (N : Int) ≤ 100000 := by omega
  have u1 : ((n : Int) != (N : Int) - 24) = false := bne_eq_false_iff_eq.mpr (by omega)
  have u5 : ((key.size : Int) != 0) = true := bne_iff_ne.mpr (by omega)
  have u4 : ((n : Int) == 4 + (key.size : Int) + (nV : Int)) = true := beq_iff_eq.mpr (by omega)
  have pk0 : (0 : Int) ≤ (key.size : Int) := by omega
  have pk1 : (key.size : Int) ≤ 300 := by omega
  have pv : (nV : Int) ≤ 2000 := by omega
  clear hna hkz
  have p2 : (2 : Int) < (N : Int) := by omega
  have p3 : (3 : Int) < (N : Int) := by omega
  have p4 : (4 : Int) < (N : Int) := by omega
  have p8 : (8 : Int) < (N : Int) := by omega
  have p9 : (9 : Int) < (N : Int) := by omega
  have p10 : (10 : Int) < (N : Int) := by omega
  have p11 : (11 : Int) < (N : Int) := by omega
  have p0 : (0 : Int) < (N : Int) := by omega
  have HH := Aside0.mk (And.intro ha (And.intro hb (And.intro hc (And.intro hd (And.intro hab (And.intro hcd (And.intro hk (And.intro hv hN))))))))
  have hN24 : 24 ≤ L.length := by omega
  clear ha hb hc hd hab hcd hk hv hlen hN
  go_enter Try.func5, Try.ntmps5
  go_wp2_with (first | (go_at_call 6; refine (HA.out _).mono ?_; rintro e w1 ⟨rfl, hB⟩; have k2 := blk_any hB (blk2 w _ _); have k1 := blk_any hB (blk_alloc (blk_new w _) _); have zs := blk_cell k2 1; have ys := blk_cell k1 4; have z0 : ∀ o o' : Obj, ((w1.alloc o).alloc o').cell? ⟨w.heap.size + 1, 0, none⟩ = some (.int .i64 0) := fun o o' => blk_cell (blk_alloc (blk_alloc k2 o) o') 0; have z1 : ∀ o o' : Obj, ((w1.alloc o).alloc o').cell? ⟨w.heap.size + 1, 1, none⟩ = some (.slice AV nV cV) := fun o o' => blk_cell (blk_alloc (blk_alloc k2 o) o') 1; have z2 : ∀ o o' : Obj, ((w1.alloc o).alloc o').cell? ⟨w.heap.size + 1, 2, none⟩ = some (.int .u32 fl) := fun o o' => blk_cell (blk_alloc (blk_alloc k2 o) o') 2; have z3 : ∀ o o' : Obj, ((w1.alloc o).alloc o').cell? ⟨w.heap.size + 1, 3, none⟩ = some (.int .u64 cas) := fun o o' => blk_cell (blk_alloc (blk_alloc k2 o) o') 3; have z4 : ∀ o o' : Obj, ((w1.alloc o).alloc o').cell? ⟨w.heap.size + 1, 4, none⟩ = some (.int .i64 ttl) := fun o o' => blk_cell (blk_alloc (blk_alloc k2 o) o') 4; have z5 : ∀ o o' : Obj, ((w1.alloc o).alloc o').cell? ⟨w.heap.size + 1, 5, none⟩ = some (.int .u64 num) := fun o o' => blk_cell (blk_alloc (blk_alloc k2 o) o') 5; have z6 : ∀ o o' : Obj, ((w1.alloc o).alloc o').cell? ⟨w.heap.size + 1, 6, none⟩ = some (.bool b1) := fun o o' => blk_cell (blk_alloc (blk_alloc k2 o) o') 6; have z7 : ∀ o o' : Obj, ((w1.alloc o).alloc o').cell? ⟨w.heap.size + 1, 7, none⟩ = some (.bool b2) := fun o o' => blk_cell (blk_alloc (blk_alloc k2 o) o') 7; have z8 : ∀ o o' : Obj, ((w1.alloc o).alloc o').cell? ⟨w.heap.size + 1, 8, none⟩ = some (.bool b3) := fun o o' => blk_cell (blk_alloc (blk_alloc k2 o) o') 8; have y0 : ∀ o : Obj, (w1.alloc o).cell? ⟨w.heap.size, 0, none⟩ = some (.int .i64 d) := fun o => blk_cell (blk_alloc k1 o) 0; have y1 : ∀ o : Obj, (w1.alloc o).cell? ⟨w.heap.size, 1, none⟩ = some (.string verb) := fun o => blk_cell (blk_alloc k1 o) 1; have y2 : ∀ o : Obj, (w1.alloc o).cell? ⟨w.heap.size, 2, none⟩ = some (.int .i64 code) := fun o => blk_cell (blk_alloc k1 o) 2; have y3 : ∀ o : Obj, (w1.alloc o).cell? ⟨w.heap.size, 3, none⟩ = some (.int .u32 opq) := fun o => blk_cell (blk_alloc k1 o) 3; have y4 : ∀ o : Obj, (w1.alloc o).cell? ⟨w.heap.size, 4, none⟩ = some (.bool false) := fun o => blk_cell (blk_alloc k1 o) 4; have y5 : ∀ o : Obj, (w1.alloc o).cell? ⟨w.heap.size, 5, none⟩ = some (.bool wc) := fun o => blk_cell (blk_alloc k1 o) 5; have y6 : ∀ o : Obj, (w1.alloc o).cell? ⟨w.heap.size, 6, none⟩ = some (.string flags) := fun o => blk_cell (blk_alloc k1 o) 6; have y7 : ∀ o : Obj, (w1.alloc o).cell? ⟨w.heap.size, 7, none⟩ = some (.slice A8 n8 c8) := fun o => blk_cell (blk_alloc k1 o) 7; have y8 : ∀ o : Obj, (w1.alloc o).cell? ⟨w.heap.size, 8, none⟩ = some (.slice A9 n9 c9) := fun o => blk_cell (blk_alloc k1 o) 8; have y9 : ∀ o : Obj, (w1.alloc o).cell? ⟨w.heap.size, 9, none⟩ = some (.bool b64) := fun o => blk_cell (blk_alloc k1 o) 9; have HB := Aside0.mk (below_step (show Below w.heap.size w _ from by repeat (with_reducible first | exact Below.refl _ _ | apply below_alloc | apply below_drew | apply pw_below_drewN)) hB); have HK2 := Aside0.mk k2; clear hB k1 k2 HA) | (go_at_call 10; refine (HE.out w1 _ HB.out).mono ?_; rintro e w2 ⟨v, rfl, hO, hB⟩; obtain ⟨A, cc, hv, hl, hC⟩ := Kd.R_reads hO; subst hv; obtain ⟨ad, hA, g0⟩ := Kd.at_int hC 0 (by omega) (by omega); rw [show ad.add (0 : Int).toNat = ad by simp [Addr.add], HV.out.1] at g0; obtain ⟨ad2, hA2, g2⟩ := Kd.at_int hC 2 (by omega) (by omega); obtain rfl := Option.some.inj (hA.symm.trans hA2); rw [show (2 : Int).toNat = 2 from rfl, add_pos ad 2 (by omega), HV.out.2.1] at g2; obtain ⟨ad3, hA3, g3⟩ := Kd.at_int hC 3 (by omega) (by omega); obtain rfl := Option.some.inj (hA.symm.trans hA3); rw [show (3 : Int).toNat = 3 from rfl, add_pos ad 3 (by omega), HV.out.2.2.1] at g3; obtain ⟨ad4, hA4, g4⟩ := Kd.at_int hC 4 (by omega) (by omega); obtain rfl := Option.some.inj (hA.symm.trans hA4); rw [show (4 : Int).toNat = 4 from rfl, add_pos ad 4 (by omega), HV.out.2.2.2.1] at g4; obtain ⟨ad8, hA8, g8⟩ := Kd.at_int hC 8 (by omega) (by omega); obtain rfl := Option.some.inj (hA.symm.trans hA8); rw [show (8 : Int).toNat = 8 from rfl, add_pos ad 8 (by omega), HV.out.2.2.2.2.1] at g8; obtain ⟨ad9, hA9, g9⟩ := Kd.at_int hC 9 (by omega) (by omega); obtain rfl := Option.some.inj (hA.symm.trans hA9); rw [show (9 : Int).toNat = 9 from rfl, add_pos ad 9 (by omega), HV.out.2.2.2.2.2.1] at g9; obtain ⟨ad10, hA10, g10⟩ := Kd.at_int hC 10 (by omega) (by omega); obtain rfl := Option.some.inj (hA.symm.trans hA10); rw [show (10 : Int).toNat = 10 from rfl, add_pos ad 10 (by omega), HV.out.2.2.2.2.2.2.1] at g10; obtain ⟨ad11, hA11, g11⟩ := Kd.at_int hC 11 (by omega) (by omega); obtain rfl := Option.some.inj (hA.symm.trans hA11); rw [show (11 : Int).toNat = 11 from rfl, add_pos ad 11 (by omega), HV.out.2.2.2.2.2.2.2] at g11; subst hA; have k2 := blk_below HK2.out hB; have zz0 := blk_cell k2 0; have zz1 := blk_cell k2 1; have HB2 := Aside0.mk (below_step HB.out hB); rw [HN.out]; clear hO hB hC hl hA2 hA3 hA4 hA8 hA9 hA10 hA11 k2 HE HK2 zs ys z0 z1 z2 z3 z4 z5 z6 z7 z8 y0 y1 y2 y3 y4 y5 y6 y7 y8 y9))
  obtain ⟨q1, q2, q3, q4, q5, q6, q7, q8, q9⟩ := QQ.out
  go_quiet (fail)
  go_wp2
  go_quiet (fail)
  clear q1 q2 q3 q4 q5 q6 q7 q8 q9
  go_wp2
  all_goals (
    go_ret
    exact ⟨by first | rfl | simp, by repeat (with_reducible first | exact HB2.out | apply pw_below_drewN)⟩)
def butterylaw17_BinoutLong.Ok (opq fl : Int) : Prop := 0 ≤ opq ∧ opq < 4294967296 ∧ 0 ≤ fl ∧ fl < 4294967296
instance (opq fl : Int) : Decidable (butterylaw17_BinoutLong.Ok opq fl) := by unfold butterylaw17_BinoutLong.Ok; infer_instance
def butterylaw17_BinoutLong.f (a0_0 : Int) (a0_1 : ByteArray) (a0_2 : Int) (a0_3 : Int) (a0_4 : Bool) (a0_5 : Bool) (a0_6 : ByteArray) (l0_7 : List ByteArray) (l0_8 : List ByteArray) (a0_9 : Bool) (a1_0 : Int) (l1_1 : List Int) (a1_2 : Int) (a1_3 : Int) (a1_4 : Int) (a1_5 : Int) (a1_6 : Bool) (a1_7 : Bool) (a1_8 : Bool) (a2 : ByteArray) : Option Bool :=
  if butterylaw17_BinoutLong.Ok a0_3 a1_2 then some true else none
theorem butterylaw17_BinoutLong.calls (a0_0 : Int) (a0_1 : ByteArray) (a0_2 : Int) (a0_3 : Int) (a0_4 : Bool) (a0_5 : Bool) (a0_6 : ByteArray) (A0_7 : Option Addr) (c0_7 : Nat) (l0_7 : List ByteArray) (A0_8 : Option Addr) (c0_8 : Nat) (l0_8 : List ByteArray) (a0_9 : Bool) (a1_0 : Int) (A1_1 : Option Addr) (c1_1 : Nat) (l1_1 : List Int) (a1_2 : Int) (a1_3 : Int) (a1_4 : Int) (a1_5 : Int) (a1_6 : Bool) (a1_7 : Bool) (a1_8 : Bool) (a2 : ByteArray) (r : Bool) (w : World)
    (hr0_7 : Kd.C Kd.string w A0_7 l0_7.length l0_7) (hc0_7 : l0_7.length ≤ c0_7) (hr0_8 : Kd.C Kd.string w A0_8 l0_8.length l0_8) (hc0_8 : l0_8.length ≤ c0_8) (hr1_1 : Kd.C (Kd.int .u8) w A1_1 l1_1.length l1_1) (hc1_1 : l1_1.length ≤ c1_1)
    (h : butterylaw17_BinoutLong.f a0_0 a0_1 a0_2 a0_3 a0_4 a0_5 a0_6 l0_7 l0_8 a0_9 a1_0 l1_1 a1_2 a1_3 a1_4 a1_5 a1_6 a1_7 a1_8 a2 = some r) :
    Calls Try.prog 5 #[.agg #[.int .i64 a0_0, .string a0_1, .int .i64 a0_2, .int .u32 a0_3, .bool a0_4, .bool a0_5, .string a0_6, .slice A0_7 l0_7.length c0_7, .slice A0_8 l0_8.length c0_8, .bool a0_9], .agg #[.int .i64 a1_0, .slice A1_1 l1_1.length c1_1, .int .u32 a1_2, .int .u64 a1_3, .int .i64 a1_4, .int .u64 a1_5, .bool a1_6, .bool a1_7, .bool a1_8], .string a2] w fun e w' => e = .returned (.bool r) ∧ Below w.heap.size w w' := by
  unfold butterylaw17_BinoutLong.f at h
  by_cases hok : butterylaw17_BinoutLong.Ok a0_3 a1_2
  · rw [if_pos hok] at h
    obtain rfl := Option.some.inj h
    obtain ⟨o1, o2, o3, o4⟩ := hok
    by_cases he : 2000 < l1_1.length ∨ 300 < a2.size ∨ a0_4 = true
    · exact long_early a0_0 a0_1 a0_2 a0_3 a0_4 a0_5 a0_6 A0_7 c0_7 l0_7 A0_8 c0_8 l0_8 a0_9 a1_0 A1_1 c1_1 l1_1 a1_2 a1_3 a1_4 a1_5 a1_6 a1_7 a1_8 a2 w he
    · simp only [not_or, Bool.not_eq_true] at he
      obtain ⟨e1, e2, rfl⟩ := he
      have hE := fun (W : World) (b : Obj) (hB : Below w.heap.size w W) => longEnc W b a2 a0_0 a0_1 a0_2 a0_3 a0_5 a0_6 A0_7 c0_7 l0_7 A0_8 c0_8 l0_8 a0_9 a1_0 A1_1 c1_1 l1_1 a1_2 a1_3 a1_4 a1_5 a1_6 a1_7 a1_8 (Kd.C_below hr0_7 hB) hc0_7 (Kd.C_below hr0_8 hB) hc0_8 (Kd.C_below hr1_1 hB) hc1_1 o3 o4 o1 o2 (by omega) (by omega)
      have q1 := partsX_len a1_0 a1_2
      have q2 := partsK_len a1_0 a0_2 a2
      have q3 := partsV_len a1_0 a1_5 l1_1
      have hbl : (partsX a1_0 a1_2 ++ partsK a1_0 a0_2 a2 ++ partsV a1_0 a1_5 l1_1).length = (partsX a1_0 a1_2).length + (partsK a1_0 a0_2 a2).length + (partsV a1_0 a1_5 l1_1).length := by rw [List.length_append, List.length_append]
      have hL := long_bytes a0_2 (partsK a1_0 a0_2 a2).length (partsX a1_0 a1_2).length a1_0 (partsX a1_0 a1_2 ++ partsK a1_0 a0_2 a2 ++ partsV a1_0 a1_5 l1_1) a0_3 (partsC a1_0 a1_3) (by omega)
      obtain ⟨L0, L1, L2, L3, L4, L5, L6, L7, L8⟩ := hL
      rw [hbl] at L0 L7 L8
      generalize encRows a0_2 (partsK a1_0 a0_2 a2).length (partsX a1_0 a1_2).length a1_0 (partsX a1_0 a1_2 ++ partsK a1_0 a0_2 a2 ++ partsV a1_0 a1_5 l1_1) a0_3 (partsC a1_0 a1_3) = L at *
      by_cases hs : a1_0 = 0
      · subst hs
        have k1 : (partsX 0 a1_2).length = 4 := rfl
        have k3 : (partsV 0 a1_5 l1_1).length = l1_1.length := rfl
        rw [k1, k3] at L0 L7 L8
        rw [k1] at L4
        by_cases hc : (a0_2 = 12 ∨ a0_2 = 13) ∧ a2.size ≠ 0
        · have k2 : (partsK 0 a0_2 a2).length = a2.size := by unfold partsK; rw [if_pos rfl, if_pos hc.1, bytesOf_length]
          rw [k2] at L0 L7 L8 L2 L3
          exact long_a2 a0_0 a0_1 a0_2 a0_3 a0_5 a0_6 A0_7 c0_7 l0_7.length A0_8 c0_8 l0_8.length a0_9 A1_1 c1_1 l1_1.length a1_2 a1_3 a1_4 a1_5 a1_6 a1_7 a1_8 a2 w _ (24 + (4 + a2.size + l1_1.length)) (4 + a2.size + l1_1.length) _ _ _ _ L0 rfl ⟨hE⟩ ⟨L1, L2, L3, L4, L5, L6, L7, L8⟩ (by omega) (by omega) (by omega) (by omega) (by omega) (by omega) (by omega) (by omega) rfl hc.2
        · have k2 : (partsK 0 a0_2 a2).length = 0 := by
            unfold partsK
            rw [if_pos rfl]
            split
            · rename_i h1
              have h2 : a2.size = 0 := Classical.byContradiction fun h2 => hc ⟨h1, h2⟩
              rw [bytesOf_length]; exact h2
            · rfl
          rw [k2] at L0 L7 L8 L2 L3
          exact long_a1 a0_0 a0_1 a0_2 a0_3 a0_5 a0_6 A0_7 c0_7 l0_7.length A0_8 c0_8 l0_8.length a0_9 A1_1 c1_1 l1_1.length a1_2 a1_3 a1_4 a1_5 a1_6 a1_7 a1_8 a2 w _ (24 + (4 + l1_1.length)) (4 + l1_1.length) _ _ _ _ (by omega) rfl ⟨hE⟩ ⟨L1, L2, L3, L4, L5, L6, L7, L8⟩ (by omega) (by omega) (by omega) (by omega) (by omega) (by omega) (by omega) (by omega) rfl
      · have k1 : (partsX a1_0 a1_2).length = 0 := by unfold partsX; rw [if_neg hs]; rfl
        have k2 : (partsK a1_0 a0_2 a2).length = 0 := by unfold partsK; rw [if_neg hs]; rfl
        have k3 : (partsV a1_0 a1_5 l1_1).length ≤ 8 := by unfold partsV; rw [if_neg hs]; (split; (simp [putL8]); (split <;> simp))
        rw [k1, k2] at L0 L7 L8
        rw [k2] at L2 L3
        rw [k1] at L4
        generalize (partsV a1_0 a1_5 l1_1).length = m at *
        exact long_b a0_0 a0_1 a0_2 a0_3 a0_5 a0_6 A0_7 c0_7 l0_7.length A0_8 c0_8 l0_8.length a0_9 a1_0 A1_1 c1_1 l1_1.length a1_2 a1_3 a1_4 a1_5 a1_6 a1_7 a1_8 a2 w _ (24 + m) m _ _ _ _ (by omega) rfl ⟨hE⟩ ⟨L1, L2, L3, L4, L5, L6, L7, L8⟩ (by omega) (by omega) (by omega) (by omega) (by omega) (by omega) (by omega) (by omega) hs k3
  · rw [if_neg hok] at h; cases h

/-- The pure statement of butterylaw17_BinoutLong. -/
def butterylaw17_BinoutLong.Pure : Prop := ∀ (a0_0 : Int) (a0_1 : ByteArray) (a0_2 : Int) (a0_3 : Int) (a0_4 : Bool) (a0_5 : Bool) (a0_6 : ByteArray) (l0_7 : List ByteArray) (l0_8 : List ByteArray) (a0_9 : Bool) (a1_0 : Int) (l1_1 : List Int) (a1_2 : Int) (a1_3 : Int) (a1_4 : Int) (a1_5 : Int) (a1_6 : Bool) (a1_7 : Bool) (a1_8 : Bool) (a2 : ByteArray), ((Lit.int .i64 a0_0).wf = true) → (a0_1.size ≤ maxLen) → ((Lit.int .i64 a0_2).wf = true) → ((Lit.int .u32 a0_3).wf = true) → (a0_6.size ≤ maxLen) → (l0_7.length ≤ maxLen ∧ ∀ x ∈ l0_7, (fun s => s.size ≤ maxLen) x) → (l0_8.length ≤ maxLen ∧ ∀ x ∈ l0_8, (fun s => s.size ≤ maxLen) x) → ((Lit.int .i64 a1_0).wf = true) → (l1_1.length ≤ maxLen ∧ ∀ x ∈ l1_1, (fun n => (Lit.int .u8 n).wf = true) x) → ((Lit.int .u32 a1_2).wf = true) → ((Lit.int .u64 a1_3).wf = true) → ((Lit.int .i64 a1_4).wf = true) → ((Lit.int .u64 a1_5).wf = true) → a2.size ≤ 140737488351232 → butterylaw17_BinoutLong.f a0_0 a0_1 a0_2 a0_3 a0_4 a0_5 a0_6 l0_7 l0_8 a0_9 a1_0 l1_1 a1_2 a1_3 a1_4 a1_5 a1_6 a1_7 a1_8 a2 = some true

end Go.Proofs.Ytpfjoeagblkonaa.Hb
