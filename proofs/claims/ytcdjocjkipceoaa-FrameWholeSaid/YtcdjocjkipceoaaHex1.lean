-- Written by this session's own program (wip/hprint.py) out of the translation, over hand-proved contracts. Lean checks it.
import Derived.Test.YtcdjocjkipceoaaHex0
namespace Go.Proofs.Ytcdjocjkipceoaa.He
open Go.RowKit Go.Proofs.YtcdjocjkipceoaaW.PrintWords Go.Proofs.YtcdjocjkipceoaaW.PrintLast Go.Proofs.YtcdjocjkipceoaaW.PrintMore
attribute [local go_sem] max2_int min2_int max_two min_two max_three min_three max_four min_four   -- for this text's walks alone
set_option linter.unusedVariables false
set_option linter.unusedSimpArgs false

/-! ### bytes_IndexByte: function 30 -/
def bytes_IndexByte.f (l0 : List Int) (a1 : Int) : Option (Int) := some (Lib.indexByte (Lib.bytesOf l0) a1.toNat.toUInt8)
theorem bytes_IndexByte.entry {P : Program} (w : World) (a : Addr) (n c : Nat) (xs : List Int) (hx : xs.length = n) (hc : ∀ i, i < n → w.cell? (a.add i) = some (.int .u8 (xs.getD i 0))) (cv : Int) :
    (Extern.BytealgIndexByte.indexByte #[.slice (some a) n c, .int .u8 cv]).run P w = .ok (.int .i64 (Lib.indexByte (Lib.bytesOf xs) cv.toNat.toUInt8)) w := by
  have hl := Lib.run_loadBytesX (P := P) w xs a .empty (fun j x hj => by
    have hjl : j < xs.length := (List.getElem?_eq_some_iff.1 hj).1
    rw [hc j (by omega), List.getD_eq_getElem?_getD, hj]
    rfl)
  rw [hx] at hl
  have hs := Lib.run_indexByteString (P := P) ⟨(Lib.bytesOf xs).toArray⟩ cv w
  have he : (⟨ByteArray.empty.data ++ (Lib.bytesOf xs).toArray⟩ : ByteArray) = ⟨(Lib.bytesOf xs).toArray⟩ := by
    apply ByteArray.ext
    show (#[] : Array UInt8) ++ (Lib.bytesOf xs).toArray = (Lib.bytesOf xs).toArray
    simp
  rw [he] at hl
  change Sem.run P (do
    let b ← Extern.Bytes.bytesOf (.slice (some a) n c)
    let c ← Extern.Bytes.asByte (.int .u8 cv)
    match (List.range b.size).find? fun i => b[i]! == c with
    | some i => pure (goInt i)
    | none => pure (goInt (-1))) w = _
  change Sem.run P (do
    let b ← Extern.Bytes.bytesOf (.string ⟨(Lib.bytesOf xs).toArray⟩)
    let c ← Extern.Bytes.asByte (.int .u8 cv)
    match (List.range b.size).find? fun i => b[i]! == c with
    | some i => pure (goInt i)
    | none => pure (goInt (-1))) w = _ at hs
  simp only [Extern.Bytes.bytesOf, Sem.run_bind, Sem.run_pure, hl, Result.andThen] at hs ⊢
  exact hs
theorem bytes_IndexByte.run {P : Program} (w : World) (A : Option Addr) (c : Nat) (l : List Int) (hr : Kd.C (Kd.int .u8) w A l.length l) (cv : Int) :
    (Extern.BytealgIndexByte.indexByte #[.slice A l.length c, .int .u8 cv]).run P w = .ok (.int .i64 (Lib.indexByte (Lib.bytesOf l) cv.toNat.toUInt8)) w := by
  have hR := Kd.reads_of_C (enc := Value.int .u8) (d := (0 : Int)) (h1 := fun _ => rfl) hr
  cases A with
  | none =>
    have h0 : l = [] := by
      cases l with
      | nil => rfl
      | cons x t =>
        obtain ⟨ad, e, _⟩ := hr.2.2 (by simp)
        cases e
    subst h0
    exact Lib.run_indexByteNil w _ _ cv
  | some ad =>
    refine bytes_IndexByte.entry w ad _ c l rfl (fun i hi => ?_) cv
    obtain ⟨ad', e, hc⟩ := hR.2.2 (by omega)
    cases e
    exact hc i hi
set_option maxHeartbeats 2000000 in
set_option maxRecDepth 100000 in
theorem bytes_IndexByte.calls (A0 : Option Addr) (c0 : Nat) (l0 : List Int) (a1 : Int) (r : Int) (w : World) (hr0 : Kd.C (Kd.int .u8) w A0 l0.length l0) (hc0 : l0.length ≤ c0) (h : bytes_IndexByte.f l0 a1 = some r) :
    Calls Try.prog 30 #[.slice A0 l0.length c0, .int .u8 a1] w fun e w' => e = .returned (.int .i64 r) ∧ Drawn0 w w' := by
  have hrun := bytes_IndexByte.run (P := Try.prog) w A0 c0 l0 hr0 a1
  obtain rfl := Option.some.inj h
  clear h hr0 hc0
  have HR := Aside0.mk hrun
  clear hrun
  generalize l0.length = n at *
  generalize Lib.indexByte (Lib.bytesOf l0) a1.toNat.toUInt8 = r at *
  go_enter Try.func30, Try.ntmps30
  go_wp2
  rw [run_callFunc_extern Try.func35 (by kernel_rfl) (by kernel_rfl) (by kernel_rfl) (e := Extern.BytealgIndexByte.indexByte) (by kernel_rfl), HR.out]
  simp only [Result.andThen]
  rw [Oper.upon_value]
  go_wp2
  go_ret
  exact ⟨rfl, Drawn0.refl _⟩

/-! ### bytes_Index: function 27 -/
/-- Of a separator of one byte alone. -/
def bytes_Index.f (l0 : List Int) (l1 : List Int) : Option (Int) := if l1.length = 1 then some (Lib.indexByte (Lib.bytesOf l0) (l1.getD 0 0).toNat.toUInt8) else none
set_option maxHeartbeats 2000000 in
set_option maxRecDepth 100000 in
theorem bytes_Index.calls (A0 : Option Addr) (c0 : Nat) (l0 : List Int) (A1 : Option Addr) (c1 : Nat) (l1 : List Int) (r : Int) (w : World) (hr0 : Kd.C (Kd.int .u8) w A0 l0.length l0) (hc0 : l0.length ≤ c0) (hr1 : Kd.C (Kd.int .u8) w A1 l1.length l1) (hc1 : l1.length ≤ c1) (h : bytes_Index.f l0 l1 = some r) :
    Calls Try.prog 27 #[.slice A0 l0.length c0, .slice A1 l1.length c1] w fun e w' => e = .returned (.int .i64 r) ∧ Drawn0 w w' := by
  unfold bytes_Index.f at h
  by_cases h1 : l1.length = 1
  · rw [if_pos h1] at h
    obtain ⟨ad, hA, hcell⟩ := (Kd.reads_of_C (enc := Value.int .u8) (d := (0 : Int)) (h1 := fun _ => rfl) hr1).2.2 (by omega)
    have hc := hcell 0 (by omega)
    have ha0 : ad.add 0 = ad := by simp [Addr.add]
    rw [ha0] at hc
    subst hA
    rw [h1]
    have HC := Aside0.mk (bytes_IndexByte.calls A0 c0 l0 (l1.getD 0 0) r w hr0 hc0 h)
    clear h hcell hr0 hr1 hc0 hc1 h1
    generalize (l1.getD 0 0) = x at *
    go_enter Try.func27, Try.ntmps27
    go_wp2_with (go_at_call 30; refine HC.out.mono ?_; rintro e w' ⟨rfl, ⟨m, rfl⟩⟩)
    go_ret
    exact ⟨rfl, ⟨⟨_, rfl⟩⟩⟩
  · rw [if_neg h1] at h
    cases h

/-! ### bytes_Cut: function 21 -/
/-- The place of a byte, as the entry tells it. -/
def feedAt (l : List Int) (x : Int) : Int := Lib.indexByte (Lib.bytesOf l) x.toNat.toUInt8
theorem feedAt_lt (l : List Int) (x : Int) : feedAt l x < l.length ∧ -1 ≤ feedAt l x := by
  have key : ∀ (u : List UInt8) (y : UInt8), Lib.indexByte u y < u.length ∧ -1 ≤ Lib.indexByte u y := by
    intro u y
    refine ⟨?_, Lib.indexByte_ge u y⟩
    induction u with
    | nil => simp [Lib.indexByte]
    | cons b t ih =>
      have := Lib.indexByte_ge t y
      simp only [Lib.indexByte, List.length_cons]
      split
      · omega
      · split
        · omega
        · omega
  have := key (Lib.bytesOf l) x.toNat.toUInt8
  rw [Lib.bytesOf_length] at this
  exact this
theorem one_byte (W : World) (g : Nat) (x : Int) (h : W.cell? ⟨g, 0, none⟩ = some (.int .u8 x)) : Kd.C (Kd.int .u8) W (some ⟨g, 0, none⟩) [x].length [x] := by
  refine ⟨rfl, by simp, fun _ => ⟨_, rfl, fun j p hj => ?_⟩⟩
  cases j with
  | succ j => simp at hj
  | zero =>
    obtain rfl : x = p := by simpa using hj
    refine ⟨[.int .u8 x], rfl, rfl, fun i u hu => ?_⟩
    cases i with
    | succ i => simp at hu
    | zero =>
      obtain rfl : Value.int .u8 x = u := by simpa using hu
      exact h
def CutYes (v : Value) (w : World) (e : Ending) (w' : World) : Prop := ∃ after : Value, e = .returned (.tuple #[v, after, .bool true]) ∧ Drawn0 w w'
set_option maxHeartbeats 2000000 in
set_option maxRecDepth 100000 in
theorem bytes_Cut.yes (A : Option Addr) (c : Nat) (l : List Int) (g c1 : Nat) (x : Int) (w : World) (hr : Kd.C (Kd.int .u8) w A l.length l) (hc : l.length ≤ c) (hg : w.cell? ⟨g, 0, none⟩ = some (.int .u8 x)) (hc1 : 1 ≤ c1) (hl : l.length ≤ 9223372036854775807) (hi : 0 ≤ feedAt l x) :
    Calls Try.prog 21 #[.slice A l.length c, .slice (some ⟨g, 0, none⟩) 1 c1] w fun e w' => CutYes (.slice A (feedAt l x).toNat c) w e w' := by
  have hu := Try.underlying22
  have HI := Aside0.mk (bytes_Index.calls A c l (some ⟨g, 0, none⟩) c1 [x] (feedAt l x) w hr hc (one_byte w g x hg) hc1 rfl)
  obtain ⟨h1, _⟩ := feedAt_lt l x
  obtain ⟨ad, hA, _⟩ := hr.2.2 (by omega)
  clear hr hg
  subst hA
  obtain ⟨i, hi2⟩ := Int.eq_ofNat_of_zero_le hi
  rw [hi2] at HI h1
  rw [hi2, Int.toNat_natCast]
  clear hi2 hi
  have h2 : i + 1 ≤ l.length := by omega
  have h3 : i ≤ c := by omega
  clear h1
  go_enter Try.func21, Try.ntmps21
  go_wp2_with (go_at_call 27; refine HI.out.mono ?_; rintro e w' ⟨rfl, ⟨m, rfl⟩⟩)
  go_quiet (fail)
  go_wp2
  all_goals (go_ret3; exact ⟨_, rfl, ⟨⟨_, rfl⟩⟩⟩)
set_option maxHeartbeats 2000000 in
set_option maxRecDepth 100000 in
theorem bytes_Cut.no (A : Option Addr) (c : Nat) (l : List Int) (g c1 : Nat) (x : Int) (w : World) (hr : Kd.C (Kd.int .u8) w A l.length l) (hc : l.length ≤ c) (hg : w.cell? ⟨g, 0, none⟩ = some (.int .u8 x)) (hc1 : 1 ≤ c1) (hi : feedAt l x < 0) :
    Calls Try.prog 21 #[.slice A l.length c, .slice (some ⟨g, 0, none⟩) 1 c1] w fun e w' => e = .returned (.tuple #[.slice A l.length c, .slice none 0 0, .bool false]) ∧ Drawn0 w w' := by
  have hu := Try.underlying22
  have HI := Aside0.mk (bytes_Index.calls A c l (some ⟨g, 0, none⟩) c1 [x] (feedAt l x) w hr hc (one_byte w g x hg) hc1 rfl)
  clear hr hg
  have hib : decide (0 ≤ feedAt l x) = false := decide_eq_false (by omega)
  generalize feedAt l x = i at *
  clear hi
  generalize l.length = n at *
  go_enter Try.func21, Try.ntmps21
  go_wp2_with (go_at_call 27; refine HI.out.mono ?_; rintro e w' ⟨rfl, ⟨m, rfl⟩⟩)
  go_ret3
  exact ⟨rfl, by repeat (first | exact Drawn0.refl _ | apply Drawn0.step)⟩

/-! ### bytes_Equal: function 31 -/
def bytes_Equal.f (l0 : List Int) (l1 : List Int) : Option (Bool) := some ((strOfNums l0).toList == (strOfNums l1).toList)
set_option maxHeartbeats 8000000 in
set_option maxRecDepth 100000 in
theorem bytes_Equal.calls (A0 : Option Addr) (c0 : Nat) (l0 : List Int) (A1 : Option Addr) (c1 : Nat) (l1 : List Int) (r : Bool) (w : World) (hr0 : Kd.C (Kd.int .u8) w A0 l0.length l0) (hc0 : l0.length ≤ c0) (hr1 : Kd.C (Kd.int .u8) w A1 l1.length l1) (hc1 : l1.length ≤ c1) (h : bytes_Equal.f l0 l1 = some r) :
    Calls Try.prog 31 #[.slice A0 l0.length c0, .slice A1 l1.length c1] w fun e w' => e = .returned (.bool r) ∧ Drawn0 w w' := by
  have HR0 := Aside0.mk hr0
  have HC0 := Aside0.mk hc0
  clear hr0 hc0
  have HR1 := Aside0.mk hr1
  have HC1 := Aside0.mk hc1
  clear hr1 hc1
  have H : (some ((strOfNums l0).toList == (strOfNums l1).toList)) = some r := h
  clear h
  obtain rfl := Option.some.inj H
  have hcv3 := Kd.C_string (P := Try.prog) (A := A0) (c := c0) Try.underlying22 Try.underlying5 Try.underlying9 HR0.out
  have hcvd3 := fun m_ : Nat => Kd.C_string (P := Try.prog) (A := A0) (c := c0) Try.underlying22 Try.underlying5 Try.underlying9 (Kd.C_drewN (HR0.out) m_)
  have hcv4 := Kd.C_string (P := Try.prog) (A := A1) (c := c1) Try.underlying22 Try.underlying5 Try.underlying9 HR1.out
  have hcvd4 := fun m_ : Nat => Kd.C_string (P := Try.prog) (A := A1) (c := c1) Try.underlying22 Try.underlying5 Try.underlying9 (Kd.C_drewN (HR1.out) m_)
  go_enter Try.func31, Try.ntmps31
  go_wp2
  go_ret
  exact ⟨by first | rfl | (simp; done) | (simp [*]; done), by repeat (first | exact Drawn0.refl _ | apply Drawn0.step)⟩

/-! ### bytes_HasSuffix: function 28 -/
/-- Of a suffix of one byte alone. -/
def bytes_HasSuffix.f (l0 : List Int) (l1 : List Int) : Option (Bool) := if l1.length = 1 then (if l0.length < 1 then some false else bytes_Equal.f (l0.drop (l0.length - 1)) l1) else none
set_option maxHeartbeats 2000000 in
set_option maxRecDepth 100000 in
theorem bytes_HasSuffix.calls (A0 : Option Addr) (c0 : Nat) (l0 : List Int) (A1 : Option Addr) (c1 : Nat) (l1 : List Int) (r : Bool) (w : World) (hr0 : Kd.C (Kd.int .u8) w A0 l0.length l0) (hc0 : l0.length ≤ c0) (hr1 : Kd.C (Kd.int .u8) w A1 l1.length l1) (hc1 : l1.length ≤ c1) (h : bytes_HasSuffix.f l0 l1 = some r) :
    Calls Try.prog 28 #[.slice A0 l0.length c0, .slice A1 l1.length c1] w fun e w' => e = .returned (.bool r) ∧ Drawn0 w w' := by
  have hu := Try.underlying22
  unfold bytes_HasSuffix.f at h
  by_cases h1 : l1.length = 1
  · rw [if_pos h1] at h
    by_cases h0 : l0.length < 1
    · rw [if_pos h0] at h
      obtain rfl := Option.some.inj h
      obtain rfl : l0 = [] := List.eq_nil_of_length_eq_zero (by omega)
      rw [h1, List.length_nil]
      clear h hr0 hr1 hc0 hc1 h0 h1
      go_enter Try.func28, Try.ntmps28
      go_wp2
      go_ret
      exact ⟨rfl, by repeat (first | exact Drawn0.refl _ | apply Drawn0.step)⟩
    · rw [if_neg h0] at h
      obtain ⟨k, hk⟩ : ∃ k, l0.length = k + 1 := ⟨l0.length - 1, by omega⟩
      have hk1 : l0.length - 1 = k := by omega
      rw [hk1] at h
      have hd : (l0.drop k).length = 1 := by rw [List.length_drop]; omega
      have hC := Kd.C_drop hr0 (show k ≤ l0.length by omega) hc0
      rw [hd, show k * (Kd.int .u8).sz = k from Nat.mul_one k] at hC
      have hs : ∀ W : World, (Instr.slice 22 (.slice A0 (k + 1) c0) (some (.int .i64 (k : Int))) none none).run Try.prog W = .ok (.slice (if c0 = k then A0 else A0.map (·.add k)) 1 (c0 - k)) W := by
        intro W
        obtain ⟨i0, hi0, _, hsz, _⟩ := info_parts (show ((Try.prog).info? 5).map (fun i => (i.zero, i.size, i.bytes)) = some (some (.int .u8 0), 1, 1) by kernel_rfl)
        have hel : (Try.prog).elem 22 = 5 := by kernel_rfl
        have hu2 : (Try.prog).underlying 22 = some (.slice ((Try.prog).elem 22)) := by rw [hel]; exact hu
        rw [run_slice_l W 22 A0 (k + 1) c0 hu2 .i64 (k : Int) (Int.natCast_nonneg _) (by omega), hel]
        simp [sizeOf, typeInfo, hi0, hsz, sliced, Result.andThen]
      have HE := fun (W : World) (n : Nat) (hW : W = w.drewN n) => bytes_Equal.calls (if c0 = k then A0 else A0.map (·.add k)) (c0 - k) (l0.drop k) A1 c1 l1 r W (by rw [hW, hd]; exact Kd.C_below hC (pw_below_drewN (Below.refl _ _) n)) (by omega) (by rw [hW]; exact Kd.C_below hr1 (pw_below_drewN (Below.refl _ _) n)) hc1 h
      rw [hd, h1] at HE
      rw [hk, h1]
      have HE' := Aside0.mk HE
      have hkc : k + 1 ≤ c0 := by omega
      have hmax : k + 1 ≤ 9223372036854775807 := by have := hr0.2.1; omega
      clear HE h hr0 hr1 hc0 hc1 h0 h1 hC hd hk1 hk
      generalize (if c0 = k then A0 else A0.map (·.add k)) = A' at *
      go_enter Try.func28, Try.ntmps28
      go_wp2_with (go_at_call 31; refine (HE'.out _ 0 rfl).mono ?_; rintro e w' ⟨rfl, ⟨m, rfl⟩⟩)
      go_ret
      exact ⟨rfl, by repeat (first | exact Drawn0.refl _ | apply Drawn0.step)⟩
  · rw [if_neg h1] at h
    cases h

/-! ### bytes_TrimSuffix: function 22 -/
set_option maxHeartbeats 2000000 in
set_option maxRecDepth 100000 in
theorem bytes_TrimSuffix.yes (A : Option Addr) (c : Nat) (l : List Int) (g c1 : Nat) (x : Int) (w : World) (hr : Kd.C (Kd.int .u8) w A l.length l) (hc : l.length ≤ c) (hg : w.cell? ⟨g, 0, none⟩ = some (.int .u8 x)) (hc1 : 1 ≤ c1) (hl : l.length ≤ 9223372036854775807) (h1 : 1 ≤ l.length) (h : bytes_HasSuffix.f l [x] = some true) :
    Calls Try.prog 22 #[.slice A l.length c, .slice (some ⟨g, 0, none⟩) 1 c1] w fun e w' => e = .returned (.slice A (l.length - 1) c) ∧ Drawn0 w w' := by
  have hu := Try.underlying22
  have HI := Aside0.mk (bytes_HasSuffix.calls A c l (some ⟨g, 0, none⟩) c1 [x] true w hr hc (one_byte w g x hg) hc1 h)
  have hs : ∀ W : World, (Instr.slice 22 (.slice A l.length c) none (some (.int .i64 ((l.length - 1 : Nat) : Int))) none).run Try.prog W = .ok (.slice A (l.length - 1) c) W := by
    obtain ⟨i0, hi0, _, hsz, _⟩ := info_parts (show ((Try.prog).info? 5).map (fun i => (i.zero, i.size, i.bytes)) = some (some (.int .u8 0), 1, 1) by kernel_rfl)
    have h3 := (print_take_of (P := Try.prog) (Value.int .u8) 0 22 5 .i64 hu hi0 hsz A c l ((l.length - 1 : Nat) : Int) (by omega) (by omega) hc).1
    have h4 : (l.take (((l.length - 1 : Nat) : Int)).toNat).length = l.length - 1 := by rw [List.length_take]; omega
    rw [h4] at h3
    exact h3
  clear hr hg h
  generalize l.length = n at *
  obtain ⟨n, rfl⟩ : ∃ m, n = m + 1 := ⟨n - 1, by omega⟩
  rw [Nat.add_sub_cancel] at hs
  rw [Nat.add_sub_cancel]
  have h2 : n ≤ c := by omega
  go_enter Try.func22, Try.ntmps22
  go_wp2_with (go_at_call 28; refine HI.out.mono ?_; rintro e w' ⟨rfl, ⟨m, rfl⟩⟩)
  go_ret
  exact ⟨rfl, by repeat (first | exact Drawn0.refl _ | apply Drawn0.step)⟩
set_option maxHeartbeats 2000000 in
set_option maxRecDepth 100000 in
theorem bytes_TrimSuffix.no (A : Option Addr) (c : Nat) (l : List Int) (g c1 : Nat) (x : Int) (w : World) (hr : Kd.C (Kd.int .u8) w A l.length l) (hc : l.length ≤ c) (hg : w.cell? ⟨g, 0, none⟩ = some (.int .u8 x)) (hc1 : 1 ≤ c1) (h : bytes_HasSuffix.f l [x] = some false) :
    Calls Try.prog 22 #[.slice A l.length c, .slice (some ⟨g, 0, none⟩) 1 c1] w fun e w' => e = .returned (.slice A l.length c) ∧ Drawn0 w w' := by
  have HI := Aside0.mk (bytes_HasSuffix.calls A c l (some ⟨g, 0, none⟩) c1 [x] false w hr hc (one_byte w g x hg) hc1 h)
  clear hr hg h
  generalize l.length = n at *
  go_enter Try.func22, Try.ntmps22
  go_wp2_with (go_at_call 28; refine HI.out.mono ?_; rintro e w' ⟨rfl, ⟨m, rfl⟩⟩)
  go_ret
  exact ⟨rfl, by repeat (first | exact Drawn0.refl _ | apply Drawn0.step)⟩

/-! ### frame_Line: function 11 -/
def frame_Line.f (l0 : List Int) : Option (ByteArray × Int × Int) :=
  if feedAt l0 10 < 0 then (if 2049 < l0.length then some (⟨#[]⟩, (l0.length : Int), 4) else some (⟨#[]⟩, 0, 3))
  else (bytes_HasSuffix.f (l0.take (feedAt l0 10).toNat) [13]).bind fun t =>
    if 2048 < (if t = true then (feedAt l0 10).toNat - 1 else (feedAt l0 10).toNat) then some (⟨#[]⟩, feedAt l0 10 + 1, 4)
    else some (strOfNums (l0.take (if t = true then (feedAt l0 10).toNat - 1 else (feedAt l0 10).toNat)), feedAt l0 10 + 1, 0)
set_option maxHeartbeats 4000000 in
set_option maxRecDepth 100000 in
theorem frame_Line.none_ (A0 : Option Addr) (c0 : Nat) (l0 : List Int) (w : World) (hr0 : Kd.C (Kd.int .u8) w A0 l0.length l0) (hc0 : l0.length ≤ c0) (hi : feedAt l0 10 < 0) :
    Calls Try.prog 11 #[.slice A0 l0.length c0] w fun e w' => e = .returned (if 2049 < l0.length then .tuple #[.string ⟨#[]⟩, .int .i64 l0.length, .int .i64 4] else .tuple #[.string ⟨#[]⟩, .int .i64 0, .int .i64 3]) ∧ Below w.heap.size w w' := by
  have hu := Try.underlying22
  have kc := fun (w : World) (C : Array Value) (n c : Nat) => Lib.run_convert_bytes_const (P := Try.prog) w 22 5 C n c Try.underlying22 Try.underlying5
  have HR := Aside0.mk hr0
  have HC := Aside0.mk hc0
  have HI := Aside0.mk hi
  clear hr0 hc0 hi
  by_cases hn : 2049 < l0.length
  · rw [if_pos hn]
    have hnb : decide (2049 < l0.length) = true := decide_eq_true hn
    have hnb2 : decide (2049 < (l0.length : Int)) = true := decide_eq_true (by omega)
    clear hn
    go_enter Try.func11, Try.ntmps11
    go_wp2_with (go_at_call 21; refine (bytes_Cut.no A0 c0 l0 _ _ 10 _ (Kd.C_alloc HR.out _) HC.out (by rw [World.cell?_alloc_mark]; rfl) (Nat.le_refl 1) HI.out).mono ?_; rintro e w1 ⟨rfl, hd⟩; have HB := Aside0.mk (below_step (below_alloc (Below.refl _ _) _) hd.below); clear hd)
    go_ret3
    exact ⟨rfl, HB.out⟩
  · rw [if_neg hn]
    have hnb : decide (2049 < l0.length) = false := decide_eq_false hn
    have hnb2 : decide (2049 < (l0.length : Int)) = false := decide_eq_false (by omega)
    clear hn
    go_enter Try.func11, Try.ntmps11
    go_wp2_with (go_at_call 21; refine (bytes_Cut.no A0 c0 l0 _ _ 10 _ (Kd.C_alloc HR.out _) HC.out (by rw [World.cell?_alloc_mark]; rfl) (Nat.le_refl 1) HI.out).mono ?_; rintro e w1 ⟨rfl, hd⟩; have HB := Aside0.mk (below_step (below_alloc (Below.refl _ _) _) hd.below); clear hd)
    go_ret3
    exact ⟨rfl, HB.out⟩
set_option maxHeartbeats 4000000 in
set_option maxRecDepth 100000 in
theorem frame_Line.some_ (A0 : Option Addr) (c0 : Nat) (l0 : List Int) (k m : Nat) (w : World) (hr0 : Kd.C (Kd.int .u8) w A0 l0.length l0) (hc0 : l0.length ≤ c0) (hk : feedAt l0 10 = k) (hm : m ≤ k)
    (hT : ∀ (W : World) (g c1 : Nat), Kd.C (Kd.int .u8) W A0 l0.length l0 → W.cell? ⟨g, 0, none⟩ = some (.int .u8 13) → 1 ≤ c1 → Calls Try.prog 22 #[.slice A0 k c0, .slice (some ⟨g, 0, none⟩) 1 c1] W fun e w' => e = .returned (.slice A0 m c0) ∧ Drawn0 W w') :
    Calls Try.prog 11 #[.slice A0 l0.length c0] w fun e w' => e = .returned (if 2048 < m then .tuple #[.string ⟨#[]⟩, .int .i64 (k + 1), .int .i64 4] else .tuple #[.string (strOfNums (l0.take m)), .int .i64 (k + 1), .int .i64 0]) ∧ Below w.heap.size w w' := by
  have hu := Try.underlying22
  have kc := fun (w : World) (C : Array Value) (n c : Nat) => Lib.run_convert_bytes_const (P := Try.prog) w 22 5 C n c Try.underlying22 Try.underlying5
  have hlt : k + 1 ≤ l0.length := by have := (feedAt_lt l0 10).1; omega
  have hmax : l0.length ≤ 9223372036854775807 := hr0.2.1
  have HY : ∀ (W : World) (g c1 : Nat), Kd.C (Kd.int .u8) W A0 l0.length l0 → W.cell? ⟨g, 0, none⟩ = some (.int .u8 10) → 1 ≤ c1 → Calls Try.prog 21 #[.slice A0 l0.length c0, .slice (some ⟨g, 0, none⟩) 1 c1] W (CutYes (.slice A0 k c0) W) := by
    intro W g c1 h1 h2 h3
    have := bytes_Cut.yes A0 c0 l0 g c1 10 W h1 hc0 h2 h3 hmax (by omega)
    rw [hk, Int.toNat_natCast] at this
    exact this
  have HCV : ∀ W : World, Kd.C (Kd.int .u8) W A0 l0.length l0 → (convert 22 9 (.slice A0 m c0)).run Try.prog W = .ok (.string (strOfNums (l0.take m))) W := by
    intro W h1
    have h2 := Kd.C_take h1 (show m ≤ l0.length by omega)
    have h3 : (l0.take m).length = m := by rw [List.length_take]; omega
    rw [h3] at h2
    exact Kd.C_string (P := Try.prog) (A := A0) (c := c0) Try.underlying22 Try.underlying5 Try.underlying9 h2
  have HR := Aside0.mk hr0
  have HT := Aside0.mk hT
  have HY' := Aside0.mk HY
  have HCV' := Aside0.mk HCV
  clear hr0 hc0 hk hT HY HCV
  generalize l0.length = n at *
  by_cases hn : 2048 < m
  · rw [if_pos hn]
    have hnb : decide (2048 < m) = true := decide_eq_true hn
    have hnb2 : decide (2048 < (m : Int)) = true := decide_eq_true (by omega)
    clear hn
    go_enter Try.func11, Try.ntmps11
    go_wp2_with (first | (go_at_call 21; refine (HY'.out _ _ _ (Kd.C_alloc HR.out _) (by rw [World.cell?_alloc_mark]; rfl) (Nat.le_refl 1)).mono ?_; rintro e w1 ⟨after, rfl, hd⟩; have HB := Aside0.mk (below_step (below_alloc (Below.refl _ _) _) hd.below); clear hd) | (go_at_call 22; refine (HT.out _ _ _ (Kd.C_alloc (Kd.C_below HR.out HB.out) _) (by rw [World.cell?_alloc_mark]; rfl) (Nat.le_refl 1)).mono ?_; rintro e w2 ⟨rfl, hd⟩; have HB2 := Aside0.mk (below_step (below_alloc HB.out _) hd.below); clear hd HB; have hcv := HCV'.out _ (Kd.C_below HR.out HB2.out)))
    go_ret3
    exact ⟨rfl, HB2.out⟩
  · rw [if_neg hn]
    have hnb : decide (2048 < m) = false := decide_eq_false hn
    have hnb2 : decide (2048 < (m : Int)) = false := decide_eq_false (by omega)
    clear hn
    go_enter Try.func11, Try.ntmps11
    go_wp2_with (first | (go_at_call 21; refine (HY'.out _ _ _ (Kd.C_alloc HR.out _) (by rw [World.cell?_alloc_mark]; rfl) (Nat.le_refl 1)).mono ?_; rintro e w1 ⟨after, rfl, hd⟩; have HB := Aside0.mk (below_step (below_alloc (Below.refl _ _) _) hd.below); clear hd) | (go_at_call 22; refine (HT.out _ _ _ (Kd.C_alloc (Kd.C_below HR.out HB.out) _) (by rw [World.cell?_alloc_mark]; rfl) (Nat.le_refl 1)).mono ?_; rintro e w2 ⟨rfl, hd⟩; have HB2 := Aside0.mk (below_step (below_alloc HB.out _) hd.below); clear hd HB; have hcv := HCV'.out _ (Kd.C_below HR.out HB2.out)))
    go_ret3
    exact ⟨rfl, HB2.out⟩
theorem frame_Line.calls (A0 : Option Addr) (c0 : Nat) (l0 : List Int) (r1 : ByteArray) (r2 : Int) (r3 : Int) (w : World) (hr0 : Kd.C (Kd.int .u8) w A0 l0.length l0) (hc0 : l0.length ≤ c0) (h : frame_Line.f l0 = some (r1, r2, r3)) :
    Calls Try.prog 11 #[.slice A0 l0.length c0] w fun e w' => e = .returned (.tuple #[.string r1, .int .i64 r2, .int .i64 r3]) ∧ Below w.heap.size w w' := by
  unfold frame_Line.f at h
  by_cases hi : feedAt l0 10 < 0
  · rw [if_pos hi] at h
    have := frame_Line.none_ A0 c0 l0 w hr0 hc0 hi
    by_cases hn : 2049 < l0.length
    · rw [if_pos hn] at h this
      obtain ⟨rfl, rfl, rfl⟩ : r1 = ⟨#[]⟩ ∧ r2 = (l0.length : Int) ∧ r3 = 4 := by
        have e := Option.some.inj h
        exact ⟨(congrArg (fun p => p.1) e).symm, (congrArg (fun p => p.2.1) e).symm, (congrArg (fun p => p.2.2) e).symm⟩
      exact this
    · rw [if_neg hn] at h this
      obtain ⟨rfl, rfl, rfl⟩ : r1 = ⟨#[]⟩ ∧ r2 = 0 ∧ r3 = 3 := by
        have e := Option.some.inj h
        exact ⟨(congrArg (fun p => p.1) e).symm, (congrArg (fun p => p.2.1) e).symm, (congrArg (fun p => p.2.2) e).symm⟩
      exact this
  · rw [if_neg hi] at h
    obtain ⟨k, hk⟩ := Int.eq_ofNat_of_zero_le (show 0 ≤ feedAt l0 10 by omega)
    rw [hk, Int.toNat_natCast] at h
    have hlt : k + 1 ≤ l0.length := by have := (feedAt_lt l0 10).1; omega
    have hkl : (l0.take k).length = k := by rw [List.length_take]; omega
    have hmax : l0.length ≤ 9223372036854775807 := hr0.2.1
    obtain ⟨t, ht, h⟩ := Option.bind_eq_some_iff.1 h
    have hT : ∀ (W : World) (g c1 : Nat), Kd.C (Kd.int .u8) W A0 l0.length l0 → W.cell? ⟨g, 0, none⟩ = some (.int .u8 13) → 1 ≤ c1 → Calls Try.prog 22 #[.slice A0 k c0, .slice (some ⟨g, 0, none⟩) 1 c1] W fun e w' => e = .returned (.slice A0 (if t = true then k - 1 else k) c0) ∧ Drawn0 W w' := by
      intro W g c1 h1 h2 h3
      have hCk := Kd.C_take h1 (show k ≤ l0.length by omega)
      cases t with
      | true =>
        have h4 : 1 ≤ (l0.take k).length := by
          rcases Nat.lt_or_ge (l0.take k).length 1 with h5 | h5
          · unfold bytes_HasSuffix.f at ht
            rw [if_pos (by rfl), if_pos h5] at ht
            cases ht
          · exact h5
        have := bytes_TrimSuffix.yes A0 c0 (l0.take k) g c1 13 W hCk (by omega) h2 h3 (by omega) h4 ht
        rw [hkl] at this
        exact this
      | false =>
        have := bytes_TrimSuffix.no A0 c0 (l0.take k) g c1 13 W hCk (by omega) h2 h3 ht
        rw [hkl] at this
        exact this
    have := frame_Line.some_ A0 c0 l0 k (if t = true then k - 1 else k) w hr0 hc0 hk (by split <;> omega) hT
    by_cases hn : 2048 < (if t = true then k - 1 else k)
    · rw [if_pos hn] at h this
      obtain ⟨rfl, rfl, rfl⟩ : r1 = ⟨#[]⟩ ∧ r2 = (k : Int) + 1 ∧ r3 = 4 := by
        have e := Option.some.inj h
        exact ⟨(congrArg (fun p => p.1) e).symm, (congrArg (fun p => p.2.1) e).symm, (congrArg (fun p => p.2.2) e).symm⟩
      exact this
    · rw [if_neg hn] at h this
      obtain ⟨rfl, rfl, rfl⟩ : r1 = strOfNums (l0.take (if t = true then k - 1 else k)) ∧ r2 = (k : Int) + 1 ∧ r3 = 0 := by
        have e := Option.some.inj h
        exact ⟨(congrArg (fun p => p.1) e).symm, (congrArg (fun p => p.2.1) e).symm, (congrArg (fun p => p.2.2) e).symm⟩
      exact this

/-! ### slices_Clone_byte_byte: function 24 -/
def slices_Clone_byte_byte.f (l0 : List Int) : Option (List Int) := if l0.length ≤ 1000000 then some l0 else none
theorem slices_Clone_byte_byte.empty (w : World) : Kd.R (Kd.int .u8) 5 (w.alloc (.cells #[] 5)) w.heap.size (fun _ => True) (.slice (some ⟨w.heap.size, 0, none⟩) 0 0) ([] : List Int) :=
  ⟨fun _ _ => trivial, [], World.ownsRow_lit (base := w.heap.size) (e := 5) (size := 1) w #[] 0 (Nat.le_refl _) (by simp) (by simp), Reps.none _ _⟩
set_option maxHeartbeats 2000000 in
set_option maxRecDepth 100000 in
theorem slices_Clone_byte_byte.calls (A0 : Option Addr) (c0 : Nat) (l0 : List Int) (r : List Int) (w : World) (hr0 : Kd.C (Kd.int .u8) w A0 l0.length l0) (hc0 : l0.length ≤ c0) (h : slices_Clone_byte_byte.f l0 = some r) :
    Calls Try.prog 24 #[.slice A0 l0.length c0] w fun e w' => ∃ v0_ : Value, e = .returned (v0_) ∧ Kd.R (Kd.int .u8) 5 w' w.heap.size (fun k_ => True) v0_ r ∧ Below w.heap.size w w' := by
  unfold slices_Clone_byte_byte.f at h
  by_cases hlen : l0.length ≤ 1000000
  · rw [if_pos hlen] at h
    obtain rfl := Option.some.inj h
    clear h
    have hu := Try.underlying22
    have q22 : ∀ (w : World) (a : Option Addr) (n c n' c' : Nat), (binOp .eql 22 (.slice a n c) (.slice none n' c')).run Try.prog w = .ok (.bool a.isNone) w := fun w a n c n' c' => Lib.run_eql_slice_nil w _ _ a n c n' c' Try.underlying22
    cases A0 with
    | none =>
      have h0 : l0 = [] := by
        cases l0 with
        | nil => rfl
        | cons x t =>
          obtain ⟨ad, e, _⟩ := hr0.2.2 (by simp)
          cases e
      subst h0
      clear hr0 hc0
      go_enter Try.func24, Try.ntmps24
      go_wp2
      go_ret
      exact ⟨_, rfl, Kd.R_nil _ _ _ _ _, Below.refl _ _⟩
    | some ad =>
      have HR0 := Aside0.mk hr0
      clear hr0 hc0
      go_enter Try.func24, Try.ntmps24
      go_wp2_with ((with_reducible refine gate_builtin (b := .append) (xs := #[.tmp 5, .tmp 6]) rfl ?_); at_builtin; refine Kd.R_append_rows (Kd.int .u8) (w0 := w) w.heap.size rfl (.tmp 5) (.tmp 6) 22 5 (.int .u8 0) 1 rfl Try.underlying22 (by kernel_rfl) rfl (by decide) (by omega) (.slice (some ⟨w.heap.size, 0, none⟩) 0 0) ([] : List Int) l0 _ _ _ (fun _ => True) (fun _ => False) rfl rfl ?aO ?aR (fun _ _ h => h) (fun _ h => h.elim) ?aF ?aB ?aS ?aL ?_; (case aR => exact Kd.C_alloc HR0.out _); (case aB => exact below_alloc (Below.refl _ _) _); (case aF => exact (fun _ _ => trivial)); (case aO => exact slices_Clone_byte_byte.empty w); (case aS => exact Nat.le_trans (Nat.le_refl _) (by simp)); (case aL => simp; omega); intro v1 w1 ho hb hg hat; have HO := Aside0.mk ho; have HB := Aside0.mk hb; clear ho hb hg hat)
      go_ret
      exact ⟨v1, rfl, HO.out, HB.out⟩
  · rw [if_neg hlen] at h
    cases h

/-! ### frame_Body: function 13 -/
def frame_Body.f (l0 : List Int) (a1 : Int) : Option (List Int × Int × Int) :=
  if a1 < 0 then some ([], 0, 2) else if 1000 < a1 then some ([], 0, 2) else if (l0.length : Int) < a1 + 2 then some ([], 0, 3)
  else if (strOfNums ((l0.take (a1 + 2).toNat).drop a1.toNat)).toList = ([13, 10] : List UInt8) then some (l0.take a1.toNat, a1 + 2, 0) else some ([], a1, 2)
def frame_Body.Post (r1 : List Int) (r2 r3 : Int) (w : World) (e : Ending) (w' : World) : Prop := ∃ v0_ : Value, e = .returned (.tuple #[v0_, .int .i64 r2, .int .i64 r3]) ∧ Kd.R (Kd.int .u8) 5 w' w.heap.size (fun k_ => True) v0_ r1 ∧ Below w.heap.size w w'
set_option maxHeartbeats 4000000 in
set_option maxRecDepth 100000 in
theorem frame_Body.post (A0 : Option Addr) (c0 : Nat) (l0 : List Int) (a1 : Int) (r1 : List Int) (r2 : Int) (r3 : Int) (w : World) (hr0 : Kd.C (Kd.int .u8) w A0 l0.length l0) (hc0 : l0.length ≤ c0) (h : frame_Body.f l0 a1 = some (r1, r2, r3)) :
    Calls Try.prog 13 #[.slice A0 l0.length c0, .int .i64 a1] w (frame_Body.Post r1 r2 r3 w) := by
  have hu := Try.underlying22
  have hus := Try.underlying9
  have split3 : ∀ {x : List Int} {y z : Int}, some (x, y, z) = some (r1, r2, r3) → x = r1 ∧ y = r2 ∧ z = r3 := fun h => by
    have e := Option.some.inj h
    exact ⟨congrArg (fun p => p.1) e, congrArg (fun p => p.2.1) e, congrArg (fun p => p.2.2) e⟩
  unfold frame_Body.f at h
  by_cases h1 : a1 < 0
  · rw [if_pos h1] at h
    obtain ⟨rfl, rfl, rfl⟩ := split3 h
    have h1b : decide (a1 < 0) = true := decide_eq_true h1
    clear h h1 split3 hr0 hc0
    generalize l0.length = n at *
    go_enter Try.func13, Try.ntmps13
    go_wp2
    go_ret3
    exact ⟨_, rfl, Kd.R_nil _ _ _ _ _, Below.refl _ _⟩
  · rw [if_neg h1] at h
    have h1b : decide (a1 < 0) = false := decide_eq_false h1
    by_cases h2 : 1000 < a1
    · rw [if_pos h2] at h
      obtain ⟨rfl, rfl, rfl⟩ := split3 h
      have h2b : decide (1000 < a1) = true := decide_eq_true h2
      clear h h1 h2 split3 hr0 hc0
      generalize l0.length = n at *
      go_enter Try.func13, Try.ntmps13
      go_wp2
      go_ret3
      exact ⟨_, rfl, Kd.R_nil _ _ _ _ _, Below.refl _ _⟩
    · rw [if_neg h2] at h
      obtain ⟨m, rfl⟩ := Int.eq_ofNat_of_zero_le (show 0 ≤ a1 by omega)
      have h1c : decide ((m : Int) < 0) = false := decide_eq_false (by omega)
      have h2b : decide (1000 < (m : Int)) = false := decide_eq_false (by omega)
      have h2c : decide (1000 < m) = false := decide_eq_false (by omega)
      have hm : m ≤ 1000 := by omega
      clear h1 h2 h1b
      by_cases h3 : (l0.length : Int) < (m : Int) + 2
      · rw [if_pos h3] at h
        obtain ⟨rfl, rfl, rfl⟩ := split3 h
        have h3b : decide ((l0.length : Int) < (m : Int) + 2) = true := decide_eq_true h3
        have h3c : decide (l0.length < m + 2) = true := decide_eq_true (by omega)
        clear h h3 split3 hr0 hc0
        generalize l0.length = n at *
        go_enter Try.func13, Try.ntmps13
        go_wp2
        go_ret3
        exact ⟨_, rfl, Kd.R_nil _ _ _ _ _, Below.refl _ _⟩
      · rw [if_neg h3] at h
        have h3b : decide ((l0.length : Int) < (m : Int) + 2) = false := decide_eq_false h3
        have h3c : decide (l0.length < m + 2) = false := decide_eq_false (by omega)
        have hm2 : m + 2 ≤ l0.length := by omega
        have hmc : m + 2 ≤ c0 := by omega
        clear h3
        have hsl : ∀ W : World, (Instr.slice 22 (.slice A0 l0.length c0) (some (.int .i64 (m : Int))) (some (.int .i64 ((m : Int) + 2))) none).run Try.prog W = .ok (.slice (if c0 = m then A0 else A0.map (·.add (m * 1))) 2 (c0 - m)) W := by
          intro W
          obtain ⟨i0, hi0, _, hsz, _⟩ := info_parts (show ((Try.prog).info? 5).map (fun i => (i.zero, i.size, i.bytes)) = some (some (.int .u8 0), 1, 1) by kernel_rfl)
          have := cut_mid (P := Try.prog) 22 5 .i64 .i64 hu hi0 1 hsz A0 l0.length c0 (m : Int) ((m : Int) + 2) (by omega) (by omega) (by omega) hc0 W
          rw [Int.toNat_natCast, show ((m : Int) + 2).toNat - m = 2 by omega] at this
          exact this
        have htl : (l0.take (m + 2)).length = m + 2 := by rw [List.length_take]; omega
        have hdl : ((l0.take (m + 2)).drop m).length = 2 := by rw [List.length_drop, htl]; omega
        rw [Int.toNat_natCast, show ((m : Int) + 2).toNat = m + 2 by omega] at h
        have hcv : (convert 22 9 (.slice (if c0 = m then A0 else A0.map (·.add (m * 1))) 2 (c0 - m))).run Try.prog w = .ok (.string (strOfNums ((l0.take (m + 2)).drop m))) w := by
          have hC := Kd.C_mid hr0 (show m ≤ m + 2 by omega) hm2 hc0
          rw [hdl] at hC
          exact Kd.C_string (P := Try.prog) (A := (if c0 = m then A0 else A0.map (·.add (m * 1)))) (c := c0 - m) Try.underlying22 Try.underlying5 Try.underlying9 hC
        by_cases h4 : (strOfNums ((l0.take (m + 2)).drop m)).toList = ([13, 10] : List UInt8)
        · rw [if_pos h4] at h
          obtain ⟨rfl, rfl, rfl⟩ := split3 h
          have h4b : ((strOfNums ((l0.take (m + 2)).drop m)).toList != ([13, 10] : List UInt8)) = false := by rw [bne_eq_false_iff_eq]; exact h4
          have h4c : ((strOfNums ((l0.take (m + 2)).drop m)).toList == ([13, 10] : List UInt8)) = true := by rw [beq_iff_eq]; exact h4
          have hkl : (l0.take m).length = m := by rw [List.length_take]; omega
          have hs3 : ∀ W : World, (Instr.slice 22 (.slice A0 l0.length c0) none (some (.int .i64 (m : Int))) (some (.int .i64 (m : Int)))).run Try.prog W = .ok (.slice A0 m m) W := by
            intro W
            obtain ⟨i0, hi0, _, hsz, _⟩ := info_parts (show ((Try.prog).info? 5).map (fun i => (i.zero, i.size, i.bytes)) = some (some (.int .u8 0), 1, 1) by kernel_rfl)
            have := (cut3_take (P := Try.prog) (Value.int .u8) 0 22 5 .i64 .i64 hu hi0 hsz A0 c0 l0 (m : Int) (by omega) (by omega) hc0).1 W
            rw [Int.toNat_natCast, hkl] at this
            exact this
          have HC := Aside0.mk (slices_Clone_byte_byte.calls A0 m (l0.take m) (l0.take m) w (Kd.C_take hr0 (show m ≤ l0.length by omega)) (by omega) (by unfold slices_Clone_byte_byte.f; rw [if_pos (by omega)]))
          rw [hkl] at HC
          clear h h4 split3 hr0 hdl htl hkl
          generalize (strOfNums ((l0.take (m + 2)).drop m)) = s at *
          generalize (if c0 = m then A0 else A0.map (·.add (m * 1))) = A' at *
          generalize l0.take m = lm at *
          generalize l0.length = n at *
          go_enter Try.func13, Try.ntmps13
          go_wp2_with (go_at_call 24; refine HC.out.mono ?_; rintro e w1 ⟨v, rfl, hR, hB⟩; have HR := Aside0.mk hR; have HB := Aside0.mk hB; clear hR hB)
          go_ret3
          exact ⟨v, rfl, HR.out, HB.out⟩
        · rw [if_neg h4] at h
          obtain ⟨rfl, rfl, rfl⟩ := split3 h
          have h4b : ((strOfNums ((l0.take (m + 2)).drop m)).toList != ([13, 10] : List UInt8)) = true := by rw [bne_iff_ne]; exact h4
          have h4c : ((strOfNums ((l0.take (m + 2)).drop m)).toList == ([13, 10] : List UInt8)) = false := by rw [beq_eq_false_iff_ne]; exact h4
          clear h h4 split3 hr0 hdl htl
          generalize (strOfNums ((l0.take (m + 2)).drop m)) = s at *
          generalize (if c0 = m then A0 else A0.map (·.add (m * 1))) = A' at *
          generalize l0.length = n at *
          go_enter Try.func13, Try.ntmps13
          go_wp2
          go_ret3
          exact ⟨_, rfl, Kd.R_nil _ _ _ _ _, Below.refl _ _⟩
theorem frame_Body.calls (A0 : Option Addr) (c0 : Nat) (l0 : List Int) (a1 : Int) (r1 : List Int) (r2 : Int) (r3 : Int) (w : World) (hr0 : Kd.C (Kd.int .u8) w A0 l0.length l0) (hc0 : l0.length ≤ c0) (h : frame_Body.f l0 a1 = some (r1, r2, r3)) :
    Calls Try.prog 13 #[.slice A0 l0.length c0, .int .i64 a1] w fun e w' => ∃ v0_ : Value, e = .returned (.tuple #[v0_, .int .i64 r2, .int .i64 r3]) ∧ Kd.R (Kd.int .u8) 5 w' w.heap.size (fun k_ => True) v0_ r1 ∧ Below w.heap.size w w' :=
  frame_Body.post A0 c0 l0 a1 r1 r2 r3 w hr0 hc0 h

/-! ### frame_Keyed: function 17 -/
def frame_Keyed.f (a0 : ByteArray) : Option (Bool) := if a0.toList = ([] : List UInt8) then (some false) else (some (decide ((a0.size : Int) ≤ 250)))
set_option maxHeartbeats 8000000 in
set_option maxRecDepth 100000 in
theorem frame_Keyed.calls (a0 : ByteArray) (r : Bool) (w : World) (h : frame_Keyed.f a0 = some r) :
    Calls Try.prog 17 #[.string a0] w fun e w' => e = .returned (.bool r) ∧ Drawn0 w w' := by
  have H : (if a0.toList = ([] : List UInt8) then (some false) else (some (decide ((a0.size : Int) ≤ 250)))) = some r := h
  clear h
  by_cases c2 : a0.toList = ([] : List UInt8)
  · rw [if_pos c2] at H
    have c2b0 : (a0.toList == ([] : List UInt8)) = true := beq_iff_eq.mpr c2
    have c2b1 : (a0.toList != ([] : List UInt8)) = false := bne_eq_false_iff_eq.mpr c2
    clear c2
    obtain rfl := Option.some.inj H
    go_enter Try.func17, Try.ntmps17
    go_wp2
    go_ret
    exact ⟨by first | rfl | (simp; done) | (simp [*]; done), by repeat (first | exact Drawn0.refl _ | apply Drawn0.step)⟩
  · rw [if_neg c2] at H
    have c2b0 : (a0.toList == ([] : List UInt8)) = false := beq_eq_false_iff_ne.mpr c2
    have c2b1 : (a0.toList != ([] : List UInt8)) = true := bne_iff_ne.mpr c2
    obtain rfl := Option.some.inj H
    go_enter Try.func17, Try.ntmps17
    go_wp2
    go_ret
    exact ⟨by first | rfl | (simp; done) | (simp [*]; done), by repeat (first | exact Drawn0.refl _ | apply Drawn0.step)⟩

/-! ### frame_Key: function 15 -/
def frame_Key.odd (x : Int) : Bool := decide (x ≤ 32) || x == 127
def frame_Key.idx : List Int → Nat → Int
  | [], _ => -1
  | x :: t, i => if frame_Key.odd x = true then (i : Int) else frame_Key.idx t (i + 1)
theorem frame_Key.clo (x : Int) (w : World) : Calls Try.prog 25 #[.int .u8 x] w fun e w' => e = .returned (.bool (frame_Key.odd x)) ∧ w' = w := by
  unfold frame_Key.odd
  by_cases h1 : x ≤ 32
  · have h1b : decide (x ≤ 32) = true := decide_eq_true h1
    rw [h1b]
    clear h1
    go_enter Try.func25, Try.ntmps25
    go_wp2
    go_ret
    exact ⟨rfl, rfl⟩
  · have h1b : decide (x ≤ 32) = false := decide_eq_false h1
    rw [h1b, Bool.false_or]
    clear h1
    go_enter Try.func25, Try.ntmps25
    go_wp2
    go_ret
    exact ⟨rfl, rfl⟩
set_option maxHeartbeats 2000000 in
set_option maxRecDepth 100000 in
theorem frame_Key.index (A : Option Addr) (c : Nat) (l : List Int) (w : World) (hl : l.length ≤ 9223372036854775807) (hc : ∀ j, j < l.length → ∃ ad, A = some ad ∧ w.cell? (ad.add j) = some (.int .u8 (l.getD j 0))) :
    Calls Try.prog 29 #[.slice A l.length c, .func (.func 25) #[] #[]] w fun e w' => e = .returned (.int .i64 (frame_Key.idx l 0)) ∧ w' = w := by
  have HC := Aside0.mk hc
  clear hc
  obtain ⟨r, hr⟩ : ∃ r, r = frame_Key.idx l 0 := ⟨_, rfl⟩
  rw [← hr]
  have HR := Aside0.mk hr
  clear hr
  go_enter Try.func29, Try.ntmps29
  go_wp2
  go_loop [5, 8] (fun _ t => ∃ k : Nat, k ≤ l.length ∧ t = .int .i64 k ∧ Aside0 (r = frame_Key.idx (l.drop k) k)) (fun _ t => l.length - (intOf t).toNat)
  case atStart => exact ⟨0, Nat.zero_le _, rfl, HR⟩
  case round =>
    obtain ⟨k, hk, rfl, HK⟩ := hrel
    by_cases hlt : k < l.length
    · obtain ⟨ad, hA, hcell⟩ := HC.out k hlt
      subst hA
      have hd : l.drop k = l.getD k 0 :: l.drop (k + 1) := by
        rw [List.drop_eq_getElem_cons hlt, List.getD_eq_getElem?_getD, List.getElem?_eq_getElem hlt, Option.getD_some]
      generalize hx : l.getD k 0 = x at *
      clear hx
      have H2 := HK.out
      rw [hd, frame_Key.idx] at H2
      clear HK hd
      by_cases hq : frame_Key.odd x = true
      · rw [if_pos hq] at H2
        have HQ := Aside0.mk hq
        clear hq
        go_wp2_with (go_at_call 25; refine (frame_Key.clo _ _).mono ?_; rintro e w' ⟨rfl, rfl⟩; rw [HQ.out])
        go_ret
        exact ⟨by first | rfl | (rw [H2]; rfl), rfl⟩
      · rw [if_neg hq] at H2
        have H3 := Aside0.mk H2
        have HQ := Aside0.mk (Bool.eq_false_iff.mpr hq)
        clear hq H2
        go_wp2_with (go_at_call 25; refine (frame_Key.clo _ _).mono ?_; rintro e w' ⟨rfl, rfl⟩; rw [HQ.out])
        go_round
        case rel => exact ⟨k + 1, by omega, by go_num, H3⟩
        case measure => simp [intOf]; omega
    · have hd : l.drop k = [] := List.drop_of_length_le (by omega)
      have H2 := HK.out
      rw [hd, frame_Key.idx] at H2
      clear HK hd HC
      go_wp2
      go_ret
      exact ⟨by first | rfl | (rw [H2]; rfl), rfl⟩
set_option maxHeartbeats 2000000 in
set_option maxRecDepth 100000 in
theorem frame_Key.contains (A : Option Addr) (c : Nat) (l : List Int) (w : World) (hl : l.length ≤ 9223372036854775807) (hc : ∀ j, j < l.length → ∃ ad, A = some ad ∧ w.cell? (ad.add j) = some (.int .u8 (l.getD j 0))) :
    Calls Try.prog 26 #[.slice A l.length c, .func (.func 25) #[] #[]] w fun e w' => e = .returned (.bool (decide (0 ≤ frame_Key.idx l 0))) ∧ w' = w := by
  have HI := Aside0.mk (frame_Key.index A c l w hl hc)
  clear hl hc
  generalize frame_Key.idx l 0 = i at *
  generalize l.length = n at *
  go_enter Try.func26, Try.ntmps26
  go_wp2_with (go_at_call 29; refine HI.out.mono ?_; rintro e w' ⟨rfl, rfl⟩)
  go_ret
  exact ⟨rfl, rfl⟩
def frame_Key.f (a0 : ByteArray) : Option (Bool) := (frame_Keyed.f a0).bind fun t => if t = true then some (decide (frame_Key.idx (bytesOf a0) 0 < 0)) else some false
set_option maxHeartbeats 2000000 in
set_option maxRecDepth 100000 in
theorem frame_Key.calls (a0 : ByteArray) (r : Bool) (w : World) (h : frame_Key.f a0 = some r) :
    Calls Try.prog 15 #[.string a0] w fun e w' => e = .returned (.bool r) ∧ Below w.heap.size w w' := by
  unfold frame_Key.f at h
  obtain ⟨t, ht, h⟩ := Option.bind_eq_some_iff.1 h
  have HK := Aside0.mk (fun W => frame_Keyed.calls a0 t W ht)
  cases t with
  | false =>
    rw [if_neg (by decide)] at h
    obtain rfl := Option.some.inj h
    clear h ht
    go_enter Try.func15, Try.ntmps15
    go_wp2_with (go_at_call 17; refine (HK.out _).mono ?_; rintro e w1 ⟨rfl, hd⟩; have HB := Aside0.mk hd.below; clear hd)
    go_ret
    exact ⟨rfl, HB.out⟩
  | true =>
    rw [if_pos rfl] at h
    obtain rfl := Option.some.inj h
    have hsz : a0.size ≤ 250 := by
      unfold frame_Keyed.f at ht
      by_cases hq : a0.toList = ([] : List UInt8)
      · rw [if_pos hq] at ht
        cases ht
      · rw [if_neg hq] at ht
        have := of_decide_eq_true (Option.some.inj ht)
        omega
    have hcb := fun (W : World) => print_bytes (P := Try.prog) 9 22 5 Try.underlying9 Try.underlying22 Try.underlying5 a0 W
    have hlen : (bytesOf a0).length = a0.size := bytesOf_length a0
    have HC := Aside0.mk (fun (W : World) => frame_Key.contains (some ⟨W.heap.size, 0, none⟩) (grownCap W a0.size 0 5) (bytesOf a0) (Lib.bytesWorld W 5 a0) (by omega) (by
      have hR := bytes_reads W 5 a0 (by omega)
      intro j hj
      obtain ⟨ad, e, hc⟩ := hR.2.2 (by omega)
      exact ⟨ad, e, hc j (by omega)⟩))
    rw [hlen] at HC
    clear h ht hlen hsz
    have hneg : (decide (frame_Key.idx (bytesOf a0) 0 < 0)) = !(decide (0 ≤ frame_Key.idx (bytesOf a0) 0)) := by
      by_cases hx : 0 ≤ frame_Key.idx (bytesOf a0) 0
      · rw [decide_eq_true hx, decide_eq_false (by omega)]; rfl
      · rw [decide_eq_false hx, decide_eq_true (by omega)]; rfl
    rw [hneg]
    clear hneg
    generalize frame_Key.idx (bytesOf a0) 0 = i at *
    go_enter Try.func15, Try.ntmps15
    go_wp2_with (first | (go_at_call 17; refine (HK.out _).mono ?_; rintro e w1 ⟨rfl, hd⟩; have HB := Aside0.mk hd.below; clear hd) | (go_at_call 26; refine (HC.out _).mono ?_; rintro e w2 ⟨rfl, rfl⟩))
    go_ret
    exact ⟨rfl, bytes_below HB.out HB.out.size _ _⟩

/-! ### frame_Pass: function 19 -/
/-- Behind so many bytes: what is passed over, what is still to be. -/
def frame_Pass.f (l0 : List Int) (a1 : Int) (a2 : Bool) : Option (Int × Int × Bool) :=
  if (l0.length : Int) < mx a1 0 then some ((l0.length : Int), wrap64 (mx a1 0 - (l0.length : Int)), a2)
  else if a2 = false then some (mx a1 0, 0, false)
  else if feedAt (l0.drop (mx a1 0).toNat) 10 < 0 then some ((l0.length : Int), 0, true)
  else some (mx a1 0 + feedAt (l0.drop (mx a1 0).toNat) 10 + 1, 0, false)
set_option maxHeartbeats 4000000 in
set_option maxRecDepth 100000 in
theorem frame_Pass.calls (A0 : Option Addr) (c0 : Nat) (l0 : List Int) (a1 : Int) (a2 : Bool) (r1 : Int) (r2 : Int) (r3 : Bool) (w : World) (hr0 : Kd.C (Kd.int .u8) w A0 l0.length l0) (hc0 : l0.length ≤ c0) (h : frame_Pass.f l0 a1 a2 = some (r1, r2, r3)) :
    Calls Try.prog 19 #[.slice A0 l0.length c0, .int .i64 a1, .bool a2] w fun e w' => e = .returned (.tuple #[.int .i64 r1, .int .i64 r2, .bool r3]) ∧ Below w.heap.size w w' := by
  have hu := Try.underlying22
  have kc := fun (w : World) (C : Array Value) (n c : Nat) => Lib.run_convert_bytes_const (P := Try.prog) w 22 5 C n c Try.underlying22 Try.underlying5
  unfold frame_Pass.f at h
  obtain ⟨s, hs⟩ : ∃ s, mx a1 0 = s := ⟨_, rfl⟩
  rw [hs] at h
  have hs0 : 0 ≤ s := by
    rw [← hs]
    unfold mx
    split <;> omega
  have hs_ : (if a1 < 0 then 0 else a1) = s := hs
  obtain ⟨k, rfl⟩ := Int.eq_ofNat_of_zero_le hs0
  clear hs hs0
  rw [Int.toNat_natCast] at h
  by_cases c1 : (l0.length : Int) < k
  · rw [if_pos c1] at h
    obtain ⟨rfl, rfl, rfl⟩ : r1 = (l0.length : Int) ∧ r2 = wrap64 ((k : Int) - (l0.length : Int)) ∧ r3 = a2 := by
      have e := Option.some.inj h
      exact ⟨(congrArg (fun p => p.1) e).symm, (congrArg (fun p => p.2.1) e).symm, (congrArg (fun p => p.2.2) e).symm⟩
    clear h
    have c1b : decide ((l0.length : Int) < k) = true := decide_eq_true c1
    have c1c : decide (l0.length < k) = true := decide_eq_true (by omega)
    clear c1 hr0 hc0
    generalize l0.length = n at *
    go_enter Try.func19, Try.ntmps19
    go_wp2
    go_ret3
    exact ⟨rfl, Below.refl _ _⟩
  · rw [if_neg c1] at h
    have c1b : decide ((l0.length : Int) < k) = false := decide_eq_false c1
    have c1c : decide (l0.length < k) = false := decide_eq_false (by omega)
    have hk : k ≤ l0.length := by omega
    clear c1
    cases a2 with
    | false =>
      rw [if_pos rfl] at h
      obtain ⟨rfl, rfl, rfl⟩ : r1 = (k : Int) ∧ r2 = 0 ∧ r3 = false := by
          have e := Option.some.inj h
          exact ⟨(congrArg (fun p => p.1) e).symm, (congrArg (fun p => p.2.1) e).symm, (congrArg (fun p => p.2.2) e).symm⟩
      clear h
      clear hr0 hc0
      generalize l0.length = n at *
      go_enter Try.func19, Try.ntmps19
      go_wp2
      go_ret3
      exact ⟨rfl, Below.refl _ _⟩
    | true =>
      rw [if_neg (by decide)] at h
      have hmax : l0.length ≤ 9223372036854775807 := hr0.2.1
      have hD := fun (W : World) (hW : Below w.heap.size w W) => Kd.C_drop (Kd.C_below hr0 hW) hk hc0
      have hdl : (l0.drop k).length = l0.length - k := by rw [List.length_drop]
      have hkc : k ≤ c0 := by omega
      have hsl : ∀ W : World, (Instr.slice 22 (.slice A0 l0.length c0) (some (.int .i64 (k : Int))) none none).run Try.prog W = .ok (.slice (if c0 = k then A0 else A0.map (·.add k)) (l0.drop k).length (c0 - k)) W := by
        intro W
        obtain ⟨i0, hi0, _, hsz, _⟩ := info_parts (show ((Try.prog).info? 5).map (fun i => (i.zero, i.size, i.bytes)) = some (some (.int .u8 0), 1, 1) by kernel_rfl)
        have hel : (Try.prog).elem 22 = 5 := by kernel_rfl
        have hu2 : (Try.prog).underlying 22 = some (.slice ((Try.prog).elem 22)) := by rw [hel]; exact hu
        rw [run_slice_l W 22 A0 l0.length c0 hu2 .i64 (k : Int) (Int.natCast_nonneg _) (by omega), hel, hdl]
        simp [sizeOf, typeInfo, hi0, hsz, sliced, Result.andThen]
      rw [show k * (Kd.int .u8).sz = k from Nat.mul_one k] at hD
      by_cases hf : feedAt (l0.drop k) 10 < 0
      · rw [if_pos hf] at h
        obtain ⟨rfl, rfl, rfl⟩ : r1 = (l0.length : Int) ∧ r2 = 0 ∧ r3 = true := by
            have e := Option.some.inj h
            exact ⟨(congrArg (fun p => p.1) e).symm, (congrArg (fun p => p.2.1) e).symm, (congrArg (fun p => p.2.2) e).symm⟩
        clear h
        have HY := Aside0.mk (fun (W : World) (g c1 : Nat) (hW : Below w.heap.size w W) (hg : W.cell? ⟨g, 0, none⟩ = some (.int .u8 10)) (hc1 : 1 ≤ c1) => bytes_Cut.no (if c0 = k then A0 else A0.map (·.add k)) (c0 - k) (l0.drop k) g c1 10 W (hD W hW) (by omega) hg hc1 hf)
        clear hD hf hr0
        generalize (if c0 = k then A0 else A0.map (·.add k)) = A' at *
        have hdlA := Aside0.mk hdl
        clear hdl
        generalize (l0.drop k).length = n2 at *
        go_enter Try.func19, Try.ntmps19
        go_wp2_with (go_at_call 21; refine (HY.out _ _ _ (below_alloc (Below.refl _ _) _) (by rw [World.cell?_alloc_mark]; rfl) (Nat.le_refl 1)).mono ?_; rintro e w1 ⟨rfl, hd⟩; have HB := Aside0.mk (below_step (below_alloc (Below.refl _ _) _) hd.below); clear hd)
        go_ret3
        exact ⟨rfl, HB.out⟩
      · rw [if_neg hf] at h
        obtain ⟨i, hi⟩ := Int.eq_ofNat_of_zero_le (show 0 ≤ feedAt (l0.drop k) 10 by omega)
        have hlt := (feedAt_lt (l0.drop k) 10).1
        have HY := Aside0.mk (fun (W : World) (g c1 : Nat) (hW : Below w.heap.size w W) (hg : W.cell? ⟨g, 0, none⟩ = some (.int .u8 10)) (hc1 : 1 ≤ c1) => bytes_Cut.yes (if c0 = k then A0 else A0.map (·.add k)) (c0 - k) (l0.drop k) g c1 10 W (hD W hW) (by omega) hg hc1 (by omega) (by omega))
        rw [hi] at h hlt HY
        rw [Int.toNat_natCast] at HY
        obtain ⟨rfl, rfl, rfl⟩ : r1 = (k : Int) + (i : Int) + 1 ∧ r2 = 0 ∧ r3 = false := by
            have e := Option.some.inj h
            exact ⟨(congrArg (fun p => p.1) e).symm, (congrArg (fun p => p.2.1) e).symm, (congrArg (fun p => p.2.2) e).symm⟩
        clear h
        have hki : k + i + 1 ≤ l0.length := by omega
        clear hD hf hr0 hi hlt
        generalize (if c0 = k then A0 else A0.map (·.add k)) = A' at *
        have hdlA := Aside0.mk hdl
        clear hdl
        generalize (l0.drop k).length = n2 at *
        go_enter Try.func19, Try.ntmps19
        go_wp2_with (go_at_call 21; refine (HY.out _ _ _ (below_alloc (Below.refl _ _) _) (by rw [World.cell?_alloc_mark]; rfl) (Nat.le_refl 1)).mono ?_; rintro e w1 ⟨after, rfl, hd⟩; have HB := Aside0.mk (below_step (below_alloc (Below.refl _ _) _) hd.below); clear hd)
        go_ret3
        exact ⟨rfl, HB.out⟩

/-! ### butterylaw13_awake: function 10 -/
theorem lit_C (W : World) (xs : List Int) (C : Array Value) (e : TypeId) (fr : Nat × Nat) (hC : C.toList = xs.map (Value.int .u8)) (hl : xs.length ≤ 9223372036854775807) : Kd.C (Kd.int .u8) (W.alloc (.cells C e fr)) (some ⟨W.heap.size, 0, none⟩) xs.length xs := by
  refine ⟨rfl, hl, fun _ => ⟨_, rfl, fun j p hj => ⟨[.int .u8 p], rfl, rfl, fun i u hu => ?_⟩⟩⟩
  cases i with
  | succ i => simp at hu
  | zero =>
    obtain rfl : Value.int .u8 p = u := by simpa using hu
    rw [add_plain, Nat.add_zero, show j * (Kd.int .u8).sz = j from Nat.mul_one j, World.cell?_alloc_mark, ← Array.getElem?_toList, hC, List.getElem?_map, hj]
    rfl
def butterylaw13_awake.f : Option (Bool) := some true
theorem butterylaw13_awake.lines (W : World) : Calls Try.prog 11 #[.slice (some ⟨W.heap.size, 0, none⟩) 5 5] (W.alloc (.cells #[.int .u8 97, .int .u8 98, .int .u8 13, .int .u8 10, .int .u8 99] 5 (5, 6))) fun e w' => e = .returned (.tuple #[.string ⟨#[97, 98]⟩, .int .i64 4, .int .i64 0]) ∧ Below W.heap.size W w' := by
  refine (frame_Line.calls (some ⟨W.heap.size, 0, none⟩) 5 [97, 98, 13, 10, 99] ⟨#[97, 98]⟩ 4 0 _ (lit_C W [97, 98, 13, 10, 99] _ _ _ rfl (by decide)) (by decide) (by decide +kernel)).mono ?_
  rintro e w' ⟨rfl, hB⟩
  exact ⟨rfl, below_step (below_alloc (Below.refl _ _) _) hB⟩
theorem butterylaw13_awake.bodies (W : World) : Calls Try.prog 13 #[.slice (some ⟨W.heap.size, 0, none⟩) 5 5, .int .i64 2] (W.alloc (.cells #[.int .u8 97, .int .u8 98, .int .u8 120, .int .u8 13, .int .u8 10] 5 (5, 6))) fun e w' => ∃ v : Value, e = .returned (.tuple #[v, .int .i64 2, .int .i64 2]) ∧ Below W.heap.size W w' := by
  refine (frame_Body.calls (some ⟨W.heap.size, 0, none⟩) 5 [97, 98, 120, 13, 10] 2 [] 2 2 _ (lit_C W [97, 98, 120, 13, 10] _ _ _ rfl (by decide)) (by decide) (by decide +kernel)).mono ?_
  rintro e w' ⟨v, rfl, _, hB⟩
  exact ⟨v, rfl, below_step (below_alloc (Below.refl _ _) _) hB⟩
theorem butterylaw13_awake.passes (W : World) : Calls Try.prog 19 #[.slice (some ⟨W.heap.size, 0, none⟩) 4 4, .int .i64 1, .bool true] (W.alloc (.cells #[.int .u8 97, .int .u8 98, .int .u8 10, .int .u8 99] 5 (4, 5))) fun e w' => e = .returned (.tuple #[.int .i64 3, .int .i64 0, .bool false]) ∧ Below W.heap.size W w' := by
  refine (frame_Pass.calls (some ⟨W.heap.size, 0, none⟩) 4 [97, 98, 10, 99] 1 true 3 0 false _ (lit_C W [97, 98, 10, 99] _ _ _ rfl (by decide)) (by decide) (by decide +kernel)).mono ?_
  rintro e w' ⟨rfl, hB⟩
  exact ⟨rfl, below_step (below_alloc (Below.refl _ _) _) hB⟩
set_option maxHeartbeats 4000000 in
set_option maxRecDepth 100000 in
theorem butterylaw13_awake.calls (r : Bool) (w : World) (h : butterylaw13_awake.f = some r) :
    Calls Try.prog 10 #[] w fun e w' => e = .returned (.bool r) ∧ Below w.heap.size w w' := by
  obtain rfl := Option.some.inj h
  clear h
  have hu := Try.underlying22
  have kc := fun (w : World) (C : Array Value) (n c : Nat) => Lib.run_convert_bytes_const (P := Try.prog) w 22 5 C n c Try.underlying22 Try.underlying5
  have HK := Aside0.mk (fun W => frame_Key.calls ⟨#[97]⟩ true W (by decide +kernel))
  go_enter Try.func10, Try.ntmps10
  go_wp2_with (first | (go_at_call 11; refine (butterylaw13_awake.lines _).mono ?_; rintro e w1 ⟨rfl, hB⟩; have HB1 := Aside0.mk hB; clear hB) | (go_at_call 13; refine (butterylaw13_awake.bodies _).mono ?_; rintro e w2 ⟨v, rfl, hB⟩; have HB2 := Aside0.mk (below_step HB1.out hB); clear hB HB1) | (go_at_call 19; refine (butterylaw13_awake.passes _).mono ?_; rintro e w3 ⟨rfl, hB⟩; have HB3 := Aside0.mk (below_step HB2.out hB); clear hB HB2) | (go_at_call 15; refine (HK.out _).mono ?_; rintro e w4 ⟨rfl, hB⟩; have HB4 := Aside0.mk (below_step HB3.out hB); clear hB HB3))
  go_ret
  exact ⟨rfl, HB4.out⟩

end Go.Proofs.Ytcdjocjkipceoaa.He
