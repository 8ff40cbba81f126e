-- Written by this session's own program (wip/hprint.py) out of the translation, over hand-proved contracts. Lean checks it.
import Derived.Test.YtkbhnnmngmdkdaaProg
import Derived.Below
import Derived.Deep.Draws
import Derived.Deep.AppendLies
import Derived.Maps.AppendAt
import Derived.OwnWalk
import Derived.Laws.BytesArg
import Derived.Laws.MakeOwn
import Derived.Laws.OwnMore
import Derived.Deep.OwnRows
import Derived.Tactics
import Derived.Lib.ConvBytes
import Derived.Laws.Slices
import Derived.WalkKit
import Derived.KernelRfl
import Derived.RowKit3
import Derived.Deep.LoopGhost
import Derived.Deep.QuietTactic
import Derived.BigQuiet
import Derived.WideLaws
import Derived.Deep.DeepCutAuto
import Derived.Deep.CutBlock
import Derived.Deep.RegionHeld3
import Derived.Laws.Rows
import Derived.Lib.AppendStr
import Derived.ArgAppend
import Derived.Laws.IdiomCopy
import Derived.OrdersHeld
import Derived.Laws.BitsLemmas
import Derived.RowKit
import Derived.Deep.Slices
import Derived.Test.YtkbhnnmngmdkdaaReg
import Derived.WalkSpells
import Derived.BigQuiet
import Derived.BigRegion
import Derived.Lib.SlBytesConst
import Derived.Test.YtkbhnnmngmdkdaaWWords
import Derived.Test.YtkbhnnmngmdkdaaWLast
import Derived.Test.YtkbhnnmngmdkdaaWTab
import Derived.Test.YtkbhnnmngmdkdaaWFour
import Derived.Test.YtkbhnnmngmdkdaaWQPut
import Derived.Test.YtkbhnnmngmdkdaaWApart
import Derived.Test.YtkbhnnmngmdkdaaWArr
import Derived.Test.YtkbhnnmngmdkdaaWZeros
import Derived.Test.YtkbhnnmngmdkdaaWFoot
import Derived.Test.YtkbhnnmngmdkdaaWKept
import Derived.Test.YtkbhnnmngmdkdaaWShare
import Derived.Test.YtkbhnnmngmdkdaaWN
import Derived.Test.YtkbhnnmngmdkdaaWFootNe
import Derived.Test.YtkbhnnmngmdkdaaWAt
import Derived.Test.YtkbhnnmngmdkdaaWEqStruct
import Derived.Test.YtkbhnnmngmdkdaaWRepsOne
import Derived.Test.YtkbhnnmngmdkdaaWInv
import Derived.Test.YtkbhnnmngmdkdaaWInvWords
import Derived.Test.YtkbhnnmngmdkdaaWGuard
import Derived.Test.YtkbhnnmngmdkdaaWNEv
import Derived.Test.YtkbhnnmngmdkdaaWMore
namespace Go.Proofs.Ytkbhnnmngmdkdaa.Hc
open Go.RowKit Go.Proofs.YtkbhnnmngmdkdaaW.PrintWords Go.Proofs.YtkbhnnmngmdkdaaW.PrintLast Go.Proofs.YtkbhnnmngmdkdaaW.PrintMore
attribute [local go_sem] max2_int min2_int max_two min_two max_three min_three max_four min_four   -- for this text's walks alone
set_option linter.unusedVariables false
set_option linter.unusedSimpArgs false



def errW : Option Int → Value
  | none => .nilIface
  | some c => .iface 0 (.int .i64 c)
theorem errW_none : errW none = .nilIface := rfl
theorem errW_some (c : Int) : errW (some c) = .iface 0 (.int .i64 c) := rfl

theorem info5 : (Try.prog.info? 5).map (fun i => (i.zero, i.size, i.bytes)) = some (some (.int .u8 0), 1, 1) := by kernel_rfl

section
variable {P : Program} {α : Type}
theorem cut3_take (enc : α → Value) (d : α) (t e : TypeId) (kl km : IntKind) {i : TypeInfo} (ht : P.underlying t = some (.slice e)) (hi : P.info? e = some i) (hsz : i.size = 1) (A : Option Addr) (c : Nat) (xs : List α) (j : Int) (h0 : 0 ≤ j) (hm : j ≤ xs.length) (hc : xs.length ≤ c) :
    (∀ W : World, (Instr.slice t (.slice A xs.length c) none (some (.int kl j)) (some (.int km j))).run P W = .ok (.slice A (xs.take j.toNat).length j.toNat) W) ∧
      (∀ w : World, ReadsOf enc d w A xs.length xs → ReadsOf enc d w A (xs.take j.toNat).length (xs.take j.toNat)) ∧ (xs.take j.toNat).length ≤ j.toNat := by
  have hl : (xs.take j.toNat).length = j.toNat := by rw [List.length_take]; omega
  refine ⟨fun W => ?_, (print_take_of (P := P) enc d t e kl ht hi hsz A c xs j h0 hm hc).2.1, by rw [hl]; omega⟩
  have hel : P.elem t = e := by simp [Program.elem, ht]
  have hu : P.underlying t = some (.slice (P.elem t)) := by rw [hel]; exact ht
  have ha : (A.map fun x => x.add 0) = A := by cases A <;> simp [Addr.add]
  rw [run_slice_hm W t A xs.length c hu kl km j j h0 (Int.le_refl _) (by omega), hel, hl]
  simp [sizeOf, typeInfo, hi, hsz, sliced, Result.andThen, ha]
theorem cut3_mid (enc : α → Value) (d : α) (t e : TypeId) (kl kh km : IntKind) {i : TypeInfo} (ht : P.underlying t = some (.slice e)) (hi : P.info? e = some i) (hsz : i.size = 1) (A : Option Addr) (c : Nat) (xs : List α) (a b : Int) (h0 : 0 ≤ a) (h1 : a ≤ b) (hm : b ≤ xs.length) (hc : xs.length ≤ c) :
    ∃ A' : Option Addr, (∀ W : World, (Instr.slice t (.slice A xs.length c) (some (.int kl a)) (some (.int kh b)) (some (.int km b))).run P W = .ok (.slice A' ((xs.take b.toNat).drop a.toNat).length (b.toNat - a.toNat)) W) ∧
      (∀ w : World, ReadsOf enc d w A xs.length xs → ReadsOf enc d w A' ((xs.take b.toNat).drop a.toNat).length ((xs.take b.toNat).drop a.toNat)) ∧ ((xs.take b.toNat).drop a.toNat).length ≤ b.toNat - a.toNat := by
  have hlt : (xs.take b.toNat).length = b.toNat := by rw [List.length_take]; omega
  have hl : ((xs.take b.toNat).drop a.toNat).length = b.toNat - a.toNat := by rw [List.length_drop, hlt]
  have hT := (print_take_of (P := P) enc d t e kl ht hi hsz A c xs b (by omega) hm hc).2.1
  have hD := print_drop_of (P := P) enc d t e kl ht hi hsz A b.toNat (xs.take b.toNat) a h0 (by omega) (by omega)
  obtain ⟨A', hr, hC, _⟩ := hD
  refine ⟨A', fun W => ?_, fun w h => hC w (hT w h), by omega⟩
  have hel : P.elem t = e := by simp [Program.elem, ht]
  have hu : P.underlying t = some (.slice (P.elem t)) := by rw [hel]; exact ht
  have h2 := hr W
  rw [run_slice_l W t A (xs.take b.toNat).length b.toNat hu kl a h0 (by omega), hel] at h2
  rw [run_slice_lhm W t A xs.length c hu kl kh km a b b h0 h1 (Int.le_refl _) (by omega), hel, ← h2]
  simp [sizeOf, typeInfo, hi, hsz, sliced, Result.andThen, hlt]
end

-- the values' own types
def rd_L1 (xs : List (List Int)) (i : Int) : (List Int) := xs.getD i.toNat ([] : List Int)
theorem at_L1 {w : World} {A : Option Addr} {n : Nat} {xs : List (List Int)} (h : Kd.C (Kd.slice 5 (Kd.int .u8)) w A n xs) (i : Int) (h0 : 0 ≤ i) (h1 : i < n) : ∃ ad A0 c0, A = some ad ∧ w.cell? (ad.add i.toNat) = some (.slice A0 (rd_L1 xs i).length c0) ∧ (rd_L1 xs i).length ≤ c0 ∧ (Kd.int .u8).C w A0 (rd_L1 xs i).length (rd_L1 xs i) := by
  obtain ⟨ad, c, e, _, hK, hc0⟩ := Kd.C_get h ([] : List Int) i h0 h1
  have hc : ∀ j u, c[j]? = some u → w.cell? (ad.add (i.toNat * 1 + j)) = some u := hc0
  obtain ⟨A0, c0, rfl, l0, g0⟩ := hK
  exact ⟨ad, A0, c0, e, by have hq := hc 0 _ rfl; rwa [Nat.mul_one, Nat.add_zero] at hq, l0, g0⟩

def rd_L3 (xs : List (List (List Int))) (i : Int) : (List (List Int)) := xs.getD i.toNat ([] : List (List Int))
theorem at_L3 {w : World} {A : Option Addr} {n : Nat} {xs : List (List (List Int))} (h : Kd.C (Kd.slice 22 (Kd.slice 5 (Kd.int .u8))) w A n xs) (i : Int) (h0 : 0 ≤ i) (h1 : i < n) : ∃ ad A0 c0, A = some ad ∧ w.cell? (ad.add i.toNat) = some (.slice A0 (rd_L3 xs i).length c0) ∧ (rd_L3 xs i).length ≤ c0 ∧ (Kd.slice 5 (Kd.int .u8)).C w A0 (rd_L3 xs i).length (rd_L3 xs i) := by
  obtain ⟨ad, c, e, _, hK, hc0⟩ := Kd.C_get h ([] : List (List Int)) i h0 h1
  have hc : ∀ j u, c[j]? = some u → w.cell? (ad.add (i.toNat * 1 + j)) = some u := hc0
  obtain ⟨A0, c0, rfl, l0, g0⟩ := hK
  exact ⟨ad, A0, c0, e, by have hq := hc 0 _ rfl; rwa [Nat.mul_one, Nat.add_zero] at hq, l0, g0⟩

/-! #### struct type 53 -/
structure S53 where
  f0 : Int
  f1 : Int
  f2 : Int
  f3 : Int
  f4 : Int
  f5 : (List Int)
def z53 : S53 := ⟨(0 : Int), (0 : Int), (0 : Int), (0 : Int), (0 : Int), ([] : List Int)⟩
def k53 : Kd S53 := Kd.iso (Kd.pair (Kd.int .i64) (Kd.pair (Kd.int .i64) (Kd.pair (Kd.int .i64) (Kd.pair (Kd.int .u32) (Kd.pair (Kd.int .u64) (Kd.slice 5 (Kd.int .u8))))))) (fun x : S53 => (x.f0, x.f1, x.f2, x.f3, x.f4, x.f5))
theorem k53_open {w : World} {x : S53} {cs : List Value} (h : k53.K w x cs) : ∃ A5 c5, cs = [.int .i64 x.f0, .int .i64 x.f1, .int .i64 x.f2, .int .u32 x.f3, .int .u64 x.f4, .slice A5 x.f5.length c5] ∧ x.f5.length ≤ c5 ∧ (Kd.int .u8).C w A5 x.f5.length x.f5 := by
  obtain ⟨_, _, rfl, rfl, ⟨_, _, rfl, rfl, ⟨_, _, rfl, rfl, ⟨_, _, rfl, rfl, ⟨_, _, rfl, rfl, ⟨A5, c5, rfl, l5, g5⟩⟩⟩⟩⟩⟩ := h
  exact ⟨A5, c5, rfl, l5, g5⟩
theorem k53_openM {w : World} {base : Nat} {ok : Nat → Prop} {x : S53} {cs : List Value} (h : k53.M w base ok x cs) : ∃ v5, cs = [.int .i64 x.f0, .int .i64 x.f1, .int .i64 x.f2, .int .u32 x.f3, .int .u64 x.f4, v5] ∧ (Kd.int .u8).R 5 w base ok v5 x.f5 := by
  obtain ⟨_, _, rfl, rfl, ⟨_, _, rfl, rfl, ⟨_, _, rfl, rfl, ⟨_, _, rfl, rfl, ⟨_, _, rfl, rfl, ⟨v5, rfl, g5⟩⟩⟩⟩⟩⟩ := h
  exact ⟨v5, rfl, g5⟩
theorem k53_mk (w : World) (x : S53) {A5 : Option Addr} {c5 : Nat} (l5 : x.f5.length ≤ c5) (g5 : (Kd.int .u8).C w A5 x.f5.length x.f5) : k53.K w x [.int .i64 x.f0, .int .i64 x.f1, .int .i64 x.f2, .int .u32 x.f3, .int .u64 x.f4, .slice A5 x.f5.length c5] := ⟨[.int .i64 x.f0], [.int .i64 x.f1, .int .i64 x.f2, .int .u32 x.f3, .int .u64 x.f4, .slice A5 x.f5.length c5], rfl, rfl, ⟨[.int .i64 x.f1], [.int .i64 x.f2, .int .u32 x.f3, .int .u64 x.f4, .slice A5 x.f5.length c5], rfl, rfl, ⟨[.int .i64 x.f2], [.int .u32 x.f3, .int .u64 x.f4, .slice A5 x.f5.length c5], rfl, rfl, ⟨[.int .u32 x.f3], [.int .u64 x.f4, .slice A5 x.f5.length c5], rfl, rfl, ⟨[.int .u64 x.f4], [.slice A5 x.f5.length c5], rfl, rfl, ⟨A5, c5, rfl, l5, g5⟩⟩⟩⟩⟩⟩
theorem k53_mkM (w : World) (base : Nat) (ok : Nat → Prop) (x : S53) {v5 : Value} (g5 : (Kd.int .u8).R 5 w base ok v5 x.f5) : k53.M w base ok x [.int .i64 x.f0, .int .i64 x.f1, .int .i64 x.f2, .int .u32 x.f3, .int .u64 x.f4, v5] := ⟨[.int .i64 x.f0], [.int .i64 x.f1, .int .i64 x.f2, .int .u32 x.f3, .int .u64 x.f4, v5], rfl, rfl, ⟨[.int .i64 x.f1], [.int .i64 x.f2, .int .u32 x.f3, .int .u64 x.f4, v5], rfl, rfl, ⟨[.int .i64 x.f2], [.int .u32 x.f3, .int .u64 x.f4, v5], rfl, rfl, ⟨[.int .u32 x.f3], [.int .u64 x.f4, v5], rfl, rfl, ⟨[.int .u64 x.f4], [v5], rfl, rfl, ⟨v5, rfl, g5⟩⟩⟩⟩⟩⟩
def rd_T53 (xs : List S53) (i : Int) : S53 := xs.getD i.toNat z53
theorem at_T53 {w : World} {A : Option Addr} {n : Nat} {xs : List S53} (h : Kd.C k53 w A n xs) (i : Int) (h0 : 0 ≤ i) (h1 : i < n) : ∃ ad A5 c5, A = some ad ∧ w.cell? (ad.add (i.toNat * 6)) = some (.int .i64 (rd_T53 xs i).f0) ∧ w.cell? ⟨(ad.add (i.toNat * 6)).block, (ad.add (i.toNat * 6)).off + 1, none⟩ = some (.int .i64 (rd_T53 xs i).f1) ∧ w.cell? ⟨(ad.add (i.toNat * 6)).block, (ad.add (i.toNat * 6)).off + 2, none⟩ = some (.int .i64 (rd_T53 xs i).f2) ∧ w.cell? ⟨(ad.add (i.toNat * 6)).block, (ad.add (i.toNat * 6)).off + 3, none⟩ = some (.int .u32 (rd_T53 xs i).f3) ∧ w.cell? ⟨(ad.add (i.toNat * 6)).block, (ad.add (i.toNat * 6)).off + 4, none⟩ = some (.int .u64 (rd_T53 xs i).f4) ∧ w.cell? ⟨(ad.add (i.toNat * 6)).block, (ad.add (i.toNat * 6)).off + 5, none⟩ = some (.slice A5 (rd_T53 xs i).f5.length c5) ∧ (rd_T53 xs i).f5.length ≤ c5 ∧ (Kd.int .u8).C w A5 (rd_T53 xs i).f5.length (rd_T53 xs i).f5 := by
  obtain ⟨ad, c, e, _, hK, hc0⟩ := Kd.C_get h z53 i h0 h1
  have hc : ∀ j u, c[j]? = some u → w.cell? (ad.add (i.toNat * 6 + j)) = some u := hc0
  obtain ⟨A5, c5, rfl, l5, g5⟩ := k53_open hK
  exact ⟨ad, A5, c5, e, hc 0 _ rfl, by rw [← add_field _ _ 1 (by omega)]; exact hc 1 _ rfl, by rw [← add_field _ _ 2 (by omega)]; exact hc 2 _ rfl, by rw [← add_field _ _ 3 (by omega)]; exact hc 3 _ rfl, by rw [← add_field _ _ 4 (by omega)]; exact hc 4 _ rfl, by rw [← add_field _ _ 5 (by omega)]; exact hc 5 _ rfl, l5, g5⟩

/-! #### struct type 39 -/
structure S39 where
  f0 : Int
  f1 : ByteArray
  f2 : (List Int)
  f3 : Int
  f4 : Int
  f5 : Int
  f6 : Int
  f7 : Int
  f8 : Bool
  f9 : Bool
def z39 : S39 := ⟨(0 : Int), (⟨#[]⟩ : ByteArray), ([] : List Int), (0 : Int), (0 : Int), (0 : Int), (0 : Int), (0 : Int), false, false⟩
def k39 : Kd S39 := Kd.iso (Kd.pair (Kd.int .i64) (Kd.pair Kd.string (Kd.pair (Kd.slice 5 (Kd.int .u8)) (Kd.pair (Kd.int .u32) (Kd.pair (Kd.int .i64) (Kd.pair (Kd.int .u64) (Kd.pair (Kd.int .u64) (Kd.pair (Kd.int .u64) (Kd.pair Kd.bool Kd.bool))))))))) (fun x : S39 => (x.f0, x.f1, x.f2, x.f3, x.f4, x.f5, x.f6, x.f7, x.f8, x.f9))
theorem k39_open {w : World} {x : S39} {cs : List Value} (h : k39.K w x cs) : ∃ A2 c2, cs = [.int .i64 x.f0, .string x.f1, .slice A2 x.f2.length c2, .int .u32 x.f3, .int .i64 x.f4, .int .u64 x.f5, .int .u64 x.f6, .int .u64 x.f7, .bool x.f8, .bool x.f9] ∧ x.f2.length ≤ c2 ∧ (Kd.int .u8).C w A2 x.f2.length x.f2 := by
  obtain ⟨_, _, rfl, rfl, ⟨_, _, rfl, rfl, ⟨_, _, rfl, ⟨A2, c2, rfl, l2, g2⟩, ⟨_, _, rfl, rfl, ⟨_, _, rfl, rfl, ⟨_, _, rfl, rfl, ⟨_, _, rfl, rfl, ⟨_, _, rfl, rfl, ⟨_, _, rfl, rfl, rfl⟩⟩⟩⟩⟩⟩⟩⟩⟩ := h
  exact ⟨A2, c2, rfl, l2, g2⟩
theorem k39_openM {w : World} {base : Nat} {ok : Nat → Prop} {x : S39} {cs : List Value} (h : k39.M w base ok x cs) : ∃ v2, cs = [.int .i64 x.f0, .string x.f1, v2, .int .u32 x.f3, .int .i64 x.f4, .int .u64 x.f5, .int .u64 x.f6, .int .u64 x.f7, .bool x.f8, .bool x.f9] ∧ (Kd.int .u8).R 5 w base ok v2 x.f2 := by
  obtain ⟨_, _, rfl, rfl, ⟨_, _, rfl, rfl, ⟨_, _, rfl, ⟨v2, rfl, g2⟩, ⟨_, _, rfl, rfl, ⟨_, _, rfl, rfl, ⟨_, _, rfl, rfl, ⟨_, _, rfl, rfl, ⟨_, _, rfl, rfl, ⟨_, _, rfl, rfl, rfl⟩⟩⟩⟩⟩⟩⟩⟩⟩ := h
  exact ⟨v2, rfl, g2⟩
theorem k39_mk (w : World) (x : S39) {A2 : Option Addr} {c2 : Nat} (l2 : x.f2.length ≤ c2) (g2 : (Kd.int .u8).C w A2 x.f2.length x.f2) : k39.K w x [.int .i64 x.f0, .string x.f1, .slice A2 x.f2.length c2, .int .u32 x.f3, .int .i64 x.f4, .int .u64 x.f5, .int .u64 x.f6, .int .u64 x.f7, .bool x.f8, .bool x.f9] := ⟨[.int .i64 x.f0], [.string x.f1, .slice A2 x.f2.length c2, .int .u32 x.f3, .int .i64 x.f4, .int .u64 x.f5, .int .u64 x.f6, .int .u64 x.f7, .bool x.f8, .bool x.f9], rfl, rfl, ⟨[.string x.f1], [.slice A2 x.f2.length c2, .int .u32 x.f3, .int .i64 x.f4, .int .u64 x.f5, .int .u64 x.f6, .int .u64 x.f7, .bool x.f8, .bool x.f9], rfl, rfl, ⟨[.slice A2 x.f2.length c2], [.int .u32 x.f3, .int .i64 x.f4, .int .u64 x.f5, .int .u64 x.f6, .int .u64 x.f7, .bool x.f8, .bool x.f9], rfl, ⟨A2, c2, rfl, l2, g2⟩, ⟨[.int .u32 x.f3], [.int .i64 x.f4, .int .u64 x.f5, .int .u64 x.f6, .int .u64 x.f7, .bool x.f8, .bool x.f9], rfl, rfl, ⟨[.int .i64 x.f4], [.int .u64 x.f5, .int .u64 x.f6, .int .u64 x.f7, .bool x.f8, .bool x.f9], rfl, rfl, ⟨[.int .u64 x.f5], [.int .u64 x.f6, .int .u64 x.f7, .bool x.f8, .bool x.f9], rfl, rfl, ⟨[.int .u64 x.f6], [.int .u64 x.f7, .bool x.f8, .bool x.f9], rfl, rfl, ⟨[.int .u64 x.f7], [.bool x.f8, .bool x.f9], rfl, rfl, ⟨[.bool x.f8], [.bool x.f9], rfl, rfl, rfl⟩⟩⟩⟩⟩⟩⟩⟩⟩
theorem k39_mkM (w : World) (base : Nat) (ok : Nat → Prop) (x : S39) {v2 : Value} (g2 : (Kd.int .u8).R 5 w base ok v2 x.f2) : k39.M w base ok x [.int .i64 x.f0, .string x.f1, v2, .int .u32 x.f3, .int .i64 x.f4, .int .u64 x.f5, .int .u64 x.f6, .int .u64 x.f7, .bool x.f8, .bool x.f9] := ⟨[.int .i64 x.f0], [.string x.f1, v2, .int .u32 x.f3, .int .i64 x.f4, .int .u64 x.f5, .int .u64 x.f6, .int .u64 x.f7, .bool x.f8, .bool x.f9], rfl, rfl, ⟨[.string x.f1], [v2, .int .u32 x.f3, .int .i64 x.f4, .int .u64 x.f5, .int .u64 x.f6, .int .u64 x.f7, .bool x.f8, .bool x.f9], rfl, rfl, ⟨[v2], [.int .u32 x.f3, .int .i64 x.f4, .int .u64 x.f5, .int .u64 x.f6, .int .u64 x.f7, .bool x.f8, .bool x.f9], rfl, ⟨v2, rfl, g2⟩, ⟨[.int .u32 x.f3], [.int .i64 x.f4, .int .u64 x.f5, .int .u64 x.f6, .int .u64 x.f7, .bool x.f8, .bool x.f9], rfl, rfl, ⟨[.int .i64 x.f4], [.int .u64 x.f5, .int .u64 x.f6, .int .u64 x.f7, .bool x.f8, .bool x.f9], rfl, rfl, ⟨[.int .u64 x.f5], [.int .u64 x.f6, .int .u64 x.f7, .bool x.f8, .bool x.f9], rfl, rfl, ⟨[.int .u64 x.f6], [.int .u64 x.f7, .bool x.f8, .bool x.f9], rfl, rfl, ⟨[.int .u64 x.f7], [.bool x.f8, .bool x.f9], rfl, rfl, ⟨[.bool x.f8], [.bool x.f9], rfl, rfl, rfl⟩⟩⟩⟩⟩⟩⟩⟩⟩
def rd_T39 (xs : List S39) (i : Int) : S39 := xs.getD i.toNat z39
theorem at_T39 {w : World} {A : Option Addr} {n : Nat} {xs : List S39} (h : Kd.C k39 w A n xs) (i : Int) (h0 : 0 ≤ i) (h1 : i < n) : ∃ ad A2 c2, A = some ad ∧ w.cell? (ad.add (i.toNat * 10)) = some (.int .i64 (rd_T39 xs i).f0) ∧ w.cell? ⟨(ad.add (i.toNat * 10)).block, (ad.add (i.toNat * 10)).off + 1, none⟩ = some (.string (rd_T39 xs i).f1) ∧ w.cell? ⟨(ad.add (i.toNat * 10)).block, (ad.add (i.toNat * 10)).off + 2, none⟩ = some (.slice A2 (rd_T39 xs i).f2.length c2) ∧ w.cell? ⟨(ad.add (i.toNat * 10)).block, (ad.add (i.toNat * 10)).off + 3, none⟩ = some (.int .u32 (rd_T39 xs i).f3) ∧ w.cell? ⟨(ad.add (i.toNat * 10)).block, (ad.add (i.toNat * 10)).off + 4, none⟩ = some (.int .i64 (rd_T39 xs i).f4) ∧ w.cell? ⟨(ad.add (i.toNat * 10)).block, (ad.add (i.toNat * 10)).off + 5, none⟩ = some (.int .u64 (rd_T39 xs i).f5) ∧ w.cell? ⟨(ad.add (i.toNat * 10)).block, (ad.add (i.toNat * 10)).off + 6, none⟩ = some (.int .u64 (rd_T39 xs i).f6) ∧ w.cell? ⟨(ad.add (i.toNat * 10)).block, (ad.add (i.toNat * 10)).off + 7, none⟩ = some (.int .u64 (rd_T39 xs i).f7) ∧ w.cell? ⟨(ad.add (i.toNat * 10)).block, (ad.add (i.toNat * 10)).off + 8, none⟩ = some (.bool (rd_T39 xs i).f8) ∧ w.cell? ⟨(ad.add (i.toNat * 10)).block, (ad.add (i.toNat * 10)).off + 9, none⟩ = some (.bool (rd_T39 xs i).f9) ∧ (rd_T39 xs i).f2.length ≤ c2 ∧ (Kd.int .u8).C w A2 (rd_T39 xs i).f2.length (rd_T39 xs i).f2 := by
  obtain ⟨ad, c, e, _, hK, hc0⟩ := Kd.C_get h z39 i h0 h1
  have hc : ∀ j u, c[j]? = some u → w.cell? (ad.add (i.toNat * 10 + j)) = some u := hc0
  obtain ⟨A2, c2, rfl, l2, g2⟩ := k39_open hK
  exact ⟨ad, A2, c2, e, hc 0 _ rfl, by rw [← add_field _ _ 1 (by omega)]; exact hc 1 _ rfl, by rw [← add_field _ _ 2 (by omega)]; exact hc 2 _ rfl, by rw [← add_field _ _ 3 (by omega)]; exact hc 3 _ rfl, by rw [← add_field _ _ 4 (by omega)]; exact hc 4 _ rfl, by rw [← add_field _ _ 5 (by omega)]; exact hc 5 _ rfl, by rw [← add_field _ _ 6 (by omega)]; exact hc 6 _ rfl, by rw [← add_field _ _ 7 (by omega)]; exact hc 7 _ rfl, by rw [← add_field _ _ 8 (by omega)]; exact hc 8 _ rfl, by rw [← add_field _ _ 9 (by omega)]; exact hc 9 _ rfl, l2, g2⟩

def rd_L11 (xs : List (List S39)) (i : Int) : (List S39) := xs.getD i.toNat ([] : List S39)
theorem at_L11 {w : World} {A : Option Addr} {n : Nat} {xs : List (List S39)} (h : Kd.C (Kd.slice 39 k39) w A n xs) (i : Int) (h0 : 0 ≤ i) (h1 : i < n) : ∃ ad A0 c0, A = some ad ∧ w.cell? (ad.add i.toNat) = some (.slice A0 (rd_L11 xs i).length c0) ∧ (rd_L11 xs i).length ≤ c0 ∧ k39.C w A0 (rd_L11 xs i).length (rd_L11 xs i) := by
  obtain ⟨ad, c, e, _, hK, hc0⟩ := Kd.C_get h ([] : List S39) i h0 h1
  have hc : ∀ j u, c[j]? = some u → w.cell? (ad.add (i.toNat * 1 + j)) = some u := hc0
  obtain ⟨A0, c0, rfl, l0, g0⟩ := hK
  exact ⟨ad, A0, c0, e, by have hq := hc 0 _ rfl; rwa [Nat.mul_one, Nat.add_zero] at hq, l0, g0⟩

def rd_L12 (xs : List (List ByteArray)) (i : Int) : (List ByteArray) := xs.getD i.toNat ([] : List ByteArray)
theorem at_L12 {w : World} {A : Option Addr} {n : Nat} {xs : List (List ByteArray)} (h : Kd.C (Kd.slice 9 Kd.string) w A n xs) (i : Int) (h0 : 0 ≤ i) (h1 : i < n) : ∃ ad A0 c0, A = some ad ∧ w.cell? (ad.add i.toNat) = some (.slice A0 (rd_L12 xs i).length c0) ∧ (rd_L12 xs i).length ≤ c0 ∧ Kd.string.C w A0 (rd_L12 xs i).length (rd_L12 xs i) := by
  obtain ⟨ad, c, e, _, hK, hc0⟩ := Kd.C_get h ([] : List ByteArray) i h0 h1
  have hc : ∀ j u, c[j]? = some u → w.cell? (ad.add (i.toNat * 1 + j)) = some u := hc0
  obtain ⟨A0, c0, rfl, l0, g0⟩ := hK
  exact ⟨ad, A0, c0, e, by have hq := hc 0 _ rfl; rwa [Nat.mul_one, Nat.add_zero] at hq, l0, g0⟩

/-! #### struct type 29 -/
structure S29 where
  f0 : Int
  f1 : ByteArray
  f2 : Int
  f3 : Int
  f4 : Bool
  f5 : Bool
  f6 : ByteArray
  f7 : (List ByteArray)
  f8 : (List ByteArray)
  f9 : Bool
def z29 : S29 := ⟨(0 : Int), (⟨#[]⟩ : ByteArray), (0 : Int), (0 : Int), false, false, (⟨#[]⟩ : ByteArray), ([] : List ByteArray), ([] : List ByteArray), false⟩
def k29 : Kd S29 := Kd.iso (Kd.pair (Kd.int .i64) (Kd.pair Kd.string (Kd.pair (Kd.int .i64) (Kd.pair (Kd.int .u32) (Kd.pair Kd.bool (Kd.pair Kd.bool (Kd.pair Kd.string (Kd.pair (Kd.slice 9 Kd.string) (Kd.pair (Kd.slice 9 Kd.string) Kd.bool))))))))) (fun x : S29 => (x.f0, x.f1, x.f2, x.f3, x.f4, x.f5, x.f6, x.f7, x.f8, x.f9))
theorem k29_open {w : World} {x : S29} {cs : List Value} (h : k29.K w x cs) : ∃ A7 c7 A8 c8, cs = [.int .i64 x.f0, .string x.f1, .int .i64 x.f2, .int .u32 x.f3, .bool x.f4, .bool x.f5, .string x.f6, .slice A7 x.f7.length c7, .slice A8 x.f8.length c8, .bool x.f9] ∧ x.f7.length ≤ c7 ∧ Kd.string.C w A7 x.f7.length x.f7 ∧ x.f8.length ≤ c8 ∧ Kd.string.C w A8 x.f8.length x.f8 := by
  obtain ⟨_, _, rfl, rfl, ⟨_, _, rfl, rfl, ⟨_, _, rfl, rfl, ⟨_, _, rfl, rfl, ⟨_, _, rfl, rfl, ⟨_, _, rfl, rfl, ⟨_, _, rfl, rfl, ⟨_, _, rfl, ⟨A7, c7, rfl, l7, g7⟩, ⟨_, _, rfl, ⟨A8, c8, rfl, l8, g8⟩, rfl⟩⟩⟩⟩⟩⟩⟩⟩⟩ := h
  exact ⟨A7, c7, A8, c8, rfl, l7, g7, l8, g8⟩
theorem k29_openM {w : World} {base : Nat} {ok : Nat → Prop} {x : S29} {cs : List Value} (h : k29.M w base ok x cs) : ∃ v7 v8, cs = [.int .i64 x.f0, .string x.f1, .int .i64 x.f2, .int .u32 x.f3, .bool x.f4, .bool x.f5, .string x.f6, v7, v8, .bool x.f9] ∧ Kd.string.R 9 w base ok v7 x.f7 ∧ Kd.string.R 9 w base ok v8 x.f8 := by
  obtain ⟨_, _, rfl, rfl, ⟨_, _, rfl, rfl, ⟨_, _, rfl, rfl, ⟨_, _, rfl, rfl, ⟨_, _, rfl, rfl, ⟨_, _, rfl, rfl, ⟨_, _, rfl, rfl, ⟨_, _, rfl, ⟨v7, rfl, g7⟩, ⟨_, _, rfl, ⟨v8, rfl, g8⟩, rfl⟩⟩⟩⟩⟩⟩⟩⟩⟩ := h
  exact ⟨v7, v8, rfl, g7, g8⟩
theorem k29_mk (w : World) (x : S29) {A7 : Option Addr} {c7 : Nat} (l7 : x.f7.length ≤ c7) (g7 : Kd.string.C w A7 x.f7.length x.f7) {A8 : Option Addr} {c8 : Nat} (l8 : x.f8.length ≤ c8) (g8 : Kd.string.C w A8 x.f8.length x.f8) : k29.K w x [.int .i64 x.f0, .string x.f1, .int .i64 x.f2, .int .u32 x.f3, .bool x.f4, .bool x.f5, .string x.f6, .slice A7 x.f7.length c7, .slice A8 x.f8.length c8, .bool x.f9] := ⟨[.int .i64 x.f0], [.string x.f1, .int .i64 x.f2, .int .u32 x.f3, .bool x.f4, .bool x.f5, .string x.f6, .slice A7 x.f7.length c7, .slice A8 x.f8.length c8, .bool x.f9], rfl, rfl, ⟨[.string x.f1], [.int .i64 x.f2, .int .u32 x.f3, .bool x.f4, .bool x.f5, .string x.f6, .slice A7 x.f7.length c7, .slice A8 x.f8.length c8, .bool x.f9], rfl, rfl, ⟨[.int .i64 x.f2], [.int .u32 x.f3, .bool x.f4, .bool x.f5, .string x.f6, .slice A7 x.f7.length c7, .slice A8 x.f8.length c8, .bool x.f9], rfl, rfl, ⟨[.int .u32 x.f3], [.bool x.f4, .bool x.f5, .string x.f6, .slice A7 x.f7.length c7, .slice A8 x.f8.length c8, .bool x.f9], rfl, rfl, ⟨[.bool x.f4], [.bool x.f5, .string x.f6, .slice A7 x.f7.length c7, .slice A8 x.f8.length c8, .bool x.f9], rfl, rfl, ⟨[.bool x.f5], [.string x.f6, .slice A7 x.f7.length c7, .slice A8 x.f8.length c8, .bool x.f9], rfl, rfl, ⟨[.string x.f6], [.slice A7 x.f7.length c7, .slice A8 x.f8.length c8, .bool x.f9], rfl, rfl, ⟨[.slice A7 x.f7.length c7], [.slice A8 x.f8.length c8, .bool x.f9], rfl, ⟨A7, c7, rfl, l7, g7⟩, ⟨[.slice A8 x.f8.length c8], [.bool x.f9], rfl, ⟨A8, c8, rfl, l8, g8⟩, rfl⟩⟩⟩⟩⟩⟩⟩⟩⟩
theorem k29_mkM (w : World) (base : Nat) (ok : Nat → Prop) (x : S29) {v7 : Value} (g7 : Kd.string.R 9 w base ok v7 x.f7) {v8 : Value} (g8 : Kd.string.R 9 w base ok v8 x.f8) : k29.M w base ok x [.int .i64 x.f0, .string x.f1, .int .i64 x.f2, .int .u32 x.f3, .bool x.f4, .bool x.f5, .string x.f6, v7, v8, .bool x.f9] := ⟨[.int .i64 x.f0], [.string x.f1, .int .i64 x.f2, .int .u32 x.f3, .bool x.f4, .bool x.f5, .string x.f6, v7, v8, .bool x.f9], rfl, rfl, ⟨[.string x.f1], [.int .i64 x.f2, .int .u32 x.f3, .bool x.f4, .bool x.f5, .string x.f6, v7, v8, .bool x.f9], rfl, rfl, ⟨[.int .i64 x.f2], [.int .u32 x.f3, .bool x.f4, .bool x.f5, .string x.f6, v7, v8, .bool x.f9], rfl, rfl, ⟨[.int .u32 x.f3], [.bool x.f4, .bool x.f5, .string x.f6, v7, v8, .bool x.f9], rfl, rfl, ⟨[.bool x.f4], [.bool x.f5, .string x.f6, v7, v8, .bool x.f9], rfl, rfl, ⟨[.bool x.f5], [.string x.f6, v7, v8, .bool x.f9], rfl, rfl, ⟨[.string x.f6], [v7, v8, .bool x.f9], rfl, rfl, ⟨[v7], [v8, .bool x.f9], rfl, ⟨v7, rfl, g7⟩, ⟨[v8], [.bool x.f9], rfl, ⟨v8, rfl, g8⟩, rfl⟩⟩⟩⟩⟩⟩⟩⟩⟩
def rd_T29 (xs : List S29) (i : Int) : S29 := xs.getD i.toNat z29
theorem at_T29 {w : World} {A : Option Addr} {n : Nat} {xs : List S29} (h : Kd.C k29 w A n xs) (i : Int) (h0 : 0 ≤ i) (h1 : i < n) : ∃ ad A7 c7 A8 c8, A = some ad ∧ w.cell? (ad.add (i.toNat * 10)) = some (.int .i64 (rd_T29 xs i).f0) ∧ w.cell? ⟨(ad.add (i.toNat * 10)).block, (ad.add (i.toNat * 10)).off + 1, none⟩ = some (.string (rd_T29 xs i).f1) ∧ w.cell? ⟨(ad.add (i.toNat * 10)).block, (ad.add (i.toNat * 10)).off + 2, none⟩ = some (.int .i64 (rd_T29 xs i).f2) ∧ w.cell? ⟨(ad.add (i.toNat * 10)).block, (ad.add (i.toNat * 10)).off + 3, none⟩ = some (.int .u32 (rd_T29 xs i).f3) ∧ w.cell? ⟨(ad.add (i.toNat * 10)).block, (ad.add (i.toNat * 10)).off + 4, none⟩ = some (.bool (rd_T29 xs i).f4) ∧ w.cell? ⟨(ad.add (i.toNat * 10)).block, (ad.add (i.toNat * 10)).off + 5, none⟩ = some (.bool (rd_T29 xs i).f5) ∧ w.cell? ⟨(ad.add (i.toNat * 10)).block, (ad.add (i.toNat * 10)).off + 6, none⟩ = some (.string (rd_T29 xs i).f6) ∧ w.cell? ⟨(ad.add (i.toNat * 10)).block, (ad.add (i.toNat * 10)).off + 7, none⟩ = some (.slice A7 (rd_T29 xs i).f7.length c7) ∧ w.cell? ⟨(ad.add (i.toNat * 10)).block, (ad.add (i.toNat * 10)).off + 8, none⟩ = some (.slice A8 (rd_T29 xs i).f8.length c8) ∧ w.cell? ⟨(ad.add (i.toNat * 10)).block, (ad.add (i.toNat * 10)).off + 9, none⟩ = some (.bool (rd_T29 xs i).f9) ∧ (rd_T29 xs i).f7.length ≤ c7 ∧ Kd.string.C w A7 (rd_T29 xs i).f7.length (rd_T29 xs i).f7 ∧ (rd_T29 xs i).f8.length ≤ c8 ∧ Kd.string.C w A8 (rd_T29 xs i).f8.length (rd_T29 xs i).f8 := by
  obtain ⟨ad, c, e, _, hK, hc0⟩ := Kd.C_get h z29 i h0 h1
  have hc : ∀ j u, c[j]? = some u → w.cell? (ad.add (i.toNat * 10 + j)) = some u := hc0
  obtain ⟨A7, c7, A8, c8, rfl, l7, g7, l8, g8⟩ := k29_open hK
  exact ⟨ad, A7, c7, A8, c8, e, hc 0 _ rfl, by rw [← add_field _ _ 1 (by omega)]; exact hc 1 _ rfl, by rw [← add_field _ _ 2 (by omega)]; exact hc 2 _ rfl, by rw [← add_field _ _ 3 (by omega)]; exact hc 3 _ rfl, by rw [← add_field _ _ 4 (by omega)]; exact hc 4 _ rfl, by rw [← add_field _ _ 5 (by omega)]; exact hc 5 _ rfl, by rw [← add_field _ _ 6 (by omega)]; exact hc 6 _ rfl, by rw [← add_field _ _ 7 (by omega)]; exact hc 7 _ rfl, by rw [← add_field _ _ 8 (by omega)]; exact hc 8 _ rfl, by rw [← add_field _ _ 9 (by omega)]; exact hc 9 _ rfl, l7, g7, l8, g8⟩

/-! #### struct type 31 -/
structure S31 where
  f0 : (List S39)
  f1 : S29
def z31 : S31 := ⟨([] : List S39), z29⟩
def k31 : Kd S31 := Kd.iso (Kd.pair (Kd.slice 39 k39) k29) (fun x : S31 => (x.f0, x.f1))
theorem k31_open {w : World} {x : S31} {cs : List Value} (h : k31.K w x cs) : ∃ A0 c0 A8 c8 A9 c9, cs = [.slice A0 x.f0.length c0, .int .i64 x.f1.f0, .string x.f1.f1, .int .i64 x.f1.f2, .int .u32 x.f1.f3, .bool x.f1.f4, .bool x.f1.f5, .string x.f1.f6, .slice A8 x.f1.f7.length c8, .slice A9 x.f1.f8.length c9, .bool x.f1.f9] ∧ x.f0.length ≤ c0 ∧ k39.C w A0 x.f0.length x.f0 ∧ x.f1.f7.length ≤ c8 ∧ Kd.string.C w A8 x.f1.f7.length x.f1.f7 ∧ x.f1.f8.length ≤ c9 ∧ Kd.string.C w A9 x.f1.f8.length x.f1.f8 := by
  obtain ⟨_, _, rfl, ⟨A0, c0, rfl, l0, g0⟩, s1⟩ := h
  obtain ⟨A8, c8, A9, c9, rfl, l8, g8, l9, g9⟩ := k29_open s1
  exact ⟨A0, c0, A8, c8, A9, c9, rfl, l0, g0, l8, g8, l9, g9⟩
theorem k31_openM {w : World} {base : Nat} {ok : Nat → Prop} {x : S31} {cs : List Value} (h : k31.M w base ok x cs) : ∃ v0 v8 v9, cs = [v0, .int .i64 x.f1.f0, .string x.f1.f1, .int .i64 x.f1.f2, .int .u32 x.f1.f3, .bool x.f1.f4, .bool x.f1.f5, .string x.f1.f6, v8, v9, .bool x.f1.f9] ∧ k39.R 39 w base ok v0 x.f0 ∧ Kd.string.R 9 w base ok v8 x.f1.f7 ∧ Kd.string.R 9 w base ok v9 x.f1.f8 := by
  obtain ⟨_, _, rfl, ⟨v0, rfl, g0⟩, s1⟩ := h
  obtain ⟨v8, v9, rfl, g8, g9⟩ := k29_openM s1
  exact ⟨v0, v8, v9, rfl, g0, g8, g9⟩
theorem k31_mk (w : World) (x : S31) {A0 : Option Addr} {c0 : Nat} (l0 : x.f0.length ≤ c0) (g0 : k39.C w A0 x.f0.length x.f0) {A8 : Option Addr} {c8 : Nat} (l8 : x.f1.f7.length ≤ c8) (g8 : Kd.string.C w A8 x.f1.f7.length x.f1.f7) {A9 : Option Addr} {c9 : Nat} (l9 : x.f1.f8.length ≤ c9) (g9 : Kd.string.C w A9 x.f1.f8.length x.f1.f8) : k31.K w x [.slice A0 x.f0.length c0, .int .i64 x.f1.f0, .string x.f1.f1, .int .i64 x.f1.f2, .int .u32 x.f1.f3, .bool x.f1.f4, .bool x.f1.f5, .string x.f1.f6, .slice A8 x.f1.f7.length c8, .slice A9 x.f1.f8.length c9, .bool x.f1.f9] := ⟨[.slice A0 x.f0.length c0], [.int .i64 x.f1.f0, .string x.f1.f1, .int .i64 x.f1.f2, .int .u32 x.f1.f3, .bool x.f1.f4, .bool x.f1.f5, .string x.f1.f6, .slice A8 x.f1.f7.length c8, .slice A9 x.f1.f8.length c9, .bool x.f1.f9], rfl, ⟨A0, c0, rfl, l0, g0⟩, (k29_mk w x.f1 l8 g8 l9 g9)⟩
theorem k31_mkM (w : World) (base : Nat) (ok : Nat → Prop) (x : S31) {v0 : Value} (g0 : k39.R 39 w base ok v0 x.f0) {v8 : Value} (g8 : Kd.string.R 9 w base ok v8 x.f1.f7) {v9 : Value} (g9 : Kd.string.R 9 w base ok v9 x.f1.f8) : k31.M w base ok x [v0, .int .i64 x.f1.f0, .string x.f1.f1, .int .i64 x.f1.f2, .int .u32 x.f1.f3, .bool x.f1.f4, .bool x.f1.f5, .string x.f1.f6, v8, v9, .bool x.f1.f9] := ⟨[v0], [.int .i64 x.f1.f0, .string x.f1.f1, .int .i64 x.f1.f2, .int .u32 x.f1.f3, .bool x.f1.f4, .bool x.f1.f5, .string x.f1.f6, v8, v9, .bool x.f1.f9], rfl, ⟨v0, rfl, g0⟩, (k29_mkM w base ok x.f1 g8 g9)⟩
def rd_T31 (xs : List S31) (i : Int) : S31 := xs.getD i.toNat z31
theorem at_T31 {w : World} {A : Option Addr} {n : Nat} {xs : List S31} (h : Kd.C k31 w A n xs) (i : Int) (h0 : 0 ≤ i) (h1 : i < n) : ∃ ad A0 c0 A8 c8 A9 c9, A = some ad ∧ w.cell? (ad.add (i.toNat * 11)) = some (.slice A0 (rd_T31 xs i).f0.length c0) ∧ w.cell? ⟨(ad.add (i.toNat * 11)).block, (ad.add (i.toNat * 11)).off + 1, none⟩ = some (.int .i64 (rd_T31 xs i).f1.f0) ∧ w.cell? ⟨(ad.add (i.toNat * 11)).block, (ad.add (i.toNat * 11)).off + 2, none⟩ = some (.string (rd_T31 xs i).f1.f1) ∧ w.cell? ⟨(ad.add (i.toNat * 11)).block, (ad.add (i.toNat * 11)).off + 3, none⟩ = some (.int .i64 (rd_T31 xs i).f1.f2) ∧ w.cell? ⟨(ad.add (i.toNat * 11)).block, (ad.add (i.toNat * 11)).off + 4, none⟩ = some (.int .u32 (rd_T31 xs i).f1.f3) ∧ w.cell? ⟨(ad.add (i.toNat * 11)).block, (ad.add (i.toNat * 11)).off + 5, none⟩ = some (.bool (rd_T31 xs i).f1.f4) ∧ w.cell? ⟨(ad.add (i.toNat * 11)).block, (ad.add (i.toNat * 11)).off + 6, none⟩ = some (.bool (rd_T31 xs i).f1.f5) ∧ w.cell? ⟨(ad.add (i.toNat * 11)).block, (ad.add (i.toNat * 11)).off + 7, none⟩ = some (.string (rd_T31 xs i).f1.f6) ∧ w.cell? ⟨(ad.add (i.toNat * 11)).block, (ad.add (i.toNat * 11)).off + 8, none⟩ = some (.slice A8 (rd_T31 xs i).f1.f7.length c8) ∧ w.cell? ⟨(ad.add (i.toNat * 11)).block, (ad.add (i.toNat * 11)).off + 9, none⟩ = some (.slice A9 (rd_T31 xs i).f1.f8.length c9) ∧ w.cell? ⟨(ad.add (i.toNat * 11)).block, (ad.add (i.toNat * 11)).off + 10, none⟩ = some (.bool (rd_T31 xs i).f1.f9) ∧ (rd_T31 xs i).f0.length ≤ c0 ∧ k39.C w A0 (rd_T31 xs i).f0.length (rd_T31 xs i).f0 ∧ (rd_T31 xs i).f1.f7.length ≤ c8 ∧ Kd.string.C w A8 (rd_T31 xs i).f1.f7.length (rd_T31 xs i).f1.f7 ∧ (rd_T31 xs i).f1.f8.length ≤ c9 ∧ Kd.string.C w A9 (rd_T31 xs i).f1.f8.length (rd_T31 xs i).f1.f8 := by
  obtain ⟨ad, c, e, _, hK, hc0⟩ := Kd.C_get h z31 i h0 h1
  have hc : ∀ j u, c[j]? = some u → w.cell? (ad.add (i.toNat * 11 + j)) = some u := hc0
  obtain ⟨A0, c0, A8, c8, A9, c9, rfl, l0, g0, l8, g8, l9, g9⟩ := k31_open hK
  exact ⟨ad, A0, c0, A8, c8, A9, c9, e, hc 0 _ rfl, by rw [← add_field _ _ 1 (by omega)]; exact hc 1 _ rfl, by rw [← add_field _ _ 2 (by omega)]; exact hc 2 _ rfl, by rw [← add_field _ _ 3 (by omega)]; exact hc 3 _ rfl, by rw [← add_field _ _ 4 (by omega)]; exact hc 4 _ rfl, by rw [← add_field _ _ 5 (by omega)]; exact hc 5 _ rfl, by rw [← add_field _ _ 6 (by omega)]; exact hc 6 _ rfl, by rw [← add_field _ _ 7 (by omega)]; exact hc 7 _ rfl, by rw [← add_field _ _ 8 (by omega)]; exact hc 8 _ rfl, by rw [← add_field _ _ 9 (by omega)]; exact hc 9 _ rfl, by rw [← add_field _ _ 10 (by omega)]; exact hc 10 _ rfl, l0, g0, l8, g8, l9, g9⟩

/-! #### struct type 34 -/
structure S34 where
  f0 : S31
  f1 : ByteArray
  f2 : Int
  f3 : Int
  f4 : Bool
  f5 : Int
def z34 : S34 := ⟨z31, (⟨#[]⟩ : ByteArray), (0 : Int), (0 : Int), false, (0 : Int)⟩
def k34 : Kd S34 := Kd.iso (Kd.pair k31 (Kd.pair Kd.string (Kd.pair (Kd.int .i64) (Kd.pair (Kd.int .i64) (Kd.pair Kd.bool (Kd.int .i64)))))) (fun x : S34 => (x.f0, x.f1, x.f2, x.f3, x.f4, x.f5))
theorem k34_open {w : World} {x : S34} {cs : List Value} (h : k34.K w x cs) : ∃ A0 c0 A8 c8 A9 c9, cs = [.slice A0 x.f0.f0.length c0, .int .i64 x.f0.f1.f0, .string x.f0.f1.f1, .int .i64 x.f0.f1.f2, .int .u32 x.f0.f1.f3, .bool x.f0.f1.f4, .bool x.f0.f1.f5, .string x.f0.f1.f6, .slice A8 x.f0.f1.f7.length c8, .slice A9 x.f0.f1.f8.length c9, .bool x.f0.f1.f9, .string x.f1, .int .i64 x.f2, .int .i64 x.f3, .bool x.f4, .int .i64 x.f5] ∧ x.f0.f0.length ≤ c0 ∧ k39.C w A0 x.f0.f0.length x.f0.f0 ∧ x.f0.f1.f7.length ≤ c8 ∧ Kd.string.C w A8 x.f0.f1.f7.length x.f0.f1.f7 ∧ x.f0.f1.f8.length ≤ c9 ∧ Kd.string.C w A9 x.f0.f1.f8.length x.f0.f1.f8 := by
  obtain ⟨_, _, rfl, s0, ⟨_, _, rfl, rfl, ⟨_, _, rfl, rfl, ⟨_, _, rfl, rfl, ⟨_, _, rfl, rfl, rfl⟩⟩⟩⟩⟩ := h
  obtain ⟨A0, c0, A8, c8, A9, c9, rfl, l0, g0, l8, g8, l9, g9⟩ := k31_open s0
  exact ⟨A0, c0, A8, c8, A9, c9, rfl, l0, g0, l8, g8, l9, g9⟩
theorem k34_openM {w : World} {base : Nat} {ok : Nat → Prop} {x : S34} {cs : List Value} (h : k34.M w base ok x cs) : ∃ v0 v8 v9, cs = [v0, .int .i64 x.f0.f1.f0, .string x.f0.f1.f1, .int .i64 x.f0.f1.f2, .int .u32 x.f0.f1.f3, .bool x.f0.f1.f4, .bool x.f0.f1.f5, .string x.f0.f1.f6, v8, v9, .bool x.f0.f1.f9, .string x.f1, .int .i64 x.f2, .int .i64 x.f3, .bool x.f4, .int .i64 x.f5] ∧ k39.R 39 w base ok v0 x.f0.f0 ∧ Kd.string.R 9 w base ok v8 x.f0.f1.f7 ∧ Kd.string.R 9 w base ok v9 x.f0.f1.f8 := by
  obtain ⟨_, _, rfl, s0, ⟨_, _, rfl, rfl, ⟨_, _, rfl, rfl, ⟨_, _, rfl, rfl, ⟨_, _, rfl, rfl, rfl⟩⟩⟩⟩⟩ := h
  obtain ⟨v0, v8, v9, rfl, g0, g8, g9⟩ := k31_openM s0
  exact ⟨v0, v8, v9, rfl, g0, g8, g9⟩
theorem k34_mk (w : World) (x : S34) {A0 : Option Addr} {c0 : Nat} (l0 : x.f0.f0.length ≤ c0) (g0 : k39.C w A0 x.f0.f0.length x.f0.f0) {A8 : Option Addr} {c8 : Nat} (l8 : x.f0.f1.f7.length ≤ c8) (g8 : Kd.string.C w A8 x.f0.f1.f7.length x.f0.f1.f7) {A9 : Option Addr} {c9 : Nat} (l9 : x.f0.f1.f8.length ≤ c9) (g9 : Kd.string.C w A9 x.f0.f1.f8.length x.f0.f1.f8) : k34.K w x [.slice A0 x.f0.f0.length c0, .int .i64 x.f0.f1.f0, .string x.f0.f1.f1, .int .i64 x.f0.f1.f2, .int .u32 x.f0.f1.f3, .bool x.f0.f1.f4, .bool x.f0.f1.f5, .string x.f0.f1.f6, .slice A8 x.f0.f1.f7.length c8, .slice A9 x.f0.f1.f8.length c9, .bool x.f0.f1.f9, .string x.f1, .int .i64 x.f2, .int .i64 x.f3, .bool x.f4, .int .i64 x.f5] := ⟨[.slice A0 x.f0.f0.length c0, .int .i64 x.f0.f1.f0, .string x.f0.f1.f1, .int .i64 x.f0.f1.f2, .int .u32 x.f0.f1.f3, .bool x.f0.f1.f4, .bool x.f0.f1.f5, .string x.f0.f1.f6, .slice A8 x.f0.f1.f7.length c8, .slice A9 x.f0.f1.f8.length c9, .bool x.f0.f1.f9], [.string x.f1, .int .i64 x.f2, .int .i64 x.f3, .bool x.f4, .int .i64 x.f5], rfl, (k31_mk w x.f0 l0 g0 l8 g8 l9 g9), ⟨[.string x.f1], [.int .i64 x.f2, .int .i64 x.f3, .bool x.f4, .int .i64 x.f5], rfl, rfl, ⟨[.int .i64 x.f2], [.int .i64 x.f3, .bool x.f4, .int .i64 x.f5], rfl, rfl, ⟨[.int .i64 x.f3], [.bool x.f4, .int .i64 x.f5], rfl, rfl, ⟨[.bool x.f4], [.int .i64 x.f5], rfl, rfl, rfl⟩⟩⟩⟩⟩
theorem k34_mkM (w : World) (base : Nat) (ok : Nat → Prop) (x : S34) {v0 : Value} (g0 : k39.R 39 w base ok v0 x.f0.f0) {v8 : Value} (g8 : Kd.string.R 9 w base ok v8 x.f0.f1.f7) {v9 : Value} (g9 : Kd.string.R 9 w base ok v9 x.f0.f1.f8) : k34.M w base ok x [v0, .int .i64 x.f0.f1.f0, .string x.f0.f1.f1, .int .i64 x.f0.f1.f2, .int .u32 x.f0.f1.f3, .bool x.f0.f1.f4, .bool x.f0.f1.f5, .string x.f0.f1.f6, v8, v9, .bool x.f0.f1.f9, .string x.f1, .int .i64 x.f2, .int .i64 x.f3, .bool x.f4, .int .i64 x.f5] := ⟨[v0, .int .i64 x.f0.f1.f0, .string x.f0.f1.f1, .int .i64 x.f0.f1.f2, .int .u32 x.f0.f1.f3, .bool x.f0.f1.f4, .bool x.f0.f1.f5, .string x.f0.f1.f6, v8, v9, .bool x.f0.f1.f9], [.string x.f1, .int .i64 x.f2, .int .i64 x.f3, .bool x.f4, .int .i64 x.f5], rfl, (k31_mkM w base ok x.f0 g0 g8 g9), ⟨[.string x.f1], [.int .i64 x.f2, .int .i64 x.f3, .bool x.f4, .int .i64 x.f5], rfl, rfl, ⟨[.int .i64 x.f2], [.int .i64 x.f3, .bool x.f4, .int .i64 x.f5], rfl, rfl, ⟨[.int .i64 x.f3], [.bool x.f4, .int .i64 x.f5], rfl, rfl, ⟨[.bool x.f4], [.int .i64 x.f5], rfl, rfl, rfl⟩⟩⟩⟩⟩
def rd_T34 (xs : List S34) (i : Int) : S34 := xs.getD i.toNat z34
theorem at_T34 {w : World} {A : Option Addr} {n : Nat} {xs : List S34} (h : Kd.C k34 w A n xs) (i : Int) (h0 : 0 ≤ i) (h1 : i < n) : ∃ ad A0 c0 A8 c8 A9 c9, A = some ad ∧ w.cell? (ad.add (i.toNat * 16)) = some (.slice A0 (rd_T34 xs i).f0.f0.length c0) ∧ w.cell? ⟨(ad.add (i.toNat * 16)).block, (ad.add (i.toNat * 16)).off + 1, none⟩ = some (.int .i64 (rd_T34 xs i).f0.f1.f0) ∧ w.cell? ⟨(ad.add (i.toNat * 16)).block, (ad.add (i.toNat * 16)).off + 2, none⟩ = some (.string (rd_T34 xs i).f0.f1.f1) ∧ w.cell? ⟨(ad.add (i.toNat * 16)).block, (ad.add (i.toNat * 16)).off + 3, none⟩ = some (.int .i64 (rd_T34 xs i).f0.f1.f2) ∧ w.cell? ⟨(ad.add (i.toNat * 16)).block, (ad.add (i.toNat * 16)).off + 4, none⟩ = some (.int .u32 (rd_T34 xs i).f0.f1.f3) ∧ w.cell? ⟨(ad.add (i.toNat * 16)).block, (ad.add (i.toNat * 16)).off + 5, none⟩ = some (.bool (rd_T34 xs i).f0.f1.f4) ∧ w.cell? ⟨(ad.add (i.toNat * 16)).block, (ad.add (i.toNat * 16)).off + 6, none⟩ = some (.bool (rd_T34 xs i).f0.f1.f5) ∧ w.cell? ⟨(ad.add (i.toNat * 16)).block, (ad.add (i.toNat * 16)).off + 7, none⟩ = some (.string (rd_T34 xs i).f0.f1.f6) ∧ w.cell? ⟨(ad.add (i.toNat * 16)).block, (ad.add (i.toNat * 16)).off + 8, none⟩ = some (.slice A8 (rd_T34 xs i).f0.f1.f7.length c8) ∧ w.cell? ⟨(ad.add (i.toNat * 16)).block, (ad.add (i.toNat * 16)).off + 9, none⟩ = some (.slice A9 (rd_T34 xs i).f0.f1.f8.length c9) ∧ w.cell? ⟨(ad.add (i.toNat * 16)).block, (ad.add (i.toNat * 16)).off + 10, none⟩ = some (.bool (rd_T34 xs i).f0.f1.f9) ∧ w.cell? ⟨(ad.add (i.toNat * 16)).block, (ad.add (i.toNat * 16)).off + 11, none⟩ = some (.string (rd_T34 xs i).f1) ∧ w.cell? ⟨(ad.add (i.toNat * 16)).block, (ad.add (i.toNat * 16)).off + 12, none⟩ = some (.int .i64 (rd_T34 xs i).f2) ∧ w.cell? ⟨(ad.add (i.toNat * 16)).block, (ad.add (i.toNat * 16)).off + 13, none⟩ = some (.int .i64 (rd_T34 xs i).f3) ∧ w.cell? ⟨(ad.add (i.toNat * 16)).block, (ad.add (i.toNat * 16)).off + 14, none⟩ = some (.bool (rd_T34 xs i).f4) ∧ w.cell? ⟨(ad.add (i.toNat * 16)).block, (ad.add (i.toNat * 16)).off + 15, none⟩ = some (.int .i64 (rd_T34 xs i).f5) ∧ (rd_T34 xs i).f0.f0.length ≤ c0 ∧ k39.C w A0 (rd_T34 xs i).f0.f0.length (rd_T34 xs i).f0.f0 ∧ (rd_T34 xs i).f0.f1.f7.length ≤ c8 ∧ Kd.string.C w A8 (rd_T34 xs i).f0.f1.f7.length (rd_T34 xs i).f0.f1.f7 ∧ (rd_T34 xs i).f0.f1.f8.length ≤ c9 ∧ Kd.string.C w A9 (rd_T34 xs i).f0.f1.f8.length (rd_T34 xs i).f0.f1.f8 := by
  obtain ⟨ad, c, e, _, hK, hc0⟩ := Kd.C_get h z34 i h0 h1
  have hc : ∀ j u, c[j]? = some u → w.cell? (ad.add (i.toNat * 16 + j)) = some u := hc0
  obtain ⟨A0, c0, A8, c8, A9, c9, rfl, l0, g0, l8, g8, l9, g9⟩ := k34_open hK
  exact ⟨ad, A0, c0, A8, c8, A9, c9, e, hc 0 _ rfl, by rw [← add_field _ _ 1 (by omega)]; exact hc 1 _ rfl, by rw [← add_field _ _ 2 (by omega)]; exact hc 2 _ rfl, by rw [← add_field _ _ 3 (by omega)]; exact hc 3 _ rfl, by rw [← add_field _ _ 4 (by omega)]; exact hc 4 _ rfl, by rw [← add_field _ _ 5 (by omega)]; exact hc 5 _ rfl, by rw [← add_field _ _ 6 (by omega)]; exact hc 6 _ rfl, by rw [← add_field _ _ 7 (by omega)]; exact hc 7 _ rfl, by rw [← add_field _ _ 8 (by omega)]; exact hc 8 _ rfl, by rw [← add_field _ _ 9 (by omega)]; exact hc 9 _ rfl, by rw [← add_field _ _ 10 (by omega)]; exact hc 10 _ rfl, by rw [← add_field _ _ 11 (by omega)]; exact hc 11 _ rfl, by rw [← add_field _ _ 12 (by omega)]; exact hc 12 _ rfl, by rw [← add_field _ _ 13 (by omega)]; exact hc 13 _ rfl, by rw [← add_field _ _ 14 (by omega)]; exact hc 14 _ rfl, by rw [← add_field _ _ 15 (by omega)]; exact hc 15 _ rfl, l0, g0, l8, g8, l9, g9⟩

/-! #### struct type 47 -/
structure S47 where
  f0 : Int
  f1 : Int
  f2 : Bool
  f3 : Bool
  f4 : Bool
def z47 : S47 := ⟨(0 : Int), (0 : Int), false, false, false⟩
def k47 : Kd S47 := Kd.iso (Kd.pair (Kd.int .i64) (Kd.pair (Kd.int .i64) (Kd.pair Kd.bool (Kd.pair Kd.bool Kd.bool)))) (fun x : S47 => (x.f0, x.f1, x.f2, x.f3, x.f4))
theorem k47_open {w : World} {x : S47} {cs : List Value} (h : k47.K w x cs) : cs = [.int .i64 x.f0, .int .i64 x.f1, .bool x.f2, .bool x.f3, .bool x.f4] := by
  obtain ⟨_, _, rfl, rfl, ⟨_, _, rfl, rfl, ⟨_, _, rfl, rfl, ⟨_, _, rfl, rfl, rfl⟩⟩⟩⟩ := h
  exact rfl
theorem k47_openM {w : World} {base : Nat} {ok : Nat → Prop} {x : S47} {cs : List Value} (h : k47.M w base ok x cs) : cs = [.int .i64 x.f0, .int .i64 x.f1, .bool x.f2, .bool x.f3, .bool x.f4] := by
  obtain ⟨_, _, rfl, rfl, ⟨_, _, rfl, rfl, ⟨_, _, rfl, rfl, ⟨_, _, rfl, rfl, rfl⟩⟩⟩⟩ := h
  exact rfl
theorem k47_mk (w : World) (x : S47)  : k47.K w x [.int .i64 x.f0, .int .i64 x.f1, .bool x.f2, .bool x.f3, .bool x.f4] := ⟨[.int .i64 x.f0], [.int .i64 x.f1, .bool x.f2, .bool x.f3, .bool x.f4], rfl, rfl, ⟨[.int .i64 x.f1], [.bool x.f2, .bool x.f3, .bool x.f4], rfl, rfl, ⟨[.bool x.f2], [.bool x.f3, .bool x.f4], rfl, rfl, ⟨[.bool x.f3], [.bool x.f4], rfl, rfl, rfl⟩⟩⟩⟩
theorem k47_mkM (w : World) (base : Nat) (ok : Nat → Prop) (x : S47)  : k47.M w base ok x [.int .i64 x.f0, .int .i64 x.f1, .bool x.f2, .bool x.f3, .bool x.f4] := ⟨[.int .i64 x.f0], [.int .i64 x.f1, .bool x.f2, .bool x.f3, .bool x.f4], rfl, rfl, ⟨[.int .i64 x.f1], [.bool x.f2, .bool x.f3, .bool x.f4], rfl, rfl, ⟨[.bool x.f2], [.bool x.f3, .bool x.f4], rfl, rfl, ⟨[.bool x.f3], [.bool x.f4], rfl, rfl, rfl⟩⟩⟩⟩
def rd_T47 (xs : List S47) (i : Int) : S47 := xs.getD i.toNat z47
theorem at_T47 {w : World} {A : Option Addr} {n : Nat} {xs : List S47} (h : Kd.C k47 w A n xs) (i : Int) (h0 : 0 ≤ i) (h1 : i < n) : ∃ ad , A = some ad ∧ w.cell? (ad.add (i.toNat * 5)) = some (.int .i64 (rd_T47 xs i).f0) ∧ w.cell? ⟨(ad.add (i.toNat * 5)).block, (ad.add (i.toNat * 5)).off + 1, none⟩ = some (.int .i64 (rd_T47 xs i).f1) ∧ w.cell? ⟨(ad.add (i.toNat * 5)).block, (ad.add (i.toNat * 5)).off + 2, none⟩ = some (.bool (rd_T47 xs i).f2) ∧ w.cell? ⟨(ad.add (i.toNat * 5)).block, (ad.add (i.toNat * 5)).off + 3, none⟩ = some (.bool (rd_T47 xs i).f3) ∧ w.cell? ⟨(ad.add (i.toNat * 5)).block, (ad.add (i.toNat * 5)).off + 4, none⟩ = some (.bool (rd_T47 xs i).f4) := by
  obtain ⟨ad, c, e, _, hK, hc0⟩ := Kd.C_get h z47 i h0 h1
  have hc : ∀ j u, c[j]? = some u → w.cell? (ad.add (i.toNat * 5 + j)) = some u := hc0
  obtain rfl := k47_open hK
  exact ⟨ad, e, hc 0 _ rfl, by rw [← add_field _ _ 1 (by omega)]; exact hc 1 _ rfl, by rw [← add_field _ _ 2 (by omega)]; exact hc 2 _ rfl, by rw [← add_field _ _ 3 (by omega)]; exact hc 3 _ rfl, by rw [← add_field _ _ 4 (by omega)]; exact hc 4 _ rfl⟩

end Go.Proofs.Ytkbhnnmngmdkdaa.Hc
