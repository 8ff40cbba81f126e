-- Written by this session's own program (wip/hprint.py) out of the translation, over hand-proved contracts. Lean checks it.
import Derived.Test.YtpfjoeagblkonaaProg
import Derived.Below
import Derived.Deep.Draws
import Derived.Deep.AppendLies
import Derived.Maps.AppendAt
import Derived.OwnWalk
import Derived.Laws.BytesArg
import Derived.Laws.MakeOwn
import Derived.Laws.OwnMore
import Derived.Deep.OwnRows
import Derived.Tactics
import Derived.Lib.ConvBytes
import Derived.Laws.Slices
import Derived.WalkKit
import Derived.KernelRfl
import Derived.RowKit3
import Derived.Deep.LoopGhost
import Derived.Deep.QuietTactic
import Derived.BigQuiet
import Derived.WideLaws
import Derived.Deep.DeepCutAuto
import Derived.Deep.CutBlock
import Derived.Deep.RegionHeld3
import Derived.Laws.Rows
import Derived.Lib.AppendStr
import Derived.ArgAppend
import Derived.Laws.IdiomCopy
import Derived.OrdersHeld
import Derived.Laws.BitsLemmas
import Derived.RowKit
import Derived.Deep.Slices
import Derived.Test.YtpfjoeagblkonaaReg
import Derived.WalkSpells
import Derived.BigQuiet
import Derived.BigRegion
import Derived.Lib.SlBytesConst
import Derived.Test.YtpfjoeagblkonaaWWords
import Derived.Test.YtpfjoeagblkonaaWLast
import Derived.Test.YtpfjoeagblkonaaWTab
import Derived.Test.YtpfjoeagblkonaaWFour
import Derived.Test.YtpfjoeagblkonaaWQPut
import Derived.Test.YtpfjoeagblkonaaWApart
import Derived.Test.YtpfjoeagblkonaaWArr
import Derived.Test.YtpfjoeagblkonaaWZeros
import Derived.Test.YtpfjoeagblkonaaWFoot
import Derived.Test.YtpfjoeagblkonaaWKept
import Derived.Test.YtpfjoeagblkonaaWShare
import Derived.Test.YtpfjoeagblkonaaWN
import Derived.Test.YtpfjoeagblkonaaWFootNe
import Derived.Test.YtpfjoeagblkonaaWAt
import Derived.Test.YtpfjoeagblkonaaWEqStruct
import Derived.Test.YtpfjoeagblkonaaWRepsOne
import Derived.Test.YtpfjoeagblkonaaWInv
import Derived.Test.YtpfjoeagblkonaaWInvWords
import Derived.Test.YtpfjoeagblkonaaWGuard
import Derived.Test.YtpfjoeagblkonaaWNEv
import Derived.Test.YtpfjoeagblkonaaWMore
namespace Go.Proofs.Ytpfjoeagblkonaa.Hb
open Go.RowKit Go.Proofs.YtpfjoeagblkonaaW.PrintWords Go.Proofs.YtpfjoeagblkonaaW.PrintLast Go.Proofs.YtpfjoeagblkonaaW.PrintMore
attribute [local go_sem] max2_int min2_int max_two min_two max_three min_three max_four min_four   -- for this text's walks alone
set_option linter.unusedVariables false
set_option linter.unusedSimpArgs false



def errW : Option Int → Value
  | none => .nilIface
  | some c => .iface 0 (.int .i64 c)
theorem errW_none : errW none = .nilIface := rfl
theorem errW_some (c : Int) : errW (some c) = .iface 0 (.int .i64 c) := rfl

theorem info5 : (Try.prog.info? 5).map (fun i => (i.zero, i.size, i.bytes)) = some (some (.int .u8 0), 1, 1) := by kernel_rfl

section
variable {P : Program} {α : Type}
theorem cut3_take (enc : α → Value) (d : α) (t e : TypeId) (kl km : IntKind) {i : TypeInfo} (ht : P.underlying t = some (.slice e)) (hi : P.info? e = some i) (hsz : i.size = 1) (A : Option Addr) (c : Nat) (xs : List α) (j : Int) (h0 : 0 ≤ j) (hm : j ≤ xs.length) (hc : xs.length ≤ c) :
    (∀ W : World, (Instr.slice t (.slice A xs.length c) none (some (.int kl j)) (some (.int km j))).run P W = .ok (.slice A (xs.take j.toNat).length j.toNat) W) ∧
      (∀ w : World, ReadsOf enc d w A xs.length xs → ReadsOf enc d w A (xs.take j.toNat).length (xs.take j.toNat)) ∧ (xs.take j.toNat).length ≤ j.toNat := by
  have hl : (xs.take j.toNat).length = j.toNat := by rw [List.length_take]; omega
  refine ⟨fun W => ?_, (print_take_of (P := P) enc d t e kl ht hi hsz A c xs j h0 hm hc).2.1, by rw [hl]; omega⟩
  have hel : P.elem t = e := by simp [Program.elem, ht]
  have hu : P.underlying t = some (.slice (P.elem t)) := by rw [hel]; exact ht
  have ha : (A.map fun x => x.add 0) = A := by cases A <;> simp [Addr.add]
  rw [run_slice_hm W t A xs.length c hu kl km j j h0 (Int.le_refl _) (by omega), hel, hl]
  simp [sizeOf, typeInfo, hi, hsz, sliced, Result.andThen, ha]
theorem cut3_mid (enc : α → Value) (d : α) (t e : TypeId) (kl kh km : IntKind) {i : TypeInfo} (ht : P.underlying t = some (.slice e)) (hi : P.info? e = some i) (hsz : i.size = 1) (A : Option Addr) (c : Nat) (xs : List α) (a b : Int) (h0 : 0 ≤ a) (h1 : a ≤ b) (hm : b ≤ xs.length) (hc : xs.length ≤ c) :
    ∃ A' : Option Addr, (∀ W : World, (Instr.slice t (.slice A xs.length c) (some (.int kl a)) (some (.int kh b)) (some (.int km b))).run P W = .ok (.slice A' ((xs.take b.toNat).drop a.toNat).length (b.toNat - a.toNat)) W) ∧
      (∀ w : World, ReadsOf enc d w A xs.length xs → ReadsOf enc d w A' ((xs.take b.toNat).drop a.toNat).length ((xs.take b.toNat).drop a.toNat)) ∧ ((xs.take b.toNat).drop a.toNat).length ≤ b.toNat - a.toNat := by
  have hlt : (xs.take b.toNat).length = b.toNat := by rw [List.length_take]; omega
  have hl : ((xs.take b.toNat).drop a.toNat).length = b.toNat - a.toNat := by rw [List.length_drop, hlt]
  have hT := (print_take_of (P := P) enc d t e kl ht hi hsz A c xs b (by omega) hm hc).2.1
  have hD := print_drop_of (P := P) enc d t e kl ht hi hsz A b.toNat (xs.take b.toNat) a h0 (by omega) (by omega)
  obtain ⟨A', hr, hC, _⟩ := hD
  refine ⟨A', fun W => ?_, fun w h => hC w (hT w h), by omega⟩
  have hel : P.elem t = e := by simp [Program.elem, ht]
  have hu : P.underlying t = some (.slice (P.elem t)) := by rw [hel]; exact ht
  have h2 := hr W
  rw [run_slice_l W t A (xs.take b.toNat).length b.toNat hu kl a h0 (by omega), hel] at h2
  rw [run_slice_lhm W t A xs.length c hu kl kh km a b b h0 h1 (Int.le_refl _) (by omega), hel, ← h2]
  simp [sizeOf, typeInfo, hi, hsz, sliced, Result.andThen, hlt]
end

-- the values' own types
def rd_L1 (xs : List (List Int)) (i : Int) : (List Int) := xs.getD i.toNat ([] : List Int)
theorem at_L1 {w : World} {A : Option Addr} {n : Nat} {xs : List (List Int)} (h : Kd.C (Kd.slice 5 (Kd.int .u8)) w A n xs) (i : Int) (h0 : 0 ≤ i) (h1 : i < n) : ∃ ad A0 c0, A = some ad ∧ w.cell? (ad.add i.toNat) = some (.slice A0 (rd_L1 xs i).length c0) ∧ (rd_L1 xs i).length ≤ c0 ∧ (Kd.int .u8).C w A0 (rd_L1 xs i).length (rd_L1 xs i) := by
  obtain ⟨ad, c, e, _, hK, hc0⟩ := Kd.C_get h ([] : List Int) i h0 h1
  have hc : ∀ j u, c[j]? = some u → w.cell? (ad.add (i.toNat * 1 + j)) = some u := hc0
  obtain ⟨A0, c0, rfl, l0, g0⟩ := hK
  exact ⟨ad, A0, c0, e, by have hq := hc 0 _ rfl; rwa [Nat.mul_one, Nat.add_zero] at hq, l0, g0⟩

/-! #### struct type 44 -/
structure S44 where
  f0 : Int
  f1 : ByteArray
  f2 : (List Int)
  f3 : Int
  f4 : Int
  f5 : Int
  f6 : Int
  f7 : Int
  f8 : Bool
  f9 : Bool
def z44 : S44 := ⟨(0 : Int), (⟨#[]⟩ : ByteArray), ([] : List Int), (0 : Int), (0 : Int), (0 : Int), (0 : Int), (0 : Int), false, false⟩
def k44 : Kd S44 := Kd.iso (Kd.pair (Kd.int .i64) (Kd.pair Kd.string (Kd.pair (Kd.slice 5 (Kd.int .u8)) (Kd.pair (Kd.int .u32) (Kd.pair (Kd.int .i64) (Kd.pair (Kd.int .u64) (Kd.pair (Kd.int .u64) (Kd.pair (Kd.int .u64) (Kd.pair Kd.bool Kd.bool))))))))) (fun x : S44 => (x.f0, x.f1, x.f2, x.f3, x.f4, x.f5, x.f6, x.f7, x.f8, x.f9))
theorem k44_open {w : World} {x : S44} {cs : List Value} (h : k44.K w x cs) : ∃ A2 c2, cs = [.int .i64 x.f0, .string x.f1, .slice A2 x.f2.length c2, .int .u32 x.f3, .int .i64 x.f4, .int .u64 x.f5, .int .u64 x.f6, .int .u64 x.f7, .bool x.f8, .bool x.f9] ∧ x.f2.length ≤ c2 ∧ (Kd.int .u8).C w A2 x.f2.length x.f2 := by
  obtain ⟨_, _, rfl, rfl, ⟨_, _, rfl, rfl, ⟨_, _, rfl, ⟨A2, c2, rfl, l2, g2⟩, ⟨_, _, rfl, rfl, ⟨_, _, rfl, rfl, ⟨_, _, rfl, rfl, ⟨_, _, rfl, rfl, ⟨_, _, rfl, rfl, ⟨_, _, rfl, rfl, rfl⟩⟩⟩⟩⟩⟩⟩⟩⟩ := h
  exact ⟨A2, c2, rfl, l2, g2⟩
theorem k44_openM {w : World} {base : Nat} {ok : Nat → Prop} {x : S44} {cs : List Value} (h : k44.M w base ok x cs) : ∃ v2, cs = [.int .i64 x.f0, .string x.f1, v2, .int .u32 x.f3, .int .i64 x.f4, .int .u64 x.f5, .int .u64 x.f6, .int .u64 x.f7, .bool x.f8, .bool x.f9] ∧ (Kd.int .u8).R 5 w base ok v2 x.f2 := by
  obtain ⟨_, _, rfl, rfl, ⟨_, _, rfl, rfl, ⟨_, _, rfl, ⟨v2, rfl, g2⟩, ⟨_, _, rfl, rfl, ⟨_, _, rfl, rfl, ⟨_, _, rfl, rfl, ⟨_, _, rfl, rfl, ⟨_, _, rfl, rfl, ⟨_, _, rfl, rfl, rfl⟩⟩⟩⟩⟩⟩⟩⟩⟩ := h
  exact ⟨v2, rfl, g2⟩
theorem k44_mk (w : World) (x : S44) {A2 : Option Addr} {c2 : Nat} (l2 : x.f2.length ≤ c2) (g2 : (Kd.int .u8).C w A2 x.f2.length x.f2) : k44.K w x [.int .i64 x.f0, .string x.f1, .slice A2 x.f2.length c2, .int .u32 x.f3, .int .i64 x.f4, .int .u64 x.f5, .int .u64 x.f6, .int .u64 x.f7, .bool x.f8, .bool x.f9] := ⟨[.int .i64 x.f0], [.string x.f1, .slice A2 x.f2.length c2, .int .u32 x.f3, .int .i64 x.f4, .int .u64 x.f5, .int .u64 x.f6, .int .u64 x.f7, .bool x.f8, .bool x.f9], rfl, rfl, ⟨[.string x.f1], [.slice A2 x.f2.length c2, .int .u32 x.f3, .int .i64 x.f4, .int .u64 x.f5, .int .u64 x.f6, .int .u64 x.f7, .bool x.f8, .bool x.f9], rfl, rfl, ⟨[.slice A2 x.f2.length c2], [.int .u32 x.f3, .int .i64 x.f4, .int .u64 x.f5, .int .u64 x.f6, .int .u64 x.f7, .bool x.f8, .bool x.f9], rfl, ⟨A2, c2, rfl, l2, g2⟩, ⟨[.int .u32 x.f3], [.int .i64 x.f4, .int .u64 x.f5, .int .u64 x.f6, .int .u64 x.f7, .bool x.f8, .bool x.f9], rfl, rfl, ⟨[.int .i64 x.f4], [.int .u64 x.f5, .int .u64 x.f6, .int .u64 x.f7, .bool x.f8, .bool x.f9], rfl, rfl, ⟨[.int .u64 x.f5], [.int .u64 x.f6, .int .u64 x.f7, .bool x.f8, .bool x.f9], rfl, rfl, ⟨[.int .u64 x.f6], [.int .u64 x.f7, .bool x.f8, .bool x.f9], rfl, rfl, ⟨[.int .u64 x.f7], [.bool x.f8, .bool x.f9], rfl, rfl, ⟨[.bool x.f8], [.bool x.f9], rfl, rfl, rfl⟩⟩⟩⟩⟩⟩⟩⟩⟩
theorem k44_mkM (w : World) (base : Nat) (ok : Nat → Prop) (x : S44) {v2 : Value} (g2 : (Kd.int .u8).R 5 w base ok v2 x.f2) : k44.M w base ok x [.int .i64 x.f0, .string x.f1, v2, .int .u32 x.f3, .int .i64 x.f4, .int .u64 x.f5, .int .u64 x.f6, .int .u64 x.f7, .bool x.f8, .bool x.f9] := ⟨[.int .i64 x.f0], [.string x.f1, v2, .int .u32 x.f3, .int .i64 x.f4, .int .u64 x.f5, .int .u64 x.f6, .int .u64 x.f7, .bool x.f8, .bool x.f9], rfl, rfl, ⟨[.string x.f1], [v2, .int .u32 x.f3, .int .i64 x.f4, .int .u64 x.f5, .int .u64 x.f6, .int .u64 x.f7, .bool x.f8, .bool x.f9], rfl, rfl, ⟨[v2], [.int .u32 x.f3, .int .i64 x.f4, .int .u64 x.f5, .int .u64 x.f6, .int .u64 x.f7, .bool x.f8, .bool x.f9], rfl, ⟨v2, rfl, g2⟩, ⟨[.int .u32 x.f3], [.int .i64 x.f4, .int .u64 x.f5, .int .u64 x.f6, .int .u64 x.f7, .bool x.f8, .bool x.f9], rfl, rfl, ⟨[.int .i64 x.f4], [.int .u64 x.f5, .int .u64 x.f6, .int .u64 x.f7, .bool x.f8, .bool x.f9], rfl, rfl, ⟨[.int .u64 x.f5], [.int .u64 x.f6, .int .u64 x.f7, .bool x.f8, .bool x.f9], rfl, rfl, ⟨[.int .u64 x.f6], [.int .u64 x.f7, .bool x.f8, .bool x.f9], rfl, rfl, ⟨[.int .u64 x.f7], [.bool x.f8, .bool x.f9], rfl, rfl, ⟨[.bool x.f8], [.bool x.f9], rfl, rfl, rfl⟩⟩⟩⟩⟩⟩⟩⟩⟩
def rd_T44 (xs : List S44) (i : Int) : S44 := xs.getD i.toNat z44
theorem at_T44 {w : World} {A : Option Addr} {n : Nat} {xs : List S44} (h : Kd.C k44 w A n xs) (i : Int) (h0 : 0 ≤ i) (h1 : i < n) : ∃ ad A2 c2, A = some ad ∧ w.cell? (ad.add (i.toNat * 10)) = some (.int .i64 (rd_T44 xs i).f0) ∧ w.cell? ⟨(ad.add (i.toNat * 10)).block, (ad.add (i.toNat * 10)).off + 1, none⟩ = some (.string (rd_T44 xs i).f1) ∧ w.cell? ⟨(ad.add (i.toNat * 10)).block, (ad.add (i.toNat * 10)).off + 2, none⟩ = some (.slice A2 (rd_T44 xs i).f2.length c2) ∧ w.cell? ⟨(ad.add (i.toNat * 10)).block, (ad.add (i.toNat * 10)).off + 3, none⟩ = some (.int .u32 (rd_T44 xs i).f3) ∧ w.cell? ⟨(ad.add (i.toNat * 10)).block, (ad.add (i.toNat * 10)).off + 4, none⟩ = some (.int .i64 (rd_T44 xs i).f4) ∧ w.cell? ⟨(ad.add (i.toNat * 10)).block, (ad.add (i.toNat * 10)).off + 5, none⟩ = some (.int .u64 (rd_T44 xs i).f5) ∧ w.cell? ⟨(ad.add (i.toNat * 10)).block, (ad.add (i.toNat * 10)).off + 6, none⟩ = some (.int .u64 (rd_T44 xs i).f6) ∧ w.cell? ⟨(ad.add (i.toNat * 10)).block, (ad.add (i.toNat * 10)).off + 7, none⟩ = some (.int .u64 (rd_T44 xs i).f7) ∧ w.cell? ⟨(ad.add (i.toNat * 10)).block, (ad.add (i.toNat * 10)).off + 8, none⟩ = some (.bool (rd_T44 xs i).f8) ∧ w.cell? ⟨(ad.add (i.toNat * 10)).block, (ad.add (i.toNat * 10)).off + 9, none⟩ = some (.bool (rd_T44 xs i).f9) ∧ (rd_T44 xs i).f2.length ≤ c2 ∧ (Kd.int .u8).C w A2 (rd_T44 xs i).f2.length (rd_T44 xs i).f2 := by
  obtain ⟨ad, c, e, _, hK, hc0⟩ := Kd.C_get h z44 i h0 h1
  have hc : ∀ j u, c[j]? = some u → w.cell? (ad.add (i.toNat * 10 + j)) = some u := hc0
  obtain ⟨A2, c2, rfl, l2, g2⟩ := k44_open hK
  exact ⟨ad, A2, c2, e, hc 0 _ rfl, by rw [← add_field _ _ 1 (by omega)]; exact hc 1 _ rfl, by rw [← add_field _ _ 2 (by omega)]; exact hc 2 _ rfl, by rw [← add_field _ _ 3 (by omega)]; exact hc 3 _ rfl, by rw [← add_field _ _ 4 (by omega)]; exact hc 4 _ rfl, by rw [← add_field _ _ 5 (by omega)]; exact hc 5 _ rfl, by rw [← add_field _ _ 6 (by omega)]; exact hc 6 _ rfl, by rw [← add_field _ _ 7 (by omega)]; exact hc 7 _ rfl, by rw [← add_field _ _ 8 (by omega)]; exact hc 8 _ rfl, by rw [← add_field _ _ 9 (by omega)]; exact hc 9 _ rfl, l2, g2⟩

def rd_L9 (xs : List (List S44)) (i : Int) : (List S44) := xs.getD i.toNat ([] : List S44)
theorem at_L9 {w : World} {A : Option Addr} {n : Nat} {xs : List (List S44)} (h : Kd.C (Kd.slice 44 k44) w A n xs) (i : Int) (h0 : 0 ≤ i) (h1 : i < n) : ∃ ad A0 c0, A = some ad ∧ w.cell? (ad.add i.toNat) = some (.slice A0 (rd_L9 xs i).length c0) ∧ (rd_L9 xs i).length ≤ c0 ∧ k44.C w A0 (rd_L9 xs i).length (rd_L9 xs i) := by
  obtain ⟨ad, c, e, _, hK, hc0⟩ := Kd.C_get h ([] : List S44) i h0 h1
  have hc : ∀ j u, c[j]? = some u → w.cell? (ad.add (i.toNat * 1 + j)) = some u := hc0
  obtain ⟨A0, c0, rfl, l0, g0⟩ := hK
  exact ⟨ad, A0, c0, e, by have hq := hc 0 _ rfl; rwa [Nat.mul_one, Nat.add_zero] at hq, l0, g0⟩

def rd_L10 (xs : List (List ByteArray)) (i : Int) : (List ByteArray) := xs.getD i.toNat ([] : List ByteArray)
theorem at_L10 {w : World} {A : Option Addr} {n : Nat} {xs : List (List ByteArray)} (h : Kd.C (Kd.slice 9 Kd.string) w A n xs) (i : Int) (h0 : 0 ≤ i) (h1 : i < n) : ∃ ad A0 c0, A = some ad ∧ w.cell? (ad.add i.toNat) = some (.slice A0 (rd_L10 xs i).length c0) ∧ (rd_L10 xs i).length ≤ c0 ∧ Kd.string.C w A0 (rd_L10 xs i).length (rd_L10 xs i) := by
  obtain ⟨ad, c, e, _, hK, hc0⟩ := Kd.C_get h ([] : List ByteArray) i h0 h1
  have hc : ∀ j u, c[j]? = some u → w.cell? (ad.add (i.toNat * 1 + j)) = some u := hc0
  obtain ⟨A0, c0, rfl, l0, g0⟩ := hK
  exact ⟨ad, A0, c0, e, by have hq := hc 0 _ rfl; rwa [Nat.mul_one, Nat.add_zero] at hq, l0, g0⟩

/-! #### struct type 37 -/
structure S37 where
  f0 : Int
  f1 : ByteArray
  f2 : Int
  f3 : Int
  f4 : Bool
  f5 : Bool
  f6 : ByteArray
  f7 : (List ByteArray)
  f8 : (List ByteArray)
  f9 : Bool
def z37 : S37 := ⟨(0 : Int), (⟨#[]⟩ : ByteArray), (0 : Int), (0 : Int), false, false, (⟨#[]⟩ : ByteArray), ([] : List ByteArray), ([] : List ByteArray), false⟩
def k37 : Kd S37 := Kd.iso (Kd.pair (Kd.int .i64) (Kd.pair Kd.string (Kd.pair (Kd.int .i64) (Kd.pair (Kd.int .u32) (Kd.pair Kd.bool (Kd.pair Kd.bool (Kd.pair Kd.string (Kd.pair (Kd.slice 9 Kd.string) (Kd.pair (Kd.slice 9 Kd.string) Kd.bool))))))))) (fun x : S37 => (x.f0, x.f1, x.f2, x.f3, x.f4, x.f5, x.f6, x.f7, x.f8, x.f9))
theorem k37_open {w : World} {x : S37} {cs : List Value} (h : k37.K w x cs) : ∃ A7 c7 A8 c8, cs = [.int .i64 x.f0, .string x.f1, .int .i64 x.f2, .int .u32 x.f3, .bool x.f4, .bool x.f5, .string x.f6, .slice A7 x.f7.length c7, .slice A8 x.f8.length c8, .bool x.f9] ∧ x.f7.length ≤ c7 ∧ Kd.string.C w A7 x.f7.length x.f7 ∧ x.f8.length ≤ c8 ∧ Kd.string.C w A8 x.f8.length x.f8 := by
  obtain ⟨_, _, rfl, rfl, ⟨_, _, rfl, rfl, ⟨_, _, rfl, rfl, ⟨_, _, rfl, rfl, ⟨_, _, rfl, rfl, ⟨_, _, rfl, rfl, ⟨_, _, rfl, rfl, ⟨_, _, rfl, ⟨A7, c7, rfl, l7, g7⟩, ⟨_, _, rfl, ⟨A8, c8, rfl, l8, g8⟩, rfl⟩⟩⟩⟩⟩⟩⟩⟩⟩ := h
  exact ⟨A7, c7, A8, c8, rfl, l7, g7, l8, g8⟩
theorem k37_openM {w : World} {base : Nat} {ok : Nat → Prop} {x : S37} {cs : List Value} (h : k37.M w base ok x cs) : ∃ v7 v8, cs = [.int .i64 x.f0, .string x.f1, .int .i64 x.f2, .int .u32 x.f3, .bool x.f4, .bool x.f5, .string x.f6, v7, v8, .bool x.f9] ∧ Kd.string.R 9 w base ok v7 x.f7 ∧ Kd.string.R 9 w base ok v8 x.f8 := by
  obtain ⟨_, _, rfl, rfl, ⟨_, _, rfl, rfl, ⟨_, _, rfl, rfl, ⟨_, _, rfl, rfl, ⟨_, _, rfl, rfl, ⟨_, _, rfl, rfl, ⟨_, _, rfl, rfl, ⟨_, _, rfl, ⟨v7, rfl, g7⟩, ⟨_, _, rfl, ⟨v8, rfl, g8⟩, rfl⟩⟩⟩⟩⟩⟩⟩⟩⟩ := h
  exact ⟨v7, v8, rfl, g7, g8⟩
theorem k37_mk (w : World) (x : S37) {A7 : Option Addr} {c7 : Nat} (l7 : x.f7.length ≤ c7) (g7 : Kd.string.C w A7 x.f7.length x.f7) {A8 : Option Addr} {c8 : Nat} (l8 : x.f8.length ≤ c8) (g8 : Kd.string.C w A8 x.f8.length x.f8) : k37.K w x [.int .i64 x.f0, .string x.f1, .int .i64 x.f2, .int .u32 x.f3, .bool x.f4, .bool x.f5, .string x.f6, .slice A7 x.f7.length c7, .slice A8 x.f8.length c8, .bool x.f9] := ⟨[.int .i64 x.f0], [.string x.f1, .int .i64 x.f2, .int .u32 x.f3, .bool x.f4, .bool x.f5, .string x.f6, .slice A7 x.f7.length c7, .slice A8 x.f8.length c8, .bool x.f9], rfl, rfl, ⟨[.string x.f1], [.int .i64 x.f2, .int .u32 x.f3, .bool x.f4, .bool x.f5, .string x.f6, .slice A7 x.f7.length c7, .slice A8 x.f8.length c8, .bool x.f9], rfl, rfl, ⟨[.int .i64 x.f2], [.int .u32 x.f3, .bool x.f4, .bool x.f5, .string x.f6, .slice A7 x.f7.length c7, .slice A8 x.f8.length c8, .bool x.f9], rfl, rfl, ⟨[.int .u32 x.f3], [.bool x.f4, .bool x.f5, .string x.f6, .slice A7 x.f7.length c7, .slice A8 x.f8.length c8, .bool x.f9], rfl, rfl, ⟨[.bool x.f4], [.bool x.f5, .string x.f6, .slice A7 x.f7.length c7, .slice A8 x.f8.length c8, .bool x.f9], rfl, rfl, ⟨[.bool x.f5], [.string x.f6, .slice A7 x.f7.length c7, .slice A8 x.f8.length c8, .bool x.f9], rfl, rfl, ⟨[.string x.f6], [.slice A7 x.f7.length c7, .slice A8 x.f8.length c8, .bool x.f9], rfl, rfl, ⟨[.slice A7 x.f7.length c7], [.slice A8 x.f8.length c8, .bool x.f9], rfl, ⟨A7, c7, rfl, l7, g7⟩, ⟨[.slice A8 x.f8.length c8], [.bool x.f9], rfl, ⟨A8, c8, rfl, l8, g8⟩, rfl⟩⟩⟩⟩⟩⟩⟩⟩⟩
theorem k37_mkM (w : World) (base : Nat) (ok : Nat → Prop) (x : S37) {v7 : Value} (g7 : Kd.string.R 9 w base ok v7 x.f7) {v8 : Value} (g8 : Kd.string.R 9 w base ok v8 x.f8) : k37.M w base ok x [.int .i64 x.f0, .string x.f1, .int .i64 x.f2, .int .u32 x.f3, .bool x.f4, .bool x.f5, .string x.f6, v7, v8, .bool x.f9] := ⟨[.int .i64 x.f0], [.string x.f1, .int .i64 x.f2, .int .u32 x.f3, .bool x.f4, .bool x.f5, .string x.f6, v7, v8, .bool x.f9], rfl, rfl, ⟨[.string x.f1], [.int .i64 x.f2, .int .u32 x.f3, .bool x.f4, .bool x.f5, .string x.f6, v7, v8, .bool x.f9], rfl, rfl, ⟨[.int .i64 x.f2], [.int .u32 x.f3, .bool x.f4, .bool x.f5, .string x.f6, v7, v8, .bool x.f9], rfl, rfl, ⟨[.int .u32 x.f3], [.bool x.f4, .bool x.f5, .string x.f6, v7, v8, .bool x.f9], rfl, rfl, ⟨[.bool x.f4], [.bool x.f5, .string x.f6, v7, v8, .bool x.f9], rfl, rfl, ⟨[.bool x.f5], [.string x.f6, v7, v8, .bool x.f9], rfl, rfl, ⟨[.string x.f6], [v7, v8, .bool x.f9], rfl, rfl, ⟨[v7], [v8, .bool x.f9], rfl, ⟨v7, rfl, g7⟩, ⟨[v8], [.bool x.f9], rfl, ⟨v8, rfl, g8⟩, rfl⟩⟩⟩⟩⟩⟩⟩⟩⟩
def rd_T37 (xs : List S37) (i : Int) : S37 := xs.getD i.toNat z37
theorem at_T37 {w : World} {A : Option Addr} {n : Nat} {xs : List S37} (h : Kd.C k37 w A n xs) (i : Int) (h0 : 0 ≤ i) (h1 : i < n) : ∃ ad A7 c7 A8 c8, A = some ad ∧ w.cell? (ad.add (i.toNat * 10)) = some (.int .i64 (rd_T37 xs i).f0) ∧ w.cell? ⟨(ad.add (i.toNat * 10)).block, (ad.add (i.toNat * 10)).off + 1, none⟩ = some (.string (rd_T37 xs i).f1) ∧ w.cell? ⟨(ad.add (i.toNat * 10)).block, (ad.add (i.toNat * 10)).off + 2, none⟩ = some (.int .i64 (rd_T37 xs i).f2) ∧ w.cell? ⟨(ad.add (i.toNat * 10)).block, (ad.add (i.toNat * 10)).off + 3, none⟩ = some (.int .u32 (rd_T37 xs i).f3) ∧ w.cell? ⟨(ad.add (i.toNat * 10)).block, (ad.add (i.toNat * 10)).off + 4, none⟩ = some (.bool (rd_T37 xs i).f4) ∧ w.cell? ⟨(ad.add (i.toNat * 10)).block, (ad.add (i.toNat * 10)).off + 5, none⟩ = some (.bool (rd_T37 xs i).f5) ∧ w.cell? ⟨(ad.add (i.toNat * 10)).block, (ad.add (i.toNat * 10)).off + 6, none⟩ = some (.string (rd_T37 xs i).f6) ∧ w.cell? ⟨(ad.add (i.toNat * 10)).block, (ad.add (i.toNat * 10)).off + 7, none⟩ = some (.slice A7 (rd_T37 xs i).f7.length c7) ∧ w.cell? ⟨(ad.add (i.toNat * 10)).block, (ad.add (i.toNat * 10)).off + 8, none⟩ = some (.slice A8 (rd_T37 xs i).f8.length c8) ∧ w.cell? ⟨(ad.add (i.toNat * 10)).block, (ad.add (i.toNat * 10)).off + 9, none⟩ = some (.bool (rd_T37 xs i).f9) ∧ (rd_T37 xs i).f7.length ≤ c7 ∧ Kd.string.C w A7 (rd_T37 xs i).f7.length (rd_T37 xs i).f7 ∧ (rd_T37 xs i).f8.length ≤ c8 ∧ Kd.string.C w A8 (rd_T37 xs i).f8.length (rd_T37 xs i).f8 := by
  obtain ⟨ad, c, e, _, hK, hc0⟩ := Kd.C_get h z37 i h0 h1
  have hc : ∀ j u, c[j]? = some u → w.cell? (ad.add (i.toNat * 10 + j)) = some u := hc0
  obtain ⟨A7, c7, A8, c8, rfl, l7, g7, l8, g8⟩ := k37_open hK
  exact ⟨ad, A7, c7, A8, c8, e, hc 0 _ rfl, by rw [← add_field _ _ 1 (by omega)]; exact hc 1 _ rfl, by rw [← add_field _ _ 2 (by omega)]; exact hc 2 _ rfl, by rw [← add_field _ _ 3 (by omega)]; exact hc 3 _ rfl, by rw [← add_field _ _ 4 (by omega)]; exact hc 4 _ rfl, by rw [← add_field _ _ 5 (by omega)]; exact hc 5 _ rfl, by rw [← add_field _ _ 6 (by omega)]; exact hc 6 _ rfl, by rw [← add_field _ _ 7 (by omega)]; exact hc 7 _ rfl, by rw [← add_field _ _ 8 (by omega)]; exact hc 8 _ rfl, by rw [← add_field _ _ 9 (by omega)]; exact hc 9 _ rfl, l7, g7, l8, g8⟩

/-! #### struct type 39 -/
structure S39 where
  f0 : (List S44)
  f1 : S37
def z39 : S39 := ⟨([] : List S44), z37⟩
def k39 : Kd S39 := Kd.iso (Kd.pair (Kd.slice 44 k44) k37) (fun x : S39 => (x.f0, x.f1))
theorem k39_open {w : World} {x : S39} {cs : List Value} (h : k39.K w x cs) : ∃ A0 c0 A8 c8 A9 c9, cs = [.slice A0 x.f0.length c0, .int .i64 x.f1.f0, .string x.f1.f1, .int .i64 x.f1.f2, .int .u32 x.f1.f3, .bool x.f1.f4, .bool x.f1.f5, .string x.f1.f6, .slice A8 x.f1.f7.length c8, .slice A9 x.f1.f8.length c9, .bool x.f1.f9] ∧ x.f0.length ≤ c0 ∧ k44.C w A0 x.f0.length x.f0 ∧ x.f1.f7.length ≤ c8 ∧ Kd.string.C w A8 x.f1.f7.length x.f1.f7 ∧ x.f1.f8.length ≤ c9 ∧ Kd.string.C w A9 x.f1.f8.length x.f1.f8 := by
  obtain ⟨_, _, rfl, ⟨A0, c0, rfl, l0, g0⟩, s1⟩ := h
  obtain ⟨A8, c8, A9, c9, rfl, l8, g8, l9, g9⟩ := k37_open s1
  exact ⟨A0, c0, A8, c8, A9, c9, rfl, l0, g0, l8, g8, l9, g9⟩
theorem k39_openM {w : World} {base : Nat} {ok : Nat → Prop} {x : S39} {cs : List Value} (h : k39.M w base ok x cs) : ∃ v0 v8 v9, cs = [v0, .int .i64 x.f1.f0, .string x.f1.f1, .int .i64 x.f1.f2, .int .u32 x.f1.f3, .bool x.f1.f4, .bool x.f1.f5, .string x.f1.f6, v8, v9, .bool x.f1.f9] ∧ k44.R 44 w base ok v0 x.f0 ∧ Kd.string.R 9 w base ok v8 x.f1.f7 ∧ Kd.string.R 9 w base ok v9 x.f1.f8 := by
  obtain ⟨_, _, rfl, ⟨v0, rfl, g0⟩, s1⟩ := h
  obtain ⟨v8, v9, rfl, g8, g9⟩ := k37_openM s1
  exact ⟨v0, v8, v9, rfl, g0, g8, g9⟩
theorem k39_mk (w : World) (x : S39) {A0 : Option Addr} {c0 : Nat} (l0 : x.f0.length ≤ c0) (g0 : k44.C w A0 x.f0.length x.f0) {A8 : Option Addr} {c8 : Nat} (l8 : x.f1.f7.length ≤ c8) (g8 : Kd.string.C w A8 x.f1.f7.length x.f1.f7) {A9 : Option Addr} {c9 : Nat} (l9 : x.f1.f8.length ≤ c9) (g9 : Kd.string.C w A9 x.f1.f8.length x.f1.f8) : k39.K w x [.slice A0 x.f0.length c0, .int .i64 x.f1.f0, .string x.f1.f1, .int .i64 x.f1.f2, .int .u32 x.f1.f3, .bool x.f1.f4, .bool x.f1.f5, .string x.f1.f6, .slice A8 x.f1.f7.length c8, .slice A9 x.f1.f8.length c9, .bool x.f1.f9] := ⟨[.slice A0 x.f0.length c0], [.int .i64 x.f1.f0, .string x.f1.f1, .int .i64 x.f1.f2, .int .u32 x.f1.f3, .bool x.f1.f4, .bool x.f1.f5, .string x.f1.f6, .slice A8 x.f1.f7.length c8, .slice A9 x.f1.f8.length c9, .bool x.f1.f9], rfl, ⟨A0, c0, rfl, l0, g0⟩, (k37_mk w x.f1 l8 g8 l9 g9)⟩
theorem k39_mkM (w : World) (base : Nat) (ok : Nat → Prop) (x : S39) {v0 : Value} (g0 : k44.R 44 w base ok v0 x.f0) {v8 : Value} (g8 : Kd.string.R 9 w base ok v8 x.f1.f7) {v9 : Value} (g9 : Kd.string.R 9 w base ok v9 x.f1.f8) : k39.M w base ok x [v0, .int .i64 x.f1.f0, .string x.f1.f1, .int .i64 x.f1.f2, .int .u32 x.f1.f3, .bool x.f1.f4, .bool x.f1.f5, .string x.f1.f6, v8, v9, .bool x.f1.f9] := ⟨[v0], [.int .i64 x.f1.f0, .string x.f1.f1, .int .i64 x.f1.f2, .int .u32 x.f1.f3, .bool x.f1.f4, .bool x.f1.f5, .string x.f1.f6, v8, v9, .bool x.f1.f9], rfl, ⟨v0, rfl, g0⟩, (k37_mkM w base ok x.f1 g8 g9)⟩
def rd_T39 (xs : List S39) (i : Int) : S39 := xs.getD i.toNat z39
theorem at_T39 {w : World} {A : Option Addr} {n : Nat} {xs : List S39} (h : Kd.C k39 w A n xs) (i : Int) (h0 : 0 ≤ i) (h1 : i < n) : ∃ ad A0 c0 A8 c8 A9 c9, A = some ad ∧ w.cell? (ad.add (i.toNat * 11)) = some (.slice A0 (rd_T39 xs i).f0.length c0) ∧ w.cell? ⟨(ad.add (i.toNat * 11)).block, (ad.add (i.toNat * 11)).off + 1, none⟩ = some (.int .i64 (rd_T39 xs i).f1.f0) ∧ w.cell? ⟨(ad.add (i.toNat * 11)).block, (ad.add (i.toNat * 11)).off + 2, none⟩ = some (.string (rd_T39 xs i).f1.f1) ∧ w.cell? ⟨(ad.add (i.toNat * 11)).block, (ad.add (i.toNat * 11)).off + 3, none⟩ = some (.int .i64 (rd_T39 xs i).f1.f2) ∧ w.cell? ⟨(ad.add (i.toNat * 11)).block, (ad.add (i.toNat * 11)).off + 4, none⟩ = some (.int .u32 (rd_T39 xs i).f1.f3) ∧ w.cell? ⟨(ad.add (i.toNat * 11)).block, (ad.add (i.toNat * 11)).off + 5, none⟩ = some (.bool (rd_T39 xs i).f1.f4) ∧ w.cell? ⟨(ad.add (i.toNat * 11)).block, (ad.add (i.toNat * 11)).off + 6, none⟩ = some (.bool (rd_T39 xs i).f1.f5) ∧ w.cell? ⟨(ad.add (i.toNat * 11)).block, (ad.add (i.toNat * 11)).off + 7, none⟩ = some (.string (rd_T39 xs i).f1.f6) ∧ w.cell? ⟨(ad.add (i.toNat * 11)).block, (ad.add (i.toNat * 11)).off + 8, none⟩ = some (.slice A8 (rd_T39 xs i).f1.f7.length c8) ∧ w.cell? ⟨(ad.add (i.toNat * 11)).block, (ad.add (i.toNat * 11)).off + 9, none⟩ = some (.slice A9 (rd_T39 xs i).f1.f8.length c9) ∧ w.cell? ⟨(ad.add (i.toNat * 11)).block, (ad.add (i.toNat * 11)).off + 10, none⟩ = some (.bool (rd_T39 xs i).f1.f9) ∧ (rd_T39 xs i).f0.length ≤ c0 ∧ k44.C w A0 (rd_T39 xs i).f0.length (rd_T39 xs i).f0 ∧ (rd_T39 xs i).f1.f7.length ≤ c8 ∧ Kd.string.C w A8 (rd_T39 xs i).f1.f7.length (rd_T39 xs i).f1.f7 ∧ (rd_T39 xs i).f1.f8.length ≤ c9 ∧ Kd.string.C w A9 (rd_T39 xs i).f1.f8.length (rd_T39 xs i).f1.f8 := by
  obtain ⟨ad, c, e, _, hK, hc0⟩ := Kd.C_get h z39 i h0 h1
  have hc : ∀ j u, c[j]? = some u → w.cell? (ad.add (i.toNat * 11 + j)) = some u := hc0
  obtain ⟨A0, c0, A8, c8, A9, c9, rfl, l0, g0, l8, g8, l9, g9⟩ := k39_open hK
  exact ⟨ad, A0, c0, A8, c8, A9, c9, e, hc 0 _ rfl, by rw [← add_field _ _ 1 (by omega)]; exact hc 1 _ rfl, by rw [← add_field _ _ 2 (by omega)]; exact hc 2 _ rfl, by rw [← add_field _ _ 3 (by omega)]; exact hc 3 _ rfl, by rw [← add_field _ _ 4 (by omega)]; exact hc 4 _ rfl, by rw [← add_field _ _ 5 (by omega)]; exact hc 5 _ rfl, by rw [← add_field _ _ 6 (by omega)]; exact hc 6 _ rfl, by rw [← add_field _ _ 7 (by omega)]; exact hc 7 _ rfl, by rw [← add_field _ _ 8 (by omega)]; exact hc 8 _ rfl, by rw [← add_field _ _ 9 (by omega)]; exact hc 9 _ rfl, by rw [← add_field _ _ 10 (by omega)]; exact hc 10 _ rfl, l0, g0, l8, g8, l9, g9⟩

/-! #### struct type 46 -/
structure S46 where
  f0 : Int
  f1 : (List Int)
  f2 : Int
  f3 : Int
  f4 : Int
  f5 : Int
  f6 : Bool
  f7 : Bool
  f8 : Bool
def z46 : S46 := ⟨(0 : Int), ([] : List Int), (0 : Int), (0 : Int), (0 : Int), (0 : Int), false, false, false⟩
def k46 : Kd S46 := Kd.iso (Kd.pair (Kd.int .i64) (Kd.pair (Kd.slice 5 (Kd.int .u8)) (Kd.pair (Kd.int .u32) (Kd.pair (Kd.int .u64) (Kd.pair (Kd.int .i64) (Kd.pair (Kd.int .u64) (Kd.pair Kd.bool (Kd.pair Kd.bool Kd.bool)))))))) (fun x : S46 => (x.f0, x.f1, x.f2, x.f3, x.f4, x.f5, x.f6, x.f7, x.f8))
theorem k46_open {w : World} {x : S46} {cs : List Value} (h : k46.K w x cs) : ∃ A1 c1, cs = [.int .i64 x.f0, .slice A1 x.f1.length c1, .int .u32 x.f2, .int .u64 x.f3, .int .i64 x.f4, .int .u64 x.f5, .bool x.f6, .bool x.f7, .bool x.f8] ∧ x.f1.length ≤ c1 ∧ (Kd.int .u8).C w A1 x.f1.length x.f1 := by
  obtain ⟨_, _, rfl, rfl, ⟨_, _, rfl, ⟨A1, c1, rfl, l1, g1⟩, ⟨_, _, rfl, rfl, ⟨_, _, rfl, rfl, ⟨_, _, rfl, rfl, ⟨_, _, rfl, rfl, ⟨_, _, rfl, rfl, ⟨_, _, rfl, rfl, rfl⟩⟩⟩⟩⟩⟩⟩⟩ := h
  exact ⟨A1, c1, rfl, l1, g1⟩
theorem k46_openM {w : World} {base : Nat} {ok : Nat → Prop} {x : S46} {cs : List Value} (h : k46.M w base ok x cs) : ∃ v1, cs = [.int .i64 x.f0, v1, .int .u32 x.f2, .int .u64 x.f3, .int .i64 x.f4, .int .u64 x.f5, .bool x.f6, .bool x.f7, .bool x.f8] ∧ (Kd.int .u8).R 5 w base ok v1 x.f1 := by
  obtain ⟨_, _, rfl, rfl, ⟨_, _, rfl, ⟨v1, rfl, g1⟩, ⟨_, _, rfl, rfl, ⟨_, _, rfl, rfl, ⟨_, _, rfl, rfl, ⟨_, _, rfl, rfl, ⟨_, _, rfl, rfl, ⟨_, _, rfl, rfl, rfl⟩⟩⟩⟩⟩⟩⟩⟩ := h
  exact ⟨v1, rfl, g1⟩
theorem k46_mk (w : World) (x : S46) {A1 : Option Addr} {c1 : Nat} (l1 : x.f1.length ≤ c1) (g1 : (Kd.int .u8).C w A1 x.f1.length x.f1) : k46.K w x [.int .i64 x.f0, .slice A1 x.f1.length c1, .int .u32 x.f2, .int .u64 x.f3, .int .i64 x.f4, .int .u64 x.f5, .bool x.f6, .bool x.f7, .bool x.f8] := ⟨[.int .i64 x.f0], [.slice A1 x.f1.length c1, .int .u32 x.f2, .int .u64 x.f3, .int .i64 x.f4, .int .u64 x.f5, .bool x.f6, .bool x.f7, .bool x.f8], rfl, rfl, ⟨[.slice A1 x.f1.length c1], [.int .u32 x.f2, .int .u64 x.f3, .int .i64 x.f4, .int .u64 x.f5, .bool x.f6, .bool x.f7, .bool x.f8], rfl, ⟨A1, c1, rfl, l1, g1⟩, ⟨[.int .u32 x.f2], [.int .u64 x.f3, .int .i64 x.f4, .int .u64 x.f5, .bool x.f6, .bool x.f7, .bool x.f8], rfl, rfl, ⟨[.int .u64 x.f3], [.int .i64 x.f4, .int .u64 x.f5, .bool x.f6, .bool x.f7, .bool x.f8], rfl, rfl, ⟨[.int .i64 x.f4], [.int .u64 x.f5, .bool x.f6, .bool x.f7, .bool x.f8], rfl, rfl, ⟨[.int .u64 x.f5], [.bool x.f6, .bool x.f7, .bool x.f8], rfl, rfl, ⟨[.bool x.f6], [.bool x.f7, .bool x.f8], rfl, rfl, ⟨[.bool x.f7], [.bool x.f8], rfl, rfl, rfl⟩⟩⟩⟩⟩⟩⟩⟩
theorem k46_mkM (w : World) (base : Nat) (ok : Nat → Prop) (x : S46) {v1 : Value} (g1 : (Kd.int .u8).R 5 w base ok v1 x.f1) : k46.M w base ok x [.int .i64 x.f0, v1, .int .u32 x.f2, .int .u64 x.f3, .int .i64 x.f4, .int .u64 x.f5, .bool x.f6, .bool x.f7, .bool x.f8] := ⟨[.int .i64 x.f0], [v1, .int .u32 x.f2, .int .u64 x.f3, .int .i64 x.f4, .int .u64 x.f5, .bool x.f6, .bool x.f7, .bool x.f8], rfl, rfl, ⟨[v1], [.int .u32 x.f2, .int .u64 x.f3, .int .i64 x.f4, .int .u64 x.f5, .bool x.f6, .bool x.f7, .bool x.f8], rfl, ⟨v1, rfl, g1⟩, ⟨[.int .u32 x.f2], [.int .u64 x.f3, .int .i64 x.f4, .int .u64 x.f5, .bool x.f6, .bool x.f7, .bool x.f8], rfl, rfl, ⟨[.int .u64 x.f3], [.int .i64 x.f4, .int .u64 x.f5, .bool x.f6, .bool x.f7, .bool x.f8], rfl, rfl, ⟨[.int .i64 x.f4], [.int .u64 x.f5, .bool x.f6, .bool x.f7, .bool x.f8], rfl, rfl, ⟨[.int .u64 x.f5], [.bool x.f6, .bool x.f7, .bool x.f8], rfl, rfl, ⟨[.bool x.f6], [.bool x.f7, .bool x.f8], rfl, rfl, ⟨[.bool x.f7], [.bool x.f8], rfl, rfl, rfl⟩⟩⟩⟩⟩⟩⟩⟩
def rd_T46 (xs : List S46) (i : Int) : S46 := xs.getD i.toNat z46
theorem at_T46 {w : World} {A : Option Addr} {n : Nat} {xs : List S46} (h : Kd.C k46 w A n xs) (i : Int) (h0 : 0 ≤ i) (h1 : i < n) : ∃ ad A1 c1, A = some ad ∧ w.cell? (ad.add (i.toNat * 9)) = some (.int .i64 (rd_T46 xs i).f0) ∧ w.cell? ⟨(ad.add (i.toNat * 9)).block, (ad.add (i.toNat * 9)).off + 1, none⟩ = some (.slice A1 (rd_T46 xs i).f1.length c1) ∧ w.cell? ⟨(ad.add (i.toNat * 9)).block, (ad.add (i.toNat * 9)).off + 2, none⟩ = some (.int .u32 (rd_T46 xs i).f2) ∧ w.cell? ⟨(ad.add (i.toNat * 9)).block, (ad.add (i.toNat * 9)).off + 3, none⟩ = some (.int .u64 (rd_T46 xs i).f3) ∧ w.cell? ⟨(ad.add (i.toNat * 9)).block, (ad.add (i.toNat * 9)).off + 4, none⟩ = some (.int .i64 (rd_T46 xs i).f4) ∧ w.cell? ⟨(ad.add (i.toNat * 9)).block, (ad.add (i.toNat * 9)).off + 5, none⟩ = some (.int .u64 (rd_T46 xs i).f5) ∧ w.cell? ⟨(ad.add (i.toNat * 9)).block, (ad.add (i.toNat * 9)).off + 6, none⟩ = some (.bool (rd_T46 xs i).f6) ∧ w.cell? ⟨(ad.add (i.toNat * 9)).block, (ad.add (i.toNat * 9)).off + 7, none⟩ = some (.bool (rd_T46 xs i).f7) ∧ w.cell? ⟨(ad.add (i.toNat * 9)).block, (ad.add (i.toNat * 9)).off + 8, none⟩ = some (.bool (rd_T46 xs i).f8) ∧ (rd_T46 xs i).f1.length ≤ c1 ∧ (Kd.int .u8).C w A1 (rd_T46 xs i).f1.length (rd_T46 xs i).f1 := by
  obtain ⟨ad, c, e, _, hK, hc0⟩ := Kd.C_get h z46 i h0 h1
  have hc : ∀ j u, c[j]? = some u → w.cell? (ad.add (i.toNat * 9 + j)) = some u := hc0
  obtain ⟨A1, c1, rfl, l1, g1⟩ := k46_open hK
  exact ⟨ad, A1, c1, e, hc 0 _ rfl, by rw [← add_field _ _ 1 (by omega)]; exact hc 1 _ rfl, by rw [← add_field _ _ 2 (by omega)]; exact hc 2 _ rfl, by rw [← add_field _ _ 3 (by omega)]; exact hc 3 _ rfl, by rw [← add_field _ _ 4 (by omega)]; exact hc 4 _ rfl, by rw [← add_field _ _ 5 (by omega)]; exact hc 5 _ rfl, by rw [← add_field _ _ 6 (by omega)]; exact hc 6 _ rfl, by rw [← add_field _ _ 7 (by omega)]; exact hc 7 _ rfl, by rw [← add_field _ _ 8 (by omega)]; exact hc 8 _ rfl, l1, g1⟩

def rd_L14 (xs : List (List (List Int))) (i : Int) : (List (List Int)) := xs.getD i.toNat ([] : List (List Int))
theorem at_L14 {w : World} {A : Option Addr} {n : Nat} {xs : List (List (List Int))} (h : Kd.C (Kd.slice 22 (Kd.slice 5 (Kd.int .u8))) w A n xs) (i : Int) (h0 : 0 ≤ i) (h1 : i < n) : ∃ ad A0 c0, A = some ad ∧ w.cell? (ad.add i.toNat) = some (.slice A0 (rd_L14 xs i).length c0) ∧ (rd_L14 xs i).length ≤ c0 ∧ (Kd.slice 5 (Kd.int .u8)).C w A0 (rd_L14 xs i).length (rd_L14 xs i) := by
  obtain ⟨ad, c, e, _, hK, hc0⟩ := Kd.C_get h ([] : List (List Int)) i h0 h1
  have hc : ∀ j u, c[j]? = some u → w.cell? (ad.add (i.toNat * 1 + j)) = some u := hc0
  obtain ⟨A0, c0, rfl, l0, g0⟩ := hK
  exact ⟨ad, A0, c0, e, by have hq := hc 0 _ rfl; rwa [Nat.mul_one, Nat.add_zero] at hq, l0, g0⟩

def rd_L15 (xs : List (List S46)) (i : Int) : (List S46) := xs.getD i.toNat ([] : List S46)
theorem at_L15 {w : World} {A : Option Addr} {n : Nat} {xs : List (List S46)} (h : Kd.C (Kd.slice 46 k46) w A n xs) (i : Int) (h0 : 0 ≤ i) (h1 : i < n) : ∃ ad A0 c0, A = some ad ∧ w.cell? (ad.add i.toNat) = some (.slice A0 (rd_L15 xs i).length c0) ∧ (rd_L15 xs i).length ≤ c0 ∧ k46.C w A0 (rd_L15 xs i).length (rd_L15 xs i) := by
  obtain ⟨ad, c, e, _, hK, hc0⟩ := Kd.C_get h ([] : List S46) i h0 h1
  have hc : ∀ j u, c[j]? = some u → w.cell? (ad.add (i.toNat * 1 + j)) = some u := hc0
  obtain ⟨A0, c0, rfl, l0, g0⟩ := hK
  exact ⟨ad, A0, c0, e, by have hq := hc 0 _ rfl; rwa [Nat.mul_one, Nat.add_zero] at hq, l0, g0⟩

/-! #### struct type 31 -/
structure S31 where
  f0 : Int
  f1 : Int
  f2 : Int
  f3 : Int
  f4 : (List Int)
  f5 : (List Int)
  f6 : (List Int)
  f7 : Int
def z31 : S31 := ⟨(0 : Int), (0 : Int), (0 : Int), (0 : Int), ([] : List Int), ([] : List Int), ([] : List Int), (0 : Int)⟩
def k31 : Kd S31 := Kd.iso (Kd.pair (Kd.int .i64) (Kd.pair (Kd.int .u16) (Kd.pair (Kd.int .u32) (Kd.pair (Kd.int .u64) (Kd.pair (Kd.slice 5 (Kd.int .u8)) (Kd.pair (Kd.slice 5 (Kd.int .u8)) (Kd.pair (Kd.slice 5 (Kd.int .u8)) (Kd.int .i64)))))))) (fun x : S31 => (x.f0, x.f1, x.f2, x.f3, x.f4, x.f5, x.f6, x.f7))
theorem k31_open {w : World} {x : S31} {cs : List Value} (h : k31.K w x cs) : ∃ A4 c4 A5 c5 A6 c6, cs = [.int .i64 x.f0, .int .u16 x.f1, .int .u32 x.f2, .int .u64 x.f3, .slice A4 x.f4.length c4, .slice A5 x.f5.length c5, .slice A6 x.f6.length c6, .int .i64 x.f7] ∧ x.f4.length ≤ c4 ∧ (Kd.int .u8).C w A4 x.f4.length x.f4 ∧ x.f5.length ≤ c5 ∧ (Kd.int .u8).C w A5 x.f5.length x.f5 ∧ x.f6.length ≤ c6 ∧ (Kd.int .u8).C w A6 x.f6.length x.f6 := by
  obtain ⟨_, _, rfl, rfl, ⟨_, _, rfl, rfl, ⟨_, _, rfl, rfl, ⟨_, _, rfl, rfl, ⟨_, _, rfl, ⟨A4, c4, rfl, l4, g4⟩, ⟨_, _, rfl, ⟨A5, c5, rfl, l5, g5⟩, ⟨_, _, rfl, ⟨A6, c6, rfl, l6, g6⟩, rfl⟩⟩⟩⟩⟩⟩⟩ := h
  exact ⟨A4, c4, A5, c5, A6, c6, rfl, l4, g4, l5, g5, l6, g6⟩
theorem k31_openM {w : World} {base : Nat} {ok : Nat → Prop} {x : S31} {cs : List Value} (h : k31.M w base ok x cs) : ∃ v4 v5 v6, cs = [.int .i64 x.f0, .int .u16 x.f1, .int .u32 x.f2, .int .u64 x.f3, v4, v5, v6, .int .i64 x.f7] ∧ (Kd.int .u8).R 5 w base ok v4 x.f4 ∧ (Kd.int .u8).R 5 w base ok v5 x.f5 ∧ (Kd.int .u8).R 5 w base ok v6 x.f6 := by
  obtain ⟨_, _, rfl, rfl, ⟨_, _, rfl, rfl, ⟨_, _, rfl, rfl, ⟨_, _, rfl, rfl, ⟨_, _, rfl, ⟨v4, rfl, g4⟩, ⟨_, _, rfl, ⟨v5, rfl, g5⟩, ⟨_, _, rfl, ⟨v6, rfl, g6⟩, rfl⟩⟩⟩⟩⟩⟩⟩ := h
  exact ⟨v4, v5, v6, rfl, g4, g5, g6⟩
theorem k31_mk (w : World) (x : S31) {A4 : Option Addr} {c4 : Nat} (l4 : x.f4.length ≤ c4) (g4 : (Kd.int .u8).C w A4 x.f4.length x.f4) {A5 : Option Addr} {c5 : Nat} (l5 : x.f5.length ≤ c5) (g5 : (Kd.int .u8).C w A5 x.f5.length x.f5) {A6 : Option Addr} {c6 : Nat} (l6 : x.f6.length ≤ c6) (g6 : (Kd.int .u8).C w A6 x.f6.length x.f6) : k31.K w x [.int .i64 x.f0, .int .u16 x.f1, .int .u32 x.f2, .int .u64 x.f3, .slice A4 x.f4.length c4, .slice A5 x.f5.length c5, .slice A6 x.f6.length c6, .int .i64 x.f7] := ⟨[.int .i64 x.f0], [.int .u16 x.f1, .int .u32 x.f2, .int .u64 x.f3, .slice A4 x.f4.length c4, .slice A5 x.f5.length c5, .slice A6 x.f6.length c6, .int .i64 x.f7], rfl, rfl, ⟨[.int .u16 x.f1], [.int .u32 x.f2, .int .u64 x.f3, .slice A4 x.f4.length c4, .slice A5 x.f5.length c5, .slice A6 x.f6.length c6, .int .i64 x.f7], rfl, rfl, ⟨[.int .u32 x.f2], [.int .u64 x.f3, .slice A4 x.f4.length c4, .slice A5 x.f5.length c5, .slice A6 x.f6.length c6, .int .i64 x.f7], rfl, rfl, ⟨[.int .u64 x.f3], [.slice A4 x.f4.length c4, .slice A5 x.f5.length c5, .slice A6 x.f6.length c6, .int .i64 x.f7], rfl, rfl, ⟨[.slice A4 x.f4.length c4], [.slice A5 x.f5.length c5, .slice A6 x.f6.length c6, .int .i64 x.f7], rfl, ⟨A4, c4, rfl, l4, g4⟩, ⟨[.slice A5 x.f5.length c5], [.slice A6 x.f6.length c6, .int .i64 x.f7], rfl, ⟨A5, c5, rfl, l5, g5⟩, ⟨[.slice A6 x.f6.length c6], [.int .i64 x.f7], rfl, ⟨A6, c6, rfl, l6, g6⟩, rfl⟩⟩⟩⟩⟩⟩⟩
theorem k31_mkM (w : World) (base : Nat) (ok : Nat → Prop) (x : S31) {v4 : Value} (g4 : (Kd.int .u8).R 5 w base ok v4 x.f4) {v5 : Value} (g5 : (Kd.int .u8).R 5 w base ok v5 x.f5) {v6 : Value} (g6 : (Kd.int .u8).R 5 w base ok v6 x.f6) : k31.M w base ok x [.int .i64 x.f0, .int .u16 x.f1, .int .u32 x.f2, .int .u64 x.f3, v4, v5, v6, .int .i64 x.f7] := ⟨[.int .i64 x.f0], [.int .u16 x.f1, .int .u32 x.f2, .int .u64 x.f3, v4, v5, v6, .int .i64 x.f7], rfl, rfl, ⟨[.int .u16 x.f1], [.int .u32 x.f2, .int .u64 x.f3, v4, v5, v6, .int .i64 x.f7], rfl, rfl, ⟨[.int .u32 x.f2], [.int .u64 x.f3, v4, v5, v6, .int .i64 x.f7], rfl, rfl, ⟨[.int .u64 x.f3], [v4, v5, v6, .int .i64 x.f7], rfl, rfl, ⟨[v4], [v5, v6, .int .i64 x.f7], rfl, ⟨v4, rfl, g4⟩, ⟨[v5], [v6, .int .i64 x.f7], rfl, ⟨v5, rfl, g5⟩, ⟨[v6], [.int .i64 x.f7], rfl, ⟨v6, rfl, g6⟩, rfl⟩⟩⟩⟩⟩⟩⟩
def rd_T31 (xs : List S31) (i : Int) : S31 := xs.getD i.toNat z31
theorem at_T31 {w : World} {A : Option Addr} {n : Nat} {xs : List S31} (h : Kd.C k31 w A n xs) (i : Int) (h0 : 0 ≤ i) (h1 : i < n) : ∃ ad A4 c4 A5 c5 A6 c6, A = some ad ∧ w.cell? (ad.add (i.toNat * 8)) = some (.int .i64 (rd_T31 xs i).f0) ∧ w.cell? ⟨(ad.add (i.toNat * 8)).block, (ad.add (i.toNat * 8)).off + 1, none⟩ = some (.int .u16 (rd_T31 xs i).f1) ∧ w.cell? ⟨(ad.add (i.toNat * 8)).block, (ad.add (i.toNat * 8)).off + 2, none⟩ = some (.int .u32 (rd_T31 xs i).f2) ∧ w.cell? ⟨(ad.add (i.toNat * 8)).block, (ad.add (i.toNat * 8)).off + 3, none⟩ = some (.int .u64 (rd_T31 xs i).f3) ∧ w.cell? ⟨(ad.add (i.toNat * 8)).block, (ad.add (i.toNat * 8)).off + 4, none⟩ = some (.slice A4 (rd_T31 xs i).f4.length c4) ∧ w.cell? ⟨(ad.add (i.toNat * 8)).block, (ad.add (i.toNat * 8)).off + 5, none⟩ = some (.slice A5 (rd_T31 xs i).f5.length c5) ∧ w.cell? ⟨(ad.add (i.toNat * 8)).block, (ad.add (i.toNat * 8)).off + 6, none⟩ = some (.slice A6 (rd_T31 xs i).f6.length c6) ∧ w.cell? ⟨(ad.add (i.toNat * 8)).block, (ad.add (i.toNat * 8)).off + 7, none⟩ = some (.int .i64 (rd_T31 xs i).f7) ∧ (rd_T31 xs i).f4.length ≤ c4 ∧ (Kd.int .u8).C w A4 (rd_T31 xs i).f4.length (rd_T31 xs i).f4 ∧ (rd_T31 xs i).f5.length ≤ c5 ∧ (Kd.int .u8).C w A5 (rd_T31 xs i).f5.length (rd_T31 xs i).f5 ∧ (rd_T31 xs i).f6.length ≤ c6 ∧ (Kd.int .u8).C w A6 (rd_T31 xs i).f6.length (rd_T31 xs i).f6 := by
  obtain ⟨ad, c, e, _, hK, hc0⟩ := Kd.C_get h z31 i h0 h1
  have hc : ∀ j u, c[j]? = some u → w.cell? (ad.add (i.toNat * 8 + j)) = some u := hc0
  obtain ⟨A4, c4, A5, c5, A6, c6, rfl, l4, g4, l5, g5, l6, g6⟩ := k31_open hK
  exact ⟨ad, A4, c4, A5, c5, A6, c6, e, hc 0 _ rfl, by rw [← add_field _ _ 1 (by omega)]; exact hc 1 _ rfl, by rw [← add_field _ _ 2 (by omega)]; exact hc 2 _ rfl, by rw [← add_field _ _ 3 (by omega)]; exact hc 3 _ rfl, by rw [← add_field _ _ 4 (by omega)]; exact hc 4 _ rfl, by rw [← add_field _ _ 5 (by omega)]; exact hc 5 _ rfl, by rw [← add_field _ _ 6 (by omega)]; exact hc 6 _ rfl, by rw [← add_field _ _ 7 (by omega)]; exact hc 7 _ rfl, l4, g4, l5, g5, l6, g6⟩


/-! ### what a reading of a type says, by kinds -/
section
variable {H : Type} (enc : TypeId × Value → H) (P : Program) (W : World) (base : Nat) (spare : Nat → Bool) (held : Bool)
def Tells {α : Type} (t : TypeId) (d : Kd α) (ok : α → Prop) : Prop := ∀ fuel cs x, DataW.trod enc P W base spare held fuel t cs = some x → ∃ y, d.K W y cs ∧ ok y
variable {enc P W base spare held}
theorem tells_int {t : TypeId} {k : IntKind} (ht : P.underlying t = some (.int k)) : Tells enc P W base spare held t (Kd.int k) (fun n => (Lit.int k n).wf = true) := by
  intro fuel cs x h
  obtain ⟨n, rfl, _, hn⟩ := DataW.trod_int ht h
  exact ⟨n, rfl, hn⟩
theorem tells_bool {t : TypeId} (ht : P.underlying t = some .bool) : Tells enc P W base spare held t Kd.bool (fun _ => True) := by
  intro fuel cs x h
  obtain ⟨b, rfl, _⟩ := DataW.trod_bool ht h
  exact ⟨b, rfl, trivial⟩
theorem tells_string {t : TypeId} (ht : P.underlying t = some .string) : Tells enc P W base spare held t Kd.string (fun s => s.size ≤ maxLen) := by
  intro fuel cs x h
  obtain ⟨s, rfl, _, hs⟩ := DataW.trod_string ht h
  exact ⟨s, rfl, hs⟩
theorem tells_slice {α : Type} {t e : TypeId} {d : Kd α} {ok : α → Prop} (ht : P.underlying t = some (.slice e)) (hC : P.cellsOf e = d.sz) (hd : Tells enc P W base spare held e d ok) :
    Tells enc P W base spare held t (Kd.slice e d) (fun l => l.length ≤ maxLen ∧ ∀ x ∈ l, ok x) := by
  intro fuel cs x h
  rcases Go.Deep.open_slice ht h with ⟨rfl, _⟩ | ⟨a, len, cap, m, n, D, Pl, rfl, _, hl, hm, hmm, _, hi⟩
  · exact ⟨[], ⟨none, 0, rfl, Nat.le_refl _, rfl, by simp, fun h => absurd h (by simp)⟩, by simp, by simp⟩
  · have hle : len ≤ m := by
      rw [hmm]
      split <;> omega
    have key : ∀ k, k ≤ len → ∃ ys : List α, ys.length = k ∧ (∀ y ∈ ys, ok y) ∧ ∀ j y, ys[j]? = some y → ∃ c, c.length = d.sz ∧ d.K W y c ∧ ∀ i u, c[i]? = some u → W.cell? (a.add (j * d.sz + i)) = some u := by
      intro k
      induction k with
      | zero => exact fun _ => ⟨[], rfl, by simp, fun j y hj => by simp at hj⟩
      | succ k ih =>
        intro hk
        obtain ⟨ys, hy, hok, hys⟩ := ih (by omega)
        obtain ⟨cs', hc, htr⟩ := hi k (by omega)
        obtain ⟨y, hK, hy2⟩ := hd _ _ _ htr
        obtain ⟨_, hcl, hat⟩ := World.cells?_some hc
        refine ⟨ys ++ [y], by simp [hy], ?_, fun j z hj => ?_⟩
        · intro z hz
          rcases List.mem_append.1 hz with hz | hz
          · exact hok z hz
          · rw [List.mem_singleton.1 hz]; exact hy2
        · rcases Nat.lt_or_ge j ys.length with hlt | hge
          · rw [List.getElem?_append_left hlt] at hj
            exact hys j z hj
          · have hj' : j = ys.length := by
              have := (List.getElem?_eq_some_iff.1 hj).1
              simp at this
              omega
            subst hj'
            obtain rfl : y = z := by simpa using hj
            refine ⟨cs', d.K_len hK, hK, fun i u hu => ?_⟩
            have hil : i < P.cellsOf e := by
              have := (List.getElem?_eq_some_iff.1 hu).1
              omega
            have := hat i hil
            rw [hy, ← Go.Deep.add_add, ← hC, this, hu]
    obtain ⟨ys, hy, hok, hys⟩ := key len (Nat.le_refl _)
    subst hy
    refine ⟨ys, ⟨some a, cap, rfl, hl, rfl, ?_, fun _ => ⟨a, rfl, hys⟩⟩, Nat.le_trans hl hm, hok⟩
    have : maxLen = 9223372036854775807 := rfl
    omega
theorem pair_at {α β : Type} {d : Kd α} {b : Kd β} {x : α} {y : β} {cs : List Value} {o s o2 : Nat} (h0 : d.K W x ((cs.drop o).take s)) (ho : o2 = o + s) (h1 : b.K W y (cs.drop o2)) : (Kd.pair d b).K W (x, y) (cs.drop o) :=
  ⟨_, _, (List.take_append_drop s _).symm, h0, by rw [List.drop_drop, ← ho]; exact h1⟩
theorem last_at {α : Type} {d : Kd α} {x : α} {cs : List Value} {o s : Nat} (h0 : d.K W x ((cs.drop o).take s)) (hl : cs.length = o + s) : d.K W x (cs.drop o) := by
  rwa [List.take_of_length_le (by rw [List.length_drop]; omega)] at h0
end

def ok44 (x : S44) : Prop := (fun n => (Lit.int .i64 n).wf = true) x.f0 ∧ (fun s => s.size ≤ maxLen) x.f1 ∧ (fun l => l.length ≤ maxLen ∧ ∀ x ∈ l, (fun n => (Lit.int .u8 n).wf = true) x) x.f2 ∧ (fun n => (Lit.int .u32 n).wf = true) x.f3 ∧ (fun n => (Lit.int .i64 n).wf = true) x.f4 ∧ (fun n => (Lit.int .u64 n).wf = true) x.f5 ∧ (fun n => (Lit.int .u64 n).wf = true) x.f6 ∧ (fun n => (Lit.int .u64 n).wf = true) x.f7 ∧ (fun _ => True) x.f8 ∧ (fun _ => True) x.f9
theorem tells44 {H : Type} {enc : TypeId × Value → H} {W : World} {base : Nat} {spare : Nat → Bool} {held : Bool} : Tells enc Try.prog W base spare held 44 k44 ok44 := by
  intro fuel cs x h
  obtain ⟨xs, n, _, _, hlen, hxl, hf⟩ := DataW.trod_struct Try.underlying44 h
  have hlen' : cs.length = 10 := hlen.trans (by kernel_rfl)
  have hxl' : xs.length = 10 := hxl
  have q0 := hf 0 _ rfl
  rw [List.getElem?_eq_getElem (show 0 < xs.length by omega)] at q0
  obtain ⟨y0, h0, o0⟩ := (tells_int Try.underlying3) _ _ _ q0
  have e0 : Try.prog.cellsOf 3 = 1 := by kernel_rfl
  have g0 : (Kd.int .i64).K W y0 ((cs.drop 0).take 1) := by rw [← e0]; exact h0
  have q1 := hf 1 _ rfl
  rw [List.getElem?_eq_getElem (show 1 < xs.length by omega)] at q1
  obtain ⟨y1, h1, o1⟩ := (tells_string Try.underlying9) _ _ _ q1
  have e1 : Try.prog.cellsOf 9 = 1 := by kernel_rfl
  have g1 : Kd.string.K W y1 ((cs.drop 1).take 1) := by rw [← e1]; exact h1
  have q2 := hf 2 _ rfl
  rw [List.getElem?_eq_getElem (show 2 < xs.length by omega)] at q2
  obtain ⟨y2, h2, o2⟩ := (tells_slice Try.underlying22 (by kernel_rfl) (tells_int Try.underlying5)) _ _ _ q2
  have e2 : Try.prog.cellsOf 22 = 1 := by kernel_rfl
  have g2 : (Kd.slice 5 (Kd.int .u8)).K W y2 ((cs.drop 2).take 1) := by rw [← e2]; exact h2
  have q3 := hf 3 _ rfl
  rw [List.getElem?_eq_getElem (show 3 < xs.length by omega)] at q3
  obtain ⟨y3, h3, o3⟩ := (tells_int Try.underlying25) _ _ _ q3
  have e3 : Try.prog.cellsOf 25 = 1 := by kernel_rfl
  have g3 : (Kd.int .u32).K W y3 ((cs.drop 3).take 1) := by rw [← e3]; exact h3
  have q4 := hf 4 _ rfl
  rw [List.getElem?_eq_getElem (show 4 < xs.length by omega)] at q4
  obtain ⟨y4, h4, o4⟩ := (tells_int Try.underlying3) _ _ _ q4
  have e4 : Try.prog.cellsOf 3 = 1 := by kernel_rfl
  have g4 : (Kd.int .i64).K W y4 ((cs.drop 4).take 1) := by rw [← e4]; exact h4
  have q5 := hf 5 _ rfl
  rw [List.getElem?_eq_getElem (show 5 < xs.length by omega)] at q5
  obtain ⟨y5, h5, o5⟩ := (tells_int Try.underlying26) _ _ _ q5
  have e5 : Try.prog.cellsOf 26 = 1 := by kernel_rfl
  have g5 : (Kd.int .u64).K W y5 ((cs.drop 5).take 1) := by rw [← e5]; exact h5
  have q6 := hf 6 _ rfl
  rw [List.getElem?_eq_getElem (show 6 < xs.length by omega)] at q6
  obtain ⟨y6, h6, o6⟩ := (tells_int Try.underlying26) _ _ _ q6
  have e6 : Try.prog.cellsOf 26 = 1 := by kernel_rfl
  have g6 : (Kd.int .u64).K W y6 ((cs.drop 6).take 1) := by rw [← e6]; exact h6
  have q7 := hf 7 _ rfl
  rw [List.getElem?_eq_getElem (show 7 < xs.length by omega)] at q7
  obtain ⟨y7, h7, o7⟩ := (tells_int Try.underlying26) _ _ _ q7
  have e7 : Try.prog.cellsOf 26 = 1 := by kernel_rfl
  have g7 : (Kd.int .u64).K W y7 ((cs.drop 7).take 1) := by rw [← e7]; exact h7
  have q8 := hf 8 _ rfl
  rw [List.getElem?_eq_getElem (show 8 < xs.length by omega)] at q8
  obtain ⟨y8, h8, o8⟩ := (tells_bool Try.underlying4) _ _ _ q8
  have e8 : Try.prog.cellsOf 4 = 1 := by kernel_rfl
  have g8 : Kd.bool.K W y8 ((cs.drop 8).take 1) := by rw [← e8]; exact h8
  have q9 := hf 9 _ rfl
  rw [List.getElem?_eq_getElem (show 9 < xs.length by omega)] at q9
  obtain ⟨y9, h9, o9⟩ := (tells_bool Try.underlying4) _ _ _ q9
  have e9 : Try.prog.cellsOf 4 = 1 := by kernel_rfl
  have g9 : Kd.bool.K W y9 ((cs.drop 9).take 1) := by rw [← e9]; exact h9
  have hk : k44.K W ⟨y0, y1, y2, y3, y4, y5, y6, y7, y8, y9⟩ cs := (pair_at g0 rfl (pair_at g1 rfl (pair_at g2 rfl (pair_at g3 rfl (pair_at g4 rfl (pair_at g5 rfl (pair_at g6 rfl (pair_at g7 rfl (pair_at g8 rfl (last_at g9 hlen'))))))))))
  exact ⟨_, hk, ⟨o0, o1, o2, o3, o4, o5, o6, o7, o8, o9⟩⟩
def ok37 (x : S37) : Prop := (fun n => (Lit.int .i64 n).wf = true) x.f0 ∧ (fun s => s.size ≤ maxLen) x.f1 ∧ (fun n => (Lit.int .i64 n).wf = true) x.f2 ∧ (fun n => (Lit.int .u32 n).wf = true) x.f3 ∧ (fun _ => True) x.f4 ∧ (fun _ => True) x.f5 ∧ (fun s => s.size ≤ maxLen) x.f6 ∧ (fun l => l.length ≤ maxLen ∧ ∀ x ∈ l, (fun s => s.size ≤ maxLen) x) x.f7 ∧ (fun l => l.length ≤ maxLen ∧ ∀ x ∈ l, (fun s => s.size ≤ maxLen) x) x.f8 ∧ (fun _ => True) x.f9
theorem tells37 {H : Type} {enc : TypeId × Value → H} {W : World} {base : Nat} {spare : Nat → Bool} {held : Bool} : Tells enc Try.prog W base spare held 37 k37 ok37 := by
  intro fuel cs x h
  obtain ⟨xs, n, _, _, hlen, hxl, hf⟩ := DataW.trod_struct Try.underlying37 h
  have hlen' : cs.length = 10 := hlen.trans (by kernel_rfl)
  have hxl' : xs.length = 10 := hxl
  have q0 := hf 0 _ rfl
  rw [List.getElem?_eq_getElem (show 0 < xs.length by omega)] at q0
  obtain ⟨y0, h0, o0⟩ := (tells_int Try.underlying3) _ _ _ q0
  have e0 : Try.prog.cellsOf 3 = 1 := by kernel_rfl
  have g0 : (Kd.int .i64).K W y0 ((cs.drop 0).take 1) := by rw [← e0]; exact h0
  have q1 := hf 1 _ rfl
  rw [List.getElem?_eq_getElem (show 1 < xs.length by omega)] at q1
  obtain ⟨y1, h1, o1⟩ := (tells_string Try.underlying9) _ _ _ q1
  have e1 : Try.prog.cellsOf 9 = 1 := by kernel_rfl
  have g1 : Kd.string.K W y1 ((cs.drop 1).take 1) := by rw [← e1]; exact h1
  have q2 := hf 2 _ rfl
  rw [List.getElem?_eq_getElem (show 2 < xs.length by omega)] at q2
  obtain ⟨y2, h2, o2⟩ := (tells_int Try.underlying3) _ _ _ q2
  have e2 : Try.prog.cellsOf 3 = 1 := by kernel_rfl
  have g2 : (Kd.int .i64).K W y2 ((cs.drop 2).take 1) := by rw [← e2]; exact h2
  have q3 := hf 3 _ rfl
  rw [List.getElem?_eq_getElem (show 3 < xs.length by omega)] at q3
  obtain ⟨y3, h3, o3⟩ := (tells_int Try.underlying25) _ _ _ q3
  have e3 : Try.prog.cellsOf 25 = 1 := by kernel_rfl
  have g3 : (Kd.int .u32).K W y3 ((cs.drop 3).take 1) := by rw [← e3]; exact h3
  have q4 := hf 4 _ rfl
  rw [List.getElem?_eq_getElem (show 4 < xs.length by omega)] at q4
  obtain ⟨y4, h4, o4⟩ := (tells_bool Try.underlying4) _ _ _ q4
  have e4 : Try.prog.cellsOf 4 = 1 := by kernel_rfl
  have g4 : Kd.bool.K W y4 ((cs.drop 4).take 1) := by rw [← e4]; exact h4
  have q5 := hf 5 _ rfl
  rw [List.getElem?_eq_getElem (show 5 < xs.length by omega)] at q5
  obtain ⟨y5, h5, o5⟩ := (tells_bool Try.underlying4) _ _ _ q5
  have e5 : Try.prog.cellsOf 4 = 1 := by kernel_rfl
  have g5 : Kd.bool.K W y5 ((cs.drop 5).take 1) := by rw [← e5]; exact h5
  have q6 := hf 6 _ rfl
  rw [List.getElem?_eq_getElem (show 6 < xs.length by omega)] at q6
  obtain ⟨y6, h6, o6⟩ := (tells_string Try.underlying9) _ _ _ q6
  have e6 : Try.prog.cellsOf 9 = 1 := by kernel_rfl
  have g6 : Kd.string.K W y6 ((cs.drop 6).take 1) := by rw [← e6]; exact h6
  have q7 := hf 7 _ rfl
  rw [List.getElem?_eq_getElem (show 7 < xs.length by omega)] at q7
  obtain ⟨y7, h7, o7⟩ := (tells_slice Try.underlying35 (by kernel_rfl) (tells_string Try.underlying9)) _ _ _ q7
  have e7 : Try.prog.cellsOf 35 = 1 := by kernel_rfl
  have g7 : (Kd.slice 9 Kd.string).K W y7 ((cs.drop 7).take 1) := by rw [← e7]; exact h7
  have q8 := hf 8 _ rfl
  rw [List.getElem?_eq_getElem (show 8 < xs.length by omega)] at q8
  obtain ⟨y8, h8, o8⟩ := (tells_slice Try.underlying35 (by kernel_rfl) (tells_string Try.underlying9)) _ _ _ q8
  have e8 : Try.prog.cellsOf 35 = 1 := by kernel_rfl
  have g8 : (Kd.slice 9 Kd.string).K W y8 ((cs.drop 8).take 1) := by rw [← e8]; exact h8
  have q9 := hf 9 _ rfl
  rw [List.getElem?_eq_getElem (show 9 < xs.length by omega)] at q9
  obtain ⟨y9, h9, o9⟩ := (tells_bool Try.underlying4) _ _ _ q9
  have e9 : Try.prog.cellsOf 4 = 1 := by kernel_rfl
  have g9 : Kd.bool.K W y9 ((cs.drop 9).take 1) := by rw [← e9]; exact h9
  have hk : k37.K W ⟨y0, y1, y2, y3, y4, y5, y6, y7, y8, y9⟩ cs := (pair_at g0 rfl (pair_at g1 rfl (pair_at g2 rfl (pair_at g3 rfl (pair_at g4 rfl (pair_at g5 rfl (pair_at g6 rfl (pair_at g7 rfl (pair_at g8 rfl (last_at g9 hlen'))))))))))
  exact ⟨_, hk, ⟨o0, o1, o2, o3, o4, o5, o6, o7, o8, o9⟩⟩
def ok39 (x : S39) : Prop := (fun l => l.length ≤ maxLen ∧ ∀ x ∈ l, ok44 x) x.f0 ∧ ok37 x.f1
theorem tells39 {H : Type} {enc : TypeId × Value → H} {W : World} {base : Nat} {spare : Nat → Bool} {held : Bool} : Tells enc Try.prog W base spare held 39 k39 ok39 := by
  intro fuel cs x h
  obtain ⟨xs, n, _, _, hlen, hxl, hf⟩ := DataW.trod_struct Try.underlying39 h
  have hlen' : cs.length = 11 := hlen.trans (by kernel_rfl)
  have hxl' : xs.length = 2 := hxl
  have q0 := hf 0 _ rfl
  rw [List.getElem?_eq_getElem (show 0 < xs.length by omega)] at q0
  obtain ⟨y0, h0, o0⟩ := (tells_slice Try.underlying34 (by kernel_rfl) tells44) _ _ _ q0
  have e0 : Try.prog.cellsOf 34 = 1 := by kernel_rfl
  have g0 : (Kd.slice 44 k44).K W y0 ((cs.drop 0).take 1) := by rw [← e0]; exact h0
  have q1 := hf 1 _ rfl
  rw [List.getElem?_eq_getElem (show 1 < xs.length by omega)] at q1
  obtain ⟨y1, h1, o1⟩ := tells37 _ _ _ q1
  have e1 : Try.prog.cellsOf 37 = 10 := by kernel_rfl
  have g1 : k37.K W y1 ((cs.drop 1).take 10) := by rw [← e1]; exact h1
  have hk : k39.K W ⟨y0, y1⟩ cs := (pair_at g0 rfl (last_at g1 hlen'))
  exact ⟨_, hk, ⟨o0, o1⟩⟩
def ok46 (x : S46) : Prop := (fun n => (Lit.int .i64 n).wf = true) x.f0 ∧ (fun l => l.length ≤ maxLen ∧ ∀ x ∈ l, (fun n => (Lit.int .u8 n).wf = true) x) x.f1 ∧ (fun n => (Lit.int .u32 n).wf = true) x.f2 ∧ (fun n => (Lit.int .u64 n).wf = true) x.f3 ∧ (fun n => (Lit.int .i64 n).wf = true) x.f4 ∧ (fun n => (Lit.int .u64 n).wf = true) x.f5 ∧ (fun _ => True) x.f6 ∧ (fun _ => True) x.f7 ∧ (fun _ => True) x.f8
theorem tells46 {H : Type} {enc : TypeId × Value → H} {W : World} {base : Nat} {spare : Nat → Bool} {held : Bool} : Tells enc Try.prog W base spare held 46 k46 ok46 := by
  intro fuel cs x h
  obtain ⟨xs, n, _, _, hlen, hxl, hf⟩ := DataW.trod_struct Try.underlying46 h
  have hlen' : cs.length = 9 := hlen.trans (by kernel_rfl)
  have hxl' : xs.length = 9 := hxl
  have q0 := hf 0 _ rfl
  rw [List.getElem?_eq_getElem (show 0 < xs.length by omega)] at q0
  obtain ⟨y0, h0, o0⟩ := (tells_int Try.underlying3) _ _ _ q0
  have e0 : Try.prog.cellsOf 3 = 1 := by kernel_rfl
  have g0 : (Kd.int .i64).K W y0 ((cs.drop 0).take 1) := by rw [← e0]; exact h0
  have q1 := hf 1 _ rfl
  rw [List.getElem?_eq_getElem (show 1 < xs.length by omega)] at q1
  obtain ⟨y1, h1, o1⟩ := (tells_slice Try.underlying22 (by kernel_rfl) (tells_int Try.underlying5)) _ _ _ q1
  have e1 : Try.prog.cellsOf 22 = 1 := by kernel_rfl
  have g1 : (Kd.slice 5 (Kd.int .u8)).K W y1 ((cs.drop 1).take 1) := by rw [← e1]; exact h1
  have q2 := hf 2 _ rfl
  rw [List.getElem?_eq_getElem (show 2 < xs.length by omega)] at q2
  obtain ⟨y2, h2, o2⟩ := (tells_int Try.underlying25) _ _ _ q2
  have e2 : Try.prog.cellsOf 25 = 1 := by kernel_rfl
  have g2 : (Kd.int .u32).K W y2 ((cs.drop 2).take 1) := by rw [← e2]; exact h2
  have q3 := hf 3 _ rfl
  rw [List.getElem?_eq_getElem (show 3 < xs.length by omega)] at q3
  obtain ⟨y3, h3, o3⟩ := (tells_int Try.underlying26) _ _ _ q3
  have e3 : Try.prog.cellsOf 26 = 1 := by kernel_rfl
  have g3 : (Kd.int .u64).K W y3 ((cs.drop 3).take 1) := by rw [← e3]; exact h3
  have q4 := hf 4 _ rfl
  rw [List.getElem?_eq_getElem (show 4 < xs.length by omega)] at q4
  obtain ⟨y4, h4, o4⟩ := (tells_int Try.underlying3) _ _ _ q4
  have e4 : Try.prog.cellsOf 3 = 1 := by kernel_rfl
  have g4 : (Kd.int .i64).K W y4 ((cs.drop 4).take 1) := by rw [← e4]; exact h4
  have q5 := hf 5 _ rfl
  rw [List.getElem?_eq_getElem (show 5 < xs.length by omega)] at q5
  obtain ⟨y5, h5, o5⟩ := (tells_int Try.underlying26) _ _ _ q5
  have e5 : Try.prog.cellsOf 26 = 1 := by kernel_rfl
  have g5 : (Kd.int .u64).K W y5 ((cs.drop 5).take 1) := by rw [← e5]; exact h5
  have q6 := hf 6 _ rfl
  rw [List.getElem?_eq_getElem (show 6 < xs.length by omega)] at q6
  obtain ⟨y6, h6, o6⟩ := (tells_bool Try.underlying4) _ _ _ q6
  have e6 : Try.prog.cellsOf 4 = 1 := by kernel_rfl
  have g6 : Kd.bool.K W y6 ((cs.drop 6).take 1) := by rw [← e6]; exact h6
  have q7 := hf 7 _ rfl
  rw [List.getElem?_eq_getElem (show 7 < xs.length by omega)] at q7
  obtain ⟨y7, h7, o7⟩ := (tells_bool Try.underlying4) _ _ _ q7
  have e7 : Try.prog.cellsOf 4 = 1 := by kernel_rfl
  have g7 : Kd.bool.K W y7 ((cs.drop 7).take 1) := by rw [← e7]; exact h7
  have q8 := hf 8 _ rfl
  rw [List.getElem?_eq_getElem (show 8 < xs.length by omega)] at q8
  obtain ⟨y8, h8, o8⟩ := (tells_bool Try.underlying4) _ _ _ q8
  have e8 : Try.prog.cellsOf 4 = 1 := by kernel_rfl
  have g8 : Kd.bool.K W y8 ((cs.drop 8).take 1) := by rw [← e8]; exact h8
  have hk : k46.K W ⟨y0, y1, y2, y3, y4, y5, y6, y7, y8⟩ cs := (pair_at g0 rfl (pair_at g1 rfl (pair_at g2 rfl (pair_at g3 rfl (pair_at g4 rfl (pair_at g5 rfl (pair_at g6 rfl (pair_at g7 rfl (last_at g8 hlen')))))))))
  exact ⟨_, hk, ⟨o0, o1, o2, o3, o4, o5, o6, o7, o8⟩⟩
end Go.Proofs.Ytpfjoeagblkonaa.Hb
