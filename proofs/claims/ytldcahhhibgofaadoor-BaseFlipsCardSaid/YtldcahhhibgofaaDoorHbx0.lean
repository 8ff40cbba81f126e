-- Written by this session's own program (wip/hprint.py) out of the translation, over hand-proved contracts. Lean checks it.
import Derived.Test.YtldcahhhibgofaaDoorProg
import Derived.Below
import Derived.Deep.Draws
import Derived.Deep.AppendLies
import Derived.Maps.AppendAt
import Derived.OwnWalk
import Derived.Laws.BytesArg
import Derived.Laws.MakeOwn
import Derived.Laws.OwnMore
import Derived.Deep.OwnRows
import Derived.Tactics
import Derived.Lib.ConvBytes
import Derived.Laws.Slices
import Derived.WalkKit
import Derived.KernelRfl
import Derived.RowKit3
import Derived.Deep.LoopGhost
import Derived.Deep.QuietTactic
import Derived.BigQuiet
import Derived.WideLaws
import Derived.Deep.DeepCutAuto
import Derived.Deep.CutBlock
import Derived.Deep.RegionHeld3
import Derived.Laws.Rows
import Derived.Lib.AppendStr
import Derived.ArgAppend
import Derived.Laws.IdiomCopy
import Derived.OrdersHeld
import Derived.Laws.BitsLemmas
import Derived.RowKit
import Derived.Deep.Slices
import Derived.Shelf.Strings.Builder1
import Derived.Shelf.Strings.Builder2
import Derived.Shelf.Strings.Search1
import Derived.Shelf.Small.Strs
import Derived.WalkSpells
import Derived.BigQuiet
import Derived.BigRegion
import Derived.Lib.SlBytesConst
import Derived.Lib.Bytes
import Derived.Laws.IdiomStrings
import Derived.Test.YtldcahhhibgofaaDoorWWords
import Derived.Test.YtldcahhhibgofaaDoorWLast
import Derived.Test.YtldcahhhibgofaaDoorWTab
import Derived.Test.YtldcahhhibgofaaDoorWFour
import Derived.Test.YtldcahhhibgofaaDoorWQPut
import Derived.Test.YtldcahhhibgofaaDoorWApart
import Derived.Test.YtldcahhhibgofaaDoorWArr
import Derived.Test.YtldcahhhibgofaaDoorWZeros
import Derived.Test.YtldcahhhibgofaaDoorWFoot
import Derived.Test.YtldcahhhibgofaaDoorWKept
import Derived.Test.YtldcahhhibgofaaDoorWShare
import Derived.Test.YtldcahhhibgofaaDoorWN
import Derived.Test.YtldcahhhibgofaaDoorWFootNe
import Derived.Test.YtldcahhhibgofaaDoorWAt
import Derived.Test.YtldcahhhibgofaaDoorWEqStruct
import Derived.Test.YtldcahhhibgofaaDoorWRepsOne
import Derived.Test.YtldcahhhibgofaaDoorWInv
import Derived.Test.YtldcahhhibgofaaDoorWInvWords
import Derived.Test.YtldcahhhibgofaaDoorWGuard
import Derived.Test.YtldcahhhibgofaaDoorWNEv
import Derived.Test.YtldcahhhibgofaaDoorWMore
namespace Go.Proofs.YtldcahhhibgofaaDoor.Hb
open Go.RowKit Go.Proofs.YtldcahhhibgofaaDoorW.PrintWords Go.Proofs.YtldcahhhibgofaaDoorW.PrintLast Go.Proofs.YtldcahhhibgofaaDoorW.PrintMore
attribute [local go_sem] max2_int min2_int max_two min_two max_three min_three max_four min_four   -- for this text's walks alone
set_option linter.unusedVariables false
set_option linter.unusedSimpArgs false



def errW : Option Int → Value
  | none => .nilIface
  | some c => .iface 0 (.int .i64 c)
theorem errW_none : errW none = .nilIface := rfl
theorem errW_some (c : Int) : errW (some c) = .iface 0 (.int .i64 c) := rfl

theorem info5 : (Tryd.prog.info? 5).map (fun i => (i.zero, i.size, i.bytes)) = some (some (.int .u8 0), 1, 1) := by kernel_rfl

section
variable {P : Program} {α : Type}
theorem cut3_take (enc : α → Value) (d : α) (t e : TypeId) (kl km : IntKind) {i : TypeInfo} (ht : P.underlying t = some (.slice e)) (hi : P.info? e = some i) (hsz : i.size = 1) (A : Option Addr) (c : Nat) (xs : List α) (j : Int) (h0 : 0 ≤ j) (hm : j ≤ xs.length) (hc : xs.length ≤ c) :
    (∀ W : World, (Instr.slice t (.slice A xs.length c) none (some (.int kl j)) (some (.int km j))).run P W = .ok (.slice A (xs.take j.toNat).length j.toNat) W) ∧
      (∀ w : World, ReadsOf enc d w A xs.length xs → ReadsOf enc d w A (xs.take j.toNat).length (xs.take j.toNat)) ∧ (xs.take j.toNat).length ≤ j.toNat := by
  have hl : (xs.take j.toNat).length = j.toNat := by rw [List.length_take]; omega
  refine ⟨fun W => ?_, (print_take_of (P := P) enc d t e kl ht hi hsz A c xs j h0 hm hc).2.1, by rw [hl]; omega⟩
  have hel : P.elem t = e := by simp [Program.elem, ht]
  have hu : P.underlying t = some (.slice (P.elem t)) := by rw [hel]; exact ht
  have ha : (A.map fun x => x.add 0) = A := by cases A <;> simp [Addr.add]
  rw [run_slice_hm W t A xs.length c hu kl km j j h0 (Int.le_refl _) (by omega), hel, hl]
  simp [sizeOf, typeInfo, hi, hsz, sliced, Result.andThen, ha]
theorem cut3_mid (enc : α → Value) (d : α) (t e : TypeId) (kl kh km : IntKind) {i : TypeInfo} (ht : P.underlying t = some (.slice e)) (hi : P.info? e = some i) (hsz : i.size = 1) (A : Option Addr) (c : Nat) (xs : List α) (a b : Int) (h0 : 0 ≤ a) (h1 : a ≤ b) (hm : b ≤ xs.length) (hc : xs.length ≤ c) :
    ∃ A' : Option Addr, (∀ W : World, (Instr.slice t (.slice A xs.length c) (some (.int kl a)) (some (.int kh b)) (some (.int km b))).run P W = .ok (.slice A' ((xs.take b.toNat).drop a.toNat).length (b.toNat - a.toNat)) W) ∧
      (∀ w : World, ReadsOf enc d w A xs.length xs → ReadsOf enc d w A' ((xs.take b.toNat).drop a.toNat).length ((xs.take b.toNat).drop a.toNat)) ∧ ((xs.take b.toNat).drop a.toNat).length ≤ b.toNat - a.toNat := by
  have hlt : (xs.take b.toNat).length = b.toNat := by rw [List.length_take]; omega
  have hl : ((xs.take b.toNat).drop a.toNat).length = b.toNat - a.toNat := by rw [List.length_drop, hlt]
  have hT := (print_take_of (P := P) enc d t e kl ht hi hsz A c xs b (by omega) hm hc).2.1
  have hD := print_drop_of (P := P) enc d t e kl ht hi hsz A b.toNat (xs.take b.toNat) a h0 (by omega) (by omega)
  obtain ⟨A', hr, hC, _⟩ := hD
  refine ⟨A', fun W => ?_, fun w h => hC w (hT w h), by omega⟩
  have hel : P.elem t = e := by simp [Program.elem, ht]
  have hu : P.underlying t = some (.slice (P.elem t)) := by rw [hel]; exact ht
  have h2 := hr W
  rw [run_slice_l W t A (xs.take b.toNat).length b.toNat hu kl a h0 (by omega), hel] at h2
  rw [run_slice_lhm W t A xs.length c hu kl kh km a b b h0 h1 (Int.le_refl _) (by omega), hel, ← h2]
  simp [sizeOf, typeInfo, hi, hsz, sliced, Result.andThen, hlt]
end

-- the values' own types
def rd_L1 (xs : List (List Int)) (i : Int) : (List Int) := xs.getD i.toNat ([] : List Int)
theorem at_L1 {w : World} {A : Option Addr} {n : Nat} {xs : List (List Int)} (h : Kd.C (Kd.slice 5 (Kd.int .u8)) w A n xs) (i : Int) (h0 : 0 ≤ i) (h1 : i < n) : ∃ ad A0 c0, A = some ad ∧ w.cell? (ad.add i.toNat) = some (.slice A0 (rd_L1 xs i).length c0) ∧ (rd_L1 xs i).length ≤ c0 ∧ (Kd.int .u8).C w A0 (rd_L1 xs i).length (rd_L1 xs i) := by
  obtain ⟨ad, c, e, _, hK, hc0⟩ := Kd.C_get h ([] : List Int) i h0 h1
  have hc : ∀ j u, c[j]? = some u → w.cell? (ad.add (i.toNat * 1 + j)) = some u := hc0
  obtain ⟨A0, c0, rfl, l0, g0⟩ := hK
  exact ⟨ad, A0, c0, e, by have hq := hc 0 _ rfl; rwa [Nat.mul_one, Nat.add_zero] at hq, l0, g0⟩

end Go.Proofs.YtldcahhhibgofaaDoor.Hb
