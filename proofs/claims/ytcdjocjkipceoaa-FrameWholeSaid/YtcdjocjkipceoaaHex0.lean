-- Written by this session's own program (wip/hprint.py) out of the translation, over hand-proved contracts. Lean checks it.
import Derived.Test.YtcdjocjkipceoaaProg
import Derived.Below
import Derived.Deep.Draws
import Derived.Deep.AppendLies
import Derived.Maps.AppendAt
import Derived.OwnWalk
import Derived.Laws.BytesArg
import Derived.Laws.MakeOwn
import Derived.Laws.OwnMore
import Derived.Deep.OwnRows
import Derived.Tactics
import Derived.Lib.ConvBytes
import Derived.Laws.Slices
import Derived.WalkKit
import Derived.KernelRfl
import Derived.RowKit3
import Derived.Deep.LoopGhost
import Derived.Deep.QuietTactic
import Derived.BigQuiet
import Derived.WideLaws
import Derived.Deep.DeepCutAuto
import Derived.Deep.CutBlock
import Derived.Deep.RegionHeld3
import Derived.Laws.Rows
import Derived.Lib.AppendStr
import Derived.ArgAppend
import Derived.Laws.IdiomCopy
import Derived.OrdersHeld
import Derived.Laws.BitsLemmas
import Derived.RowKit
import Derived.Deep.Slices
import Derived.Lib.BytesEntry
import Derived.Laws.Externs
import Derived.WalkSpells
import Derived.Lib.SlBytesConst
import Derived.Lib.SlBytesConst
import Derived.Lib.SlBytesConst
import Derived.ArgAppend
import Derived.Deep.Upon
import Derived.Laws.IdiomStrings
import Derived.Test.YtcdjocjkipceoaaWWords
import Derived.Test.YtcdjocjkipceoaaWLast
import Derived.Test.YtcdjocjkipceoaaWTab
import Derived.Test.YtcdjocjkipceoaaWFour
import Derived.Test.YtcdjocjkipceoaaWQPut
import Derived.Test.YtcdjocjkipceoaaWApart
import Derived.Test.YtcdjocjkipceoaaWArr
import Derived.Test.YtcdjocjkipceoaaWZeros
import Derived.Test.YtcdjocjkipceoaaWFoot
import Derived.Test.YtcdjocjkipceoaaWKept
import Derived.Test.YtcdjocjkipceoaaWShare
import Derived.Test.YtcdjocjkipceoaaWN
import Derived.Test.YtcdjocjkipceoaaWFootNe
import Derived.Test.YtcdjocjkipceoaaWAt
import Derived.Test.YtcdjocjkipceoaaWEqStruct
import Derived.Test.YtcdjocjkipceoaaWRepsOne
import Derived.Test.YtcdjocjkipceoaaWInv
import Derived.Test.YtcdjocjkipceoaaWInvWords
import Derived.Test.YtcdjocjkipceoaaWGuard
import Derived.Test.YtcdjocjkipceoaaWNEv
import Derived.Test.YtcdjocjkipceoaaWMore
namespace Go.Proofs.Ytcdjocjkipceoaa.He
open Go.RowKit Go.Proofs.YtcdjocjkipceoaaW.PrintWords Go.Proofs.YtcdjocjkipceoaaW.PrintLast Go.Proofs.YtcdjocjkipceoaaW.PrintMore
attribute [local go_sem] max2_int min2_int max_two min_two max_three min_three max_four min_four   -- for this text's walks alone
set_option linter.unusedVariables false
set_option linter.unusedSimpArgs false



def errW : Option Int → Value
  | none => .nilIface
  | some c => .iface 0 (.int .i64 c)
theorem errW_none : errW none = .nilIface := rfl
theorem errW_some (c : Int) : errW (some c) = .iface 0 (.int .i64 c) := rfl


section
variable {P : Program} {α : Type}
theorem cut3_take (enc : α → Value) (d : α) (t e : TypeId) (kl km : IntKind) {i : TypeInfo} (ht : P.underlying t = some (.slice e)) (hi : P.info? e = some i) (hsz : i.size = 1) (A : Option Addr) (c : Nat) (xs : List α) (j : Int) (h0 : 0 ≤ j) (hm : j ≤ xs.length) (hc : xs.length ≤ c) :
    (∀ W : World, (Instr.slice t (.slice A xs.length c) none (some (.int kl j)) (some (.int km j))).run P W = .ok (.slice A (xs.take j.toNat).length j.toNat) W) ∧
      (∀ w : World, ReadsOf enc d w A xs.length xs → ReadsOf enc d w A (xs.take j.toNat).length (xs.take j.toNat)) ∧ (xs.take j.toNat).length ≤ j.toNat := by
  have hl : (xs.take j.toNat).length = j.toNat := by rw [List.length_take]; omega
  refine ⟨fun W => ?_, (print_take_of (P := P) enc d t e kl ht hi hsz A c xs j h0 hm hc).2.1, by rw [hl]; omega⟩
  have hel : P.elem t = e := by simp [Program.elem, ht]
  have hu : P.underlying t = some (.slice (P.elem t)) := by rw [hel]; exact ht
  have ha : (A.map fun x => x.add 0) = A := by cases A <;> simp [Addr.add]
  rw [run_slice_hm W t A xs.length c hu kl km j j h0 (Int.le_refl _) (by omega), hel, hl]
  simp [sizeOf, typeInfo, hi, hsz, sliced, Result.andThen, ha]
theorem cut3_mid (enc : α → Value) (d : α) (t e : TypeId) (kl kh km : IntKind) {i : TypeInfo} (ht : P.underlying t = some (.slice e)) (hi : P.info? e = some i) (hsz : i.size = 1) (A : Option Addr) (c : Nat) (xs : List α) (a b : Int) (h0 : 0 ≤ a) (h1 : a ≤ b) (hm : b ≤ xs.length) (hc : xs.length ≤ c) :
    ∃ A' : Option Addr, (∀ W : World, (Instr.slice t (.slice A xs.length c) (some (.int kl a)) (some (.int kh b)) (some (.int km b))).run P W = .ok (.slice A' ((xs.take b.toNat).drop a.toNat).length (b.toNat - a.toNat)) W) ∧
      (∀ w : World, ReadsOf enc d w A xs.length xs → ReadsOf enc d w A' ((xs.take b.toNat).drop a.toNat).length ((xs.take b.toNat).drop a.toNat)) ∧ ((xs.take b.toNat).drop a.toNat).length ≤ b.toNat - a.toNat := by
  have hlt : (xs.take b.toNat).length = b.toNat := by rw [List.length_take]; omega
  have hl : ((xs.take b.toNat).drop a.toNat).length = b.toNat - a.toNat := by rw [List.length_drop, hlt]
  have hT := (print_take_of (P := P) enc d t e kl ht hi hsz A c xs b (by omega) hm hc).2.1
  have hD := print_drop_of (P := P) enc d t e kl ht hi hsz A b.toNat (xs.take b.toNat) a h0 (by omega) (by omega)
  obtain ⟨A', hr, hC, _⟩ := hD
  refine ⟨A', fun W => ?_, fun w h => hC w (hT w h), by omega⟩
  have hel : P.elem t = e := by simp [Program.elem, ht]
  have hu : P.underlying t = some (.slice (P.elem t)) := by rw [hel]; exact ht
  have h2 := hr W
  rw [run_slice_l W t A (xs.take b.toNat).length b.toNat hu kl a h0 (by omega), hel] at h2
  rw [run_slice_lhm W t A xs.length c hu kl kh km a b b h0 h1 (Int.le_refl _) (by omega), hel, ← h2]
  simp [sizeOf, typeInfo, hi, hsz, sliced, Result.andThen, hlt]
end

-- the values' own types
def rd_L1 (xs : List (List Int)) (i : Int) : (List Int) := xs.getD i.toNat ([] : List Int)
theorem at_L1 {w : World} {A : Option Addr} {n : Nat} {xs : List (List Int)} (h : Kd.C (Kd.slice 5 (Kd.int .u8)) w A n xs) (i : Int) (h0 : 0 ≤ i) (h1 : i < n) : ∃ ad A0 c0, A = some ad ∧ w.cell? (ad.add i.toNat) = some (.slice A0 (rd_L1 xs i).length c0) ∧ (rd_L1 xs i).length ≤ c0 ∧ (Kd.int .u8).C w A0 (rd_L1 xs i).length (rd_L1 xs i) := by
  obtain ⟨ad, c, e, _, hK, hc0⟩ := Kd.C_get h ([] : List Int) i h0 h1
  have hc : ∀ j u, c[j]? = some u → w.cell? (ad.add (i.toNat * 1 + j)) = some u := hc0
  obtain ⟨A0, c0, rfl, l0, g0⟩ := hK
  exact ⟨ad, A0, c0, e, by have hq := hc 0 _ rfl; rwa [Nat.mul_one, Nat.add_zero] at hq, l0, g0⟩

end Go.Proofs.Ytcdjocjkipceoaa.He
