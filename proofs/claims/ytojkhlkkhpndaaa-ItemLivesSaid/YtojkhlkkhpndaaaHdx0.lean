-- Written by this session's own program (wip/hprint.py) out of the translation, over hand-proved contracts. Lean checks it.
import Derived.Test.YtojkhlkkhpndaaaProg
import Derived.Below
import Derived.Deep.Draws
import Derived.Deep.AppendLies
import Derived.Maps.AppendAt
import Derived.OwnWalk
import Derived.Laws.BytesArg
import Derived.Laws.MakeOwn
import Derived.Laws.OwnMore
import Derived.Deep.OwnRows
import Derived.Tactics
import Derived.Lib.ConvBytes
import Derived.Laws.Slices
import Derived.WalkKit
import Derived.KernelRfl
import Derived.RowKit3
import Derived.Deep.LoopGhost
import Derived.Deep.QuietTactic
import Derived.BigQuiet
import Derived.WideLaws
import Derived.Deep.DeepCutAuto
import Derived.Deep.CutBlock
import Derived.Deep.RegionHeld3
import Derived.Laws.Rows
import Derived.Lib.AppendStr
import Derived.ArgAppend
import Derived.Laws.IdiomCopy
import Derived.OrdersHeld
import Derived.Laws.BitsLemmas
import Derived.RowKit
import Derived.Deep.Slices
import Derived.Test.YtojkhlkkhpndaaaWWords
import Derived.Test.YtojkhlkkhpndaaaWLast
import Derived.Test.YtojkhlkkhpndaaaWTab
import Derived.Test.YtojkhlkkhpndaaaWFour
import Derived.Test.YtojkhlkkhpndaaaWQPut
import Derived.Test.YtojkhlkkhpndaaaWApart
import Derived.Test.YtojkhlkkhpndaaaWArr
import Derived.Test.YtojkhlkkhpndaaaWZeros
import Derived.Test.YtojkhlkkhpndaaaWFoot
import Derived.Test.YtojkhlkkhpndaaaWKept
import Derived.Test.YtojkhlkkhpndaaaWShare
import Derived.Test.YtojkhlkkhpndaaaWN
import Derived.Test.YtojkhlkkhpndaaaWFootNe
import Derived.Test.YtojkhlkkhpndaaaWAt
import Derived.Test.YtojkhlkkhpndaaaWEqStruct
import Derived.Test.YtojkhlkkhpndaaaWRepsOne
import Derived.Test.YtojkhlkkhpndaaaWInv
import Derived.Test.YtojkhlkkhpndaaaWInvWords
import Derived.Test.YtojkhlkkhpndaaaWGuard
import Derived.Test.YtojkhlkkhpndaaaWNEv
import Derived.Test.YtojkhlkkhpndaaaWMore
namespace Go.Proofs.Ytojkhlkkhpndaaa.Hd
open Go.RowKit Go.Proofs.YtojkhlkkhpndaaaW.PrintWords Go.Proofs.YtojkhlkkhpndaaaW.PrintLast Go.Proofs.YtojkhlkkhpndaaaW.PrintMore
attribute [local go_sem] max2_int min2_int max_two min_two max_three min_three max_four min_four   -- for this text's walks alone
set_option linter.unusedVariables false
set_option linter.unusedSimpArgs false



def errW : Option Int → Value
  | none => .nilIface
  | some c => .iface 0 (.int .i64 c)
theorem errW_none : errW none = .nilIface := rfl
theorem errW_some (c : Int) : errW (some c) = .iface 0 (.int .i64 c) := rfl

theorem info5 : (Try.prog.info? 5).map (fun i => (i.zero, i.size, i.bytes)) = some (some (.int .u8 0), 1, 1) := by kernel_rfl
-- the values' own types
def rd_L2 (xs : List (List Int)) (i : Int) : (List Int) := xs.getD i.toNat ([] : List Int)
theorem at_L2 {w : World} {A : Option Addr} {n : Nat} {xs : List (List Int)} (h : Kd.C (Kd.slice 5 (Kd.int .u8)) w A n xs) (i : Int) (h0 : 0 ≤ i) (h1 : i < n) : ∃ ad A0 c0, A = some ad ∧ w.cell? (ad.add i.toNat) = some (.slice A0 (rd_L2 xs i).length c0) ∧ (rd_L2 xs i).length ≤ c0 ∧ (Kd.int .u8).C w A0 (rd_L2 xs i).length (rd_L2 xs i) := by
  obtain ⟨ad, c, e, _, hK, hc0⟩ := Kd.C_get h ([] : List Int) i h0 h1
  have hc : ∀ j u, c[j]? = some u → w.cell? (ad.add (i.toNat * 1 + j)) = some u := hc0
  obtain ⟨A0, c0, rfl, l0, g0⟩ := hK
  exact ⟨ad, A0, c0, e, by have hq := hc 0 _ rfl; rwa [Nat.mul_one, Nat.add_zero] at hq, l0, g0⟩

/-! #### struct type 26 -/
structure S26 where
  f0 : ByteArray
  f1 : (List Int)
  f2 : Int
  f3 : Int
  f4 : Int
  f5 : Int
  f6 : Int
  f7 : Bool
  f8 : Bool
  f9 : Bool
def z26 : S26 := ⟨(⟨#[]⟩ : ByteArray), ([] : List Int), (0 : Int), (0 : Int), (0 : Int), (0 : Int), (0 : Int), false, false, false⟩
def k26 : Kd S26 := Kd.iso (Kd.pair Kd.string (Kd.pair (Kd.slice 5 (Kd.int .u8)) (Kd.pair (Kd.int .u32) (Kd.pair (Kd.int .i64) (Kd.pair (Kd.int .u64) (Kd.pair (Kd.int .i64) (Kd.pair (Kd.int .u64) (Kd.pair Kd.bool (Kd.pair Kd.bool Kd.bool))))))))) (fun x : S26 => (x.f0, x.f1, x.f2, x.f3, x.f4, x.f5, x.f6, x.f7, x.f8, x.f9))
theorem k26_open {w : World} {x : S26} {cs : List Value} (h : k26.K w x cs) : ∃ A1 c1, cs = [.string x.f0, .slice A1 x.f1.length c1, .int .u32 x.f2, .int .i64 x.f3, .int .u64 x.f4, .int .i64 x.f5, .int .u64 x.f6, .bool x.f7, .bool x.f8, .bool x.f9] ∧ x.f1.length ≤ c1 ∧ (Kd.int .u8).C w A1 x.f1.length x.f1 := by
  obtain ⟨_, _, rfl, rfl, ⟨_, _, rfl, ⟨A1, c1, rfl, l1, g1⟩, ⟨_, _, rfl, rfl, ⟨_, _, rfl, rfl, ⟨_, _, rfl, rfl, ⟨_, _, rfl, rfl, ⟨_, _, rfl, rfl, ⟨_, _, rfl, rfl, ⟨_, _, rfl, rfl, rfl⟩⟩⟩⟩⟩⟩⟩⟩⟩ := h
  exact ⟨A1, c1, rfl, l1, g1⟩
theorem k26_openM {w : World} {base : Nat} {ok : Nat → Prop} {x : S26} {cs : List Value} (h : k26.M w base ok x cs) : ∃ v1, cs = [.string x.f0, v1, .int .u32 x.f2, .int .i64 x.f3, .int .u64 x.f4, .int .i64 x.f5, .int .u64 x.f6, .bool x.f7, .bool x.f8, .bool x.f9] ∧ (Kd.int .u8).R 5 w base ok v1 x.f1 := by
  obtain ⟨_, _, rfl, rfl, ⟨_, _, rfl, ⟨v1, rfl, g1⟩, ⟨_, _, rfl, rfl, ⟨_, _, rfl, rfl, ⟨_, _, rfl, rfl, ⟨_, _, rfl, rfl, ⟨_, _, rfl, rfl, ⟨_, _, rfl, rfl, ⟨_, _, rfl, rfl, rfl⟩⟩⟩⟩⟩⟩⟩⟩⟩ := h
  exact ⟨v1, rfl, g1⟩
theorem k26_mk (w : World) (x : S26) {A1 : Option Addr} {c1 : Nat} (l1 : x.f1.length ≤ c1) (g1 : (Kd.int .u8).C w A1 x.f1.length x.f1) : k26.K w x [.string x.f0, .slice A1 x.f1.length c1, .int .u32 x.f2, .int .i64 x.f3, .int .u64 x.f4, .int .i64 x.f5, .int .u64 x.f6, .bool x.f7, .bool x.f8, .bool x.f9] := ⟨[.string x.f0], [.slice A1 x.f1.length c1, .int .u32 x.f2, .int .i64 x.f3, .int .u64 x.f4, .int .i64 x.f5, .int .u64 x.f6, .bool x.f7, .bool x.f8, .bool x.f9], rfl, rfl, ⟨[.slice A1 x.f1.length c1], [.int .u32 x.f2, .int .i64 x.f3, .int .u64 x.f4, .int .i64 x.f5, .int .u64 x.f6, .bool x.f7, .bool x.f8, .bool x.f9], rfl, ⟨A1, c1, rfl, l1, g1⟩, ⟨[.int .u32 x.f2], [.int .i64 x.f3, .int .u64 x.f4, .int .i64 x.f5, .int .u64 x.f6, .bool x.f7, .bool x.f8, .bool x.f9], rfl, rfl, ⟨[.int .i64 x.f3], [.int .u64 x.f4, .int .i64 x.f5, .int .u64 x.f6, .bool x.f7, .bool x.f8, .bool x.f9], rfl, rfl, ⟨[.int .u64 x.f4], [.int .i64 x.f5, .int .u64 x.f6, .bool x.f7, .bool x.f8, .bool x.f9], rfl, rfl, ⟨[.int .i64 x.f5], [.int .u64 x.f6, .bool x.f7, .bool x.f8, .bool x.f9], rfl, rfl, ⟨[.int .u64 x.f6], [.bool x.f7, .bool x.f8, .bool x.f9], rfl, rfl, ⟨[.bool x.f7], [.bool x.f8, .bool x.f9], rfl, rfl, ⟨[.bool x.f8], [.bool x.f9], rfl, rfl, rfl⟩⟩⟩⟩⟩⟩⟩⟩⟩
theorem k26_mkM (w : World) (base : Nat) (ok : Nat → Prop) (x : S26) {v1 : Value} (g1 : (Kd.int .u8).R 5 w base ok v1 x.f1) : k26.M w base ok x [.string x.f0, v1, .int .u32 x.f2, .int .i64 x.f3, .int .u64 x.f4, .int .i64 x.f5, .int .u64 x.f6, .bool x.f7, .bool x.f8, .bool x.f9] := ⟨[.string x.f0], [v1, .int .u32 x.f2, .int .i64 x.f3, .int .u64 x.f4, .int .i64 x.f5, .int .u64 x.f6, .bool x.f7, .bool x.f8, .bool x.f9], rfl, rfl, ⟨[v1], [.int .u32 x.f2, .int .i64 x.f3, .int .u64 x.f4, .int .i64 x.f5, .int .u64 x.f6, .bool x.f7, .bool x.f8, .bool x.f9], rfl, ⟨v1, rfl, g1⟩, ⟨[.int .u32 x.f2], [.int .i64 x.f3, .int .u64 x.f4, .int .i64 x.f5, .int .u64 x.f6, .bool x.f7, .bool x.f8, .bool x.f9], rfl, rfl, ⟨[.int .i64 x.f3], [.int .u64 x.f4, .int .i64 x.f5, .int .u64 x.f6, .bool x.f7, .bool x.f8, .bool x.f9], rfl, rfl, ⟨[.int .u64 x.f4], [.int .i64 x.f5, .int .u64 x.f6, .bool x.f7, .bool x.f8, .bool x.f9], rfl, rfl, ⟨[.int .i64 x.f5], [.int .u64 x.f6, .bool x.f7, .bool x.f8, .bool x.f9], rfl, rfl, ⟨[.int .u64 x.f6], [.bool x.f7, .bool x.f8, .bool x.f9], rfl, rfl, ⟨[.bool x.f7], [.bool x.f8, .bool x.f9], rfl, rfl, ⟨[.bool x.f8], [.bool x.f9], rfl, rfl, rfl⟩⟩⟩⟩⟩⟩⟩⟩⟩
def rd_T26 (xs : List S26) (i : Int) : S26 := xs.getD i.toNat z26
theorem at_T26 {w : World} {A : Option Addr} {n : Nat} {xs : List S26} (h : Kd.C k26 w A n xs) (i : Int) (h0 : 0 ≤ i) (h1 : i < n) : ∃ ad A1 c1, A = some ad ∧ w.cell? (ad.add (i.toNat * 10)) = some (.string (rd_T26 xs i).f0) ∧ w.cell? ⟨(ad.add (i.toNat * 10)).block, (ad.add (i.toNat * 10)).off + 1, none⟩ = some (.slice A1 (rd_T26 xs i).f1.length c1) ∧ w.cell? ⟨(ad.add (i.toNat * 10)).block, (ad.add (i.toNat * 10)).off + 2, none⟩ = some (.int .u32 (rd_T26 xs i).f2) ∧ w.cell? ⟨(ad.add (i.toNat * 10)).block, (ad.add (i.toNat * 10)).off + 3, none⟩ = some (.int .i64 (rd_T26 xs i).f3) ∧ w.cell? ⟨(ad.add (i.toNat * 10)).block, (ad.add (i.toNat * 10)).off + 4, none⟩ = some (.int .u64 (rd_T26 xs i).f4) ∧ w.cell? ⟨(ad.add (i.toNat * 10)).block, (ad.add (i.toNat * 10)).off + 5, none⟩ = some (.int .i64 (rd_T26 xs i).f5) ∧ w.cell? ⟨(ad.add (i.toNat * 10)).block, (ad.add (i.toNat * 10)).off + 6, none⟩ = some (.int .u64 (rd_T26 xs i).f6) ∧ w.cell? ⟨(ad.add (i.toNat * 10)).block, (ad.add (i.toNat * 10)).off + 7, none⟩ = some (.bool (rd_T26 xs i).f7) ∧ w.cell? ⟨(ad.add (i.toNat * 10)).block, (ad.add (i.toNat * 10)).off + 8, none⟩ = some (.bool (rd_T26 xs i).f8) ∧ w.cell? ⟨(ad.add (i.toNat * 10)).block, (ad.add (i.toNat * 10)).off + 9, none⟩ = some (.bool (rd_T26 xs i).f9) ∧ (rd_T26 xs i).f1.length ≤ c1 ∧ (Kd.int .u8).C w A1 (rd_T26 xs i).f1.length (rd_T26 xs i).f1 := by
  obtain ⟨ad, c, e, _, hK, hc0⟩ := Kd.C_get h z26 i h0 h1
  have hc : ∀ j u, c[j]? = some u → w.cell? (ad.add (i.toNat * 10 + j)) = some u := hc0
  obtain ⟨A1, c1, rfl, l1, g1⟩ := k26_open hK
  exact ⟨ad, A1, c1, e, hc 0 _ rfl, by rw [← add_field _ _ 1 (by omega)]; exact hc 1 _ rfl, by rw [← add_field _ _ 2 (by omega)]; exact hc 2 _ rfl, by rw [← add_field _ _ 3 (by omega)]; exact hc 3 _ rfl, by rw [← add_field _ _ 4 (by omega)]; exact hc 4 _ rfl, by rw [← add_field _ _ 5 (by omega)]; exact hc 5 _ rfl, by rw [← add_field _ _ 6 (by omega)]; exact hc 6 _ rfl, by rw [← add_field _ _ 7 (by omega)]; exact hc 7 _ rfl, by rw [← add_field _ _ 8 (by omega)]; exact hc 8 _ rfl, by rw [← add_field _ _ 9 (by omega)]; exact hc 9 _ rfl, l1, g1⟩

/-! #### struct type 34 -/
structure S34 where
  f0 : Int
  f1 : Int
  f2 : Int
  f3 : Int
def z34 : S34 := ⟨(0 : Int), (0 : Int), (0 : Int), (0 : Int)⟩
def k34 : Kd S34 := Kd.iso (Kd.pair (Kd.int .i64) (Kd.pair (Kd.int .u64) (Kd.pair (Kd.int .i64) (Kd.int .u64)))) (fun x : S34 => (x.f0, x.f1, x.f2, x.f3))
theorem k34_open {w : World} {x : S34} {cs : List Value} (h : k34.K w x cs) : cs = [.int .i64 x.f0, .int .u64 x.f1, .int .i64 x.f2, .int .u64 x.f3] := by
  obtain ⟨_, _, rfl, rfl, ⟨_, _, rfl, rfl, ⟨_, _, rfl, rfl, rfl⟩⟩⟩ := h
  exact rfl
theorem k34_openM {w : World} {base : Nat} {ok : Nat → Prop} {x : S34} {cs : List Value} (h : k34.M w base ok x cs) : cs = [.int .i64 x.f0, .int .u64 x.f1, .int .i64 x.f2, .int .u64 x.f3] := by
  obtain ⟨_, _, rfl, rfl, ⟨_, _, rfl, rfl, ⟨_, _, rfl, rfl, rfl⟩⟩⟩ := h
  exact rfl
theorem k34_mk (w : World) (x : S34)  : k34.K w x [.int .i64 x.f0, .int .u64 x.f1, .int .i64 x.f2, .int .u64 x.f3] := ⟨[.int .i64 x.f0], [.int .u64 x.f1, .int .i64 x.f2, .int .u64 x.f3], rfl, rfl, ⟨[.int .u64 x.f1], [.int .i64 x.f2, .int .u64 x.f3], rfl, rfl, ⟨[.int .i64 x.f2], [.int .u64 x.f3], rfl, rfl, rfl⟩⟩⟩
theorem k34_mkM (w : World) (base : Nat) (ok : Nat → Prop) (x : S34)  : k34.M w base ok x [.int .i64 x.f0, .int .u64 x.f1, .int .i64 x.f2, .int .u64 x.f3] := ⟨[.int .i64 x.f0], [.int .u64 x.f1, .int .i64 x.f2, .int .u64 x.f3], rfl, rfl, ⟨[.int .u64 x.f1], [.int .i64 x.f2, .int .u64 x.f3], rfl, rfl, ⟨[.int .i64 x.f2], [.int .u64 x.f3], rfl, rfl, rfl⟩⟩⟩
def rd_T34 (xs : List S34) (i : Int) : S34 := xs.getD i.toNat z34
theorem at_T34 {w : World} {A : Option Addr} {n : Nat} {xs : List S34} (h : Kd.C k34 w A n xs) (i : Int) (h0 : 0 ≤ i) (h1 : i < n) : ∃ ad , A = some ad ∧ w.cell? (ad.add (i.toNat * 4)) = some (.int .i64 (rd_T34 xs i).f0) ∧ w.cell? ⟨(ad.add (i.toNat * 4)).block, (ad.add (i.toNat * 4)).off + 1, none⟩ = some (.int .u64 (rd_T34 xs i).f1) ∧ w.cell? ⟨(ad.add (i.toNat * 4)).block, (ad.add (i.toNat * 4)).off + 2, none⟩ = some (.int .i64 (rd_T34 xs i).f2) ∧ w.cell? ⟨(ad.add (i.toNat * 4)).block, (ad.add (i.toNat * 4)).off + 3, none⟩ = some (.int .u64 (rd_T34 xs i).f3) := by
  obtain ⟨ad, c, e, _, hK, hc0⟩ := Kd.C_get h z34 i h0 h1
  have hc : ∀ j u, c[j]? = some u → w.cell? (ad.add (i.toNat * 4 + j)) = some u := hc0
  obtain rfl := k34_open hK
  exact ⟨ad, e, hc 0 _ rfl, by rw [← add_field _ _ 1 (by omega)]; exact hc 1 _ rfl, by rw [← add_field _ _ 2 (by omega)]; exact hc 2 _ rfl, by rw [← add_field _ _ 3 (by omega)]; exact hc 3 _ rfl⟩


/-! ### what a reading of a type says, by kinds -/
section
variable {H : Type} (enc : TypeId × Value → H) (P : Program) (W : World) (base : Nat) (spare : Nat → Bool) (held : Bool)
def Tells {α : Type} (t : TypeId) (d : Kd α) (ok : α → Prop) : Prop := ∀ fuel cs x, DataW.trod enc P W base spare held fuel t cs = some x → ∃ y, d.K W y cs ∧ ok y
variable {enc P W base spare held}
theorem tells_int {t : TypeId} {k : IntKind} (ht : P.underlying t = some (.int k)) : Tells enc P W base spare held t (Kd.int k) (fun n => (Lit.int k n).wf = true) := by
  intro fuel cs x h
  obtain ⟨n, rfl, _, hn⟩ := DataW.trod_int ht h
  exact ⟨n, rfl, hn⟩
theorem tells_bool {t : TypeId} (ht : P.underlying t = some .bool) : Tells enc P W base spare held t Kd.bool (fun _ => True) := by
  intro fuel cs x h
  obtain ⟨b, rfl, _⟩ := DataW.trod_bool ht h
  exact ⟨b, rfl, trivial⟩
theorem tells_string {t : TypeId} (ht : P.underlying t = some .string) : Tells enc P W base spare held t Kd.string (fun s => s.size ≤ maxLen) := by
  intro fuel cs x h
  obtain ⟨s, rfl, _, hs⟩ := DataW.trod_string ht h
  exact ⟨s, rfl, hs⟩
theorem tells_slice {α : Type} {t e : TypeId} {d : Kd α} {ok : α → Prop} (ht : P.underlying t = some (.slice e)) (hC : P.cellsOf e = d.sz) (hd : Tells enc P W base spare held e d ok) :
    Tells enc P W base spare held t (Kd.slice e d) (fun l => l.length ≤ maxLen ∧ ∀ x ∈ l, ok x) := by
  intro fuel cs x h
  rcases Go.Deep.open_slice ht h with ⟨rfl, _⟩ | ⟨a, len, cap, m, n, D, Pl, rfl, _, hl, hm, hmm, _, hi⟩
  · exact ⟨[], ⟨none, 0, rfl, Nat.le_refl _, rfl, by simp, fun h => absurd h (by simp)⟩, by simp, by simp⟩
  · have hle : len ≤ m := by
      rw [hmm]
      split <;> omega
    have key : ∀ k, k ≤ len → ∃ ys : List α, ys.length = k ∧ (∀ y ∈ ys, ok y) ∧ ∀ j y, ys[j]? = some y → ∃ c, c.length = d.sz ∧ d.K W y c ∧ ∀ i u, c[i]? = some u → W.cell? (a.add (j * d.sz + i)) = some u := by
      intro k
      induction k with
      | zero => exact fun _ => ⟨[], rfl, by simp, fun j y hj => by simp at hj⟩
      | succ k ih =>
        intro hk
        obtain ⟨ys, hy, hok, hys⟩ := ih (by omega)
        obtain ⟨cs', hc, htr⟩ := hi k (by omega)
        obtain ⟨y, hK, hy2⟩ := hd _ _ _ htr
        obtain ⟨_, hcl, hat⟩ := World.cells?_some hc
        refine ⟨ys ++ [y], by simp [hy], ?_, fun j z hj => ?_⟩
        · intro z hz
          rcases List.mem_append.1 hz with hz | hz
          · exact hok z hz
          · rw [List.mem_singleton.1 hz]; exact hy2
        · rcases Nat.lt_or_ge j ys.length with hlt | hge
          · rw [List.getElem?_append_left hlt] at hj
            exact hys j z hj
          · have hj' : j = ys.length := by
              have := (List.getElem?_eq_some_iff.1 hj).1
              simp at this
              omega
            subst hj'
            obtain rfl : y = z := by simpa using hj
            refine ⟨cs', d.K_len hK, hK, fun i u hu => ?_⟩
            have hil : i < P.cellsOf e := by
              have := (List.getElem?_eq_some_iff.1 hu).1
              omega
            have := hat i hil
            rw [hy, ← Go.Deep.add_add, ← hC, this, hu]
    obtain ⟨ys, hy, hok, hys⟩ := key len (Nat.le_refl _)
    subst hy
    refine ⟨ys, ⟨some a, cap, rfl, hl, rfl, ?_, fun _ => ⟨a, rfl, hys⟩⟩, Nat.le_trans hl hm, hok⟩
    have : maxLen = 9223372036854775807 := rfl
    omega
theorem pair_at {α β : Type} {d : Kd α} {b : Kd β} {x : α} {y : β} {cs : List Value} {o s o2 : Nat} (h0 : d.K W x ((cs.drop o).take s)) (ho : o2 = o + s) (h1 : b.K W y (cs.drop o2)) : (Kd.pair d b).K W (x, y) (cs.drop o) :=
  ⟨_, _, (List.take_append_drop s _).symm, h0, by rw [List.drop_drop, ← ho]; exact h1⟩
theorem last_at {α : Type} {d : Kd α} {x : α} {cs : List Value} {o s : Nat} (h0 : d.K W x ((cs.drop o).take s)) (hl : cs.length = o + s) : d.K W x (cs.drop o) := by
  rwa [List.take_of_length_le (by rw [List.length_drop]; omega)] at h0
end

def ok26 (x : S26) : Prop := (fun s => s.size ≤ maxLen) x.f0 ∧ (fun l => l.length ≤ maxLen ∧ ∀ x ∈ l, (fun n => (Lit.int .u8 n).wf = true) x) x.f1 ∧ (fun n => (Lit.int .u32 n).wf = true) x.f2 ∧ (fun n => (Lit.int .i64 n).wf = true) x.f3 ∧ (fun n => (Lit.int .u64 n).wf = true) x.f4 ∧ (fun n => (Lit.int .i64 n).wf = true) x.f5 ∧ (fun n => (Lit.int .u64 n).wf = true) x.f6 ∧ (fun _ => True) x.f7 ∧ (fun _ => True) x.f8 ∧ (fun _ => True) x.f9
theorem tells26 {H : Type} {enc : TypeId × Value → H} {W : World} {base : Nat} {spare : Nat → Bool} {held : Bool} : Tells enc Try.prog W base spare held 26 k26 ok26 := by
  intro fuel cs x h
  obtain ⟨xs, n, _, _, hlen, hxl, hf⟩ := DataW.trod_struct Try.underlying26 h
  have hlen' : cs.length = 10 := hlen.trans (by kernel_rfl)
  have hxl' : xs.length = 10 := hxl
  have q0 := hf 0 _ rfl
  rw [List.getElem?_eq_getElem (show 0 < xs.length by omega)] at q0
  obtain ⟨y0, h0, o0⟩ := (tells_string Try.underlying9) _ _ _ q0
  have e0 : Try.prog.cellsOf 9 = 1 := by kernel_rfl
  have g0 : Kd.string.K W y0 ((cs.drop 0).take 1) := by rw [← e0]; exact h0
  have q1 := hf 1 _ rfl
  rw [List.getElem?_eq_getElem (show 1 < xs.length by omega)] at q1
  obtain ⟨y1, h1, o1⟩ := (tells_slice Try.underlying22 (by kernel_rfl) (tells_int Try.underlying5)) _ _ _ q1
  have e1 : Try.prog.cellsOf 22 = 1 := by kernel_rfl
  have g1 : (Kd.slice 5 (Kd.int .u8)).K W y1 ((cs.drop 1).take 1) := by rw [← e1]; exact h1
  have q2 := hf 2 _ rfl
  rw [List.getElem?_eq_getElem (show 2 < xs.length by omega)] at q2
  obtain ⟨y2, h2, o2⟩ := (tells_int Try.underlying23) _ _ _ q2
  have e2 : Try.prog.cellsOf 23 = 1 := by kernel_rfl
  have g2 : (Kd.int .u32).K W y2 ((cs.drop 2).take 1) := by rw [← e2]; exact h2
  have q3 := hf 3 _ rfl
  rw [List.getElem?_eq_getElem (show 3 < xs.length by omega)] at q3
  obtain ⟨y3, h3, o3⟩ := (tells_int Try.underlying3) _ _ _ q3
  have e3 : Try.prog.cellsOf 3 = 1 := by kernel_rfl
  have g3 : (Kd.int .i64).K W y3 ((cs.drop 3).take 1) := by rw [← e3]; exact h3
  have q4 := hf 4 _ rfl
  rw [List.getElem?_eq_getElem (show 4 < xs.length by omega)] at q4
  obtain ⟨y4, h4, o4⟩ := (tells_int Try.underlying24) _ _ _ q4
  have e4 : Try.prog.cellsOf 24 = 1 := by kernel_rfl
  have g4 : (Kd.int .u64).K W y4 ((cs.drop 4).take 1) := by rw [← e4]; exact h4
  have q5 := hf 5 _ rfl
  rw [List.getElem?_eq_getElem (show 5 < xs.length by omega)] at q5
  obtain ⟨y5, h5, o5⟩ := (tells_int Try.underlying3) _ _ _ q5
  have e5 : Try.prog.cellsOf 3 = 1 := by kernel_rfl
  have g5 : (Kd.int .i64).K W y5 ((cs.drop 5).take 1) := by rw [← e5]; exact h5
  have q6 := hf 6 _ rfl
  rw [List.getElem?_eq_getElem (show 6 < xs.length by omega)] at q6
  obtain ⟨y6, h6, o6⟩ := (tells_int Try.underlying24) _ _ _ q6
  have e6 : Try.prog.cellsOf 24 = 1 := by kernel_rfl
  have g6 : (Kd.int .u64).K W y6 ((cs.drop 6).take 1) := by rw [← e6]; exact h6
  have q7 := hf 7 _ rfl
  rw [List.getElem?_eq_getElem (show 7 < xs.length by omega)] at q7
  obtain ⟨y7, h7, o7⟩ := (tells_bool Try.underlying4) _ _ _ q7
  have e7 : Try.prog.cellsOf 4 = 1 := by kernel_rfl
  have g7 : Kd.bool.K W y7 ((cs.drop 7).take 1) := by rw [← e7]; exact h7
  have q8 := hf 8 _ rfl
  rw [List.getElem?_eq_getElem (show 8 < xs.length by omega)] at q8
  obtain ⟨y8, h8, o8⟩ := (tells_bool Try.underlying4) _ _ _ q8
  have e8 : Try.prog.cellsOf 4 = 1 := by kernel_rfl
  have g8 : Kd.bool.K W y8 ((cs.drop 8).take 1) := by rw [← e8]; exact h8
  have q9 := hf 9 _ rfl
  rw [List.getElem?_eq_getElem (show 9 < xs.length by omega)] at q9
  obtain ⟨y9, h9, o9⟩ := (tells_bool Try.underlying4) _ _ _ q9
  have e9 : Try.prog.cellsOf 4 = 1 := by kernel_rfl
  have g9 : Kd.bool.K W y9 ((cs.drop 9).take 1) := by rw [← e9]; exact h9
  have hk : k26.K W ⟨y0, y1, y2, y3, y4, y5, y6, y7, y8, y9⟩ cs := (pair_at g0 rfl (pair_at g1 rfl (pair_at g2 rfl (pair_at g3 rfl (pair_at g4 rfl (pair_at g5 rfl (pair_at g6 rfl (pair_at g7 rfl (pair_at g8 rfl (last_at g9 hlen'))))))))))
  exact ⟨_, hk, ⟨o0, o1, o2, o3, o4, o5, o6, o7, o8, o9⟩⟩
def ok34 (x : S34) : Prop := (fun n => (Lit.int .i64 n).wf = true) x.f0 ∧ (fun n => (Lit.int .u64 n).wf = true) x.f1 ∧ (fun n => (Lit.int .i64 n).wf = true) x.f2 ∧ (fun n => (Lit.int .u64 n).wf = true) x.f3
theorem tells34 {H : Type} {enc : TypeId × Value → H} {W : World} {base : Nat} {spare : Nat → Bool} {held : Bool} : Tells enc Try.prog W base spare held 34 k34 ok34 := by
  intro fuel cs x h
  obtain ⟨xs, n, _, _, hlen, hxl, hf⟩ := DataW.trod_struct Try.underlying34 h
  have hlen' : cs.length = 4 := hlen.trans (by kernel_rfl)
  have hxl' : xs.length = 4 := hxl
  have q0 := hf 0 _ rfl
  rw [List.getElem?_eq_getElem (show 0 < xs.length by omega)] at q0
  obtain ⟨y0, h0, o0⟩ := (tells_int Try.underlying3) _ _ _ q0
  have e0 : Try.prog.cellsOf 3 = 1 := by kernel_rfl
  have g0 : (Kd.int .i64).K W y0 ((cs.drop 0).take 1) := by rw [← e0]; exact h0
  have q1 := hf 1 _ rfl
  rw [List.getElem?_eq_getElem (show 1 < xs.length by omega)] at q1
  obtain ⟨y1, h1, o1⟩ := (tells_int Try.underlying24) _ _ _ q1
  have e1 : Try.prog.cellsOf 24 = 1 := by kernel_rfl
  have g1 : (Kd.int .u64).K W y1 ((cs.drop 1).take 1) := by rw [← e1]; exact h1
  have q2 := hf 2 _ rfl
  rw [List.getElem?_eq_getElem (show 2 < xs.length by omega)] at q2
  obtain ⟨y2, h2, o2⟩ := (tells_int Try.underlying3) _ _ _ q2
  have e2 : Try.prog.cellsOf 3 = 1 := by kernel_rfl
  have g2 : (Kd.int .i64).K W y2 ((cs.drop 2).take 1) := by rw [← e2]; exact h2
  have q3 := hf 3 _ rfl
  rw [List.getElem?_eq_getElem (show 3 < xs.length by omega)] at q3
  obtain ⟨y3, h3, o3⟩ := (tells_int Try.underlying24) _ _ _ q3
  have e3 : Try.prog.cellsOf 24 = 1 := by kernel_rfl
  have g3 : (Kd.int .u64).K W y3 ((cs.drop 3).take 1) := by rw [← e3]; exact h3
  have hk : k34.K W ⟨y0, y1, y2, y3⟩ cs := (pair_at g0 rfl (pair_at g1 rfl (pair_at g2 rfl (last_at g3 hlen'))))
  exact ⟨_, hk, ⟨o0, o1, o2, o3⟩⟩
end Go.Proofs.Ytojkhlkkhpndaaa.Hd
