/- A counter's and an arithmetic request's numbers come out of the bytes as they went in: the plain side. For all numbers. -/
import Derived.Test.YtkbhnnmngmdkdaaHnx5
namespace Go.Proofs.Ytkbhnnmngmdkdaa.Pure
open Go.RowKit Go.Proofs.Ytkbhnnmngmdkdaa.Hn Go.Proofs.YtkbhnnmngmdkdaaW.PrintWords Go.Proofs.YtkbhnnmngmdkdaaW.PrintLast

theorem u64_of {x : Int} (h : (Lit.int .u64 x).wf = true) : 0 ≤ x ∧ x < 18446744073709551616 := by
  simp [Lit.wf] at h
  have e1 : IntKind.u64.min = 0 := rfl
  have e2 : IntKind.u64.max = 18446744073709551615 := rfl
  omega
theorem u32_of {x : Int} (h : (Lit.int .u32 x).wf = true) : 0 ≤ x ∧ x < 4294967296 := by
  simp [Lit.wf] at h
  have e1 : IntKind.u32.min = 0 := rfl
  have e2 : IntKind.u32.max = 4294967295 := rfl
  omega
theorem BininNumbers : butterylaw16_BininNumbers.Pure := by
  intro a0 a1 a2 a3 a4 a5 h0 h1 h2 h3 h4 h5
  exact if_pos ⟨u64_of h0, u64_of h1, u32_of h2, u32_of h3, u64_of h4, u32_of h5⟩

end Go.Proofs.Ytkbhnnmngmdkdaa.Pure
