/- Every code with its own extras is answered, and with one byte more of them is refused: the plain side. For every code, key and value. -/
import Derived.Test.YtkbhnnmngmdkdaaHcx6
namespace Go.Proofs.Ytkbhnnmngmdkdaa.Pure
open Go.RowKit Go.Proofs.Ytkbhnnmngmdkdaa.Hc Go.Proofs.YtkbhnnmngmdkdaaW.PrintWords Go.Proofs.YtkbhnnmngmdkdaaW.PrintLast

theorem bytes_of {l : List Int} (h : ∀ x ∈ l, (Lit.int .u8 x).wf = true) : ∀ x ∈ l, 0 ≤ x ∧ x ≤ 255 := fun x hx => by
  have h1 := h x hx
  simp [Lit.wf] at h1
  have e1 : IntKind.u8.min = 0 := rfl
  have e2 : IntKind.u8.max = 255 := rfl
  omega
theorem BininCodes : butterylaw16_BininCodes.Pure := by
  intro a0 a1 l2 _ _ _ _ h
  exact if_pos (bytes_of h)

end Go.Proofs.Ytkbhnnmngmdkdaa.Pure
