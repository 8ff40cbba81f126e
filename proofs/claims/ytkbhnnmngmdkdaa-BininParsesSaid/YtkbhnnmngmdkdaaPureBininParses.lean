/- The first bytes of a connection are what the document says: the plain side. For every slice of bytes. -/
import Derived.Test.YtkbhnnmngmdkdaaHpx9
namespace Go.Proofs.Ytkbhnnmngmdkdaa.Pure
open Go.RowKit Go.Proofs.Ytkbhnnmngmdkdaa.Hp Go.Proofs.YtkbhnnmngmdkdaaW.PrintWords Go.Proofs.YtkbhnnmngmdkdaaW.PrintLast

theorem bytes_of {l : List Int} (h : ∀ x ∈ l, (Lit.int .u8 x).wf = true) : ∀ x ∈ l, 0 ≤ x ∧ x ≤ 255 := fun x hx => by
  have h1 := h x hx
  simp [Lit.wf] at h1
  have e1 : IntKind.u8.min = 0 := rfl
  have e2 : IntKind.u8.max = 255 := rfl
  omega
theorem BininParses : butterylaw16_BininParses.Pure := by
  intro l0 _ _ h0
  exact if_pos (bytes_of h0)

end Go.Proofs.Ytkbhnnmngmdkdaa.Pure
