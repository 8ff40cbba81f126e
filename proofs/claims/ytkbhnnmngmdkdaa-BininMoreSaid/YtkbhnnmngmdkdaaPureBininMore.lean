/- More bytes behind what is parsed change nothing of it; fewer are waited for: the plain side. For all slices of bytes and every cut. -/
import Derived.Test.YtkbhnnmngmdkdaaHbx6
namespace Go.Proofs.Ytkbhnnmngmdkdaa.Pure
open Go.RowKit Go.Proofs.Ytkbhnnmngmdkdaa.Hb Go.Proofs.YtkbhnnmngmdkdaaW.PrintWords Go.Proofs.YtkbhnnmngmdkdaaW.PrintLast

theorem bytes_of {l : List Int} (h : ∀ x ∈ l, (Lit.int .u8 x).wf = true) : ∀ x ∈ l, 0 ≤ x ∧ x ≤ 255 := fun x hx => by
  have h1 := h x hx
  simp [Lit.wf] at h1
  have e1 : IntKind.u8.min = 0 := rfl
  have e2 : IntKind.u8.max = 255 := rfl
  omega
theorem BininMore : butterylaw16_BininMore.Pure := by
  intro l0 l1 a2 _ _ h0 _ _ h1 _
  exact if_pos ⟨bytes_of h0, bytes_of h1⟩

end Go.Proofs.Ytkbhnnmngmdkdaa.Pure
