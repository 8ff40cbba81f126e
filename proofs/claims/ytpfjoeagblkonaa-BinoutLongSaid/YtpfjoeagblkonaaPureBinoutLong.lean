/- An answer is 24 bytes, and those of its parts, long; its head tells them: the plain side. For every form, every result and every key. -/
import Derived.Test.YtpfjoeagblkonaaHbx8
namespace Go.Proofs.Ytpfjoeagblkonaa.Pure
open Go.RowKit Go.Proofs.Ytpfjoeagblkonaa.Hb Go.Proofs.YtpfjoeagblkonaaW.PrintWords Go.Proofs.YtpfjoeagblkonaaW.PrintLast

theorem u32_range {n : Int} (h : (Lit.int .u32 n).wf = true) : 0 ≤ n ∧ n < 4294967296 := by
  simp [Lit.wf] at h
  have e1 : IntKind.u32.min = 0 := rfl
  have e2 : IntKind.u32.max = 4294967295 := rfl
  omega
theorem BinoutLong : butterylaw17_BinoutLong.Pure := by
  intro a0 a1 a2 a3 a4 a5 a6 l7 l8 a9 b0 l1 b2 b3 b4 b5 b6 b7 b8 key _ _ _ h3 _ _ _ _ _ h2 _ _ _ _
  unfold butterylaw17_BinoutLong.f
  have p := u32_range h3
  have q := u32_range h2
  exact if_pos ⟨p.1, p.2, q.1, q.2⟩

end Go.Proofs.Ytpfjoeagblkonaa.Pure
