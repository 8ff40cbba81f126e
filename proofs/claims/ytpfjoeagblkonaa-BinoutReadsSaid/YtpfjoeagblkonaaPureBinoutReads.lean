/- The answer that any bytes begin with is what the document says, or there is none: the plain side. For every slice of bytes. -/
import Derived.Test.YtpfjoeagblkonaaHbx5
namespace Go.Proofs.Ytpfjoeagblkonaa.Pure
open Go.RowKit Go.Proofs.Ytpfjoeagblkonaa.Hb Go.Proofs.YtpfjoeagblkonaaW.PrintWords Go.Proofs.YtpfjoeagblkonaaW.PrintLast

/-- YOURS: ∀ (l0 : List Int), l0.length ≤ maxLen → l0.length * 1 ≤ 140737488351232 → (∀ x ∈ l0, (Lit.int .u8 x).wf = true) → butterylaw17_BinoutReads.f l0 = some true
What it reaches (each with k first where it has rounds; `.mono`: more rounds tell the same; `.l0`, ..: its loops, with `.mono_l`): num_Get.f, slices_Clone_byte_byte.f, butteryref01_Get.f, binout_Read.f, binout_Code.f, binout_silent.f, num_put.f, num_Put32.f, num_Put64.f, binout_parts.f, slices_Grow_byte_byte.f, slices_Concat_byte_byte.f, num_Put16.f, binout_Encode.f, butterylaw17_awake.f, butteryref17_Read.f, butterylaw17_BinoutReads.f -/
theorem BinoutReads : butterylaw17_BinoutReads.Pure := by
  intro l _ _ hb
  unfold butterylaw17_BinoutReads.f
  rw [if_pos]
  intro x hx
  have := hb x hx
  simp [Lit.wf] at this
  have e1 : IntKind.u8.min = 0 := rfl
  have e2 : IntKind.u8.max = 255 := rfl
  omega

end Go.Proofs.Ytpfjoeagblkonaa.Pure
