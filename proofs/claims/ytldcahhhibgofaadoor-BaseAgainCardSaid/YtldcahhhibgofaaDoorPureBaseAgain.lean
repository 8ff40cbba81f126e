/- Written by this session: the plain side of chapter 02, no program in sight. -/
import Derived.Test.YtldcahhhibgofaaDoorHbx3
import Derived.Test.YtldcahhhibgofaaDoorPlain
namespace Go.Proofs.YtldcahhhibgofaaDoor.Pure
open Go.RowKit Go.Proofs.YtldcahhhibgofaaDoor.Hb Go.Proofs.YtldcahhhibgofaaDoorW.PrintWords Go.Proofs.YtldcahhhibgofaaDoorW.PrintLast
set_option linter.unusedVariables false
set_option linter.unusedSimpArgs false
theorem decF {s : ByteArray} (hs : s.size ≤ 1000000) : base_Decode.f s = some (decR s) := if_pos hs
theorem BaseAgain : butterylaw02_BaseAgain.Pure := by
  intro s _
  unfold butterylaw02_BaseAgain.f
  show (if (s.size : Int) > 5000 then some true else _) = some true
  by_cases h5 : (s.size : Int) > 5000
  · rw [if_pos h5]
  · rw [if_neg h5, decF (by omega)]
    cases hd : dec (bytesL s) with
    | none =>
      have h : decR s = ([], 2) := by unfold decR; rw [hd]
      rw [h]
      simp
    | some l =>
      have h : decR s = (l, 0) := by unfold decR; rw [hd]
      obtain ⟨he, hb⟩ := dec_good hd
      have hl : l.length ≤ 1000000 := by
        have := enc_len l
        rw [he, bytesL_len] at this
        omega
      rw [h]
      have he2 : base_Encode.f l = some s := by
        unfold base_Encode.f
        rw [if_pos ⟨hb, hl⟩, he, bytesL_str]
      simp [he2]
end Go.Proofs.YtldcahhhibgofaaDoor.Pure
