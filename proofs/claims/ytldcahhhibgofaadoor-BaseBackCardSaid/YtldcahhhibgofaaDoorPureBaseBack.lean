/- Written by this session: the plain side of chapter 02, no program in sight. -/
import Derived.Test.YtldcahhhibgofaaDoorHbx3
import Derived.Test.YtldcahhhibgofaaDoorPlain
namespace Go.Proofs.YtldcahhhibgofaaDoor.Pure
open Go.RowKit Go.Proofs.YtldcahhhibgofaaDoor.Hb Go.Proofs.YtldcahhhibgofaaDoorW.PrintWords Go.Proofs.YtldcahhhibgofaaDoorW.PrintLast
set_option linter.unusedVariables false
set_option linter.unusedSimpArgs false
theorem byt_wf {l : List Int} (h : ∀ x ∈ l, (Lit.int .u8 x).wf = true) : Byt l := fun x hx => by
  have h1 := h x hx
  simp [Lit.wf] at h1
  have e1 : IntKind.u8.min = 0 := rfl
  have e2 : IntKind.u8.max = 255 := rfl
  omega
theorem w64_in (n : Int) (h0 : -9223372036854775808 ≤ n) (h1 : n < 9223372036854775808) : wrap64 n = n := (i64_w _).symm.trans (by rw [IntKind.wrap_i64]; omega)
theorem encF {l : List Int} (hb : Byt l) (hl : l.length ≤ 1000000) : base_Encode.f l = some (strOfNums (enc l)) := if_pos ⟨hb, hl⟩
theorem decF {s : ByteArray} (hs : s.size ≤ 1000000) : base_Decode.f s = some (decR s) := if_pos hs
theorem decR_enc {l : List Int} (hb : Byt l) : decR (strOfNums (enc l)) = (l, 0) := by
  unfold decR
  rw [bytesL_nums _ (enc_range l hb), dec_enc l hb]
theorem BaseBack : butterylaw02_BaseBack.Pure := by
  intro l _ _ hw
  have hb := byt_wf hw
  unfold butterylaw02_BaseBack.f
  show (if (l.length : Int) > 5000 then some true else _) = some true
  by_cases h5 : (l.length : Int) > 5000
  · rw [if_pos h5]
  · rw [if_neg h5, encF hb (by omega)]
    have he := enc_len l
    have hs : (strOfNums (enc l)).size = (l.length + 2) / 3 * 4 := by rw [strOfNums_size, he]
    show (base_Decode.f (strOfNums (enc l))).bind _ = some true
    rw [decF (by omega), decR_enc hb]
    have e1 : wrap64 ((l.length : Int) + 2) = (l.length : Int) + 2 := w64_in _ (by omega) (by omega)
    have e2 : Int.tdiv ((l.length : Int) + 2) 3 = ((l.length : Int) + 2) / 3 := Int.tdiv_eq_ediv_of_nonneg (by omega)
    have e3 : wrap64 (((l.length : Int) + 2) / 3) = ((l.length : Int) + 2) / 3 := w64_in _ (by omega) (by omega)
    have e4 : wrap64 (((l.length : Int) + 2) / 3 * 4) = ((l.length : Int) + 2) / 3 * 4 := w64_in _ (by omega) (by omega)
    simp only [Option.bind_some, if_true, e1, e2, e3, e4, hs]
    congr 1
    rw [beq_iff_eq]
    omega
end Go.Proofs.YtldcahhhibgofaaDoor.Pure
