/- Written by this session: the plain side of chapter 02, no program in sight. -/
import Derived.Test.YtldcahhhibgofaaDoorHbx5
import Derived.Test.YtldcahhhibgofaaDoorPlain
namespace Go.Proofs.YtldcahhhibgofaaDoor.Pure
open Go.RowKit Go.Proofs.YtldcahhhibgofaaDoor.Hb Go.Proofs.YtldcahhhibgofaaDoorW.PrintWords Go.Proofs.YtldcahhhibgofaaDoorW.PrintLast
set_option linter.unusedVariables false
set_option linter.unusedSimpArgs false
theorem byt_wf {l : List Int} (h : ∀ x ∈ l, (Lit.int .u8 x).wf = true) : Byt l := fun x hx => by
  have h1 := h x hx
  simp [Lit.wf] at h1
  have e1 : IntKind.u8.min = 0 := rfl
  have e2 : IntKind.u8.max = 255 := rfl
  omega
theorem flip_ok {l : List Int} (hb : Byt l) (p v : Int) (hv : 0 ≤ v ∧ v < 256) : FlipOk l p v := by
  refine ⟨hb, enc_range l hb, hv, fun q hq hne l2 hd hs => ?_⟩
  obtain ⟨he, hb2⟩ := dec_good hd
  have hl : l2 = l := str_inj _ _ hb2 hb hs
  subst hl
  have h1 : at0 (enc l2) q = at0 ((enc l2).set q v) q := congrArg (fun t => at0 t q) he
  have h2 : at0 ((enc l2).set q v) q = v := by
    unfold at0
    rw [List.getD_eq_getElem?_getD, List.getElem?_set_self hq]
    rfl
  exact hne (h1.trans h2)
theorem BaseFlips : butterylaw02_BaseFlips.Pure := by
  intro l p v _ _ hw _ hv
  refine if_pos (flip_ok (byt_wf hw) p v ?_)
  have h1 := hv
  simp [Lit.wf] at h1
  have e1 : IntKind.u8.min = 0 := rfl
  have e2 : IntKind.u8.max = 255 := rfl
  omega
end Go.Proofs.YtldcahhhibgofaaDoor.Pure
