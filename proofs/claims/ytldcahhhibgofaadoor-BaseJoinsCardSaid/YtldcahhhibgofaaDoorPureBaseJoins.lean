/- Written by this session: the plain side of chapter 02, no program in sight. -/
import Derived.Test.YtldcahhhibgofaaDoorHbx3
import Derived.Test.YtldcahhhibgofaaDoorPlain
namespace Go.Proofs.YtldcahhhibgofaaDoor.Pure
open Go.RowKit Go.Proofs.YtldcahhhibgofaaDoor.Hb Go.Proofs.YtldcahhhibgofaaDoorW.PrintWords Go.Proofs.YtldcahhhibgofaaDoorW.PrintLast
set_option linter.unusedVariables false
set_option linter.unusedSimpArgs false
theorem byt_wf {l : List Int} (h : ∀ x ∈ l, (Lit.int .u8 x).wf = true) : Byt l := fun x hx => by
  have h1 := h x hx
  simp [Lit.wf] at h1
  have e1 : IntKind.u8.min = 0 := rfl
  have e2 : IntKind.u8.max = 255 := rfl
  omega
theorem encF {l : List Int} (hb : Byt l) (hl : l.length ≤ 1000000) : base_Encode.f l = some (strOfNums (enc l)) := if_pos ⟨hb, hl⟩
theorem enc_join : ∀ (a b : List Int), a.length % 3 = 0 → enc (a ++ b) = enc a ++ enc b
  | [], b, _ => rfl
  | [x], b, h => by simp at h
  | [x, y], b, h => by simp at h
  | x :: y :: z :: t, b, h => by
    have ih := enc_join t b (by simp only [List.length_cons] at h; omega)
    show enc4 [x, y, z] ++ enc (t ++ b) = enc4 [x, y, z] ++ enc t ++ enc b
    rw [ih, List.append_assoc]
theorem BaseJoins : butterylaw02_BaseJoins.Pure := by
  intro a b _ _ hwa _ _ hwb
  have ha := byt_wf hwa
  have hb := byt_wf hwb
  refine ⟨1, ?_⟩
  unfold butterylaw02_BaseJoins.f
  show (if (a.length : Int) > 3000 then butterylaw02_BaseJoins.j0 1 a b true true else _) = some true
  have hj : butterylaw02_BaseJoins.j0 1 a b true true = some true := by simp [butterylaw02_BaseJoins.j0]
  by_cases h1 : (a.length : Int) > 3000
  · rw [if_pos h1, hj]
  · rw [if_neg h1]
    by_cases h2 : (b.length : Int) > 3000
    · rw [if_pos h2, hj]
    · rw [if_neg h2]
      by_cases h3 : ((a.length : Int) % 3) = 0
      · have hab : Byt (a ++ b) := fun x hx => (List.mem_append.1 hx).elim (ha x) (hb x)
        have e1 := encF hab (by rw [List.length_append]; omega)
        have e2 := encF ha (by omega)
        have e3 := encF hb (by omega)
        have l2 := enc_len a
        have l3 := enc_len b
        have hd : (((a.length : Int) % 3) != 0) = false := by rw [bne_eq_false_iff_eq]; exact h3
        have hs : (strOfNums (enc a)).size + (strOfNums (enc b)).size ≤ 9223372036854775807 := by rw [strOfNums_size, strOfNums_size]; omega
        rw [hd]
        simp only [butterylaw02_BaseJoins.j0, List.nil_append, List.length_nil, Option.bind_some, e1, e2, e3]
        rw [if_neg (by simp), if_pos trivial, if_pos (by omega), if_pos (by omega), if_pos hs, enc_join a b (by omega), strOfNums_append]
        simp
      · have hd : (((a.length : Int) % 3) != 0) = true := bne_iff_ne.mpr h3
        rw [hd, hj]
end Go.Proofs.YtldcahhhibgofaaDoor.Pure
