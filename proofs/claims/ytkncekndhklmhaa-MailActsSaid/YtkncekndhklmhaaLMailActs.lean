import Derived.Test.YtkncekndhklmhaaP06
import Derived.Test.YtkncekndhklmhaaRows
/- One law of the given program, proved for every input; no condition. -/
set_option linter.unusedVariables false
set_option linter.unusedSimpArgs false
/- The law MailActs is true of every input: the row's statement is proved. No condition. -/
namespace Go.Proofs.Ytkncekndhklmhaa.mailActs
open Go.ChangeShapes Go.WideShapes Go.ChangeAt Go.RowKit Go.Ax
set_option linter.unusedVariables false
theorem own : ownKnob Try.prog.godebug = none := by kernel_rfl

set_option maxRecDepth 100000 in
theorem lifted {F : Fun} (hF : Ax.Spec Try.prog 3 F) (law : ∀ dss, GoodA S.T 12 Try.f3.params.toList dss → F (avsOf S.T Try.f3.params.toList dss) [] = some (.bool true, []))
   (os : Os) (started : os.Started) (H : Type) (enc : TypeId × Value → H) :
    ReturnsInHanded {} Try.checked os 3 .any (Rows.mailActsSpec.pre6 enc Try.prog Try.f3 Rows.mailActsRow.domain false) (Rows.mailActsSpec.post enc Try.prog Try.f3 false true false false) := by
  refine returnsInHanded_of_change (C := Try.checked) own started (by kernel_rfl) Try.func3
    (ChangeSpec.witness6 (enc := enc) (C := Try.checked) false ⟨#[], #[.slice none 0 0], []⟩ 12 (by kernel_rfl) (by kernel_rfl) (by kernel_rfl) (by kernel_rfl)) ?_
  intro W base args ds gs before hval hW hcnd _
  refine contract_law (fn := Try.f3) S.tok hF (by kernel_rfl) (fun t ht => ?_) rfl Try.underlying4 (by kernel_rfl) (d := 12) (fun t ht => ?_) (fun W args ds p h => ?_) law hval hW
  · rw [Try.params3] at ht
    simp at ht
    subst ht
    exact ⟨by kernel_rfl, of_decide_eq_true (by kernel_rfl)⟩
  · rw [Try.params3] at ht
    simp at ht
    subst ht
    kernel_rfl
  · rw [Try.params3] at h
    obtain ⟨v0, vs0, d0, ds0, p0, q0, hargs, rfl, rfl, hd0, h⟩ := trodAll_cons h
    obtain ⟨rfl, rfl, rfl⟩ := trodAll_nil h
    exact ⟨rfl, rfl, rfl⟩

theorem over {F : Fun} (hF : Ax.Spec Try.prog 3 F) (law : ∀ dss, GoodA S.T 12 Try.f3.params.toList dss → F (avsOf S.T Try.f3.params.toList dss) [] = some (.bool true, [])) : Rows.mailActsRow.holds Try.pinned (OpenSpec.ofChange Rows.mailActsSpec) :=
  OpenClaim.holds_of_wide 3 Try.f3 rfl rfl rfl rfl rfl rfl rfl ⟨rfl, rfl, rfl, rfl, rfl⟩ rfl rfl rfl rfl rfl (by kernel_rfl) Try.func3 (by kernel_rfl)
    (of_decide_eq_true (by kernel_rfl)) (by unfold Func.isWrapper; first | (rw [if_pos (by decide +kernel)]; kernel_rfl) | (rw [if_neg (by decide +kernel)]; exact ⟨rfl, rfl⟩))
    (fun os started H enc _ => lifted hF law os started H enc)

theorem law : ∀ dss, GoodA S.T 12 Try.f3.params.toList dss → S.mailActsF (avsOf S.T Try.f3.params.toList dss) [] = some (.bool true, []) := by
  intro dss h
  rw [Try.params3] at h ⊢
  match dss, h with
  | [x0], ⟨h0, _⟩ =>
    obtain ⟨l, rfl, hl, ha⟩ := S.good_acts h0
    exact S.mailActs_at l ⟨hl, ha⟩
theorem proved : Rows.MailActsSaid := over S.mailActs_spec law
end Go.Proofs.Ytkncekndhklmhaa.mailActs

