import Derived.Test.YtkmmnfcjbalboaaDoorB6
set_option linter.unusedVariables false
set_option linter.unusedSimpArgs false
/-! What the law AttrBack hands back. -/
namespace Go.Rx
open Go.Ab Go.L7
set_option maxRecDepth 100000
theorem con3 : ∀ (args : List (AV S.A)) (k : AV S.A → Prop), appC (S := S) P7 [4] [27] W3 args k → PFk (S := S) P7 3 (args.map stripA) k := (ok3 h52).1
theorem pf3 (x0 : api_Attrs) (h : P3 x0) : PFk (S := S) P7 3 ([argA (S := S) P7 27 x0].map stripA) (fun q => q = .sc (.bool true)) := by
  refine con3 [argA (S := S) P7 27 x0] _ ?_
  show withP (some (P3 x0)) _
  exact ⟨h, rfl⟩
theorem strip3 (x0 : api_Attrs) : [argA (S := S) P7 27 x0].map stripA = [.agg (api_Attrs.cells x0)] := by kernel_rfl
end Go.Rx
namespace Go.Proofs.YtkmmnfcjbalboaaDoor
open Go.Ab Go.Rx Go.L7
theorem AttrBack_ok (x0 : api_Attrs) (o0 : api_Attrs.ok x0) : PFg S P7 3 [.agg (api_Attrs.cells x0)] (.sc (.bool true)) := by
  have h := pf_of_pfk (pf3 x0 o0)
  rw [strip3] at h
  exact h
end Go.Proofs.YtkmmnfcjbalboaaDoor
