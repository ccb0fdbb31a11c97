import Derived.Test.YtadjcpiiagkdeaaDoorT7
set_option linter.unusedVariables false
set_option linter.unusedSimpArgs false
/-! What the law ScriptNumbers hands back. -/
namespace Go.Rx
open Go.Ab Go.L21
set_option maxRecDepth 100000
theorem con311 : ∀ (args : List (AV S.A)) (k : AV S.A → Prop), appC (S := S) P7 [4] [61] W311 args k → PFk (S := S) P7 11 (args.map stripA) k := ok311.1
theorem pf311 (x0 : api_Step) (h : P311 x0) : PFk (S := S) P7 11 ([argA (S := S) P7 61 x0].map stripA) (fun q => q = .sc (.bool true)) := by
  refine con311 [argA (S := S) P7 61 x0] _ ?_
  show withP (some (P311 x0)) _
  exact ⟨h, rfl⟩
theorem strip311 (x0 : api_Step) : [argA (S := S) P7 61 x0].map stripA = [.agg (api_Step.cells x0)] := by kernel_rfl
end Go.Rx
namespace Go.Proofs.YtadjcpiiagkdeaaDoor
open Go.Ab Go.Rx Go.L21
theorem ScriptNumbers_ok (x0 : api_Step) (o0 : api_Step.ok x0) : PFg S P7 11 [.agg (api_Step.cells x0)] (.sc (.bool true)) := by
  have h := pf_of_pfk (pf311 x0 (step_ok1 o0))
  rw [strip311] at h
  exact h
end Go.Proofs.YtadjcpiiagkdeaaDoor
