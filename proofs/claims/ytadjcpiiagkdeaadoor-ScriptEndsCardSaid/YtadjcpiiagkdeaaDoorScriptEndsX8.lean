import Derived.Test.YtadjcpiiagkdeaaDoorT7
set_option linter.unusedVariables false
set_option linter.unusedSimpArgs false
/-! What the law ScriptEnds hands back. -/
namespace Go.Rx
open Go.Ab Go.L21
set_option maxRecDepth 100000
theorem con310 : ∀ (args : List (AV S.A)) (k : AV S.A → Prop), appC (S := S) P7 [4] [49] W310 args k → PFk (S := S) P7 10 (args.map stripA) k := ok310.1
theorem pf310 (x0 : List api_Step) (h : P310 x0) : PFk (S := S) P7 10 ([argA (S := S) P7 49 x0].map stripA) (fun q => q = .sc (.bool true)) := by
  refine con310 [argA (S := S) P7 49 x0] _ ?_
  show withP (some (P310 x0)) _
  exact ⟨h, rfl⟩
theorem strip310 (x0 : List api_Step) : [argA (S := S) P7 49 x0].map stripA = [.sem (SL api_Step.enc x0)] := by kernel_rfl
end Go.Rx
namespace Go.Proofs.YtadjcpiiagkdeaaDoor
open Go.Ab Go.Rx Go.L21
theorem ScriptEnds_ok (x0 : List api_Step) (o0 : okL api_Step.ok x0) : PFg S P7 10 [.sem (SL api_Step.enc x0)] (.sc (.bool true)) := by
  have h := pf_of_pfk (pf310 x0 (steps_ok o0))
  rw [strip310] at h
  exact h
end Go.Proofs.YtadjcpiiagkdeaaDoor
