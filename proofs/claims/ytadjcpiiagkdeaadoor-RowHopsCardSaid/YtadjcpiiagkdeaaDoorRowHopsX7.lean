import Derived.Test.YtadjcpiiagkdeaaDoorP6
set_option linter.unusedVariables false
set_option linter.unusedSimpArgs false
/-! What the law RowHops hands back. -/
namespace Go.Rx
open Go.Ab Go.L21
set_option maxRecDepth 100000
theorem con304 : ∀ (args : List (AV S.A)) (k : AV S.A → Prop), appC (S := S) P7 [4] [35] W304 args k → PFk (S := S) P7 4 (args.map stripA) k := ok304.1
theorem pf304 (x0 : api_Hop) (h : P304 x0) : PFk (S := S) P7 4 ([argA (S := S) P7 35 x0].map stripA) (fun q => q = .sc (.bool true)) := by
  refine con304 [argA (S := S) P7 35 x0] _ ?_
  show withP (some (P304 x0)) _
  exact ⟨h, rfl⟩
theorem strip304 (x0 : api_Hop) : [argA (S := S) P7 35 x0].map stripA = [.agg (api_Hop.cells x0)] := by kernel_rfl
end Go.Rx
namespace Go.Proofs.YtadjcpiiagkdeaaDoor
open Go.Ab Go.Rx Go.L21
theorem RowHops_ok (x0 : api_Hop) (o0 : api_Hop.ok x0) : PFg S P7 4 [.agg (api_Hop.cells x0)] (.sc (.bool true)) := by
  have h := pf_of_pfk (pf304 x0 (hop_ok o0))
  rw [strip304] at h
  exact h
end Go.Proofs.YtadjcpiiagkdeaaDoor
