import Derived.Test.YtadjcpiiagkdeaaDoorP6
set_option linter.unusedVariables false
set_option linter.unusedSimpArgs false
/-! What the law RowUnlike hands back. -/
namespace Go.Rx
open Go.Ab Go.L21
set_option maxRecDepth 100000
theorem con305 : ∀ (args : List (AV S.A)) (k : AV S.A → Prop), appC (S := S) P7 [4] [35, 35, 42, 42] W305 args k → PFk (S := S) P7 5 (args.map stripA) k := ok305.1
theorem pf305 (x0 : api_Hop) (x1 : api_Hop) (x2 : api_PeerConf) (x3 : api_PeerConf) (h : P305 x0 x1 x2 x3) : PFk (S := S) P7 5 ([argA (S := S) P7 35 x0, argA (S := S) P7 35 x1, argA (S := S) P7 42 x2, argA (S := S) P7 42 x3].map stripA) (fun q => q = .sc (.bool true)) := by
  refine con305 [argA (S := S) P7 35 x0, argA (S := S) P7 35 x1, argA (S := S) P7 42 x2, argA (S := S) P7 42 x3] _ ?_
  show withP (some (P305 x0 x1 x2 x3)) _
  exact ⟨h, rfl⟩
theorem strip305 (x0 : api_Hop) (x1 : api_Hop) (x2 : api_PeerConf) (x3 : api_PeerConf) : [argA (S := S) P7 35 x0, argA (S := S) P7 35 x1, argA (S := S) P7 42 x2, argA (S := S) P7 42 x3].map stripA = [.agg (api_Hop.cells x0), .agg (api_Hop.cells x1), .agg (api_PeerConf.cells x2), .agg (api_PeerConf.cells x3)] := by kernel_rfl
end Go.Rx
namespace Go.Proofs.YtadjcpiiagkdeaaDoor
open Go.Ab Go.Rx Go.L21
theorem RowUnlike_ok (x0 : api_Hop) (x1 : api_Hop) (x2 : api_PeerConf) (x3 : api_PeerConf) (o0 : api_Hop.ok x0) (o1 : api_Hop.ok x1) (o2 : api_PeerConf.ok x2) (o3 : api_PeerConf.ok x3) : PFg S P7 5 [.agg (api_Hop.cells x0), .agg (api_Hop.cells x1), .agg (api_PeerConf.cells x2), .agg (api_PeerConf.cells x3)] (.sc (.bool true)) := by
  have h := pf_of_pfk (pf305 x0 x1 x2 x3 (⟨hop_ok o0, hop_ok o1, peer_ok o2, peer_ok o3⟩))
  rw [strip305] at h
  exact h
end Go.Proofs.YtadjcpiiagkdeaaDoor
