import Derived.Test.YtadjcpiiagkdeaaDoorP6
set_option linter.unusedVariables false
set_option linter.unusedSimpArgs false
/-! What the law RowPeers hands back. -/
namespace Go.Rx
open Go.Ab Go.L21
set_option maxRecDepth 100000
theorem con306 : ∀ (args : List (AV S.A)) (k : AV S.A → Prop), appC (S := S) P7 [4] [42] W306 args k → PFk (S := S) P7 6 (args.map stripA) k := ok306.1
theorem pf306 (x0 : api_PeerConf) (h : P306 x0) : PFk (S := S) P7 6 ([argA (S := S) P7 42 x0].map stripA) (fun q => q = .sc (.bool true)) := by
  refine con306 [argA (S := S) P7 42 x0] _ ?_
  show withP (some (P306 x0)) _
  exact ⟨h, rfl⟩
theorem strip306 (x0 : api_PeerConf) : [argA (S := S) P7 42 x0].map stripA = [.agg (api_PeerConf.cells x0)] := by kernel_rfl
end Go.Rx
namespace Go.Proofs.YtadjcpiiagkdeaaDoor
open Go.Ab Go.Rx Go.L21
theorem RowPeers_ok (x0 : api_PeerConf) (o0 : api_PeerConf.ok x0) : PFg S P7 6 [.agg (api_PeerConf.cells x0)] (.sc (.bool true)) := by
  have h := pf_of_pfk (pf306 x0 (peer_ok o0))
  rw [strip306] at h
  exact h
end Go.Proofs.YtadjcpiiagkdeaaDoor
