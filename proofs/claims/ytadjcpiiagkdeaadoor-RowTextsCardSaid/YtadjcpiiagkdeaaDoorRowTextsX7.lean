import Derived.Test.YtadjcpiiagkdeaaDoorP6
set_option linter.unusedVariables false
set_option linter.unusedSimpArgs false
/-! What the law RowTexts hands back. -/
namespace Go.Rx
open Go.Ab Go.L21
set_option maxRecDepth 100000
theorem con303 : ∀ (args : List (AV S.A)) (k : AV S.A → Prop), appC (S := S) P7 [4] [22, 9] W303 args k → PFk (S := S) P7 3 (args.map stripA) k := ok303.1
theorem pf303 (x0 : List ByteArray) (x1 : ByteArray) (h : P303 x0 x1) : PFk (S := S) P7 3 ([argA (S := S) P7 22 x0, argA (S := S) P7 9 x1].map stripA) (fun q => q = .sc (.bool true)) := by
  refine con303 [argA (S := S) P7 22 x0, argA (S := S) P7 9 x1] _ ?_
  show withP (some (P303 x0 x1)) _
  exact ⟨h, rfl⟩
theorem strip303 (x0 : List ByteArray) (x1 : ByteArray) : [argA (S := S) P7 22 x0, argA (S := S) P7 9 x1].map stripA = [.sem (SL eS x0), .sc (.string x1)] := by kernel_rfl
end Go.Rx
namespace Go.Proofs.YtadjcpiiagkdeaaDoor
open Go.Ab Go.Rx Go.L21
theorem RowTexts_ok (x0 : List ByteArray) (x1 : ByteArray) (o0 : okL okS x0) (o1 : okS x1) : PFg S P7 3 [.sem (SL eS x0), .sc (.string x1)] (.sc (.bool true)) := by
  have h := pf_of_pfk (pf303 x0 x1 (few_ok o0))
  rw [strip303] at h
  exact h
end Go.Proofs.YtadjcpiiagkdeaaDoor
