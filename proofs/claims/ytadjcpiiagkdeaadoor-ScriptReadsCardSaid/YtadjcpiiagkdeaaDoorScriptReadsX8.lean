import Derived.Test.YtadjcpiiagkdeaaDoorT7
set_option linter.unusedVariables false
set_option linter.unusedSimpArgs false
/-! What the law ScriptReads hands back. -/
namespace Go.Rx
open Go.Ab Go.L21
set_option maxRecDepth 100000
theorem con308 : ∀ (args : List (AV S.A)) (k : AV S.A → Prop), appC (S := S) P7 [4] [9] W308 args k → PFk (S := S) P7 8 (args.map stripA) k := ok308.1
theorem pf308 (x0 : ByteArray) (h : P308 x0) : PFk (S := S) P7 8 ([argA (S := S) P7 9 x0].map stripA) (fun q => q = .sc (.bool true)) := by
  refine con308 [argA (S := S) P7 9 x0] _ ?_
  show withP (some (P308 x0)) _
  exact ⟨h, rfl⟩
theorem strip308 (x0 : ByteArray) : [argA (S := S) P7 9 x0].map stripA = [.sc (.string x0)] := by kernel_rfl
end Go.Rx
namespace Go.Proofs.YtadjcpiiagkdeaaDoor
open Go.Ab Go.Rx Go.L21
theorem ScriptReads_ok (x0 : ByteArray) (o0 : okS x0) : PFg S P7 8 [.sc (.string x0)] (.sc (.bool true)) := by
  have h := pf_of_pfk (pf308 x0 (text_ok o0))
  rw [strip308] at h
  exact h
end Go.Proofs.YtadjcpiiagkdeaaDoor
