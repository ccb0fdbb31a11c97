import Derived.Test.YtadmpldpipagnaaDoorC5
set_option linter.unusedVariables false
set_option linter.unusedSimpArgs false
/-! What the law StreamJunk hands back. -/
namespace Go.Rx
open Go.Ab Go.L10
set_option maxRecDepth 100000
theorem con305 : ∀ (args : List (AV S.A)) (k : AV S.A → Prop), appC (S := S) P7 [4] [22, 22] W305 args k → PFk (S := S) P7 5 (args.map stripA) k := ok305.1
theorem pf305 (x0 : List Int) (x1 : List Int) (h : P305 x0 x1) : PFk (S := S) P7 5 ([argA (S := S) P7 22 x0, argA (S := S) P7 22 x1].map stripA) (fun q => q = .sc (.bool true)) := by
  refine con305 [argA (S := S) P7 22 x0, argA (S := S) P7 22 x1] _ ?_
  show withP (some (P305 x0 x1)) _
  exact ⟨h, rfl⟩
theorem strip305 (x0 : List Int) (x1 : List Int) : [argA (S := S) P7 22 x0, argA (S := S) P7 22 x1].map stripA = [.sem (SL (eI .u8) x0), .sem (SL (eI .u8) x1)] := by kernel_rfl
end Go.Rx
namespace Go.Proofs.YtadmpldpipagnaaDoor
open Go.Ab Go.Rx Go.L10
theorem StreamJunk_ok (x0 : List Int) (x1 : List Int) (o0 : okL (okI .u8) x0) (o1 : okL (okI .u8) x1) : PFg S P7 5 [.sem (SL (eI .u8) x0), .sem (SL (eI .u8) x1)] (.sc (.bool true)) := by
  have h := pf_of_pfk (pf305 x0 x1 (⟨byt_ok o0, byt_ok o1⟩))
  rw [strip305] at h
  exact h
end Go.Proofs.YtadmpldpipagnaaDoor
