import Derived.Test.YtepnimdjcnjlfaaDoorRcFnMsg
namespace Go.Proofs.YtepnimdjcnjlfaaDoor
open Go.Ab
set_option linter.unusedSimpArgs false
set_option linter.unusedVariables false
set_option maxRecDepth 100000 in
theorem law09_true : law09_answers = true := by kernel_rfl
theorem enc_note (l : List Int) : msg_Encode (⟨3, (⟨0, 0, 0, (⟨false, 0, false, false, 0, false, false, false, 0⟩ : api_Caps)⟩ : api_Open), (⟨[], (⟨0, [], 0, 0, 0, [], []⟩ : api_Attrs), []⟩ : api_Update), (⟨6, 0, l⟩ : api_Note)⟩ : api_Msg) = bif decide ((4077 : Int) < ((l.length + 2 : Nat) : Int)) then [] else msg_two (bytes_Repeat16 255) (IntKind.wrap .i64 (19 + ((l.length + 2 : Nat) : Int))) ++ [3] ++ ([6, 0] ++ l) := by
  have h1 : IntKind.wrap .u8 6 = 6 := rfl
  have h2 : IntKind.wrap .u8 0 = 0 := rfl
  have h3 : IntKind.wrap .u8 3 = 3 := rfl
  simp [msg_Encode, msg_body, h1, h2, h3]
  rfl
end Go.Proofs.YtepnimdjcnjlfaaDoor
