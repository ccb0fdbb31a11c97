import Derived.Test.YtkmmnfcjbalboaaDoorC5
set_option linter.unusedVariables false
set_option linter.unusedSimpArgs false
namespace Go.Rx
open Go.Ab Go.L7
set_option maxRecDepth 100000
set_option maxHeartbeats 20000000
set_option linter.unusedVariables false
/-- interregnum/interregnumref05.Attrs -/
noncomputable def C16 : Cfg S := { P := P7, inl := [], K := [(33, ctr P7 [3] [30] (fun x0 => (none, S33 x0))), (14, ctr P7 [27] [4] (fun x0 => (none, S14 x0))), (32, ctr P7 [22] [30] (fun x0 => (some (P32 x0), S32 x0)))], ann := [(16, [(8, .join [(.sl 3, .own 5)]), (10, .join [(.sl 3, .own 5)]), (22, .join [(.sl 3, .own 5)]), (24, .join [(.sl 3, .own 5)]), (23, .loop [(.sl 3, .own 5), (.sl 7, .int .i64)]), (17, .loop [(.sl 5, .own 5), (.sl 6, .int .i64)]), (12, .join [(.sl 3, .own 5)]), (11, .loop [(.sl 3, .own 5), (.sl 4, .int .i64)]), (5, .join [(.sl 3, .own 5)]), (6, .join [(.sl 3, .own 5)])])] }
abbrev W16 : CT S [30] [27] := (fun x0 => (some (P16 x0), S16 x0))
abbrev Ok16 : Prop := ConOk P7 16 (ctr P7 [27] [30] W16) ∧ ConMon (ctr P7 [27] [30] W16)
theorem q16 (x0 : api_Attrs) (v : HR S [30]) : (Xf C16 6 (emp 0) 16 (argsA C16 [⟨27, x0⟩]) (emp 0) (fun r _ => isR C16.P [30] v r) (fun _ _ => False)) = (bif
 !S14 x0 then [] = v else ([IntKind.u8.wrap (64 : Int), IntKind.u8.wrap (1 : Int), IntKind.u8.wrap (↑[IntKind.u8.wrap x0.fOrigin].length : Int)].length =
 [IntKind.u8.wrap (64 : Int), IntKind.u8.wrap (1 : Int), IntKind.u8.wrap (↑[IntKind.u8.wrap x0.fOrigin].length : Int)].length ∧ ([IntKind.u8.wrap (64 : Int),
 IntKind.u8.wrap (1 : Int), IntKind.u8.wrap (↑[IntKind.u8.wrap x0.fOrigin].length : Int)].length + [IntKind.u8.wrap x0.fOrigin].length) * nat_lit 1 ≤ nat_lit
 140737488355328) ∧ ∀ (y : List (Int)), y = [IntKind.u8.wrap (64 : Int), IntKind.u8.wrap (1 : Int), IntKind.u8.wrap (↑[IntKind.u8.wrap x0.fOrigin].length :
 Int)] ++ [IntKind.u8.wrap x0.fOrigin] → y.length = y.length ∧ JP (fun (h : List Int) => h.length = h.length ∧ JP (fun (h : List Int) => h.length = h.length ∧
 JP (fun (h : List Int) => h.length = h.length ∧ JP (fun (h : List Int) => h.length = h.length ∧ LOOP (fun (h : List Int × Int) (J : List Int × Int → Prop) =>
 bif decide (h.snd < (↑x0.fRaws.length : Int)) then h.fst.length = h.fst.length ∧ JP (fun (h_1 : List Int) => h_1.length = h_1.length ∧ J (h_1,
 IntKind.i64.wrap (h.snd + (1 : Int)))) fun (J : List Int → Prop) => ((0 : Int) ≤ h.snd ∧ h.snd < (↑x0.fRaws.length : Int)) ∧ bif decide ((ix x0.fRaws
 h.snd).fType < (8 : Int)) then ((0 : Int) ≤ h.snd ∧ h.snd < (↑x0.fRaws.length : Int)) ∧ ((0 : Int) ≤ h.snd ∧ h.snd < (↑x0.fRaws.length : Int)) ∧ ((0 : Int) ≤
 h.snd ∧ h.snd < (↑x0.fRaws.length : Int)) ∧ bif decide ((255 : Int) < (↑(ix x0.fRaws h.snd).fData.length : Int)) then ([IntKind.u8.wrap (IntKind.i64.wrap ((ix
 x0.fRaws h.snd).fFlags + (16 : Int))), IntKind.u8.wrap (ix x0.fRaws h.snd).fType, IntKind.u8.wrap (IntKind.i64.wrap ((↑(ix x0.fRaws h.snd).fData.length :
 Int).tdiv (256 : Int))), IntKind.u8.wrap ((↑(ix x0.fRaws h.snd).fData.length : Int).tmod (256 : Int))].length = [IntKind.u8.wrap (IntKind.i64.wrap ((ix
 x0.fRaws h.snd).fFlags + (16 : Int))), IntKind.u8.wrap (ix x0.fRaws h.snd).fType, IntKind.u8.wrap (IntKind.i64.wrap ((↑(ix x0.fRaws h.snd).fData.length :
 Int).tdiv (256 : Int))), IntKind.u8.wrap ((↑(ix x0.fRaws h.snd).fData.length : Int).tmod (256 : Int))].length ∧ ([IntKind.u8.wrap (IntKind.i64.wrap ((ix
 x0.fRaws h.snd).fFlags + (16 : Int))), IntKind.u8.wrap (ix x0.fRaws h.snd).fType, IntKind.u8.wrap (IntKind.i64.wrap ((↑(ix x0.fRaws h.snd).fData.length :
 Int).tdiv (256 : Int))), IntKind.u8.wrap ((↑(ix x0.fRaws h.snd).fData.length : Int).tmod (256 : Int))].length + (ix x0.fRaws h.snd).fData.length) * nat_lit 1
 ≤ nat_lit 140737488355328) ∧ ∀ (y : List (Int)), y = [IntKind.u8.wrap (IntKind.i64.wrap ((ix x0.fRaws h.snd).fFlags + (16 : Int))), IntKind.u8.wrap (ix
 x0.fRaws h.snd).fType, IntKind.u8.wrap (IntKind.i64.wrap ((↑(ix x0.fRaws h.snd).fData.length : Int).tdiv (256 : Int))), IntKind.u8.wrap ((↑(ix x0.fRaws
 h.snd).fData.length : Int).tmod (256 : Int))] ++ (ix x0.fRaws h.snd).fData → (h.fst.length = h.fst.length ∧ (h.fst.length + y.length) * nat_lit 1 ≤ nat_lit
 140737488355328) ∧ ∀ (y_1 : List (Int)), y_1 = h.fst ++ y → y_1.length = y_1.length ∧ J y_1 else ([IntKind.u8.wrap (ix x0.fRaws h.snd).fFlags, IntKind.u8.wrap
 (ix x0.fRaws h.snd).fType, IntKind.u8.wrap (↑(ix x0.fRaws h.snd).fData.length : Int)].length = [IntKind.u8.wrap (ix x0.fRaws h.snd).fFlags, IntKind.u8.wrap
 (ix x0.fRaws h.snd).fType, IntKind.u8.wrap (↑(ix x0.fRaws h.snd).fData.length : Int)].length ∧ ([IntKind.u8.wrap (ix x0.fRaws h.snd).fFlags, IntKind.u8.wrap
 (ix x0.fRaws h.snd).fType, IntKind.u8.wrap (↑(ix x0.fRaws h.snd).fData.length : Int)].length + (ix x0.fRaws h.snd).fData.length) * nat_lit 1 ≤ nat_lit
 140737488355328) ∧ ∀ (y : List (Int)), y = [IntKind.u8.wrap (ix x0.fRaws h.snd).fFlags, IntKind.u8.wrap (ix x0.fRaws h.snd).fType, IntKind.u8.wrap (↑(ix
 x0.fRaws h.snd).fData.length : Int)] ++ (ix x0.fRaws h.snd).fData → (h.fst.length = h.fst.length ∧ (h.fst.length + y.length) * nat_lit 1 ≤ nat_lit
 140737488355328) ∧ ∀ (y_1 : List (Int)), y_1 = h.fst ++ y → y_1.length = y_1.length ∧ J y_1 else h.fst.length = h.fst.length ∧ J h.fst else LOOP (fun (h_1 :
 List Int × Int) (J : List Int × Int → Prop) => bif decide (h_1.snd < (↑x0.fComms.length : Int)) then ((0 : Int) ≤ h_1.snd ∧ h_1.snd < (↑x0.fComms.length :
 Int)) ∧ (h_1.fst.length = h_1.fst.length ∧ (h_1.fst.length + (S33 (IntKind.i64.wrap (ix x0.fComms h_1.snd))).length) * nat_lit 1 ≤ nat_lit 140737488355328) ∧
 ∀ (y : List (Int)), y = h_1.fst ++ S33 (IntKind.i64.wrap (ix x0.fComms h_1.snd)) → y.length = y.length ∧ J (y, IntKind.i64.wrap (h_1.snd + (1 : Int))) else
 h.fst.length = h.fst.length ∧ JP (fun (h : List Int) => h.length = h.length ∧ LOOP (fun (h : List Int × Int) (J : List Int × Int → Prop) => bif decide (h.snd
 < (↑x0.fRaws.length : Int)) then h.fst.length = h.fst.length ∧ JP (fun (h_2 : List Int) => h_2.length = h_2.length ∧ J (h_2, IntKind.i64.wrap (h.snd + (1 :
 Int)))) fun (J : List Int → Prop) => ((0 : Int) ≤ h.snd ∧ h.snd < (↑x0.fRaws.length : Int)) ∧ bif decide ((8 : Int) < (ix x0.fRaws h.snd).fType) then ((0 :
 Int) ≤ h.snd ∧ h.snd < (↑x0.fRaws.length : Int)) ∧ ((0 : Int) ≤ h.snd ∧ h.snd < (↑x0.fRaws.length : Int)) ∧ ((0 : Int) ≤ h.snd ∧ h.snd < (↑x0.fRaws.length :
 Int)) ∧ bif decide ((255 : Int) < (↑(ix x0.fRaws h.snd).fData.length : Int)) then ([IntKind.u8.wrap (IntKind.i64.wrap ((ix x0.fRaws h.snd).fFlags + (16 :
 Int))), IntKind.u8.wrap (ix x0.fRaws h.snd).fType, IntKind.u8.wrap (IntKind.i64.wrap ((↑(ix x0.fRaws h.snd).fData.length : Int).tdiv (256 : Int))),
 IntKind.u8.wrap ((↑(ix x0.fRaws h.snd).fData.length : Int).tmod (256 : Int))].length = [IntKind.u8.wrap (IntKind.i64.wrap ((ix x0.fRaws h.snd).fFlags + (16 :
 Int))), IntKind.u8.wrap (ix x0.fRaws h.snd).fType, IntKind.u8.wrap (IntKind.i64.wrap ((↑(ix x0.fRaws h.snd).fData.length : Int).tdiv (256 : Int))),
 IntKind.u8.wrap ((↑(ix x0.fRaws h.snd).fData.length : Int).tmod (256 : Int))].length ∧ ([IntKind.u8.wrap (IntKind.i64.wrap ((ix x0.fRaws h.snd).fFlags + (16 :
 Int))), IntKind.u8.wrap (ix x0.fRaws h.snd).fType, IntKind.u8.wrap (IntKind.i64.wrap ((↑(ix x0.fRaws h.snd).fData.length : Int).tdiv (256 : Int))),
 IntKind.u8.wrap ((↑(ix x0.fRaws h.snd).fData.length : Int).tmod (256 : Int))].length + (ix x0.fRaws h.snd).fData.length) * nat_lit 1 ≤ nat_lit
 140737488355328) ∧ ∀ (y : List (Int)), y = [IntKind.u8.wrap (IntKind.i64.wrap ((ix x0.fRaws h.snd).fFlags + (16 : Int))), IntKind.u8.wrap (ix x0.fRaws
 h.snd).fType, IntKind.u8.wrap (IntKind.i64.wrap ((↑(ix x0.fRaws h.snd).fData.length : Int).tdiv (256 : Int))), IntKind.u8.wrap ((↑(ix x0.fRaws
 h.snd).fData.length : Int).tmod (256 : Int))] ++ (ix x0.fRaws h.snd).fData → (h.fst.length = h.fst.length ∧ (h.fst.length + y.length) * nat_lit 1 ≤ nat_lit
 140737488355328) ∧ ∀ (y_1 : List (Int)), y_1 = h.fst ++ y → y_1.length = y_1.length ∧ J y_1 else ([IntKind.u8.wrap (ix x0.fRaws h.snd).fFlags, IntKind.u8.wrap
 (ix x0.fRaws h.snd).fType, IntKind.u8.wrap (↑(ix x0.fRaws h.snd).fData.length : Int)].length = [IntKind.u8.wrap (ix x0.fRaws h.snd).fFlags, IntKind.u8.wrap
 (ix x0.fRaws h.snd).fType, IntKind.u8.wrap (↑(ix x0.fRaws h.snd).fData.length : Int)].length ∧ ([IntKind.u8.wrap (ix x0.fRaws h.snd).fFlags, IntKind.u8.wrap
 (ix x0.fRaws h.snd).fType, IntKind.u8.wrap (↑(ix x0.fRaws h.snd).fData.length : Int)].length + (ix x0.fRaws h.snd).fData.length) * nat_lit 1 ≤ nat_lit
 140737488355328) ∧ ∀ (y : List (Int)), y = [IntKind.u8.wrap (ix x0.fRaws h.snd).fFlags, IntKind.u8.wrap (ix x0.fRaws h.snd).fType, IntKind.u8.wrap (↑(ix
 x0.fRaws h.snd).fData.length : Int)] ++ (ix x0.fRaws h.snd).fData → (h.fst.length = h.fst.length ∧ (h.fst.length + y.length) * nat_lit 1 ≤ nat_lit
 140737488355328) ∧ ∀ (y_1 : List (Int)), y_1 = h.fst ++ y → y_1.length = y_1.length ∧ J y_1 else h.fst.length = h.fst.length ∧ J h.fst else h.fst = v) (h, (0
 : Int))) fun (J : List Int → Prop) => bif decide ((0 : Int) < (↑h_1.fst.length : Int)) then bif decide ((255 : Int) < (↑h_1.fst.length : Int)) then
 ([IntKind.u8.wrap (IntKind.i64.wrap ((192 : Int) + (16 : Int))), IntKind.u8.wrap (8 : Int), IntKind.u8.wrap (IntKind.i64.wrap ((↑h_1.fst.length : Int).tdiv
 (256 : Int))), IntKind.u8.wrap ((↑h_1.fst.length : Int).tmod (256 : Int))].length = [IntKind.u8.wrap (IntKind.i64.wrap ((192 : Int) + (16 : Int))),
 IntKind.u8.wrap (8 : Int), IntKind.u8.wrap (IntKind.i64.wrap ((↑h_1.fst.length : Int).tdiv (256 : Int))), IntKind.u8.wrap ((↑h_1.fst.length : Int).tmod (256 :
 Int))].length ∧ ([IntKind.u8.wrap (IntKind.i64.wrap ((192 : Int) + (16 : Int))), IntKind.u8.wrap (8 : Int), IntKind.u8.wrap (IntKind.i64.wrap
 ((↑h_1.fst.length : Int).tdiv (256 : Int))), IntKind.u8.wrap ((↑h_1.fst.length : Int).tmod (256 : Int))].length + h_1.fst.length) * nat_lit 1 ≤ nat_lit
 140737488355328) ∧ ∀ (y : List (Int)), y = [IntKind.u8.wrap (IntKind.i64.wrap ((192 : Int) + (16 : Int))), IntKind.u8.wrap (8 : Int), IntKind.u8.wrap
 (IntKind.i64.wrap ((↑h_1.fst.length : Int).tdiv (256 : Int))), IntKind.u8.wrap ((↑h_1.fst.length : Int).tmod (256 : Int))] ++ h_1.fst → (h.fst.length =
 h.fst.length ∧ (h.fst.length + y.length) * nat_lit 1 ≤ nat_lit 140737488355328) ∧ ∀ (y_1 : List (Int)), y_1 = h.fst ++ y → y_1.length = y_1.length ∧ J y_1
 else ([IntKind.u8.wrap (192 : Int), IntKind.u8.wrap (8 : Int), IntKind.u8.wrap (↑h_1.fst.length : Int)].length = [IntKind.u8.wrap (192 : Int), IntKind.u8.wrap
 (8 : Int), IntKind.u8.wrap (↑h_1.fst.length : Int)].length ∧ ([IntKind.u8.wrap (192 : Int), IntKind.u8.wrap (8 : Int), IntKind.u8.wrap (↑h_1.fst.length :
 Int)].length + h_1.fst.length) * nat_lit 1 ≤ nat_lit 140737488355328) ∧ ∀ (y : List (Int)), y = [IntKind.u8.wrap (192 : Int), IntKind.u8.wrap (8 : Int),
 IntKind.u8.wrap (↑h_1.fst.length : Int)] ++ h_1.fst → (h.fst.length = h.fst.length ∧ (h.fst.length + y.length) * nat_lit 1 ≤ nat_lit 140737488355328) ∧ ∀ (y_1
 : List (Int)), y_1 = h.fst ++ y → y_1.length = y_1.length ∧ J y_1 else h.fst.length = h.fst.length ∧ J h.fst) ([], (0 : Int))) (h, (0 : Int))) fun (J : List
 Int → Prop) => bif decide ((0 : Int) ≤ x0.fPref) then ([IntKind.u8.wrap (64 : Int), IntKind.u8.wrap (5 : Int), IntKind.u8.wrap (↑(S33 x0.fPref).length :
 Int)].length = [IntKind.u8.wrap (64 : Int), IntKind.u8.wrap (5 : Int), IntKind.u8.wrap (↑(S33 x0.fPref).length : Int)].length ∧ ([IntKind.u8.wrap (64 : Int),
 IntKind.u8.wrap (5 : Int), IntKind.u8.wrap (↑(S33 x0.fPref).length : Int)].length + (S33 x0.fPref).length) * nat_lit 1 ≤ nat_lit 140737488355328) ∧ ∀ (y :
 List (Int)), y = [IntKind.u8.wrap (64 : Int), IntKind.u8.wrap (5 : Int), IntKind.u8.wrap (↑(S33 x0.fPref).length : Int)] ++ S33 x0.fPref → (h.length =
 h.length ∧ (h.length + y.length) * nat_lit 1 ≤ nat_lit 140737488355328) ∧ ∀ (y_1 : List (Int)), y_1 = h ++ y → y_1.length = y_1.length ∧ J y_1 else h.length =
 h.length ∧ J h) fun (J : List Int → Prop) => bif decide ((0 : Int) ≤ x0.fMed) then ([IntKind.u8.wrap (128 : Int), IntKind.u8.wrap (4 : Int), IntKind.u8.wrap
 (↑(S33 x0.fMed).length : Int)].length = [IntKind.u8.wrap (128 : Int), IntKind.u8.wrap (4 : Int), IntKind.u8.wrap (↑(S33 x0.fMed).length : Int)].length ∧
 ([IntKind.u8.wrap (128 : Int), IntKind.u8.wrap (4 : Int), IntKind.u8.wrap (↑(S33 x0.fMed).length : Int)].length + (S33 x0.fMed).length) * nat_lit 1 ≤ nat_lit
 140737488355328) ∧ ∀ (y : List (Int)), y = [IntKind.u8.wrap (128 : Int), IntKind.u8.wrap (4 : Int), IntKind.u8.wrap (↑(S33 x0.fMed).length : Int)] ++ S33
 x0.fMed → (h.length = h.length ∧ (h.length + y.length) * nat_lit 1 ≤ nat_lit 140737488355328) ∧ ∀ (y_1 : List (Int)), y_1 = h ++ y → y_1.length = y_1.length ∧
 J y_1 else h.length = h.length ∧ J h) fun (J : List Int → Prop) => ([IntKind.u8.wrap (64 : Int), IntKind.u8.wrap (3 : Int), IntKind.u8.wrap (↑(S33
 (IntKind.i64.wrap x0.fNext)).length : Int)].length = [IntKind.u8.wrap (64 : Int), IntKind.u8.wrap (3 : Int), IntKind.u8.wrap (↑(S33 (IntKind.i64.wrap
 x0.fNext)).length : Int)].length ∧ ([IntKind.u8.wrap (64 : Int), IntKind.u8.wrap (3 : Int), IntKind.u8.wrap (↑(S33 (IntKind.i64.wrap x0.fNext)).length :
 Int)].length + (S33 (IntKind.i64.wrap x0.fNext)).length) * nat_lit 1 ≤ nat_lit 140737488355328) ∧ ∀ (y : List (Int)), y = [IntKind.u8.wrap (64 : Int),
 IntKind.u8.wrap (3 : Int), IntKind.u8.wrap (↑(S33 (IntKind.i64.wrap x0.fNext)).length : Int)] ++ S33 (IntKind.i64.wrap x0.fNext) → (h.length = h.length ∧
 (h.length + y.length) * nat_lit 1 ≤ nat_lit 140737488355328) ∧ ∀ (y_1 : List (Int)), y_1 = h ++ y → y_1.length = y_1.length ∧ J y_1) fun (J : List Int → Prop)
 => x0.fPath.length.le (nat_lit 140737488355328) ∧ bif decide ((255 : Int) < (↑(S32 x0.fPath).length : Int)) then ([IntKind.u8.wrap (IntKind.i64.wrap ((64 :
 Int) + (16 : Int))), IntKind.u8.wrap (2 : Int), IntKind.u8.wrap (IntKind.i64.wrap ((↑(S32 x0.fPath).length : Int).tdiv (256 : Int))), IntKind.u8.wrap ((↑(S32
 x0.fPath).length : Int).tmod (256 : Int))].length = [IntKind.u8.wrap (IntKind.i64.wrap ((64 : Int) + (16 : Int))), IntKind.u8.wrap (2 : Int), IntKind.u8.wrap
 (IntKind.i64.wrap ((↑(S32 x0.fPath).length : Int).tdiv (256 : Int))), IntKind.u8.wrap ((↑(S32 x0.fPath).length : Int).tmod (256 : Int))].length ∧
 ([IntKind.u8.wrap (IntKind.i64.wrap ((64 : Int) + (16 : Int))), IntKind.u8.wrap (2 : Int), IntKind.u8.wrap (IntKind.i64.wrap ((↑(S32 x0.fPath).length :
 Int).tdiv (256 : Int))), IntKind.u8.wrap ((↑(S32 x0.fPath).length : Int).tmod (256 : Int))].length + (S32 x0.fPath).length) * nat_lit 1 ≤ nat_lit
 140737488355328) ∧ ∀ (y_1 : List (Int)), y_1 = [IntKind.u8.wrap (IntKind.i64.wrap ((64 : Int) + (16 : Int))), IntKind.u8.wrap (2 : Int), IntKind.u8.wrap
 (IntKind.i64.wrap ((↑(S32 x0.fPath).length : Int).tdiv (256 : Int))), IntKind.u8.wrap ((↑(S32 x0.fPath).length : Int).tmod (256 : Int))] ++ S32 x0.fPath →
 (y.length = y.length ∧ (y.length + y_1.length) * nat_lit 1 ≤ nat_lit 140737488355328) ∧ ∀ (y_2 : List (Int)), y_2 = y ++ y_1 → y_2.length = y_2.length ∧ J y_2
 else ([IntKind.u8.wrap (64 : Int), IntKind.u8.wrap (2 : Int), IntKind.u8.wrap (↑(S32 x0.fPath).length : Int)].length = [IntKind.u8.wrap (64 : Int),
 IntKind.u8.wrap (2 : Int), IntKind.u8.wrap (↑(S32 x0.fPath).length : Int)].length ∧ ([IntKind.u8.wrap (64 : Int), IntKind.u8.wrap (2 : Int), IntKind.u8.wrap
 (↑(S32 x0.fPath).length : Int)].length + (S32 x0.fPath).length) * nat_lit 1 ≤ nat_lit 140737488355328) ∧ ∀ (y_1 : List (Int)), y_1 = [IntKind.u8.wrap (64 :
 Int), IntKind.u8.wrap (2 : Int), IntKind.u8.wrap (↑(S32 x0.fPath).length : Int)] ++ S32 x0.fPath → (y.length = y.length ∧ (y.length + y_1.length) * nat_lit 1
 ≤ nat_lit 140737488355328) ∧ ∀ (y_2 : List (Int)), y_2 = y ++ y_1 → y_2.length = y_2.length ∧ J y_2) := by kernel_rfl
end Go.Rx
/-! What the document writes. -/
namespace Go.Rx
open Go.Ab Go.L7
set_option linter.unusedVariables false
set_option linter.unusedSimpArgs false
set_option maxRecDepth 100000
def oneB (fl t : Int) (d : List Int) : List Int := (if 255 < (d.length : Int) then [IntKind.u8.wrap (IntKind.i64.wrap (fl + 16)), IntKind.u8.wrap t, IntKind.u8.wrap (IntKind.i64.wrap ((d.length : Int).tdiv 256)), IntKind.u8.wrap ((d.length : Int).tmod 256)] else [IntKind.u8.wrap fl, IntKind.u8.wrap t, IntKind.u8.wrap d.length]) ++ d
theorem oneB_eq {fl t : Int} {d : List Int} (hd : d.length ≤ 4611686018427387904) (h : d.length ≤ 255 ∨ fl = 64) : oneB fl t d = putB fl t d := by
  unfold oneB putB
  by_cases hl : 255 < (d.length : Int)
  · rw [if_pos hl, if_pos hl]
    rcases h with h | rfl
    · omega
    · have e1 : IntKind.u8.wrap (IntKind.i64.wrap (64 + 16)) = IntKind.u8.wrap (ior IntKind.i64 64 16) := by decide
      have e2 : (d.length : Int).tdiv 256 = (d.length : Int).fdiv (2 ^ 8) := by
        rw [Int.tdiv_eq_ediv_of_nonneg (by omega), Int.fdiv_eq_ediv_of_nonneg _ (by decide)]; rfl
      have e3 : IntKind.i64.wrap ((d.length : Int).fdiv (2 ^ 8)) = (d.length : Int).fdiv (2 ^ 8) := by
        rw [Int.fdiv_eq_ediv_of_nonneg _ (by decide)]
        exact w64_id (by omega)
      have e4 : IntKind.u8.wrap ((d.length : Int).tmod 256) = IntKind.u8.wrap d.length := by
        rw [Int.tmod_eq_emod_of_nonneg (by omega)]
        show ((d.length : Int) % 256) % 256 = (d.length : Int) % 256
        omega
      rw [e1, e2, e3, e4]
  · rw [if_neg hl, if_neg hl]
theorem one_ap {o d : List Int} {fl t : Int} {J : List Int → Prop} (hb : o.length + d.length + 4 ≤ 140737488355328) (hJ : J (o ++ oneB fl t d)) :
    bif decide ((255 : Int) < (d.length : Int)) then ([IntKind.u8.wrap (IntKind.i64.wrap (fl + 16)), IntKind.u8.wrap t, IntKind.u8.wrap (IntKind.i64.wrap ((d.length : Int).tdiv 256)), IntKind.u8.wrap ((d.length : Int).tmod 256)].length = [IntKind.u8.wrap (IntKind.i64.wrap (fl + 16)), IntKind.u8.wrap t, IntKind.u8.wrap (IntKind.i64.wrap ((d.length : Int).tdiv 256)), IntKind.u8.wrap ((d.length : Int).tmod 256)].length ∧ ([IntKind.u8.wrap (IntKind.i64.wrap (fl + 16)), IntKind.u8.wrap t, IntKind.u8.wrap (IntKind.i64.wrap ((d.length : Int).tdiv 256)), IntKind.u8.wrap ((d.length : Int).tmod 256)].length + d.length) * 1 ≤ 140737488355328) ∧ ∀ y : List Int, y = [IntKind.u8.wrap (IntKind.i64.wrap (fl + 16)), IntKind.u8.wrap t, IntKind.u8.wrap (IntKind.i64.wrap ((d.length : Int).tdiv 256)), IntKind.u8.wrap ((d.length : Int).tmod 256)] ++ d → (o.length = o.length ∧ (o.length + y.length) * 1 ≤ 140737488355328) ∧ ∀ y1 : List Int, y1 = o ++ y → y1.length = y1.length ∧ J y1
    else ([IntKind.u8.wrap fl, IntKind.u8.wrap t, IntKind.u8.wrap (d.length : Int)].length = [IntKind.u8.wrap fl, IntKind.u8.wrap t, IntKind.u8.wrap (d.length : Int)].length ∧ ([IntKind.u8.wrap fl, IntKind.u8.wrap t, IntKind.u8.wrap (d.length : Int)].length + d.length) * 1 ≤ 140737488355328) ∧ ∀ y : List Int, y = [IntKind.u8.wrap fl, IntKind.u8.wrap t, IntKind.u8.wrap (d.length : Int)] ++ d → (o.length = o.length ∧ (o.length + y.length) * 1 ≤ 140737488355328) ∧ ∀ y1 : List Int, y1 = o ++ y → y1.length = y1.length ∧ J y1 := by
  unfold oneB at hJ
  refine bif_of (fun e => ⟨⟨rfl, by simp; omega⟩, fun y hy => ⟨⟨rfl, by subst hy; simp; omega⟩, fun y1 h1 => ⟨rfl, ?_⟩⟩⟩) (fun e => ⟨⟨rfl, by simp; omega⟩, fun y hy => ⟨⟨rfl, by subst hy; simp; omega⟩, fun y1 h1 => ⟨rfl, ?_⟩⟩⟩)
  · rw [if_pos (of_decide_eq_true e)] at hJ; rw [h1, hy]; exact hJ
  · rw [if_neg (of_decide_eq_false e)] at hJ; rw [h1, hy]; exact hJ
theorem one_ap3 {o d : List Int} {fl t : Int} {J : List Int → Prop} (hd : d.length ≤ 255) (hb : o.length + d.length + 4 ≤ 140737488355328) (hJ : J (o ++ oneB fl t d)) :
    ([IntKind.u8.wrap fl, IntKind.u8.wrap t, IntKind.u8.wrap (d.length : Int)].length = [IntKind.u8.wrap fl, IntKind.u8.wrap t, IntKind.u8.wrap (d.length : Int)].length ∧ ([IntKind.u8.wrap fl, IntKind.u8.wrap t, IntKind.u8.wrap (d.length : Int)].length + d.length) * 1 ≤ 140737488355328) ∧ ∀ y : List Int, y = [IntKind.u8.wrap fl, IntKind.u8.wrap t, IntKind.u8.wrap (d.length : Int)] ++ d → (o.length = o.length ∧ (o.length + y.length) * 1 ≤ 140737488355328) ∧ ∀ y1 : List Int, y1 = o ++ y → y1.length = y1.length ∧ J y1 := by
  unfold oneB at hJ
  refine ⟨⟨rfl, by simp; omega⟩, fun y hy => ⟨⟨rfl, by subst hy; simp; omega⟩, fun y1 h1 => ⟨rfl, ?_⟩⟩⟩
  rw [if_neg (show ¬ (255 : Int) < (d.length : Int) by omega)] at hJ; rw [h1, hy]; exact hJ
theorem put4_w64 (n : Int) : put4 (IntKind.i64.wrap n) = put4 n := by
  have h8 : ∀ m : Int, IntKind.u8.wrap m = m % 256 := fun m => rfl
  unfold put4
  rw [Go.Ab.wrap64]
  rw [show (2 : Int) ^ 8 = 256 from rfl, show (2 : Int) ^ 16 = 65536 from rfl, show (2 : Int) ^ 24 = 16777216 from rfl]
  simp only [h8]
  rw [Int.fdiv_eq_ediv_of_nonneg _ (by omega), Int.fdiv_eq_ediv_of_nonneg _ (by omega), Int.fdiv_eq_ediv_of_nonneg _ (by omega), Int.fdiv_eq_ediv_of_nonneg _ (by omega), Int.fdiv_eq_ediv_of_nonneg _ (by omega), Int.fdiv_eq_ediv_of_nonneg _ (by omega)]
  congr 1
  · omega
  congr 1
  · omega
  congr 1
  · omega
  congr 1
  omega
/-! ### Raws, ahead of the communities and behind -/
def rB (r : api_Raw) : List Int := putB r.fFlags r.fType r.fData
theorem rawsUp_gt : ∀ {l : List api_Raw} {t : Int}, rawsUp (some t) l = true → ∀ r ∈ l, t < r.fType
  | a :: l, t, h, r, hr => by
    simp only [rawsUp, Bool.and_eq_true, decide_eq_true_eq] at h
    rcases List.mem_cons.1 hr with rfl | hr
    · exact h.1.2
    · have := rawsUp_gt h.2 r hr
      omega
theorem S28_ne8 {r : api_Raw} (h : S28 r = true) : r.fType ≠ 8 := by
  intro e; unfold S28 at h; simp [e] at h
theorem rawsOut_hi (c : List Int) : ∀ {l : List api_Raw} (told : Bool), (∀ r ∈ l, 8 < r.fType) → rawsOut c told l = (if told then [] else putB 192 8 c) ++ l.flatMap rB
  | [], told, _ => by cases told <;> simp [rawsOut]
  | r :: l, told, h => by
    have h8 := h r (by simp)
    have ih := rawsOut_hi c (l := l) true (fun x hx => h x (by simp [hx]))
    rw [rawsOut]
    cases told
    · rw [if_pos ⟨h8, rfl⟩, ih]; simp [rB, List.append_assoc]
    · rw [if_neg (by simp), ih]; simp [rB]
theorem rawsOut_split (c : List Int) (told : Bool) : ∀ {l : List api_Raw} {p : Option Int}, rawsUp p l = true → rawsOut c told l = (l.filter fun r => decide (r.fType < 8)).flatMap rB ++ (if told then [] else putB 192 8 c) ++ (l.filter fun r => decide (8 < r.fType)).flatMap rB
  | [], p, h => by cases told <;> simp [rawsOut]
  | r :: l, p, h => by
    have h' := h
    simp only [rawsUp, Bool.and_eq_true] at h
    have h8 := S28_ne8 h.1.1
    by_cases hlt : r.fType < 8
    · rw [rawsOut, if_neg (by omega), rawsOut_split c told h.2]
      rw [List.filter_cons_of_pos (by simpa using hlt), List.filter_cons_of_neg (by simp; omega)]
      simp [rB, List.append_assoc]
    · have hgt : 8 < r.fType := by omega
      have hall : ∀ x ∈ r :: l, 8 < x.fType := fun x hx => by
        rcases List.mem_cons.1 hx with rfl | hx
        · exact hgt
        · have := rawsUp_gt h.2 x hx; omega
      rw [rawsOut_hi c told hall]
      have e1 : (r :: l).filter (fun r => decide (r.fType < 8)) = [] := List.filter_eq_nil_iff.2 fun x hx => by have := hall x hx; simp; omega
      have e2 : (r :: l).filter (fun r => decide (8 < r.fType)) = r :: l := List.filter_eq_self.2 fun x hx => by simpa using hall x hx
      rw [e1, e2]; simp
theorem commB_len : ∀ (l : List Int), (commB l).length = 4 * l.length
  | [] => rfl
  | a :: l => by
    have := commB_len l
    unfold commB at *
    rw [List.flatMap_cons, List.length_append, this]; simp [put4]; omega
theorem flat_len {l : List api_Raw} (h : ∀ r ∈ l, r.fData.length ≤ 255) : (l.flatMap rB).length ≤ 259 * l.length := by
  induction l with
  | nil => simp
  | cons r l ih =>
    have h1 := ih fun x hx => h x (by simp [hx])
    have h2 := h r (by simp)
    have h3 := putB_len r.fFlags r.fType r.fData
    rw [List.flatMap_cons, List.length_append, List.length_cons]
    simp only [rB] at *
    omega
theorem S23_len {p : List api_Segment} (hp : p.length ≤ 1099511627776) : (S23 p).length ≤ 384 := by
  unfold S23
  split
  · rename_i h
    obtain ⟨g1, g2⟩ := goodP_spec p 0 h (Int.le_refl _) (by omega)
    rw [seg_len]
    have := asSum_len p fun s hs => (g2 s hs).1
    omega
  · simp
theorem run16 : RunC C16 6 16 [30] [27] W16 [] := by
  intro (x : api_Attrs) hx hp
  obtain ⟨p1, p2⟩ : P12 x := hp _ rfl
  have hr : x.fRaws.length ≤ 9223372036854775807 := by omega
  refine of_eq (q16 x (S12 x)) ?_
  refine bif_of (fun h => ?_) (fun h => ?_)
  · simp only [Bool.not_eq_true'] at h; change S13 x = false at h; simp [S12, h]
  simp only [Bool.not_eq_false'] at h
  change S13 x = true at h
  have h' := h
  simp only [S13, Bool.and_eq_true] at h'
  have hup : rawsUp none x.fRaws = true := h'.1.2
  have hcm : x.fComms.length ≤ 32 := by have := h'.1.1.2; simp at this; omega
  have hrl : ∀ r ∈ x.fRaws, r.fData.length ≤ 255 := rawsUp_len hup
  have hpl := S23_len p1
  have hF : S12 x = oneB 64 1 [IntKind.u8.wrap x.fOrigin] ++ oneB 64 2 (S23 x.fPath) ++ oneB 64 3 (put4 x.fNext) ++ (if 0 ≤ x.fMed then oneB 128 4 (put4 x.fMed) else []) ++ (if 0 ≤ x.fPref then oneB 64 5 (put4 x.fPref) else []) ++ (x.fRaws.filter fun r => decide (r.fType < 8)).flatMap rB ++ (if (commB x.fComms).length = 0 then [] else putB 192 8 (commB x.fComms)) ++ (x.fRaws.filter fun r => decide (8 < r.fType)).flatMap rB := by
    unfold S12
    rw [if_pos h, rawsOut_split _ _ hup, oneB_eq (by simp) (by simp), oneB_eq (by omega) (by simp), oneB_eq (by simp [put4]) (by simp [put4]), oneB_eq (by simp [put4]) (by simp [put4]), oneB_eq (by simp [put4]) (by simp [put4])]
    simp only [S25, put4_u32, decide_eq_true_eq, List.append_assoc]
  generalize hA : (x.fRaws.filter fun r => decide (r.fType < 8)).flatMap rB = A at hF
  generalize hC : (if (commB x.fComms).length = 0 then [] else putB 192 8 (commB x.fComms)) = C at hF
  generalize hB : (x.fRaws.filter fun r => decide (8 < r.fType)).flatMap rB = B at hF
  have hAl : A.length ≤ 278099132416 := by
    rw [← hA]
    have h1 := flat_len (l := x.fRaws.filter fun r => decide (r.fType < 8)) fun r hr => hrl r (List.mem_filter.1 hr).1
    have h2 := List.length_filter_le (fun r : api_Raw => decide (r.fType < 8)) x.fRaws
    omega
  have hBl : B.length ≤ 278099132416 := by
    rw [← hB]
    have h1 := flat_len (l := x.fRaws.filter fun r => decide (8 < r.fType)) fun r hr => hrl r (List.mem_filter.1 hr).1
    have h2 := List.length_filter_le (fun r : api_Raw => decide (8 < r.fType)) x.fRaws
    omega
  have hCl : C.length ≤ 200 := by
    rw [← hC]
    have := commB_len x.fComms
    have h3 := putB_len 192 8 (commB x.fComms)
    split
    · simp
    · omega
  have hFl : (S12 x).length ≤ 600000000000 := by
    have l1 := putB_len 64 1 [IntKind.u8.wrap x.fOrigin]
    have l2 := putB_len 64 2 (S23 x.fPath)
    have l3 := putB_len 64 3 (put4 x.fNext)
    have l4 := putB_len 128 4 (put4 x.fMed)
    have l5 := putB_len 64 5 (put4 x.fPref)
    rw [hF, oneB_eq (by simp) (by simp), oneB_eq (by omega) (by simp), oneB_eq (by simp [put4]) (by simp [put4]), oneB_eq (by simp [put4]) (by simp [put4]), oneB_eq (by simp [put4]) (by simp [put4])]
    have p4 : ∀ n, (put4 n).length = 4 := fun _ => rfl
    rw [p4] at l3 l4 l5
    have q1 : ([IntKind.u8.wrap x.fOrigin] : List Int).length = 1 := rfl
    rw [q1] at l1
    simp only [List.length_append]
    split <;> split <;> (try simp only [List.length_nil]) <;> omega
  revert hFl
  generalize S12 x = F at hF
  intro hFl
  have big : ∀ {a b : List Int}, a ++ b = F → a.length ≤ 600000000000 := fun e => by have := congrArg List.length e; rw [List.length_append] at this; omega
  refine ⟨⟨by trivial, by show (3 + 1) * 1 ≤ 140737488355328; decide⟩, fun (y0 : List Int) hy0 => ⟨by trivial, ?_⟩⟩
  have hy0' : y0 = oneB 64 1 [IntKind.u8.wrap x.fOrigin] := hy0
  refine JP.of (fun o => o ++ (oneB 64 3 (put4 x.fNext) ++ (if 0 ≤ x.fMed then oneB 128 4 (put4 x.fMed) else []) ++ (if 0 ≤ x.fPref then oneB 64 5 (put4 x.fPref) else []) ++ A ++ C ++ B) = F) (fun J hJ => ⟨Nat.le_trans p1 (by decide), one_ap (by rw [hy0']; show (4 : Nat) + (S23 x.fPath).length + 4 ≤ _; omega) (hJ _ ?_)⟩) fun o1 ho1 => ⟨by trivial, ?_⟩
  · rw [hF, hy0']; simp only [List.append_assoc]; rfl
  refine JP.of (fun o => o ++ ((if 0 ≤ x.fMed then oneB 128 4 (put4 x.fMed) else []) ++ (if 0 ≤ x.fPref then oneB 64 5 (put4 x.fPref) else []) ++ A ++ C ++ B) = F) (fun J hJ => one_ap3 (d := S33 (IntKind.i64.wrap x.fNext)) (by simp [S33, put4]) (by have := big ho1; simp [S33, put4]; omega) (hJ _ ?_)) fun o2 ho2 => ⟨by trivial, ?_⟩
  · rw [← ho1]; simp only [S33, put4_w64, List.append_assoc]
  refine JP.of (fun o => o ++ ((if 0 ≤ x.fPref then oneB 64 5 (put4 x.fPref) else []) ++ A ++ C ++ B) = F) (fun J hJ => bif_of (fun e => one_ap3 (d := S33 x.fMed) (by simp [S33, put4]) (by have := big ho2; simp [S33, put4]; omega) (hJ _ ?_)) (fun e => ⟨by trivial, hJ _ ?_⟩)) fun o3 ho3 => ⟨by trivial, ?_⟩
  · rw [← ho2, if_pos (of_decide_eq_true e)]; simp only [S33, List.append_assoc]
  · rw [← ho2, if_neg (of_decide_eq_false e)]; simp only [List.nil_append]
  refine JP.of (fun o => o ++ (A ++ C ++ B) = F) (fun J hJ => bif_of (fun e => one_ap3 (d := S33 x.fPref) (by simp [S33, put4]) (by have := big ho3; simp [S33, put4]; omega) (hJ _ ?_)) (fun e => ⟨by trivial, hJ _ ?_⟩)) fun o4 ho4 => ⟨by trivial, ?_⟩
  · rw [← ho3, if_pos (of_decide_eq_true e)]; simp only [S33, List.append_assoc]
  · rw [← ho3, if_neg (of_decide_eq_false e)]; simp only [List.nil_append]
  refine listLoop (l := x.fRaws) hr (fun (o : List Int) i => (o, i)) (fun y => y.2) (fun _ _ => rfl) (fun i r o => o ++ ((r.filter fun r => decide (r.fType < 8)).flatMap rB ++ C ++ B) = F) (s0 := o4) (by rw [hA]; exact ho4) ?_ ?_
  · rintro o i s r J k1 k2 k3 k4 k5 k6 hJ
    have hs := hrl s k4
    refine bif_of (fun _ => ⟨by trivial, JP.of (fun o' => o' ++ ((r.filter fun r => decide (r.fType < 8)).flatMap rB ++ C ++ B) = F) (fun J' hJ' => ⟨⟨k1, k2⟩, ?_⟩) (fun y hy => ⟨by trivial, hJ _ hy⟩)⟩) (fun h => absurd k2 (of_decide_eq_false h))
    refine bif_of (fun e => ⟨⟨k1, k2⟩, ⟨k1, k2⟩, ⟨k1, k2⟩, one_ap (o := o) (fl := (ix x.fRaws i).fFlags) (t := (ix x.fRaws i).fType) (d := (ix x.fRaws i).fData) (by have := big k6; rw [k3]; omega) (hJ' _ ?_)⟩) (fun e => ⟨by trivial, hJ' _ ?_⟩)
    · have e : decide (s.fType < 8) = true := by rw [← k3]; exact e
      rw [← k6, List.filter_cons_of_pos (by simpa using e), k3, oneB_eq (by omega) (.inl hs)]; simp only [rB, List.flatMap_cons, List.append_assoc]
    · have e : decide (s.fType < 8) = false := by rw [← k3]; exact e
      rw [← k6, List.filter_cons_of_neg (by simpa using e)]
  rintro o5 i5 J5 rfl k6
  refine bif_of (fun h => absurd (of_decide_eq_true h) (by simp)) (fun _ => ?_)
  refine listLoop (l := x.fComms) (by omega) (fun (o : List Int) i => (o, i)) (fun y => y.2) (fun _ _ => rfl) (fun i r o => o ++ commB r = commB x.fComms) (s0 := []) (by simp) ?_ ?_
  · rintro o i s r J k1 k2 k3 k4 k5 k7 hJ
    have hcl := commB_len x.fComms
    have hol := congrArg List.length k7
    rw [List.length_append] at hol
    refine bif_of (fun _ => ⟨⟨k1, k2⟩, ⟨by trivial, by show (o.length + 4) * 1 ≤ 140737488355328; omega⟩, fun (z : List Int) hz => ⟨by trivial, hJ z ?_⟩⟩) (fun h => absurd k2 (of_decide_eq_false h))
    rw [← k7, hz]
    simp only [k3, S33, put4_w64, commB, List.flatMap_cons, List.append_assoc]
  rintro c i6 J6 rfl k7
  have hc : c = commB x.fComms := by simpa [commB] using k7
  have hcl := commB_len x.fComms
  refine bif_of (fun h => absurd (of_decide_eq_true h) (by simp)) (fun _ => ⟨by trivial, ?_⟩)
  have k8 : o5 ++ (C ++ B) = F := by simpa using k6
  refine JP.of (fun o => o ++ B = F) (fun J hJ => bif_of (fun e => one_ap (by have := big k8; simp only [hc]; omega) (hJ _ ?_)) (fun e => ⟨by trivial, hJ _ ?_⟩)) fun o7 ho7 => ⟨by trivial, ?_⟩
  · have e := of_decide_eq_true e
    simp only [hc] at e
    subst hc; rw [← k8, ← hC, if_neg (by omega), oneB_eq (d := commB x.fComms) (by omega) (.inl (by omega))]; simp only [List.append_assoc]
  · have e := of_decide_eq_false e
    simp only [hc] at e
    subst hc; rw [← k8, ← hC, if_pos (by omega)]; simp only [List.nil_append]
  refine listLoop (l := x.fRaws) hr (fun (o : List Int) i => (o, i)) (fun y => y.2) (fun _ _ => rfl) (fun i r o => o ++ (r.filter fun r => decide (8 < r.fType)).flatMap rB = F) (s0 := o7) (by rw [hB]; exact ho7) ?_ ?_
  · rintro o i s r J k1 k2 k3 k4 k5 k6 hJ
    have hs := hrl s k4
    refine bif_of (fun _ => ⟨by trivial, JP.of (fun o' => o' ++ (r.filter fun r => decide (8 < r.fType)).flatMap rB = F) (fun J' hJ' => ⟨⟨k1, k2⟩, ?_⟩) (fun y hy => ⟨by trivial, hJ _ hy⟩)⟩) (fun h => absurd k2 (of_decide_eq_false h))
    refine bif_of (fun e => ⟨⟨k1, k2⟩, ⟨k1, k2⟩, ⟨k1, k2⟩, one_ap (o := o) (fl := (ix x.fRaws i).fFlags) (t := (ix x.fRaws i).fType) (d := (ix x.fRaws i).fData) (by have := big k6; rw [k3]; omega) (hJ' _ ?_)⟩) (fun e => ⟨by trivial, hJ' _ ?_⟩)
    · have e : decide (8 < s.fType) = true := by rw [← k3]; exact e
      rw [← k6, List.filter_cons_of_pos (by simpa using e), k3, oneB_eq (by omega) (.inl hs)]; simp only [rB, List.flatMap_cons, List.append_assoc]
    · have e : decide (8 < s.fType) = false := by rw [← k3]; exact e
      rw [← k6, List.filter_cons_of_neg (by simpa using e)]
  · rintro o i J rfl h
    exact bif_of (fun h => absurd (of_decide_eq_true h) (by simp)) (fun _ => by simpa using h)
theorem ok16 : Ok16 := con_ok (C := C16) (kok_cons ok33 (kok_cons ok14 (kk1 ok32))) mx7 (by kernel_rfl) run16
end Go.Rx
/-! Attributes one by one: what bytes of them are read as. -/
namespace Go.Rx
open Go.Ab Go.L7
set_option linter.unusedVariables false
set_option linter.unusedSimpArgs false
set_option maxRecDepth 100000
/-! ### Numbers of four bytes -/
theorem getB_eq {v c : Int} (hv : 0 ≤ v ∧ v < 16777216) (hc : 0 ≤ c ∧ c ≤ 255) : getB v c = v * 256 + c := by
  unfold getB
  have e1 : IntKind.u32.wrap (v * 2 ^ 8) = v * 256 := by
    show (v * 2 ^ 8) % 4294967296 = _
    omega
  have e2 : IntKind.u32.wrap c = c := by
    show c % 4294967296 = _
    omega
  rw [e1, e2, ior32 (by omega) (by omega)]
  have h := Nat.shiftLeft_add_eq_or_of_lt (i := 8) (b := c.toNat) (by omega) v.toNat
  rw [Nat.shiftLeft_eq] at h
  have e : (v * 256).toNat = v.toNat * 2 ^ 8 := by omega
  rw [e, ← h]
  omega
theorem S66_four {a b c d : Int} (r : List Int) (ha : 0 ≤ a ∧ a ≤ 255) (hb : 0 ≤ b ∧ b ≤ 255) (hc : 0 ≤ c ∧ c ≤ 255) (hd : 0 ≤ d ∧ d ≤ 255) : S66 (a :: b :: c :: d :: r) = a * 16777216 + b * 65536 + c * 256 + d := by
  show getB (getB (getB (getB 0 a) b) c) d = _
  rw [getB_eq (v := 0) (by omega) ha, getB_eq (by omega) hb, getB_eq (by omega) hc, getB_eq (by omega) hd]
  omega
theorem u8_range (n : Int) : 0 ≤ IntKind.u8.wrap n ∧ IntKind.u8.wrap n ≤ 255 := by
  show 0 ≤ n % 256 ∧ n % 256 ≤ 255
  omega
theorem S66_put4 {n : Int} (r : List Int) (h : 0 ≤ n ∧ n ≤ 4294967295) : S66 (put4 n ++ r) = n := by
  have h8 : ∀ m : Int, IntKind.u8.wrap m = m % 256 := fun m => rfl
  show S66 (_ :: _ :: _ :: _ :: r) = n
  rw [S66_four r (u8_range _) (u8_range _) (u8_range _) (u8_range _)]
  rw [show (2 : Int) ^ 8 = 256 from rfl, show (2 : Int) ^ 16 = 65536 from rfl, show (2 : Int) ^ 24 = 16777216 from rfl]
  rw [Int.fdiv_eq_ediv_of_nonneg _ (by omega), Int.fdiv_eq_ediv_of_nonneg _ (by omega), Int.fdiv_eq_ediv_of_nonneg _ (by omega)]
  simp only [h8]
  omega
theorem _root_.Go.L7.By.append {a b : List Int} (ha : By a) (hb : By b) : By (a ++ b) := fun c hc => (List.mem_append.1 hc).elim (ha c) (hb c)
theorem _root_.Go.L7.By.nil : By [] := fun c hc => by cases hc
theorem _root_.Go.L7.By.cons {a : Int} {b : List Int} (ha : 0 ≤ a ∧ a ≤ 255) (hb : By b) : By (a :: b) := fun c hc => by
  rcases List.mem_cons.1 hc with rfl | hc
  · exact ha
  · exact hb c hc
theorem _root_.Go.L7.By.put4 (n : Int) : By (put4 n) := .cons (u8_range _) (.cons (u8_range _) (.cons (u8_range _) (.cons (u8_range _) .nil)))
theorem _root_.Go.L7.By.flat {α : Type} {l : List α} {f : α → List Int} (h : ∀ x ∈ l, By (f x)) : By (l.flatMap f) := fun c hc => by
  obtain ⟨x, h1, h2⟩ := List.mem_flatMap.1 hc
  exact h x h1 c h2
theorem _root_.Go.L7.By.seg (s : api_Segment) : By (segB s) := .cons (by split <;> omega) (.cons (u8_range _) (.flat fun n _ => .put4 _))
/-! ### A path, written and read -/
theorem asN_flat : ∀ (l : List Int) (r : List Int), l.all asOk = true → asN l.length ((l.flatMap fun n => put4 (IntKind.u32.wrap n)) ++ r) = l
  | [], r, _ => rfl
  | n :: l, r, h => by
    simp only [List.all_cons, Bool.and_eq_true] at h
    have hn : 1 ≤ n ∧ n ≤ 4294967295 := by have := h.1; unfold asOk at this; simpa using this
    have e : IntKind.u32.wrap n = n := by show n % 4294967296 = n; omega
    rw [List.flatMap_cons, List.length_cons, asN, List.append_assoc, e, S66_put4 _ (by omega)]
    rw [show (put4 n ++ ((l.flatMap fun n => put4 (IntKind.u32.wrap n)) ++ r)).drop 4 = (l.flatMap fun n => put4 (IntKind.u32.wrap n)) ++ r from rfl, asN_flat l r h.2]
    rw [show w64 n = n from w64_id (by omega)]
theorem decP_flat : ∀ (p : List api_Segment) (f : Nat), (∀ s ∈ p, 1 ≤ s.fAS.length ∧ s.fAS.length ≤ 255 ∧ s.fAS.all asOk = true) → p.length ≤ f → decP f (p.flatMap segB) = some p
  | [], 0, _, _ => rfl
  | [], f + 1, _, _ => rfl
  | s :: p, 0, _, h => by simp at h
  | s :: p, f + 1, hg, h => by
    obtain ⟨g1, g2, g3⟩ := hg s (by simp)
    have ih := decP_flat p f (fun t ht => hg t (by simp [ht])) (by simpa using h)
    have e8 : IntKind.u8.wrap (s.fAS.length : Int) = s.fAS.length := by show (s.fAS.length : Int) % 256 = _; omega
    have hb : (s :: p).flatMap segB = (if s.fSet then 1 else 2) :: (s.fAS.length : Int) :: ((s.fAS.flatMap fun n => put4 (IntKind.u32.wrap n)) ++ p.flatMap segB) := by
      rw [List.flatMap_cons]; unfold segB; rw [e8]; rfl
    have hpl := put_len s.fAS
    have h0 : ix ((s :: p).flatMap segB) 0 = if s.fSet then 1 else 2 := by rw [hb]; rfl
    have h1 : ix ((s :: p).flatMap segB) 1 = s.fAS.length := by rw [hb]; rfl
    have hl : ((s :: p).flatMap segB).length = 2 + 4 * s.fAS.length + (p.flatMap segB).length := by rw [hb]; simp only [List.length_cons, List.length_append, hpl]; omega
    have hd2 : ((s :: p).flatMap segB).drop 2 = (s.fAS.flatMap fun n => put4 (IntKind.u32.wrap n)) ++ p.flatMap segB := by rw [hb]; rfl
    have hd : ((s :: p).flatMap segB).drop (2 + 4 * s.fAS.length) = p.flatMap segB := by
      rw [← List.drop_drop, hd2, ← hpl, List.drop_left]
    have hne : (s :: p).flatMap segB ≠ [] := by rw [hb]; simp
    unfold decP
    rw [if_neg hne, h0, h1, hl, if_neg (by have e : ¬ (2 + 4 * s.fAS.length + (p.flatMap segB).length < 2) := (by omega); cases s.fSet <;> simp only [e, false_or] <;> decide), if_neg (by omega), hd2]
    rw [show ((s.fAS.length : Int)).toNat = s.fAS.length from Int.toNat_natCast _, hd, ih, asN_flat _ _ g3]
    show some _ = some _
    congr 1
    congr 1
    cases s with
    | mk b l => cases b <;> simp
theorem S65_S23 {p : List api_Segment} (hp : p.length ≤ 1099511627776) (h : S26 p = true) : S65 (S23 p) = (p, true) := by
  obtain ⟨g1, g2⟩ := goodP_spec p 0 h (Int.le_refl _) (by omega)
  have hv : S23 p = p.flatMap segB := by simp [S23, h]
  have hl := seg_len p
  unfold S65
  rw [hv, decP_flat p _ g2 (by omega)]
  show (if S26 p then (p, true) else ([], false)) = _
  rw [if_pos h]
/-! ### Communities -/
theorem words_comm : ∀ (l : List Int) (f : Nat), (∀ n ∈ l, 0 ≤ n ∧ n ≤ 4294967295) → l.length ≤ f → words f (commB l) = l
  | [], 0, _, _ => rfl
  | [], f + 1, _, _ => rfl
  | n :: l, 0, _, h => by simp at h
  | n :: l, f + 1, hg, h => by
    have ih := words_comm l f (fun t ht => hg t (by simp [ht])) (by simpa using h)
    have hb : commB (n :: l) = put4 n ++ commB l := rfl
    have hne : commB (n :: l) ≠ [] := by rw [hb]; simp [put4]
    unfold words
    rw [if_neg hne, hb, S66_put4 _ (hg n (by simp))]
    rw [show (put4 n ++ commB l).drop 4 = commB l from rfl, ih]
/-! ### An attribute's bytes -/
structure It where
  f : Int
  t : Int
  d : List Int
structure It.ok (i : It) : Prop where
  hf : 0 ≤ i.f ∧ i.f ≤ 255
  ht : 0 ≤ i.t ∧ i.t ≤ 255
  hb : By i.d
  hl : i.d.length ≤ 65535
  hs : iand .u8 i.f 16 = 0 → i.d.length ≤ 255
def itB (i : It) : List Int := (if iand .u8 i.f 16 = 0 then [i.f, i.t, (i.d.length : Int)] else [i.f, i.t, (i.d.length : Int) / 256, (i.d.length : Int) % 256]) ++ i.d
theorem It.ok.by_ {i : It} (h : i.ok) : By (itB i) := by
  have h1 := h.hl
  have h2 := h.hs
  unfold itB
  refine .append ?_ h.hb
  split
  · rename_i e; have := h2 e; exact .cons h.hf (.cons h.ht (.cons (by omega) .nil))
  · exact .cons h.hf (.cons h.ht (.cons (by omega) (.cons (by omega) .nil)))
theorem itB_len (i : It) : 3 ≤ (itB i).length ∧ (itB i).length ≤ i.d.length + 4 := by unfold itB; split <;> simp <;> omega
theorem decA_step {i : It} (h : i.ok) (n : Nat) (rest : List Int) (a : api_Attrs) (seen : List Bool) : decA (n + 1) (itB i ++ rest) a seen = if ix seen i.t then throwN 1 [] else match attrA i.f i.t (itB i) i.d a with
    | .inl (s, x) => throwN s x
    | .inr a' => decA n rest a' (seen.set i.t.toNat true) := by
  have hlen := h.hl
  by_cases hz : iand .u8 i.f 16 = 0
  · have hb : itB i ++ rest = i.f :: i.t :: (i.d.length : Int) :: (i.d ++ rest) := by unfold itB; rw [if_pos hz]; rfl
    have h0 : ix (itB i ++ rest) 0 = i.f := by rw [hb]; rfl
    have h1 : ix (itB i ++ rest) 1 = i.t := by rw [hb]; rfl
    have h2 : ix (itB i ++ rest) 2 = i.d.length := by rw [hb]; rfl
    have hh : headL (itB i ++ rest) = 3 := by unfold headL; rw [h0, if_pos hz]
    have hs : sizeL (itB i ++ rest) = i.d.length := by unfold sizeL; rw [h0, if_pos hz, h2]
    have hl : (itB i).length = 3 + i.d.length := by unfold itB; rw [if_pos hz]; simp; omega
    have hd : (itB i).drop 3 = i.d := by unfold itB; rw [if_pos hz]; rfl
    have ht : (itB i ++ rest).take (3 + i.d.length) = itB i := by rw [← hl, List.take_left]
    have hr : (itB i ++ rest).drop (3 + i.d.length) = rest := by rw [← hl, List.drop_left]
    have hne : itB i ++ rest ≠ [] := by rw [hb]; simp
    have hll : (itB i ++ rest).length = 3 + i.d.length + rest.length := by rw [List.length_append, hl]
    conv => lhs; unfold decA
    rw [if_neg hne, hh, hs, hll, if_neg (by omega), if_neg (by omega), h0, h1, Int.toNat_natCast, ht, hr, hd]
    rfl
  · have hb : itB i ++ rest = i.f :: i.t :: ((i.d.length : Int) / 256) :: ((i.d.length : Int) % 256) :: (i.d ++ rest) := by unfold itB; rw [if_neg hz]; rfl
    have h0 : ix (itB i ++ rest) 0 = i.f := by rw [hb]; rfl
    have h1 : ix (itB i ++ rest) 1 = i.t := by rw [hb]; rfl
    have h2 : ix (itB i ++ rest) 2 = (i.d.length : Int) / 256 := by rw [hb]; rfl
    have h3 : ix (itB i ++ rest) 3 = (i.d.length : Int) % 256 := by rw [hb]; rfl
    have hh : headL (itB i ++ rest) = 4 := by unfold headL; rw [h0, if_neg hz]
    have hs : sizeL (itB i ++ rest) = i.d.length := by unfold sizeL; rw [h0, if_neg hz, h2, h3]; omega
    have hl : (itB i).length = 4 + i.d.length := by unfold itB; rw [if_neg hz]; simp; omega
    have hd : (itB i).drop 4 = i.d := by unfold itB; rw [if_neg hz]; rfl
    have ht : (itB i ++ rest).take (4 + i.d.length) = itB i := by rw [← hl, List.take_left]
    have hr : (itB i ++ rest).drop (4 + i.d.length) = rest := by rw [← hl, List.drop_left]
    have hne : itB i ++ rest ≠ [] := by rw [hb]; simp
    have hll : (itB i ++ rest).length = 4 + i.d.length + rest.length := by rw [List.length_append, hl]
    conv => lhs; unfold decA
    rw [if_neg hne, hh, hs, hll, if_neg (by omega), if_neg (by omega), h0, h1, Int.toNat_natCast, ht, hr, hd]
    rfl
/-- Attributes, read one by one. -/
def foldI : List It → api_Attrs → List Bool → api_Attrs × api_Note
  | [], a, seen => finA a seen
  | i :: l, a, seen => if ix seen i.t then throwN 1 [] else match attrA i.f i.t (itB i) i.d a with
    | .inl (s, x) => throwN s x
    | .inr a' => foldI l a' (seen.set i.t.toNat true)
theorem decA_nil (n : Nat) (a : api_Attrs) (seen : List Bool) : decA n [] a seen = finA a seen := by cases n <;> rfl
theorem decA_items : ∀ (l : List It) (n : Nat) (a : api_Attrs) (seen : List Bool), (∀ i ∈ l, i.ok) → l.length ≤ n → decA n (l.flatMap itB) a seen = foldI l a seen
  | [], n, a, seen, _, _ => decA_nil n a seen
  | i :: l, 0, a, seen, _, h => by simp at h
  | i :: l, n + 1, a, seen, hg, h => by
    rw [List.flatMap_cons, decA_step (hg i (by simp)), foldI]
    split
    · rfl
    · split
      · rfl
      · exact decA_items l n _ _ (fun j hj => hg j (by simp [hj])) (by simpa using h)
theorem items_len : ∀ (l : List It), l.length ≤ (l.flatMap itB).length
  | [] => by simp
  | i :: l => by
    have := items_len l
    have := (itB_len i).1
    rw [List.flatMap_cons, List.length_append, List.length_cons]; omega
theorem S17_items {l : List It} (h : ∀ i ∈ l, i.ok) : S17 (l.flatMap itB) = foldI l a0 (List.replicate 256 false) := decA_items l _ _ _ h (items_len l)
theorem items_by {l : List It} (h : ∀ i ∈ l, i.ok) : By (l.flatMap itB) := .flat fun i hi => (h i hi).by_
end Go.Rx
/-! Attributes in any order. -/
namespace Go.Rx
open Go.Ab Go.L7
set_option linter.unusedVariables false
set_option linter.unusedSimpArgs false
set_option maxRecDepth 100000
/-- What an attribute adds to the raws. -/
def rawOf (i : It) : List api_Raw := if i.t = 6 then [⟨64, 6, i.d⟩] else if i.t = 7 then [⟨192, 7, i.d⟩] else if 9 ≤ i.t ∧ iand .i64 i.f 64 ≠ 0 then [⟨224, i.t, i.d⟩] else []
/-- What an attribute that is right makes of what was read. -/
def upd (i : It) (a : api_Attrs) : api_Attrs where
  fOrigin := if i.t = 1 then ix i.d 0 else a.fOrigin
  fPath := if i.t = 2 then (S65 i.d).1 else a.fPath
  fNext := if i.t = 3 then S66 i.d else a.fNext
  fMed := if i.t = 4 then w64 (S66 i.d) else a.fMed
  fPref := if i.t = 5 then w64 (S66 i.d) else a.fPref
  fComms := a.fComms ++ (if i.t = 8 then words i.d.length i.d else [])
  fRaws := a.fRaws ++ rawOf i
structure Acc (i : It) : Prop where
  ok : i.ok
  at_ : ∀ a, attrA i.f i.t (itB i) i.d a = .inr (upd i a)
def updL (l : List It) (a : api_Attrs) : api_Attrs := l.foldl (fun a i => upd i a) a
def seenL (l : List It) (s : List Bool) : List Bool := l.foldl (fun s i => s.set i.t.toNat true) s
theorem seenL_len : ∀ (l : List It) (s : List Bool), (seenL l s).length = s.length
  | [], s => rfl
  | i :: l, s => by show (seenL l _).length = _; rw [seenL_len l, List.length_set]
theorem ix_set {s : List Bool} (hs : s.length = 256) {t u : Int} (ht : 0 ≤ t ∧ t ≤ 255) (hu : 0 ≤ u ∧ u ≤ 255) : ix (s.set t.toNat true) u = (ix s u || decide (t = u)) := by
  by_cases h : t = u
  · subst h; rw [ix_set_eq rfl (by omega)]; simp
  · rw [ix_set_ne (by omega)]; simp [h]
theorem seenL_ix : ∀ (l : List It) (s : List Bool) (u : Int), s.length = 256 → (∀ i ∈ l, i.ok) → 0 ≤ u ∧ u ≤ 255 → ix (seenL l s) u = (ix s u || l.any fun i => decide (i.t = u))
  | [], s, u, hs, hg, hu => by show ix s u = _; simp
  | i :: l, s, u, hs, hg, hu => by
    show ix (seenL l _) u = _
    rw [seenL_ix l _ u (by rw [List.length_set]; exact hs) (fun j hj => hg j (by simp [hj])) hu, ix_set hs (hg i (by simp)).ht hu]
    simp [Bool.or_assoc]
/-- Attributes that are right, no type twice, then others. -/
theorem foldI_acc : ∀ (l r : List It) (a : api_Attrs) (s : List Bool), s.length = 256 → (∀ i ∈ l, Acc i) → (l.map It.t).Nodup → (∀ i ∈ l, ix s i.t = false) → foldI (l ++ r) a s = foldI r (updL l a) (seenL l s)
  | [], r, a, s, hs, hg, hn, hu => rfl
  | i :: l, r, a, s, hs, hg, hn, hu => by
    have hi := hg i (by simp)
    rw [List.map_cons, List.nodup_cons] at hn
    rw [List.cons_append, foldI, if_neg (by rw [hu i (by simp)]; simp), hi.at_]
    show foldI (l ++ r) _ _ = _
    rw [foldI_acc l r _ _ (by rw [List.length_set]; exact hs) (fun j hj => hg j (by simp [hj])) hn.2 (fun j hj => ?_)]
    · rfl
    · rw [ix_set hs hi.ok.ht (hg j (by simp [hj])).ok.ht, hu j (by simp [hj])]
      have : i.t ≠ j.t := fun e => hn.1 (e ▸ List.mem_map_of_mem hj)
      simp [this]
/-! ### The order is of no meaning -/
structure Eqv (a b : api_Attrs) : Prop where
  o : a.fOrigin = b.fOrigin
  p : a.fPath = b.fPath
  n : a.fNext = b.fNext
  m : a.fMed = b.fMed
  q : a.fPref = b.fPref
  c : a.fComms = b.fComms
  r : a.fRaws.Perm b.fRaws
theorem Eqv.refl (a : api_Attrs) : Eqv a a := ⟨rfl, rfl, rfl, rfl, rfl, rfl, .refl _⟩
theorem Eqv.trans {a b c : api_Attrs} (h : Eqv a b) (k : Eqv b c) : Eqv a c := ⟨h.o.trans k.o, h.p.trans k.p, h.n.trans k.n, h.m.trans k.m, h.q.trans k.q, h.c.trans k.c, h.r.trans k.r⟩
theorem Eqv.upd {a b : api_Attrs} (i : It) (h : Eqv a b) : Eqv (upd i a) (upd i b) := by
  unfold Go.Rx.upd
  exact ⟨by simp only [h.o], by simp only [h.p], by simp only [h.n], by simp only [h.m], by simp only [h.q], by simp only [h.c], h.r.append_right _⟩
theorem Eqv.updL {a b : api_Attrs} : ∀ (l : List It), Eqv a b → Eqv (updL l a) (updL l b)
  | [], h => h
  | i :: l, h => Eqv.updL l (h.upd i)
theorem Eqv.swap (i j : It) (a : api_Attrs) (h : i.t ≠ j.t) : Eqv (Go.Rx.upd i (Go.Rx.upd j a)) (Go.Rx.upd j (Go.Rx.upd i a)) := by
  have two : ∀ {α : Type} (k : Int) (x y z : α), (if i.t = k then x else if j.t = k then y else z) = (if j.t = k then y else if i.t = k then x else z) := by
    intro α k x y z
    by_cases h1 : i.t = k
    · rw [if_pos h1, if_neg (fun e => h (h1.trans e.symm)), if_pos h1]
    · rw [if_neg h1, if_neg h1]
  refine ⟨two _ _ _ _, two _ _ _ _, two _ _ _ _, two _ _ _ _, two _ _ _ _, ?_, ?_⟩
  · show (a.fComms ++ _) ++ _ = (a.fComms ++ _) ++ _
    by_cases h1 : i.t = 8
    · have h2 : j.t ≠ 8 := fun e => h (h1.trans e.symm)
      simp [h1, h2]
    · simp [h1]
  · show ((a.fRaws ++ _) ++ _).Perm ((a.fRaws ++ _) ++ _)
    rw [List.append_assoc, List.append_assoc]
    exact (List.perm_append_comm).append_left _
theorem Eqv.perm {l l' : List It} (h : l.Perm l') : (l.map It.t).Nodup → ∀ {a b : api_Attrs}, Eqv a b → Eqv (Go.Rx.updL l a) (Go.Rx.updL l' b) := by
  induction h with
  | nil => exact fun _ _ _ h => h
  | cons x _ ih =>
    intro hn a b h
    rw [List.map_cons, List.nodup_cons] at hn
    exact ih hn.2 (h.upd x)
  | swap x y l =>
    intro hn a b h
    rw [List.map_cons, List.map_cons, List.nodup_cons] at hn
    refine Eqv.updL l ((Eqv.swap x y a fun e => hn.1 (by simp [e])).trans ((h.upd x).upd y))
  | trans h1 h2 ih1 ih2 =>
    intro hn a b h
    exact (ih1 hn (.refl a)).trans (ih2 ((h1.map It.t).nodup_iff.1 hn) h)
/-! ### Raws in their order -/
theorem rawsUp_pair : ∀ {l : List api_Raw} {p : Option Int}, rawsUp p l = true → l.Pairwise fun x y => x.fType < y.fType
  | [], p, h => .nil
  | r :: l, p, h => by
    simp only [rawsUp, Bool.and_eq_true] at h
    exact .cons (fun x hx => rawsUp_gt h.2 x hx) (rawsUp_pair h.2)
theorem sortR_of {l m : List api_Raw} (h : m.Pairwise fun x y => x.fType < y.fType) (hp : l.Perm m) : sortR l = m := by
  have hn : (l.map (·.fType)).Nodup := by
    rw [(hp.map (·.fType)).nodup_iff, List.nodup_iff_pairwise_ne, List.pairwise_map]
    exact h.imp fun h e => by omega
  exact (sortR_eq hp.symm (h.imp fun h => by show _ ≤ _; omega) hn).symm
/-- What all attributes that are right, no type twice, with the first three, are read as. -/
theorem read_acc {l : List It} {a : api_Attrs} (hg : ∀ i ∈ l, Acc i) (hn : (l.map It.t).Nodup) (h1 : l.any (fun i => decide (i.t = 1)) = true) (h2 : l.any (fun i => decide (i.t = 2)) = true) (h3 : l.any (fun i => decide (i.t = 3)) = true)
    (hE : Eqv (updL l a0) a) (hs : a.fRaws.Pairwise fun x y => x.fType < y.fType) : S17 (l.flatMap itB) = (a, ⟨0, 0, []⟩) := by
  have hok : ∀ i ∈ l, i.ok := fun i hi => (hg i hi).ok
  have hz : ∀ t : Int, ix (List.replicate 256 false) t = false := fun t => by unfold ix; rw [List.getD_eq_getElem?_getD, List.getElem?_replicate]; split <;> rfl
  rw [S17_items hok]
  have := foldI_acc l [] a0 (List.replicate 256 false) (by simp) hg hn fun i _ => hz _
  rw [List.append_nil] at this
  rw [this]
  show finA _ _ = _
  unfold finA
  rw [seenL_ix l _ 1 (by simp) hok (by omega), seenL_ix l _ 2 (by simp) hok (by omega), seenL_ix l _ 3 (by simp) hok (by omega), h1, h2, h3]
  rw [sortR_of hs hE.r]
  simp only [Bool.or_true, Bool.not_true]
  show (_, _) = _
  have := hE.o; have := hE.p; have := hE.n; have := hE.m; have := hE.q; have := hE.c
  generalize updL l a0 = u at *
  cases u; cases a; simp_all
/-! ### The attributes of what is good -/
def pit (f t : Int) (d : List Int) : It := ⟨if 255 < d.length then f + 16 else f, t, d⟩
theorem pit_f {f t : Int} {d : List Int} (hf : f = 64 ∨ f = 128 ∨ f = 192 ∨ f = 224) : ((pit f t d).f = f ∨ (pit f t d).f = f + 16 ∧ f + 16 = ior .i64 f 16) ∧ (iand .u8 (pit f t d).f 16 = 0 ↔ d.length ≤ 255) := by
  by_cases h : 255 < d.length
  · have e : (pit f t d).f = f + 16 := by show (if _ then _ else _) = _; rw [if_pos h]
    rw [e]
    rcases hf with rfl | rfl | rfl | rfl
    · exact ⟨.inr ⟨rfl, by decide⟩, ⟨fun h => absurd h (by decide), fun h' => by omega⟩⟩
    · exact ⟨.inr ⟨rfl, by decide⟩, ⟨fun h => absurd h (by decide), fun h' => by omega⟩⟩
    · exact ⟨.inr ⟨rfl, by decide⟩, ⟨fun h => absurd h (by decide), fun h' => by omega⟩⟩
    · exact ⟨.inr ⟨rfl, by decide⟩, ⟨fun h => absurd h (by decide), fun h' => by omega⟩⟩
  · have e : (pit f t d).f = f := by show (if _ then _ else _) = _; rw [if_neg h]
    rw [e]
    rcases hf with rfl | rfl | rfl | rfl
    · exact ⟨.inl rfl, ⟨fun _ => by omega, fun _ => by decide⟩⟩
    · exact ⟨.inl rfl, ⟨fun _ => by omega, fun _ => by decide⟩⟩
    · exact ⟨.inl rfl, ⟨fun _ => by omega, fun _ => by decide⟩⟩
    · exact ⟨.inl rfl, ⟨fun _ => by omega, fun _ => by decide⟩⟩
theorem pit_ok {f t : Int} {d : List Int} (hf : f = 64 ∨ f = 128 ∨ f = 192 ∨ f = 224) (ht : 0 ≤ t ∧ t ≤ 255) (hd : By d) (hl : d.length ≤ 65535) : (pit f t d).ok := by
  obtain ⟨h1, h2⟩ := pit_f (t := t) (d := d) hf
  exact ⟨by rcases h1 with h1 | h1 <;> omega, ht, hd, hl, h2.1⟩
theorem pit_putB {f t : Int} {d : List Int} (hf : f = 64 ∨ f = 128 ∨ f = 192 ∨ f = 224) (ht : 0 ≤ t ∧ t ≤ 255) (hl : d.length ≤ 65535) : itB (pit f t d) = putB f t d := by
  have h8 : ∀ m : Int, IntKind.u8.wrap m = m % 256 := fun m => rfl
  obtain ⟨h1, h2⟩ := pit_f (t := t) (d := d) hf
  unfold itB putB
  by_cases h : 255 < (d.length : Int)
  · have e : (pit f t d).f = f + 16 := by show (if _ then _ else _) = _; rw [if_pos (by omega)]
    rw [if_pos h, if_neg (fun hc => by have := h2.1 hc; omega), e]
    have e2 : f + 16 = ior .i64 f 16 := by
      rcases hf with rfl | rfl | rfl | rfl <;> decide
    have e3 : f + 16 ≤ 255 ∧ 0 ≤ f + 16 := by omega
    rw [← e2]
    show ([_, t, (d.length : Int) / 256, (d.length : Int) % 256] : List Int) ++ d = _
    rw [show (2 : Int) ^ 8 = 256 from rfl, Int.fdiv_eq_ediv_of_nonneg _ (by omega)]
    simp only [h8]
    rw [Int.emod_eq_of_lt (a := f + 16) (by omega) (by omega), Int.emod_eq_of_lt (a := t) (by omega) (by omega), Int.emod_eq_of_lt (a := (d.length : Int) / 256) (by omega) (by omega)]
  · have e : (pit f t d).f = f := by show (if _ then _ else _) = _; rw [if_neg (by omega)]
    rw [if_neg h, if_pos (h2.2 (by omega)), e]
    show ([f, t, (d.length : Int)] : List Int) ++ d = _
    simp only [h8]
    rw [Int.emod_eq_of_lt (a := f) (by omega) (by omega), Int.emod_eq_of_lt (a := t) (by omega) (by omega), Int.emod_eq_of_lt (a := (d.length : Int)) (by omega) (by omega)]
end Go.Rx
/-! The attributes that are written of what is good. -/
namespace Go.Rx
open Go.Ab Go.L7
set_option linter.unusedVariables false
set_option linter.unusedSimpArgs false
set_option maxRecDepth 100000
theorem acc1 {o : Int} (h : 0 ≤ o ∧ o ≤ 2) : Acc (pit 64 1 [o]) := by
  refine ⟨pit_ok (by simp) (by omega) (.cons (by omega) .nil) (by simp), fun a => ?_⟩
  show attrA 64 1 (itB (pit 64 1 [o])) [o] a = _
  generalize itB _ = all
  have sz : (decide (0 ≤ (ix kinds 1).fsize) && !decide ((([o] : List Int).length : Int) = (ix kinds 1).fsize) || (decide ((1 : Int) = 8) && (decide ((([o] : List Int).length : Int) = 0) || !decide (((([o] : List Int).length : Int)).tmod 4 = 0)))) = false := rfl
  unfold attrA knownA
  rw [if_pos (by decide), if_neg (by decide), sz, if_neg (by simp), if_pos (by decide), if_neg (show ¬ 2 < ix [o] 0 from by show ¬ 2 < o; omega)]
  simp [upd, rawOf, pit]
theorem acc2 {p : List api_Segment} (hp : p.length ≤ 1099511627776) (h : S26 p = true) : Acc (pit 64 2 (S23 p)) := by
  have hl := S23_len hp
  have hv : S23 p = p.flatMap segB := by simp [S23, h]
  refine ⟨pit_ok (by simp) (by omega) (by rw [hv]; exact .flat fun s _ => .seg s) (by omega), fun a => ?_⟩
  have hf := (pit_f (f := 64) (t := 2) (d := S23 p) (by simp)).1
  show attrA (pit 64 2 (S23 p)).f 2 (itB (pit 64 2 (S23 p))) (S23 p) a = _
  generalize itB _ = all
  have e : iand .i64 (pit 64 2 (S23 p)).f (if (ix kinds 2).fflags = 192 then 192 else 224) = (ix kinds 2).fflags := by
    rcases hf with hf | ⟨hf, _⟩ <;> rw [hf] <;> decide
  have sz : (decide (0 ≤ (ix kinds 2).fsize) && !decide (((S23 p).length : Int) = (ix kinds 2).fsize) || (decide ((2 : Int) = 8) && (decide (((S23 p).length : Int) = 0) || !decide ((((S23 p).length : Int)).tmod 4 = 0)))) = false := rfl
  unfold attrA knownA
  rw [if_pos (by decide), if_neg (fun h => h e), sz, if_neg (by simp), if_neg (by decide), if_pos (by decide), S65_S23 hp h]
  simp [upd, rawOf, pit, S65_S23 hp h]
theorem acc3 {n : Int} (hn : 0 ≤ n ∧ n ≤ 4294967295) (h : S27 n = true) : Acc (pit 64 3 (put4 n)) := by
  refine ⟨pit_ok (by simp) (by omega) (.put4 n) (by simp [put4]), fun a => ?_⟩
  have e := S66_put4 (n := n) [] hn
  rw [List.append_nil] at e
  show attrA 64 3 (itB (pit 64 3 (put4 n))) (put4 n) a = _
  generalize itB _ = all
  have sz : (decide (0 ≤ (ix kinds 3).fsize) && !decide (((put4 n).length : Int) = (ix kinds 3).fsize) || (decide ((3 : Int) = 8) && (decide (((put4 n).length : Int) = 0) || !decide ((((put4 n).length : Int)).tmod 4 = 0)))) = false := rfl
  unfold attrA knownA
  rw [if_pos (by decide), if_neg (by decide), sz, if_neg (by simp), if_neg (by decide), if_neg (by decide), if_pos (by decide), e, if_pos h]
  simp [upd, rawOf, pit, e]
theorem acc4 {n : Int} (hn : 0 ≤ n ∧ n ≤ 4294967295) : Acc (pit 128 4 (put4 n)) := by
  refine ⟨pit_ok (by simp) (by omega) (.put4 n) (by simp [put4]), fun a => ?_⟩
  show attrA 128 4 (itB (pit 128 4 (put4 n))) (put4 n) a = _
  generalize itB _ = all
  have sz : (decide (0 ≤ (ix kinds 4).fsize) && !decide (((put4 n).length : Int) = (ix kinds 4).fsize) || (decide ((4 : Int) = 8) && (decide (((put4 n).length : Int) = 0) || !decide ((((put4 n).length : Int)).tmod 4 = 0)))) = false := rfl
  unfold attrA knownA
  rw [if_pos (by decide), if_neg (by decide), sz, if_neg (by simp), if_neg (by decide), if_neg (by decide), if_neg (by decide), if_pos (by decide)]
  simp [upd, rawOf, pit]
theorem acc5 {n : Int} (hn : 0 ≤ n ∧ n ≤ 4294967295) : Acc (pit 64 5 (put4 n)) := by
  refine ⟨pit_ok (by simp) (by omega) (.put4 n) (by simp [put4]), fun a => ?_⟩
  show attrA 64 5 (itB (pit 64 5 (put4 n))) (put4 n) a = _
  generalize itB _ = all
  have sz : (decide (0 ≤ (ix kinds 5).fsize) && !decide (((put4 n).length : Int) = (ix kinds 5).fsize) || (decide ((5 : Int) = 8) && (decide (((put4 n).length : Int) = 0) || !decide ((((put4 n).length : Int)).tmod 4 = 0)))) = false := rfl
  unfold attrA knownA
  rw [if_pos (by decide), if_neg (by decide), sz, if_neg (by simp), if_neg (by decide), if_neg (by decide), if_neg (by decide), if_neg (by decide), if_pos (by decide)]
  simp [upd, rawOf, pit]
theorem acc8 {c : List Int} (hc : 1 ≤ c.length ∧ c.length ≤ 32) : Acc (pit 192 8 (commB c)) := by
  have hl := commB_len c
  refine ⟨pit_ok (by simp) (by omega) (.flat fun n _ => .put4 n) (by omega), fun a => ?_⟩
  have hf : (pit 192 8 (commB c)).f = 192 := if_neg (by omega)
  show attrA (pit 192 8 (commB c)).f 8 (itB (pit 192 8 (commB c))) (commB c) a = _
  generalize itB _ = all
  rw [hf]
  have e : (decide (0 ≤ (ix kinds 8).fsize) && !decide (((commB c).length : Int) = (ix kinds 8).fsize) || (decide ((8 : Int) = 8) && (decide (((commB c).length : Int) = 0) || !decide (((commB c).length : Int).tmod 4 = 0)))) = false := by
    have e1 : ((commB c).length : Int).tmod 4 = 0 := by rw [Int.tmod_eq_emod_of_nonneg (by omega)]; omega
    have e2 : ¬ ((commB c).length : Int) = 0 := by omega
    rw [e1, decide_eq_false e2]; rfl
  unfold attrA knownA
  rw [if_pos (by decide), if_neg (by decide), e, if_neg (by simp), if_neg (by decide), if_neg (by decide), if_neg (by decide), if_neg (by decide), if_neg (by decide), if_pos (by decide), if_neg (by omega)]
  simp [upd, rawOf, pit]
def rit (r : api_Raw) : It := ⟨r.fFlags, r.fType, r.fData⟩
theorem rit_pit {r : api_Raw} (h : r.fData.length ≤ 255) : rit r = pit r.fFlags r.fType r.fData := by
  unfold rit pit; rw [if_neg (by omega)]
theorem S28_cases {r : api_Raw} (h : S28 r = true) : (r.fType = 6 ∧ r.fFlags = 64 ∧ r.fData = []) ∨ (r.fType = 7 ∧ r.fFlags = 192 ∧ r.fData.length = 8) ∨ (8 < r.fType ∧ r.fType ≤ 255 ∧ r.fFlags = 224 ∧ r.fData.length ≤ 255) := by
  unfold S28 at h
  split at h
  · rename_i e; simp only [Bool.and_eq_true, decide_eq_true_eq] at h
    exact .inl ⟨e, h.1, List.eq_nil_of_length_eq_zero (by omega)⟩
  · split at h
    · rename_i e; simp only [Bool.and_eq_true, decide_eq_true_eq] at h
      exact .inr (.inl ⟨e, h.1, by omega⟩)
    · simp only [Bool.and_eq_true, decide_eq_true_eq] at h
      exact .inr (.inr ⟨h.1.1.1, h.1.1.2, h.1.2, by omega⟩)
theorem rit_upd {r : api_Raw} (h : S28 r = true) (a : api_Attrs) : upd (rit r) a = { a with fRaws := a.fRaws ++ [r] } := by
  have hr : rawOf (rit r) = [r] := by
    rcases S28_cases h with ⟨h1, h2, h3⟩ | ⟨h1, h2, h3⟩ | ⟨h1, h2, h3, h4⟩
    · cases r; simp only at h1 h2 h3; subst h1 h2 h3; rfl
    · cases r; simp only at h1 h2 h3; subst h1 h2; rfl
    · cases r; simp only at h1 h2 h3; subst h3
      unfold rawOf rit
      simp only
      rw [if_neg (by omega), if_neg (by omega), if_pos ⟨by omega, by decide⟩]
  have ht : (rit r).t ≠ 1 ∧ (rit r).t ≠ 2 ∧ (rit r).t ≠ 3 ∧ (rit r).t ≠ 4 ∧ (rit r).t ≠ 5 ∧ (rit r).t ≠ 8 := by
    have : (rit r).t = r.fType := rfl
    rw [this]
    rcases S28_cases h with ⟨h1, h2, h3⟩ | ⟨h1, h2, h3⟩ | ⟨h1, h2, h3, h4⟩ <;> omega
  unfold upd
  rw [hr, if_neg ht.1, if_neg ht.2.1, if_neg ht.2.2.1, if_neg ht.2.2.2.1, if_neg ht.2.2.2.2.1, if_neg ht.2.2.2.2.2, List.append_nil]
theorem accR {r : api_Raw} (h : S28 r = true) (hb : By r.fData) : Acc (rit r) := by
  have hc := S28_cases h
  have hl : r.fData.length ≤ 255 := by
    rcases hc with ⟨h1, h2, h3⟩ | ⟨h1, h2, h3⟩ | ⟨h1, h2, h3, h4⟩
    · rw [h3]; simp
    · omega
    · exact h4
  refine ⟨?_, fun a => ?_⟩
  · rw [rit_pit hl]
    refine pit_ok ?_ ?_ hb (by omega)
    · rcases hc with ⟨h1, h2, h3⟩ | ⟨h1, h2, h3⟩ | ⟨h1, h2, h3, h4⟩
      · exact .inl h2
      · exact .inr (.inr (.inl h2))
      · exact .inr (.inr (.inr h3))
    · rcases hc with ⟨h1, h2, h3⟩ | ⟨h1, h2, h3⟩ | ⟨h1, h2, h3, h4⟩ <;> omega
  · rw [rit_upd h]
    generalize itB _ = all
    show attrA r.fFlags r.fType all r.fData a = _
    rcases hc with ⟨h1, h2, h3⟩ | ⟨h1, h2, h3⟩ | ⟨h1, h2, h3, h4⟩
    · cases r; simp only at h1 h2 h3; subst h1 h2 h3; rfl
    · cases r
      simp only at h1 h2 h3
      subst h1 h2
      change attrA 192 7 all _ a = _
      unfold attrA knownA
      have e : ∀ n : Int, n = 8 → (decide (0 ≤ (ix kinds 7).fsize) && !decide (n = (ix kinds 7).fsize) || (decide ((7 : Int) = 8) && (decide (n = 0) || !decide (n.tmod 4 = 0)))) = false := by rintro _ rfl; rfl
      rw [if_pos (by decide), if_neg (by decide), e _ (by exact_mod_cast h3), if_neg (by simp), if_neg (by decide), if_neg (by decide), if_neg (by decide), if_neg (by decide), if_neg (by decide), if_neg (by decide)]
      rfl
    · cases r
      simp only at h1 h2 h3 h4
      subst h3
      unfold attrA otherA
      simp only
      rw [if_neg (by omega), if_neg (by decide), if_neg (by decide), if_neg (by omega), if_pos h1]
/-- The attributes of what is good, in their order. -/
def its (a : api_Attrs) : List It := [pit 64 1 [a.fOrigin], pit 64 2 (S23 a.fPath), pit 64 3 (put4 a.fNext)] ++ ((if 0 ≤ a.fMed then [pit 128 4 (put4 a.fMed)] else []) ++ ((if 0 ≤ a.fPref then [pit 64 5 (put4 a.fPref)] else []) ++ ((a.fRaws.filter fun r => decide (r.fType < 8)).map rit ++ ((if a.fComms = [] then [] else [pit 192 8 (commB a.fComms)]) ++ (a.fRaws.filter fun r => decide (8 < r.fType)).map rit))))
structure Gd7 (a : api_Attrs) : Prop where
  o : 0 ≤ a.fOrigin ∧ a.fOrigin ≤ 2
  pl : a.fPath.length ≤ 1099511627776
  p : S26 a.fPath = true
  nr : 0 ≤ a.fNext ∧ a.fNext ≤ 4294967295
  n : S27 a.fNext = true
  m : -1 ≤ a.fMed ∧ a.fMed ≤ 4294967295
  q : -1 ≤ a.fPref ∧ a.fPref ≤ 4294967295
  cl : a.fComms.length ≤ 32
  cr : ∀ n ∈ a.fComms, 0 ≤ n ∧ n ≤ 4294967295
  r : rawsUp none a.fRaws = true
  rb : ∀ r ∈ a.fRaws, By r.fData
theorem rawsUp_all : ∀ {l : List api_Raw} {p : Option Int}, rawsUp p l = true → ∀ r ∈ l, S28 r = true
  | a :: l, p, h, r, hr => by
    simp only [rawsUp, Bool.and_eq_true] at h
    rcases List.mem_cons.1 hr with rfl | hr
    · exact h.1.1
    · exact rawsUp_all h.2 r hr
theorem its_acc {a : api_Attrs} (h : Gd7 a) : ∀ i ∈ its a, Acc i := by
  intro i hi
  unfold its at hi
  simp only [List.mem_append, List.mem_cons, List.not_mem_nil, or_false] at hi
  have hm := h.m
  have hq := h.q
  rcases hi with (rfl | rfl | rfl) | hi | hi | hi | hi | hi
  · exact acc1 h.o
  · exact acc2 h.pl h.p
  · exact acc3 h.nr h.n
  · split at hi
    · rw [List.mem_singleton] at hi; subst hi; exact acc4 (by omega)
    · cases hi
  · split at hi
    · rw [List.mem_singleton] at hi; subst hi; exact acc5 (by omega)
    · cases hi
  · obtain ⟨r, hr, rfl⟩ := List.mem_map.1 hi
    have hr := (List.mem_filter.1 hr).1
    exact accR (rawsUp_all h.r r hr) (h.rb r hr)
  · split at hi
    · cases hi
    · rename_i hne
      rw [List.mem_singleton] at hi; subst hi
      exact acc8 ⟨List.length_pos_iff.2 hne, h.cl⟩
  · obtain ⟨r, hr, rfl⟩ := List.mem_map.1 hi
    have hr := (List.mem_filter.1 hr).1
    exact accR (rawsUp_all h.r r hr) (h.rb r hr)
theorem updL_append (l m : List It) (a : api_Attrs) : updL (l ++ m) a = updL m (updL l a) := List.foldl_append
theorem updL_raws : ∀ (l : List api_Raw) (a : api_Attrs), (∀ r ∈ l, S28 r = true) → updL (l.map rit) a = { a with fRaws := a.fRaws ++ l }
  | [], a, _ => by show a = _; cases a; simp
  | r :: l, a, h => by
    show updL (l.map rit) (upd (rit r) a) = _
    rw [rit_upd (h r (by simp)), updL_raws l _ fun x hx => h x (by simp [hx])]
    simp
theorem filter_split : ∀ {l : List api_Raw} {p : Option Int}, rawsUp p l = true → (l.filter fun r => decide (r.fType < 8)) ++ (l.filter fun r => decide (8 < r.fType)) = l
  | [], p, h => rfl
  | r :: l, p, h => by
    simp only [rawsUp, Bool.and_eq_true] at h
    have h8 := S28_ne8 h.1.1
    by_cases hlt : r.fType < 8
    · rw [List.filter_cons_of_pos (by simpa using hlt), List.filter_cons_of_neg (by simp; omega), List.cons_append, filter_split h.2]
    · have hall : ∀ x ∈ r :: l, 8 < x.fType := fun x hx => by
        rcases List.mem_cons.1 hx with rfl | hx
        · omega
        · have := rawsUp_gt h.2 x hx; omega
      have e1 : (r :: l).filter (fun r => decide (r.fType < 8)) = [] := List.filter_eq_nil_iff.2 fun x hx => by have := hall x hx; simp; omega
      have e2 : (r :: l).filter (fun r => decide (8 < r.fType)) = r :: l := List.filter_eq_self.2 fun x hx => by simpa using hall x hx
      rw [e1, e2]; rfl
theorem its_upd {a : api_Attrs} (h : Gd7 a) : updL (its a) a0 = a := by
  have e3 := S66_put4 (n := a.fNext) [] h.nr
  rw [List.append_nil] at e3
  have hm := h.m
  have hq := h.q
  have hS : ∀ (q : api_Raw → Bool), ∀ r ∈ a.fRaws.filter q, S28 r = true := fun q r hr => rawsUp_all h.r r (List.mem_filter.1 hr).1
  unfold its
  rw [updL_append, updL_append, updL_append, updL_append, updL_append, updL_raws _ _ (hS _), updL_raws _ _ (hS _)]
  have s1 : updL [pit 64 1 [a.fOrigin], pit 64 2 (S23 a.fPath), pit 64 3 (put4 a.fNext)] a0 = { a0 with fOrigin := a.fOrigin, fPath := a.fPath, fNext := a.fNext } := by
    show upd _ (upd _ (upd _ a0)) = _
    simp [upd, rawOf, pit, S65_S23 h.pl h.p, e3, ix, a0]
  have s2 : ∀ b : api_Attrs, b.fMed = -1 → updL (if 0 ≤ a.fMed then [pit 128 4 (put4 a.fMed)] else []) b = { b with fMed := a.fMed } := by
    intro b hb
    split
    · have e4 := S66_put4 (n := a.fMed) [] (by omega)
      rw [List.append_nil] at e4
      have e4' : w64 a.fMed = a.fMed := w64_id (by omega)
      show upd _ b = _
      simp [upd, rawOf, pit, e4, e4']
    · have : a.fMed = -1 := by omega
      rw [this, ← hb]; rfl
  have s3 : ∀ b : api_Attrs, b.fPref = -1 → updL (if 0 ≤ a.fPref then [pit 64 5 (put4 a.fPref)] else []) b = { b with fPref := a.fPref } := by
    intro b hb
    split
    · have e4 := S66_put4 (n := a.fPref) [] (by omega)
      rw [List.append_nil] at e4
      have e4' : w64 a.fPref = a.fPref := w64_id (by omega)
      show upd _ b = _
      simp [upd, rawOf, pit, e4, e4']
    · have : a.fPref = -1 := by omega
      rw [this, ← hb]; rfl
  have s4 : ∀ b : api_Attrs, b.fComms = [] → updL (if a.fComms = [] then [] else [pit 192 8 (commB a.fComms)]) b = { b with fComms := a.fComms } := by
    intro b hb
    split
    · rename_i e; rw [e, ← hb]; rfl
    · have e4 := words_comm a.fComms (commB a.fComms).length h.cr (by rw [commB_len]; omega)
      show upd _ b = _
      simp [upd, rawOf, pit, e4, hb]
  rw [s1, s2 _ rfl, s3 _ rfl, s4 _ rfl]
  show (⟨_, _, _, _, _, _, _⟩ : api_Attrs) = a
  have := filter_split h.r
  cases a
  simp only at *
  simp only [a0, List.nil_append, this]
theorem its_pair {a : api_Attrs} (h : Gd7 a) : (its a).Pairwise fun i j => i.t < j.t := by
  have hr := rawsUp_pair h.r
  have hS := rawsUp_all h.r
  have hmap : ∀ (q : api_Raw → Bool), ((a.fRaws.filter q).map rit).Pairwise fun i j => i.t < j.t := fun q => by
    rw [List.pairwise_map]; exact hr.filter q
  have t4 : ∀ i ∈ (if 0 ≤ a.fMed then [pit 128 4 (put4 a.fMed)] else []), i.t = 4 := fun i hi => by
    split at hi
    · rw [List.mem_singleton] at hi; subst hi; rfl
    · cases hi
  have t5 : ∀ i ∈ (if 0 ≤ a.fPref then [pit 64 5 (put4 a.fPref)] else []), i.t = 5 := fun i hi => by
    split at hi
    · rw [List.mem_singleton] at hi; subst hi; rfl
    · cases hi
  have t8 : ∀ i ∈ (if a.fComms = [] then [] else [pit 192 8 (commB a.fComms)]), i.t = 8 := fun i hi => by
    split at hi
    · cases hi
    · rw [List.mem_singleton] at hi; subst hi; rfl
  have t6 : ∀ i ∈ (a.fRaws.filter fun r => decide (r.fType < 8)).map rit, 6 ≤ i.t ∧ i.t < 8 := fun i hi => by
    obtain ⟨r, hr, rfl⟩ := List.mem_map.1 hi
    obtain ⟨h1, h2⟩ := List.mem_filter.1 hr
    have h2 := of_decide_eq_true h2
    have : (rit r).t = r.fType := rfl
    rcases S28_cases (hS r h1) with ⟨h3, _⟩ | ⟨h3, _⟩ | ⟨h3, _⟩ <;> omega
  have t9 : ∀ i ∈ (a.fRaws.filter fun r => decide (8 < r.fType)).map rit, 8 < i.t := fun i hi => by
    obtain ⟨r, hr, rfl⟩ := List.mem_map.1 hi
    exact of_decide_eq_true (List.mem_filter.1 hr).2
  have one : ∀ (c : Prop) [Decidable c] (x : It), (if c then [x] else []).Pairwise fun i j => i.t < j.t := fun c _ x => by split <;> simp
  have one' : ∀ (c : Prop) [Decidable c] (x : It), (if c then [] else [x]).Pairwise fun i j => i.t < j.t := fun c _ x => by split <;> simp
  unfold its
  refine List.pairwise_append.2 ⟨?_, List.pairwise_append.2 ⟨one _ _, List.pairwise_append.2 ⟨one _ _, List.pairwise_append.2 ⟨hmap _, List.pairwise_append.2 ⟨one' _ _, hmap _, ?_⟩, ?_⟩, ?_⟩, ?_⟩, ?_⟩
  · refine .cons ?_ (.cons ?_ (.cons ?_ .nil))
    · intro j hj; simp at hj; rcases hj with rfl | rfl
      · exact (by decide : (1 : Int) < 2)
      · exact (by decide : (1 : Int) < 3)
    · intro j hj; simp at hj; subst hj; exact (by decide : (2 : Int) < 3)
    · intro j hj; cases hj
  · intro i hi j hj
    have := t8 i hi; have := t9 j hj; omega
  · intro i hi j hj
    have := t6 i hi
    rcases List.mem_append.1 hj with hj | hj
    · have := t8 j hj; omega
    · have := t9 j hj; omega
  · intro i hi j hj
    have := t5 i hi
    simp only [List.mem_append] at hj
    rcases hj with hj | hj | hj
    · have := t6 j hj; omega
    · have := t8 j hj; omega
    · have := t9 j hj; omega
  · intro i hi j hj
    have := t4 i hi
    simp only [List.mem_append] at hj
    rcases hj with hj | hj | hj | hj
    · have := t5 j hj; omega
    · have := t6 j hj; omega
    · have := t8 j hj; omega
    · have := t9 j hj; omega
  · intro i hi j hj
    have hi3 : i.t ≤ 3 := by
      simp only [List.mem_cons, List.not_mem_nil, or_false] at hi
      rcases hi with rfl | rfl | rfl
      · exact (by decide : (1 : Int) ≤ 3)
      · exact (by decide : (2 : Int) ≤ 3)
      · exact (by decide : (3 : Int) ≤ 3)
    simp only [List.mem_append] at hj
    rcases hj with hj | hj | hj | hj | hj
    · have := t4 j hj; omega
    · have := t5 j hj; omega
    · have := t6 j hj; omega
    · have := t8 j hj; omega
    · have := t9 j hj; omega
theorem its_nodup {a : api_Attrs} (h : Gd7 a) : ((its a).map It.t).Nodup := by
  rw [List.nodup_iff_pairwise_ne, List.pairwise_map]
  exact (its_pair h).imp fun h e => by omega
theorem its_has {a : api_Attrs} : ((its a).any fun i => decide (i.t = 1)) = true ∧ ((its a).any fun i => decide (i.t = 2)) = true ∧ ((its a).any fun i => decide (i.t = 3)) = true := by
  refine ⟨?_, ?_, ?_⟩ <;> unfold its <;> simp [pit]
/-- Its attributes in any order are read as it. -/
theorem read_perm {a : api_Attrs} (h : Gd7 a) {l : List It} (hp : l.Perm (its a)) : S17 (l.flatMap itB) = (a, ⟨0, 0, []⟩) := by
  have hany : ∀ q : It → Bool, l.any q = (its a).any q := fun q => hp.any_eq
  have hn : (l.map It.t).Nodup := ((hp.map It.t).nodup_iff).2 (its_nodup h)
  refine read_acc (fun i hi => its_acc h i (hp.mem_iff.1 hi)) hn (by rw [hany]; exact its_has.1) (by rw [hany]; exact its_has.2.1) (by rw [hany]; exact its_has.2.2) ?_ (rawsUp_pair h.r)
  have := Eqv.perm hp hn (Eqv.refl a0)
  rwa [its_upd h] at this
theorem its_bytes {a : api_Attrs} (h : Gd7 a) (hS : S13 a = true) : S12 a = (its a).flatMap itB := by
  have hl := S23_len h.pl
  have hcl := commB_len a.fComms
  have hcl2 := h.cl
  have ho := h.o
  have e1 : IntKind.u8.wrap a.fOrigin = a.fOrigin := by show a.fOrigin % 256 = _; omega
  have rm : ∀ l : List api_Raw, (∀ r ∈ l, S28 r = true) → (l.map rit).flatMap itB = l.flatMap rB := by
    intro l hl
    induction l with
    | nil => rfl
    | cons r l ih =>
      rw [List.map_cons, List.flatMap_cons, List.flatMap_cons, ih fun x hx => hl x (by simp [hx])]
      congr 1
      have hc := S28_cases (hl r (by simp))
      have hd : r.fData.length ≤ 255 := by
        rcases hc with ⟨h1, h2, h3⟩ | ⟨h1, h2, h3⟩ | ⟨h1, h2, h3, h4⟩
        · rw [h3]; simp
        · omega
        · exact h4
      rw [rit_pit hd, pit_putB ?_ ?_ (by omega)]
      · rfl
      · rcases hc with ⟨h1, h2, h3⟩ | ⟨h1, h2, h3⟩ | ⟨h1, h2, h3, h4⟩
        · exact .inl h2
        · exact .inr (.inr (.inl h2))
        · exact .inr (.inr (.inr h3))
      · rcases hc with ⟨h1, h2, h3⟩ | ⟨h1, h2, h3⟩ | ⟨h1, h2, h3, h4⟩ <;> omega
  have hf : ∀ (q : api_Raw → Bool), ∀ r ∈ a.fRaws.filter q, S28 r = true := fun q r hr => rawsUp_all h.r r (List.mem_filter.1 hr).1
  unfold S12 its
  rw [if_pos hS, rawsOut_split _ _ h.r]
  simp only [List.flatMap_append, rm _ (hf _), List.flatMap_cons, List.flatMap_nil, List.append_nil]
  rw [pit_putB (by simp) (by omega) (by simp), pit_putB (by simp) (by omega) (by omega), pit_putB (by simp) (by omega) (by simp [put4]), e1]
  have m4 : (if 0 ≤ a.fMed then [pit 128 4 (put4 a.fMed)] else []).flatMap itB = if 0 ≤ a.fMed then putB 128 4 (S25 a.fMed) else [] := by
    split
    · rw [List.flatMap_cons, List.flatMap_nil, List.append_nil, pit_putB (by simp) (by omega) (by simp [put4]), S25, put4_u32]
    · rfl
  have m5 : (if 0 ≤ a.fPref then [pit 64 5 (put4 a.fPref)] else []).flatMap itB = if 0 ≤ a.fPref then putB 64 5 (S25 a.fPref) else [] := by
    split
    · rw [List.flatMap_cons, List.flatMap_nil, List.append_nil, pit_putB (by simp) (by omega) (by simp [put4]), S25, put4_u32]
    · rfl
  have m8 : (if a.fComms = [] then [] else [pit 192 8 (commB a.fComms)]).flatMap itB = if (decide ((commB a.fComms).length = 0)) = true then [] else putB 192 8 (commB a.fComms) := by
    by_cases hc : a.fComms = []
    · rw [if_pos hc, if_pos (by rw [hc]; rfl)]; rfl
    · have : 0 < a.fComms.length := List.length_pos_iff.2 hc
      rw [if_neg hc, if_neg (by rw [decide_eq_true_eq]; omega), List.flatMap_cons, List.flatMap_nil, List.append_nil, pit_putB (by simp) (by omega) (by omega)]
  rw [m4, m5, m8]
  simp only [List.append_assoc]
end Go.Rx
namespace Go.Rx
open Go.Ab Go.L7
set_option maxRecDepth 100000
set_option maxHeartbeats 20000000
set_option linter.unusedVariables false
/-- interregnum/interregnumlaw07.AttrBack -/
noncomputable def C3 : Cfg S := { P := P7, inl := [], K := [(15, ctr P7 [30, 30] [4] (fun x0 x1 => (none, S15 x0 x1))), (18, ctr P7 [27, 27] [4] (fun x0 x1 => (none, S18 x0 x1))), (10, ctr P7 [27] [4] (fun x0 => (none, S10 x0))), (13, ctr P7 [27] [4] (fun x0 => (none, S13 x0))), (17, ctr P7 [30] [27, 34] (fun x0 => (some (P17 x0), S17 x0))), (12, ctr P7 [27] [30] (fun x0 => (some (P12 x0), S12 x0))), (11, ctr P7 [] [4] (none, S11)), (14, ctr P7 [27] [4] (fun x0 => (none, S14 x0))), (16, ctr P7 [27] [30] (fun x0 => (some (P16 x0), S16 x0)))], ann := [] }
abbrev W3 : CT S [4] [27] := (fun x0 => (some (P3 x0), S3 x0))
abbrev Ok3 : Prop := ConOk P7 3 (ctr P7 [27] [4] W3) ∧ ConMon (ctr P7 [27] [4] W3)
theorem q3 (x0 : api_Attrs) (v : HR S [4]) : (Xf C3 6 (emp 0) 3 (argsA C3 [⟨27, x0⟩]) (emp 0) (fun r _ => isR C3.P [4] v r) (fun _ _ => False)) = (bif !S10 x0
 then true = v else (x0.fPath.length ≤ nat_lit 1099511627776 ∧ x0.fRaws.length ≤ nat_lit 1073741824) ∧ bif !decide (S13 x0 = S14 x0) then false = v else
 (x0.fPath.length ≤ nat_lit 1099511627776 ∧ x0.fRaws.length ≤ nat_lit 1073741824) ∧ bif !S15 (S12 x0) (S16 x0) then false = v else bif !S14 x0 then decide
 ((↑(S12 x0).length : Int) = (0 : Int)) = v else ((S12 x0).length ≤ nat_lit 549755813888 ∧ ∀ (c : Int), List.Mem c (S12 x0) → (0 : Int) ≤ c ∧ c ≤ (255 : Int))
 ∧ bif decide ((S17 (S12 x0)).snd.fCode = (0 : Int)) then S18 x0 (S17 (S12 x0)).fst = v else false = v) := by kernel_rfl
end Go.Rx
/-! The laws' plain facts; AttrBack. -/
namespace Go.Rx
open Go.Ab Go.L7
set_option linter.unusedVariables false
set_option linter.unusedSimpArgs false
set_option maxRecDepth 100000
theorem okI32 {n : Int} (h : okI .u32 n) : 0 ≤ n ∧ n ≤ 4294967295 := by
  unfold okI Lit.wf at h
  simp [IntKind.min, IntKind.max, IntKind.signed, IntKind.bits] at h
  omega
theorem small_len {a : api_Attrs} (hok : api_Attrs.ok a) (h : S10 a = true) : a.fPath.length < 3000 ∧ a.fComms.length < 3000 ∧ a.fRaws.length < 3000 := by
  have h1 : a.fPath.length ≤ 140737488351232 := hok.2.1.1
  have h2 : a.fComms.length ≤ 140737488351232 := hok.2.2.2.2.2.1.1
  have h3 : a.fRaws.length ≤ 140737488351232 := hok.2.2.2.2.2.2.1
  unfold S10 at h
  have h := of_decide_eq_true h
  rw [show w64 ((a.fPath.length : Int) + a.fComms.length) = a.fPath.length + a.fComms.length from w64_id (by omega), show w64 ((a.fPath.length : Int) + a.fComms.length + a.fRaws.length) = a.fPath.length + a.fComms.length + a.fRaws.length from w64_id (by omega)] at h
  by_cases hn : ((a.fPath.length : Int) + a.fComms.length + a.fRaws.length) < 3000
  · omega
  · rw [smallP_big _ hn, smallR_big _ hn] at h
    omega
theorem gd_of {a : api_Attrs} (hok : api_Attrs.ok a) (hs : S10 a = true) (h : S13 a = true) : Gd7 a := by
  have hl := small_len hok hs
  unfold S13 at h
  simp only [Bool.and_eq_true, Bool.not_eq_true', Bool.or_eq_false_iff, decide_eq_true_eq, decide_eq_false_iff_not] at h
  exact ⟨by omega, by omega, h.1.1.1.1.2, okI32 hok.2.2.1, h.1.1.1.2, by omega, by omega, by omega, fun n hn => okI32 (hok.2.2.2.2.2.1.2 n hn), h.1.2, fun r hr => By.of_ok (hok.2.2.2.2.2.2.2 r hr).2.2⟩
theorem its_len {a : api_Attrs} : (its a).length ≤ 6 + 2 * a.fRaws.length := by
  have h1 := List.length_filter_le (fun r : api_Raw => decide (r.fType < 8)) a.fRaws
  have h2 := List.length_filter_le (fun r : api_Raw => decide (8 < r.fType)) a.fRaws
  have one : ∀ (c : Prop) [Decidable c] (x : It), (if c then [x] else []).length ≤ 1 := fun c _ x => by split <;> simp
  have one' : ∀ (c : Prop) [Decidable c] (x : It), (if c then [] else [x]).length ≤ 1 := fun c _ x => by split <;> simp
  have o4 := one (0 ≤ a.fMed) (pit 128 4 (put4 a.fMed))
  have o5 := one (0 ≤ a.fPref) (pit 64 5 (put4 a.fPref))
  have o8 := one' (a.fComms = []) (pit 192 8 (commB a.fComms))
  unfold its
  simp only [List.length_append, List.length_map, List.length_cons, List.length_nil]
  omega
theorem flat_items_len : ∀ (l : List It), (∀ i ∈ l, i.ok) → (l.flatMap itB).length ≤ 65539 * l.length
  | [], _ => by simp
  | i :: l, h => by
    have := flat_items_len l fun j hj => h j (by simp [hj])
    have := (itB_len i).2
    have := (h i (by simp)).hl
    rw [List.flatMap_cons, List.length_append, List.length_cons]
    omega
theorem its_ok {a : api_Attrs} (h : Gd7 a) : ∀ i ∈ its a, i.ok := fun i hi => (its_acc h i hi).ok
theorem S12_len {a : api_Attrs} (hok : api_Attrs.ok a) (hs : S10 a = true) : (S12 a).length ≤ 400000000 ∧ By (S12 a) := by
  by_cases h : S13 a = true
  · have g := gd_of hok hs h
    have hl := (small_len hok hs).2.2
    rw [its_bytes g h]
    refine ⟨?_, items_by (its_ok g)⟩
    have h1 := flat_items_len (its a) (its_ok g)
    have h2 := its_len (a := a)
    omega
  · have : S12 a = [] := by unfold S12; rw [if_neg h]
    rw [this]
    exact ⟨by simp, .nil⟩
theorem run3 : RunC C3 6 3 [4] [27] W3 [] := by
  intro (x : api_Attrs) hx hp
  have hok : api_Attrs.ok x := hp _ rfl
  refine of_eq (q3 x true) (bif_of (fun _ => rfl) fun h => ?_)
  have hs : S10 x = true := by simpa using h
  have hl := small_len hok hs
  have hb := S12_len hok hs
  have hP : P12 x := ⟨by omega, by omega⟩
  have hQ : P17 (S12 x) := ⟨by omega, hb.2⟩
  refine ⟨hP, bif_of (fun h => ?_) fun _ => ⟨hP, bif_of (fun h => ?_) fun _ => bif_of (fun h => ?_) fun h => ⟨hQ, ?_⟩⟩⟩
  · rw [show S14 x = S13 x from rfl, decide_eq_true rfl] at h; cases h
  · rw [show S15 (S12 x) (S16 x) = true from decide_eq_true rfl] at h; cases h
  · have h : S13 x = false := by have h' : S14 x = false := (by simpa using h); exact h'
    have : S12 x = [] := by unfold S12; rw [h]; rfl
    rw [this]; rfl
  · have h : S13 x = true := by have h' : S14 x = true := (by simpa using h); exact h'
    have g := gd_of hok hs h
    rw [its_bytes g h, read_perm g (.refl _)]
    show decide (x = x) = true
    simp
abbrev h52_ := ConOk P7 52 (.srt (A := S.A) 45 53 Q52 R52)
theorem ok3 (h52 : ConOk P7 52 (.srt (A := S.A) 45 53 Q52 R52)) : Ok3 := con_ok (C := C3) (kok_cons ok15 (kok_cons ok18 (kok_cons ok10 (kok_cons ok13 (kok_cons (ok17 h52) (kok_cons ok12 (kok_cons (ok11 h52) (kok_cons ok14 (kk1 ok16))))))))) mx7 (by kernel_rfl) run3
end Go.Rx
