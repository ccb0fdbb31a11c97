import Derived.Test.YtadmpldpipagnaaDoorC5
set_option linter.unusedVariables false
set_option linter.unusedSimpArgs false
namespace Go.Rx
open Go.Ab Go.L10
set_option maxRecDepth 100000
set_option maxHeartbeats 20000000
set_option linter.unusedVariables false
/-- interregnum/interregnumlaw10.StreamMany -/
noncomputable def C303 : Cfg S := { P := P7, inl := [], K := [(18, ctr P7 [22] [22] (fun x0 => (some (P62 x0), S62 x0))), (16, ctr P7 [22] [3, 40] (fun x0 => (some (P316 x0), S316 x0))), (17, ctr P7 [22] [42, 40] (fun x0 => (some (P317 x0), S317 x0))), (15, ctr P7 [40] [40] (fun x0 => (some (P315 x0), S315 x0))), (9, ctr P7 [42] [22] (fun x0 => (some (P309 x0), S309 x0))), (6, ctr P7 [] [4] (none, S306))], ann := [(3, [(12, .loop [(.sl 6, .int .i64), (.ce 3 0, .sl 5), (.ce 3 1, .int .i64), (.ce 3 2, .int .i64), (.ce 3 3, .sl 5)]), (10, .join [(.bx 5, .bx 42)]), (5, .loop [(.sl 4, .int .i64), (.ce 3 0, .own 5), (.ce 3 1, .int .i64), (.ce 3 2, .int .i64), (.ce 3 3, .sl 5)])]), (10, [(12, .hyb [(0, ([], [10])), (1, ([], [13])), (2, ([], [3])), (3, ([2], [4])), (4, ([3], [5])), (5, ([4], [7, 12, 15])), (6, ([], [7])), (7, ([5, 6], [8])), (9, ([12], [15])), (10, ([0], [11])), (11, ([10], [12])), (13, ([1], [14])), (14, ([13], [15]))] (.one 0 (.one 1 (.one 2 (.one 3 (.one 4 (.one 5 (.one 6 (.one 7 (.alt 8 (.one 10 (.one 11 (.alt 9 (.alt 12 (.one 13 (.one 14 (.alt 15 .done .done))) .done) (.alt 12 (.one 9 (.one 13 (.one 14 (.alt 15 .done .done)))) .done)))) (.alt 9 (.alt 8 (.one 10 (.one 11 (.alt 12 (.one 13 (.one 14 (.alt 15 .done .done))) .done))) .done) .done))))))))))), (13, .hyb [(0, ([], [3, 4])), (1, ([], [2, 3, 4])), (5, ([], []))] (.one 0 (.one 1 (.alt 2 (.alt 3 (.alt 4 (.one 5 .done) .done) .done) .done))))])] }
abbrev W303 : CT S [4] [22] := (fun x0 => (some (P303 x0), S303 x0))
abbrev Ok303 : Prop := ConOk P7 3 (ctr P7 [22] [4] W303) ∧ ConMon (ctr P7 [22] [4] W303)
theorem q303 (x0 : List Int) (v : HR S [4]) : (Xf C303 6 (emp 0) 3 (argsA C303 [⟨22, x0⟩]) (emp 0) (fun r _ => isR C303.P [4] v r) (fun _ _ => False)) = (bif
 decide ((60 : Int) < (↑x0.length : Int)) then true = v else LOOP (fun (h : Int × List Int × Int × Int × List Int) (J : Int × List Int × Int × Int × List Int →
 Prop) => bif decide (h.fst < (↑x0.length : Int)) then JP (fun (h_1 : api_Msg) => ((h_1.fKind = (3 : Int) ∨ h_1.fKind = (4 : Int)) ∧ h_1.fNote.fData.length ≤
 nat_lit 1099511627776) ∧ bif decide ((↑(S309 h_1).length : Int) ≤ IntKind.i64.wrap ((1048576 : Int) - (↑h.snd.fst.length : Int))) then (h.snd.fst.length =
 h.snd.fst.length ∧ (h.snd.fst.length + (S309 h_1).length) * nat_lit 1 ≤ nat_lit 140737488355328) ∧ ∀ (y : List (Int)), y = h.snd.fst ++ S309 h_1 → y.length =
 y.length ∧ J (IntKind.i64.wrap (h.fst + (1 : Int)), y, h.snd.snd) else h.snd.fst.length = h.snd.fst.length ∧ J (IntKind.i64.wrap (h.fst + (1 : Int)), h.snd))
 fun (J : api_Msg → Prop) => ((0 : Int) ≤ h.fst ∧ h.fst < (↑x0.length : Int)) ∧ bif decide ((ix x0 h.fst).tmod (2 : Int) = (0 : Int)) then ((0 : Int) ≤ h.fst ∧
 h.fst < (↑x0.length : Int)) ∧ J (api_Msg.mk (3 : Int) (api_Open.mk (0 : Int) (0 : Int) (0 : Int) (api_Caps.mk false (0 : Int) false false (0 : Int) false
 false false (0 : Int))) (api_Update.mk [] (api_Attrs.mk (0 : Int) [] (0 : Int) (0 : Int) (0 : Int) [] []) []) (api_Note.mk (6 : Int) (IntKind.i64.wrap (ix x0
 h.fst)) [])) else J (api_Msg.mk (4 : Int) (api_Open.mk (0 : Int) (0 : Int) (0 : Int) (api_Caps.mk false (0 : Int) false false (0 : Int) false false false (0 :
 Int))) (api_Update.mk [] (api_Attrs.mk (0 : Int) [] (0 : Int) (0 : Int) (0 : Int) [] []) []) (api_Note.mk (0 : Int) (0 : Int) [])) else LOOP (fun (h : Int ×
 List Int × Int × Int × List Int) (J : Int × List Int × Int × Int × List Int → Prop) => bif decide (h.fst < (↑x0.length : Int)) then bif !decide (h.snd.snd.fst
 = (0 : Int)) then h.snd.snd.snd.snd.length.le (nat_lit 140737488355328) ∧ ((!decide (h.snd.snd.fst = (0 : Int))) = false → (0 : Int) ≤ h.fst ∧ h.fst <
 (↑x0.length : Int)) ∧ ((!decide (h.snd.snd.fst = (0 : Int)) || decide ((ix x0 h.fst).tmod (2 : Int) = (1 : Int)) && true) = false → (0 : Int) ≤ h.fst ∧ h.fst
 < (↑x0.length : Int)) ∧ ((!decide (h.snd.snd.fst = (0 : Int)) || decide ((ix x0 h.fst).tmod (2 : Int) = (1 : Int)) && true) = false → decide ((ix x0
 h.fst).tmod (2 : Int) = (0 : Int)) = true → true = false → (0 : Int) ≤ h.fst ∧ h.fst < (↑x0.length : Int)) ∧ bif !decide (h.snd.snd.fst = (0 : Int)) || decide
 ((ix x0 h.fst).tmod (2 : Int) = (1 : Int)) && true || decide ((ix x0 h.fst).tmod (2 : Int) = (0 : Int)) && true then false = v else J (IntKind.i64.wrap (h.fst
 + (1 : Int)), h.snd) else (∀ (x : Int), List.Mem x h.snd.fst → (0 : Int) ≤ x ∧ x ≤ (255 : Int)) ∧ bif !decide ((S316 h.snd.fst).snd.fCode = (0 : Int)) then
 (S316 h.snd.fst).snd.fData.length.le (nat_lit 140737488355328) ∧ ((!decide ((S316 h.snd.fst).snd.fCode = (0 : Int))) = false → (0 : Int) ≤ h.fst ∧ h.fst <
 (↑x0.length : Int)) ∧ ((!decide ((S316 h.snd.fst).snd.fCode = (0 : Int)) || decide ((ix x0 h.fst).tmod (2 : Int) = (1 : Int)) && true) = false → (0 : Int) ≤
 h.fst ∧ h.fst < (↑x0.length : Int)) ∧ ((!decide ((S316 h.snd.fst).snd.fCode = (0 : Int)) || decide ((ix x0 h.fst).tmod (2 : Int) = (1 : Int)) && true) = false
 → decide ((ix x0 h.fst).tmod (2 : Int) = (0 : Int)) = true → true = false → (0 : Int) ≤ h.fst ∧ h.fst < (↑x0.length : Int)) ∧ bif !decide ((S316
 h.snd.fst).snd.fCode = (0 : Int)) || decide ((ix x0 h.fst).tmod (2 : Int) = (1 : Int)) && true || decide ((ix x0 h.fst).tmod (2 : Int) = (0 : Int)) && true
 then false = v else J (IntKind.i64.wrap (h.fst + (1 : Int)), h.snd.fst, (S316 h.snd.fst).snd.fCode, (S316 h.snd.fst).snd.fSub, (S316 h.snd.fst).snd.fData)
 else bif decide ((S316 h.snd.fst).fst = (0 : Int)) || decide ((↑h.snd.fst.length : Int) < (S316 h.snd.fst).fst) then (true = false → (0 : Int) ≤ h.fst ∧ h.fst
 < (↑x0.length : Int)) ∧ (true = false → (0 : Int) ≤ h.fst ∧ h.fst < (↑x0.length : Int)) ∧ (true = false → decide ((ix x0 h.fst).tmod (2 : Int) = (0 : Int)) =
 true → true = false → (0 : Int) ≤ h.fst ∧ h.fst < (↑x0.length : Int)) ∧ false = v else ((S316 h.snd.fst).fst = (S316 h.snd.fst).fst ∧ (0 : Int) ≤ (0 : Int) ∧
 (0 : Int) ≤ (S316 h.snd.fst).fst ∧ (S316 h.snd.fst).fst ≤ (↑h.snd.fst.length : Int)) ∧ ((∀ (x : Int), List.Mem x (sub h.snd.fst (0 : Int) (S316
 h.snd.fst).fst) → (0 : Int) ≤ x ∧ x ≤ (255 : Int)) ∧ (sub h.snd.fst (0 : Int) (S316 h.snd.fst).fst).length ≤ nat_lit 140737488355328 ∧ ((S316 (sub h.snd.fst
 (0 : Int) (S316 h.snd.fst).fst)).snd.fCode = (0 : Int) → (S316 (sub h.snd.fst (0 : Int) (S316 h.snd.fst).fst)).fst = (↑(sub h.snd.fst (0 : Int) (S316
 h.snd.fst).fst).length : Int) → (sub h.snd.fst (0 : Int) (S316 h.snd.fst).fst).length ≠ nat_lit 0 → (3 : Int) ≤ k18 (sub h.snd.fst (0 : Int) (S316
 h.snd.fst).fst))) ∧ ((0 : Int) ≤ (S316 h.snd.fst).fst ∧ (S316 h.snd.fst).fst ≤ (↑h.snd.fst.length : Int) ∧ (↑h.snd.fst.length : Int) ≤ (↑h.snd.fst.length :
 Int)) ∧ ((sub h.snd.fst (S316 h.snd.fst).fst (↑h.snd.fst.length : Int)).length.le (nat_lit 140737488355328) ∧ (((((S317 (sub h.snd.fst (0 : Int) (S316
 h.snd.fst).fst)).snd.fData.length.le (nat_lit 140737488355328) ∧ ((((!decide ((S317 (sub h.snd.fst (0 : Int) (S316 h.snd.fst).fst)).snd.fCode = (0 : Int))) =
 false → (0 : Int) ≤ h.fst ∧ h.fst < (↑x0.length : Int)) ∧ ((!decide ((S317 (sub h.snd.fst (0 : Int) (S316 h.snd.fst).fst)).snd.fCode = (0 : Int)) || decide
 ((ix x0 h.fst).tmod (2 : Int) = (1 : Int)) && !decide ((S317 (sub h.snd.fst (0 : Int) (S316 h.snd.fst).fst)).fst.fKind = (4 : Int))) = false → (0 : Int) ≤
 h.fst ∧ h.fst < (↑x0.length : Int)) ∧ ((!decide ((S317 (sub h.snd.fst (0 : Int) (S316 h.snd.fst).fst)).snd.fCode = (0 : Int)) || decide ((ix x0 h.fst).tmod (2
 : Int) = (1 : Int)) && !decide ((S317 (sub h.snd.fst (0 : Int) (S316 h.snd.fst).fst)).fst.fKind = (4 : Int))) = false → decide ((ix x0 h.fst).tmod (2 : Int) =
 (0 : Int)) = true → (!decide ((S317 (sub h.snd.fst (0 : Int) (S316 h.snd.fst).fst)).fst.fKind = (3 : Int))) = false → (0 : Int) ≤ h.fst ∧ h.fst < (↑x0.length
 : Int)) ∧ bif !decide ((S317 (sub h.snd.fst (0 : Int) (S316 h.snd.fst).fst)).snd.fCode = (0 : Int)) || decide ((ix x0 h.fst).tmod (2 : Int) = (1 : Int)) &&
 !decide ((S317 (sub h.snd.fst (0 : Int) (S316 h.snd.fst).fst)).fst.fKind = (4 : Int)) || decide ((ix x0 h.fst).tmod (2 : Int) = (0 : Int)) && (!decide ((S317
 (sub h.snd.fst (0 : Int) (S316 h.snd.fst).fst)).fst.fKind = (3 : Int)) || !decide ((S317 (sub h.snd.fst (0 : Int) (S316 h.snd.fst).fst)).fst.fNote.fSub =
 IntKind.i64.wrap (ix x0 h.fst))) then false = v else J (IntKind.i64.wrap (h.fst + (1 : Int)), S62 (sub h.snd.fst (S316 h.snd.fst).fst (↑h.snd.fst.length :
 Int)), (S317 (sub h.snd.fst (0 : Int) (S316 h.snd.fst).fst)).snd.fCode, (S317 (sub h.snd.fst (0 : Int) (S316 h.snd.fst).fst)).snd.fSub, (S317 (sub h.snd.fst
 (0 : Int) (S316 h.snd.fst).fst)).snd.fData)) ∧ True) ∧ True) ∧ True) ∧ True) ∧ True) ∧ ((((S317 (sub h.snd.fst (0 : Int) (S316
 h.snd.fst).fst)).snd.fData.length.le (nat_lit 140737488355328) ∧ ((((!decide ((S317 (sub h.snd.fst (0 : Int) (S316 h.snd.fst).fst)).snd.fCode = (0 : Int))) =
 false → (0 : Int) ≤ h.fst ∧ h.fst < (↑x0.length : Int)) ∧ ((!decide ((S317 (sub h.snd.fst (0 : Int) (S316 h.snd.fst).fst)).snd.fCode = (0 : Int)) || decide
 ((ix x0 h.fst).tmod (2 : Int) = (1 : Int)) && !decide ((S317 (sub h.snd.fst (0 : Int) (S316 h.snd.fst).fst)).fst.fKind = (4 : Int))) = false → (0 : Int) ≤
 h.fst ∧ h.fst < (↑x0.length : Int)) ∧ ((!decide ((S317 (sub h.snd.fst (0 : Int) (S316 h.snd.fst).fst)).snd.fCode = (0 : Int)) || decide ((ix x0 h.fst).tmod (2
 : Int) = (1 : Int)) && !decide ((S317 (sub h.snd.fst (0 : Int) (S316 h.snd.fst).fst)).fst.fKind = (4 : Int))) = false → decide ((ix x0 h.fst).tmod (2 : Int) =
 (0 : Int)) = true → (!decide ((S317 (sub h.snd.fst (0 : Int) (S316 h.snd.fst).fst)).fst.fKind = (3 : Int))) = false → (0 : Int) ≤ h.fst ∧ h.fst < (↑x0.length
 : Int)) ∧ bif !decide ((S317 (sub h.snd.fst (0 : Int) (S316 h.snd.fst).fst)).snd.fCode = (0 : Int)) || decide ((ix x0 h.fst).tmod (2 : Int) = (1 : Int)) &&
 !decide ((S317 (sub h.snd.fst (0 : Int) (S316 h.snd.fst).fst)).fst.fKind = (4 : Int)) || decide ((ix x0 h.fst).tmod (2 : Int) = (0 : Int)) && (!decide ((S317
 (sub h.snd.fst (0 : Int) (S316 h.snd.fst).fst)).fst.fKind = (3 : Int)) || !decide ((S317 (sub h.snd.fst (0 : Int) (S316 h.snd.fst).fst)).fst.fNote.fSub =
 IntKind.i64.wrap (ix x0 h.fst))) then false = v else J (IntKind.i64.wrap (h.fst + (1 : Int)), S62 (sub h.snd.fst (S316 h.snd.fst).fst (↑h.snd.fst.length :
 Int)), (S317 (sub h.snd.fst (0 : Int) (S316 h.snd.fst).fst)).snd.fCode, (S317 (sub h.snd.fst (0 : Int) (S316 h.snd.fst).fst)).snd.fSub, (S317 (sub h.snd.fst
 (0 : Int) (S316 h.snd.fst).fst)).snd.fData)) ∧ True) ∧ True) ∧ True) ∧ True) ∧ True) ∧ (((sub h.snd.fst (S316 h.snd.fst).fst (↑h.snd.fst.length :
 Int)).length.le (nat_lit 140737488355328) ∧ ((((S317 (sub h.snd.fst (0 : Int) (S316 h.snd.fst).fst)).snd.fData.length.le (nat_lit 140737488355328) ∧
 ((((!decide ((S317 (sub h.snd.fst (0 : Int) (S316 h.snd.fst).fst)).snd.fCode = (0 : Int))) = false → (0 : Int) ≤ h.fst ∧ h.fst < (↑x0.length : Int)) ∧
 ((!decide ((S317 (sub h.snd.fst (0 : Int) (S316 h.snd.fst).fst)).snd.fCode = (0 : Int)) || decide ((ix x0 h.fst).tmod (2 : Int) = (1 : Int)) && !decide ((S317
 (sub h.snd.fst (0 : Int) (S316 h.snd.fst).fst)).fst.fKind = (4 : Int))) = false → (0 : Int) ≤ h.fst ∧ h.fst < (↑x0.length : Int)) ∧ ((!decide ((S317 (sub
 h.snd.fst (0 : Int) (S316 h.snd.fst).fst)).snd.fCode = (0 : Int)) || decide ((ix x0 h.fst).tmod (2 : Int) = (1 : Int)) && !decide ((S317 (sub h.snd.fst (0 :
 Int) (S316 h.snd.fst).fst)).fst.fKind = (4 : Int))) = false → decide ((ix x0 h.fst).tmod (2 : Int) = (0 : Int)) = true → (!decide ((S317 (sub h.snd.fst (0 :
 Int) (S316 h.snd.fst).fst)).fst.fKind = (3 : Int))) = false → (0 : Int) ≤ h.fst ∧ h.fst < (↑x0.length : Int)) ∧ bif !decide ((S317 (sub h.snd.fst (0 : Int)
 (S316 h.snd.fst).fst)).snd.fCode = (0 : Int)) || decide ((ix x0 h.fst).tmod (2 : Int) = (1 : Int)) && !decide ((S317 (sub h.snd.fst (0 : Int) (S316
 h.snd.fst).fst)).fst.fKind = (4 : Int)) || decide ((ix x0 h.fst).tmod (2 : Int) = (0 : Int)) && (!decide ((S317 (sub h.snd.fst (0 : Int) (S316
 h.snd.fst).fst)).fst.fKind = (3 : Int)) || !decide ((S317 (sub h.snd.fst (0 : Int) (S316 h.snd.fst).fst)).fst.fNote.fSub = IntKind.i64.wrap (ix x0 h.fst)))
 then false = v else J (IntKind.i64.wrap (h.fst + (1 : Int)), S62 (sub h.snd.fst (S316 h.snd.fst).fst (↑h.snd.fst.length : Int)), (S317 (sub h.snd.fst (0 :
 Int) (S316 h.snd.fst).fst)).snd.fCode, (S317 (sub h.snd.fst (0 : Int) (S316 h.snd.fst).fst)).snd.fSub, (S317 (sub h.snd.fst (0 : Int) (S316
 h.snd.fst).fst)).snd.fData)) ∧ True) ∧ True) ∧ True) ∧ True) ∧ True) ∧ True) ∧ True else bif !decide (h.snd.snd.fst = (0 : Int)) then
 h.snd.snd.snd.snd.length.le (nat_lit 140737488355328) ∧ false = v else (∀ (x : Int), List.Mem x h.snd.fst → (0 : Int) ≤ x ∧ x ≤ (255 : Int)) ∧ bif !decide
 ((S316 h.snd.fst).snd.fCode = (0 : Int)) then (S316 h.snd.fst).snd.fData.length.le (nat_lit 140737488355328) ∧ false = v else bif decide ((S316 h.snd.fst).fst
 = (0 : Int)) || decide ((↑h.snd.fst.length : Int) < (S316 h.snd.fst).fst) then decide ((↑h.snd.fst.length : Int) = (0 : Int)) = v else ((S316 h.snd.fst).fst =
 (S316 h.snd.fst).fst ∧ (0 : Int) ≤ (0 : Int) ∧ (0 : Int) ≤ (S316 h.snd.fst).fst ∧ (S316 h.snd.fst).fst ≤ (↑h.snd.fst.length : Int)) ∧ ((∀ (x : Int), List.Mem
 x (sub h.snd.fst (0 : Int) (S316 h.snd.fst).fst) → (0 : Int) ≤ x ∧ x ≤ (255 : Int)) ∧ (sub h.snd.fst (0 : Int) (S316 h.snd.fst).fst).length ≤ nat_lit
 140737488355328 ∧ ((S316 (sub h.snd.fst (0 : Int) (S316 h.snd.fst).fst)).snd.fCode = (0 : Int) → (S316 (sub h.snd.fst (0 : Int) (S316 h.snd.fst).fst)).fst =
 (↑(sub h.snd.fst (0 : Int) (S316 h.snd.fst).fst).length : Int) → (sub h.snd.fst (0 : Int) (S316 h.snd.fst).fst).length ≠ nat_lit 0 → (3 : Int) ≤ k18 (sub
 h.snd.fst (0 : Int) (S316 h.snd.fst).fst))) ∧ ((0 : Int) ≤ (S316 h.snd.fst).fst ∧ (S316 h.snd.fst).fst ≤ (↑h.snd.fst.length : Int) ∧ (↑h.snd.fst.length : Int)
 ≤ (↑h.snd.fst.length : Int)) ∧ ((sub h.snd.fst (S316 h.snd.fst).fst (↑h.snd.fst.length : Int)).length.le (nat_lit 140737488355328) ∧ (((((S317 (sub h.snd.fst
 (0 : Int) (S316 h.snd.fst).fst)).snd.fData.length.le (nat_lit 140737488355328) ∧ (false = v ∧ True) ∧ True) ∧ True) ∧ True) ∧ True) ∧ ((((S317 (sub h.snd.fst
 (0 : Int) (S316 h.snd.fst).fst)).snd.fData.length.le (nat_lit 140737488355328) ∧ (false = v ∧ True) ∧ True) ∧ True) ∧ True) ∧ True) ∧ (((sub h.snd.fst (S316
 h.snd.fst).fst (↑h.snd.fst.length : Int)).length.le (nat_lit 140737488355328) ∧ ((((S317 (sub h.snd.fst (0 : Int) (S316 h.snd.fst).fst)).snd.fData.length.le
 (nat_lit 140737488355328) ∧ (false = v ∧ True) ∧ True) ∧ True) ∧ True) ∧ True) ∧ True) ∧ True) ((0 : Int), h.snd)) ((0 : Int), [], (0 : Int), (0 : Int), []))
 := by kernel_rfl
end Go.Rx
/-! Messages one behind the other. -/
namespace Go.Rx
open Go.Ab Go.L10
set_option linter.unusedVariables false
set_option maxRecDepth 100000
def encM (k : Int) : api_Msg := if k.tmod 2 = 0 then { noMsg with fKind := 3, fNote := ⟨6, k, []⟩ } else aliveM
def noteB (k : Int) (r : List Int) : List Int := 255 :: 255 :: 255 :: 255 :: 255 :: 255 :: 255 :: 255 :: 255 :: 255 :: 255 :: 255 :: 255 :: 255 :: 255 :: 255 :: 0 :: 21 :: 3 :: 6 :: k :: r
def alivB (r : List Int) : List Int := 255 :: 255 :: 255 :: 255 :: 255 :: 255 :: 255 :: 255 :: 255 :: 255 :: 255 :: 255 :: 255 :: 255 :: 255 :: 255 :: 0 :: 19 :: 4 :: r
def encB (k : Int) : List Int := if k.tmod 2 = 0 then noteB k [] else alivB []
theorem head_note {k : Int} {r : List Int} : S316 (noteB k r) = (21, no) := by
  unfold S316
  have hl : (noteB k r).length = r.length + 21 := rfl
  rw [if_neg (by omega), if_neg (by rw [show cnt 255 (sub (noteB k r) 0 16) = 16 from by kernel_rfl]; decide), if_neg (by rw [show sz2 (noteB k r) = 21 from by kernel_rfl]; decide), if_neg (by rw [show k18 (noteB k r) = 3 from by kernel_rfl]; decide), if_neg (by rw [show k18 (noteB k r) = 3 from by kernel_rfl, show sz2 (noteB k r) = 21 from by kernel_rfl]; decide)]
  rfl
theorem head_alive {r : List Int} : S316 (alivB r) = (19, no) := by
  unfold S316
  have hl : (alivB r).length = r.length + 19 := rfl
  rw [if_neg (by omega), if_neg (by rw [show cnt 255 (sub (alivB r) 0 16) = 16 from by kernel_rfl]; decide), if_neg (by rw [show sz2 (alivB r) = 19 from by kernel_rfl]; decide), if_neg (by rw [show k18 (alivB r) = 4 from by kernel_rfl]; decide), if_neg (by rw [show k18 (alivB r) = 4 from by kernel_rfl, show sz2 (alivB r) = 19 from by kernel_rfl]; decide)]
  rfl
theorem dec_note {k : Int} : S317 (noteB k []) = ({ noMsg with fKind := 3, fNote := ⟨6, k, []⟩ }, no) := by
  unfold S317
  rw [head_note, if_neg (by decide), if_neg (by show ¬ ((21 : Int) ≠ ((21 : Nat) : Int) ∨ 21 = 0); decide), if_pos (by kernel_rfl)]
  rfl
theorem dec_alive : S317 (alivB []) = (aliveM, no) := by kernel_rfl
/-- What stands ahead of the rest is read. -/
theorem enc_head (k : Int) (r : List Int) : ∃ n : Nat, S316 (encB k ++ r) = ((n : Int), no) ∧ 19 ≤ n ∧ n ≤ 21 ∧ (encB k ++ r).length = n + r.length ∧ sub (encB k ++ r) 0 n = encB k ∧ sub (encB k ++ r) n (encB k ++ r).length = r ∧ S317 (encB k) = (encM k, no) ∧ 3 ≤ k18 (encB k) := by
  unfold encB encM
  by_cases h : k.tmod 2 = 0
  · rw [if_pos h, if_pos h]
    refine ⟨21, head_note (r := r), by decide, by decide, by show r.length + 21 = _; omega, rfl, ?_, dec_note, by rw [show k18 (noteB k []) = 3 from by kernel_rfl]; decide⟩
    exact sub_drop' (l := noteB k r) (i := 21) (by show 21 ≤ r.length + 21; omega)
  · rw [if_neg h, if_neg h]
    refine ⟨19, head_alive (r := r), by decide, by decide, by show r.length + 19 = _; omega, rfl, ?_, dec_alive, by rw [show k18 (alivB []) = 4 from by kernel_rfl]; decide⟩
    exact sub_drop' (l := alivB r) (i := 19) (by show 19 ≤ r.length + 19; omega)
theorem enc_len (k : Int) : (encB k).length ≤ 21 := by
  unfold encB
  by_cases h : k.tmod 2 = 0
  · rw [if_pos h]; exact Nat.le_refl _
  · rw [if_neg h]; exact (by decide : 19 ≤ 21)
theorem byt_enc {k : Int} (hk : 0 ≤ k ∧ k ≤ 255) : Byt (encB k) := by
  unfold encB
  by_cases h : k.tmod 2 = 0
  · rw [if_pos h]
    intro x hx
    simp only [noteB, List.mem_cons, List.not_mem_nil, or_false] at hx
    omega
  · rw [if_neg h]
    exact byt_alive
theorem enc_note {k : Int} (hk : 0 ≤ k ∧ k ≤ 255) : S309 (api_Msg.mk 3 noOpen noUpd (api_Note.mk 6 (IntKind.i64.wrap k) [])) = noteB k [] := by
  rw [wrap64 (by omega)]
  unfold S309
  have hb : bodyS (api_Msg.mk 3 noOpen noUpd (api_Note.mk 6 k [])) = [6, k] := by
    show [IntKind.wrap .u8 6, IntKind.wrap .u8 k] = _
    rw [show IntKind.wrap .u8 k = k from by rw [wrap8]; omega]
    rfl
  have ho : okN (api_Msg.mk 3 noOpen noUpd (api_Note.mk 6 k [])) = true := by
    unfold okN
    rw [if_pos rfl]
    simp only [Bool.and_eq_true, decide_eq_true_eq]
    omega
  rw [hb, if_pos ho, if_pos (by show 2 ≤ 4077; decide)]
  have e : ff16 ++ S314 (19 + (([6, k] : List Int).length : Int)) ++ [IntKind.wrap .u8 3] ++ [6, k] = noteB k [] := by kernel_rfl
  exact e
theorem enc_alive : S309 aliveM = alivB [] := by kernel_rfl
theorem byt_app {a b : List Int} (ha : Byt a) (hb : Byt b) : Byt (a ++ b) := fun x hx => (List.mem_append.1 hx).elim (ha x) (hb x)
theorem byt_flat : ∀ {l : List Int}, Byt l → Byt (l.flatMap encB)
  | [], _ => fun x hx => by cases hx
  | k :: r, h => by rw [List.flatMap_cons]; exact byt_app (byt_enc (h k List.mem_cons_self)) (byt_flat fun x hx => h x (List.mem_cons_of_mem _ hx))
theorem flat_len : ∀ (l : List Int), (l.flatMap encB).length ≤ 21 * l.length
  | [] => Nat.le_refl _
  | k :: r => by
    have := flat_len r
    have := enc_len k
    rw [List.flatMap_cons, List.length_append, List.length_cons]
    omega
theorem take_ix {l : List Int} {i : Nat} (hi : i < l.length) : l.take (i + 1) = l.take i ++ [ix l i] := by
  rw [List.take_add_one]
  unfold ix
  simp [hi]
theorem drop_ix {l : List Int} {i : Nat} (hi : i < l.length) : l.drop i = ix l i :: l.drop (i + 1) := by
  rw [List.drop_eq_getElem_cons hi]
  unfold ix
  simp [hi]
theorem run303 : RunC C303 6 3 [4] [22] W303 [] := by
  intro (x : List Int) hx hp
  have hb : Byt x := hp _ rfl
  refine of_eq (q303 x true) (bif_of (fun _ => rfl) fun h => ?_)
  have hl : ¬ (60 : Int) < x.length := by simpa using h
  refine LOOP.of (fun h => ∃ n : Nat, n ≤ x.length ∧ h = ((n : Int), (x.take n).flatMap encB, 0, 0, [])) (fun h => (x.length - h.1).toNat) ⟨0, Nat.zero_le _, rfl⟩ ?_
  rintro _ ⟨n, hn, rfl⟩ J hJ
  have hbl := flat_len (x.take n)
  rw [List.length_take] at hbl
  refine bif_of (fun h => ?_) fun h => ?_
  · have h : (n : Int) < x.length := by simpa using h
    have hk := byt_ix hb n
    have next : ∀ m : api_Msg, S309 m = encB (ix x n) → (m.fKind = 3 ∨ m.fKind = 4) → m.fNote.fData = [] → ((m.fKind = (3 : Int) ∨ m.fKind = (4 : Int)) ∧ m.fNote.fData.length.le 1099511627776) ∧ bif decide ((↑(S309 m).length : Int) ≤ IntKind.i64.wrap ((1048576 : Int) - (↑((x.take n).flatMap encB).length : Int))) then (((x.take n).flatMap encB).length = ((x.take n).flatMap encB).length ∧ (((x.take n).flatMap encB).length + (S309 m).length) * 1 ≤ 140737488355328) ∧ ∀ (y : List Int), y = ((x.take n).flatMap encB) ++ S309 m → y.length = y.length ∧ J (IntKind.i64.wrap ((n : Int) + (1 : Int)), y, 0, 0, []) else ((x.take n).flatMap encB).length = ((x.take n).flatMap encB).length ∧ J (IntKind.i64.wrap ((n : Int) + (1 : Int)), ((x.take n).flatMap encB), 0, 0, []) := by
      intro m hm hk3 hd
      have he := enc_len (ix x n)
      rw [hm, hd]
      refine ⟨⟨hk3, Nat.zero_le _⟩, bif_t (decide_eq_true (by rw [wrap64 (by omega)]; omega)) ⟨⟨rfl, by omega⟩, ?_⟩⟩
      rintro _ rfl
      refine ⟨rfl, hJ _ ⟨n + 1, by omega, ?_⟩ ?_⟩
      · rw [wrap64 (by omega), take_ix (by omega), List.flatMap_append]
        simp
      · rw [wrap64 (by omega)]; omega
    refine ⟨?_⟩
    refine ⟨⟨by omega, h⟩, bif_of (fun h2 => ⟨⟨by omega, h⟩, ?_⟩) fun h2 => ?_⟩
    · have h2 : (ix x n).tmod 2 = 0 := by simpa using h2
      exact next _ ((enc_note hk).trans (by unfold encB; rw [if_pos h2])) (.inl rfl) rfl
    · have h2 : ¬ (ix x n).tmod 2 = 0 := by simpa using h2
      exact next _ (by unfold encB; rw [if_neg h2]; exact enc_alive) (.inr rfl) rfl
  · have h : ¬ (n : Int) < x.length := by simpa using h
    have hn : n = x.length := by omega
    subst hn
    clear hJ J hbl h
    rw [List.take_length]
    refine LOOP.of (fun h => ∃ n : Nat, n ≤ x.length ∧ h = ((n : Int), (x.drop n).flatMap encB, 0, 0, [])) (fun h => (x.length - h.1).toNat) ⟨0, Nat.zero_le _, rfl⟩ ?_
    rintro _ ⟨n, hn, rfl⟩ J hJ
    refine bif_of (fun h => ?_) fun h => ?_
    · have h : (n : Int) < x.length := by simpa using h
      have hk := byt_ix hb n
      rw [drop_ix (by omega), List.flatMap_cons]
      have hbd : Byt ((x.drop (n + 1)).flatMap encB) := byt_flat fun y hy => hb y (List.mem_of_mem_drop hy)
      have hle := flat_len (x.drop (n + 1))
      rw [List.length_drop] at hle
      generalize hr : (x.drop (n + 1)).flatMap encB = r at hbd hle
      obtain ⟨m, e1, m1, m2, e2, e3, e4, e5, e6⟩ := enc_head (ix x n) r
      have hbb : Byt (encB (ix x n) ++ r) := byt_app (byt_enc hk) hbd
      generalize encB (ix x n) ++ r = b at e1 e2 e3 e4 hbb
      have el := enc_len (ix x n)
      have key : ∀ {v : Bool}, (bif !decide ((encM (ix x n), no).snd.fCode = (0 : Int)) || decide ((ix x n).tmod (2 : Int) = (1 : Int)) && !decide ((encM (ix x n), no).fst.fKind = (4 : Int)) || decide ((ix x n).tmod (2 : Int) = (0 : Int)) && (!decide ((encM (ix x n), no).fst.fKind = (3 : Int)) || !decide ((encM (ix x n), no).fst.fNote.fSub = IntKind.i64.wrap (ix x n))) then false = v else J (IntKind.i64.wrap ((n : Int) + (1 : Int)), S62 r, (encM (ix x n), no).snd.fCode, (encM (ix x n), no).snd.fSub, (encM (ix x n), no).snd.fData)) := by
        intro v
        refine bif_f ?_ (hJ _ ⟨n + 1, by omega, ?_⟩ ?_)
        · rw [wrap64 (n := ix x n) (by omega)]
          unfold encM
          by_cases h2 : (ix x n).tmod 2 = 0
          · rw [if_pos h2, h2]; simp [no]
          · rw [if_neg h2]; simp [h2, no, aliveM]
        · rw [wrap64 (by omega), ← hr]; rfl
        · rw [wrap64 (by omega)]; omega
      dsimp only
      have s1 : sub b 0 (S316 b).fst = encB (ix x n) := by rw [e1]; exact e3
      have s2 : sub b (S316 b).fst b.length = r := by rw [e1]; exact e4
      rw [s1, s2, e5, e1]
      have hel : (encB (ix x n)).length ≤ 140737488355328 := by omega
      have hrl : r.length.le 140737488355328 := by show r.length ≤ 140737488355328; omega
      have hi : (0 : Int) ≤ (n : Int) ∧ (n : Int) < (x.length : Int) := ⟨by omega, h⟩
      refine bif_f rfl ⟨hbb, bif_f rfl (bif_f ?_ ⟨⟨rfl, Int.le_refl _, by omega, by rw [e2]; omega⟩, ⟨byt_enc hk, hel, fun _ _ _ => e6⟩, ⟨by omega, by rw [e2]; omega, Int.le_refl _⟩, ?_⟩)⟩
      · rw [e2]
        simp only [Bool.or_eq_false_iff, decide_eq_false_iff_not]
        omega
      · repeat' apply And.intro
        all_goals first | exact trivial | exact hrl | exact Nat.zero_le _ | exact fun _ => hi | exact fun _ _ => hi | exact fun _ _ _ => hi | exact key
    · have h : ¬ (n : Int) < x.length := by simpa using h
      have hn : n = x.length := by omega
      subst hn
      rw [List.drop_length]
      dsimp only
      refine bif_f rfl ⟨fun x hx => (by cases hx), bif_f rfl (bif_t rfl rfl)⟩
theorem ok303 : Ok303 := con_ok (C := C303) (kok_cons ok62 (kok_cons ok316 (kok_cons ok317 (kok_cons ok315 (kok_cons ok309 (kk1 ok306)))))) mx7 (by kernel_rfl) run303
end Go.Rx
/-! What the law StreamMany hands back. -/
namespace Go.Rx
open Go.Ab Go.L10
set_option maxRecDepth 100000
theorem con303 : ∀ (args : List (AV S.A)) (k : AV S.A → Prop), appC (S := S) P7 [4] [22] W303 args k → PFk (S := S) P7 3 (args.map stripA) k := ok303.1
theorem pf303 (x0 : List Int) (h : P303 x0) : PFk (S := S) P7 3 ([argA (S := S) P7 22 x0].map stripA) (fun q => q = .sc (.bool true)) := by
  refine con303 [argA (S := S) P7 22 x0] _ ?_
  show withP (some (P303 x0)) _
  exact ⟨h, rfl⟩
theorem strip303 (x0 : List Int) : [argA (S := S) P7 22 x0].map stripA = [.sem (SL (eI .u8) x0)] := by kernel_rfl
end Go.Rx
namespace Go.Proofs.YtadmpldpipagnaaDoor
open Go.Ab Go.Rx Go.L10
theorem StreamMany_ok (x0 : List Int) (o0 : okL (okI .u8) x0) : PFg S P7 3 [.sem (SL (eI .u8) x0)] (.sc (.bool true)) := by
  have h := pf_of_pfk (pf303 x0 (byt_ok o0))
  rw [strip303] at h
  exact h
end Go.Proofs.YtadmpldpipagnaaDoor
