import Derived.Test.YtadjcpiiagkdeaaDoorV7
set_option linter.unusedVariables false
set_option linter.unusedSimpArgs false
namespace Go.Rx
open Go.Ab Go.L21
set_option maxRecDepth 100000
set_option maxHeartbeats 20000000
set_option linter.unusedVariables false
/-- interregnum/interregnumlaw24.ScriptLine -/
noncomputable def C309 : Cfg S := { P := P7, inl := [], K := [(25, ctr P7 [42] [9] (fun x0 => (some (P325 x0), S325 x0))), (31, ctr P7 [9] [9] (fun x0 => (some (P331 x0), S331 x0))), (30, ctr P7 [49] [9] (fun x0 => (some (P330 x0), S330 x0))), (29, ctr P7 [9] [49, 3, 52] (fun x0 => (some (P329 x0), S329 x0))), (26, ctr P7 [49] [4] (fun x0 => (some (P326 x0), S326 x0))), (27, ctr P7 [] [4] (none, S327))], ann := [] }
abbrev W309 : CT S [4] [49, 5, 5] := (fun x0 x1 x2 => (some (P309 x0 x1 x2), S309 x0 x1 x2))
abbrev Ok309 : Prop := ConOk P7 9 (ctr P7 [49, 5, 5] [4] W309) ∧ ConMon (ctr P7 [49, 5, 5] [4] W309)
theorem q309 (x0 : List api_Step) (x1 : Int) (x2 : Int) (v : HR S [4]) : (Xf C309 6 (emp 0) 9 (argsA C309 [⟨49, x0⟩, ⟨5, x1⟩, ⟨5, x2⟩]) (emp 0) (fun r _ => isR
 C309.P [4] v r) (fun _ _ => False)) = (okSmall x0 ∧ bif !S326 x0 then true = v else OkP (api_PeerConf.mk (0 : Int) (0 : Int) [] []) ∧ Nat.le (nat_lit 9)
 (nat_lit 1099511627776) ∧ nat_lit 20 ≤ nat_lit 9223372036854775807 ∧ nat_lit 36 ≤ nat_lit 9223372036854775807 ∧ nat_lit 36 ≤ nat_lit 9223372036854775807 ∧
 nat_lit 36 ≤ nat_lit 9223372036854775807 ∧ nat_lit 44 ≤ nat_lit 9223372036854775807 ∧ nat_lit 36 ≤ nat_lit 9223372036854775807 ∧ nat_lit 37 ≤ nat_lit
 9223372036854775807 ∧ nat_lit 35 ≤ nat_lit 9223372036854775807 ∧ nat_lit 36 ≤ nat_lit 9223372036854775807 ∧ (IntKind.i64.wrap ((↑x0.length : Int) + (1 : Int))
 = (0 : Int) → False) ∧ ((0 : Int) ≤ (0 : Int) ∧ (0 : Int) ≤ (IntKind.i64.wrap x1).tmod (IntKind.i64.wrap ((↑x0.length : Int) + (1 : Int))) ∧ (IntKind.i64.wrap
 x1).tmod (IntKind.i64.wrap ((↑x0.length : Int) + (1 : Int))) ≤ (↑x0.length : Int)) ∧ ((0 : Int) ≤ x2.tmod (12 : Int) ∧ x2.tmod (12 : Int) < (↑(nat_lit 12) :
 Int)) ∧ ((0 : Int) ≤ (IntKind.i64.wrap x1).tmod (IntKind.i64.wrap ((↑x0.length : Int) + (1 : Int))) ∧ (IntKind.i64.wrap x1).tmod (IntKind.i64.wrap
 ((↑x0.length : Int) + (1 : Int))) ≤ (↑x0.length : Int) ∧ (↑x0.length : Int) ≤ (↑x0.length : Int)) ∧ okSteps (sub x0 (0 : Int) ((IntKind.i64.wrap x1).tmod
 (IntKind.i64.wrap ((↑x0.length : Int) + (1 : Int))))) ∧ (S330 (sub x0 (0 : Int) ((IntKind.i64.wrap x1).tmod (IntKind.i64.wrap ((↑x0.length : Int) + (1 :
 Int)))))).size + (ix [ByteArray.mk #[], ByteArray.mk #[(49 : UInt8)], ByteArray.mk #[(49 : UInt8), (32 : UInt8), (48 : UInt8), (32 : UInt8), (48 : UInt8), (32
 : UInt8), (48 : UInt8), (32 : UInt8), (48 : UInt8), (32 : UInt8), (48 : UInt8), (32 : UInt8), (48 : UInt8), (32 : UInt8), (120 : UInt8)], ByteArray.mk #[(48 :
 UInt8), (49 : UInt8), (32 : UInt8), (48 : UInt8), (32 : UInt8), (48 : UInt8), (32 : UInt8), (48 : UInt8), (32 : UInt8), (48 : UInt8), (32 : UInt8), (48 :
 UInt8), (32 : UInt8), (48 : UInt8), (32 : UInt8), (120 : UInt8)] ++ (ByteArray.mk #[(32 : UInt8), (120 : UInt8)] ++ S331 (S325 (api_PeerConf.mk (0 : Int) (0 :
 Int) [] []))), ByteArray.mk #[(49 : UInt8), (32 : UInt8), (43 : UInt8), (48 : UInt8), (32 : UInt8), (48 : UInt8), (32 : UInt8), (48 : UInt8), (32 : UInt8),
 (48 : UInt8), (32 : UInt8), (48 : UInt8), (32 : UInt8), (48 : UInt8), (32 : UInt8), (120 : UInt8)] ++ (ByteArray.mk #[(32 : UInt8), (120 : UInt8)] ++ S331
 (S325 (api_PeerConf.mk (0 : Int) (0 : Int) [] []))), ByteArray.mk #[(49 : UInt8), (32 : UInt8), (48 : UInt8), (32 : UInt8), (48 : UInt8), (32 : UInt8), (45 :
 UInt8), (49 : UInt8), (32 : UInt8), (48 : UInt8), (32 : UInt8), (48 : UInt8), (32 : UInt8), (48 : UInt8), (32 : UInt8), (120 : UInt8)] ++ (ByteArray.mk #[(32
 : UInt8), (120 : UInt8)] ++ S331 (S325 (api_PeerConf.mk (0 : Int) (0 : Int) [] []))), ByteArray.mk #[(49 : UInt8), (32 : UInt8), (48 : UInt8), (32 : UInt8),
 (48 : UInt8), (32 : UInt8), (48 : UInt8), (32 : UInt8), (52 : UInt8), (50 : UInt8), (57 : UInt8), (52 : UInt8), (57 : UInt8), (54 : UInt8), (55 : UInt8), (50
 : UInt8), (57 : UInt8), (54 : UInt8), (32 : UInt8), (48 : UInt8), (32 : UInt8), (48 : UInt8), (32 : UInt8), (120 : UInt8)] ++ (ByteArray.mk #[(32 : UInt8),
 (120 : UInt8)] ++ S331 (S325 (api_PeerConf.mk (0 : Int) (0 : Int) [] []))), ByteArray.mk #[(49 : UInt8), (32 : UInt8), (48 : UInt8), (32 : UInt8), (48 :
 UInt8), (32 : UInt8), (48 : UInt8), (32 : UInt8), (48 : UInt8), (32 : UInt8), (48 : UInt8), (32 : UInt8), (48 : UInt8), (32 : UInt8), (120 : UInt8), (49 :
 UInt8)] ++ (ByteArray.mk #[(32 : UInt8), (120 : UInt8)] ++ S331 (S325 (api_PeerConf.mk (0 : Int) (0 : Int) [] []))), ByteArray.mk #[(49 : UInt8), (32 :
 UInt8), (48 : UInt8), (32 : UInt8), (48 : UInt8), (32 : UInt8), (48 : UInt8), (32 : UInt8), (48 : UInt8), (32 : UInt8), (48 : UInt8), (32 : UInt8), (48 :
 UInt8), (32 : UInt8), (120 : UInt8), (65 : UInt8), (66 : UInt8)] ++ (ByteArray.mk #[(32 : UInt8), (120 : UInt8)] ++ S331 (S325 (api_PeerConf.mk (0 : Int) (0 :
 Int) [] []))), ByteArray.mk #[(49 : UInt8), (32 : UInt8), (48 : UInt8), (32 : UInt8), (48 : UInt8), (32 : UInt8), (48 : UInt8), (32 : UInt8), (48 : UInt8),
 (32 : UInt8), (48 : UInt8), (32 : UInt8), (48 : UInt8), (32 : UInt8), (120 : UInt8), (32 : UInt8), (120 : UInt8)], ByteArray.mk #[(49 : UInt8), (32 : UInt8),
 (48 : UInt8), (32 : UInt8), (48 : UInt8), (32 : UInt8), (48 : UInt8), (32 : UInt8), (48 : UInt8), (32 : UInt8), (48 : UInt8), (32 : UInt8), (48 : UInt8), (32
 : UInt8), (120 : UInt8)] ++ (ByteArray.mk #[(32 : UInt8), (120 : UInt8)] ++ S331 (S325 (api_PeerConf.mk (0 : Int) (0 : Int) [] []))) ++ ByteArray.mk #[(32 :
 UInt8)], ByteArray.mk #[(49 : UInt8), (32 : UInt8), (48 : UInt8), (32 : UInt8), (48 : UInt8), (32 : UInt8), (48 : UInt8), (32 : UInt8), (48 : UInt8), (32 :
 UInt8), (48 : UInt8), (32 : UInt8), (48 : UInt8), (32 : UInt8), (120 : UInt8), (32 : UInt8), (120 : UInt8), (51 : UInt8), (97 : UInt8)]] (x2.tmod (12 :
 Int))).size ≤ nat_lit 9223372036854775807 ∧ (S330 (sub x0 (0 : Int) ((IntKind.i64.wrap x1).tmod (IntKind.i64.wrap ((↑x0.length : Int) + (1 : Int))))) ++ ix
 [ByteArray.mk #[], ByteArray.mk #[(49 : UInt8)], ByteArray.mk #[(49 : UInt8), (32 : UInt8), (48 : UInt8), (32 : UInt8), (48 : UInt8), (32 : UInt8), (48 :
 UInt8), (32 : UInt8), (48 : UInt8), (32 : UInt8), (48 : UInt8), (32 : UInt8), (48 : UInt8), (32 : UInt8), (120 : UInt8)], ByteArray.mk #[(48 : UInt8), (49 :
 UInt8), (32 : UInt8), (48 : UInt8), (32 : UInt8), (48 : UInt8), (32 : UInt8), (48 : UInt8), (32 : UInt8), (48 : UInt8), (32 : UInt8), (48 : UInt8), (32 :
 UInt8), (48 : UInt8), (32 : UInt8), (120 : UInt8)] ++ (ByteArray.mk #[(32 : UInt8), (120 : UInt8)] ++ S331 (S325 (api_PeerConf.mk (0 : Int) (0 : Int) []
 []))), ByteArray.mk #[(49 : UInt8), (32 : UInt8), (43 : UInt8), (48 : UInt8), (32 : UInt8), (48 : UInt8), (32 : UInt8), (48 : UInt8), (32 : UInt8), (48 :
 UInt8), (32 : UInt8), (48 : UInt8), (32 : UInt8), (48 : UInt8), (32 : UInt8), (120 : UInt8)] ++ (ByteArray.mk #[(32 : UInt8), (120 : UInt8)] ++ S331 (S325
 (api_PeerConf.mk (0 : Int) (0 : Int) [] []))), ByteArray.mk #[(49 : UInt8), (32 : UInt8), (48 : UInt8), (32 : UInt8), (48 : UInt8), (32 : UInt8), (45 :
 UInt8), (49 : UInt8), (32 : UInt8), (48 : UInt8), (32 : UInt8), (48 : UInt8), (32 : UInt8), (48 : UInt8), (32 : UInt8), (120 : UInt8)] ++ (ByteArray.mk #[(32
 : UInt8), (120 : UInt8)] ++ S331 (S325 (api_PeerConf.mk (0 : Int) (0 : Int) [] []))), ByteArray.mk #[(49 : UInt8), (32 : UInt8), (48 : UInt8), (32 : UInt8),
 (48 : UInt8), (32 : UInt8), (48 : UInt8), (32 : UInt8), (52 : UInt8), (50 : UInt8), (57 : UInt8), (52 : UInt8), (57 : UInt8), (54 : UInt8), (55 : UInt8), (50
 : UInt8), (57 : UInt8), (54 : UInt8), (32 : UInt8), (48 : UInt8), (32 : UInt8), (48 : UInt8), (32 : UInt8), (120 : UInt8)] ++ (ByteArray.mk #[(32 : UInt8),
 (120 : UInt8)] ++ S331 (S325 (api_PeerConf.mk (0 : Int) (0 : Int) [] []))), ByteArray.mk #[(49 : UInt8), (32 : UInt8), (48 : UInt8), (32 : UInt8), (48 :
 UInt8), (32 : UInt8), (48 : UInt8), (32 : UInt8), (48 : UInt8), (32 : UInt8), (48 : UInt8), (32 : UInt8), (48 : UInt8), (32 : UInt8), (120 : UInt8), (49 :
 UInt8)] ++ (ByteArray.mk #[(32 : UInt8), (120 : UInt8)] ++ S331 (S325 (api_PeerConf.mk (0 : Int) (0 : Int) [] []))), ByteArray.mk #[(49 : UInt8), (32 :
 UInt8), (48 : UInt8), (32 : UInt8), (48 : UInt8), (32 : UInt8), (48 : UInt8), (32 : UInt8), (48 : UInt8), (32 : UInt8), (48 : UInt8), (32 : UInt8), (48 :
 UInt8), (32 : UInt8), (120 : UInt8), (65 : UInt8), (66 : UInt8)] ++ (ByteArray.mk #[(32 : UInt8), (120 : UInt8)] ++ S331 (S325 (api_PeerConf.mk (0 : Int) (0 :
 Int) [] []))), ByteArray.mk #[(49 : UInt8), (32 : UInt8), (48 : UInt8), (32 : UInt8), (48 : UInt8), (32 : UInt8), (48 : UInt8), (32 : UInt8), (48 : UInt8),
 (32 : UInt8), (48 : UInt8), (32 : UInt8), (48 : UInt8), (32 : UInt8), (120 : UInt8), (32 : UInt8), (120 : UInt8)], ByteArray.mk #[(49 : UInt8), (32 : UInt8),
 (48 : UInt8), (32 : UInt8), (48 : UInt8), (32 : UInt8), (48 : UInt8), (32 : UInt8), (48 : UInt8), (32 : UInt8), (48 : UInt8), (32 : UInt8), (48 : UInt8), (32
 : UInt8), (120 : UInt8)] ++ (ByteArray.mk #[(32 : UInt8), (120 : UInt8)] ++ S331 (S325 (api_PeerConf.mk (0 : Int) (0 : Int) [] []))) ++ ByteArray.mk #[(32 :
 UInt8)], ByteArray.mk #[(49 : UInt8), (32 : UInt8), (48 : UInt8), (32 : UInt8), (48 : UInt8), (32 : UInt8), (48 : UInt8), (32 : UInt8), (48 : UInt8), (32 :
 UInt8), (48 : UInt8), (32 : UInt8), (48 : UInt8), (32 : UInt8), (120 : UInt8), (32 : UInt8), (120 : UInt8), (51 : UInt8), (97 : UInt8)]] (x2.tmod (12 :
 Int))).size + nat_lit 1 ≤ nat_lit 9223372036854775807 ∧ okSteps (sub x0 ((IntKind.i64.wrap x1).tmod (IntKind.i64.wrap ((↑x0.length : Int) + (1 : Int))))
 (↑x0.length : Int)) ∧ (S330 (sub x0 (0 : Int) ((IntKind.i64.wrap x1).tmod (IntKind.i64.wrap ((↑x0.length : Int) + (1 : Int))))) ++ ix [ByteArray.mk #[],
 ByteArray.mk #[(49 : UInt8)], ByteArray.mk #[(49 : UInt8), (32 : UInt8), (48 : UInt8), (32 : UInt8), (48 : UInt8), (32 : UInt8), (48 : UInt8), (32 : UInt8),
 (48 : UInt8), (32 : UInt8), (48 : UInt8), (32 : UInt8), (48 : UInt8), (32 : UInt8), (120 : UInt8)], ByteArray.mk #[(48 : UInt8), (49 : UInt8), (32 : UInt8),
 (48 : UInt8), (32 : UInt8), (48 : UInt8), (32 : UInt8), (48 : UInt8), (32 : UInt8), (48 : UInt8), (32 : UInt8), (48 : UInt8), (32 : UInt8), (48 : UInt8), (32
 : UInt8), (120 : UInt8)] ++ (ByteArray.mk #[(32 : UInt8), (120 : UInt8)] ++ S331 (S325 (api_PeerConf.mk (0 : Int) (0 : Int) [] []))), ByteArray.mk #[(49 :
 UInt8), (32 : UInt8), (43 : UInt8), (48 : UInt8), (32 : UInt8), (48 : UInt8), (32 : UInt8), (48 : UInt8), (32 : UInt8), (48 : UInt8), (32 : UInt8), (48 :
 UInt8), (32 : UInt8), (48 : UInt8), (32 : UInt8), (120 : UInt8)] ++ (ByteArray.mk #[(32 : UInt8), (120 : UInt8)] ++ S331 (S325 (api_PeerConf.mk (0 : Int) (0 :
 Int) [] []))), ByteArray.mk #[(49 : UInt8), (32 : UInt8), (48 : UInt8), (32 : UInt8), (48 : UInt8), (32 : UInt8), (45 : UInt8), (49 : UInt8), (32 : UInt8),
 (48 : UInt8), (32 : UInt8), (48 : UInt8), (32 : UInt8), (48 : UInt8), (32 : UInt8), (120 : UInt8)] ++ (ByteArray.mk #[(32 : UInt8), (120 : UInt8)] ++ S331
 (S325 (api_PeerConf.mk (0 : Int) (0 : Int) [] []))), ByteArray.mk #[(49 : UInt8), (32 : UInt8), (48 : UInt8), (32 : UInt8), (48 : UInt8), (32 : UInt8), (48 :
 UInt8), (32 : UInt8), (52 : UInt8), (50 : UInt8), (57 : UInt8), (52 : UInt8), (57 : UInt8), (54 : UInt8), (55 : UInt8), (50 : UInt8), (57 : UInt8), (54 :
 UInt8), (32 : UInt8), (48 : UInt8), (32 : UInt8), (48 : UInt8), (32 : UInt8), (120 : UInt8)] ++ (ByteArray.mk #[(32 : UInt8), (120 : UInt8)] ++ S331 (S325
 (api_PeerConf.mk (0 : Int) (0 : Int) [] []))), ByteArray.mk #[(49 : UInt8), (32 : UInt8), (48 : UInt8), (32 : UInt8), (48 : UInt8), (32 : UInt8), (48 :
 UInt8), (32 : UInt8), (48 : UInt8), (32 : UInt8), (48 : UInt8), (32 : UInt8), (48 : UInt8), (32 : UInt8), (120 : UInt8), (49 : UInt8)] ++ (ByteArray.mk #[(32
 : UInt8), (120 : UInt8)] ++ S331 (S325 (api_PeerConf.mk (0 : Int) (0 : Int) [] []))), ByteArray.mk #[(49 : UInt8), (32 : UInt8), (48 : UInt8), (32 : UInt8),
 (48 : UInt8), (32 : UInt8), (48 : UInt8), (32 : UInt8), (48 : UInt8), (32 : UInt8), (48 : UInt8), (32 : UInt8), (48 : UInt8), (32 : UInt8), (120 : UInt8), (65
 : UInt8), (66 : UInt8)] ++ (ByteArray.mk #[(32 : UInt8), (120 : UInt8)] ++ S331 (S325 (api_PeerConf.mk (0 : Int) (0 : Int) [] []))), ByteArray.mk #[(49 :
 UInt8), (32 : UInt8), (48 : UInt8), (32 : UInt8), (48 : UInt8), (32 : UInt8), (48 : UInt8), (32 : UInt8), (48 : UInt8), (32 : UInt8), (48 : UInt8), (32 :
 UInt8), (48 : UInt8), (32 : UInt8), (120 : UInt8), (32 : UInt8), (120 : UInt8)], ByteArray.mk #[(49 : UInt8), (32 : UInt8), (48 : UInt8), (32 : UInt8), (48 :
 UInt8), (32 : UInt8), (48 : UInt8), (32 : UInt8), (48 : UInt8), (32 : UInt8), (48 : UInt8), (32 : UInt8), (48 : UInt8), (32 : UInt8), (120 : UInt8)] ++
 (ByteArray.mk #[(32 : UInt8), (120 : UInt8)] ++ S331 (S325 (api_PeerConf.mk (0 : Int) (0 : Int) [] []))) ++ ByteArray.mk #[(32 : UInt8)], ByteArray.mk #[(49 :
 UInt8), (32 : UInt8), (48 : UInt8), (32 : UInt8), (48 : UInt8), (32 : UInt8), (48 : UInt8), (32 : UInt8), (48 : UInt8), (32 : UInt8), (48 : UInt8), (32 :
 UInt8), (48 : UInt8), (32 : UInt8), (120 : UInt8), (32 : UInt8), (120 : UInt8), (51 : UInt8), (97 : UInt8)]] (x2.tmod (12 : Int)) ++ ByteArray.mk #[(10 :
 UInt8)]).size + (S330 (sub x0 ((IntKind.i64.wrap x1).tmod (IntKind.i64.wrap ((↑x0.length : Int) + (1 : Int)))) (↑x0.length : Int))).size ≤ nat_lit
 9223372036854775807 ∧ okLine (S330 (sub x0 (0 : Int) ((IntKind.i64.wrap x1).tmod (IntKind.i64.wrap ((↑x0.length : Int) + (1 : Int))))) ++ ix [ByteArray.mk
 #[], ByteArray.mk #[(49 : UInt8)], ByteArray.mk #[(49 : UInt8), (32 : UInt8), (48 : UInt8), (32 : UInt8), (48 : UInt8), (32 : UInt8), (48 : UInt8), (32 :
 UInt8), (48 : UInt8), (32 : UInt8), (48 : UInt8), (32 : UInt8), (48 : UInt8), (32 : UInt8), (120 : UInt8)], ByteArray.mk #[(48 : UInt8), (49 : UInt8), (32 :
 UInt8), (48 : UInt8), (32 : UInt8), (48 : UInt8), (32 : UInt8), (48 : UInt8), (32 : UInt8), (48 : UInt8), (32 : UInt8), (48 : UInt8), (32 : UInt8), (48 :
 UInt8), (32 : UInt8), (120 : UInt8)] ++ (ByteArray.mk #[(32 : UInt8), (120 : UInt8)] ++ S331 (S325 (api_PeerConf.mk (0 : Int) (0 : Int) [] []))), ByteArray.mk
 #[(49 : UInt8), (32 : UInt8), (43 : UInt8), (48 : UInt8), (32 : UInt8), (48 : UInt8), (32 : UInt8), (48 : UInt8), (32 : UInt8), (48 : UInt8), (32 : UInt8),
 (48 : UInt8), (32 : UInt8), (48 : UInt8), (32 : UInt8), (120 : UInt8)] ++ (ByteArray.mk #[(32 : UInt8), (120 : UInt8)] ++ S331 (S325 (api_PeerConf.mk (0 :
 Int) (0 : Int) [] []))), ByteArray.mk #[(49 : UInt8), (32 : UInt8), (48 : UInt8), (32 : UInt8), (48 : UInt8), (32 : UInt8), (45 : UInt8), (49 : UInt8), (32 :
 UInt8), (48 : UInt8), (32 : UInt8), (48 : UInt8), (32 : UInt8), (48 : UInt8), (32 : UInt8), (120 : UInt8)] ++ (ByteArray.mk #[(32 : UInt8), (120 : UInt8)] ++
 S331 (S325 (api_PeerConf.mk (0 : Int) (0 : Int) [] []))), ByteArray.mk #[(49 : UInt8), (32 : UInt8), (48 : UInt8), (32 : UInt8), (48 : UInt8), (32 : UInt8),
 (48 : UInt8), (32 : UInt8), (52 : UInt8), (50 : UInt8), (57 : UInt8), (52 : UInt8), (57 : UInt8), (54 : UInt8), (55 : UInt8), (50 : UInt8), (57 : UInt8), (54
 : UInt8), (32 : UInt8), (48 : UInt8), (32 : UInt8), (48 : UInt8), (32 : UInt8), (120 : UInt8)] ++ (ByteArray.mk #[(32 : UInt8), (120 : UInt8)] ++ S331 (S325
 (api_PeerConf.mk (0 : Int) (0 : Int) [] []))), ByteArray.mk #[(49 : UInt8), (32 : UInt8), (48 : UInt8), (32 : UInt8), (48 : UInt8), (32 : UInt8), (48 :
 UInt8), (32 : UInt8), (48 : UInt8), (32 : UInt8), (48 : UInt8), (32 : UInt8), (48 : UInt8), (32 : UInt8), (120 : UInt8), (49 : UInt8)] ++ (ByteArray.mk #[(32
 : UInt8), (120 : UInt8)] ++ S331 (S325 (api_PeerConf.mk (0 : Int) (0 : Int) [] []))), ByteArray.mk #[(49 : UInt8), (32 : UInt8), (48 : UInt8), (32 : UInt8),
 (48 : UInt8), (32 : UInt8), (48 : UInt8), (32 : UInt8), (48 : UInt8), (32 : UInt8), (48 : UInt8), (32 : UInt8), (48 : UInt8), (32 : UInt8), (120 : UInt8), (65
 : UInt8), (66 : UInt8)] ++ (ByteArray.mk #[(32 : UInt8), (120 : UInt8)] ++ S331 (S325 (api_PeerConf.mk (0 : Int) (0 : Int) [] []))), ByteArray.mk #[(49 :
 UInt8), (32 : UInt8), (48 : UInt8), (32 : UInt8), (48 : UInt8), (32 : UInt8), (48 : UInt8), (32 : UInt8), (48 : UInt8), (32 : UInt8), (48 : UInt8), (32 :
 UInt8), (48 : UInt8), (32 : UInt8), (120 : UInt8), (32 : UInt8), (120 : UInt8)], ByteArray.mk #[(49 : UInt8), (32 : UInt8), (48 : UInt8), (32 : UInt8), (48 :
 UInt8), (32 : UInt8), (48 : UInt8), (32 : UInt8), (48 : UInt8), (32 : UInt8), (48 : UInt8), (32 : UInt8), (48 : UInt8), (32 : UInt8), (120 : UInt8)] ++
 (ByteArray.mk #[(32 : UInt8), (120 : UInt8)] ++ S331 (S325 (api_PeerConf.mk (0 : Int) (0 : Int) [] []))) ++ ByteArray.mk #[(32 : UInt8)], ByteArray.mk #[(49 :
 UInt8), (32 : UInt8), (48 : UInt8), (32 : UInt8), (48 : UInt8), (32 : UInt8), (48 : UInt8), (32 : UInt8), (48 : UInt8), (32 : UInt8), (48 : UInt8), (32 :
 UInt8), (48 : UInt8), (32 : UInt8), (120 : UInt8), (32 : UInt8), (120 : UInt8), (51 : UInt8), (97 : UInt8)]] (x2.tmod (12 : Int)) ++ ByteArray.mk #[(10 :
 UInt8)] ++ S330 (sub x0 ((IntKind.i64.wrap x1).tmod (IntKind.i64.wrap ((↑x0.length : Int) + (1 : Int)))) (↑x0.length : Int))) ∧ (decide ((S329 (S330 (sub x0
 (0 : Int) ((IntKind.i64.wrap x1).tmod (IntKind.i64.wrap ((↑x0.length : Int) + (1 : Int))))) ++ ix [ByteArray.mk #[], ByteArray.mk #[(49 : UInt8)],
 ByteArray.mk #[(49 : UInt8), (32 : UInt8), (48 : UInt8), (32 : UInt8), (48 : UInt8), (32 : UInt8), (48 : UInt8), (32 : UInt8), (48 : UInt8), (32 : UInt8), (48
 : UInt8), (32 : UInt8), (48 : UInt8), (32 : UInt8), (120 : UInt8)], ByteArray.mk #[(48 : UInt8), (49 : UInt8), (32 : UInt8), (48 : UInt8), (32 : UInt8), (48 :
 UInt8), (32 : UInt8), (48 : UInt8), (32 : UInt8), (48 : UInt8), (32 : UInt8), (48 : UInt8), (32 : UInt8), (48 : UInt8), (32 : UInt8), (120 : UInt8)] ++
 (ByteArray.mk #[(32 : UInt8), (120 : UInt8)] ++ S331 (S325 (api_PeerConf.mk (0 : Int) (0 : Int) [] []))), ByteArray.mk #[(49 : UInt8), (32 : UInt8), (43 :
 UInt8), (48 : UInt8), (32 : UInt8), (48 : UInt8), (32 : UInt8), (48 : UInt8), (32 : UInt8), (48 : UInt8), (32 : UInt8), (48 : UInt8), (32 : UInt8), (48 :
 UInt8), (32 : UInt8), (120 : UInt8)] ++ (ByteArray.mk #[(32 : UInt8), (120 : UInt8)] ++ S331 (S325 (api_PeerConf.mk (0 : Int) (0 : Int) [] []))), ByteArray.mk
 #[(49 : UInt8), (32 : UInt8), (48 : UInt8), (32 : UInt8), (48 : UInt8), (32 : UInt8), (45 : UInt8), (49 : UInt8), (32 : UInt8), (48 : UInt8), (32 : UInt8),
 (48 : UInt8), (32 : UInt8), (48 : UInt8), (32 : UInt8), (120 : UInt8)] ++ (ByteArray.mk #[(32 : UInt8), (120 : UInt8)] ++ S331 (S325 (api_PeerConf.mk (0 :
 Int) (0 : Int) [] []))), ByteArray.mk #[(49 : UInt8), (32 : UInt8), (48 : UInt8), (32 : UInt8), (48 : UInt8), (32 : UInt8), (48 : UInt8), (32 : UInt8), (52 :
 UInt8), (50 : UInt8), (57 : UInt8), (52 : UInt8), (57 : UInt8), (54 : UInt8), (55 : UInt8), (50 : UInt8), (57 : UInt8), (54 : UInt8), (32 : UInt8), (48 :
 UInt8), (32 : UInt8), (48 : UInt8), (32 : UInt8), (120 : UInt8)] ++ (ByteArray.mk #[(32 : UInt8), (120 : UInt8)] ++ S331 (S325 (api_PeerConf.mk (0 : Int) (0 :
 Int) [] []))), ByteArray.mk #[(49 : UInt8), (32 : UInt8), (48 : UInt8), (32 : UInt8), (48 : UInt8), (32 : UInt8), (48 : UInt8), (32 : UInt8), (48 : UInt8),
 (32 : UInt8), (48 : UInt8), (32 : UInt8), (48 : UInt8), (32 : UInt8), (120 : UInt8), (49 : UInt8)] ++ (ByteArray.mk #[(32 : UInt8), (120 : UInt8)] ++ S331
 (S325 (api_PeerConf.mk (0 : Int) (0 : Int) [] []))), ByteArray.mk #[(49 : UInt8), (32 : UInt8), (48 : UInt8), (32 : UInt8), (48 : UInt8), (32 : UInt8), (48 :
 UInt8), (32 : UInt8), (48 : UInt8), (32 : UInt8), (48 : UInt8), (32 : UInt8), (48 : UInt8), (32 : UInt8), (120 : UInt8), (65 : UInt8), (66 : UInt8)] ++
 (ByteArray.mk #[(32 : UInt8), (120 : UInt8)] ++ S331 (S325 (api_PeerConf.mk (0 : Int) (0 : Int) [] []))), ByteArray.mk #[(49 : UInt8), (32 : UInt8), (48 :
 UInt8), (32 : UInt8), (48 : UInt8), (32 : UInt8), (48 : UInt8), (32 : UInt8), (48 : UInt8), (32 : UInt8), (48 : UInt8), (32 : UInt8), (48 : UInt8), (32 :
 UInt8), (120 : UInt8), (32 : UInt8), (120 : UInt8)], ByteArray.mk #[(49 : UInt8), (32 : UInt8), (48 : UInt8), (32 : UInt8), (48 : UInt8), (32 : UInt8), (48 :
 UInt8), (32 : UInt8), (48 : UInt8), (32 : UInt8), (48 : UInt8), (32 : UInt8), (48 : UInt8), (32 : UInt8), (120 : UInt8)] ++ (ByteArray.mk #[(32 : UInt8), (120
 : UInt8)] ++ S331 (S325 (api_PeerConf.mk (0 : Int) (0 : Int) [] []))) ++ ByteArray.mk #[(32 : UInt8)], ByteArray.mk #[(49 : UInt8), (32 : UInt8), (48 :
 UInt8), (32 : UInt8), (48 : UInt8), (32 : UInt8), (48 : UInt8), (32 : UInt8), (48 : UInt8), (32 : UInt8), (48 : UInt8), (32 : UInt8), (48 : UInt8), (32 :
 UInt8), (120 : UInt8), (32 : UInt8), (120 : UInt8), (51 : UInt8), (97 : UInt8)]] (x2.tmod (12 : Int)) ++ ByteArray.mk #[(10 : UInt8)] ++ S330 (sub x0
 ((IntKind.i64.wrap x1).tmod (IntKind.i64.wrap ((↑x0.length : Int) + (1 : Int)))) (↑x0.length : Int)))).snd.snd = (7 : Int)) && decide ((S329 (S330 (sub x0 (0
 : Int) ((IntKind.i64.wrap x1).tmod (IntKind.i64.wrap ((↑x0.length : Int) + (1 : Int))))) ++ ix [ByteArray.mk #[], ByteArray.mk #[(49 : UInt8)], ByteArray.mk
 #[(49 : UInt8), (32 : UInt8), (48 : UInt8), (32 : UInt8), (48 : UInt8), (32 : UInt8), (48 : UInt8), (32 : UInt8), (48 : UInt8), (32 : UInt8), (48 : UInt8),
 (32 : UInt8), (48 : UInt8), (32 : UInt8), (120 : UInt8)], ByteArray.mk #[(48 : UInt8), (49 : UInt8), (32 : UInt8), (48 : UInt8), (32 : UInt8), (48 : UInt8),
 (32 : UInt8), (48 : UInt8), (32 : UInt8), (48 : UInt8), (32 : UInt8), (48 : UInt8), (32 : UInt8), (48 : UInt8), (32 : UInt8), (120 : UInt8)] ++ (ByteArray.mk
 #[(32 : UInt8), (120 : UInt8)] ++ S331 (S325 (api_PeerConf.mk (0 : Int) (0 : Int) [] []))), ByteArray.mk #[(49 : UInt8), (32 : UInt8), (43 : UInt8), (48 :
 UInt8), (32 : UInt8), (48 : UInt8), (32 : UInt8), (48 : UInt8), (32 : UInt8), (48 : UInt8), (32 : UInt8), (48 : UInt8), (32 : UInt8), (48 : UInt8), (32 :
 UInt8), (120 : UInt8)] ++ (ByteArray.mk #[(32 : UInt8), (120 : UInt8)] ++ S331 (S325 (api_PeerConf.mk (0 : Int) (0 : Int) [] []))), ByteArray.mk #[(49 :
 UInt8), (32 : UInt8), (48 : UInt8), (32 : UInt8), (48 : UInt8), (32 : UInt8), (45 : UInt8), (49 : UInt8), (32 : UInt8), (48 : UInt8), (32 : UInt8), (48 :
 UInt8), (32 : UInt8), (48 : UInt8), (32 : UInt8), (120 : UInt8)] ++ (ByteArray.mk #[(32 : UInt8), (120 : UInt8)] ++ S331 (S325 (api_PeerConf.mk (0 : Int) (0 :
 Int) [] []))), ByteArray.mk #[(49 : UInt8), (32 : UInt8), (48 : UInt8), (32 : UInt8), (48 : UInt8), (32 : UInt8), (48 : UInt8), (32 : UInt8), (52 : UInt8),
 (50 : UInt8), (57 : UInt8), (52 : UInt8), (57 : UInt8), (54 : UInt8), (55 : UInt8), (50 : UInt8), (57 : UInt8), (54 : UInt8), (32 : UInt8), (48 : UInt8), (32
 : UInt8), (48 : UInt8), (32 : UInt8), (120 : UInt8)] ++ (ByteArray.mk #[(32 : UInt8), (120 : UInt8)] ++ S331 (S325 (api_PeerConf.mk (0 : Int) (0 : Int) []
 []))), ByteArray.mk #[(49 : UInt8), (32 : UInt8), (48 : UInt8), (32 : UInt8), (48 : UInt8), (32 : UInt8), (48 : UInt8), (32 : UInt8), (48 : UInt8), (32 :
 UInt8), (48 : UInt8), (32 : UInt8), (48 : UInt8), (32 : UInt8), (120 : UInt8), (49 : UInt8)] ++ (ByteArray.mk #[(32 : UInt8), (120 : UInt8)] ++ S331 (S325
 (api_PeerConf.mk (0 : Int) (0 : Int) [] []))), ByteArray.mk #[(49 : UInt8), (32 : UInt8), (48 : UInt8), (32 : UInt8), (48 : UInt8), (32 : UInt8), (48 :
 UInt8), (32 : UInt8), (48 : UInt8), (32 : UInt8), (48 : UInt8), (32 : UInt8), (48 : UInt8), (32 : UInt8), (120 : UInt8), (65 : UInt8), (66 : UInt8)] ++
 (ByteArray.mk #[(32 : UInt8), (120 : UInt8)] ++ S331 (S325 (api_PeerConf.mk (0 : Int) (0 : Int) [] []))), ByteArray.mk #[(49 : UInt8), (32 : UInt8), (48 :
 UInt8), (32 : UInt8), (48 : UInt8), (32 : UInt8), (48 : UInt8), (32 : UInt8), (48 : UInt8), (32 : UInt8), (48 : UInt8), (32 : UInt8), (48 : UInt8), (32 :
 UInt8), (120 : UInt8), (32 : UInt8), (120 : UInt8)], ByteArray.mk #[(49 : UInt8), (32 : UInt8), (48 : UInt8), (32 : UInt8), (48 : UInt8), (32 : UInt8), (48 :
 UInt8), (32 : UInt8), (48 : UInt8), (32 : UInt8), (48 : UInt8), (32 : UInt8), (48 : UInt8), (32 : UInt8), (120 : UInt8)] ++ (ByteArray.mk #[(32 : UInt8), (120
 : UInt8)] ++ S331 (S325 (api_PeerConf.mk (0 : Int) (0 : Int) [] []))) ++ ByteArray.mk #[(32 : UInt8)], ByteArray.mk #[(49 : UInt8), (32 : UInt8), (48 :
 UInt8), (32 : UInt8), (48 : UInt8), (32 : UInt8), (48 : UInt8), (32 : UInt8), (48 : UInt8), (32 : UInt8), (48 : UInt8), (32 : UInt8), (48 : UInt8), (32 :
 UInt8), (120 : UInt8), (32 : UInt8), (120 : UInt8), (51 : UInt8), (97 : UInt8)]] (x2.tmod (12 : Int)) ++ ByteArray.mk #[(10 : UInt8)] ++ S330 (sub x0
 ((IntKind.i64.wrap x1).tmod (IntKind.i64.wrap ((↑x0.length : Int) + (1 : Int)))) (↑x0.length : Int)))).snd.fst = IntKind.i64.wrap ((IntKind.i64.wrap x1).tmod
 (IntKind.i64.wrap ((↑x0.length : Int) + (1 : Int))) + (1 : Int))) && decide ((↑(S329 (S330 (sub x0 (0 : Int) ((IntKind.i64.wrap x1).tmod (IntKind.i64.wrap
 ((↑x0.length : Int) + (1 : Int))))) ++ ix [ByteArray.mk #[], ByteArray.mk #[(49 : UInt8)], ByteArray.mk #[(49 : UInt8), (32 : UInt8), (48 : UInt8), (32 :
 UInt8), (48 : UInt8), (32 : UInt8), (48 : UInt8), (32 : UInt8), (48 : UInt8), (32 : UInt8), (48 : UInt8), (32 : UInt8), (48 : UInt8), (32 : UInt8), (120 :
 UInt8)], ByteArray.mk #[(48 : UInt8), (49 : UInt8), (32 : UInt8), (48 : UInt8), (32 : UInt8), (48 : UInt8), (32 : UInt8), (48 : UInt8), (32 : UInt8), (48 :
 UInt8), (32 : UInt8), (48 : UInt8), (32 : UInt8), (48 : UInt8), (32 : UInt8), (120 : UInt8)] ++ (ByteArray.mk #[(32 : UInt8), (120 : UInt8)] ++ S331 (S325
 (api_PeerConf.mk (0 : Int) (0 : Int) [] []))), ByteArray.mk #[(49 : UInt8), (32 : UInt8), (43 : UInt8), (48 : UInt8), (32 : UInt8), (48 : UInt8), (32 :
 UInt8), (48 : UInt8), (32 : UInt8), (48 : UInt8), (32 : UInt8), (48 : UInt8), (32 : UInt8), (48 : UInt8), (32 : UInt8), (120 : UInt8)] ++ (ByteArray.mk #[(32
 : UInt8), (120 : UInt8)] ++ S331 (S325 (api_PeerConf.mk (0 : Int) (0 : Int) [] []))), ByteArray.mk #[(49 : UInt8), (32 : UInt8), (48 : UInt8), (32 : UInt8),
 (48 : UInt8), (32 : UInt8), (45 : UInt8), (49 : UInt8), (32 : UInt8), (48 : UInt8), (32 : UInt8), (48 : UInt8), (32 : UInt8), (48 : UInt8), (32 : UInt8), (120
 : UInt8)] ++ (ByteArray.mk #[(32 : UInt8), (120 : UInt8)] ++ S331 (S325 (api_PeerConf.mk (0 : Int) (0 : Int) [] []))), ByteArray.mk #[(49 : UInt8), (32 :
 UInt8), (48 : UInt8), (32 : UInt8), (48 : UInt8), (32 : UInt8), (48 : UInt8), (32 : UInt8), (52 : UInt8), (50 : UInt8), (57 : UInt8), (52 : UInt8), (57 :
 UInt8), (54 : UInt8), (55 : UInt8), (50 : UInt8), (57 : UInt8), (54 : UInt8), (32 : UInt8), (48 : UInt8), (32 : UInt8), (48 : UInt8), (32 : UInt8), (120 :
 UInt8)] ++ (ByteArray.mk #[(32 : UInt8), (120 : UInt8)] ++ S331 (S325 (api_PeerConf.mk (0 : Int) (0 : Int) [] []))), ByteArray.mk #[(49 : UInt8), (32 :
 UInt8), (48 : UInt8), (32 : UInt8), (48 : UInt8), (32 : UInt8), (48 : UInt8), (32 : UInt8), (48 : UInt8), (32 : UInt8), (48 : UInt8), (32 : UInt8), (48 :
 UInt8), (32 : UInt8), (120 : UInt8), (49 : UInt8)] ++ (ByteArray.mk #[(32 : UInt8), (120 : UInt8)] ++ S331 (S325 (api_PeerConf.mk (0 : Int) (0 : Int) []
 []))), ByteArray.mk #[(49 : UInt8), (32 : UInt8), (48 : UInt8), (32 : UInt8), (48 : UInt8), (32 : UInt8), (48 : UInt8), (32 : UInt8), (48 : UInt8), (32 :
 UInt8), (48 : UInt8), (32 : UInt8), (48 : UInt8), (32 : UInt8), (120 : UInt8), (65 : UInt8), (66 : UInt8)] ++ (ByteArray.mk #[(32 : UInt8), (120 : UInt8)] ++
 S331 (S325 (api_PeerConf.mk (0 : Int) (0 : Int) [] []))), ByteArray.mk #[(49 : UInt8), (32 : UInt8), (48 : UInt8), (32 : UInt8), (48 : UInt8), (32 : UInt8),
 (48 : UInt8), (32 : UInt8), (48 : UInt8), (32 : UInt8), (48 : UInt8), (32 : UInt8), (48 : UInt8), (32 : UInt8), (120 : UInt8), (32 : UInt8), (120 : UInt8)],
 ByteArray.mk #[(49 : UInt8), (32 : UInt8), (48 : UInt8), (32 : UInt8), (48 : UInt8), (32 : UInt8), (48 : UInt8), (32 : UInt8), (48 : UInt8), (32 : UInt8), (48
 : UInt8), (32 : UInt8), (48 : UInt8), (32 : UInt8), (120 : UInt8)] ++ (ByteArray.mk #[(32 : UInt8), (120 : UInt8)] ++ S331 (S325 (api_PeerConf.mk (0 : Int) (0
 : Int) [] []))) ++ ByteArray.mk #[(32 : UInt8)], ByteArray.mk #[(49 : UInt8), (32 : UInt8), (48 : UInt8), (32 : UInt8), (48 : UInt8), (32 : UInt8), (48 :
 UInt8), (32 : UInt8), (48 : UInt8), (32 : UInt8), (48 : UInt8), (32 : UInt8), (48 : UInt8), (32 : UInt8), (120 : UInt8), (32 : UInt8), (120 : UInt8), (51 :
 UInt8), (97 : UInt8)]] (x2.tmod (12 : Int)) ++ ByteArray.mk #[(10 : UInt8)] ++ S330 (sub x0 ((IntKind.i64.wrap x1).tmod (IntKind.i64.wrap ((↑x0.length : Int)
 + (1 : Int)))) (↑x0.length : Int)))).fst.length : Int) = (0 : Int))) = v) := by kernel_rfl
end Go.Rx
/-! Which line is the first that is none. -/
namespace Go.Rx
open Go.Ab Go.L21
set_option linter.unusedVariables false
set_option maxRecDepth 100000
def tails : List ByteArray := [ByteArray.mk #[], ByteArray.mk #[(49 : UInt8)], ByteArray.mk #[(49 : UInt8), (32 : UInt8), (48 : UInt8), (32 : UInt8), (48 : UInt8), (32 : UInt8), (48 : UInt8), (32 : UInt8), (48 : UInt8), (32 : UInt8), (48 : UInt8), (32 : UInt8), (48 : UInt8), (32 : UInt8), (120 : UInt8)], ByteArray.mk #[(48 : UInt8), (49 : UInt8), (32 : UInt8), (48 : UInt8), (32 : UInt8), (48 : UInt8), (32 : UInt8), (48 : UInt8), (32 : UInt8), (48 : UInt8), (32 : UInt8), (48 : UInt8), (32 : UInt8), (48 : UInt8), (32 : UInt8), (120 : UInt8)] ++ (ByteArray.mk #[(32 : UInt8), (120 : UInt8)] ++ S331 (S325 (api_PeerConf.mk (0 : Int) (0 : Int) [] []))), ByteArray.mk #[(49 : UInt8), (32 : UInt8), (43 : UInt8), (48 : UInt8), (32 : UInt8), (48 : UInt8), (32 : UInt8), (48 : UInt8), (32 : UInt8), (48 : UInt8), (32 : UInt8), (48 : UInt8), (32 : UInt8), (48 : UInt8), (32 : UInt8), (120 : UInt8)] ++ (ByteArray.mk #[(32 : UInt8), (120 : UInt8)] ++ S331 (S325 (api_PeerConf.mk (0 : Int) (0 : Int) [] []))), ByteArray.mk #[(49 : UInt8), (32 : UInt8), (48 : UInt8), (32 : UInt8), (48 : UInt8), (32 : UInt8), (45 : UInt8), (49 : UInt8), (32 : UInt8), (48 : UInt8), (32 : UInt8), (48 : UInt8), (32 : UInt8), (48 : UInt8), (32 : UInt8), (120 : UInt8)] ++ (ByteArray.mk #[(32 : UInt8), (120 : UInt8)] ++ S331 (S325 (api_PeerConf.mk (0 : Int) (0 : Int) [] []))), ByteArray.mk #[(49 : UInt8), (32 : UInt8), (48 : UInt8), (32 : UInt8), (48 : UInt8), (32 : UInt8), (48 : UInt8), (32 : UInt8), (52 : UInt8), (50 : UInt8), (57 : UInt8), (52 : UInt8), (57 : UInt8), (54 : UInt8), (55 : UInt8), (50 : UInt8), (57 : UInt8), (54 : UInt8), (32 : UInt8), (48 : UInt8), (32 : UInt8), (48 : UInt8), (32 : UInt8), (120 : UInt8)] ++ (ByteArray.mk #[(32 : UInt8), (120 : UInt8)] ++ S331 (S325 (api_PeerConf.mk (0 : Int) (0 : Int) [] []))), ByteArray.mk #[(49 : UInt8), (32 : UInt8), (48 : UInt8), (32 : UInt8), (48 : UInt8), (32 : UInt8), (48 : UInt8), (32 : UInt8), (48 : UInt8), (32 : UInt8), (48 : UInt8), (32 : UInt8), (48 : UInt8), (32 : UInt8), (120 : UInt8), (49 : UInt8)] ++ (ByteArray.mk #[(32 : UInt8), (120 : UInt8)] ++ S331 (S325 (api_PeerConf.mk (0 : Int) (0 : Int) [] []))), ByteArray.mk #[(49 : UInt8), (32 : UInt8), (48 : UInt8), (32 : UInt8), (48 : UInt8), (32 : UInt8), (48 : UInt8), (32 : UInt8), (48 : UInt8), (32 : UInt8), (48 : UInt8), (32 : UInt8), (48 : UInt8), (32 : UInt8), (120 : UInt8), (65 : UInt8), (66 : UInt8)] ++ (ByteArray.mk #[(32 : UInt8), (120 : UInt8)] ++ S331 (S325 (api_PeerConf.mk (0 : Int) (0 : Int) [] []))), ByteArray.mk #[(49 : UInt8), (32 : UInt8), (48 : UInt8), (32 : UInt8), (48 : UInt8), (32 : UInt8), (48 : UInt8), (32 : UInt8), (48 : UInt8), (32 : UInt8), (48 : UInt8), (32 : UInt8), (48 : UInt8), (32 : UInt8), (120 : UInt8), (32 : UInt8), (120 : UInt8)], ByteArray.mk #[(49 : UInt8), (32 : UInt8), (48 : UInt8), (32 : UInt8), (48 : UInt8), (32 : UInt8), (48 : UInt8), (32 : UInt8), (48 : UInt8), (32 : UInt8), (48 : UInt8), (32 : UInt8), (48 : UInt8), (32 : UInt8), (120 : UInt8)] ++ (ByteArray.mk #[(32 : UInt8), (120 : UInt8)] ++ S331 (S325 (api_PeerConf.mk (0 : Int) (0 : Int) [] []))) ++ ByteArray.mk #[(32 : UInt8)], ByteArray.mk #[(49 : UInt8), (32 : UInt8), (48 : UInt8), (32 : UInt8), (48 : UInt8), (32 : UInt8), (48 : UInt8), (32 : UInt8), (48 : UInt8), (32 : UInt8), (48 : UInt8), (32 : UInt8), (48 : UInt8), (32 : UInt8), (120 : UInt8), (32 : UInt8), (120 : UInt8), (51 : UInt8), (97 : UInt8)]]
def badT (t : ByteArray) : Bool := !(S348 t).2 && t.data.toList.all (· != 10) && decide (t.size ≤ 100)
theorem tails_bad : tails.all badT = true := by decide +kernel
theorem tails_len : tails.length = 12 := rfl
theorem tail_at {i : Int} (h0 : 0 ≤ i) (h1 : i < 12) : badT (ix tails i) = true := by
  have : tails[i.toNat]? = some (tails[i.toNat]'(by rw [tails_len]; omega)) := List.getElem?_eq_getElem _
  unfold ix
  rw [List.getD_eq_getElem?_getD, this]
  exact List.all_eq_true.1 tails_bad _ (List.getElem_mem _)
theorem sub_take {α : Type} (l : List α) (k : Nat) : sub l 0 (k : Int) = l.take k := by
  unfold sub
  rw [Int.toNat_natCast]
  rfl
theorem run309 : RunC C309 6 9 [4] [49, 5, 5] W309 [] := by
  intro (l : List api_Step) hx (a : Int) ha (b : Int) hb hp
  obtain ⟨h, ⟨ha0, ha1⟩, ⟨hb0, hb1⟩⟩ : okIn2 l a b := hp _ rfl
  refine of_eq (q309 l a b _) ⟨h.small, bif_of (fun _ => rfl) (fun hc => ?_)⟩
  have hc : S326 l = true := by simpa using hc
  obtain ⟨h1, h2, h3, h60⟩ := small_ok h hc
  have w1 : IntKind.i64.wrap a = a := wrap64 (by omega)
  have w2 : IntKind.i64.wrap ((l.length : Int) + 1) = ((l.length + 1 : Nat) : Int) := wrap64 (by omega)
  obtain ⟨a, rfl⟩ : ∃ n : Nat, a = (n : Int) := ⟨a.toNat, by omega⟩
  obtain ⟨b, rfl⟩ : ∃ n : Nat, b = (n : Int) := ⟨b.toNat, by omega⟩
  have hk : ((a : Int)).tmod ((l.length + 1 : Nat) : Int) = ((a % (l.length + 1) : Nat) : Int) := rfl
  have hi : ((b : Int)).tmod 12 = ((b % 12 : Nat) : Int) := rfl
  rw [w1, w2, hk, hi]
  have hkl : a % (l.length + 1) ≤ l.length := Nat.le_of_lt_succ (Nat.mod_lt _ (by omega))
  generalize a % (l.length + 1) = k at hkl
  have hT := tail_at (i := ((b % 12 : Nat) : Int)) (by omega) (by omega)
  have hT0 : ∀ T : ByteArray, ix tails ((b % 12 : Nat) : Int) = T → badT T = true := fun T e => e ▸ hT
  have hg : (0 : Int) ≤ ((b % 12 : Nat) : Int) ∧ ((b % 12 : Nat) : Int) < ((12 : Nat) : Int) := by omega
  have e1 : sub l 0 (k : Int) = l.take k := sub_take l k
  have e2 : sub l (k : Int) (l.length : Int) = l.drop k := sub_drop l (Int.toNat_natCast k)
  rw [e1, e2]
  generalize hTT : (ix [ByteArray.mk #[], ByteArray.mk #[(49 : UInt8)], ByteArray.mk #[(49 : UInt8), (32 : UInt8), (48 : UInt8), (32 : UInt8), (48 : UInt8), (32 : UInt8), (48 : UInt8), (32 : UInt8), (48 : UInt8), (32 : UInt8), (48 : UInt8), (32 : UInt8), (48 : UInt8), (32 : UInt8), (120 : UInt8)], ByteArray.mk #[(48 : UInt8), (49 : UInt8), (32 : UInt8), (48 : UInt8), (32 : UInt8), (48 : UInt8), (32 : UInt8), (48 : UInt8), (32 : UInt8), (48 : UInt8), (32 : UInt8), (48 : UInt8), (32 : UInt8), (48 : UInt8), (32 : UInt8), (120 : UInt8)] ++ (ByteArray.mk #[(32 : UInt8), (120 : UInt8)] ++ S331 (S325 (api_PeerConf.mk (0 : Int) (0 : Int) [] []))), ByteArray.mk #[(49 : UInt8), (32 : UInt8), (43 : UInt8), (48 : UInt8), (32 : UInt8), (48 : UInt8), (32 : UInt8), (48 : UInt8), (32 : UInt8), (48 : UInt8), (32 : UInt8), (48 : UInt8), (32 : UInt8), (48 : UInt8), (32 : UInt8), (120 : UInt8)] ++ (ByteArray.mk #[(32 : UInt8), (120 : UInt8)] ++ S331 (S325 (api_PeerConf.mk (0 : Int) (0 : Int) [] []))), ByteArray.mk #[(49 : UInt8), (32 : UInt8), (48 : UInt8), (32 : UInt8), (48 : UInt8), (32 : UInt8), (45 : UInt8), (49 : UInt8), (32 : UInt8), (48 : UInt8), (32 : UInt8), (48 : UInt8), (32 : UInt8), (48 : UInt8), (32 : UInt8), (120 : UInt8)] ++ (ByteArray.mk #[(32 : UInt8), (120 : UInt8)] ++ S331 (S325 (api_PeerConf.mk (0 : Int) (0 : Int) [] []))), ByteArray.mk #[(49 : UInt8), (32 : UInt8), (48 : UInt8), (32 : UInt8), (48 : UInt8), (32 : UInt8), (48 : UInt8), (32 : UInt8), (52 : UInt8), (50 : UInt8), (57 : UInt8), (52 : UInt8), (57 : UInt8), (54 : UInt8), (55 : UInt8), (50 : UInt8), (57 : UInt8), (54 : UInt8), (32 : UInt8), (48 : UInt8), (32 : UInt8), (48 : UInt8), (32 : UInt8), (120 : UInt8)] ++ (ByteArray.mk #[(32 : UInt8), (120 : UInt8)] ++ S331 (S325 (api_PeerConf.mk (0 : Int) (0 : Int) [] []))), ByteArray.mk #[(49 : UInt8), (32 : UInt8), (48 : UInt8), (32 : UInt8), (48 : UInt8), (32 : UInt8), (48 : UInt8), (32 : UInt8), (48 : UInt8), (32 : UInt8), (48 : UInt8), (32 : UInt8), (48 : UInt8), (32 : UInt8), (120 : UInt8), (49 : UInt8)] ++ (ByteArray.mk #[(32 : UInt8), (120 : UInt8)] ++ S331 (S325 (api_PeerConf.mk (0 : Int) (0 : Int) [] []))), ByteArray.mk #[(49 : UInt8), (32 : UInt8), (48 : UInt8), (32 : UInt8), (48 : UInt8), (32 : UInt8), (48 : UInt8), (32 : UInt8), (48 : UInt8), (32 : UInt8), (48 : UInt8), (32 : UInt8), (48 : UInt8), (32 : UInt8), (120 : UInt8), (65 : UInt8), (66 : UInt8)] ++ (ByteArray.mk #[(32 : UInt8), (120 : UInt8)] ++ S331 (S325 (api_PeerConf.mk (0 : Int) (0 : Int) [] []))), ByteArray.mk #[(49 : UInt8), (32 : UInt8), (48 : UInt8), (32 : UInt8), (48 : UInt8), (32 : UInt8), (48 : UInt8), (32 : UInt8), (48 : UInt8), (32 : UInt8), (48 : UInt8), (32 : UInt8), (48 : UInt8), (32 : UInt8), (120 : UInt8), (32 : UInt8), (120 : UInt8)], ByteArray.mk #[(49 : UInt8), (32 : UInt8), (48 : UInt8), (32 : UInt8), (48 : UInt8), (32 : UInt8), (48 : UInt8), (32 : UInt8), (48 : UInt8), (32 : UInt8), (48 : UInt8), (32 : UInt8), (48 : UInt8), (32 : UInt8), (120 : UInt8)] ++ (ByteArray.mk #[(32 : UInt8), (120 : UInt8)] ++ S331 (S325 (api_PeerConf.mk (0 : Int) (0 : Int) [] []))) ++ ByteArray.mk #[(32 : UInt8)], ByteArray.mk #[(49 : UInt8), (32 : UInt8), (48 : UInt8), (32 : UInt8), (48 : UInt8), (32 : UInt8), (48 : UInt8), (32 : UInt8), (48 : UInt8), (32 : UInt8), (48 : UInt8), (32 : UInt8), (48 : UInt8), (32 : UInt8), (120 : UInt8), (32 : UInt8), (120 : UInt8), (51 : UInt8), (97 : UInt8)]] ((b % 12 : Nat) : Int) : ByteArray) = T
  have hbad := hT0 T hTT
  clear hT0 hT hTT
  obtain ⟨t, rfl⟩ : ∃ t, T = bs t := ⟨T.data.toList, rfl⟩
  unfold badT at hbad
  simp only [Bool.and_eq_true, Bool.not_eq_true', decide_eq_true_eq] at hbad
  obtain ⟨⟨hb1, hb2⟩, hb3⟩ := hbad
  have hb2 : ∀ c ∈ t, c ≠ 10 := fun c hc => by simpa using List.all_eq_true.1 hb2 c hc
  rw [size_bs] at hb3
  have hs1 : ∀ s ∈ l.take k, small1 s := fun s hs => h1 s (List.mem_of_mem_take hs)
  have hs2 : ∀ s ∈ l.drop k, small1 s := fun s hs => h1 s (List.mem_of_mem_drop hs)
  have hsum : (linesL (l.take k)).length + (linesL (l.drop k)).length = (linesL l).length := by
    conv => rhs; rw [← List.take_append_drop k l]
    unfold linesL; rw [List.flatMap_append, List.length_append]
  have ok1 : okSteps (l.take k) := ⟨fun s hs => (hs1 s hs).1, by omega⟩
  have ok2 : okSteps (l.drop k) := ⟨fun s hs => (hs2 s hs).1, by omega⟩
  have f1 : S330 (l.take k) = bs (linesL (l.take k)) := rfl
  have f2 : S330 (l.drop k) = bs (linesL (l.drop k)) := rfl
  have f3 : (ByteArray.mk #[10]) = bs [10] := rfl
  rw [f1, f2, f3]
  simp only [bs_app, size_bs]
  have hlen : (linesL (l.take k) ++ t ++ [10] ++ linesL (l.drop k)).length ≤ 70000 := by
    simp only [List.length_append, List.length_cons, List.length_nil]; omega
  have hS : S329 (bs (linesL (l.take k) ++ t ++ [10] ++ linesL (l.drop k))) = ([], ((k + 1 : Nat) : Int), 7) := by
    rw [s329]
    show readF (linesL (l.take k) ++ t ++ [10] ++ linesL (l.drop k)).length 1 (linesL (l.take k) ++ t ++ [10] ++ linesL (l.drop k)) [] = _
    have hn := lines_num (l.take k)
    have hlt : (l.take k).length = k := by rw [List.length_take]; omega
    obtain ⟨j, hj⟩ : ∃ j, (linesL (l.take k) ++ t ++ [10] ++ linesL (l.drop k)).length = (j + 1) + (l.take k).length := ⟨(linesL (l.take k) ++ t ++ [10] ++ linesL (l.drop k)).length - (l.take k).length - 1, by simp only [List.length_append, List.length_cons, List.length_nil]; omega⟩
    rw [hj, List.append_assoc, List.append_assoc, readF_lines _ hs1, readF_cons _ _ _ _ (by simp)]
    have et : t ++ ([10] ++ linesL (l.drop k)) = t ++ 10 :: linesL (l.drop k) := rfl
    rw [et, tk_app hb2, hb1, Bool.false_and, cond_false, hlt]
    rw [show 1 + (k : Int) = ((k + 1 : Nat) : Int) by omega]
  rw [hS]
  have w3 : IntKind.i64.wrap ((k : Int) + 1) = ((k + 1 : Nat) : Int) := wrap64 (by omega)
  rw [w3]
  have p0 : okPeer (⟨0, 0, [], []⟩ : api_PeerConf) := ⟨⟨by decide, by decide⟩, ⟨by decide, by decide⟩, by decide, by decide, fun r hr => (by cases hr), fun r hr => (by cases hr)⟩
  have big : ∀ {n : Nat}, n ≤ 70000 → n ≤ 9223372036854775807 := fun h => Nat.le_trans h (by decide)
  refine ⟨⟨p0⟩, (show 9 ≤ 1099511627776 by decide), big (by decide), big (by decide), big (by decide), big (by decide), big (by decide), big (by decide), big (by decide), big (by decide), big (by decide), fun e => ?_, ⟨by omega, by omega, by omega⟩, hg, ⟨by omega, by omega, by omega⟩, ok1, ?_, ?_, ok2, ?_, ⟨by rw [size_bs]; exact hlen⟩, ?_⟩
  · omega
  · exact big (by omega)
  · refine Nat.le_trans (m := 70001) ?_ (by decide)
    rw [List.length_append]
    show _ + _ + 1 ≤ 70001
    omega
  · exact big (by simp only [List.length_append, List.length_cons, List.length_nil]; omega)
  · show (decide ((7 : Int) = 7) && decide (((k + 1 : Nat) : Int) = ((k + 1 : Nat) : Int)) && decide (((0 : Nat) : Int) = 0)) = true
    simp
theorem ok309 : Ok309 := by
  refine con_ok (C := C309) ?_ mx7 (by kernel_rfl) run309
  exact kok_cons ok325 (kok_cons ok331 (kok_cons ok330 (kok_cons ok329 (kok_cons ok326 (kk1 ok327)))))
end Go.Rx
/-! What the law ScriptLine hands back. -/
namespace Go.Rx
open Go.Ab Go.L21
set_option maxRecDepth 100000
theorem con309 : ∀ (args : List (AV S.A)) (k : AV S.A → Prop), appC (S := S) P7 [4] [49, 5, 5] W309 args k → PFk (S := S) P7 9 (args.map stripA) k := ok309.1
theorem pf309 (x0 : List api_Step) (x1 : Int) (x2 : Int) (h : P309 x0 x1 x2) : PFk (S := S) P7 9 ([argA (S := S) P7 49 x0, argA (S := S) P7 5 x1, argA (S := S) P7 5 x2].map stripA) (fun q => q = .sc (.bool true)) := by
  refine con309 [argA (S := S) P7 49 x0, argA (S := S) P7 5 x1, argA (S := S) P7 5 x2] _ ?_
  show withP (some (P309 x0 x1 x2)) _
  exact ⟨h, rfl⟩
theorem strip309 (x0 : List api_Step) (x1 : Int) (x2 : Int) : [argA (S := S) P7 49 x0, argA (S := S) P7 5 x1, argA (S := S) P7 5 x2].map stripA = [.sem (SL api_Step.enc x0), .sc (.int .u8 x1), .sc (.int .u8 x2)] := by kernel_rfl
end Go.Rx
namespace Go.Proofs.YtadjcpiiagkdeaaDoor
open Go.Ab Go.Rx Go.L21
theorem ScriptLine_ok (x0 : List api_Step) (x1 : Int) (x2 : Int) (o0 : okL api_Step.ok x0) (o1 : okI .u8 x1) (o2 : okI .u8 x2) : PFg S P7 9 [.sem (SL api_Step.enc x0), .sc (.int .u8 x1), .sc (.int .u8 x2)] (.sc (.bool true)) := by
  have h := pf_of_pfk (pf309 x0 x1 x2 (⟨steps_ok o0, okU8 o1, okU8 o2⟩))
  rw [strip309] at h
  exact h
end Go.Proofs.YtadjcpiiagkdeaaDoor
