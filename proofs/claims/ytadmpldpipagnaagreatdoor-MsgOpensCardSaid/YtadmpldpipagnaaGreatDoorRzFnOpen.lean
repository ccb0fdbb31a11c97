import Derived.Test.YtadmpldpipagnaaGreatDoorRzPHead
namespace Go.Proofs.YtadmpldpipagnaaGreatDoor
open Go.Ab
set_option linter.unusedSimpArgs false
set_option linter.unusedVariables false
def E4 (v:Int):List Int:=
 [(IntKind.wrap .u8 (IntKind.wrap .i64 (Int.tdiv v 256))),(IntKind.wrap .u8 (Int.tmod v 256))]
set_option maxRecDepth 100000 in
set_option maxHeartbeats 4000000 in
theorem A2D (v:Int):PG Tryz.prog 34 [] [] [.sc (.int .i64 v)] (fun _:Unit=>True) (fun _=>(fun (z:List Int)=>⟨[],[],.sem (SL (eI .u8) z)⟩) (E4 v)):=by
 refine M4 (N:=10) (l:=[.tmp 2]) Tryz.func34 rfl rfl rfl (Nat.le_of_ble_eq_true rfl) fun w0 i0 F βs=>?_
 refine C6 ?_
 refine B8 ?_
 refine B4 rfl (C7 (p:=.sc (.slice none 0 0)) rfl rfl rfl rfl) ?_
 refine D4 ?_
 refine C6 ?_
 refine B8 ?_
 refine B4 rfl (C2 (p:=.sc (.int .i64 v)) rfl rfl rfl rfl) ?_
 refine B4 rfl (E6 (u1:=.int .i64 v) (u2:=.int .i64 256) (v:=.int .i64 (IntKind.wrap .i64 (Int.tdiv v 256))) rfl rfl rfl rfl rfl (fun _=>rfl)) ?_
 refine B4 rfl (G8 (m:=(IntKind.wrap .u8 (IntKind.wrap .i64 (Int.tdiv v 256)))) rfl rfl rfl Tryz.underlying3 Tryz.underlying5 rfl rfl) ?_
 refine B4 rfl (C2 (p:=.sc (.int .i64 v)) rfl rfl rfl rfl) ?_
 refine B4 rfl (E6 (u1:=.int .i64 v) (u2:=.int .i64 256) (v:=.int .i64 (Int.tmod v 256)) rfl rfl rfl rfl rfl (fun _=>rfl)) ?_
 refine B4 rfl (G8 (m:=(IntKind.wrap .u8 (Int.tmod v 256))) rfl rfl rfl Tryz.underlying3 Tryz.underlying5 rfl rfl) ?_
 refine B4 rfl (I4 (E:=(eI .u8)) (l:=[(IntKind.wrap .u8 (IntKind.wrap .i64 (Int.tdiv v 256))),(IntKind.wrap .u8 (Int.tmod v 256))]) (tp:=9) (parts:=[(0,.tmp 5),(1,.tmp 8)]) (qs:=[.sc (.int .u8 (IntKind.wrap .u8 (IntKind.wrap .i64 (Int.tdiv v 256)))),.sc (.int .u8 (IntKind.wrap .u8 (Int.tmod v 256)))]) rfl rfl rfl N3 rfl rfl rfl rfl) ?_
 refine B4 rfl (C7 (p:=.own 9 (List.length (α:=Int) [(IntKind.wrap .u8 (IntKind.wrap .i64 (Int.tdiv v 256))),(IntKind.wrap .u8 (Int.tmod v 256))]) (SL (eI .u8) [(IntKind.wrap .u8 (IntKind.wrap .i64 (Int.tdiv v 256))),(IntKind.wrap .u8 (Int.tmod v 256))])) rfl rfl rfl rfl) ?_
 refine D4 ?_
 refine G2 ?_
 exact F7 (F:=(fun (z:List Int)=>⟨[],[],.sem (SL (eI .u8) z)⟩)) (z:=(E4 v)) (v:=[(IntKind.wrap .u8 (IntKind.wrap .i64 (Int.tdiv v 256))),(IntKind.wrap .u8 (Int.tmod v 256))]) rfl rfl (.one (.tmp 2 (.sem (SL (eI .u8) [(IntKind.wrap .u8 (IntKind.wrap .i64 (Int.tdiv v 256))),(IntKind.wrap .u8 (Int.tmod v 256))])) rfl) (.one (.rfl _)) rfl) trivial trivial
theorem Y2 (v:Int):PF Tryz.prog 34 [.sc (.int .i64 v)] (.sem (SL (eI .u8) (E4 v))):=M1 (A2D v) rfl
theorem E9 (v:Int):(E4 v).length=2:=rfl
def D7 (m:A8):(List Int) × Bool:=
 (bif ((((decide ((m.fOpen.fAS:Int) < 1)) || (decide ((4294967295:Int) < m.fOpen.fAS))) || (decide ((m.fOpen.fHold:Int) < 0))) || (decide ((65535:Int) < m.fOpen.fHold))) || (!(G7 m.fOpen.fCaps)) then
  ([],false)
 else
  (thn (bif decide ((65535:Int) < m.fOpen.fAS) then 23456 else m.fOpen.fAS) fun (y_21:Int) =>
   (((((([4] ++ (E4 y_21)) ++ (E4 m.fOpen.fHold)) ++ (E5 (IntKind.wrap .i64 m.fOpen.fID))) ++ [(IntKind.wrap .u8 ((H4 m.fOpen.fCaps).length:Int))]) ++ (H4 m.fOpen.fCaps)),true)))
set_option maxRecDepth 100000 in
set_option maxHeartbeats 4000000 in
theorem A1O (m:A8) (h1:decide ((m.fKind:Int)=1)=true):PG Tryz.prog 33 [] [] [.agg (A8.cells m)] (fun _:Unit=>True) (fun _=>(fun (z:(List Int) × Bool)=>⟨[],[],.tup [.sem (SL (eI .u8) z.1),.sc (.bool z.2)]⟩) (D7 m)):=by
 refine M4 (N:=181) (l:=[.tmp 2,.tmp 3]) Tryz.func33 rfl rfl rfl (Nat.le_of_ble_eq_true rfl) fun w0 i0 F βs=>?_
 refine L4 0 13 rfl rfl (fun hl1=>?_)
 refine L4 0 15 rfl rfl (fun hl2=>?_)
 refine L4 0 19 rfl rfl (fun hl3=>?_)
 refine L4 0 20 rfl rfl (fun hl4=>?_)
 refine L4 0 21 rfl rfl (fun hl5=>?_)
 refine L4 0 24 rfl rfl (fun hl6=>?_)
 refine C6 ?_
 refine B8 ?_
 refine B4 rfl (q9 (s:=1) (p:=.agg (A8.cells m)) (qs:=(A8.cells m)) rfl rfl rfl rfl rfl rfl rfl) ?_
 refine B4 rfl (C7 (p:=.sc (.slice none 0 0)) rfl rfl rfl rfl) ?_
 refine B4 rfl (C7 (p:=.sc (.bool false)) rfl rfl rfl rfl) ?_
 refine D4 ?_
 refine C6 ?_
 refine C6 ?_
 refine B8 ?_
 refine B4 rfl (D3 (b:=1) (k:=0) (m:=0) rfl rfl rfl X5 rfl rfl) ?_
 refine B4 rfl (F4 (s:=1) (off:=0) (ps:=(A8.cells m)) (p:=.sc (.int .i64 m.fKind)) rfl rfl rfl ty3 rfl rfl rfl rfl rfl) ?_
 refine D4 ?_
 refine H6 ?_
 refine C6 ?_
 refine B8 ?_
 refine B4 rfl (E6 (u1:=.int .i64 m.fKind) (u2:=.int .i64 1) (v:=.bool (decide ((m.fKind:Int)=1))) rfl rfl rfl rfl rfl (fun _=>rfl)) ?_
 refine B4 rfl (C7 (p:=.sc (.bool (decide ((m.fKind:Int)=1)))) rfl rfl rfl rfl) ?_
 refine D4 ?_
 refine F6 (b:=decide ((m.fKind:Int)=1)) rfl (fun h=>?_) (fun h=>absurd (h.symm.trans h1) (by decide))
 refine C6 ?_
 refine B8 ?_
 refine B4 rfl (D3 (b:=1) (k:=0) (m:=1) rfl rfl rfl A6F rfl rfl) ?_
 refine B4 rfl (F4 (s:=1) (off:=1) (ps:=(A8.cells m)) (p:=.agg (D1.cells m.fOpen)) rfl rfl rfl A0u rfl rfl rfl rfl rfl) ?_
 refine B4 rfl (L2 (s:=4) (z:=A9b) (qs:=V0) rfl rfl rfl rfl z31 rfl rfl) ?_
 refine B4 rfl (G5 (s:=4) (off:=0) (ps:=V0) (p:=.agg (D1.cells m.fOpen)) (qs:=(D1.cells m.fOpen)) rfl rfl A0u rfl rfl rfl rfl rfl rfl rfl) ?_
 refine D4 ?_
 refine C6 ?_
 refine C6 ?_
 refine B8 ?_
 refine B4 rfl (D3 (b:=4) (k:=0) (m:=0) rfl rfl rfl Y4 rfl rfl) ?_
 refine B4 rfl (F4 (s:=4) (off:=0) (ps:=(D1.cells m.fOpen)) (p:=.sc (.int .i64 m.fOpen.fAS)) rfl rfl rfl ty3 rfl rfl rfl rfl rfl) ?_
 refine B4 rfl (E6 (u1:=.int .i64 m.fOpen.fAS) (u2:=.int .i64 1) (v:=.bool (decide ((m.fOpen.fAS:Int) < 1))) rfl rfl rfl rfl rfl (fun _=>rfl)) ?_
 refine B4 rfl (C2 (p:=.sc (.bool (decide ((m.fOpen.fAS:Int) < 1)))) rfl rfl rfl rfl) ?_
 refine E0 (C:=!(decide ((m.fOpen.fAS:Int) < 1))) (p:=.loc 4 0) (H8 (b:=decide ((m.fOpen.fAS:Int) < 1)) (c:=!(decide ((m.fOpen.fAS:Int) < 1))) rfl rfl rfl rfl rfl rfl) rfl rfl (fun g7=>D3 (b:=4) (k:=0) (m:=0) rfl rfl rfl Y4 rfl rfl) ?_
 refine E0 (C:=!(decide ((m.fOpen.fAS:Int) < 1))) (p:=.sc (.int .i64 m.fOpen.fAS)) (H8 (b:=decide ((m.fOpen.fAS:Int) < 1)) (c:=!(decide ((m.fOpen.fAS:Int) < 1))) rfl rfl rfl rfl rfl rfl) rfl rfl (fun g8=>F4 (s:=4) (off:=0) (ps:=(D1.cells m.fOpen)) (p:=.sc (.int .i64 m.fOpen.fAS)) rfl rfl rfl ty3 (gt (p:=.loc 4 0) (q:=.sc undef) g8) rfl rfl rfl rfl) ?_
 refine E0 (C:=!(decide ((m.fOpen.fAS:Int) < 1))) (p:=.sc (.bool (decide ((4294967295:Int) < m.fOpen.fAS)))) (H8 (b:=decide ((m.fOpen.fAS:Int) < 1)) (c:=!(decide ((m.fOpen.fAS:Int) < 1))) rfl rfl rfl rfl rfl rfl) rfl rfl (fun g9=>E6 (u1:=.int .i64 m.fOpen.fAS) (u2:=.int .i64 4294967295) (v:=.bool (decide ((4294967295:Int) < m.fOpen.fAS))) rfl rfl rfl (gt (p:=.sc (.int .i64 m.fOpen.fAS)) (q:=.sc undef) g9) rfl (fun _=>rfl)) ?_
 refine B4 rfl (N5 (b:=decide ((m.fOpen.fAS:Int) < 1)) (y:=decide ((4294967295:Int) < m.fOpen.fAS)) rfl rfl rfl rfl rfl rfl) ?_
 refine B4 rfl (C2 (p:=.sc (.bool ((decide ((m.fOpen.fAS:Int) < 1)) || (decide ((4294967295:Int) < m.fOpen.fAS))))) rfl rfl rfl rfl) ?_
 refine E0 (C:=!((decide ((m.fOpen.fAS:Int) < 1)) || (decide ((4294967295:Int) < m.fOpen.fAS)))) (p:=.loc 4 1) (H8 (b:=(decide ((m.fOpen.fAS:Int) < 1)) || (decide ((4294967295:Int) < m.fOpen.fAS))) (c:=!((decide ((m.fOpen.fAS:Int) < 1)) || (decide ((4294967295:Int) < m.fOpen.fAS)))) rfl rfl rfl rfl rfl rfl) rfl rfl (fun g10=>D3 (b:=4) (k:=0) (m:=1) rfl rfl rfl A1f rfl rfl) ?_
 refine E0 (C:=!((decide ((m.fOpen.fAS:Int) < 1)) || (decide ((4294967295:Int) < m.fOpen.fAS)))) (p:=.sc (.int .i64 m.fOpen.fHold)) (H8 (b:=(decide ((m.fOpen.fAS:Int) < 1)) || (decide ((4294967295:Int) < m.fOpen.fAS))) (c:=!((decide ((m.fOpen.fAS:Int) < 1)) || (decide ((4294967295:Int) < m.fOpen.fAS)))) rfl rfl rfl rfl rfl rfl) rfl rfl (fun g11=>F4 (s:=4) (off:=1) (ps:=(D1.cells m.fOpen)) (p:=.sc (.int .i64 m.fOpen.fHold)) rfl rfl rfl ty3 (gt (p:=.loc 4 1) (q:=.sc undef) g11) rfl rfl rfl rfl) ?_
 refine E0 (C:=!((decide ((m.fOpen.fAS:Int) < 1)) || (decide ((4294967295:Int) < m.fOpen.fAS)))) (p:=.sc (.bool (decide ((m.fOpen.fHold:Int) < 0)))) (H8 (b:=(decide ((m.fOpen.fAS:Int) < 1)) || (decide ((4294967295:Int) < m.fOpen.fAS))) (c:=!((decide ((m.fOpen.fAS:Int) < 1)) || (decide ((4294967295:Int) < m.fOpen.fAS)))) rfl rfl rfl rfl rfl rfl) rfl rfl (fun g12=>E6 (u1:=.int .i64 m.fOpen.fHold) (u2:=.int .i64 0) (v:=.bool (decide ((m.fOpen.fHold:Int) < 0))) rfl rfl rfl (gt (p:=.sc (.int .i64 m.fOpen.fHold)) (q:=.sc undef) g12) rfl (fun _=>rfl)) ?_
 refine B4 rfl (N5 (b:=(decide ((m.fOpen.fAS:Int) < 1)) || (decide ((4294967295:Int) < m.fOpen.fAS))) (y:=decide ((m.fOpen.fHold:Int) < 0)) rfl rfl rfl rfl rfl rfl) ?_
 refine B4 rfl (C2 (p:=.sc (.bool (((decide ((m.fOpen.fAS:Int) < 1)) || (decide ((4294967295:Int) < m.fOpen.fAS))) || (decide ((m.fOpen.fHold:Int) < 0))))) rfl rfl rfl rfl) ?_
 refine E0 (C:=!(((decide ((m.fOpen.fAS:Int) < 1)) || (decide ((4294967295:Int) < m.fOpen.fAS))) || (decide ((m.fOpen.fHold:Int) < 0)))) (p:=.loc 4 1) (H8 (b:=((decide ((m.fOpen.fAS:Int) < 1)) || (decide ((4294967295:Int) < m.fOpen.fAS))) || (decide ((m.fOpen.fHold:Int) < 0))) (c:=!(((decide ((m.fOpen.fAS:Int) < 1)) || (decide ((4294967295:Int) < m.fOpen.fAS))) || (decide ((m.fOpen.fHold:Int) < 0)))) rfl rfl rfl rfl rfl rfl) rfl rfl (fun g13=>D3 (b:=4) (k:=0) (m:=1) rfl rfl rfl A1f rfl rfl) ?_
 refine E0 (C:=!(((decide ((m.fOpen.fAS:Int) < 1)) || (decide ((4294967295:Int) < m.fOpen.fAS))) || (decide ((m.fOpen.fHold:Int) < 0)))) (p:=.sc (.int .i64 m.fOpen.fHold)) (H8 (b:=((decide ((m.fOpen.fAS:Int) < 1)) || (decide ((4294967295:Int) < m.fOpen.fAS))) || (decide ((m.fOpen.fHold:Int) < 0))) (c:=!(((decide ((m.fOpen.fAS:Int) < 1)) || (decide ((4294967295:Int) < m.fOpen.fAS))) || (decide ((m.fOpen.fHold:Int) < 0)))) rfl rfl rfl rfl rfl rfl) rfl rfl (fun g14=>F4 (s:=4) (off:=1) (ps:=(D1.cells m.fOpen)) (p:=.sc (.int .i64 m.fOpen.fHold)) rfl rfl rfl ty3 (gt (p:=.loc 4 1) (q:=.sc undef) g14) rfl rfl rfl rfl) ?_
 refine E0 (C:=!(((decide ((m.fOpen.fAS:Int) < 1)) || (decide ((4294967295:Int) < m.fOpen.fAS))) || (decide ((m.fOpen.fHold:Int) < 0)))) (p:=.sc (.bool (decide ((65535:Int) < m.fOpen.fHold)))) (H8 (b:=((decide ((m.fOpen.fAS:Int) < 1)) || (decide ((4294967295:Int) < m.fOpen.fAS))) || (decide ((m.fOpen.fHold:Int) < 0))) (c:=!(((decide ((m.fOpen.fAS:Int) < 1)) || (decide ((4294967295:Int) < m.fOpen.fAS))) || (decide ((m.fOpen.fHold:Int) < 0)))) rfl rfl rfl rfl rfl rfl) rfl rfl (fun g15=>E6 (u1:=.int .i64 m.fOpen.fHold) (u2:=.int .i64 65535) (v:=.bool (decide ((65535:Int) < m.fOpen.fHold))) rfl rfl rfl (gt (p:=.sc (.int .i64 m.fOpen.fHold)) (q:=.sc undef) g15) rfl (fun _=>rfl)) ?_
 refine B4 rfl (N5 (b:=((decide ((m.fOpen.fAS:Int) < 1)) || (decide ((4294967295:Int) < m.fOpen.fAS))) || (decide ((m.fOpen.fHold:Int) < 0))) (y:=decide ((65535:Int) < m.fOpen.fHold)) rfl rfl rfl rfl rfl rfl) ?_
 refine B4 rfl (C2 (p:=.sc (.bool ((((decide ((m.fOpen.fAS:Int) < 1)) || (decide ((4294967295:Int) < m.fOpen.fAS))) || (decide ((m.fOpen.fHold:Int) < 0))) || (decide ((65535:Int) < m.fOpen.fHold))))) rfl rfl rfl rfl) ?_
 refine E0 (C:=!((((decide ((m.fOpen.fAS:Int) < 1)) || (decide ((4294967295:Int) < m.fOpen.fAS))) || (decide ((m.fOpen.fHold:Int) < 0))) || (decide ((65535:Int) < m.fOpen.fHold)))) (p:=.loc 4 3) (H8 (b:=(((decide ((m.fOpen.fAS:Int) < 1)) || (decide ((4294967295:Int) < m.fOpen.fAS))) || (decide ((m.fOpen.fHold:Int) < 0))) || (decide ((65535:Int) < m.fOpen.fHold))) (c:=!((((decide ((m.fOpen.fAS:Int) < 1)) || (decide ((4294967295:Int) < m.fOpen.fAS))) || (decide ((m.fOpen.fHold:Int) < 0))) || (decide ((65535:Int) < m.fOpen.fHold)))) rfl rfl rfl rfl rfl rfl) rfl rfl (fun g16=>D3 (b:=4) (k:=0) (m:=3) rfl rfl rfl A0d rfl rfl) ?_
 refine E0 (C:=!((((decide ((m.fOpen.fAS:Int) < 1)) || (decide ((4294967295:Int) < m.fOpen.fAS))) || (decide ((m.fOpen.fHold:Int) < 0))) || (decide ((65535:Int) < m.fOpen.fHold)))) (p:=.agg (B0.cells m.fOpen.fCaps)) (H8 (b:=(((decide ((m.fOpen.fAS:Int) < 1)) || (decide ((4294967295:Int) < m.fOpen.fAS))) || (decide ((m.fOpen.fHold:Int) < 0))) || (decide ((65535:Int) < m.fOpen.fHold))) (c:=!((((decide ((m.fOpen.fAS:Int) < 1)) || (decide ((4294967295:Int) < m.fOpen.fAS))) || (decide ((m.fOpen.fHold:Int) < 0))) || (decide ((65535:Int) < m.fOpen.fHold)))) rfl rfl rfl rfl rfl rfl) rfl rfl (fun g17=>F4 (s:=4) (off:=3) (ps:=(D1.cells m.fOpen)) (p:=.agg (B0.cells m.fOpen.fCaps)) rfl rfl rfl X9 (gt (p:=.loc 4 3) (q:=.sc undef) g17) rfl rfl rfl rfl) ?_
 refine E0 (C:=!((((decide ((m.fOpen.fAS:Int) < 1)) || (decide ((4294967295:Int) < m.fOpen.fAS))) || (decide ((m.fOpen.fHold:Int) < 0))) || (decide ((65535:Int) < m.fOpen.fHold)))) (p:=.sc (.bool (G7 m.fOpen.fCaps))) (H8 (b:=(((decide ((m.fOpen.fAS:Int) < 1)) || (decide ((4294967295:Int) < m.fOpen.fAS))) || (decide ((m.fOpen.fHold:Int) < 0))) || (decide ((65535:Int) < m.fOpen.fHold))) (c:=!((((decide ((m.fOpen.fAS:Int) < 1)) || (decide ((4294967295:Int) < m.fOpen.fAS))) || (decide ((m.fOpen.fHold:Int) < 0))) || (decide ((65535:Int) < m.fOpen.fHold)))) rfl rfl rfl rfl rfl rfl) rfl rfl (fun g18=>I1 (fn:=Tryz.f52) (xs:=[.tmp 41]) (args:=[.agg (B0.cells m.fOpen.fCaps)]) (r:=.sc (.bool (G7 m.fOpen.fCaps))) rfl rfl rfl Tryz.func52 rfl rfl (T9 (b0:=.agg (B0.cells m.fOpen.fCaps)) (gt (p:=.agg (B0.cells m.fOpen.fCaps)) (q:=.sc undef) g18)) rfl rfl (j0 m.fOpen.fCaps)) ?_
 refine E0 (C:=!((((decide ((m.fOpen.fAS:Int) < 1)) || (decide ((4294967295:Int) < m.fOpen.fAS))) || (decide ((m.fOpen.fHold:Int) < 0))) || (decide ((65535:Int) < m.fOpen.fHold)))) (p:=.sc (.bool (!(G7 m.fOpen.fCaps)))) (H8 (b:=(((decide ((m.fOpen.fAS:Int) < 1)) || (decide ((4294967295:Int) < m.fOpen.fAS))) || (decide ((m.fOpen.fHold:Int) < 0))) || (decide ((65535:Int) < m.fOpen.fHold))) (c:=!((((decide ((m.fOpen.fAS:Int) < 1)) || (decide ((4294967295:Int) < m.fOpen.fAS))) || (decide ((m.fOpen.fHold:Int) < 0))) || (decide ((65535:Int) < m.fOpen.fHold)))) rfl rfl rfl rfl rfl rfl) rfl rfl (fun g19=>X4 (u:=.bool (G7 m.fOpen.fCaps)) (v:=.bool (!(G7 m.fOpen.fCaps))) rfl rfl rfl (gt (p:=.sc (.bool (G7 m.fOpen.fCaps))) (q:=.sc undef) g19) (fun _=>rfl)) ?_
 refine B4 rfl (N5 (b:=(((decide ((m.fOpen.fAS:Int) < 1)) || (decide ((4294967295:Int) < m.fOpen.fAS))) || (decide ((m.fOpen.fHold:Int) < 0))) || (decide ((65535:Int) < m.fOpen.fHold))) (y:=!(G7 m.fOpen.fCaps)) rfl rfl rfl rfl rfl rfl) ?_
 refine D4 ?_
 refine F6 (b:=((((decide ((m.fOpen.fAS:Int) < 1)) || (decide ((4294967295:Int) < m.fOpen.fAS))) || (decide ((m.fOpen.fHold:Int) < 0))) || (decide ((65535:Int) < m.fOpen.fHold))) || (!(G7 m.fOpen.fCaps))) rfl (fun k20=>?_) (fun k20=>?_)
 ·skip
  refine C6 ?_
  refine B8 ?_
  refine B4 rfl (C7 (p:=.sc (.slice none 0 0)) rfl rfl rfl rfl) ?_
  refine B4 rfl (C7 (p:=.sc (.bool false)) rfl rfl rfl rfl) ?_
  refine D4 ?_
  refine G2 ?_
  exact F7 (F:=(fun (z:(List Int) × Bool)=>⟨[],[],.tup [.sem (SL (eI .u8) z.1),.sc (.bool z.2)]⟩)) (z:=(D7 m)) (v:=([],false)) (bT k20 rfl) rfl (.two (.tmp 2 (.sc (.slice none 0 0)) rfl) (.one (.nil _)) rfl (.tmp 3 (.sc (.bool false)) rfl) (.one (.rfl _)) rfl) trivial trivial
 ·skip
  refine F9 ?_
  refine C6 ?_
  refine B8 ?_
  refine B4 rfl (D3 (b:=4) (k:=0) (m:=0) rfl rfl rfl Y4 rfl rfl) ?_
  refine B4 rfl (F4 (s:=4) (off:=0) (ps:=(D1.cells m.fOpen)) (p:=.sc (.int .i64 m.fOpen.fAS)) rfl rfl rfl ty3 rfl rfl rfl rfl rfl) ?_
  refine B4 rfl (C7 (p:=.sc (.int .i64 m.fOpen.fAS)) rfl rfl rfl rfl) ?_
  refine D4 ?_
  refine N8 (ι:=Int) (p:=fun y_21=>((bif decide ((65535:Int) < m.fOpen.fAS) then 23456 else m.fOpen.fAS))=y_21) (S:=fun y_21=>St.of 181 [(0,.agg (A8.cells m)),(1,.loc 1 0),(2,.sc (.slice none 0 0)),(3,.sc (.bool false)),(4,.loc 4 0),(5,.sc (.int .i64 y_21)),(16,.sc (.int .i64 m.fKind))] [(1,(A8.cells m)),(4,(D1.cells m.fOpen))] []) ?_ (fun y_21 e21=>?_)
  ·skip
   refine C6 ?_
   refine B8 ?_
   refine B4 rfl (C2 (p:=.sc (.int .i64 m.fOpen.fAS)) rfl rfl rfl rfl) ?_
   refine B4 rfl (E6 (u1:=.int .i64 m.fOpen.fAS) (u2:=.int .i64 65535) (v:=.bool (decide ((65535:Int) < m.fOpen.fAS))) rfl rfl rfl rfl rfl (fun _=>rfl)) ?_
   refine D4 ?_
   refine F6 (b:=decide ((65535:Int) < m.fOpen.fAS)) rfl (fun k22=>?_) (fun k22=>?_)
   ·skip
    refine B8 ?_
    refine B4 rfl (C7 (p:=.sc (.int .i64 23456)) rfl rfl rfl rfl) ?_
    refine D4 ?_
    exact ⟨23456,(bT k22 rfl),(G9 rfl ⟨⟨rfl,(.agg (.cons (.rfl _) (.cons (.rfl _) (.cons (.rfl _) (.cons (.rfl _) (.cons (.rfl _) (.cons (.rfl _) (.cons (.rfl _) (.cons (.rfl _) (.cons (.rfl _) (.cons (.rfl _) (.cons (.rfl _) (.cons (.rfl _) (.cons (.rfl _) (.cons (.rfl _) (.cons (.rfl _) (.cons (.rfl _) (.cons (.rfl _) (.cons (.rfl _) (.cons (.rfl _) (.cons (.rfl _) (.cons (.rfl _) (.cons (.rfl _) (.cons (.rfl _) (.cons (.rfl _) (.cons (.rfl _) .nil))))))))))))))))))))))))))⟩,⟨⟨rfl,(.one (.rfl _))⟩,⟨⟨rfl,(.one (.rfl _))⟩,⟨⟨rfl,(.one (.rfl _))⟩,⟨⟨rfl,(.one (.rfl _))⟩,⟨⟨rfl,(.one (.rfl _))⟩,⟨⟨rfl,(.one (.rfl _))⟩,trivial⟩⟩⟩⟩⟩⟩⟩ ⟨⟨(A8.cells m),rfl,(.cons (.rfl _) (.cons (.rfl _) (.cons (.rfl _) (.cons (.rfl _) (.cons (.rfl _) (.cons (.rfl _) (.cons (.rfl _) (.cons (.rfl _) (.cons (.rfl _) (.cons (.rfl _) (.cons (.rfl _) (.cons (.rfl _) (.cons (.rfl _) (.cons (.rfl _) (.cons (.rfl _) (.cons (.rfl _) (.cons (.rfl _) (.cons (.rfl _) (.cons (.rfl _) (.cons (.rfl _) (.cons (.rfl _) (.cons (.rfl _) (.cons (.rfl _) (.cons (.rfl _) (.cons (.rfl _) .nil)))))))))))))))))))))))))⟩,⟨⟨(D1.cells m.fOpen),rfl,(.cons (.rfl _) (.cons (.rfl _) (.cons (.rfl _) (.cons (.rfl _) (.cons (.rfl _) (.cons (.rfl _) (.cons (.rfl _) (.cons (.rfl _) (.cons (.rfl _) (.cons (.rfl _) (.cons (.rfl _) (.cons (.rfl _) .nil))))))))))))⟩,trivial⟩⟩ trivial)⟩
   ·skip
    refine F9 ?_
    exact ⟨m.fOpen.fAS,(bF k22 rfl),(G9 rfl ⟨⟨rfl,(.agg (.cons (.rfl _) (.cons (.rfl _) (.cons (.rfl _) (.cons (.rfl _) (.cons (.rfl _) (.cons (.rfl _) (.cons (.rfl _) (.cons (.rfl _) (.cons (.rfl _) (.cons (.rfl _) (.cons (.rfl _) (.cons (.rfl _) (.cons (.rfl _) (.cons (.rfl _) (.cons (.rfl _) (.cons (.rfl _) (.cons (.rfl _) (.cons (.rfl _) (.cons (.rfl _) (.cons (.rfl _) (.cons (.rfl _) (.cons (.rfl _) (.cons (.rfl _) (.cons (.rfl _) (.cons (.rfl _) .nil))))))))))))))))))))))))))⟩,⟨⟨rfl,(.one (.rfl _))⟩,⟨⟨rfl,(.one (.rfl _))⟩,⟨⟨rfl,(.one (.rfl _))⟩,⟨⟨rfl,(.one (.rfl _))⟩,⟨⟨rfl,(.one (.rfl _))⟩,⟨⟨rfl,(.one (.rfl _))⟩,trivial⟩⟩⟩⟩⟩⟩⟩ ⟨⟨(A8.cells m),rfl,(.cons (.rfl _) (.cons (.rfl _) (.cons (.rfl _) (.cons (.rfl _) (.cons (.rfl _) (.cons (.rfl _) (.cons (.rfl _) (.cons (.rfl _) (.cons (.rfl _) (.cons (.rfl _) (.cons (.rfl _) (.cons (.rfl _) (.cons (.rfl _) (.cons (.rfl _) (.cons (.rfl _) (.cons (.rfl _) (.cons (.rfl _) (.cons (.rfl _) (.cons (.rfl _) (.cons (.rfl _) (.cons (.rfl _) (.cons (.rfl _) (.cons (.rfl _) (.cons (.rfl _) (.cons (.rfl _) .nil)))))))))))))))))))))))))⟩,⟨⟨(D1.cells m.fOpen),rfl,(.cons (.rfl _) (.cons (.rfl _) (.cons (.rfl _) (.cons (.rfl _) (.cons (.rfl _) (.cons (.rfl _) (.cons (.rfl _) (.cons (.rfl _) (.cons (.rfl _) (.cons (.rfl _) (.cons (.rfl _) (.cons (.rfl _) .nil))))))))))))⟩,trivial⟩⟩ trivial)⟩
  ·skip
   refine L4 0 13 rfl rfl (fun hl23=>?_)
   refine L4 0 15 rfl rfl (fun hl24=>?_)
   refine L4 0 19 rfl rfl (fun hl25=>?_)
   refine L4 0 20 rfl rfl (fun hl26=>?_)
   refine L4 0 21 rfl rfl (fun hl27=>?_)
   refine L4 0 24 rfl rfl (fun hl28=>?_)
   refine C6 ?_
   refine S9 (ds:=[some 49,some 50,some 51,some 52,some 53,some 54,some 55,some 56,some 6]) (ks:=[0,3,7]) (ps:=[.any,.sc (.int .i64 y_21),.sem (SL (eI .u8) (E4 y_21)),.any,.loc 4 1,.sc (.int .i64 m.fOpen.fHold),.any,.any,.any]) rfl (by kernel_rfl) rfl rfl ?_
   refine A4h (d:=49) (q:=.own 49 (List.length (α:=Int) [4]) (SL (eI .u8) [4])) (tp:=49) (x:=some (1,(List.length (α:=Int) [4]))) (k:=0) (qs:=[.own 49 (List.length (α:=Int) [4]) (SL (eI .u8) [4]),.sc (.int .i64 y_21),.sem (SL (eI .u8) (E4 y_21)),.any,.loc 4 1,.sc (.int .i64 m.fOpen.fHold),.any,.any,.any]) [1,2,4,5] [false,true,true,false,true,true,false,false,false] (by kernel_rfl) (by kernel_rfl) rfl rfl rfl (by kernel_rfl) rfl rfl rfl rfl rfl ?_ (fun bD hc hi hd=>by exact I4 (E:=(eI .u8)) (l:=[4]) (tp:=49) (parts:=[(0,.const (.int .u8 4))]) (qs:=[.sc (.int .u8 4)]) rfl rfl rfl N3 rfl rfl rfl rfl) ?_
   ·refine fc ?_ (fc ?_ (fc ?_ (fc ?_ (fn'))))
    ·exact E7 (i:=1) (q:=.sc (.int .i64 y_21)) rfl rfl rfl (fun bD hc hi hd=>C1 rfl (C2 (p:=.sc (.int .i64 y_21)) rfl rfl rfl rfl))
    ·exact E7 (i:=2) (q:=.sem (SL (eI .u8) (E4 y_21))) rfl rfl rfl (fun bD hc hi hd=>C1 rfl (I1 (fn:=Tryz.f34) (xs:=[.tmp 50]) (args:=[.sc (.int .i64 y_21)]) (r:=.sem (SL (eI .u8) (E4 y_21))) rfl rfl rfl Tryz.func34 rfl rfl (T9 (b0:=.sc (.int .i64 y_21)) (gt (p:=.sc (.int .i64 y_21)) (q:=.any) (hd 1 (by decide)))) rfl rfl (Y2 y_21)))
    ·exact E7 (i:=4) (q:=.loc 4 1) rfl rfl rfl (fun bD hc hi hd=>C1 rfl (D3 (b:=4) (k:=0) (m:=1) rfl rfl rfl A1f rfl rfl))
    ·exact E7 (i:=5) (q:=.sc (.int .i64 m.fOpen.fHold)) rfl rfl rfl (fun bD hc hi hd=>C1 rfl (F4 (s:=4) (off:=1) (ps:=(D1.cells m.fOpen)) (p:=.sc (.int .i64 m.fOpen.fHold)) rfl rfl rfl ty3 (gt (p:=.loc 4 1) (q:=.any) (hd 4 (by decide))) rfl rfl rfl rfl))
   refine R4 (d:=52) (q:=.own 49 (List.length (α:=Int) ([4] ++ (E4 y_21))) (SL (eI .u8) ([4] ++ (E4 y_21)))) (tp:=49) (x:=some (1,(List.length (α:=Int) ([4] ++ (E4 y_21))))) (k:=3) (qs:=[.own 49 (List.length (α:=Int) [4]) (SL (eI .u8) [4]),.sc (.int .i64 y_21),.sem (SL (eI .u8) (E4 y_21)),.own 49 (List.length (α:=Int) ([4] ++ (E4 y_21))) (SL (eI .u8) ([4] ++ (E4 y_21))),.loc 4 1,.sc (.int .i64 m.fOpen.fHold),.sem (SL (eI .u8) (E4 m.fOpen.fHold)),.any,.any]) [1,2,4,5] [true,true,true,false,true,true,false,false,false] (by kernel_rfl) (by kernel_rfl) rfl rfl rfl (by kernel_rfl) rfl rfl rfl rfl rfl ?_ (fun bD hc hi hd=>by exact K1 (E:=(eI .u8)) (l:=[4]) (ext:=(E4 y_21)) (tp:=49) rfl rfl rfl N3 (gt (p:=.own 49 (List.length (α:=Int) [4]) (SL (eI .u8) [4])) (q:=.any) (hd 0 (by decide))) rfl (by exact (E3 (by exact (gt (p:=.sem (SL (eI .u8) (E4 y_21))) (q:=.any) (hd 2 (by decide)))))) (by first | ((try simp only [zB,zC,zD,B7,A7,A6,C0,D8,E8,E9]); omega) | ((try simp only [z1,z2,z3,z4,z5,z6,z7,z8,z9,zA,zB,zC,zD,D2,C9,C4,C3,C5,B5,B6,B7,A7,A6,C0,D8,E8,E9] at *); omega))) ?_
   ·refine fc ?_ (fc ?_ (fc ?_ (fc ?_ (fn'))))
    ·exact E7 (i:=1) (q:=.sc (.int .i64 y_21)) rfl rfl rfl (fun bD hc hi hd=>C1 rfl (C2 (p:=.sc (.int .i64 y_21)) rfl rfl rfl rfl))
    ·exact E7 (i:=2) (q:=.sem (SL (eI .u8) (E4 y_21))) rfl rfl rfl (fun bD hc hi hd=>C1 rfl (I1 (fn:=Tryz.f34) (xs:=[.tmp 50]) (args:=[.sc (.int .i64 y_21)]) (r:=.sem (SL (eI .u8) (E4 y_21))) rfl rfl rfl Tryz.func34 rfl rfl (T9 (b0:=.sc (.int .i64 y_21)) (gt (p:=.sc (.int .i64 y_21)) (q:=.any) (hd 1 (by decide)))) rfl rfl (Y2 y_21)))
    ·exact E7 (i:=4) (q:=.loc 4 1) rfl rfl rfl (fun bD hc hi hd=>C1 rfl (D3 (b:=4) (k:=0) (m:=1) rfl rfl rfl A1f rfl rfl))
    ·exact E7 (i:=5) (q:=.sc (.int .i64 m.fOpen.fHold)) rfl rfl rfl (fun bD hc hi hd=>C1 rfl (F4 (s:=4) (off:=1) (ps:=(D1.cells m.fOpen)) (p:=.sc (.int .i64 m.fOpen.fHold)) rfl rfl rfl ty3 (gt (p:=.loc 4 1) (q:=.any) (hd 4 (by decide))) rfl rfl rfl rfl))
   refine R4 (d:=56) (q:=.own 49 (List.length (α:=Int) (([4] ++ (E4 y_21)) ++ (E4 m.fOpen.fHold))) (SL (eI .u8) (([4] ++ (E4 y_21)) ++ (E4 m.fOpen.fHold)))) (tp:=49) (x:=some (1,(List.length (α:=Int) (([4] ++ (E4 y_21)) ++ (E4 m.fOpen.fHold))))) (k:=7) (qs:=[.own 49 (List.length (α:=Int) [4]) (SL (eI .u8) [4]),.sc (.int .i64 y_21),.sem (SL (eI .u8) (E4 y_21)),.own 49 (List.length (α:=Int) ([4] ++ (E4 y_21))) (SL (eI .u8) ([4] ++ (E4 y_21))),.loc 4 1,.sc (.int .i64 m.fOpen.fHold),.sem (SL (eI .u8) (E4 m.fOpen.fHold)),.own 49 (List.length (α:=Int) (([4] ++ (E4 y_21)) ++ (E4 m.fOpen.fHold))) (SL (eI .u8) (([4] ++ (E4 y_21)) ++ (E4 m.fOpen.fHold))),.own 49 (List.length (α:=Int) (([4] ++ (E4 y_21)) ++ (E4 m.fOpen.fHold))) (SL (eI .u8) (([4] ++ (E4 y_21)) ++ (E4 m.fOpen.fHold)))]) [4,5,6] [true,true,true,true,true,true,true,false,false] (by kernel_rfl) (by kernel_rfl) rfl rfl rfl (by kernel_rfl) rfl rfl rfl rfl rfl ?_ (fun bD hc hi hd=>by exact K1 (E:=(eI .u8)) (l:=([4] ++ (E4 y_21))) (ext:=(E4 m.fOpen.fHold)) (tp:=49) rfl rfl rfl N3 (gt (p:=.own 49 (List.length (α:=Int) ([4] ++ (E4 y_21))) (SL (eI .u8) ([4] ++ (E4 y_21)))) (q:=.any) (hd 3 (by decide))) rfl (by exact (E3 (by exact (gt (p:=.sem (SL (eI .u8) (E4 m.fOpen.fHold))) (q:=.any) (hd 6 (by decide)))))) (by first | ((try simp only [zB,zC,zD,B7,A7,A6,C0,D8,E8,E9]); omega) | ((try simp only [z1,z2,z3,z4,z5,z6,z7,z8,z9,zA,zB,zC,zD,D2,C9,C4,C3,C5,B5,B6,B7,A7,A6,C0,D8,E8,E9] at *); omega))) ?_
   ·refine fc ?_ (fc ?_ (fc ?_ (fn')))
    ·exact E7 (i:=4) (q:=.loc 4 1) rfl rfl rfl (fun bD hc hi hd=>C1 rfl (D3 (b:=4) (k:=0) (m:=1) rfl rfl rfl A1f rfl rfl))
    ·exact E7 (i:=5) (q:=.sc (.int .i64 m.fOpen.fHold)) rfl rfl rfl (fun bD hc hi hd=>C1 rfl (F4 (s:=4) (off:=1) (ps:=(D1.cells m.fOpen)) (p:=.sc (.int .i64 m.fOpen.fHold)) rfl rfl rfl ty3 (gt (p:=.loc 4 1) (q:=.any) (hd 4 (by decide))) rfl rfl rfl rfl))
    ·exact E7 (i:=6) (q:=.sem (SL (eI .u8) (E4 m.fOpen.fHold))) rfl rfl rfl (fun bD hc hi hd=>C1 rfl (I1 (fn:=Tryz.f34) (xs:=[.tmp 54]) (args:=[.sc (.int .i64 m.fOpen.fHold)]) (r:=.sem (SL (eI .u8) (E4 m.fOpen.fHold))) rfl rfl rfl Tryz.func34 rfl rfl (T9 (b0:=.sc (.int .i64 m.fOpen.fHold)) (gt (p:=.sc (.int .i64 m.fOpen.fHold)) (q:=.any) (hd 5 (by decide)))) rfl rfl (Y2 m.fOpen.fHold)))
   refine P6 [8] (by kernel_rfl) ?_ (fun bD hb=>?_)
   ·refine fc ?_ (fn')
    ·exact E7 (i:=8) (q:=.own 49 (List.length (α:=Int) (([4] ++ (E4 y_21)) ++ (E4 m.fOpen.fHold))) (SL (eI .u8) (([4] ++ (E4 y_21)) ++ (E4 m.fOpen.fHold)))) rfl rfl rfl (fun bD hc hi hd=>C1 rfl (C7 (p:=.own 49 (List.length (α:=Int) (([4] ++ (E4 y_21)) ++ (E4 m.fOpen.fHold))) (SL (eI .u8) (([4] ++ (E4 y_21)) ++ (E4 m.fOpen.fHold)))) rfl rfl rfl (gt (p:=.own 49 (List.length (α:=Int) (([4] ++ (E4 y_21)) ++ (E4 m.fOpen.fHold))) (SL (eI .u8) (([4] ++ (E4 y_21)) ++ (E4 m.fOpen.fHold)))) (q:=.any) (hd 7 (by decide)))))
   obtain rfl:bD=fun _=>true:=funext hb
   refine C6 ?_
   refine B8 ?_
   refine B4 rfl (C2 (p:=.own 49 (List.length (α:=Int) (([4] ++ (E4 y_21)) ++ (E4 m.fOpen.fHold))) (SL (eI .u8) (([4] ++ (E4 y_21)) ++ (E4 m.fOpen.fHold)))) rfl rfl rfl rfl) ?_
   refine B4 rfl (D3 (b:=4) (k:=0) (m:=2) rfl rfl rfl A8m rfl rfl) ?_
   refine B4 rfl (F4 (s:=4) (off:=2) (ps:=(D1.cells m.fOpen)) (p:=.sc (.int .u32 m.fOpen.fID)) rfl rfl rfl A9e rfl rfl rfl rfl rfl) ?_
   refine B4 rfl (G8 (m:=(IntKind.wrap .i64 m.fOpen.fID)) rfl rfl rfl Tryz.underlying27 Tryz.underlying3 rfl rfl) ?_
   refine B4 rfl (I1 (fn:=Tryz.f53) (xs:=[.tmp 60]) (args:=[.sc (.int .i64 (IntKind.wrap .i64 m.fOpen.fID))]) (r:=.sem (SL (eI .u8) (E5 (IntKind.wrap .i64 m.fOpen.fID)))) rfl rfl rfl Tryz.func53 rfl rfl rfl rfl rfl (j6 (IntKind.wrap .i64 m.fOpen.fID))) ?_
   refine B4 rfl (K1 (E:=(eI .u8)) (l:=(([4] ++ (E4 y_21)) ++ (E4 m.fOpen.fHold))) (ext:=(E5 (IntKind.wrap .i64 m.fOpen.fID))) (tp:=49) rfl rfl rfl N3 rfl rfl (E3 rfl) (by first | ((try simp only [zB,zC,zD,B7,A7,A6,C0,D8,E8,E9]); omega) | ((try simp only [z1,z2,z3,z4,z5,z6,z7,z8,z9,zA,zB,zC,zD,D2,C9,C4,C3,C5,B5,B6,B7,A7,A6,C0,D8,E8,E9] at *); omega))) ?_
   refine B4 rfl (C7 (p:=.own 49 (List.length (α:=Int) ((([4] ++ (E4 y_21)) ++ (E4 m.fOpen.fHold)) ++ (E5 (IntKind.wrap .i64 m.fOpen.fID)))) (SL (eI .u8) ((([4] ++ (E4 y_21)) ++ (E4 m.fOpen.fHold)) ++ (E5 (IntKind.wrap .i64 m.fOpen.fID))))) rfl rfl rfl rfl) ?_
   refine D4 ?_
   refine C6 ?_
   refine B8 ?_
   refine B4 rfl (D3 (b:=4) (k:=0) (m:=3) rfl rfl rfl A0d rfl rfl) ?_
   refine B4 rfl (F4 (s:=4) (off:=3) (ps:=(D1.cells m.fOpen)) (p:=.agg (B0.cells m.fOpen.fCaps)) rfl rfl rfl X9 rfl rfl rfl rfl rfl) ?_
   have hm29:=A2O m.fOpen.fCaps
   refine B4 rfl (I1 (fn:=Tryz.f54) (xs:=[.tmp 64]) (args:=[.agg (B0.cells m.fOpen.fCaps)]) (r:=.sem (SL (eI .u8) (H4 m.fOpen.fCaps))) rfl rfl rfl Tryz.func54 rfl rfl rfl rfl rfl (A3H m.fOpen.fCaps)) ?_
   refine B4 rfl (C7 (p:=.sem (SL (eI .u8) (H4 m.fOpen.fCaps))) rfl rfl rfl rfl) ?_
   refine D4 ?_
   refine C6 ?_
   refine B8 ?_
   refine B4 rfl (C2 (p:=.own 49 (List.length (α:=Int) ((([4] ++ (E4 y_21)) ++ (E4 m.fOpen.fHold)) ++ (E5 (IntKind.wrap .i64 m.fOpen.fID)))) (SL (eI .u8) ((([4] ++ (E4 y_21)) ++ (E4 m.fOpen.fHold)) ++ (E5 (IntKind.wrap .i64 m.fOpen.fID))))) rfl rfl rfl rfl) ?_
   refine B4 rfl (C2 (p:=.sem (SL (eI .u8) (H4 m.fOpen.fCaps))) rfl rfl rfl rfl) ?_
   refine B4 rfl (L6 rfl rfl rfl Tryz.underlying22 (E3 rfl)) ?_
   refine B4 rfl (G8 (m:=(IntKind.wrap .u8 ((H4 m.fOpen.fCaps).length:Int))) rfl rfl rfl Tryz.underlying3 Tryz.underlying5 rfl rfl) ?_
   refine B4 rfl (I4 (E:=(eI .u8)) (l:=[(IntKind.wrap .u8 ((H4 m.fOpen.fCaps).length:Int))]) (tp:=70) (parts:=[(0,.tmp 69)]) (qs:=[.sc (.int .u8 (IntKind.wrap .u8 ((H4 m.fOpen.fCaps).length:Int)))]) rfl rfl rfl N3 rfl rfl rfl rfl) ?_
   refine B4 rfl (K1 (E:=(eI .u8)) (l:=((([4] ++ (E4 y_21)) ++ (E4 m.fOpen.fHold)) ++ (E5 (IntKind.wrap .i64 m.fOpen.fID)))) (ext:=[(IntKind.wrap .u8 ((H4 m.fOpen.fCaps).length:Int))]) (tp:=49) rfl rfl rfl N3 rfl rfl (Q1 rfl) (by first | ((try simp only [zB,zC,zD,B7,A7,A6,C0,D8,E8,E9]); omega) | ((try simp only [z1,z2,z3,z4,z5,z6,z7,z8,z9,zA,zB,zC,zD,D2,C9,C4,C3,C5,B5,B6,B7,A7,A6,C0,D8,E8,E9] at *); omega))) ?_
   refine B4 rfl (C2 (p:=.sem (SL (eI .u8) (H4 m.fOpen.fCaps))) rfl rfl rfl rfl) ?_
   refine B4 rfl (K1 (E:=(eI .u8)) (l:=(((([4] ++ (E4 y_21)) ++ (E4 m.fOpen.fHold)) ++ (E5 (IntKind.wrap .i64 m.fOpen.fID))) ++ [(IntKind.wrap .u8 ((H4 m.fOpen.fCaps).length:Int))])) (ext:=(H4 m.fOpen.fCaps)) (tp:=49) rfl rfl rfl N3 rfl rfl (E3 rfl) (by first | ((try simp only [zB,zC,zD,B7,A7,A6,C0,D8,E8,E9]); omega) | ((try simp only [z1,z2,z3,z4,z5,z6,z7,z8,z9,zA,zB,zC,zD,D2,C9,C4,C3,C5,B5,B6,B7,A7,A6,C0,D8,E8,E9] at *); omega))) ?_
   refine B4 rfl (C7 (p:=.own 49 (List.length (α:=Int) ((((([4] ++ (E4 y_21)) ++ (E4 m.fOpen.fHold)) ++ (E5 (IntKind.wrap .i64 m.fOpen.fID))) ++ [(IntKind.wrap .u8 ((H4 m.fOpen.fCaps).length:Int))]) ++ (H4 m.fOpen.fCaps))) (SL (eI .u8) ((((([4] ++ (E4 y_21)) ++ (E4 m.fOpen.fHold)) ++ (E5 (IntKind.wrap .i64 m.fOpen.fID))) ++ [(IntKind.wrap .u8 ((H4 m.fOpen.fCaps).length:Int))]) ++ (H4 m.fOpen.fCaps)))) rfl rfl rfl rfl) ?_
   refine B4 rfl (C7 (p:=.sc (.bool true)) rfl rfl rfl rfl) ?_
   refine D4 ?_
   refine G2 ?_
   exact F7 (F:=(fun (z:(List Int) × Bool)=>⟨[],[],.tup [.sem (SL (eI .u8) z.1),.sc (.bool z.2)]⟩)) (z:=(D7 m)) (v:=(((((([4] ++ (E4 y_21)) ++ (E4 m.fOpen.fHold)) ++ (E5 (IntKind.wrap .i64 m.fOpen.fID))) ++ [(IntKind.wrap .u8 ((H4 m.fOpen.fCaps).length:Int))]) ++ (H4 m.fOpen.fCaps)),true)) (bF k20 (mB e21 rfl)) rfl (.two (.tmp 2 (.sem (SL (eI .u8) ((((([4] ++ (E4 y_21)) ++ (E4 m.fOpen.fHold)) ++ (E5 (IntKind.wrap .i64 m.fOpen.fID))) ++ [(IntKind.wrap .u8 ((H4 m.fOpen.fCaps).length:Int))]) ++ (H4 m.fOpen.fCaps)))) rfl) (.one (.rfl _)) rfl (.tmp 3 (.sc (.bool true)) rfl) (.one (.rfl _)) rfl) trivial trivial
theorem A2N (m:A8) (h1:decide ((m.fKind:Int)=1)=true):PF Tryz.prog 33 [.agg (A8.cells m)] (.tup [.sem (SL (eI .u8) ((D7 m).1)),.sc (.bool ((D7 m).2))]):=M1 (A1O m h1) rfl
theorem A5N (v:Int):gdL (okI .u8) (E4 v):=S6 (R2 _) (S6 (R2 _) R9)
theorem A1W (m:A8):(D7 m).1.length ≤ 100:=by
 have h:=A2O m.fOpen.fCaps
 unfold D7
 cases (((((decide ((m.fOpen.fAS:Int) < 1)) || (decide ((4294967295:Int) < m.fOpen.fAS))) || (decide ((m.fOpen.fHold:Int) < 0))) || (decide ((65535:Int) < m.fOpen.fHold))) || (!(G7 m.fOpen.fCaps))) with
 | true=>simp
 | false =>
  simp only [cond_false,thn,List.length_append,E9,A6,List.length_cons,List.length_nil]
  omega
theorem A7v (m:A8):gdL (okI .u8) (D7 m).1:=by
 unfold D7
 cases (((((decide ((m.fOpen.fAS:Int) < 1)) || (decide ((4294967295:Int) < m.fOpen.fAS))) || (decide ((m.fOpen.fHold:Int) < 0))) || (decide ((65535:Int) < m.fOpen.fHold))) || (!(G7 m.fOpen.fCaps))) with
 | true=>exact R9
 | false =>
  simp only [cond_false,thn]
  refine T4 (T4 (T4 (T4 (T4 ?_ (A5N _)) (A5N _)) (A1q _)) ?_) (A3T _)
  ·exact S6 (A0o.2 (by decide)) R9
  ·exact S6 (R2 _) R9
def M8 (m:A8):Nat → List Int → Int → (List Int) × Int
 | 0,_,_=>default
 | n0 + 1,out_0,i_0 =>
  (bif decide ((i_0:Int) < 16) then
   M8 m n0 (out_0 ++ [255]) (IntKind.wrap .i64 (i_0 + 1))
  else
   (out_0,i_0))
def A2 (m:A8):List Int:=
 (bif (!((D7 m).2)) || (decide ((4077:Int) < (((D7 m).1).length:Int))) then
  []
 else
  (thn (M8 m (((16:Int) - 0).toNat + 1) ([]:List Int) 0) fun (x_0:(List Int) × Int) =>
   (((x_0.1 ++ (E4 (IntKind.wrap .i64 (19 + (((D7 m).1).length:Int))))) ++ [(IntKind.wrap .u8 m.fKind)]) ++ (D7 m).1)))
theorem X0 (m:A8):M8 m (((16:Int) - 0).toNat + 1) ([]:List Int) 0=([255,255,255,255,255,255,255,255,255,255,255,255,255,255,255,255],16):=by kernel_rfl
set_option maxRecDepth 100000 in
set_option maxHeartbeats 4000000 in
theorem A0p (m:A8) (h1:decide ((m.fKind:Int)=1)=true):PG Tryz.prog 17 [] [] [.agg (A8.cells m)] (fun _:Unit=>True) (fun _=>(fun (z:List Int)=>⟨[],[],.sem (SL (eI .u8) z)⟩) (A2 m)):=by
 refine M4 (N:=40) (l:=[.tmp 2]) Tryz.func17 rfl rfl rfl (Nat.le_of_ble_eq_true rfl) fun w0 i0 F βs=>?_
 refine L4 0 13 rfl rfl (fun hl1=>?_)
 refine L4 0 15 rfl rfl (fun hl2=>?_)
 refine L4 0 19 rfl rfl (fun hl3=>?_)
 refine L4 0 20 rfl rfl (fun hl4=>?_)
 refine L4 0 21 rfl rfl (fun hl5=>?_)
 refine L4 0 24 rfl rfl (fun hl6=>?_)
 refine C6 ?_
 refine B8 ?_
 refine B4 rfl (q9 (s:=1) (p:=.agg (A8.cells m)) (qs:=(A8.cells m)) rfl rfl rfl rfl rfl rfl rfl) ?_
 refine B4 rfl (C7 (p:=.sc (.slice none 0 0)) rfl rfl rfl rfl) ?_
 refine D4 ?_
 refine C6 ?_
 refine B8 ?_
 refine B4 rfl (F4 (s:=1) (off:=0) (ps:=(A8.cells m)) (p:=.agg (A8.cells m)) rfl rfl rfl X7 rfl rfl rfl rfl rfl) ?_
 have hm7:=A1W m
 refine B4 rfl (I1 (fn:=Tryz.f33) (xs:=[.tmp 8]) (args:=[.agg (A8.cells m)]) (r:=.tup [.sem (SL (eI .u8) ((D7 m).1)),.sc (.bool ((D7 m).2))]) rfl rfl rfl Tryz.func33 rfl rfl rfl rfl rfl (A2N m (by first | assumption | rfl))) ?_
 refine B4 rfl (C2 (p:=.tup [.sem (SL (eI .u8) ((D7 m).1)),.sc (.bool ((D7 m).2))]) rfl rfl rfl rfl) ?_
 refine B4 rfl (I2 (ps:=[.sem (SL (eI .u8) ((D7 m).1)),.sc (.bool ((D7 m).2))]) (p:=.sem (SL (eI .u8) ((D7 m).1))) rfl rfl rfl rfl rfl) ?_
 refine B4 rfl (I2 (ps:=[.sem (SL (eI .u8) ((D7 m).1)),.sc (.bool ((D7 m).2))]) (p:=.sc (.bool ((D7 m).2))) rfl rfl rfl rfl rfl) ?_
 refine B4 rfl (C7 (p:=.sem (SL (eI .u8) ((D7 m).1))) rfl rfl rfl rfl) ?_
 refine B4 rfl (C7 (p:=.sc (.bool ((D7 m).2))) rfl rfl rfl rfl) ?_
 refine D4 ?_
 refine C6 ?_
 refine C6 ?_
 refine B8 ?_
 refine B4 rfl (C2 (p:=.sc (.bool ((D7 m).2))) rfl rfl rfl rfl) ?_
 refine B4 rfl (X4 (u:=.bool ((D7 m).2)) (v:=.bool (!((D7 m).2))) rfl rfl rfl rfl (fun _=>rfl)) ?_
 refine B4 rfl (C2 (p:=.sc (.bool (!((D7 m).2)))) rfl rfl rfl rfl) ?_
 refine E0 (C:=(D7 m).2) (p:=.sem (SL (eI .u8) ((D7 m).1))) (H8 (b:=!((D7 m).2)) (c:=(D7 m).2) rfl rfl rfl rfl rfl (Bool.not_not _)) rfl rfl (fun g8=>C2 (p:=.sem (SL (eI .u8) ((D7 m).1))) rfl rfl rfl rfl) ?_
 refine E0 (C:=(D7 m).2) (p:=.sc (.int .i64 (((D7 m).1).length:Int))) (H8 (b:=!((D7 m).2)) (c:=(D7 m).2) rfl rfl rfl rfl rfl (Bool.not_not _)) rfl rfl (fun g9=>L6 rfl rfl rfl Tryz.underlying22 (by exact (E3 (by exact (gt (p:=.sem (SL (eI .u8) ((D7 m).1))) (q:=.sc undef) g9))))) ?_
 refine E0 (C:=(D7 m).2) (p:=.sc (.bool (decide ((4077:Int) < (((D7 m).1).length:Int))))) (H8 (b:=!((D7 m).2)) (c:=(D7 m).2) rfl rfl rfl rfl rfl (Bool.not_not _)) rfl rfl (fun g10=>E6 (u1:=.int .i64 (((D7 m).1).length:Int)) (u2:=.int .i64 4077) (v:=.bool (decide ((4077:Int) < (((D7 m).1).length:Int)))) rfl rfl rfl (gt (p:=.sc (.int .i64 (((D7 m).1).length:Int))) (q:=.sc undef) g10) rfl (fun _=>rfl)) ?_
 refine B4 rfl (N5 (b:=!((D7 m).2)) (y:=decide ((4077:Int) < (((D7 m).1).length:Int))) rfl rfl rfl rfl rfl (Bool.not_not _)) ?_
 refine D4 ?_
 refine F6 (b:=(!((D7 m).2)) || (decide ((4077:Int) < (((D7 m).1).length:Int)))) rfl (fun k11=>?_) (fun k11=>?_)
 ·skip
  refine C6 ?_
  refine B8 ?_
  refine B4 rfl (C7 (p:=.sc (.slice none 0 0)) rfl rfl rfl rfl) ?_
  refine D4 ?_
  refine G2 ?_
  exact F7 (F:=(fun (z:List Int)=>⟨[],[],.sem (SL (eI .u8) z)⟩)) (z:=(A2 m)) (v:=[]) (bT k11 rfl) rfl (.one (.tmp 2 (.sc (.slice none 0 0)) rfl) (.one (.nil _)) rfl) trivial trivial
 ·skip
  refine F9 ?_
  refine C6 ?_
  refine B8 ?_
  refine B4 rfl (C7 (p:=.sc (.slice none 0 0)) rfl rfl rfl rfl) ?_
  refine D4 ?_
  refine C6 ?_
  refine C6 ?_
  refine B8 ?_
  refine B4 rfl (C7 (p:=.sc (.int .i64 0)) rfl rfl rfl rfl) ?_
  refine D4 ?_
  refine V4 (ι:=(List Int) × Int) (p:=fun x_0=>(M8 m (((16:Int) - 0).toNat + 1) ([]:List Int) 0)=x_0) (S:=fun x_0=>St.of 40 [(0,.agg (A8.cells m)),(1,.loc 1 0),(2,.sc (.slice none 0 0)),(3,.sem (SL (eI .u8) ((D7 m).1))),(4,.sc (.bool ((D7 m).2))),(5,.own 4005 x_0.1.length (SL (eI .u8) x_0.1)),(6,.sc (.int .i64 x_0.2))] [(1,(A8.cells m))] [(4005,(1,x_0.1.length))]) (by first | exact V3 | exact X8 | exact Y3 | exact Y0) ?_ (fun x_0 e12=>?_)
  ·skip
   refine H6 ?_
   refine W0 (E:=(eI .u8)) (d:=5) (tp:=4005) rfl ?_
   refine R3 (ι:=Nat × (List Int) × Int) (S:=fun i=>St.of 40 [(0,.agg (A8.cells m)),(1,.loc 1 0),(2,.sc (.slice none 0 0)),(3,.sem (SL (eI .u8) ((D7 m).1))),(4,.sc (.bool ((D7 m).2))),(5,.own 4005 i.2.1.length (SL (eI .u8) i.2.1)),(6,.sc (.int .i64 i.2.2))] [(1,(A8.cells m))] [(4005,(1,i.2.1.length))]) (J:=fun i=>M8 m i.1 i.2.1 i.2.2=(M8 m (((16:Int) - 0).toNat + 1) ([]:List Int) 0) ∧ (((16:Int) - i.2.2).toNat < i.1) ∧ ((i.2.1.length:Int)=i.2.2) ∧ (i.2.2 ≤ 16) ∧ (0 ≤ i.2.2) ∧ (gdL (okI .u8) i.2.1)) (μ:=fun i=>i.1) (i₀:=((((16:Int) - 0).toNat + 1),([]:List Int),0)) (G9 rfl ⟨⟨rfl,(.agg (.cons (.rfl _) (.cons (.rfl _) (.cons (.rfl _) (.cons (.rfl _) (.cons (.rfl _) (.cons (.rfl _) (.cons (.rfl _) (.cons (.rfl _) (.cons (.rfl _) (.cons (.rfl _) (.cons (.rfl _) (.cons (.rfl _) (.cons (.rfl _) (.cons (.rfl _) (.cons (.rfl _) (.cons (.rfl _) (.cons (.rfl _) (.cons (.rfl _) (.cons (.rfl _) (.cons (.rfl _) (.cons (.rfl _) (.cons (.rfl _) (.cons (.rfl _) (.cons (.rfl _) (.cons (.rfl _) .nil))))))))))))))))))))))))))⟩,⟨⟨rfl,(.one (.rfl _))⟩,⟨⟨rfl,(.one (.rfl _))⟩,⟨⟨rfl,(.one (.rfl _))⟩,⟨⟨rfl,(.one (.rfl _))⟩,⟨⟨rfl,(.one (.rfl _))⟩,⟨⟨rfl,(.one (.rfl _))⟩,trivial⟩⟩⟩⟩⟩⟩⟩ ⟨⟨(A8.cells m),rfl,(.cons (.rfl _) (.cons (.rfl _) (.cons (.rfl _) (.cons (.rfl _) (.cons (.rfl _) (.cons (.rfl _) (.cons (.rfl _) (.cons (.rfl _) (.cons (.rfl _) (.cons (.rfl _) (.cons (.rfl _) (.cons (.rfl _) (.cons (.rfl _) (.cons (.rfl _) (.cons (.rfl _) (.cons (.rfl _) (.cons (.rfl _) (.cons (.rfl _) (.cons (.rfl _) (.cons (.rfl _) (.cons (.rfl _) (.cons (.rfl _) (.cons (.rfl _) (.cons (.rfl _) (.cons (.rfl _) .nil)))))))))))))))))))))))))⟩,trivial⟩ ⟨rfl,trivial⟩) ⟨rfl,(by first | omega | ((try simp only [z1,z2,z3,z4,z5,z6,z7,z8,z9,zA,zB,zC,zD,D2,C9,C4,C3,C5,B5,B6,B7,A7,A6,C0,D8,E8,E9] at *); omega) | ((try simp only [z1,z2,z3,z4,z5,z6,z7,z8,z9,zA,B5,B6,B7,A7,A6,C0,D8,E8,E9] at *); (try simp (disch:=omega) only [C8]); (try simp only [z1,z2,z3,z4,z5,z6,z7,z8,z9,zA,zB,zC,zD,D2,C9,C4,C3,C5,B5,B6,B7] at *); omega)),(by first | omega | ((try simp only [z1,z2,z3,z4,z5,z6,z7,z8,z9,zA,zB,zC,zD,D2,C9,C4,C3,C5,B5,B6,B7,A7,A6,C0,D8,E8,E9] at *); omega) | ((try simp only [z1,z2,z3,z4,z5,z6,z7,z8,z9,zA,B5,B6,B7,A7,A6,C0,D8,E8,E9] at *); (try simp (disch:=omega) only [C8]); (try simp only [z1,z2,z3,z4,z5,z6,z7,z8,z9,zA,zB,zC,zD,D2,C9,C4,C3,C5,B5,B6,B7] at *); omega)),(by first | omega | ((try simp only [z1,z2,z3,z4,z5,z6,z7,z8,z9,zA,zB,zC,zD,D2,C9,C4,C3,C5,B5,B6,B7,A7,A6,C0,D8,E8,E9] at *); omega) | ((try simp only [z1,z2,z3,z4,z5,z6,z7,z8,z9,zA,B5,B6,B7,A7,A6,C0,D8,E8,E9] at *); (try simp (disch:=omega) only [C8]); (try simp only [z1,z2,z3,z4,z5,z6,z7,z8,z9,zA,zB,zC,zD,D2,C9,C4,C3,C5,B5,B6,B7] at *); omega)),(by first | omega | ((try simp only [z1,z2,z3,z4,z5,z6,z7,z8,z9,zA,zB,zC,zD,D2,C9,C4,C3,C5,B5,B6,B7,A7,A6,C0,D8,E8,E9] at *); omega) | ((try simp only [z1,z2,z3,z4,z5,z6,z7,z8,z9,zA,B5,B6,B7,A7,A6,C0,D8,E8,E9] at *); (try simp (disch:=omega) only [C8]); (try simp only [z1,z2,z3,z4,z5,z6,z7,z8,z9,zA,zB,zC,zD,D2,C9,C4,C3,C5,B5,B6,B7] at *); omega)),R9⟩ ?_
   rintro ⟨n0,out_0,i_0⟩ ⟨hJ0,hm0_0,hm0_1,hm0_2,hm0_3,ok_out_0⟩
   obtain ⟨n0,rfl⟩:∃ m,n0=m + 1:=⟨n0 - 1,by have:0 < n0:=Nat.lt_of_le_of_lt (Nat.zero_le _) hm0_0; omega⟩
   replace hJ0:M8 m (n0 + 1) out_0 i_0=(M8 m (((16:Int) - 0).toNat + 1) ([]:List Int) 0):=hJ0
   replace hm0_0:((16:Int) - i_0).toNat < n0 + 1:=hm0_0
   replace hm0_1:(out_0.length:Int)=i_0:=hm0_1
   replace hm0_2:i_0 ≤ 16:=hm0_2
   replace hm0_3:0 ≤ i_0:=hm0_3
   replace ok_out_0:gdL (okI .u8) out_0:=ok_out_0
   refine L4 0 13 rfl rfl (fun hl13=>?_)
   refine L4 0 15 rfl rfl (fun hl14=>?_)
   refine L4 0 19 rfl rfl (fun hl15=>?_)
   refine L4 0 20 rfl rfl (fun hl16=>?_)
   refine L4 0 21 rfl rfl (fun hl17=>?_)
   refine L4 0 24 rfl rfl (fun hl18=>?_)
   refine H5 3 rfl (fun hl19=>?_)
   refine P8 5 rfl (fun hl20=>?_)
   refine C6 ?_
   refine C6 ?_
   refine B8 ?_
   refine B4 rfl (C2 (p:=.sc (.int .i64 i_0)) rfl rfl rfl rfl) ?_
   refine B4 rfl (E6 (u1:=.int .i64 i_0) (u2:=.int .i64 16) (v:=.bool (decide ((i_0:Int) < 16))) rfl rfl rfl rfl rfl (fun _=>rfl)) ?_
   refine D4 ?_
   refine F6 (b:=decide ((i_0:Int) < 16)) rfl (fun k21=>?_) (fun k21=>?_)
   ·skip
    refine F9 ?_
    refine C6 ?_
    refine H6 ?_
    refine B8 ?_
    refine B4 rfl (C2 (p:=.own 4005 out_0.length (SL (eI .u8) out_0)) rfl rfl rfl rfl) ?_
    refine B4 rfl (I4 (E:=(eI .u8)) (l:=[255]) (tp:=24) (parts:=[(0,.const (.int .u8 255))]) (qs:=[.sc (.int .u8 255)]) rfl rfl rfl N3 rfl rfl rfl rfl) ?_
    refine B4 rfl (K1 (E:=(eI .u8)) (l:=out_0) (ext:=[255]) (tp:=4005) rfl rfl rfl N3 rfl rfl (Q1 rfl) (by first | ((try simp only [zB,zC,zD,B7,A7,A6,C0,D8,E8,E9]); omega) | ((try simp only [z1,z2,z3,z4,z5,z6,z7,z8,z9,zA,zB,zC,zD,D2,C9,C4,C3,C5,B5,B6,B7,A7,A6,C0,D8,E8,E9] at *); omega))) ?_
    refine B4 rfl (C7 (p:=.own 4005 (List.length (α:=Int) (out_0 ++ [255])) (SL (eI .u8) (out_0 ++ [255]))) rfl rfl rfl rfl) ?_
    refine D4 ?_
    refine B8 ?_
    refine B4 rfl (C2 (p:=.sc (.int .i64 i_0)) rfl rfl rfl rfl) ?_
    refine B4 rfl (E6 (u1:=.int .i64 i_0) (u2:=.int .i64 1) (v:=.int .i64 (IntKind.wrap .i64 (i_0 + 1))) rfl rfl rfl rfl rfl (fun _=>rfl)) ?_
    refine B4 rfl (C7 (p:=.sc (.int .i64 (IntKind.wrap .i64 (i_0 + 1)))) rfl rfl rfl rfl) ?_
    refine D4 ?_
    exact ⟨(n0,(out_0 ++ [255]),(IntKind.wrap .i64 (i_0 + 1))),(G9 rfl ⟨⟨rfl,(.agg (.cons (.rfl _) (.cons (.rfl _) (.cons (.rfl _) (.cons (.rfl _) (.cons (.rfl _) (.cons (.rfl _) (.cons (.rfl _) (.cons (.rfl _) (.cons (.rfl _) (.cons (.rfl _) (.cons (.rfl _) (.cons (.rfl _) (.cons (.rfl _) (.cons (.rfl _) (.cons (.rfl _) (.cons (.rfl _) (.cons (.rfl _) (.cons (.rfl _) (.cons (.rfl _) (.cons (.rfl _) (.cons (.rfl _) (.cons (.rfl _) (.cons (.rfl _) (.cons (.rfl _) (.cons (.rfl _) .nil))))))))))))))))))))))))))⟩,⟨⟨rfl,(.one (.rfl _))⟩,⟨⟨rfl,(.one (.rfl _))⟩,⟨⟨rfl,(.one (.rfl _))⟩,⟨⟨rfl,(.one (.rfl _))⟩,⟨⟨rfl,(.one (.rfl _))⟩,⟨⟨rfl,(.one (.rfl _))⟩,trivial⟩⟩⟩⟩⟩⟩⟩ ⟨⟨(A8.cells m),rfl,(.cons (.rfl _) (.cons (.rfl _) (.cons (.rfl _) (.cons (.rfl _) (.cons (.rfl _) (.cons (.rfl _) (.cons (.rfl _) (.cons (.rfl _) (.cons (.rfl _) (.cons (.rfl _) (.cons (.rfl _) (.cons (.rfl _) (.cons (.rfl _) (.cons (.rfl _) (.cons (.rfl _) (.cons (.rfl _) (.cons (.rfl _) (.cons (.rfl _) (.cons (.rfl _) (.cons (.rfl _) (.cons (.rfl _) (.cons (.rfl _) (.cons (.rfl _) (.cons (.rfl _) (.cons (.rfl _) .nil)))))))))))))))))))))))))⟩,trivial⟩ ⟨rfl,trivial⟩),⟨Eq.trans (Eq.symm (bT k21 rfl)) hJ0,(by first | omega | ((try simp only [z1,z2,z3,z4,z5,z6,z7,z8,z9,zA,zB,zC,zD,D2,C9,C4,C3,C5,B5,B6,B7,A7,A6,C0,D8,E8,E9] at *); omega) | ((try simp only [z1,z2,z3,z4,z5,z6,z7,z8,z9,zA,B5,B6,B7,A7,A6,C0,D8,E8,E9] at *); (try simp (disch:=omega) only [C8]); (try simp only [z1,z2,z3,z4,z5,z6,z7,z8,z9,zA,zB,zC,zD,D2,C9,C4,C3,C5,B5,B6,B7] at *); omega)),(by first | omega | ((try simp only [z1,z2,z3,z4,z5,z6,z7,z8,z9,zA,zB,zC,zD,D2,C9,C4,C3,C5,B5,B6,B7,A7,A6,C0,D8,E8,E9] at *); omega) | ((try simp only [z1,z2,z3,z4,z5,z6,z7,z8,z9,zA,B5,B6,B7,A7,A6,C0,D8,E8,E9] at *); (try simp (disch:=omega) only [C8]); (try simp only [z1,z2,z3,z4,z5,z6,z7,z8,z9,zA,zB,zC,zD,D2,C9,C4,C3,C5,B5,B6,B7] at *); omega)),(by first | omega | ((try simp only [z1,z2,z3,z4,z5,z6,z7,z8,z9,zA,zB,zC,zD,D2,C9,C4,C3,C5,B5,B6,B7,A7,A6,C0,D8,E8,E9] at *); omega) | ((try simp only [z1,z2,z3,z4,z5,z6,z7,z8,z9,zA,B5,B6,B7,A7,A6,C0,D8,E8,E9] at *); (try simp (disch:=omega) only [C8]); (try simp only [z1,z2,z3,z4,z5,z6,z7,z8,z9,zA,zB,zC,zD,D2,C9,C4,C3,C5,B5,B6,B7] at *); omega)),(by first | omega | ((try simp only [z1,z2,z3,z4,z5,z6,z7,z8,z9,zA,zB,zC,zD,D2,C9,C4,C3,C5,B5,B6,B7,A7,A6,C0,D8,E8,E9] at *); omega) | ((try simp only [z1,z2,z3,z4,z5,z6,z7,z8,z9,zA,B5,B6,B7,A7,A6,C0,D8,E8,E9] at *); (try simp (disch:=omega) only [C8]); (try simp only [z1,z2,z3,z4,z5,z6,z7,z8,z9,zA,zB,zC,zD,D2,C9,C4,C3,C5,B5,B6,B7] at *); omega)),(T4 ok_out_0 (S6 (A0o.2 (by decide)) R9))⟩,Nat.lt_succ_self _⟩
   ·skip
    refine S8 ?_
    exact ⟨(out_0,i_0),hJ0.symm.trans (bF k21 rfl),(G9 rfl ⟨⟨rfl,(.agg (.cons (.rfl _) (.cons (.rfl _) (.cons (.rfl _) (.cons (.rfl _) (.cons (.rfl _) (.cons (.rfl _) (.cons (.rfl _) (.cons (.rfl _) (.cons (.rfl _) (.cons (.rfl _) (.cons (.rfl _) (.cons (.rfl _) (.cons (.rfl _) (.cons (.rfl _) (.cons (.rfl _) (.cons (.rfl _) (.cons (.rfl _) (.cons (.rfl _) (.cons (.rfl _) (.cons (.rfl _) (.cons (.rfl _) (.cons (.rfl _) (.cons (.rfl _) (.cons (.rfl _) (.cons (.rfl _) .nil))))))))))))))))))))))))))⟩,⟨⟨rfl,(.one (.rfl _))⟩,⟨⟨rfl,(.one (.rfl _))⟩,⟨⟨rfl,(.one (.rfl _))⟩,⟨⟨rfl,(.one (.rfl _))⟩,⟨⟨rfl,(.one (.rfl _))⟩,⟨⟨rfl,(.one (.rfl _))⟩,trivial⟩⟩⟩⟩⟩⟩⟩ ⟨⟨(A8.cells m),rfl,(.cons (.rfl _) (.cons (.rfl _) (.cons (.rfl _) (.cons (.rfl _) (.cons (.rfl _) (.cons (.rfl _) (.cons (.rfl _) (.cons (.rfl _) (.cons (.rfl _) (.cons (.rfl _) (.cons (.rfl _) (.cons (.rfl _) (.cons (.rfl _) (.cons (.rfl _) (.cons (.rfl _) (.cons (.rfl _) (.cons (.rfl _) (.cons (.rfl _) (.cons (.rfl _) (.cons (.rfl _) (.cons (.rfl _) (.cons (.rfl _) (.cons (.rfl _) (.cons (.rfl _) (.cons (.rfl _) .nil)))))))))))))))))))))))))⟩,trivial⟩ ⟨rfl,trivial⟩)⟩
  ·skip
   refine L4 0 13 rfl rfl (fun hl22=>?_)
   refine L4 0 15 rfl rfl (fun hl23=>?_)
   refine L4 0 19 rfl rfl (fun hl24=>?_)
   refine L4 0 20 rfl rfl (fun hl25=>?_)
   refine L4 0 21 rfl rfl (fun hl26=>?_)
   refine L4 0 24 rfl rfl (fun hl27=>?_)
   refine H5 3 rfl (fun hl28=>?_)
   refine P8 5 rfl (fun hl29=>?_)
   have hxl:x_0.1.length=16:=by rw [← e12,X0]; rfl
   refine C6 ?_
   refine S9 (ds:=[some 26,some 27,some 28,some 29,some 30,some 31,some 32,some 33,some 34,some 35,some 36,some 5]) (ks:=[5,10]) (ps:=[.own 4005 x_0.1.length (SL (eI .u8) x_0.1),.sem (SL (eI .u8) ((D7 m).1)),.sc (.int .i64 (((D7 m).1).length:Int)),.sc (.int .i64 (IntKind.wrap .i64 (19 + (((D7 m).1).length:Int)))),.sem (SL (eI .u8) (E4 (IntKind.wrap .i64 (19 + (((D7 m).1).length:Int))))),.any,.loc 1 0,.sc (.int .i64 m.fKind),.sc (.int .u8 (IntKind.wrap .u8 m.fKind)),.sem (SL (eI .u8) [(IntKind.wrap .u8 m.fKind)]),.any,.any]) rfl (by kernel_rfl) rfl rfl ?_
   refine R4 (d:=31) (q:=.own 4005 (List.length (α:=Int) (x_0.1 ++ (E4 (IntKind.wrap .i64 (19 + (((D7 m).1).length:Int)))))) (SL (eI .u8) (x_0.1 ++ (E4 (IntKind.wrap .i64 (19 + (((D7 m).1).length:Int))))))) (tp:=4005) (x:=some (1,(List.length (α:=Int) (x_0.1 ++ (E4 (IntKind.wrap .i64 (19 + (((D7 m).1).length:Int)))))))) (k:=5) (qs:=[.own 4005 x_0.1.length (SL (eI .u8) x_0.1),.sem (SL (eI .u8) ((D7 m).1)),.sc (.int .i64 (((D7 m).1).length:Int)),.sc (.int .i64 (IntKind.wrap .i64 (19 + (((D7 m).1).length:Int)))),.sem (SL (eI .u8) (E4 (IntKind.wrap .i64 (19 + (((D7 m).1).length:Int))))),.own 4005 (List.length (α:=Int) (x_0.1 ++ (E4 (IntKind.wrap .i64 (19 + (((D7 m).1).length:Int)))))) (SL (eI .u8) (x_0.1 ++ (E4 (IntKind.wrap .i64 (19 + (((D7 m).1).length:Int)))))),.loc 1 0,.sc (.int .i64 m.fKind),.sc (.int .u8 (IntKind.wrap .u8 m.fKind)),.sem (SL (eI .u8) [(IntKind.wrap .u8 m.fKind)]),.any,.any]) [0,1,2,3,4,6,7,8,9] [true,true,true,true,true,false,true,true,true,true,false,false] (by kernel_rfl) (by kernel_rfl) rfl rfl rfl (by kernel_rfl) rfl rfl rfl rfl rfl ?_ (fun bD hc hi hd=>by exact K1 (E:=(eI .u8)) (l:=x_0.1) (ext:=(E4 (IntKind.wrap .i64 (19 + (((D7 m).1).length:Int))))) (tp:=4005) rfl rfl rfl N3 (gt (p:=.own 4005 x_0.1.length (SL (eI .u8) x_0.1)) (q:=.any) (hd 0 (by decide))) rfl (by exact (E3 (by exact (gt (p:=.sem (SL (eI .u8) (E4 (IntKind.wrap .i64 (19 + (((D7 m).1).length:Int)))))) (q:=.any) (hd 4 (by decide)))))) (by first | ((try simp only [zB,zC,zD,B7,A7,A6,C0,D8,E8,E9]); omega) | ((try simp only [z1,z2,z3,z4,z5,z6,z7,z8,z9,zA,zB,zC,zD,D2,C9,C4,C3,C5,B5,B6,B7,A7,A6,C0,D8,E8,E9] at *); omega))) ?_
   ·refine fc ?_ (fc ?_ (fc ?_ (fc ?_ (fc ?_ (fc ?_ (fc ?_ (fc ?_ (fc ?_ (fn')))))))))
    ·exact E7 (i:=0) (q:=.own 4005 x_0.1.length (SL (eI .u8) x_0.1)) rfl rfl rfl (fun bD hc hi hd=>C1 rfl (C2 (p:=.own 4005 x_0.1.length (SL (eI .u8) x_0.1)) rfl rfl rfl (gf (q:=.own 4005 x_0.1.length (SL (eI .u8) x_0.1)) (S5 (j:=11) hc hi (by kernel_rfl)))))
    ·exact E7 (i:=1) (q:=.sem (SL (eI .u8) ((D7 m).1))) rfl rfl rfl (fun bD hc hi hd=>C1 rfl (C2 (p:=.sem (SL (eI .u8) ((D7 m).1))) rfl rfl rfl rfl))
    ·exact E7 (i:=2) (q:=.sc (.int .i64 (((D7 m).1).length:Int))) rfl rfl rfl (fun bD hc hi hd=>C1 rfl (L6 rfl rfl rfl Tryz.underlying22 (by exact (E3 (by exact (gt (p:=.sem (SL (eI .u8) ((D7 m).1))) (q:=.any) (hd 1 (by decide))))))))
    ·exact E7 (i:=3) (q:=.sc (.int .i64 (IntKind.wrap .i64 (19 + (((D7 m).1).length:Int))))) rfl rfl rfl (fun bD hc hi hd=>C1 rfl (E6 (u1:=.int .i64 19) (u2:=.int .i64 (((D7 m).1).length:Int)) (v:=.int .i64 (IntKind.wrap .i64 (19 + (((D7 m).1).length:Int)))) rfl rfl rfl rfl (gt (p:=.sc (.int .i64 (((D7 m).1).length:Int))) (q:=.any) (hd 2 (by decide))) (fun _=>rfl)))
    ·exact E7 (i:=4) (q:=.sem (SL (eI .u8) (E4 (IntKind.wrap .i64 (19 + (((D7 m).1).length:Int)))))) rfl rfl rfl (fun bD hc hi hd=>C1 rfl (I1 (fn:=Tryz.f34) (xs:=[.tmp 29]) (args:=[.sc (.int .i64 (IntKind.wrap .i64 (19 + (((D7 m).1).length:Int))))]) (r:=.sem (SL (eI .u8) (E4 (IntKind.wrap .i64 (19 + (((D7 m).1).length:Int)))))) rfl rfl rfl Tryz.func34 rfl rfl (T9 (b0:=.sc (.int .i64 (IntKind.wrap .i64 (19 + (((D7 m).1).length:Int))))) (gt (p:=.sc (.int .i64 (IntKind.wrap .i64 (19 + (((D7 m).1).length:Int))))) (q:=.any) (hd 3 (by decide)))) rfl rfl (Y2 (IntKind.wrap .i64 (19 + (((D7 m).1).length:Int))))))
    ·exact E7 (i:=6) (q:=.loc 1 0) rfl rfl rfl (fun bD hc hi hd=>C1 rfl (D3 (b:=1) (k:=0) (m:=0) rfl rfl rfl X5 rfl rfl))
    ·exact E7 (i:=7) (q:=.sc (.int .i64 m.fKind)) rfl rfl rfl (fun bD hc hi hd=>C1 rfl (F4 (s:=1) (off:=0) (ps:=(A8.cells m)) (p:=.sc (.int .i64 m.fKind)) rfl rfl rfl ty3 (gt (p:=.loc 1 0) (q:=.any) (hd 6 (by decide))) rfl rfl rfl rfl))
    ·exact E7 (i:=8) (q:=.sc (.int .u8 (IntKind.wrap .u8 m.fKind))) rfl rfl rfl (fun bD hc hi hd=>C1 rfl (G8 (m:=(IntKind.wrap .u8 m.fKind)) rfl rfl rfl Tryz.underlying3 Tryz.underlying5 (gt (p:=.sc (.int .i64 m.fKind)) (q:=.any) (hd 7 (by decide))) rfl))
    ·exact E7 (i:=9) (q:=.sem (SL (eI .u8) [(IntKind.wrap .u8 m.fKind)])) rfl rfl rfl (fun bD hc hi hd=>C1 rfl (l3 (E:=(eI .u8)) (l:=[(IntKind.wrap .u8 m.fKind)]) (parts:=[(0,.tmp 34)]) (pps:=[(0,.sc (.int .u8 (IntKind.wrap .u8 m.fKind)))]) (qs:=[.sc (.int .u8 (IntKind.wrap .u8 m.fKind))]) rfl rfl rfl N3 rfl rfl (A3y (b0:=.sc (.int .u8 (IntKind.wrap .u8 m.fKind))) (gt (p:=.sc (.int .u8 (IntKind.wrap .u8 m.fKind))) (q:=.any) (hd 8 (by decide)))) rfl rfl))
   refine R4 (d:=36) (q:=.own 4005 (List.length (α:=Int) ((x_0.1 ++ (E4 (IntKind.wrap .i64 (19 + (((D7 m).1).length:Int))))) ++ [(IntKind.wrap .u8 m.fKind)])) (SL (eI .u8) ((x_0.1 ++ (E4 (IntKind.wrap .i64 (19 + (((D7 m).1).length:Int))))) ++ [(IntKind.wrap .u8 m.fKind)]))) (tp:=4005) (x:=some (1,(List.length (α:=Int) ((x_0.1 ++ (E4 (IntKind.wrap .i64 (19 + (((D7 m).1).length:Int))))) ++ [(IntKind.wrap .u8 m.fKind)])))) (k:=10) (qs:=[.own 4005 x_0.1.length (SL (eI .u8) x_0.1),.sem (SL (eI .u8) ((D7 m).1)),.sc (.int .i64 (((D7 m).1).length:Int)),.sc (.int .i64 (IntKind.wrap .i64 (19 + (((D7 m).1).length:Int)))),.sem (SL (eI .u8) (E4 (IntKind.wrap .i64 (19 + (((D7 m).1).length:Int))))),.own 4005 (List.length (α:=Int) (x_0.1 ++ (E4 (IntKind.wrap .i64 (19 + (((D7 m).1).length:Int)))))) (SL (eI .u8) (x_0.1 ++ (E4 (IntKind.wrap .i64 (19 + (((D7 m).1).length:Int)))))),.loc 1 0,.sc (.int .i64 m.fKind),.sc (.int .u8 (IntKind.wrap .u8 m.fKind)),.sem (SL (eI .u8) [(IntKind.wrap .u8 m.fKind)]),.own 4005 (List.length (α:=Int) ((x_0.1 ++ (E4 (IntKind.wrap .i64 (19 + (((D7 m).1).length:Int))))) ++ [(IntKind.wrap .u8 m.fKind)])) (SL (eI .u8) ((x_0.1 ++ (E4 (IntKind.wrap .i64 (19 + (((D7 m).1).length:Int))))) ++ [(IntKind.wrap .u8 m.fKind)])),.own 4005 (List.length (α:=Int) ((x_0.1 ++ (E4 (IntKind.wrap .i64 (19 + (((D7 m).1).length:Int))))) ++ [(IntKind.wrap .u8 m.fKind)])) (SL (eI .u8) ((x_0.1 ++ (E4 (IntKind.wrap .i64 (19 + (((D7 m).1).length:Int))))) ++ [(IntKind.wrap .u8 m.fKind)]))]) [6,7,8,9] [true,true,true,true,true,true,true,true,true,true,false,false] (by kernel_rfl) (by kernel_rfl) rfl rfl rfl (by kernel_rfl) rfl rfl rfl rfl rfl ?_ (fun bD hc hi hd=>by exact K1 (E:=(eI .u8)) (l:=(x_0.1 ++ (E4 (IntKind.wrap .i64 (19 + (((D7 m).1).length:Int)))))) (ext:=[(IntKind.wrap .u8 m.fKind)]) (tp:=4005) rfl rfl rfl N3 (gt (p:=.own 4005 (List.length (α:=Int) (x_0.1 ++ (E4 (IntKind.wrap .i64 (19 + (((D7 m).1).length:Int)))))) (SL (eI .u8) (x_0.1 ++ (E4 (IntKind.wrap .i64 (19 + (((D7 m).1).length:Int))))))) (q:=.any) (hd 5 (by decide))) rfl (by exact (E3 (by exact (gt (p:=.sem (SL (eI .u8) [(IntKind.wrap .u8 m.fKind)])) (q:=.any) (hd 9 (by decide)))))) (by first | ((try simp only [zB,zC,zD,B7,A7,A6,C0,D8,E8,E9]); omega) | ((try simp only [z1,z2,z3,z4,z5,z6,z7,z8,z9,zA,zB,zC,zD,D2,C9,C4,C3,C5,B5,B6,B7,A7,A6,C0,D8,E8,E9] at *); omega))) ?_
   ·refine fc ?_ (fc ?_ (fc ?_ (fc ?_ (fn'))))
    ·exact E7 (i:=6) (q:=.loc 1 0) rfl rfl rfl (fun bD hc hi hd=>C1 rfl (D3 (b:=1) (k:=0) (m:=0) rfl rfl rfl X5 rfl rfl))
    ·exact E7 (i:=7) (q:=.sc (.int .i64 m.fKind)) rfl rfl rfl (fun bD hc hi hd=>C1 rfl (F4 (s:=1) (off:=0) (ps:=(A8.cells m)) (p:=.sc (.int .i64 m.fKind)) rfl rfl rfl ty3 (gt (p:=.loc 1 0) (q:=.any) (hd 6 (by decide))) rfl rfl rfl rfl))
    ·exact E7 (i:=8) (q:=.sc (.int .u8 (IntKind.wrap .u8 m.fKind))) rfl rfl rfl (fun bD hc hi hd=>C1 rfl (G8 (m:=(IntKind.wrap .u8 m.fKind)) rfl rfl rfl Tryz.underlying3 Tryz.underlying5 (gt (p:=.sc (.int .i64 m.fKind)) (q:=.any) (hd 7 (by decide))) rfl))
    ·exact E7 (i:=9) (q:=.sem (SL (eI .u8) [(IntKind.wrap .u8 m.fKind)])) rfl rfl rfl (fun bD hc hi hd=>C1 rfl (l3 (E:=(eI .u8)) (l:=[(IntKind.wrap .u8 m.fKind)]) (parts:=[(0,.tmp 34)]) (pps:=[(0,.sc (.int .u8 (IntKind.wrap .u8 m.fKind)))]) (qs:=[.sc (.int .u8 (IntKind.wrap .u8 m.fKind))]) rfl rfl rfl N3 rfl rfl (A3y (b0:=.sc (.int .u8 (IntKind.wrap .u8 m.fKind))) (gt (p:=.sc (.int .u8 (IntKind.wrap .u8 m.fKind))) (q:=.any) (hd 8 (by decide)))) rfl rfl))
   refine P6 [11] (by kernel_rfl) ?_ (fun bD hb=>?_)
   ·refine fc ?_ (fn')
    ·exact E7 (i:=11) (q:=.own 4005 (List.length (α:=Int) ((x_0.1 ++ (E4 (IntKind.wrap .i64 (19 + (((D7 m).1).length:Int))))) ++ [(IntKind.wrap .u8 m.fKind)])) (SL (eI .u8) ((x_0.1 ++ (E4 (IntKind.wrap .i64 (19 + (((D7 m).1).length:Int))))) ++ [(IntKind.wrap .u8 m.fKind)]))) rfl rfl rfl (fun bD hc hi hd=>C1 rfl (C7 (p:=.own 4005 (List.length (α:=Int) ((x_0.1 ++ (E4 (IntKind.wrap .i64 (19 + (((D7 m).1).length:Int))))) ++ [(IntKind.wrap .u8 m.fKind)])) (SL (eI .u8) ((x_0.1 ++ (E4 (IntKind.wrap .i64 (19 + (((D7 m).1).length:Int))))) ++ [(IntKind.wrap .u8 m.fKind)]))) rfl rfl rfl (gt (p:=.own 4005 (List.length (α:=Int) ((x_0.1 ++ (E4 (IntKind.wrap .i64 (19 + (((D7 m).1).length:Int))))) ++ [(IntKind.wrap .u8 m.fKind)])) (SL (eI .u8) ((x_0.1 ++ (E4 (IntKind.wrap .i64 (19 + (((D7 m).1).length:Int))))) ++ [(IntKind.wrap .u8 m.fKind)]))) (q:=.any) (hd 10 (by decide)))))
   obtain rfl:bD=fun _=>true:=funext hb
   refine C6 ?_
   refine B8 ?_
   refine B4 rfl (C2 (p:=.own 4005 (List.length (α:=Int) ((x_0.1 ++ (E4 (IntKind.wrap .i64 (19 + (((D7 m).1).length:Int))))) ++ [(IntKind.wrap .u8 m.fKind)])) (SL (eI .u8) ((x_0.1 ++ (E4 (IntKind.wrap .i64 (19 + (((D7 m).1).length:Int))))) ++ [(IntKind.wrap .u8 m.fKind)]))) rfl rfl rfl rfl) ?_
   refine B4 rfl (C2 (p:=.sem (SL (eI .u8) ((D7 m).1))) rfl rfl rfl rfl) ?_
   refine B4 rfl (K1 (E:=(eI .u8)) (l:=((x_0.1 ++ (E4 (IntKind.wrap .i64 (19 + (((D7 m).1).length:Int))))) ++ [(IntKind.wrap .u8 m.fKind)])) (ext:=(D7 m).1) (tp:=4005) rfl rfl rfl N3 rfl rfl (E3 rfl) (by first | ((try simp only [zB,zC,zD,B7,A7,A6,C0,D8,E8,E9]); omega) | ((try simp only [z1,z2,z3,z4,z5,z6,z7,z8,z9,zA,zB,zC,zD,D2,C9,C4,C3,C5,B5,B6,B7,A7,A6,C0,D8,E8,E9] at *); omega))) ?_
   refine B4 rfl (C7 (p:=.own 4005 (List.length (α:=Int) (((x_0.1 ++ (E4 (IntKind.wrap .i64 (19 + (((D7 m).1).length:Int))))) ++ [(IntKind.wrap .u8 m.fKind)]) ++ (D7 m).1)) (SL (eI .u8) (((x_0.1 ++ (E4 (IntKind.wrap .i64 (19 + (((D7 m).1).length:Int))))) ++ [(IntKind.wrap .u8 m.fKind)]) ++ (D7 m).1))) rfl rfl rfl rfl) ?_
   refine D4 ?_
   refine G2 ?_
   exact F7 (F:=(fun (z:List Int)=>⟨[],[],.sem (SL (eI .u8) z)⟩)) (z:=(A2 m)) (v:=(((x_0.1 ++ (E4 (IntKind.wrap .i64 (19 + (((D7 m).1).length:Int))))) ++ [(IntKind.wrap .u8 m.fKind)]) ++ (D7 m).1)) (bF k11 (mB e12 rfl)) rfl (.one (.tmp 2 (.sem (SL (eI .u8) (((x_0.1 ++ (E4 (IntKind.wrap .i64 (19 + (((D7 m).1).length:Int))))) ++ [(IntKind.wrap .u8 m.fKind)]) ++ (D7 m).1))) rfl) (.one (.rfl _)) rfl) trivial trivial
theorem A0T (m:A8) (h1:decide ((m.fKind:Int)=1)=true):PF Tryz.prog 17 [.agg (A8.cells m)] (.sem (SL (eI .u8) (A2 m))):=M1 (A0p m h1) rfl
theorem s5 (m:A8):gdL (okI .u8) (A2 m):=by
 unfold A2
 cases ((!((D7 m).2)) || (decide ((4077:Int) < (((D7 m).1).length:Int)))) with
 | true=>exact R9
 | false =>
  simp only [cond_false,thn,X0]
  refine T4 (T4 (T4 ?_ (A5N _)) ?_) (A7v m)
  ·repeat (first | exact R9 | refine S6 (A0o.2 (by decide)) ?_)
  ·exact S6 (R2 _) R9
theorem A1x (m:A8):(A2 m).length ≤ 200:=by
 have h:=A1W m
 unfold A2
 cases ((!((D7 m).2)) || (decide ((4077:Int) < (((D7 m).1).length:Int)))) with
 | true=>simp
 | false =>
  simp only [cond_false,thn,X0,List.length_append,E9,List.length_cons,List.length_nil]
  omega
def D5 (b:List Int):D1 × A3:=
 (bif !(decide (((ix b 0):Int)=4)) then
  ((⟨0,0,0,(⟨false,0,false,false,0,false,false,false,0⟩:B0)⟩:D1),(F2 2 1 [0,4]))
 else
  (bif (!(decide (((IntKind.wrap .i64 (ix b 9)):Int)=((sub b 10 (b.length:Int)).length:Int)))) || (!((D0 (sub b 10 (b.length:Int))).2)) then
   ((⟨0,0,0,(⟨false,0,false,false,0,false,false,false,0⟩:B0)⟩:D1),(F2 2 0 []))
  else
   (bif (decide (((D9 (sub b 1 (b.length:Int))):Int)=0)) || (((((D0 (sub b 10 (b.length:Int))).1).fFour) && (!(decide (((D9 (sub b 1 (b.length:Int))):Int)=23456)))) && (!(decide (((D9 (sub b 1 (b.length:Int))):Int)=((D0 (sub b 10 (b.length:Int))).1).fAS4)))) then
    ((⟨0,0,0,(⟨false,0,false,false,0,false,false,false,0⟩:B0)⟩:D1),(F2 2 2 []))
   else
    (thn (bif ((D0 (sub b 10 (b.length:Int))).1).fFour then (⟨((D0 (sub b 10 (b.length:Int))).1).fAS4,(D9 (sub b 3 (b.length:Int))),(G1 (sub b 5 (b.length:Int))),(⟨false,0,false,false,0,false,false,false,0⟩:B0)⟩:D1) else (⟨(D9 (sub b 1 (b.length:Int))),(D9 (sub b 3 (b.length:Int))),(G1 (sub b 5 (b.length:Int))),(⟨false,0,false,false,0,false,false,false,0⟩:B0)⟩:D1)) fun (y_22:D1) =>
     ((⟨y_22.fAS,y_22.fHold,y_22.fID,((D0 (sub b 10 (b.length:Int))).1)⟩:D1),(⟨0,0,[]⟩:A3))))))
set_option maxRecDepth 100000 in
set_option maxHeartbeats 4000000 in
theorem A0X (b:List Int) (h:10 ≤ b.length) (hs:b.length ≤ 1000000) (ok_b:gdL (okI .u8) b):PG Tryz.prog 31 [] [] [.sem (SL (eI .u8) b)] (fun _:Unit=>True) (fun _=>(fun (z:D1 × A3)=>⟨[],[],.tup [.agg (D1.cells z.1),.agg (A3.cells z.2)]⟩) (D5 b)):=by
 refine M4 (N:=75) (l:=[.cell 2 31,.cell 3 41]) Tryz.func31 rfl rfl rfl (Nat.le_of_ble_eq_true rfl) fun w0 i0 F βs=>?_
 refine C6 ?_
 refine B8 ?_
 refine B4 rfl (L2 (s:=2) (z:=A9b) (qs:=V0) rfl rfl rfl rfl z31 rfl rfl) ?_
 refine B4 rfl (L2 (s:=3) (z:=A0r) (qs:=J3) rfl rfl rfl rfl z41 rfl rfl) ?_
 refine D4 ?_
 refine C6 ?_
 refine B8 ?_
 refine B4 rfl (C2 (p:=.sem (SL (eI .u8) b)) rfl rfl rfl rfl) ?_
 refine B4 rfl (K0 (E:=(eI .u8)) (l:=b) (i:=10) (j:=(b.length:Int)) rfl rfl rfl Tryz.underlying22 ty5 (E3 rfl) (I0 rfl) (L3 rfl) (show 0 ≤ 10 ∧ 10 ≤ (b.length:Int) ∧ (b.length:Int) ≤ (b.length:Int) from (by first | omega | ((try simp only [z1,z2,z3,z4,z5,z6,z7,z8,z9,zA,zB,zC,zD,D2,C9,C4,C3,C5,B5,B6,B7,A7,A6,C0,D8,E8,E9] at *); omega) | ((try simp only [z1,z2,z3,z4,z5,z6,z7,z8,z9,zA,B5,B6,B7,A7,A6,C0,D8,E8,E9] at *); (try simp (disch:=omega) only [C8]); (try simp only [z1,z2,z3,z4,z5,z6,z7,z8,z9,zA,zB,zC,zD,D2,C9,C4,C3,C5,B5,B6,B7] at *); omega)))) ?_
 refine B4 rfl (C7 (p:=.sem (SL (eI .u8) (sub b 10 (b.length:Int)))) rfl rfl rfl rfl) ?_
 refine D4 ?_
 refine C6 ?_
 refine C6 ?_
 refine B8 ?_
 refine B4 rfl (C2 (p:=.sem (SL (eI .u8) b)) rfl rfl rfl rfl) ?_
 have hx1:=O5 ok_b 0
 refine B4 rfl (N6 (E:=(eI .u8)) (l:=b) (n:=0) (ps:=[.sc (.int .u8 (ix b 0))]) rfl rfl rfl Tryz.underlying22 ty5 (E3 rfl) rfl (by first | omega | ((try simp only [z1,z2,z3,z4,z5,z6,z7,z8,z9,zA,zB,zC,zD,D2,C9,C4,C3,C5,B5,B6,B7,A7,A6,C0,D8,E8,E9] at *); omega) | ((try simp only [z1,z2,z3,z4,z5,z6,z7,z8,z9,zA,B5,B6,B7,A7,A6,C0,D8,E8,E9] at *); (try simp (disch:=omega) only [C8]); (try simp only [z1,z2,z3,z4,z5,z6,z7,z8,z9,zA,zB,zC,zD,D2,C9,C4,C3,C5,B5,B6,B7] at *); omega)) rfl) ?_
 refine B4 rfl (G4 (ps:=[.sc (.int .u8 (ix b 0))]) (p:=.sc (.int .u8 (ix b 0))) rfl rfl rfl ty5 rfl rfl rfl rfl rfl) ?_
 refine B4 rfl (E6 (u1:=.int .u8 (ix b 0)) (u2:=.int .u8 4) (v:=.bool (!(decide (((ix b 0):Int)=4)))) rfl rfl rfl rfl rfl (fun _=>rfl)) ?_
 refine D4 ?_
 refine F6 (b:=!(decide (((ix b 0):Int)=4))) rfl (fun k2=>?_) (fun k2=>?_)
 ·skip
  refine C6 ?_
  refine B8 ?_
  refine B4 rfl (M7 (parts:=[]) (pps:=[]) (qs:=V0) rfl rfl rfl A6w rfl rfl (by kernel_rfl)) ?_
  refine B4 rfl (I4 (E:=(eI .u8)) (l:=[0,4]) (tp:=15) (parts:=[(0,.const (.int .u8 0)),(1,.const (.int .u8 4))]) (qs:=[.sc (.int .u8 0),.sc (.int .u8 4)]) rfl rfl rfl N3 rfl rfl rfl rfl) ?_
  refine B4 rfl (I1 (fn:=Tryz.f30) (xs:=[.const (.int .i64 2),.const (.int .i64 1),.tmp 15]) (args:=[.sc (.int .i64 2),.sc (.int .i64 1),.sem (SL (eI .u8) [0,4])]) (r:=.agg (A3.cells (F2 2 1 [0,4]))) rfl rfl rfl Tryz.func30 rfl rfl rfl rfl rfl (Q4 2 1 [0,4])) ?_
  refine B4 rfl (G5 (s:=2) (off:=0) (ps:=V0) (p:=.agg V0) (qs:=V0) rfl rfl A0u rfl rfl rfl rfl rfl rfl rfl) ?_
  refine B4 rfl (G5 (s:=3) (off:=0) (ps:=J3) (p:=.agg (A3.cells (F2 2 1 [0,4]))) (qs:=(A3.cells (F2 2 1 [0,4]))) rfl rfl M5 rfl rfl rfl rfl rfl rfl rfl) ?_
  refine D4 ?_
  refine G2 ?_
  exact F7 (F:=(fun (z:D1 × A3)=>⟨[],[],.tup [.agg (D1.cells z.1),.agg (A3.cells z.2)]⟩)) (z:=(D5 b)) (v:=((⟨0,0,0,(⟨false,0,false,false,0,false,false,false,0⟩:B0)⟩:D1),(F2 2 1 [0,4]))) (bT k2 rfl) rfl (.two (.cell 2 31 2 12 true V0 (.agg V0) rfl rfl A0u rfl rfl rfl) (.one (.rfl _)) rfl (.cell 3 41 3 3 true (A3.cells (F2 2 1 [0,4])) (.agg (A3.cells (F2 2 1 [0,4]))) rfl rfl M5 rfl rfl rfl) (.one (.rfl _)) rfl) trivial trivial
 ·skip
  refine F9 ?_
  refine C6 ?_
  refine Q5 { ds:=[some 17,some 18,some 19,some 20,some 21,some 22,some 23,some 24,some 25,some 26,some 5,none],p:=fun i=>[.sem (SL (eI .u8) b),.sem (SL (eI .u8) (sub b 1 (b.length:Int))),.sc (.int .i64 (D9 (sub b 1 (b.length:Int)))),.sem (SL (eI .u8) b),.sem (SL (eI .u8) (sub b 3 (b.length:Int))),.sc (.int .i64 (D9 (sub b 3 (b.length:Int)))),.sem (SL (eI .u8) b),.sem (SL (eI .u8) (sub b 5 (b.length:Int))),.sc (.int .u32 (G1 (sub b 5 (b.length:Int)))),.agg [.sc (.int .i64 (D9 (sub b 1 (b.length:Int)))),.sc (.int .i64 (D9 (sub b 3 (b.length:Int)))),.sc (.int .u32 (G1 (sub b 5 (b.length:Int)))),.sc (.bool false),.sc (.int .i64 0),.sc (.bool false),.sc (.bool false),.sc (.int .i64 0),.sc (.bool false),.sc (.bool false),.sc (.bool false),.sc (.int .i64 0)],.loc 5 0,.any].getD i .any,al:=[(10,5,V0)],st:=[(11,5,0,[.sc (.int .i64 (D9 (sub b 1 (b.length:Int)))),.sc (.int .i64 (D9 (sub b 3 (b.length:Int)))),.sc (.int .u32 (G1 (sub b 5 (b.length:Int)))),.sc (.bool false),.sc (.int .i64 0),.sc (.bool false),.sc (.bool false),.sc (.int .i64 0),.sc (.bool false),.sc (.bool false),.sc (.bool false),.sc (.int .i64 0)])] } rfl (by kernel_rfl) rfl rfl ?_ (fun bD hb=>?_)
  ·refine ⟨fun bD hc hi hd=>?_,fun bD hc hi hd=>?_,fun bD hc hi hd=>?_,fun bD hc hi hd=>?_,fun bD hc hi hd=>?_,fun bD hc hi hd=>?_,fun bD hc hi hd=>?_,fun bD hc hi hd=>?_,fun bD hc hi hd=>?_,fun bD hc hi hd=>?_,fun bD hc hi hd=>?_,fun bD hc hi hd=>?_,trivial⟩
   ·exact F3.putStep (i:=0) (q:=.sem (SL (eI .u8) b)) rfl rfl rfl (C1 rfl (C2 (p:=.sem (SL (eI .u8) b)) rfl rfl rfl rfl))
   ·exact F3.putStep (i:=1) (q:=.sem (SL (eI .u8) (sub b 1 (b.length:Int)))) rfl rfl rfl (C1 rfl (K0 (E:=(eI .u8)) (l:=b) (i:=1) (j:=(b.length:Int)) rfl rfl rfl Tryz.underlying22 ty5 (by exact (E3 (by exact (gt (p:=.sem (SL (eI .u8) b)) (q:=.any) (hd 0 (by decide)))))) (I0 rfl) (L3 rfl) (show 0 ≤ 1 ∧ 1 ≤ (b.length:Int) ∧ (b.length:Int) ≤ (b.length:Int) from (by first | omega | ((try simp only [z1,z2,z3,z4,z5,z6,z7,z8,z9,zA,zB,zC,zD,D2,C9,C4,C3,C5,B5,B6,B7,A7,A6,C0,D8,E8,E9] at *); omega) | ((try simp only [z1,z2,z3,z4,z5,z6,z7,z8,z9,zA,B5,B6,B7,A7,A6,C0,D8,E8,E9] at *); (try simp (disch:=omega) only [C8]); (try simp only [z1,z2,z3,z4,z5,z6,z7,z8,z9,zA,zB,zC,zD,D2,C9,C4,C3,C5,B5,B6,B7] at *); omega)))))
   ·exact F3.putStep (i:=2) (q:=.sc (.int .i64 (D9 (sub b 1 (b.length:Int))))) rfl rfl rfl (C1 rfl (I1 (fn:=Tryz.f35) (xs:=[.tmp 18]) (args:=[.sem (SL (eI .u8) (sub b 1 (b.length:Int)))]) (r:=.sc (.int .i64 (D9 (sub b 1 (b.length:Int))))) rfl rfl rfl Tryz.func35 rfl rfl (T9 (b0:=.sem (SL (eI .u8) (sub b 1 (b.length:Int)))) (gt (p:=.sem (SL (eI .u8) (sub b 1 (b.length:Int)))) (q:=.any) (hd 1 (by decide)))) rfl rfl (s4 (sub b 1 (b.length:Int)) (by first | omega | ((try simp only [z1,z2,z3,z4,z5,z6,z7,z8,z9,zA,zB,zC,zD,D2,C9,C4,C3,C5,B5,B6,B7,A7,A6,C0,D8,E8,E9] at *); omega) | ((try simp only [z1,z2,z3,z4,z5,z6,z7,z8,z9,zA,B5,B6,B7,A7,A6,C0,D8,E8,E9] at *); (try simp (disch:=omega) only [C8]); (try simp only [z1,z2,z3,z4,z5,z6,z7,z8,z9,zA,zB,zC,zD,D2,C9,C4,C3,C5,B5,B6,B7] at *); omega)))))
   ·exact F3.putStep (i:=3) (q:=.sem (SL (eI .u8) b)) rfl rfl rfl (C1 rfl (C2 (p:=.sem (SL (eI .u8) b)) rfl rfl rfl rfl))
   ·exact F3.putStep (i:=4) (q:=.sem (SL (eI .u8) (sub b 3 (b.length:Int)))) rfl rfl rfl (C1 rfl (K0 (E:=(eI .u8)) (l:=b) (i:=3) (j:=(b.length:Int)) rfl rfl rfl Tryz.underlying22 ty5 (by exact (E3 (by exact (gt (p:=.sem (SL (eI .u8) b)) (q:=.any) (hd 3 (by decide)))))) (I0 rfl) (L3 rfl) (show 0 ≤ 3 ∧ 3 ≤ (b.length:Int) ∧ (b.length:Int) ≤ (b.length:Int) from (by first | omega | ((try simp only [z1,z2,z3,z4,z5,z6,z7,z8,z9,zA,zB,zC,zD,D2,C9,C4,C3,C5,B5,B6,B7,A7,A6,C0,D8,E8,E9] at *); omega) | ((try simp only [z1,z2,z3,z4,z5,z6,z7,z8,z9,zA,B5,B6,B7,A7,A6,C0,D8,E8,E9] at *); (try simp (disch:=omega) only [C8]); (try simp only [z1,z2,z3,z4,z5,z6,z7,z8,z9,zA,zB,zC,zD,D2,C9,C4,C3,C5,B5,B6,B7] at *); omega)))))
   ·exact F3.putStep (i:=5) (q:=.sc (.int .i64 (D9 (sub b 3 (b.length:Int))))) rfl rfl rfl (C1 rfl (I1 (fn:=Tryz.f35) (xs:=[.tmp 21]) (args:=[.sem (SL (eI .u8) (sub b 3 (b.length:Int)))]) (r:=.sc (.int .i64 (D9 (sub b 3 (b.length:Int))))) rfl rfl rfl Tryz.func35 rfl rfl (T9 (b0:=.sem (SL (eI .u8) (sub b 3 (b.length:Int)))) (gt (p:=.sem (SL (eI .u8) (sub b 3 (b.length:Int)))) (q:=.any) (hd 4 (by decide)))) rfl rfl (s4 (sub b 3 (b.length:Int)) (by first | omega | ((try simp only [z1,z2,z3,z4,z5,z6,z7,z8,z9,zA,zB,zC,zD,D2,C9,C4,C3,C5,B5,B6,B7,A7,A6,C0,D8,E8,E9] at *); omega) | ((try simp only [z1,z2,z3,z4,z5,z6,z7,z8,z9,zA,B5,B6,B7,A7,A6,C0,D8,E8,E9] at *); (try simp (disch:=omega) only [C8]); (try simp only [z1,z2,z3,z4,z5,z6,z7,z8,z9,zA,zB,zC,zD,D2,C9,C4,C3,C5,B5,B6,B7] at *); omega)))))
   ·exact F3.putStep (i:=6) (q:=.sem (SL (eI .u8) b)) rfl rfl rfl (C1 rfl (C2 (p:=.sem (SL (eI .u8) b)) rfl rfl rfl rfl))
   ·exact F3.putStep (i:=7) (q:=.sem (SL (eI .u8) (sub b 5 (b.length:Int)))) rfl rfl rfl (C1 rfl (K0 (E:=(eI .u8)) (l:=b) (i:=5) (j:=(b.length:Int)) rfl rfl rfl Tryz.underlying22 ty5 (by exact (E3 (by exact (gt (p:=.sem (SL (eI .u8) b)) (q:=.any) (hd 6 (by decide)))))) (I0 rfl) (L3 rfl) (show 0 ≤ 5 ∧ 5 ≤ (b.length:Int) ∧ (b.length:Int) ≤ (b.length:Int) from (by first | omega | ((try simp only [z1,z2,z3,z4,z5,z6,z7,z8,z9,zA,zB,zC,zD,D2,C9,C4,C3,C5,B5,B6,B7,A7,A6,C0,D8,E8,E9] at *); omega) | ((try simp only [z1,z2,z3,z4,z5,z6,z7,z8,z9,zA,B5,B6,B7,A7,A6,C0,D8,E8,E9] at *); (try simp (disch:=omega) only [C8]); (try simp only [z1,z2,z3,z4,z5,z6,z7,z8,z9,zA,zB,zC,zD,D2,C9,C4,C3,C5,B5,B6,B7] at *); omega)))))
   ·exact F3.putStep (i:=8) (q:=.sc (.int .u32 (G1 (sub b 5 (b.length:Int))))) rfl rfl rfl (C1 rfl (I1 (fn:=Tryz.f47) (xs:=[.tmp 24]) (args:=[.sem (SL (eI .u8) (sub b 5 (b.length:Int)))]) (r:=.sc (.int .u32 (G1 (sub b 5 (b.length:Int))))) rfl rfl rfl Tryz.func47 rfl rfl (T9 (b0:=.sem (SL (eI .u8) (sub b 5 (b.length:Int)))) (gt (p:=.sem (SL (eI .u8) (sub b 5 (b.length:Int)))) (q:=.any) (hd 7 (by decide)))) rfl rfl (A0w (sub b 5 (b.length:Int)))))
   ·exact F3.putStep (i:=9) (q:=.agg [.sc (.int .i64 (D9 (sub b 1 (b.length:Int)))),.sc (.int .i64 (D9 (sub b 3 (b.length:Int)))),.sc (.int .u32 (G1 (sub b 5 (b.length:Int)))),.sc (.bool false),.sc (.int .i64 0),.sc (.bool false),.sc (.bool false),.sc (.int .i64 0),.sc (.bool false),.sc (.bool false),.sc (.bool false),.sc (.int .i64 0)]) rfl rfl rfl (C1 rfl (M7 (parts:=[(0,.tmp 19),(1,.tmp 22),(2,.tmp 25)]) (pps:=[(0,.sc (.int .i64 (D9 (sub b 1 (b.length:Int))))),(1,.sc (.int .i64 (D9 (sub b 3 (b.length:Int))))),(2,.sc (.int .u32 (G1 (sub b 5 (b.length:Int)))))]) (qs:=[.sc (.int .i64 (D9 (sub b 1 (b.length:Int)))),.sc (.int .i64 (D9 (sub b 3 (b.length:Int)))),.sc (.int .u32 (G1 (sub b 5 (b.length:Int)))),.sc (.bool false),.sc (.int .i64 0),.sc (.bool false),.sc (.bool false),.sc (.int .i64 0),.sc (.bool false),.sc (.bool false),.sc (.bool false),.sc (.int .i64 0)]) rfl rfl rfl A6w rfl (A9g (b0:=.sc (.int .i64 (D9 (sub b 1 (b.length:Int))))) (b1:=.sc (.int .i64 (D9 (sub b 3 (b.length:Int))))) (b2:=.sc (.int .u32 (G1 (sub b 5 (b.length:Int))))) (gt (p:=.sc (.int .i64 (D9 (sub b 1 (b.length:Int))))) (q:=.any) (hd 2 (by decide))) (gt (p:=.sc (.int .i64 (D9 (sub b 3 (b.length:Int))))) (q:=.any) (hd 5 (by decide))) (gt (p:=.sc (.int .u32 (G1 (sub b 5 (b.length:Int))))) (q:=.any) (hd 8 (by decide)))) (by kernel_rfl)))
   ·exact A5G (i:=10) (d:=5) (s:=5) (z:=A9b) (ps:=V0) rfl hc hi rfl rfl rfl rfl rfl z31 rfl rfl (A7B _ _) rfl rfl rfl rfl rfl (by kernel_rfl) (by kernel_rfl) (by kernel_rfl) (by kernel_rfl) rfl
   ·exact L5 (i:=11) (s:=5) (off:=0) (ps0:=V0) (ps:=V0) (qs:=[.sc (.int .i64 (D9 (sub b 1 (b.length:Int)))),.sc (.int .i64 (D9 (sub b 3 (b.length:Int)))),.sc (.int .u32 (G1 (sub b 5 (b.length:Int)))),.sc (.bool false),.sc (.int .i64 0),.sc (.bool false),.sc (.bool false),.sc (.int .i64 0),.sc (.bool false),.sc (.bool false),.sc (.bool false),.sc (.int .i64 0)]) (p:=.agg [.sc (.int .i64 (D9 (sub b 1 (b.length:Int)))),.sc (.int .i64 (D9 (sub b 3 (b.length:Int)))),.sc (.int .u32 (G1 (sub b 5 (b.length:Int)))),.sc (.bool false),.sc (.int .i64 0),.sc (.bool false),.sc (.bool false),.sc (.int .i64 0),.sc (.bool false),.sc (.bool false),.sc (.bool false),.sc (.int .i64 0)]) 0 hc hd rfl rfl rfl A0u (gt (p:=.loc 5 0) (q:=.any) (hd 10 (by decide))) (gt (p:=.agg [.sc (.int .i64 (D9 (sub b 1 (b.length:Int)))),.sc (.int .i64 (D9 (sub b 3 (b.length:Int)))),.sc (.int .u32 (G1 (sub b 5 (b.length:Int)))),.sc (.bool false),.sc (.int .i64 0),.sc (.bool false),.sc (.bool false),.sc (.int .i64 0),.sc (.bool false),.sc (.bool false),.sc (.bool false),.sc (.int .i64 0)]) (q:=.any) (hd 9 (by decide))) (by exact A3s (ps:=V0) rfl (hd 10 (by decide))) rfl rfl rfl rfl rfl rfl rfl hi rfl rfl (by kernel_rfl) (by kernel_rfl)
  obtain rfl:bD=fun _=>true:=funext hb
  refine C6 ?_
  refine B8 ?_
  refine B4 rfl (C2 (p:=.sem (SL (eI .u8) (sub b 10 (b.length:Int)))) rfl rfl rfl rfl) ?_
  refine B4 rfl (I1 (fn:=Tryz.f48) (xs:=[.tmp 28]) (args:=[.sem (SL (eI .u8) (sub b 10 (b.length:Int)))]) (r:=.tup [.agg (B0.cells ((D0 (sub b 10 (b.length:Int))).1)),.sc (.bool ((D0 (sub b 10 (b.length:Int))).2))]) rfl rfl rfl Tryz.func48 rfl rfl rfl rfl rfl (A2J (sub b 10 (b.length:Int)) (S4 ok_b))) ?_
  refine B4 rfl (C2 (p:=.tup [.agg (B0.cells ((D0 (sub b 10 (b.length:Int))).1)),.sc (.bool ((D0 (sub b 10 (b.length:Int))).2))]) rfl rfl rfl rfl) ?_
  refine B4 rfl (I2 (ps:=[.agg (B0.cells ((D0 (sub b 10 (b.length:Int))).1)),.sc (.bool ((D0 (sub b 10 (b.length:Int))).2))]) (p:=.agg (B0.cells ((D0 (sub b 10 (b.length:Int))).1))) rfl rfl rfl rfl rfl) ?_
  refine B4 rfl (I2 (ps:=[.agg (B0.cells ((D0 (sub b 10 (b.length:Int))).1)),.sc (.bool ((D0 (sub b 10 (b.length:Int))).2))]) (p:=.sc (.bool ((D0 (sub b 10 (b.length:Int))).2))) rfl rfl rfl rfl rfl) ?_
  refine B4 rfl (L2 (s:=6) (z:=A7j) (qs:=Q2) rfl rfl rfl rfl z29 rfl rfl) ?_
  refine B4 rfl (G5 (s:=6) (off:=0) (ps:=Q2) (p:=.agg (B0.cells ((D0 (sub b 10 (b.length:Int))).1))) (qs:=(B0.cells ((D0 (sub b 10 (b.length:Int))).1))) rfl rfl X9 rfl rfl rfl rfl rfl rfl rfl) ?_
  refine B4 rfl (C7 (p:=.sc (.bool ((D0 (sub b 10 (b.length:Int))).2))) rfl rfl rfl rfl) ?_
  refine D4 ?_
  refine C6 ?_
  refine C6 ?_
  refine B8 ?_
  refine B4 rfl (C2 (p:=.sem (SL (eI .u8) b)) rfl rfl rfl rfl) ?_
  have hx3:=O5 ok_b 9
  refine B4 rfl (N6 (E:=(eI .u8)) (l:=b) (n:=9) (ps:=[.sc (.int .u8 (ix b 9))]) rfl rfl rfl Tryz.underlying22 ty5 (E3 rfl) rfl (by first | omega | ((try simp only [z1,z2,z3,z4,z5,z6,z7,z8,z9,zA,zB,zC,zD,D2,C9,C4,C3,C5,B5,B6,B7,A7,A6,C0,D8,E8,E9] at *); omega) | ((try simp only [z1,z2,z3,z4,z5,z6,z7,z8,z9,zA,B5,B6,B7,A7,A6,C0,D8,E8,E9] at *); (try simp (disch:=omega) only [C8]); (try simp only [z1,z2,z3,z4,z5,z6,z7,z8,z9,zA,zB,zC,zD,D2,C9,C4,C3,C5,B5,B6,B7] at *); omega)) rfl) ?_
  refine B4 rfl (G4 (ps:=[.sc (.int .u8 (ix b 9))]) (p:=.sc (.int .u8 (ix b 9))) rfl rfl rfl ty5 rfl rfl rfl rfl rfl) ?_
  refine B4 rfl (G8 (m:=(IntKind.wrap .i64 (ix b 9))) rfl rfl rfl Tryz.underlying5 Tryz.underlying3 rfl rfl) ?_
  refine B4 rfl (C2 (p:=.sem (SL (eI .u8) (sub b 10 (b.length:Int)))) rfl rfl rfl rfl) ?_
  refine B4 rfl (L6 rfl rfl rfl Tryz.underlying22 (E3 rfl)) ?_
  refine B4 rfl (E6 (u1:=.int .i64 (IntKind.wrap .i64 (ix b 9))) (u2:=.int .i64 ((sub b 10 (b.length:Int)).length:Int)) (v:=.bool (!(decide (((IntKind.wrap .i64 (ix b 9)):Int)=((sub b 10 (b.length:Int)).length:Int))))) rfl rfl rfl rfl rfl (fun _=>rfl)) ?_
  refine B4 rfl (C2 (p:=.sc (.bool (!(decide (((IntKind.wrap .i64 (ix b 9)):Int)=((sub b 10 (b.length:Int)).length:Int)))))) rfl rfl rfl rfl) ?_
  refine E0 (C:=decide (((IntKind.wrap .i64 (ix b 9)):Int)=((sub b 10 (b.length:Int)).length:Int))) (p:=.sc (.bool ((D0 (sub b 10 (b.length:Int))).2))) (H8 (b:=!(decide (((IntKind.wrap .i64 (ix b 9)):Int)=((sub b 10 (b.length:Int)).length:Int)))) (c:=decide (((IntKind.wrap .i64 (ix b 9)):Int)=((sub b 10 (b.length:Int)).length:Int))) rfl rfl rfl rfl rfl (Bool.not_not _)) rfl rfl (fun g4=>C2 (p:=.sc (.bool ((D0 (sub b 10 (b.length:Int))).2))) rfl rfl rfl rfl) ?_
  refine E0 (C:=decide (((IntKind.wrap .i64 (ix b 9)):Int)=((sub b 10 (b.length:Int)).length:Int))) (p:=.sc (.bool (!((D0 (sub b 10 (b.length:Int))).2)))) (H8 (b:=!(decide (((IntKind.wrap .i64 (ix b 9)):Int)=((sub b 10 (b.length:Int)).length:Int)))) (c:=decide (((IntKind.wrap .i64 (ix b 9)):Int)=((sub b 10 (b.length:Int)).length:Int))) rfl rfl rfl rfl rfl (Bool.not_not _)) rfl rfl (fun g5=>X4 (u:=.bool ((D0 (sub b 10 (b.length:Int))).2)) (v:=.bool (!((D0 (sub b 10 (b.length:Int))).2))) rfl rfl rfl (gt (p:=.sc (.bool ((D0 (sub b 10 (b.length:Int))).2))) (q:=.sc undef) g5) (fun _=>rfl)) ?_
  refine B4 rfl (N5 (b:=!(decide (((IntKind.wrap .i64 (ix b 9)):Int)=((sub b 10 (b.length:Int)).length:Int)))) (y:=!((D0 (sub b 10 (b.length:Int))).2)) rfl rfl rfl rfl rfl (Bool.not_not _)) ?_
  refine D4 ?_
  refine F6 (b:=(!(decide (((IntKind.wrap .i64 (ix b 9)):Int)=((sub b 10 (b.length:Int)).length:Int)))) || (!((D0 (sub b 10 (b.length:Int))).2))) rfl (fun k6=>?_) (fun k6=>?_)
  ·skip
   refine C6 ?_
   refine B8 ?_
   refine B4 rfl (M7 (parts:=[]) (pps:=[]) (qs:=V0) rfl rfl rfl A6w rfl rfl (by kernel_rfl)) ?_
   refine B4 rfl (I1 (fn:=Tryz.f30) (xs:=[.const (.int .i64 2),.const (.int .i64 0),.const (.slice none 0 0)]) (args:=[.sc (.int .i64 2),.sc (.int .i64 0),.sc (.slice none 0 0)]) (r:=.agg (A3.cells (F2 2 0 []))) rfl rfl rfl Tryz.func30 rfl rfl rfl rfl rfl (f9 (Q4 2 0 []) (.cons (.one (.rfl _)) (.cons (.one (.rfl _)) (.cons (.one (.nil _)) .nil))))) ?_
   refine B4 rfl (G5 (s:=2) (off:=0) (ps:=V0) (p:=.agg V0) (qs:=V0) rfl rfl A0u rfl rfl rfl rfl rfl rfl rfl) ?_
   refine B4 rfl (G5 (s:=3) (off:=0) (ps:=J3) (p:=.agg (A3.cells (F2 2 0 []))) (qs:=(A3.cells (F2 2 0 []))) rfl rfl M5 rfl rfl rfl rfl rfl rfl rfl) ?_
   refine D4 ?_
   refine G2 ?_
   exact F7 (F:=(fun (z:D1 × A3)=>⟨[],[],.tup [.agg (D1.cells z.1),.agg (A3.cells z.2)]⟩)) (z:=(D5 b)) (v:=((⟨0,0,0,(⟨false,0,false,false,0,false,false,false,0⟩:B0)⟩:D1),(F2 2 0 []))) (bF k2 (bT k6 rfl)) rfl (.two (.cell 2 31 2 12 true V0 (.agg V0) rfl rfl A0u rfl rfl rfl) (.one (.rfl _)) rfl (.cell 3 41 3 3 true (A3.cells (F2 2 0 [])) (.agg (A3.cells (F2 2 0 []))) rfl rfl M5 rfl rfl rfl) (.one (.rfl _)) rfl) trivial trivial
  ·skip
   refine F9 ?_
   refine C6 ?_
   refine C6 ?_
   refine B8 ?_
   refine B4 rfl (D3 (b:=5) (k:=0) (m:=0) rfl rfl rfl Y4 rfl rfl) ?_
   refine B4 rfl (F4 (s:=5) (off:=0) (ps:=[.sc (.int .i64 (D9 (sub b 1 (b.length:Int)))),.sc (.int .i64 (D9 (sub b 3 (b.length:Int)))),.sc (.int .u32 (G1 (sub b 5 (b.length:Int)))),.sc (.bool false),.sc (.int .i64 0),.sc (.bool false),.sc (.bool false),.sc (.int .i64 0),.sc (.bool false),.sc (.bool false),.sc (.bool false),.sc (.int .i64 0)]) (p:=.sc (.int .i64 (D9 (sub b 1 (b.length:Int))))) rfl rfl rfl ty3 rfl rfl rfl rfl rfl) ?_
   refine B4 rfl (E6 (u1:=.int .i64 (D9 (sub b 1 (b.length:Int)))) (u2:=.int .i64 0) (v:=.bool (decide (((D9 (sub b 1 (b.length:Int))):Int)=0))) rfl rfl rfl rfl rfl (fun _=>rfl)) ?_
   refine B4 rfl (C2 (p:=.sc (.bool (decide (((D9 (sub b 1 (b.length:Int))):Int)=0)))) rfl rfl rfl rfl) ?_
   refine E0 (C:=!(decide (((D9 (sub b 1 (b.length:Int))):Int)=0))) (p:=.loc 6 0) (H8 (b:=decide (((D9 (sub b 1 (b.length:Int))):Int)=0)) (c:=!(decide (((D9 (sub b 1 (b.length:Int))):Int)=0))) rfl rfl rfl rfl rfl rfl) rfl rfl (fun g7=>D3 (b:=6) (k:=0) (m:=0) rfl rfl rfl U0 rfl rfl) ?_
   refine E0 (C:=!(decide (((D9 (sub b 1 (b.length:Int))):Int)=0))) (p:=.sc (.bool (((D0 (sub b 10 (b.length:Int))).1).fFour))) (H8 (b:=decide (((D9 (sub b 1 (b.length:Int))):Int)=0)) (c:=!(decide (((D9 (sub b 1 (b.length:Int))):Int)=0))) rfl rfl rfl rfl rfl rfl) rfl rfl (fun g8=>F4 (s:=6) (off:=0) (ps:=(B0.cells ((D0 (sub b 10 (b.length:Int))).1))) (p:=.sc (.bool (((D0 (sub b 10 (b.length:Int))).1).fFour))) rfl rfl rfl ty4 (gt (p:=.loc 6 0) (q:=.sc undef) g8) rfl rfl rfl rfl) ?_
   refine E0 (C:=!(decide (((D9 (sub b 1 (b.length:Int))):Int)=0))) (p:=.sc (.bool (((D0 (sub b 10 (b.length:Int))).1).fFour))) (H8 (b:=decide (((D9 (sub b 1 (b.length:Int))):Int)=0)) (c:=!(decide (((D9 (sub b 1 (b.length:Int))):Int)=0))) rfl rfl rfl rfl rfl rfl) rfl rfl (fun g9=>C2 (p:=.sc (.bool (((D0 (sub b 10 (b.length:Int))).1).fFour))) rfl rfl rfl (gt (p:=.sc (.bool (((D0 (sub b 10 (b.length:Int))).1).fFour))) (q:=.sc undef) g9)) ?_
   refine E0 (C:=(!(decide (((D9 (sub b 1 (b.length:Int))):Int)=0))) && (((D0 (sub b 10 (b.length:Int))).1).fFour)) (p:=.loc 5 0) (M3 (E:=!(decide (((D9 (sub b 1 (b.length:Int))):Int)=0))) (y:=((D0 (sub b 10 (b.length:Int))).1).fFour) rfl rfl rfl rfl rfl) rfl rfl (fun g10=>D3 (b:=5) (k:=0) (m:=0) rfl rfl rfl Y4 rfl rfl) ?_
   refine E0 (C:=(!(decide (((D9 (sub b 1 (b.length:Int))):Int)=0))) && (((D0 (sub b 10 (b.length:Int))).1).fFour)) (p:=.sc (.int .i64 (D9 (sub b 1 (b.length:Int))))) (M3 (E:=!(decide (((D9 (sub b 1 (b.length:Int))):Int)=0))) (y:=((D0 (sub b 10 (b.length:Int))).1).fFour) rfl rfl rfl rfl rfl) rfl rfl (fun g11=>F4 (s:=5) (off:=0) (ps:=[.sc (.int .i64 (D9 (sub b 1 (b.length:Int)))),.sc (.int .i64 (D9 (sub b 3 (b.length:Int)))),.sc (.int .u32 (G1 (sub b 5 (b.length:Int)))),.sc (.bool false),.sc (.int .i64 0),.sc (.bool false),.sc (.bool false),.sc (.int .i64 0),.sc (.bool false),.sc (.bool false),.sc (.bool false),.sc (.int .i64 0)]) (p:=.sc (.int .i64 (D9 (sub b 1 (b.length:Int))))) rfl rfl rfl ty3 (gt (p:=.loc 5 0) (q:=.sc undef) g11) rfl rfl rfl rfl) ?_
   refine E0 (C:=(!(decide (((D9 (sub b 1 (b.length:Int))):Int)=0))) && (((D0 (sub b 10 (b.length:Int))).1).fFour)) (p:=.sc (.bool (!(decide (((D9 (sub b 1 (b.length:Int))):Int)=23456))))) (M3 (E:=!(decide (((D9 (sub b 1 (b.length:Int))):Int)=0))) (y:=((D0 (sub b 10 (b.length:Int))).1).fFour) rfl rfl rfl rfl rfl) rfl rfl (fun g12=>E6 (u1:=.int .i64 (D9 (sub b 1 (b.length:Int)))) (u2:=.int .i64 23456) (v:=.bool (!(decide (((D9 (sub b 1 (b.length:Int))):Int)=23456)))) rfl rfl rfl (gt (p:=.sc (.int .i64 (D9 (sub b 1 (b.length:Int))))) (q:=.sc undef) g12) rfl (fun _=>rfl)) ?_
   refine E0 (C:=!(decide (((D9 (sub b 1 (b.length:Int))):Int)=0))) (p:=.sc (.bool ((((D0 (sub b 10 (b.length:Int))).1).fFour) && (!(decide (((D9 (sub b 1 (b.length:Int))):Int)=23456)))))) (H8 (b:=decide (((D9 (sub b 1 (b.length:Int))):Int)=0)) (c:=!(decide (((D9 (sub b 1 (b.length:Int))):Int)=0))) rfl rfl rfl rfl rfl rfl) rfl rfl (fun g13=>J1 (b:=((D0 (sub b 10 (b.length:Int))).1).fFour) (y:=!(decide (((D9 (sub b 1 (b.length:Int))):Int)=23456))) rfl rfl rfl (gt (p:=.sc (.bool (((D0 (sub b 10 (b.length:Int))).1).fFour))) (q:=.sc undef) g13) (gA (p:=.sc (.bool (!(decide (((D9 (sub b 1 (b.length:Int))):Int)=23456))))) (q:=.sc undef) g13)) ?_
   refine E0 (C:=!(decide (((D9 (sub b 1 (b.length:Int))):Int)=0))) (p:=.sc (.bool ((((D0 (sub b 10 (b.length:Int))).1).fFour) && (!(decide (((D9 (sub b 1 (b.length:Int))):Int)=23456)))))) (H8 (b:=decide (((D9 (sub b 1 (b.length:Int))):Int)=0)) (c:=!(decide (((D9 (sub b 1 (b.length:Int))):Int)=0))) rfl rfl rfl rfl rfl rfl) rfl rfl (fun g14=>C2 (p:=.sc (.bool ((((D0 (sub b 10 (b.length:Int))).1).fFour) && (!(decide (((D9 (sub b 1 (b.length:Int))):Int)=23456)))))) rfl rfl rfl (gt (p:=.sc (.bool ((((D0 (sub b 10 (b.length:Int))).1).fFour) && (!(decide (((D9 (sub b 1 (b.length:Int))):Int)=23456)))))) (q:=.sc undef) g14)) ?_
   refine E0 (C:=(!(decide (((D9 (sub b 1 (b.length:Int))):Int)=0))) && ((((D0 (sub b 10 (b.length:Int))).1).fFour) && (!(decide (((D9 (sub b 1 (b.length:Int))):Int)=23456))))) (p:=.loc 5 0) (M3 (E:=!(decide (((D9 (sub b 1 (b.length:Int))):Int)=0))) (y:=(((D0 (sub b 10 (b.length:Int))).1).fFour) && (!(decide (((D9 (sub b 1 (b.length:Int))):Int)=23456)))) rfl rfl rfl rfl rfl) rfl rfl (fun g15=>D3 (b:=5) (k:=0) (m:=0) rfl rfl rfl Y4 rfl rfl) ?_
   refine E0 (C:=(!(decide (((D9 (sub b 1 (b.length:Int))):Int)=0))) && ((((D0 (sub b 10 (b.length:Int))).1).fFour) && (!(decide (((D9 (sub b 1 (b.length:Int))):Int)=23456))))) (p:=.sc (.int .i64 (D9 (sub b 1 (b.length:Int))))) (M3 (E:=!(decide (((D9 (sub b 1 (b.length:Int))):Int)=0))) (y:=(((D0 (sub b 10 (b.length:Int))).1).fFour) && (!(decide (((D9 (sub b 1 (b.length:Int))):Int)=23456)))) rfl rfl rfl rfl rfl) rfl rfl (fun g16=>F4 (s:=5) (off:=0) (ps:=[.sc (.int .i64 (D9 (sub b 1 (b.length:Int)))),.sc (.int .i64 (D9 (sub b 3 (b.length:Int)))),.sc (.int .u32 (G1 (sub b 5 (b.length:Int)))),.sc (.bool false),.sc (.int .i64 0),.sc (.bool false),.sc (.bool false),.sc (.int .i64 0),.sc (.bool false),.sc (.bool false),.sc (.bool false),.sc (.int .i64 0)]) (p:=.sc (.int .i64 (D9 (sub b 1 (b.length:Int))))) rfl rfl rfl ty3 (gt (p:=.loc 5 0) (q:=.sc undef) g16) rfl rfl rfl rfl) ?_
   refine E0 (C:=(!(decide (((D9 (sub b 1 (b.length:Int))):Int)=0))) && ((((D0 (sub b 10 (b.length:Int))).1).fFour) && (!(decide (((D9 (sub b 1 (b.length:Int))):Int)=23456))))) (p:=.loc 6 1) (M3 (E:=!(decide (((D9 (sub b 1 (b.length:Int))):Int)=0))) (y:=(((D0 (sub b 10 (b.length:Int))).1).fFour) && (!(decide (((D9 (sub b 1 (b.length:Int))):Int)=23456)))) rfl rfl rfl rfl rfl) rfl rfl (fun g17=>D3 (b:=6) (k:=0) (m:=1) rfl rfl rfl Q6 rfl rfl) ?_
   refine E0 (C:=(!(decide (((D9 (sub b 1 (b.length:Int))):Int)=0))) && ((((D0 (sub b 10 (b.length:Int))).1).fFour) && (!(decide (((D9 (sub b 1 (b.length:Int))):Int)=23456))))) (p:=.sc (.int .i64 (((D0 (sub b 10 (b.length:Int))).1).fAS4))) (M3 (E:=!(decide (((D9 (sub b 1 (b.length:Int))):Int)=0))) (y:=(((D0 (sub b 10 (b.length:Int))).1).fFour) && (!(decide (((D9 (sub b 1 (b.length:Int))):Int)=23456)))) rfl rfl rfl rfl rfl) rfl rfl (fun g18=>F4 (s:=6) (off:=1) (ps:=(B0.cells ((D0 (sub b 10 (b.length:Int))).1))) (p:=.sc (.int .i64 (((D0 (sub b 10 (b.length:Int))).1).fAS4))) rfl rfl rfl ty3 (gt (p:=.loc 6 1) (q:=.sc undef) g18) rfl rfl rfl rfl) ?_
   refine E0 (C:=(!(decide (((D9 (sub b 1 (b.length:Int))):Int)=0))) && ((((D0 (sub b 10 (b.length:Int))).1).fFour) && (!(decide (((D9 (sub b 1 (b.length:Int))):Int)=23456))))) (p:=.sc (.bool (!(decide (((D9 (sub b 1 (b.length:Int))):Int)=((D0 (sub b 10 (b.length:Int))).1).fAS4))))) (M3 (E:=!(decide (((D9 (sub b 1 (b.length:Int))):Int)=0))) (y:=(((D0 (sub b 10 (b.length:Int))).1).fFour) && (!(decide (((D9 (sub b 1 (b.length:Int))):Int)=23456)))) rfl rfl rfl rfl rfl) rfl rfl (fun g19=>E6 (u1:=.int .i64 (D9 (sub b 1 (b.length:Int)))) (u2:=.int .i64 (((D0 (sub b 10 (b.length:Int))).1).fAS4)) (v:=.bool (!(decide (((D9 (sub b 1 (b.length:Int))):Int)=((D0 (sub b 10 (b.length:Int))).1).fAS4)))) rfl rfl rfl (gt (p:=.sc (.int .i64 (D9 (sub b 1 (b.length:Int))))) (q:=.sc undef) g19) (gt (p:=.sc (.int .i64 (((D0 (sub b 10 (b.length:Int))).1).fAS4))) (q:=.sc undef) g19) (fun _=>rfl)) ?_
   refine E0 (C:=!(decide (((D9 (sub b 1 (b.length:Int))):Int)=0))) (p:=.sc (.bool (((((D0 (sub b 10 (b.length:Int))).1).fFour) && (!(decide (((D9 (sub b 1 (b.length:Int))):Int)=23456)))) && (!(decide (((D9 (sub b 1 (b.length:Int))):Int)=((D0 (sub b 10 (b.length:Int))).1).fAS4)))))) (H8 (b:=decide (((D9 (sub b 1 (b.length:Int))):Int)=0)) (c:=!(decide (((D9 (sub b 1 (b.length:Int))):Int)=0))) rfl rfl rfl rfl rfl rfl) rfl rfl (fun g20=>J1 (b:=(((D0 (sub b 10 (b.length:Int))).1).fFour) && (!(decide (((D9 (sub b 1 (b.length:Int))):Int)=23456)))) (y:=!(decide (((D9 (sub b 1 (b.length:Int))):Int)=((D0 (sub b 10 (b.length:Int))).1).fAS4))) rfl rfl rfl (gt (p:=.sc (.bool ((((D0 (sub b 10 (b.length:Int))).1).fFour) && (!(decide (((D9 (sub b 1 (b.length:Int))):Int)=23456)))))) (q:=.sc undef) g20) (gA (p:=.sc (.bool (!(decide (((D9 (sub b 1 (b.length:Int))):Int)=((D0 (sub b 10 (b.length:Int))).1).fAS4))))) (q:=.sc undef) g20)) ?_
   refine B4 rfl (N5 (b:=decide (((D9 (sub b 1 (b.length:Int))):Int)=0)) (y:=((((D0 (sub b 10 (b.length:Int))).1).fFour) && (!(decide (((D9 (sub b 1 (b.length:Int))):Int)=23456)))) && (!(decide (((D9 (sub b 1 (b.length:Int))):Int)=((D0 (sub b 10 (b.length:Int))).1).fAS4)))) rfl rfl rfl rfl rfl rfl) ?_
   refine D4 ?_
   refine F6 (b:=(decide (((D9 (sub b 1 (b.length:Int))):Int)=0)) || (((((D0 (sub b 10 (b.length:Int))).1).fFour) && (!(decide (((D9 (sub b 1 (b.length:Int))):Int)=23456)))) && (!(decide (((D9 (sub b 1 (b.length:Int))):Int)=((D0 (sub b 10 (b.length:Int))).1).fAS4))))) rfl (fun k21=>?_) (fun k21=>?_)
   ·skip
    refine C6 ?_
    refine B8 ?_
    refine B4 rfl (M7 (parts:=[]) (pps:=[]) (qs:=V0) rfl rfl rfl A6w rfl rfl (by kernel_rfl)) ?_
    refine B4 rfl (I1 (fn:=Tryz.f30) (xs:=[.const (.int .i64 2),.const (.int .i64 2),.const (.slice none 0 0)]) (args:=[.sc (.int .i64 2),.sc (.int .i64 2),.sc (.slice none 0 0)]) (r:=.agg (A3.cells (F2 2 2 []))) rfl rfl rfl Tryz.func30 rfl rfl rfl rfl rfl (f9 (Q4 2 2 []) (.cons (.one (.rfl _)) (.cons (.one (.rfl _)) (.cons (.one (.nil _)) .nil))))) ?_
    refine B4 rfl (G5 (s:=2) (off:=0) (ps:=V0) (p:=.agg V0) (qs:=V0) rfl rfl A0u rfl rfl rfl rfl rfl rfl rfl) ?_
    refine B4 rfl (G5 (s:=3) (off:=0) (ps:=J3) (p:=.agg (A3.cells (F2 2 2 []))) (qs:=(A3.cells (F2 2 2 []))) rfl rfl M5 rfl rfl rfl rfl rfl rfl rfl) ?_
    refine D4 ?_
    refine G2 ?_
    exact F7 (F:=(fun (z:D1 × A3)=>⟨[],[],.tup [.agg (D1.cells z.1),.agg (A3.cells z.2)]⟩)) (z:=(D5 b)) (v:=((⟨0,0,0,(⟨false,0,false,false,0,false,false,false,0⟩:B0)⟩:D1),(F2 2 2 []))) (bF k2 (bF k6 (bT k21 rfl))) rfl (.two (.cell 2 31 2 12 true V0 (.agg V0) rfl rfl A0u rfl rfl rfl) (.one (.rfl _)) rfl (.cell 3 41 3 3 true (A3.cells (F2 2 2 [])) (.agg (A3.cells (F2 2 2 []))) rfl rfl M5 rfl rfl rfl) (.one (.rfl _)) rfl) trivial trivial
   ·skip
    refine F9 ?_
    refine N8 (ι:=D1) (p:=fun y_22=>((bif ((D0 (sub b 10 (b.length:Int))).1).fFour then (⟨((D0 (sub b 10 (b.length:Int))).1).fAS4,(D9 (sub b 3 (b.length:Int))),(G1 (sub b 5 (b.length:Int))),(⟨false,0,false,false,0,false,false,false,0⟩:B0)⟩:D1) else (⟨(D9 (sub b 1 (b.length:Int))),(D9 (sub b 3 (b.length:Int))),(G1 (sub b 5 (b.length:Int))),(⟨false,0,false,false,0,false,false,false,0⟩:B0)⟩:D1)))=y_22) (S:=fun y_22=>St.of 75 [(0,.sem (SL (eI .u8) b)),(2,.loc 2 0),(3,.loc 3 0),(4,.sem (SL (eI .u8) (sub b 10 (b.length:Int)))),(5,.loc 5 0),(6,.loc 6 0),(7,.sc (.bool ((D0 (sub b 10 (b.length:Int))).2)))] [(2,V0),(3,J3),(5,[.sc (.int .i64 y_22.fAS),.sc (.int .i64 y_22.fHold),.sc (.int .u32 y_22.fID),.sc (.bool y_22.fCaps.fFour),.sc (.int .i64 y_22.fCaps.fAS4),.sc (.bool y_22.fCaps.fGR),.sc (.bool y_22.fCaps.fRestarting),.sc (.int .i64 y_22.fCaps.fTime),.sc (.bool y_22.fCaps.fFamily),.sc (.bool y_22.fCaps.fForward),.sc (.bool y_22.fCaps.fLL),.sc (.int .i64 y_22.fCaps.fLLTime)]),(6,(B0.cells ((D0 (sub b 10 (b.length:Int))).1)))] []) ?_ (fun y_22 e22=>?_)
    ·skip
     refine C6 ?_
     refine B8 ?_
     refine B4 rfl (D3 (b:=6) (k:=0) (m:=0) rfl rfl rfl U0 rfl rfl) ?_
     refine B4 rfl (F4 (s:=6) (off:=0) (ps:=(B0.cells ((D0 (sub b 10 (b.length:Int))).1))) (p:=.sc (.bool (((D0 (sub b 10 (b.length:Int))).1).fFour))) rfl rfl rfl ty4 rfl rfl rfl rfl rfl) ?_
     refine D4 ?_
     refine F6 (b:=((D0 (sub b 10 (b.length:Int))).1).fFour) rfl (fun k23=>?_) (fun k23=>?_)
     ·skip
      refine B8 ?_
      refine B4 rfl (D3 (b:=6) (k:=0) (m:=1) rfl rfl rfl Q6 rfl rfl) ?_
      refine B4 rfl (F4 (s:=6) (off:=1) (ps:=(B0.cells ((D0 (sub b 10 (b.length:Int))).1))) (p:=.sc (.int .i64 (((D0 (sub b 10 (b.length:Int))).1).fAS4))) rfl rfl rfl ty3 rfl rfl rfl rfl rfl) ?_
      refine B4 rfl (D3 (b:=5) (k:=0) (m:=0) rfl rfl rfl Y4 rfl rfl) ?_
      refine B4 rfl (G5 (s:=5) (off:=0) (ps:=[.sc (.int .i64 (D9 (sub b 1 (b.length:Int)))),.sc (.int .i64 (D9 (sub b 3 (b.length:Int)))),.sc (.int .u32 (G1 (sub b 5 (b.length:Int)))),.sc (.bool false),.sc (.int .i64 0),.sc (.bool false),.sc (.bool false),.sc (.int .i64 0),.sc (.bool false),.sc (.bool false),.sc (.bool false),.sc (.int .i64 0)]) (p:=.sc (.int .i64 (((D0 (sub b 10 (b.length:Int))).1).fAS4))) (qs:=[.sc (.int .i64 (((D0 (sub b 10 (b.length:Int))).1).fAS4)),.sc (.int .i64 (D9 (sub b 3 (b.length:Int)))),.sc (.int .u32 (G1 (sub b 5 (b.length:Int)))),.sc (.bool false),.sc (.int .i64 0),.sc (.bool false),.sc (.bool false),.sc (.int .i64 0),.sc (.bool false),.sc (.bool false),.sc (.bool false),.sc (.int .i64 0)]) rfl rfl ty3 rfl rfl rfl rfl rfl rfl rfl) ?_
      refine D4 ?_
      exact ⟨(⟨((D0 (sub b 10 (b.length:Int))).1).fAS4,(D9 (sub b 3 (b.length:Int))),(G1 (sub b 5 (b.length:Int))),(⟨false,0,false,false,0,false,false,false,0⟩:B0)⟩:D1),(bT k23 rfl),(G9 rfl ⟨⟨rfl,(.one (.rfl _))⟩,⟨⟨rfl,(.one (.rfl _))⟩,⟨⟨rfl,(.one (.rfl _))⟩,⟨⟨rfl,(.one (.rfl _))⟩,⟨⟨rfl,(.one (.rfl _))⟩,⟨⟨rfl,(.one (.rfl _))⟩,⟨⟨rfl,(.one (.rfl _))⟩,trivial⟩⟩⟩⟩⟩⟩⟩ ⟨⟨V0,rfl,(.cons (.rfl _) (.cons (.rfl _) (.cons (.rfl _) (.cons (.rfl _) (.cons (.rfl _) (.cons (.rfl _) (.cons (.rfl _) (.cons (.rfl _) (.cons (.rfl _) (.cons (.rfl _) (.cons (.rfl _) (.cons (.rfl _) .nil))))))))))))⟩,⟨⟨J3,rfl,(.cons (.rfl _) (.cons (.rfl _) (.cons (.rfl _) .nil)))⟩,⟨⟨[.sc (.int .i64 (((D0 (sub b 10 (b.length:Int))).1).fAS4)),.sc (.int .i64 (D9 (sub b 3 (b.length:Int)))),.sc (.int .u32 (G1 (sub b 5 (b.length:Int)))),.sc (.bool false),.sc (.int .i64 0),.sc (.bool false),.sc (.bool false),.sc (.int .i64 0),.sc (.bool false),.sc (.bool false),.sc (.bool false),.sc (.int .i64 0)],rfl,(.cons (wkE (f:=(fun z=>.sc (.int .i64 z))) rfl) (.cons (wkE (f:=(fun z=>.sc (.int .i64 z))) rfl) (.cons (wkE (f:=(fun z=>.sc (.int .u32 z))) rfl) (.cons (wkE (f:=(fun z=>.sc (.bool z))) rfl) (.cons (wkE (f:=(fun z=>.sc (.int .i64 z))) rfl) (.cons (wkE (f:=(fun z=>.sc (.bool z))) rfl) (.cons (wkE (f:=(fun z=>.sc (.bool z))) rfl) (.cons (wkE (f:=(fun z=>.sc (.int .i64 z))) rfl) (.cons (wkE (f:=(fun z=>.sc (.bool z))) rfl) (.cons (wkE (f:=(fun z=>.sc (.bool z))) rfl) (.cons (wkE (f:=(fun z=>.sc (.bool z))) rfl) (.cons (wkE (f:=(fun z=>.sc (.int .i64 z))) rfl) .nil))))))))))))⟩,⟨⟨(B0.cells ((D0 (sub b 10 (b.length:Int))).1)),rfl,(.cons (.rfl _) (.cons (.rfl _) (.cons (.rfl _) (.cons (.rfl _) (.cons (.rfl _) (.cons (.rfl _) (.cons (.rfl _) (.cons (.rfl _) (.cons (.rfl _) .nil)))))))))⟩,trivial⟩⟩⟩⟩ trivial)⟩
     ·skip
      refine F9 ?_
      exact ⟨(⟨(D9 (sub b 1 (b.length:Int))),(D9 (sub b 3 (b.length:Int))),(G1 (sub b 5 (b.length:Int))),(⟨false,0,false,false,0,false,false,false,0⟩:B0)⟩:D1),(bF k23 rfl),(G9 rfl ⟨⟨rfl,(.one (.rfl _))⟩,⟨⟨rfl,(.one (.rfl _))⟩,⟨⟨rfl,(.one (.rfl _))⟩,⟨⟨rfl,(.one (.rfl _))⟩,⟨⟨rfl,(.one (.rfl _))⟩,⟨⟨rfl,(.one (.rfl _))⟩,⟨⟨rfl,(.one (.rfl _))⟩,trivial⟩⟩⟩⟩⟩⟩⟩ ⟨⟨V0,rfl,(.cons (.rfl _) (.cons (.rfl _) (.cons (.rfl _) (.cons (.rfl _) (.cons (.rfl _) (.cons (.rfl _) (.cons (.rfl _) (.cons (.rfl _) (.cons (.rfl _) (.cons (.rfl _) (.cons (.rfl _) (.cons (.rfl _) .nil))))))))))))⟩,⟨⟨J3,rfl,(.cons (.rfl _) (.cons (.rfl _) (.cons (.rfl _) .nil)))⟩,⟨⟨[.sc (.int .i64 (D9 (sub b 1 (b.length:Int)))),.sc (.int .i64 (D9 (sub b 3 (b.length:Int)))),.sc (.int .u32 (G1 (sub b 5 (b.length:Int)))),.sc (.bool false),.sc (.int .i64 0),.sc (.bool false),.sc (.bool false),.sc (.int .i64 0),.sc (.bool false),.sc (.bool false),.sc (.bool false),.sc (.int .i64 0)],rfl,(.cons (wkE (f:=(fun z=>.sc (.int .i64 z))) rfl) (.cons (wkE (f:=(fun z=>.sc (.int .i64 z))) rfl) (.cons (wkE (f:=(fun z=>.sc (.int .u32 z))) rfl) (.cons (wkE (f:=(fun z=>.sc (.bool z))) rfl) (.cons (wkE (f:=(fun z=>.sc (.int .i64 z))) rfl) (.cons (wkE (f:=(fun z=>.sc (.bool z))) rfl) (.cons (wkE (f:=(fun z=>.sc (.bool z))) rfl) (.cons (wkE (f:=(fun z=>.sc (.int .i64 z))) rfl) (.cons (wkE (f:=(fun z=>.sc (.bool z))) rfl) (.cons (wkE (f:=(fun z=>.sc (.bool z))) rfl) (.cons (wkE (f:=(fun z=>.sc (.bool z))) rfl) (.cons (wkE (f:=(fun z=>.sc (.int .i64 z))) rfl) .nil))))))))))))⟩,⟨⟨(B0.cells ((D0 (sub b 10 (b.length:Int))).1)),rfl,(.cons (.rfl _) (.cons (.rfl _) (.cons (.rfl _) (.cons (.rfl _) (.cons (.rfl _) (.cons (.rfl _) (.cons (.rfl _) (.cons (.rfl _) (.cons (.rfl _) .nil)))))))))⟩,trivial⟩⟩⟩⟩ trivial)⟩
    ·skip
     refine H5 0 rfl (fun hl24=>?_)
     refine H5 4 rfl (fun hl25=>?_)
     refine C6 ?_
     refine B8 ?_
     refine B4 rfl (F4 (s:=6) (off:=0) (ps:=(B0.cells ((D0 (sub b 10 (b.length:Int))).1))) (p:=.agg (B0.cells ((D0 (sub b 10 (b.length:Int))).1))) rfl rfl rfl X9 rfl rfl rfl rfl rfl) ?_
     refine B4 rfl (D3 (b:=5) (k:=0) (m:=3) rfl rfl rfl A0d rfl rfl) ?_
     refine B4 rfl (G5 (s:=5) (off:=3) (ps:=[.sc (.int .i64 y_22.fAS),.sc (.int .i64 y_22.fHold),.sc (.int .u32 y_22.fID),.sc (.bool y_22.fCaps.fFour),.sc (.int .i64 y_22.fCaps.fAS4),.sc (.bool y_22.fCaps.fGR),.sc (.bool y_22.fCaps.fRestarting),.sc (.int .i64 y_22.fCaps.fTime),.sc (.bool y_22.fCaps.fFamily),.sc (.bool y_22.fCaps.fForward),.sc (.bool y_22.fCaps.fLL),.sc (.int .i64 y_22.fCaps.fLLTime)]) (p:=.agg (B0.cells ((D0 (sub b 10 (b.length:Int))).1))) (qs:=[.sc (.int .i64 y_22.fAS),.sc (.int .i64 y_22.fHold),.sc (.int .u32 y_22.fID),.sc (.bool (((D0 (sub b 10 (b.length:Int))).1).fFour)),.sc (.int .i64 (((D0 (sub b 10 (b.length:Int))).1).fAS4)),.sc (.bool (((D0 (sub b 10 (b.length:Int))).1).fGR)),.sc (.bool (((D0 (sub b 10 (b.length:Int))).1).fRestarting)),.sc (.int .i64 (((D0 (sub b 10 (b.length:Int))).1).fTime)),.sc (.bool (((D0 (sub b 10 (b.length:Int))).1).fFamily)),.sc (.bool (((D0 (sub b 10 (b.length:Int))).1).fForward)),.sc (.bool (((D0 (sub b 10 (b.length:Int))).1).fLL)),.sc (.int .i64 (((D0 (sub b 10 (b.length:Int))).1).fLLTime))]) rfl rfl X9 rfl rfl rfl rfl rfl rfl rfl) ?_
     refine D4 ?_
     refine C6 ?_
     refine B8 ?_
     refine B4 rfl (F4 (s:=5) (off:=0) (ps:=[.sc (.int .i64 y_22.fAS),.sc (.int .i64 y_22.fHold),.sc (.int .u32 y_22.fID),.sc (.bool (((D0 (sub b 10 (b.length:Int))).1).fFour)),.sc (.int .i64 (((D0 (sub b 10 (b.length:Int))).1).fAS4)),.sc (.bool (((D0 (sub b 10 (b.length:Int))).1).fGR)),.sc (.bool (((D0 (sub b 10 (b.length:Int))).1).fRestarting)),.sc (.int .i64 (((D0 (sub b 10 (b.length:Int))).1).fTime)),.sc (.bool (((D0 (sub b 10 (b.length:Int))).1).fFamily)),.sc (.bool (((D0 (sub b 10 (b.length:Int))).1).fForward)),.sc (.bool (((D0 (sub b 10 (b.length:Int))).1).fLL)),.sc (.int .i64 (((D0 (sub b 10 (b.length:Int))).1).fLLTime))]) (p:=.agg [.sc (.int .i64 y_22.fAS),.sc (.int .i64 y_22.fHold),.sc (.int .u32 y_22.fID),.sc (.bool (((D0 (sub b 10 (b.length:Int))).1).fFour)),.sc (.int .i64 (((D0 (sub b 10 (b.length:Int))).1).fAS4)),.sc (.bool (((D0 (sub b 10 (b.length:Int))).1).fGR)),.sc (.bool (((D0 (sub b 10 (b.length:Int))).1).fRestarting)),.sc (.int .i64 (((D0 (sub b 10 (b.length:Int))).1).fTime)),.sc (.bool (((D0 (sub b 10 (b.length:Int))).1).fFamily)),.sc (.bool (((D0 (sub b 10 (b.length:Int))).1).fForward)),.sc (.bool (((D0 (sub b 10 (b.length:Int))).1).fLL)),.sc (.int .i64 (((D0 (sub b 10 (b.length:Int))).1).fLLTime))]) rfl rfl rfl A0u rfl rfl rfl rfl rfl) ?_
     refine B4 rfl (M7 (parts:=[]) (pps:=[]) (qs:=J3) rfl rfl rfl A1o rfl rfl (by kernel_rfl)) ?_
     refine B4 rfl (G5 (s:=2) (off:=0) (ps:=V0) (p:=.agg [.sc (.int .i64 y_22.fAS),.sc (.int .i64 y_22.fHold),.sc (.int .u32 y_22.fID),.sc (.bool (((D0 (sub b 10 (b.length:Int))).1).fFour)),.sc (.int .i64 (((D0 (sub b 10 (b.length:Int))).1).fAS4)),.sc (.bool (((D0 (sub b 10 (b.length:Int))).1).fGR)),.sc (.bool (((D0 (sub b 10 (b.length:Int))).1).fRestarting)),.sc (.int .i64 (((D0 (sub b 10 (b.length:Int))).1).fTime)),.sc (.bool (((D0 (sub b 10 (b.length:Int))).1).fFamily)),.sc (.bool (((D0 (sub b 10 (b.length:Int))).1).fForward)),.sc (.bool (((D0 (sub b 10 (b.length:Int))).1).fLL)),.sc (.int .i64 (((D0 (sub b 10 (b.length:Int))).1).fLLTime))]) (qs:=[.sc (.int .i64 y_22.fAS),.sc (.int .i64 y_22.fHold),.sc (.int .u32 y_22.fID),.sc (.bool (((D0 (sub b 10 (b.length:Int))).1).fFour)),.sc (.int .i64 (((D0 (sub b 10 (b.length:Int))).1).fAS4)),.sc (.bool (((D0 (sub b 10 (b.length:Int))).1).fGR)),.sc (.bool (((D0 (sub b 10 (b.length:Int))).1).fRestarting)),.sc (.int .i64 (((D0 (sub b 10 (b.length:Int))).1).fTime)),.sc (.bool (((D0 (sub b 10 (b.length:Int))).1).fFamily)),.sc (.bool (((D0 (sub b 10 (b.length:Int))).1).fForward)),.sc (.bool (((D0 (sub b 10 (b.length:Int))).1).fLL)),.sc (.int .i64 (((D0 (sub b 10 (b.length:Int))).1).fLLTime))]) rfl rfl A0u rfl rfl rfl rfl rfl rfl rfl) ?_
     refine B4 rfl (G5 (s:=3) (off:=0) (ps:=J3) (p:=.agg J3) (qs:=J3) rfl rfl M5 rfl rfl rfl rfl rfl rfl rfl) ?_
     refine D4 ?_
     refine G2 ?_
     exact F7 (F:=(fun (z:D1 × A3)=>⟨[],[],.tup [.agg (D1.cells z.1),.agg (A3.cells z.2)]⟩)) (z:=(D5 b)) (v:=((⟨y_22.fAS,y_22.fHold,y_22.fID,((D0 (sub b 10 (b.length:Int))).1)⟩:D1),(⟨0,0,[]⟩:A3))) (bF k2 (bF k6 (bF k21 (mB e22 rfl)))) rfl (.two (.cell 2 31 2 12 true [.sc (.int .i64 y_22.fAS),.sc (.int .i64 y_22.fHold),.sc (.int .u32 y_22.fID),.sc (.bool (((D0 (sub b 10 (b.length:Int))).1).fFour)),.sc (.int .i64 (((D0 (sub b 10 (b.length:Int))).1).fAS4)),.sc (.bool (((D0 (sub b 10 (b.length:Int))).1).fGR)),.sc (.bool (((D0 (sub b 10 (b.length:Int))).1).fRestarting)),.sc (.int .i64 (((D0 (sub b 10 (b.length:Int))).1).fTime)),.sc (.bool (((D0 (sub b 10 (b.length:Int))).1).fFamily)),.sc (.bool (((D0 (sub b 10 (b.length:Int))).1).fForward)),.sc (.bool (((D0 (sub b 10 (b.length:Int))).1).fLL)),.sc (.int .i64 (((D0 (sub b 10 (b.length:Int))).1).fLLTime))] (.agg [.sc (.int .i64 y_22.fAS),.sc (.int .i64 y_22.fHold),.sc (.int .u32 y_22.fID),.sc (.bool (((D0 (sub b 10 (b.length:Int))).1).fFour)),.sc (.int .i64 (((D0 (sub b 10 (b.length:Int))).1).fAS4)),.sc (.bool (((D0 (sub b 10 (b.length:Int))).1).fGR)),.sc (.bool (((D0 (sub b 10 (b.length:Int))).1).fRestarting)),.sc (.int .i64 (((D0 (sub b 10 (b.length:Int))).1).fTime)),.sc (.bool (((D0 (sub b 10 (b.length:Int))).1).fFamily)),.sc (.bool (((D0 (sub b 10 (b.length:Int))).1).fForward)),.sc (.bool (((D0 (sub b 10 (b.length:Int))).1).fLL)),.sc (.int .i64 (((D0 (sub b 10 (b.length:Int))).1).fLLTime))]) rfl rfl A0u rfl rfl rfl) (.one (.rfl _)) rfl (.cell 3 41 3 3 true J3 (.agg J3) rfl rfl M5 rfl rfl rfl) (.agg (.cons (.rfl _) (.cons (.rfl _) (.cons (.nil _) .nil)))) rfl) trivial trivial
theorem A2u (b:List Int) (h:10 ≤ b.length) (hs:b.length ≤ 1000000) (ok_b:gdL (okI .u8) b):PF Tryz.prog 31 [.sem (SL (eI .u8) b)] (.tup [.agg (D1.cells ((D5 b).1)),.agg (A3.cells ((D5 b).2))]):=M1 (A0X b h hs ok_b) rfl
def A9 (b:List Int):A8 × A3:=
 (bif !(decide ((((E1 b).2).fCode:Int)=0)) then
  ((⟨0,(⟨0,0,0,(⟨false,0,false,false,0,false,false,false,0⟩:B0)⟩:D1),(⟨[],(⟨0,[],0,0,0,[],[]⟩:A5),[]⟩:A4),(⟨0,0,[]⟩:A3)⟩:A8),((E1 b).2))
 else
  (bif (!(decide (((E1 b).1:Int)=(b.length:Int)))) || (decide (((E1 b).1:Int)=0)) then
   ((⟨0,(⟨0,0,0,(⟨false,0,false,false,0,false,false,false,0⟩:B0)⟩:D1),(⟨[],(⟨0,[],0,0,0,[],[]⟩:A5),[]⟩:A4),(⟨0,0,[]⟩:A3)⟩:A8),(F2 1 2 []))
  else
   (bif !(decide ((((D5 (sub b 19 (b.length:Int))).2).fCode:Int)=0)) then
    ((⟨0,(⟨0,0,0,(⟨false,0,false,false,0,false,false,false,0⟩:B0)⟩:D1),(⟨[],(⟨0,[],0,0,0,[],[]⟩:A5),[]⟩:A4),(⟨0,0,[]⟩:A3)⟩:A8),((D5 (sub b 19 (b.length:Int))).2))
   else
    ((⟨(IntKind.wrap .i64 (ix b 18)),((D5 (sub b 19 (b.length:Int))).1),(⟨[],(⟨0,[],0,0,0,[],[]⟩:A5),[]⟩:A4),(⟨0,0,[]⟩:A3)⟩:A8),(⟨0,0,[]⟩:A3)))))
set_option maxRecDepth 100000 in
set_option maxHeartbeats 4000000 in
theorem A1R (b:List Int) (h1:(decide (((IntKind.wrap .i64 (ix b 18)):Int)=1))=true) (h2:29 ≤ b.length) (h3:b.length ≤ 100000) (ok_b:gdL (okI .u8) b):PG Tryz.prog 16 [] [] [.sem (SL (eI .u8) b)] (fun _:Unit=>True) (fun _=>(fun (z:A8 × A3)=>⟨[],[],.tup [.agg (A8.cells z.1),.agg (A3.cells z.2)]⟩) (A9 b)):=by
 refine M4 (N:=77) (l:=[.cell 2 43,.cell 3 41]) Tryz.func16 rfl rfl rfl (Nat.le_of_ble_eq_true rfl) fun w0 i0 F βs=>?_
 refine C6 ?_
 refine B8 ?_
 refine B4 rfl (L2 (s:=2) (z:=A5B) (qs:=N1) rfl rfl rfl rfl z43 rfl rfl) ?_
 refine B4 rfl (L2 (s:=3) (z:=A0r) (qs:=J3) rfl rfl rfl rfl z41 rfl rfl) ?_
 refine D4 ?_
 refine C6 ?_
 refine B8 ?_
 refine B4 rfl (C2 (p:=.sem (SL (eI .u8) b)) rfl rfl rfl rfl) ?_
 refine B4 rfl (I1 (fn:=Tryz.f20) (xs:=[.tmp 9]) (args:=[.sem (SL (eI .u8) b)]) (r:=.tup [.sc (.int .i64 ((E1 b).1)),.agg (A3.cells ((E1 b).2))]) rfl rfl rfl Tryz.func20 rfl rfl rfl rfl rfl (s6 b)) ?_
 refine B4 rfl (C2 (p:=.tup [.sc (.int .i64 ((E1 b).1)),.agg (A3.cells ((E1 b).2))]) rfl rfl rfl rfl) ?_
 refine B4 rfl (I2 (ps:=[.sc (.int .i64 ((E1 b).1)),.agg (A3.cells ((E1 b).2))]) (p:=.sc (.int .i64 ((E1 b).1))) rfl rfl rfl rfl rfl) ?_
 refine B4 rfl (I2 (ps:=[.sc (.int .i64 ((E1 b).1)),.agg (A3.cells ((E1 b).2))]) (p:=.agg (A3.cells ((E1 b).2))) rfl rfl rfl rfl rfl) ?_
 refine B4 rfl (L2 (s:=5) (z:=A0r) (qs:=J3) rfl rfl rfl rfl z41 rfl rfl) ?_
 refine B4 rfl (C7 (p:=.sc (.int .i64 ((E1 b).1))) rfl rfl rfl rfl) ?_
 refine B4 rfl (G5 (s:=5) (off:=0) (ps:=J3) (p:=.agg (A3.cells ((E1 b).2))) (qs:=(A3.cells ((E1 b).2))) rfl rfl M5 rfl rfl rfl rfl rfl rfl rfl) ?_
 refine D4 ?_
 refine C6 ?_
 refine H6 ?_
 refine C6 ?_
 refine B8 ?_
 refine B4 rfl (D3 (b:=5) (k:=0) (m:=0) rfl rfl rfl Q9 rfl rfl) ?_
 refine B4 rfl (F4 (s:=5) (off:=0) (ps:=(A3.cells ((E1 b).2))) (p:=.sc (.int .i64 (((E1 b).2).fCode))) rfl rfl rfl ty3 rfl rfl rfl rfl rfl) ?_
 refine B4 rfl (E6 (u1:=.int .i64 (((E1 b).2).fCode)) (u2:=.int .i64 0) (v:=.bool (!(decide ((((E1 b).2).fCode:Int)=0)))) rfl rfl rfl rfl rfl (fun _=>rfl)) ?_
 refine B4 rfl (C7 (p:=.sc (.bool (!(decide ((((E1 b).2).fCode:Int)=0))))) rfl rfl rfl rfl) ?_
 refine D4 ?_
 refine F6 (b:=!(decide ((((E1 b).2).fCode:Int)=0))) rfl (fun k1=>?_) (fun k1=>?_)
 ·skip
  refine C6 ?_
  refine Q5 { ds:=[some 17,some 18,none,none],p:=fun i=>[.agg N1,.agg (A3.cells ((E1 b).2)),.any,.any].getD i .any,al:=[],st:=[(2,2,0,N1),(3,3,0,(A3.cells ((E1 b).2)))] } rfl (by kernel_rfl) rfl rfl ?_ (fun bD hb=>?_)
  ·refine ⟨fun bD hc hi hd=>?_,fun bD hc hi hd=>?_,fun bD hc hi hd=>?_,fun bD hc hi hd=>?_,trivial⟩
   ·exact F3.putStep (i:=0) (q:=.agg N1) rfl rfl rfl (C1 rfl (M7 (parts:=[]) (pps:=[]) (qs:=N1) rfl rfl rfl A1g rfl rfl (by kernel_rfl)))
   ·exact F3.putStep (i:=1) (q:=.agg (A3.cells ((E1 b).2))) rfl rfl rfl (C1 rfl (F4 (s:=5) (off:=0) (ps:=(A3.cells ((E1 b).2))) (p:=.agg (A3.cells ((E1 b).2))) rfl rfl rfl M5 rfl rfl rfl rfl rfl))
   ·exact L5 (i:=2) (s:=2) (off:=0) (ps0:=N1) (ps:=N1) (qs:=N1) (p:=.agg N1) 0 hc hd rfl rfl rfl X7 rfl (gt (p:=.agg N1) (q:=.any) (hd 0 (by decide))) (by exact K3 (ps:=N1) rfl rfl) rfl rfl rfl rfl rfl rfl rfl hi rfl rfl (by kernel_rfl) (by kernel_rfl)
   ·exact L5 (i:=3) (s:=3) (off:=0) (ps0:=J3) (ps:=J3) (qs:=(A3.cells ((E1 b).2))) (p:=.agg (A3.cells ((E1 b).2))) 1 hc hd rfl rfl rfl M5 rfl (gt (p:=.agg (A3.cells ((E1 b).2))) (q:=.any) (hd 1 (by decide))) (by exact K3 (ps:=J3) rfl rfl) rfl rfl rfl rfl rfl rfl rfl hi rfl rfl (by kernel_rfl) (by kernel_rfl)
  obtain rfl:bD=fun _=>true:=funext hb
  refine G2 ?_
  exact F7 (F:=(fun (z:A8 × A3)=>⟨[],[],.tup [.agg (A8.cells z.1),.agg (A3.cells z.2)]⟩)) (z:=(A9 b)) (v:=((⟨0,(⟨0,0,0,(⟨false,0,false,false,0,false,false,false,0⟩:B0)⟩:D1),(⟨[],(⟨0,[],0,0,0,[],[]⟩:A5),[]⟩:A4),(⟨0,0,[]⟩:A3)⟩:A8),((E1 b).2))) (bT k1 rfl) rfl (.two (.cell 2 43 2 25 true N1 (.agg N1) rfl rfl X7 rfl rfl rfl) (.agg (.cons (.rfl _) (.cons (.rfl _) (.cons (.rfl _) (.cons (.rfl _) (.cons (.rfl _) (.cons (.rfl _) (.cons (.rfl _) (.cons (.rfl _) (.cons (.rfl _) (.cons (.rfl _) (.cons (.rfl _) (.cons (.rfl _) (.cons (.rfl _) (.cons (.nil _) (.cons (.rfl _) (.cons (.nil _) (.cons (.rfl _) (.cons (.rfl _) (.cons (.rfl _) (.cons (.nil _) (.cons (.nil _) (.cons (.nil _) (.cons (.rfl _) (.cons (.rfl _) (.cons (.nil _) .nil)))))))))))))))))))))))))) rfl (.cell 3 41 3 3 true (A3.cells ((E1 b).2)) (.agg (A3.cells ((E1 b).2))) rfl rfl M5 rfl rfl rfl) (.one (.rfl _)) rfl) trivial trivial
 ·skip
  refine C6 ?_
  refine B8 ?_
  refine B4 rfl (C2 (p:=.sc (.int .i64 ((E1 b).1))) rfl rfl rfl rfl) ?_
  refine B4 rfl (C2 (p:=.sem (SL (eI .u8) b)) rfl rfl rfl rfl) ?_
  refine B4 rfl (L6 rfl rfl rfl Tryz.underlying22 (E3 rfl)) ?_
  refine B4 rfl (E6 (u1:=.int .i64 ((E1 b).1)) (u2:=.int .i64 (b.length:Int)) (v:=.bool (!(decide (((E1 b).1:Int)=(b.length:Int))))) rfl rfl rfl rfl rfl (fun _=>rfl)) ?_
  refine B4 rfl (C2 (p:=.sc (.bool (!(decide (((E1 b).1:Int)=(b.length:Int)))))) rfl rfl rfl rfl) ?_
  refine E0 (C:=decide (((E1 b).1:Int)=(b.length:Int))) (p:=.sc (.int .i64 ((E1 b).1))) (H8 (b:=!(decide (((E1 b).1:Int)=(b.length:Int)))) (c:=decide (((E1 b).1:Int)=(b.length:Int))) rfl rfl rfl rfl rfl (Bool.not_not _)) rfl rfl (fun g2=>C2 (p:=.sc (.int .i64 ((E1 b).1))) rfl rfl rfl rfl) ?_
  refine E0 (C:=decide (((E1 b).1:Int)=(b.length:Int))) (p:=.sc (.bool (decide (((E1 b).1:Int)=0)))) (H8 (b:=!(decide (((E1 b).1:Int)=(b.length:Int)))) (c:=decide (((E1 b).1:Int)=(b.length:Int))) rfl rfl rfl rfl rfl (Bool.not_not _)) rfl rfl (fun g3=>E6 (u1:=.int .i64 ((E1 b).1)) (u2:=.int .i64 0) (v:=.bool (decide (((E1 b).1:Int)=0))) rfl rfl rfl (gt (p:=.sc (.int .i64 ((E1 b).1))) (q:=.sc undef) g3) rfl (fun _=>rfl)) ?_
  refine B4 rfl (N5 (b:=!(decide (((E1 b).1:Int)=(b.length:Int)))) (y:=decide (((E1 b).1:Int)=0)) rfl rfl rfl rfl rfl (Bool.not_not _)) ?_
  refine B4 rfl (C7 (p:=.sc (.bool ((!(decide (((E1 b).1:Int)=(b.length:Int)))) || (decide (((E1 b).1:Int)=0))))) rfl rfl rfl rfl) ?_
  refine D4 ?_
  refine F6 (b:=(!(decide (((E1 b).1:Int)=(b.length:Int)))) || (decide (((E1 b).1:Int)=0))) rfl (fun k4=>?_) (fun k4=>?_)
  ·skip
   refine C6 ?_
   refine B8 ?_
   refine B4 rfl (M7 (parts:=[]) (pps:=[]) (qs:=N1) rfl rfl rfl A1g rfl rfl (by kernel_rfl)) ?_
   refine B4 rfl (I1 (fn:=Tryz.f30) (xs:=[.const (.int .i64 1),.const (.int .i64 2),.const (.slice none 0 0)]) (args:=[.sc (.int .i64 1),.sc (.int .i64 2),.sc (.slice none 0 0)]) (r:=.agg (A3.cells (F2 1 2 []))) rfl rfl rfl Tryz.func30 rfl rfl rfl rfl rfl (f9 (Q4 1 2 []) (.cons (.one (.rfl _)) (.cons (.one (.rfl _)) (.cons (.one (.nil _)) .nil))))) ?_
   refine B4 rfl (G5 (s:=2) (off:=0) (ps:=N1) (p:=.agg N1) (qs:=N1) rfl rfl X7 rfl rfl rfl rfl rfl rfl rfl) ?_
   refine B4 rfl (G5 (s:=3) (off:=0) (ps:=J3) (p:=.agg (A3.cells (F2 1 2 []))) (qs:=(A3.cells (F2 1 2 []))) rfl rfl M5 rfl rfl rfl rfl rfl rfl rfl) ?_
   refine D4 ?_
   refine G2 ?_
   exact F7 (F:=(fun (z:A8 × A3)=>⟨[],[],.tup [.agg (A8.cells z.1),.agg (A3.cells z.2)]⟩)) (z:=(A9 b)) (v:=((⟨0,(⟨0,0,0,(⟨false,0,false,false,0,false,false,false,0⟩:B0)⟩:D1),(⟨[],(⟨0,[],0,0,0,[],[]⟩:A5),[]⟩:A4),(⟨0,0,[]⟩:A3)⟩:A8),(F2 1 2 []))) (bF k1 (bT k4 rfl)) rfl (.two (.cell 2 43 2 25 true N1 (.agg N1) rfl rfl X7 rfl rfl rfl) (.agg (.cons (.rfl _) (.cons (.rfl _) (.cons (.rfl _) (.cons (.rfl _) (.cons (.rfl _) (.cons (.rfl _) (.cons (.rfl _) (.cons (.rfl _) (.cons (.rfl _) (.cons (.rfl _) (.cons (.rfl _) (.cons (.rfl _) (.cons (.rfl _) (.cons (.nil _) (.cons (.rfl _) (.cons (.nil _) (.cons (.rfl _) (.cons (.rfl _) (.cons (.rfl _) (.cons (.nil _) (.cons (.nil _) (.cons (.nil _) (.cons (.rfl _) (.cons (.rfl _) (.cons (.nil _) .nil)))))))))))))))))))))))))) rfl (.cell 3 41 3 3 true (A3.cells (F2 1 2 [])) (.agg (A3.cells (F2 1 2 []))) rfl rfl M5 rfl rfl rfl) (.one (.rfl _)) rfl) trivial trivial
  ·skip
   refine F9 ?_
   refine C6 ?_
   refine B8 ?_
   refine B4 rfl (C2 (p:=.sem (SL (eI .u8) b)) rfl rfl rfl rfl) ?_
   have hx5:=O5 ok_b 18
   refine B4 rfl (N6 (E:=(eI .u8)) (l:=b) (n:=18) (ps:=[.sc (.int .u8 (ix b 18))]) rfl rfl rfl Tryz.underlying22 ty5 (E3 rfl) rfl (by first | omega | ((try simp only [z1,z2,z3,z4,z5,z6,z7,z8,z9,zA,zB,zC,zD,D2,C9,C4,C3,C5,B5,B6,B7,A7,A6,C0,D8,E8,E9] at *); omega) | ((try simp only [z1,z2,z3,z4,z5,z6,z7,z8,z9,zA,B5,B6,B7,A7,A6,C0,D8,E8,E9] at *); (try simp (disch:=omega) only [C8]); (try simp only [z1,z2,z3,z4,z5,z6,z7,z8,z9,zA,zB,zC,zD,D2,C9,C4,C3,C5,B5,B6,B7] at *); omega)) rfl) ?_
   refine B4 rfl (G4 (ps:=[.sc (.int .u8 (ix b 18))]) (p:=.sc (.int .u8 (ix b 18))) rfl rfl rfl ty5 rfl rfl rfl rfl rfl) ?_
   refine B4 rfl (G8 (m:=(IntKind.wrap .i64 (ix b 18))) rfl rfl rfl Tryz.underlying5 Tryz.underlying3 rfl rfl) ?_
   refine B4 rfl (M7 (parts:=[(0,.tmp 33)]) (pps:=[(0,.sc (.int .i64 (IntKind.wrap .i64 (ix b 18))))]) (qs:=[.sc (.int .i64 (IntKind.wrap .i64 (ix b 18))),.sc (.int .i64 0),.sc (.int .i64 0),.sc (.int .u32 0),.sc (.bool false),.sc (.int .i64 0),.sc (.bool false),.sc (.bool false),.sc (.int .i64 0),.sc (.bool false),.sc (.bool false),.sc (.bool false),.sc (.int .i64 0),.sc (.slice none 0 0),.sc (.int .i64 0),.sc (.slice none 0 0),.sc (.int .u32 0),.sc (.int .i64 0),.sc (.int .i64 0),.sc (.slice none 0 0),.sc (.slice none 0 0),.sc (.slice none 0 0),.sc (.int .i64 0),.sc (.int .i64 0),.sc (.slice none 0 0)]) rfl rfl rfl A1g rfl rfl (by kernel_rfl)) ?_
   refine B4 rfl (L2 (s:=6) (z:=A5B) (qs:=N1) rfl rfl rfl rfl z43 rfl rfl) ?_
   refine B4 rfl (G5 (s:=6) (off:=0) (ps:=N1) (p:=.agg [.sc (.int .i64 (IntKind.wrap .i64 (ix b 18))),.sc (.int .i64 0),.sc (.int .i64 0),.sc (.int .u32 0),.sc (.bool false),.sc (.int .i64 0),.sc (.bool false),.sc (.bool false),.sc (.int .i64 0),.sc (.bool false),.sc (.bool false),.sc (.bool false),.sc (.int .i64 0),.sc (.slice none 0 0),.sc (.int .i64 0),.sc (.slice none 0 0),.sc (.int .u32 0),.sc (.int .i64 0),.sc (.int .i64 0),.sc (.slice none 0 0),.sc (.slice none 0 0),.sc (.slice none 0 0),.sc (.int .i64 0),.sc (.int .i64 0),.sc (.slice none 0 0)]) (qs:=[.sc (.int .i64 (IntKind.wrap .i64 (ix b 18))),.sc (.int .i64 0),.sc (.int .i64 0),.sc (.int .u32 0),.sc (.bool false),.sc (.int .i64 0),.sc (.bool false),.sc (.bool false),.sc (.int .i64 0),.sc (.bool false),.sc (.bool false),.sc (.bool false),.sc (.int .i64 0),.sc (.slice none 0 0),.sc (.int .i64 0),.sc (.slice none 0 0),.sc (.int .u32 0),.sc (.int .i64 0),.sc (.int .i64 0),.sc (.slice none 0 0),.sc (.slice none 0 0),.sc (.slice none 0 0),.sc (.int .i64 0),.sc (.int .i64 0),.sc (.slice none 0 0)]) rfl rfl X7 rfl rfl rfl rfl rfl rfl rfl) ?_
   refine D4 ?_
   refine C6 ?_
   refine B8 ?_
   refine B4 rfl (C2 (p:=.sem (SL (eI .u8) b)) rfl rfl rfl rfl) ?_
   refine B4 rfl (K0 (E:=(eI .u8)) (l:=b) (i:=19) (j:=(b.length:Int)) rfl rfl rfl Tryz.underlying22 ty5 (E3 rfl) (I0 rfl) (L3 rfl) (show 0 ≤ 19 ∧ 19 ≤ (b.length:Int) ∧ (b.length:Int) ≤ (b.length:Int) from (by first | omega | ((try simp only [z1,z2,z3,z4,z5,z6,z7,z8,z9,zA,zB,zC,zD,D2,C9,C4,C3,C5,B5,B6,B7,A7,A6,C0,D8,E8,E9] at *); omega) | ((try simp only [z1,z2,z3,z4,z5,z6,z7,z8,z9,zA,B5,B6,B7,A7,A6,C0,D8,E8,E9] at *); (try simp (disch:=omega) only [C8]); (try simp only [z1,z2,z3,z4,z5,z6,z7,z8,z9,zA,zB,zC,zD,D2,C9,C4,C3,C5,B5,B6,B7] at *); omega)))) ?_
   refine B4 rfl (C7 (p:=.sem (SL (eI .u8) (sub b 19 (b.length:Int)))) rfl rfl rfl rfl) ?_
   refine D4 ?_
   refine C6 ?_
   refine C6 ?_
   refine B8 ?_
   refine B4 rfl (D3 (b:=6) (k:=0) (m:=0) rfl rfl rfl X5 rfl rfl) ?_
   refine B4 rfl (F4 (s:=6) (off:=0) (ps:=[.sc (.int .i64 (IntKind.wrap .i64 (ix b 18))),.sc (.int .i64 0),.sc (.int .i64 0),.sc (.int .u32 0),.sc (.bool false),.sc (.int .i64 0),.sc (.bool false),.sc (.bool false),.sc (.int .i64 0),.sc (.bool false),.sc (.bool false),.sc (.bool false),.sc (.int .i64 0),.sc (.slice none 0 0),.sc (.int .i64 0),.sc (.slice none 0 0),.sc (.int .u32 0),.sc (.int .i64 0),.sc (.int .i64 0),.sc (.slice none 0 0),.sc (.slice none 0 0),.sc (.slice none 0 0),.sc (.int .i64 0),.sc (.int .i64 0),.sc (.slice none 0 0)]) (p:=.sc (.int .i64 (IntKind.wrap .i64 (ix b 18)))) rfl rfl rfl ty3 rfl rfl rfl rfl rfl) ?_
   refine D4 ?_
   refine H6 ?_
   refine C6 ?_
   refine B8 ?_
   refine B4 rfl (E6 (u1:=.int .i64 (IntKind.wrap .i64 (ix b 18))) (u2:=.int .i64 1) (v:=.bool (decide (((IntKind.wrap .i64 (ix b 18)):Int)=1))) rfl rfl rfl rfl rfl (fun _=>rfl)) ?_
   refine B4 rfl (C7 (p:=.sc (.bool (decide (((IntKind.wrap .i64 (ix b 18)):Int)=1)))) rfl rfl rfl rfl) ?_
   refine D4 ?_
   refine F6 (b:=decide (((IntKind.wrap .i64 (ix b 18)):Int)=1)) rfl (fun h=>?_) (fun h=>absurd (h.symm.trans h1) (by decide))
   refine B8 ?_
   refine B4 rfl (C2 (p:=.sem (SL (eI .u8) (sub b 19 (b.length:Int)))) rfl rfl rfl rfl) ?_
   refine B4 rfl (I1 (fn:=Tryz.f31) (xs:=[.tmp 42]) (args:=[.sem (SL (eI .u8) (sub b 19 (b.length:Int)))]) (r:=.tup [.agg (D1.cells ((D5 (sub b 19 (b.length:Int))).1)),.agg (A3.cells ((D5 (sub b 19 (b.length:Int))).2))]) rfl rfl rfl Tryz.func31 rfl rfl rfl rfl rfl (A2u (sub b 19 (b.length:Int)) (by first | omega | ((try simp only [z1,z2,z3,z4,z5,z6,z7,z8,z9,zA,zB,zC,zD,D2,C9,C4,C3,C5,B5,B6,B7,A7,A6,C0,D8,E8,E9] at *); omega) | ((try simp only [z1,z2,z3,z4,z5,z6,z7,z8,z9,zA,B5,B6,B7,A7,A6,C0,D8,E8,E9] at *); (try simp (disch:=omega) only [C8]); (try simp only [z1,z2,z3,z4,z5,z6,z7,z8,z9,zA,zB,zC,zD,D2,C9,C4,C3,C5,B5,B6,B7] at *); omega)) (by first | omega | ((try simp only [z1,z2,z3,z4,z5,z6,z7,z8,z9,zA,zB,zC,zD,D2,C9,C4,C3,C5,B5,B6,B7,A7,A6,C0,D8,E8,E9] at *); omega) | ((try simp only [z1,z2,z3,z4,z5,z6,z7,z8,z9,zA,B5,B6,B7,A7,A6,C0,D8,E8,E9] at *); (try simp (disch:=omega) only [C8]); (try simp only [z1,z2,z3,z4,z5,z6,z7,z8,z9,zA,zB,zC,zD,D2,C9,C4,C3,C5,B5,B6,B7] at *); omega)) (S4 ok_b))) ?_
   refine B4 rfl (C2 (p:=.tup [.agg (D1.cells ((D5 (sub b 19 (b.length:Int))).1)),.agg (A3.cells ((D5 (sub b 19 (b.length:Int))).2))]) rfl rfl rfl rfl) ?_
   refine B4 rfl (I2 (ps:=[.agg (D1.cells ((D5 (sub b 19 (b.length:Int))).1)),.agg (A3.cells ((D5 (sub b 19 (b.length:Int))).2))]) (p:=.agg (D1.cells ((D5 (sub b 19 (b.length:Int))).1))) rfl rfl rfl rfl rfl) ?_
   refine B4 rfl (I2 (ps:=[.agg (D1.cells ((D5 (sub b 19 (b.length:Int))).1)),.agg (A3.cells ((D5 (sub b 19 (b.length:Int))).2))]) (p:=.agg (A3.cells ((D5 (sub b 19 (b.length:Int))).2))) rfl rfl rfl rfl rfl) ?_
   refine B4 rfl (D3 (b:=6) (k:=0) (m:=1) rfl rfl rfl A6F rfl rfl) ?_
   refine B4 rfl (G5 (s:=6) (off:=1) (ps:=[.sc (.int .i64 (IntKind.wrap .i64 (ix b 18))),.sc (.int .i64 0),.sc (.int .i64 0),.sc (.int .u32 0),.sc (.bool false),.sc (.int .i64 0),.sc (.bool false),.sc (.bool false),.sc (.int .i64 0),.sc (.bool false),.sc (.bool false),.sc (.bool false),.sc (.int .i64 0),.sc (.slice none 0 0),.sc (.int .i64 0),.sc (.slice none 0 0),.sc (.int .u32 0),.sc (.int .i64 0),.sc (.int .i64 0),.sc (.slice none 0 0),.sc (.slice none 0 0),.sc (.slice none 0 0),.sc (.int .i64 0),.sc (.int .i64 0),.sc (.slice none 0 0)]) (p:=.agg (D1.cells ((D5 (sub b 19 (b.length:Int))).1))) (qs:=[.sc (.int .i64 (IntKind.wrap .i64 (ix b 18))),.sc (.int .i64 (((D5 (sub b 19 (b.length:Int))).1).fAS)),.sc (.int .i64 (((D5 (sub b 19 (b.length:Int))).1).fHold)),.sc (.int .u32 (((D5 (sub b 19 (b.length:Int))).1).fID)),.sc (.bool ((((D5 (sub b 19 (b.length:Int))).1).fCaps).fFour)),.sc (.int .i64 ((((D5 (sub b 19 (b.length:Int))).1).fCaps).fAS4)),.sc (.bool ((((D5 (sub b 19 (b.length:Int))).1).fCaps).fGR)),.sc (.bool ((((D5 (sub b 19 (b.length:Int))).1).fCaps).fRestarting)),.sc (.int .i64 ((((D5 (sub b 19 (b.length:Int))).1).fCaps).fTime)),.sc (.bool ((((D5 (sub b 19 (b.length:Int))).1).fCaps).fFamily)),.sc (.bool ((((D5 (sub b 19 (b.length:Int))).1).fCaps).fForward)),.sc (.bool ((((D5 (sub b 19 (b.length:Int))).1).fCaps).fLL)),.sc (.int .i64 ((((D5 (sub b 19 (b.length:Int))).1).fCaps).fLLTime)),.sc (.slice none 0 0),.sc (.int .i64 0),.sc (.slice none 0 0),.sc (.int .u32 0),.sc (.int .i64 0),.sc (.int .i64 0),.sc (.slice none 0 0),.sc (.slice none 0 0),.sc (.slice none 0 0),.sc (.int .i64 0),.sc (.int .i64 0),.sc (.slice none 0 0)]) rfl rfl A0u rfl rfl rfl rfl rfl rfl rfl) ?_
   refine B4 rfl (G5 (s:=5) (off:=0) (ps:=(A3.cells ((E1 b).2))) (p:=.agg (A3.cells ((D5 (sub b 19 (b.length:Int))).2))) (qs:=(A3.cells ((D5 (sub b 19 (b.length:Int))).2))) rfl rfl M5 rfl rfl rfl rfl rfl rfl rfl) ?_
   refine D4 ?_
   refine C6 ?_
   refine C6 ?_
   refine B8 ?_
   refine B4 rfl (D3 (b:=5) (k:=0) (m:=0) rfl rfl rfl Q9 rfl rfl) ?_
   refine B4 rfl (F4 (s:=5) (off:=0) (ps:=(A3.cells ((D5 (sub b 19 (b.length:Int))).2))) (p:=.sc (.int .i64 (((D5 (sub b 19 (b.length:Int))).2).fCode))) rfl rfl rfl ty3 rfl rfl rfl rfl rfl) ?_
   refine B4 rfl (E6 (u1:=.int .i64 (((D5 (sub b 19 (b.length:Int))).2).fCode)) (u2:=.int .i64 0) (v:=.bool (!(decide ((((D5 (sub b 19 (b.length:Int))).2).fCode:Int)=0)))) rfl rfl rfl rfl rfl (fun _=>rfl)) ?_
   refine D4 ?_
   refine F6 (b:=!(decide ((((D5 (sub b 19 (b.length:Int))).2).fCode:Int)=0))) rfl (fun k6=>?_) (fun k6=>?_)
   ·skip
    refine C6 ?_
    refine Q5 { ds:=[some 73,some 74,none,none],p:=fun i=>[.agg N1,.agg (A3.cells ((D5 (sub b 19 (b.length:Int))).2)),.any,.any].getD i .any,al:=[],st:=[(2,2,0,N1),(3,3,0,(A3.cells ((D5 (sub b 19 (b.length:Int))).2)))] } rfl (by kernel_rfl) rfl rfl ?_ (fun bD hb=>?_)
    ·refine ⟨fun bD hc hi hd=>?_,fun bD hc hi hd=>?_,fun bD hc hi hd=>?_,fun bD hc hi hd=>?_,trivial⟩
     ·exact F3.putStep (i:=0) (q:=.agg N1) rfl rfl rfl (C1 rfl (M7 (parts:=[]) (pps:=[]) (qs:=N1) rfl rfl rfl A1g rfl rfl (by kernel_rfl)))
     ·exact F3.putStep (i:=1) (q:=.agg (A3.cells ((D5 (sub b 19 (b.length:Int))).2))) rfl rfl rfl (C1 rfl (F4 (s:=5) (off:=0) (ps:=(A3.cells ((D5 (sub b 19 (b.length:Int))).2))) (p:=.agg (A3.cells ((D5 (sub b 19 (b.length:Int))).2))) rfl rfl rfl M5 rfl rfl rfl rfl rfl))
     ·exact L5 (i:=2) (s:=2) (off:=0) (ps0:=N1) (ps:=N1) (qs:=N1) (p:=.agg N1) 0 hc hd rfl rfl rfl X7 rfl (gt (p:=.agg N1) (q:=.any) (hd 0 (by decide))) (by exact K3 (ps:=N1) rfl rfl) rfl rfl rfl rfl rfl rfl rfl hi rfl rfl (by kernel_rfl) (by kernel_rfl)
     ·exact L5 (i:=3) (s:=3) (off:=0) (ps0:=J3) (ps:=J3) (qs:=(A3.cells ((D5 (sub b 19 (b.length:Int))).2))) (p:=.agg (A3.cells ((D5 (sub b 19 (b.length:Int))).2))) 1 hc hd rfl rfl rfl M5 rfl (gt (p:=.agg (A3.cells ((D5 (sub b 19 (b.length:Int))).2))) (q:=.any) (hd 1 (by decide))) (by exact K3 (ps:=J3) rfl rfl) rfl rfl rfl rfl rfl rfl rfl hi rfl rfl (by kernel_rfl) (by kernel_rfl)
    obtain rfl:bD=fun _=>true:=funext hb
    refine G2 ?_
    exact F7 (F:=(fun (z:A8 × A3)=>⟨[],[],.tup [.agg (A8.cells z.1),.agg (A3.cells z.2)]⟩)) (z:=(A9 b)) (v:=((⟨0,(⟨0,0,0,(⟨false,0,false,false,0,false,false,false,0⟩:B0)⟩:D1),(⟨[],(⟨0,[],0,0,0,[],[]⟩:A5),[]⟩:A4),(⟨0,0,[]⟩:A3)⟩:A8),((D5 (sub b 19 (b.length:Int))).2))) (bF k1 (bF k4 (bT k6 rfl))) rfl (.two (.cell 2 43 2 25 true N1 (.agg N1) rfl rfl X7 rfl rfl rfl) (.agg (.cons (.rfl _) (.cons (.rfl _) (.cons (.rfl _) (.cons (.rfl _) (.cons (.rfl _) (.cons (.rfl _) (.cons (.rfl _) (.cons (.rfl _) (.cons (.rfl _) (.cons (.rfl _) (.cons (.rfl _) (.cons (.rfl _) (.cons (.rfl _) (.cons (.nil _) (.cons (.rfl _) (.cons (.nil _) (.cons (.rfl _) (.cons (.rfl _) (.cons (.rfl _) (.cons (.nil _) (.cons (.nil _) (.cons (.nil _) (.cons (.rfl _) (.cons (.rfl _) (.cons (.nil _) .nil)))))))))))))))))))))))))) rfl (.cell 3 41 3 3 true (A3.cells ((D5 (sub b 19 (b.length:Int))).2)) (.agg (A3.cells ((D5 (sub b 19 (b.length:Int))).2))) rfl rfl M5 rfl rfl rfl) (.one (.rfl _)) rfl) trivial trivial
   ·skip
    refine F9 ?_
    refine C6 ?_
    refine B8 ?_
    refine B4 rfl (F4 (s:=6) (off:=0) (ps:=[.sc (.int .i64 (IntKind.wrap .i64 (ix b 18))),.sc (.int .i64 (((D5 (sub b 19 (b.length:Int))).1).fAS)),.sc (.int .i64 (((D5 (sub b 19 (b.length:Int))).1).fHold)),.sc (.int .u32 (((D5 (sub b 19 (b.length:Int))).1).fID)),.sc (.bool ((((D5 (sub b 19 (b.length:Int))).1).fCaps).fFour)),.sc (.int .i64 ((((D5 (sub b 19 (b.length:Int))).1).fCaps).fAS4)),.sc (.bool ((((D5 (sub b 19 (b.length:Int))).1).fCaps).fGR)),.sc (.bool ((((D5 (sub b 19 (b.length:Int))).1).fCaps).fRestarting)),.sc (.int .i64 ((((D5 (sub b 19 (b.length:Int))).1).fCaps).fTime)),.sc (.bool ((((D5 (sub b 19 (b.length:Int))).1).fCaps).fFamily)),.sc (.bool ((((D5 (sub b 19 (b.length:Int))).1).fCaps).fForward)),.sc (.bool ((((D5 (sub b 19 (b.length:Int))).1).fCaps).fLL)),.sc (.int .i64 ((((D5 (sub b 19 (b.length:Int))).1).fCaps).fLLTime)),.sc (.slice none 0 0),.sc (.int .i64 0),.sc (.slice none 0 0),.sc (.int .u32 0),.sc (.int .i64 0),.sc (.int .i64 0),.sc (.slice none 0 0),.sc (.slice none 0 0),.sc (.slice none 0 0),.sc (.int .i64 0),.sc (.int .i64 0),.sc (.slice none 0 0)]) (p:=.agg [.sc (.int .i64 (IntKind.wrap .i64 (ix b 18))),.sc (.int .i64 (((D5 (sub b 19 (b.length:Int))).1).fAS)),.sc (.int .i64 (((D5 (sub b 19 (b.length:Int))).1).fHold)),.sc (.int .u32 (((D5 (sub b 19 (b.length:Int))).1).fID)),.sc (.bool ((((D5 (sub b 19 (b.length:Int))).1).fCaps).fFour)),.sc (.int .i64 ((((D5 (sub b 19 (b.length:Int))).1).fCaps).fAS4)),.sc (.bool ((((D5 (sub b 19 (b.length:Int))).1).fCaps).fGR)),.sc (.bool ((((D5 (sub b 19 (b.length:Int))).1).fCaps).fRestarting)),.sc (.int .i64 ((((D5 (sub b 19 (b.length:Int))).1).fCaps).fTime)),.sc (.bool ((((D5 (sub b 19 (b.length:Int))).1).fCaps).fFamily)),.sc (.bool ((((D5 (sub b 19 (b.length:Int))).1).fCaps).fForward)),.sc (.bool ((((D5 (sub b 19 (b.length:Int))).1).fCaps).fLL)),.sc (.int .i64 ((((D5 (sub b 19 (b.length:Int))).1).fCaps).fLLTime)),.sc (.slice none 0 0),.sc (.int .i64 0),.sc (.slice none 0 0),.sc (.int .u32 0),.sc (.int .i64 0),.sc (.int .i64 0),.sc (.slice none 0 0),.sc (.slice none 0 0),.sc (.slice none 0 0),.sc (.int .i64 0),.sc (.int .i64 0),.sc (.slice none 0 0)]) rfl rfl rfl X7 rfl rfl rfl rfl rfl) ?_
    refine B4 rfl (M7 (parts:=[]) (pps:=[]) (qs:=J3) rfl rfl rfl A1o rfl rfl (by kernel_rfl)) ?_
    refine B4 rfl (G5 (s:=2) (off:=0) (ps:=N1) (p:=.agg [.sc (.int .i64 (IntKind.wrap .i64 (ix b 18))),.sc (.int .i64 (((D5 (sub b 19 (b.length:Int))).1).fAS)),.sc (.int .i64 (((D5 (sub b 19 (b.length:Int))).1).fHold)),.sc (.int .u32 (((D5 (sub b 19 (b.length:Int))).1).fID)),.sc (.bool ((((D5 (sub b 19 (b.length:Int))).1).fCaps).fFour)),.sc (.int .i64 ((((D5 (sub b 19 (b.length:Int))).1).fCaps).fAS4)),.sc (.bool ((((D5 (sub b 19 (b.length:Int))).1).fCaps).fGR)),.sc (.bool ((((D5 (sub b 19 (b.length:Int))).1).fCaps).fRestarting)),.sc (.int .i64 ((((D5 (sub b 19 (b.length:Int))).1).fCaps).fTime)),.sc (.bool ((((D5 (sub b 19 (b.length:Int))).1).fCaps).fFamily)),.sc (.bool ((((D5 (sub b 19 (b.length:Int))).1).fCaps).fForward)),.sc (.bool ((((D5 (sub b 19 (b.length:Int))).1).fCaps).fLL)),.sc (.int .i64 ((((D5 (sub b 19 (b.length:Int))).1).fCaps).fLLTime)),.sc (.slice none 0 0),.sc (.int .i64 0),.sc (.slice none 0 0),.sc (.int .u32 0),.sc (.int .i64 0),.sc (.int .i64 0),.sc (.slice none 0 0),.sc (.slice none 0 0),.sc (.slice none 0 0),.sc (.int .i64 0),.sc (.int .i64 0),.sc (.slice none 0 0)]) (qs:=[.sc (.int .i64 (IntKind.wrap .i64 (ix b 18))),.sc (.int .i64 (((D5 (sub b 19 (b.length:Int))).1).fAS)),.sc (.int .i64 (((D5 (sub b 19 (b.length:Int))).1).fHold)),.sc (.int .u32 (((D5 (sub b 19 (b.length:Int))).1).fID)),.sc (.bool ((((D5 (sub b 19 (b.length:Int))).1).fCaps).fFour)),.sc (.int .i64 ((((D5 (sub b 19 (b.length:Int))).1).fCaps).fAS4)),.sc (.bool ((((D5 (sub b 19 (b.length:Int))).1).fCaps).fGR)),.sc (.bool ((((D5 (sub b 19 (b.length:Int))).1).fCaps).fRestarting)),.sc (.int .i64 ((((D5 (sub b 19 (b.length:Int))).1).fCaps).fTime)),.sc (.bool ((((D5 (sub b 19 (b.length:Int))).1).fCaps).fFamily)),.sc (.bool ((((D5 (sub b 19 (b.length:Int))).1).fCaps).fForward)),.sc (.bool ((((D5 (sub b 19 (b.length:Int))).1).fCaps).fLL)),.sc (.int .i64 ((((D5 (sub b 19 (b.length:Int))).1).fCaps).fLLTime)),.sc (.slice none 0 0),.sc (.int .i64 0),.sc (.slice none 0 0),.sc (.int .u32 0),.sc (.int .i64 0),.sc (.int .i64 0),.sc (.slice none 0 0),.sc (.slice none 0 0),.sc (.slice none 0 0),.sc (.int .i64 0),.sc (.int .i64 0),.sc (.slice none 0 0)]) rfl rfl X7 rfl rfl rfl rfl rfl rfl rfl) ?_
    refine B4 rfl (G5 (s:=3) (off:=0) (ps:=J3) (p:=.agg J3) (qs:=J3) rfl rfl M5 rfl rfl rfl rfl rfl rfl rfl) ?_
    refine D4 ?_
    refine G2 ?_
    exact F7 (F:=(fun (z:A8 × A3)=>⟨[],[],.tup [.agg (A8.cells z.1),.agg (A3.cells z.2)]⟩)) (z:=(A9 b)) (v:=((⟨(IntKind.wrap .i64 (ix b 18)),((D5 (sub b 19 (b.length:Int))).1),(⟨[],(⟨0,[],0,0,0,[],[]⟩:A5),[]⟩:A4),(⟨0,0,[]⟩:A3)⟩:A8),(⟨0,0,[]⟩:A3))) (bF k1 (bF k4 (bF k6 rfl))) rfl (.two (.cell 2 43 2 25 true [.sc (.int .i64 (IntKind.wrap .i64 (ix b 18))),.sc (.int .i64 (((D5 (sub b 19 (b.length:Int))).1).fAS)),.sc (.int .i64 (((D5 (sub b 19 (b.length:Int))).1).fHold)),.sc (.int .u32 (((D5 (sub b 19 (b.length:Int))).1).fID)),.sc (.bool ((((D5 (sub b 19 (b.length:Int))).1).fCaps).fFour)),.sc (.int .i64 ((((D5 (sub b 19 (b.length:Int))).1).fCaps).fAS4)),.sc (.bool ((((D5 (sub b 19 (b.length:Int))).1).fCaps).fGR)),.sc (.bool ((((D5 (sub b 19 (b.length:Int))).1).fCaps).fRestarting)),.sc (.int .i64 ((((D5 (sub b 19 (b.length:Int))).1).fCaps).fTime)),.sc (.bool ((((D5 (sub b 19 (b.length:Int))).1).fCaps).fFamily)),.sc (.bool ((((D5 (sub b 19 (b.length:Int))).1).fCaps).fForward)),.sc (.bool ((((D5 (sub b 19 (b.length:Int))).1).fCaps).fLL)),.sc (.int .i64 ((((D5 (sub b 19 (b.length:Int))).1).fCaps).fLLTime)),.sc (.slice none 0 0),.sc (.int .i64 0),.sc (.slice none 0 0),.sc (.int .u32 0),.sc (.int .i64 0),.sc (.int .i64 0),.sc (.slice none 0 0),.sc (.slice none 0 0),.sc (.slice none 0 0),.sc (.int .i64 0),.sc (.int .i64 0),.sc (.slice none 0 0)] (.agg [.sc (.int .i64 (IntKind.wrap .i64 (ix b 18))),.sc (.int .i64 (((D5 (sub b 19 (b.length:Int))).1).fAS)),.sc (.int .i64 (((D5 (sub b 19 (b.length:Int))).1).fHold)),.sc (.int .u32 (((D5 (sub b 19 (b.length:Int))).1).fID)),.sc (.bool ((((D5 (sub b 19 (b.length:Int))).1).fCaps).fFour)),.sc (.int .i64 ((((D5 (sub b 19 (b.length:Int))).1).fCaps).fAS4)),.sc (.bool ((((D5 (sub b 19 (b.length:Int))).1).fCaps).fGR)),.sc (.bool ((((D5 (sub b 19 (b.length:Int))).1).fCaps).fRestarting)),.sc (.int .i64 ((((D5 (sub b 19 (b.length:Int))).1).fCaps).fTime)),.sc (.bool ((((D5 (sub b 19 (b.length:Int))).1).fCaps).fFamily)),.sc (.bool ((((D5 (sub b 19 (b.length:Int))).1).fCaps).fForward)),.sc (.bool ((((D5 (sub b 19 (b.length:Int))).1).fCaps).fLL)),.sc (.int .i64 ((((D5 (sub b 19 (b.length:Int))).1).fCaps).fLLTime)),.sc (.slice none 0 0),.sc (.int .i64 0),.sc (.slice none 0 0),.sc (.int .u32 0),.sc (.int .i64 0),.sc (.int .i64 0),.sc (.slice none 0 0),.sc (.slice none 0 0),.sc (.slice none 0 0),.sc (.int .i64 0),.sc (.int .i64 0),.sc (.slice none 0 0)]) rfl rfl X7 rfl rfl rfl) (.agg (.cons (.rfl _) (.cons (.rfl _) (.cons (.rfl _) (.cons (.rfl _) (.cons (.rfl _) (.cons (.rfl _) (.cons (.rfl _) (.cons (.rfl _) (.cons (.rfl _) (.cons (.rfl _) (.cons (.rfl _) (.cons (.rfl _) (.cons (.rfl _) (.cons (.nil _) (.cons (.rfl _) (.cons (.nil _) (.cons (.rfl _) (.cons (.rfl _) (.cons (.rfl _) (.cons (.nil _) (.cons (.nil _) (.cons (.nil _) (.cons (.rfl _) (.cons (.rfl _) (.cons (.nil _) .nil)))))))))))))))))))))))))) rfl (.cell 3 41 3 3 true J3 (.agg J3) rfl rfl M5 rfl rfl rfl) (.agg (.cons (.rfl _) (.cons (.rfl _) (.cons (.nil _) .nil)))) rfl) trivial trivial
theorem Y7 (b:List Int) (h1:(decide (((IntKind.wrap .i64 (ix b 18)):Int)=1))=true) (h2:29 ≤ b.length) (h3:b.length ≤ 100000) (ok_b:gdL (okI .u8) b):PF Tryz.prog 16 [.sem (SL (eI .u8) b)] (.tup [.agg (A8.cells ((A9 b).1)),.agg (A3.cells ((A9 b).2))]):=M1 (A1R b h1 h2 h3 ok_b) rfl
end Go.Proofs.YtadmpldpipagnaaGreatDoor
