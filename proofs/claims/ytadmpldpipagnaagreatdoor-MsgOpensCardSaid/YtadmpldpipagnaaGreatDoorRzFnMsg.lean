import Derived.Test.YtadmpldpipagnaaGreatDoorRzFnCapq
namespace Go.Proofs.YtadmpldpipagnaaGreatDoor
open Go.Ab
set_option linter.unusedSimpArgs false
set_option linter.unusedVariables false
def D9 (b:List Int):Int:=
 (ior .i64 (IntKind.wrap .i64 ((IntKind.wrap .i64 (ix b 0)) * 2 ^ 8)) (IntKind.wrap .i64 (ix b 1)))
set_option maxRecDepth 100000 in
set_option maxHeartbeats 4000000 in
theorem A3P (b:List Int) (h:2 ≤ b.length):PG Tryz.prog 35 [] [] [.sem (SL (eI .u8) b)] (fun _:Unit=>True) (fun _=>(fun (z:Int)=>⟨[],[],.sc (.int .i64 z)⟩) (D9 b)):=by
 refine M4 (N:=13) (l:=[.tmp 2]) Tryz.func35 rfl rfl rfl (Nat.le_of_ble_eq_true rfl) fun w0 i0 F βs=>?_
 refine C6 ?_
 refine B8 ?_
 refine B4 rfl (C7 (p:=.sc (.int .i64 0)) rfl rfl rfl rfl) ?_
 refine D4 ?_
 refine C6 ?_
 refine Q5 { ds:=[some 3,some 4,some 5,some 6,some 7,some 8,some 9,some 10,some 11,some 12,some 2],p:=fun i=>[.sem (SL (eI .u8) b),.sem (PT [.sc (.int .u8 (ix b 0))]),.sc (.int .u8 (ix b 0)),.sc (.int .i64 (IntKind.wrap .i64 (ix b 0))),.sc (.int .i64 (IntKind.wrap .i64 ((IntKind.wrap .i64 (ix b 0)) * 2 ^ 8))),.sem (SL (eI .u8) b),.sem (PT [.sc (.int .u8 (ix b 1))]),.sc (.int .u8 (ix b 1)),.sc (.int .i64 (IntKind.wrap .i64 (ix b 1))),.sc (.int .i64 (ior .i64 (IntKind.wrap .i64 ((IntKind.wrap .i64 (ix b 0)) * 2 ^ 8)) (IntKind.wrap .i64 (ix b 1)))),.sc (.int .i64 (ior .i64 (IntKind.wrap .i64 ((IntKind.wrap .i64 (ix b 0)) * 2 ^ 8)) (IntKind.wrap .i64 (ix b 1))))].getD i .any,al:=[],st:=[] } rfl (by kernel_rfl) rfl rfl ?_ (fun bD hb=>?_)
 ·refine ⟨fun bD hc hi hd=>?_,fun bD hc hi hd=>?_,fun bD hc hi hd=>?_,fun bD hc hi hd=>?_,fun bD hc hi hd=>?_,fun bD hc hi hd=>?_,fun bD hc hi hd=>?_,fun bD hc hi hd=>?_,fun bD hc hi hd=>?_,fun bD hc hi hd=>?_,fun bD hc hi hd=>?_,trivial⟩
  ·exact F3.putStep (i:=0) (q:=.sem (SL (eI .u8) b)) rfl rfl rfl (C1 rfl (C2 (p:=.sem (SL (eI .u8) b)) rfl rfl rfl rfl))
  ·exact F3.putStep (i:=1) (q:=.sem (PT [.sc (.int .u8 (ix b 0))])) rfl rfl rfl (C1 rfl (N6 (E:=(eI .u8)) (l:=b) (n:=0) (ps:=[.sc (.int .u8 (ix b 0))]) rfl rfl rfl Tryz.underlying22 ty5 (by exact (E3 (by exact (gt (p:=.sem (SL (eI .u8) b)) (q:=.any) (hd 0 (by decide)))))) rfl (by first | omega | ((try simp only [z1,z2,z3,z4,z5,z6,z7,z8,z9,zA,zB,zC,zD,D2,C9,C4,C3,C5,B5,B6,B7,A7,A6,C0] at *); omega) | ((try simp only [z1,z2,z3,z4,z5,z6,z7,z8,z9,zA,B5,B6,B7,A7,A6,C0] at *); (try simp (disch:=omega) only [C8]); (try simp only [z1,z2,z3,z4,z5,z6,z7,z8,z9,zA,zB,zC,zD,D2,C9,C4,C3,C5,B5,B6,B7] at *); omega)) rfl))
  ·exact F3.putStep (i:=2) (q:=.sc (.int .u8 (ix b 0))) rfl rfl rfl (C1 rfl (G4 (ps:=[.sc (.int .u8 (ix b 0))]) (p:=.sc (.int .u8 (ix b 0))) rfl rfl rfl ty5 (gt (p:=.sem (PT [.sc (.int .u8 (ix b 0))])) (q:=.any) (hd 1 (by decide))) rfl rfl rfl rfl))
  ·exact F3.putStep (i:=3) (q:=.sc (.int .i64 (IntKind.wrap .i64 (ix b 0)))) rfl rfl rfl (C1 rfl (G8 (m:=(IntKind.wrap .i64 (ix b 0))) rfl rfl rfl Tryz.underlying5 Tryz.underlying3 (gt (p:=.sc (.int .u8 (ix b 0))) (q:=.any) (hd 2 (by decide))) rfl))
  ·exact F3.putStep (i:=4) (q:=.sc (.int .i64 (IntKind.wrap .i64 ((IntKind.wrap .i64 (ix b 0)) * 2 ^ 8)))) rfl rfl rfl (C1 rfl (E6 (u1:=.int .i64 (IntKind.wrap .i64 (ix b 0))) (u2:=.int .u64 8) (v:=.int .i64 (IntKind.wrap .i64 ((IntKind.wrap .i64 (ix b 0)) * 2 ^ 8))) rfl rfl rfl (gt (p:=.sc (.int .i64 (IntKind.wrap .i64 (ix b 0)))) (q:=.any) (hd 3 (by decide))) rfl (fun _=>rfl)))
  ·exact F3.putStep (i:=5) (q:=.sem (SL (eI .u8) b)) rfl rfl rfl (C1 rfl (C2 (p:=.sem (SL (eI .u8) b)) rfl rfl rfl rfl))
  ·exact F3.putStep (i:=6) (q:=.sem (PT [.sc (.int .u8 (ix b 1))])) rfl rfl rfl (C1 rfl (N6 (E:=(eI .u8)) (l:=b) (n:=1) (ps:=[.sc (.int .u8 (ix b 1))]) rfl rfl rfl Tryz.underlying22 ty5 (by exact (E3 (by exact (gt (p:=.sem (SL (eI .u8) b)) (q:=.any) (hd 5 (by decide)))))) rfl (by first | omega | ((try simp only [z1,z2,z3,z4,z5,z6,z7,z8,z9,zA,zB,zC,zD,D2,C9,C4,C3,C5,B5,B6,B7,A7,A6,C0] at *); omega) | ((try simp only [z1,z2,z3,z4,z5,z6,z7,z8,z9,zA,B5,B6,B7,A7,A6,C0] at *); (try simp (disch:=omega) only [C8]); (try simp only [z1,z2,z3,z4,z5,z6,z7,z8,z9,zA,zB,zC,zD,D2,C9,C4,C3,C5,B5,B6,B7] at *); omega)) rfl))
  ·exact F3.putStep (i:=7) (q:=.sc (.int .u8 (ix b 1))) rfl rfl rfl (C1 rfl (G4 (ps:=[.sc (.int .u8 (ix b 1))]) (p:=.sc (.int .u8 (ix b 1))) rfl rfl rfl ty5 (gt (p:=.sem (PT [.sc (.int .u8 (ix b 1))])) (q:=.any) (hd 6 (by decide))) rfl rfl rfl rfl))
  ·exact F3.putStep (i:=8) (q:=.sc (.int .i64 (IntKind.wrap .i64 (ix b 1)))) rfl rfl rfl (C1 rfl (G8 (m:=(IntKind.wrap .i64 (ix b 1))) rfl rfl rfl Tryz.underlying5 Tryz.underlying3 (gt (p:=.sc (.int .u8 (ix b 1))) (q:=.any) (hd 7 (by decide))) rfl))
  ·exact F3.putStep (i:=9) (q:=.sc (.int .i64 (ior .i64 (IntKind.wrap .i64 ((IntKind.wrap .i64 (ix b 0)) * 2 ^ 8)) (IntKind.wrap .i64 (ix b 1))))) rfl rfl rfl (C1 rfl (E6 (u1:=.int .i64 (IntKind.wrap .i64 ((IntKind.wrap .i64 (ix b 0)) * 2 ^ 8))) (u2:=.int .i64 (IntKind.wrap .i64 (ix b 1))) (v:=.int .i64 (ior .i64 (IntKind.wrap .i64 ((IntKind.wrap .i64 (ix b 0)) * 2 ^ 8)) (IntKind.wrap .i64 (ix b 1)))) rfl rfl rfl (gt (p:=.sc (.int .i64 (IntKind.wrap .i64 ((IntKind.wrap .i64 (ix b 0)) * 2 ^ 8)))) (q:=.any) (hd 4 (by decide))) (gt (p:=.sc (.int .i64 (IntKind.wrap .i64 (ix b 1)))) (q:=.any) (hd 8 (by decide))) (fun _=>rfl)))
  ·exact F3.putStep (i:=10) (q:=.sc (.int .i64 (ior .i64 (IntKind.wrap .i64 ((IntKind.wrap .i64 (ix b 0)) * 2 ^ 8)) (IntKind.wrap .i64 (ix b 1))))) rfl rfl rfl (C1 rfl (C7 (p:=.sc (.int .i64 (ior .i64 (IntKind.wrap .i64 ((IntKind.wrap .i64 (ix b 0)) * 2 ^ 8)) (IntKind.wrap .i64 (ix b 1))))) rfl rfl rfl (gt (p:=.sc (.int .i64 (ior .i64 (IntKind.wrap .i64 ((IntKind.wrap .i64 (ix b 0)) * 2 ^ 8)) (IntKind.wrap .i64 (ix b 1))))) (q:=.any) (hd 9 (by decide)))))
 obtain rfl:bD=fun _=>true:=funext hb
 refine G2 ?_
 exact F7 (F:=(fun (z:Int)=>⟨[],[],.sc (.int .i64 z)⟩)) (z:=(D9 b)) (v:=(ior .i64 (IntKind.wrap .i64 ((IntKind.wrap .i64 (ix b 0)) * 2 ^ 8)) (IntKind.wrap .i64 (ix b 1)))) rfl rfl (.one (.tmp 2 (.sc (.int .i64 (ior .i64 (IntKind.wrap .i64 ((IntKind.wrap .i64 (ix b 0)) * 2 ^ 8)) (IntKind.wrap .i64 (ix b 1))))) rfl) (.one (.rfl _)) rfl) trivial trivial
theorem s4 (b:List Int) (h:2 ≤ b.length):PF Tryz.prog 35 [.sem (SL (eI .u8) b)] (.sc (.int .i64 (D9 b))):=M1 (A3P b h) rfl
def F2 (code:Int) (sub:Int) (data:List Int):A3:=
 (⟨code,sub,data⟩:A3)
set_option maxRecDepth 100000 in
set_option maxHeartbeats 4000000 in
theorem A3x (code:Int) (sub:Int) (data:List Int):PG Tryz.prog 30 [] [] [.sc (.int .i64 code),.sc (.int .i64 sub),.sem (SL (eI .u8) data)] (fun _:Unit=>True) (fun _=>(fun (z:A3)=>⟨[],[],.agg (A3.cells z)⟩) (F2 code sub data)):=by
 refine M4 (N:=11) (l:=[.cell 6 41]) Tryz.func30 rfl rfl rfl (Nat.le_of_ble_eq_true rfl) fun w0 i0 F βs=>?_
 refine C6 ?_
 refine B8 ?_
 refine B4 rfl (L2 (s:=6) (z:=A0r) (qs:=J3) rfl rfl rfl rfl z41 rfl rfl) ?_
 refine D4 ?_
 refine C6 ?_
 refine B8 ?_
 refine B4 rfl (C2 (p:=.sc (.int .i64 code)) rfl rfl rfl rfl) ?_
 refine B4 rfl (C2 (p:=.sc (.int .i64 sub)) rfl rfl rfl rfl) ?_
 refine B4 rfl (C2 (p:=.sem (SL (eI .u8) data)) rfl rfl rfl rfl) ?_
 refine B4 rfl (M7 (parts:=[(0,.tmp 7),(1,.tmp 8),(2,.tmp 9)]) (pps:=[(0,.sc (.int .i64 code)),(1,.sc (.int .i64 sub)),(2,.sem (SL (eI .u8) data))]) (qs:=[.sc (.int .i64 code),.sc (.int .i64 sub),.sem (SL (eI .u8) data)]) rfl rfl rfl A1o rfl rfl (by kernel_rfl)) ?_
 refine B4 rfl (G5 (s:=6) (off:=0) (ps:=J3) (p:=.agg [.sc (.int .i64 code),.sc (.int .i64 sub),.sem (SL (eI .u8) data)]) (qs:=[.sc (.int .i64 code),.sc (.int .i64 sub),.sem (SL (eI .u8) data)]) rfl rfl M5 rfl rfl rfl rfl rfl rfl rfl) ?_
 refine D4 ?_
 refine G2 ?_
 exact F7 (F:=(fun (z:A3)=>⟨[],[],.agg (A3.cells z)⟩)) (z:=(F2 code sub data)) (v:=(⟨code,sub,data⟩:A3)) rfl rfl (.one (.cell 6 41 6 3 true [.sc (.int .i64 code),.sc (.int .i64 sub),.sem (SL (eI .u8) data)] (.agg [.sc (.int .i64 code),.sc (.int .i64 sub),.sem (SL (eI .u8) data)]) rfl rfl M5 rfl rfl rfl) (.one (.rfl _)) rfl) trivial trivial
theorem Q4 (code:Int) (sub:Int) (data:List Int):PF Tryz.prog 30 [.sc (.int .i64 code),.sc (.int .i64 sub),.sem (SL (eI .u8) data)] (.agg (A3.cells (F2 code sub data))):=M1 (A3x code sub data) rfl
def P5 (kind:Int) (size:Int):Bool:=
 (bif decide ((kind:Int)=1) then
  decide ((size:Int) < 29)
 else
  (bif decide ((kind:Int)=2) then
   decide ((size:Int) < 23)
  else
   (bif decide ((kind:Int)=3) then
    decide ((size:Int) < 21)
   else
    !(decide ((size:Int)=19)))))
set_option maxRecDepth 100000 in
set_option maxHeartbeats 4000000 in
theorem A3c (kind:Int) (size:Int):PG Tryz.prog 37 [] [] [.sc (.int .i64 kind),.sc (.int .i64 size)] (fun _:Unit=>True) (fun _=>(fun (z:Bool)=>⟨[],[],.sc (.bool z)⟩) (P5 kind size)):=by
 refine M4 (N:=20) (l:=[.tmp 4]) Tryz.func37 rfl rfl rfl (Nat.le_of_ble_eq_true rfl) fun w0 i0 F βs=>?_
 refine C6 ?_
 refine B8 ?_
 refine B4 rfl (C7 (p:=.sc (.bool false)) rfl rfl rfl rfl) ?_
 refine D4 ?_
 refine C6 ?_
 refine C6 ?_
 refine B8 ?_
 refine B4 rfl (C2 (p:=.sc (.int .i64 kind)) rfl rfl rfl rfl) ?_
 refine D4 ?_
 refine H6 ?_
 refine C6 ?_
 refine B8 ?_
 refine B4 rfl (E6 (u1:=.int .i64 kind) (u2:=.int .i64 1) (v:=.bool (decide ((kind:Int)=1))) rfl rfl rfl rfl rfl (fun _=>rfl)) ?_
 refine B4 rfl (C7 (p:=.sc (.bool (decide ((kind:Int)=1)))) rfl rfl rfl rfl) ?_
 refine D4 ?_
 refine F6 (b:=decide ((kind:Int)=1)) rfl (fun k1=>?_) (fun k1=>?_)
 ·skip
  refine C6 ?_
  refine B8 ?_
  refine B4 rfl (C2 (p:=.sc (.int .i64 size)) rfl rfl rfl rfl) ?_
  refine B4 rfl (E6 (u1:=.int .i64 size) (u2:=.int .i64 29) (v:=.bool (decide ((size:Int) < 29))) rfl rfl rfl rfl rfl (fun _=>rfl)) ?_
  refine B4 rfl (C7 (p:=.sc (.bool (decide ((size:Int) < 29)))) rfl rfl rfl rfl) ?_
  refine D4 ?_
  refine G2 ?_
  exact F7 (F:=(fun (z:Bool)=>⟨[],[],.sc (.bool z)⟩)) (z:=(P5 kind size)) (v:=decide ((size:Int) < 29)) (bT k1 rfl) rfl (.one (.tmp 4 (.sc (.bool (decide ((size:Int) < 29)))) rfl) (.one (.rfl _)) rfl) trivial trivial
 ·skip
  refine C6 ?_
  refine B8 ?_
  refine B4 rfl (E6 (u1:=.int .i64 kind) (u2:=.int .i64 2) (v:=.bool (decide ((kind:Int)=2))) rfl rfl rfl rfl rfl (fun _=>rfl)) ?_
  refine B4 rfl (C7 (p:=.sc (.bool (decide ((kind:Int)=2)))) rfl rfl rfl rfl) ?_
  refine D4 ?_
  refine F6 (b:=decide ((kind:Int)=2)) rfl (fun k2=>?_) (fun k2=>?_)
  ·skip
   refine C6 ?_
   refine B8 ?_
   refine B4 rfl (C2 (p:=.sc (.int .i64 size)) rfl rfl rfl rfl) ?_
   refine B4 rfl (E6 (u1:=.int .i64 size) (u2:=.int .i64 23) (v:=.bool (decide ((size:Int) < 23))) rfl rfl rfl rfl rfl (fun _=>rfl)) ?_
   refine B4 rfl (C7 (p:=.sc (.bool (decide ((size:Int) < 23)))) rfl rfl rfl rfl) ?_
   refine D4 ?_
   refine G2 ?_
   exact F7 (F:=(fun (z:Bool)=>⟨[],[],.sc (.bool z)⟩)) (z:=(P5 kind size)) (v:=decide ((size:Int) < 23)) (bF k1 (bT k2 rfl)) rfl (.one (.tmp 4 (.sc (.bool (decide ((size:Int) < 23)))) rfl) (.one (.rfl _)) rfl) trivial trivial
  ·skip
   refine C6 ?_
   refine B8 ?_
   refine B4 rfl (E6 (u1:=.int .i64 kind) (u2:=.int .i64 3) (v:=.bool (decide ((kind:Int)=3))) rfl rfl rfl rfl rfl (fun _=>rfl)) ?_
   refine B4 rfl (C7 (p:=.sc (.bool (decide ((kind:Int)=3)))) rfl rfl rfl rfl) ?_
   refine D4 ?_
   refine F6 (b:=decide ((kind:Int)=3)) rfl (fun k3=>?_) (fun k3=>?_)
   ·skip
    refine C6 ?_
    refine B8 ?_
    refine B4 rfl (C2 (p:=.sc (.int .i64 size)) rfl rfl rfl rfl) ?_
    refine B4 rfl (E6 (u1:=.int .i64 size) (u2:=.int .i64 21) (v:=.bool (decide ((size:Int) < 21))) rfl rfl rfl rfl rfl (fun _=>rfl)) ?_
    refine B4 rfl (C7 (p:=.sc (.bool (decide ((size:Int) < 21)))) rfl rfl rfl rfl) ?_
    refine D4 ?_
    refine G2 ?_
    exact F7 (F:=(fun (z:Bool)=>⟨[],[],.sc (.bool z)⟩)) (z:=(P5 kind size)) (v:=decide ((size:Int) < 21)) (bF k1 (bF k2 (bT k3 rfl))) rfl (.one (.tmp 4 (.sc (.bool (decide ((size:Int) < 21)))) rfl) (.one (.rfl _)) rfl) trivial trivial
   ·skip
    refine F9 ?_
    refine C6 ?_
    refine B8 ?_
    refine B4 rfl (C2 (p:=.sc (.int .i64 size)) rfl rfl rfl rfl) ?_
    refine B4 rfl (E6 (u1:=.int .i64 size) (u2:=.int .i64 19) (v:=.bool (!(decide ((size:Int)=19)))) rfl rfl rfl rfl rfl (fun _=>rfl)) ?_
    refine B4 rfl (C7 (p:=.sc (.bool (!(decide ((size:Int)=19))))) rfl rfl rfl rfl) ?_
    refine D4 ?_
    refine G2 ?_
    exact F7 (F:=(fun (z:Bool)=>⟨[],[],.sc (.bool z)⟩)) (z:=(P5 kind size)) (v:=!(decide ((size:Int)=19))) (bF k1 (bF k2 (bF k3 rfl))) rfl (.one (.tmp 4 (.sc (.bool (!(decide ((size:Int)=19))))) rfl) (.one (.rfl _)) rfl) trivial trivial
theorem A4F (kind:Int) (size:Int):PF Tryz.prog 37 [.sc (.int .i64 kind),.sc (.int .i64 size)] (.sc (.bool (P5 kind size))):=M1 (A3c kind size) rfl
def M2 (s:List Int) (c:Int):Int:=
 (A1B s c:Int)
set_option maxRecDepth 100000 in
set_option maxHeartbeats 4000000 in
theorem A1h (s:List Int) (c:Int):PG Tryz.prog 36 [] [] [.sem (SL (eI .u8) s),.sem (SL (eI .u8) [c])] (fun _:Unit=>True) (fun _=>(fun (z:Int)=>⟨[],[],.sc (.int .i64 z)⟩) (M2 s c)):=by
 refine M4 (N:=35) (l:=[.tmp 4]) Tryz.func36 rfl rfl rfl (Nat.le_of_ble_eq_true rfl) fun w0 i0 F βs=>?_
 refine H5 0 rfl (fun hl1=>?_)
 refine H5 1 rfl (fun hl2=>?_)
 refine C6 ?_
 refine B8 ?_
 refine B4 rfl (C7 (p:=.sc (.int .i64 0)) rfl rfl rfl rfl) ?_
 refine D4 ?_
 refine C6 ?_
 refine C6 ?_
 refine B8 ?_
 refine B4 rfl (C2 (p:=.sem (SL (eI .u8) [c])) rfl rfl rfl rfl) ?_
 refine B4 rfl (L6 (l:=[c]) rfl rfl rfl Tryz.underlying22 (E3 rfl)) ?_
 refine B4 rfl (E6 (u1:=.int .i64 1) (u2:=.int .i64 0) (v:=.bool false) rfl rfl rfl rfl rfl (fun _=>rfl)) ?_
 refine D4 ?_
 refine F6 (b:=false) rfl (fun h=>by cases h) (fun _=>?_)
 refine F9 ?_
 refine C6 ?_
 refine C6 ?_
 refine B8 ?_
 refine B4 rfl (C2 (p:=.sem (SL (eI .u8) [c])) rfl rfl rfl rfl) ?_
 refine B4 rfl (L6 (l:=[c]) rfl rfl rfl Tryz.underlying22 (E3 rfl)) ?_
 refine B4 rfl (E6 (u1:=.int .i64 1) (u2:=.int .i64 1) (v:=.bool true) rfl rfl rfl rfl rfl (fun _=>rfl)) ?_
 refine D4 ?_
 refine F6 (b:=true) rfl (fun _=>?_) (fun h=>by cases h)
 refine C6 ?_
 refine B8 ?_
 refine B4 rfl (C2 (p:=.sem (SL (eI .u8) s)) rfl rfl rfl rfl) ?_
 refine B4 rfl (C2 (p:=.sem (SL (eI .u8) [c])) rfl rfl rfl rfl) ?_
 refine B4 rfl (A2c (E:=(eI .u8)) (l:=[c]) (y:=c) (n:=0) rfl rfl rfl Tryz.underlying22 ty5 (E3 rfl) rfl (by decide) rfl) ?_
 refine B4 rfl (G4 (ps:=[.sc (.int .u8 c)]) (p:=.sc (.int .u8 c)) rfl rfl rfl ty5 rfl rfl rfl rfl rfl) ?_
 refine B4 rfl (A8j (fn:=Tryz.f60) (l:=s) (c:=c) rfl rfl rfl Tryz.func60 rfl rfl (by kernel_rfl) (by kernel_rfl) (E3 rfl) rfl) ?_
 refine B4 rfl (C7 (p:=.sc (.int .i64 (A1B s c:Int))) rfl rfl rfl rfl) ?_
 refine D4 ?_
 refine G2 ?_
 exact F7 (F:=(fun (z:Int)=>⟨[],[],.sc (.int .i64 z)⟩)) (z:=(M2 s c)) (v:=(A1B s c:Int)) rfl rfl (.one (.tmp 4 (.sc (.int .i64 (A1B s c:Int))) rfl) (.one (.rfl _)) rfl) trivial trivial
theorem A2p (s:List Int) (c:Int):PF Tryz.prog 36 [.sem (SL (eI .u8) s),.sem (SL (eI .u8) [c])] (.sc (.int .i64 (M2 s c))):=M1 (A1h s c) rfl
def E1 (b:List Int):Int × A3:=
 (bif decide (((b.length:Int):Int) < 19) then
  (0,(⟨0,0,[]⟩:A3))
 else
  (bif !(decide (((M2 (sub b 0 16) 255):Int)=16)) then
   (0,(F2 1 1 []))
  else
   (bif (decide (((D9 (sub b 16 (b.length:Int))):Int) < 19)) || (decide ((4096:Int) < (D9 (sub b 16 (b.length:Int))))) then
    (0,(F2 1 2 [(ix b 16),(ix b 17)]))
   else
    (bif (decide (((IntKind.wrap .i64 (ix b 18)):Int) < 1)) || (decide ((4:Int) < (IntKind.wrap .i64 (ix b 18)))) then
     (0,(F2 1 3 [(ix b 18)]))
    else
     (bif (P5 (IntKind.wrap .i64 (ix b 18)) (D9 (sub b 16 (b.length:Int)))) then
      (0,(F2 1 2 [(ix b 16),(ix b 17)]))
     else
      ((D9 (sub b 16 (b.length:Int))),(⟨0,0,[]⟩:A3)))))))
set_option maxRecDepth 100000 in
set_option maxHeartbeats 4000000 in
theorem A3M (b:List Int):PG Tryz.prog 20 [] [] [.sem (SL (eI .u8) b)] (fun _:Unit=>True) (fun _=>(fun (z:Int × A3)=>⟨[],[],.tup [.sc (.int .i64 z.1),.agg (A3.cells z.2)]⟩) (E1 b)):=by
 refine M4 (N:=60) (l:=[.tmp 2,.cell 3 41]) Tryz.func20 rfl rfl rfl (Nat.le_of_ble_eq_true rfl) fun w0 i0 F βs=>?_
 refine C6 ?_
 refine B8 ?_
 refine B4 rfl (C7 (p:=.sc (.int .i64 0)) rfl rfl rfl rfl) ?_
 refine B4 rfl (L2 (s:=3) (z:=A0r) (qs:=J3) rfl rfl rfl rfl z41 rfl rfl) ?_
 refine D4 ?_
 refine C6 ?_
 refine C6 ?_
 refine B8 ?_
 refine B4 rfl (C2 (p:=.sem (SL (eI .u8) b)) rfl rfl rfl rfl) ?_
 refine B4 rfl (L6 rfl rfl rfl Tryz.underlying22 (E3 rfl)) ?_
 refine B4 rfl (E6 (u1:=.int .i64 (b.length:Int)) (u2:=.int .i64 19) (v:=.bool (decide (((b.length:Int):Int) < 19))) rfl rfl rfl rfl rfl (fun _=>rfl)) ?_
 refine D4 ?_
 refine F6 (b:=decide (((b.length:Int):Int) < 19)) rfl (fun k1=>?_) (fun k1=>?_)
 ·skip
  refine C6 ?_
  refine B8 ?_
  refine B4 rfl (M7 (parts:=[]) (pps:=[]) (qs:=J3) rfl rfl rfl A1o rfl rfl (by kernel_rfl)) ?_
  refine B4 rfl (C7 (p:=.sc (.int .i64 0)) rfl rfl rfl rfl) ?_
  refine B4 rfl (G5 (s:=3) (off:=0) (ps:=J3) (p:=.agg J3) (qs:=J3) rfl rfl M5 rfl rfl rfl rfl rfl rfl rfl) ?_
  refine D4 ?_
  refine G2 ?_
  exact F7 (F:=(fun (z:Int × A3)=>⟨[],[],.tup [.sc (.int .i64 z.1),.agg (A3.cells z.2)]⟩)) (z:=(E1 b)) (v:=(0,(⟨0,0,[]⟩:A3))) (bT k1 rfl) rfl (.two (.tmp 2 (.sc (.int .i64 0)) rfl) (.one (.rfl _)) rfl (.cell 3 41 3 3 true J3 (.agg J3) rfl rfl M5 rfl rfl rfl) (.agg (.cons (.rfl _) (.cons (.rfl _) (.cons (.nil _) .nil)))) rfl) trivial trivial
 ·skip
  refine F9 ?_
  refine C6 ?_
  refine Q5 { ds:=[some 11,some 12,some 13,some 14,some 15,some 16,some 17,some 4,some 5],p:=fun i=>[.sem (SL (eI .u8) b),.sem (SL (eI .u8) (sub b 16 (b.length:Int))),.sc (.int .i64 (D9 (sub b 16 (b.length:Int)))),.sem (SL (eI .u8) b),.sem (PT [.sc (.int .u8 (ix b 18))]),.sc (.int .u8 (ix b 18)),.sc (.int .i64 (IntKind.wrap .i64 (ix b 18))),.sc (.int .i64 (D9 (sub b 16 (b.length:Int)))),.sc (.int .i64 (IntKind.wrap .i64 (ix b 18)))].getD i .any,al:=[],st:=[] } rfl (by kernel_rfl) rfl rfl ?_ (fun bD hb=>?_)
  ·refine ⟨fun bD hc hi hd=>?_,fun bD hc hi hd=>?_,fun bD hc hi hd=>?_,fun bD hc hi hd=>?_,fun bD hc hi hd=>?_,fun bD hc hi hd=>?_,fun bD hc hi hd=>?_,fun bD hc hi hd=>?_,fun bD hc hi hd=>?_,trivial⟩
   ·exact F3.putStep (i:=0) (q:=.sem (SL (eI .u8) b)) rfl rfl rfl (C1 rfl (C2 (p:=.sem (SL (eI .u8) b)) rfl rfl rfl rfl))
   ·exact F3.putStep (i:=1) (q:=.sem (SL (eI .u8) (sub b 16 (b.length:Int)))) rfl rfl rfl (C1 rfl (K0 (E:=(eI .u8)) (l:=b) (i:=16) (j:=(b.length:Int)) rfl rfl rfl Tryz.underlying22 ty5 (by exact (E3 (by exact (gt (p:=.sem (SL (eI .u8) b)) (q:=.any) (hd 0 (by decide)))))) (I0 rfl) (L3 rfl) (show 0 ≤ 16 ∧ 16 ≤ (b.length:Int) ∧ (b.length:Int) ≤ (b.length:Int) from (by first | omega | ((try simp only [z1,z2,z3,z4,z5,z6,z7,z8,z9,zA,zB,zC,zD,D2,C9,C4,C3,C5,B5,B6,B7,A7,A6,C0] at *); omega) | ((try simp only [z1,z2,z3,z4,z5,z6,z7,z8,z9,zA,B5,B6,B7,A7,A6,C0] at *); (try simp (disch:=omega) only [C8]); (try simp only [z1,z2,z3,z4,z5,z6,z7,z8,z9,zA,zB,zC,zD,D2,C9,C4,C3,C5,B5,B6,B7] at *); omega)))))
   ·exact F3.putStep (i:=2) (q:=.sc (.int .i64 (D9 (sub b 16 (b.length:Int))))) rfl rfl rfl (C1 rfl (I1 (fn:=Tryz.f35) (xs:=[.tmp 12]) (args:=[.sem (SL (eI .u8) (sub b 16 (b.length:Int)))]) (r:=.sc (.int .i64 (D9 (sub b 16 (b.length:Int))))) rfl rfl rfl Tryz.func35 rfl rfl (T9 (b0:=.sem (SL (eI .u8) (sub b 16 (b.length:Int)))) (gt (p:=.sem (SL (eI .u8) (sub b 16 (b.length:Int)))) (q:=.any) (hd 1 (by decide)))) rfl rfl (s4 (sub b 16 (b.length:Int)) (by first | omega | ((try simp only [z1,z2,z3,z4,z5,z6,z7,z8,z9,zA,zB,zC,zD,D2,C9,C4,C3,C5,B5,B6,B7,A7,A6,C0] at *); omega) | ((try simp only [z1,z2,z3,z4,z5,z6,z7,z8,z9,zA,B5,B6,B7,A7,A6,C0] at *); (try simp (disch:=omega) only [C8]); (try simp only [z1,z2,z3,z4,z5,z6,z7,z8,z9,zA,zB,zC,zD,D2,C9,C4,C3,C5,B5,B6,B7] at *); omega)))))
   ·exact F3.putStep (i:=3) (q:=.sem (SL (eI .u8) b)) rfl rfl rfl (C1 rfl (C2 (p:=.sem (SL (eI .u8) b)) rfl rfl rfl rfl))
   ·exact F3.putStep (i:=4) (q:=.sem (PT [.sc (.int .u8 (ix b 18))])) rfl rfl rfl (C1 rfl (N6 (E:=(eI .u8)) (l:=b) (n:=18) (ps:=[.sc (.int .u8 (ix b 18))]) rfl rfl rfl Tryz.underlying22 ty5 (by exact (E3 (by exact (gt (p:=.sem (SL (eI .u8) b)) (q:=.any) (hd 3 (by decide)))))) rfl (by first | omega | ((try simp only [z1,z2,z3,z4,z5,z6,z7,z8,z9,zA,zB,zC,zD,D2,C9,C4,C3,C5,B5,B6,B7,A7,A6,C0] at *); omega) | ((try simp only [z1,z2,z3,z4,z5,z6,z7,z8,z9,zA,B5,B6,B7,A7,A6,C0] at *); (try simp (disch:=omega) only [C8]); (try simp only [z1,z2,z3,z4,z5,z6,z7,z8,z9,zA,zB,zC,zD,D2,C9,C4,C3,C5,B5,B6,B7] at *); omega)) rfl))
   ·exact F3.putStep (i:=5) (q:=.sc (.int .u8 (ix b 18))) rfl rfl rfl (C1 rfl (G4 (ps:=[.sc (.int .u8 (ix b 18))]) (p:=.sc (.int .u8 (ix b 18))) rfl rfl rfl ty5 (gt (p:=.sem (PT [.sc (.int .u8 (ix b 18))])) (q:=.any) (hd 4 (by decide))) rfl rfl rfl rfl))
   ·exact F3.putStep (i:=6) (q:=.sc (.int .i64 (IntKind.wrap .i64 (ix b 18)))) rfl rfl rfl (C1 rfl (G8 (m:=(IntKind.wrap .i64 (ix b 18))) rfl rfl rfl Tryz.underlying5 Tryz.underlying3 (gt (p:=.sc (.int .u8 (ix b 18))) (q:=.any) (hd 5 (by decide))) rfl))
   ·exact F3.putStep (i:=7) (q:=.sc (.int .i64 (D9 (sub b 16 (b.length:Int))))) rfl rfl rfl (C1 rfl (C7 (p:=.sc (.int .i64 (D9 (sub b 16 (b.length:Int))))) rfl rfl rfl (gt (p:=.sc (.int .i64 (D9 (sub b 16 (b.length:Int))))) (q:=.any) (hd 2 (by decide)))))
   ·exact F3.putStep (i:=8) (q:=.sc (.int .i64 (IntKind.wrap .i64 (ix b 18)))) rfl rfl rfl (C1 rfl (C7 (p:=.sc (.int .i64 (IntKind.wrap .i64 (ix b 18)))) rfl rfl rfl (gt (p:=.sc (.int .i64 (IntKind.wrap .i64 (ix b 18)))) (q:=.any) (hd 6 (by decide)))))
  obtain rfl:bD=fun _=>true:=funext hb
  refine C6 ?_
  refine Q5 { ds:=[some 18,some 19,some 20,some 21,some 22,some 23,some 24,some 25,some 6,none],p:=fun i=>[.sem (SL (eI .u8) b),.sem (PT [.sc (.int .u8 (ix b 16))]),.sc (.int .u8 (ix b 16)),.sem (SL (eI .u8) b),.sem (PT [.sc (.int .u8 (ix b 17))]),.sc (.int .u8 (ix b 17)),.sem (SL (eI .u8) [(ix b 16),(ix b 17)]),.agg (A3.cells (F2 1 2 [(ix b 16),(ix b 17)])),.loc 6 0,.any].getD i .any,al:=[(8,6,J3)],st:=[(9,6,0,(A3.cells (F2 1 2 [(ix b 16),(ix b 17)])))] } rfl (by kernel_rfl) rfl rfl ?_ (fun bD hb=>?_)
  ·refine ⟨fun bD hc hi hd=>?_,fun bD hc hi hd=>?_,fun bD hc hi hd=>?_,fun bD hc hi hd=>?_,fun bD hc hi hd=>?_,fun bD hc hi hd=>?_,fun bD hc hi hd=>?_,fun bD hc hi hd=>?_,fun bD hc hi hd=>?_,fun bD hc hi hd=>?_,trivial⟩
   ·exact F3.putStep (i:=0) (q:=.sem (SL (eI .u8) b)) rfl rfl rfl (C1 rfl (C2 (p:=.sem (SL (eI .u8) b)) rfl rfl rfl rfl))
   ·exact F3.putStep (i:=1) (q:=.sem (PT [.sc (.int .u8 (ix b 16))])) rfl rfl rfl (C1 rfl (N6 (E:=(eI .u8)) (l:=b) (n:=16) (ps:=[.sc (.int .u8 (ix b 16))]) rfl rfl rfl Tryz.underlying22 ty5 (by exact (E3 (by exact (gt (p:=.sem (SL (eI .u8) b)) (q:=.any) (hd 0 (by decide)))))) rfl (by first | omega | ((try simp only [z1,z2,z3,z4,z5,z6,z7,z8,z9,zA,zB,zC,zD,D2,C9,C4,C3,C5,B5,B6,B7,A7,A6,C0] at *); omega) | ((try simp only [z1,z2,z3,z4,z5,z6,z7,z8,z9,zA,B5,B6,B7,A7,A6,C0] at *); (try simp (disch:=omega) only [C8]); (try simp only [z1,z2,z3,z4,z5,z6,z7,z8,z9,zA,zB,zC,zD,D2,C9,C4,C3,C5,B5,B6,B7] at *); omega)) rfl))
   ·exact F3.putStep (i:=2) (q:=.sc (.int .u8 (ix b 16))) rfl rfl rfl (C1 rfl (G4 (ps:=[.sc (.int .u8 (ix b 16))]) (p:=.sc (.int .u8 (ix b 16))) rfl rfl rfl ty5 (gt (p:=.sem (PT [.sc (.int .u8 (ix b 16))])) (q:=.any) (hd 1 (by decide))) rfl rfl rfl rfl))
   ·exact F3.putStep (i:=3) (q:=.sem (SL (eI .u8) b)) rfl rfl rfl (C1 rfl (C2 (p:=.sem (SL (eI .u8) b)) rfl rfl rfl rfl))
   ·exact F3.putStep (i:=4) (q:=.sem (PT [.sc (.int .u8 (ix b 17))])) rfl rfl rfl (C1 rfl (N6 (E:=(eI .u8)) (l:=b) (n:=17) (ps:=[.sc (.int .u8 (ix b 17))]) rfl rfl rfl Tryz.underlying22 ty5 (by exact (E3 (by exact (gt (p:=.sem (SL (eI .u8) b)) (q:=.any) (hd 3 (by decide)))))) rfl (by first | omega | ((try simp only [z1,z2,z3,z4,z5,z6,z7,z8,z9,zA,zB,zC,zD,D2,C9,C4,C3,C5,B5,B6,B7,A7,A6,C0] at *); omega) | ((try simp only [z1,z2,z3,z4,z5,z6,z7,z8,z9,zA,B5,B6,B7,A7,A6,C0] at *); (try simp (disch:=omega) only [C8]); (try simp only [z1,z2,z3,z4,z5,z6,z7,z8,z9,zA,zB,zC,zD,D2,C9,C4,C3,C5,B5,B6,B7] at *); omega)) rfl))
   ·exact F3.putStep (i:=5) (q:=.sc (.int .u8 (ix b 17))) rfl rfl rfl (C1 rfl (G4 (ps:=[.sc (.int .u8 (ix b 17))]) (p:=.sc (.int .u8 (ix b 17))) rfl rfl rfl ty5 (gt (p:=.sem (PT [.sc (.int .u8 (ix b 17))])) (q:=.any) (hd 4 (by decide))) rfl rfl rfl rfl))
   ·exact F3.putStep (i:=6) (q:=.sem (SL (eI .u8) [(ix b 16),(ix b 17)])) rfl rfl rfl (C1 rfl (l3 (E:=(eI .u8)) (l:=[(ix b 16),(ix b 17)]) (parts:=[(0,.tmp 20),(1,.tmp 23)]) (pps:=[(0,.sc (.int .u8 (ix b 16))),(1,.sc (.int .u8 (ix b 17)))]) (qs:=[.sc (.int .u8 (ix b 16)),.sc (.int .u8 (ix b 17))]) rfl rfl rfl N3 rfl rfl (A7G (b0:=.sc (.int .u8 (ix b 16))) (b1:=.sc (.int .u8 (ix b 17))) (gt (p:=.sc (.int .u8 (ix b 16))) (q:=.any) (hd 2 (by decide))) (gt (p:=.sc (.int .u8 (ix b 17))) (q:=.any) (hd 5 (by decide)))) rfl rfl))
   ·exact F3.putStep (i:=7) (q:=.agg (A3.cells (F2 1 2 [(ix b 16),(ix b 17)]))) rfl rfl rfl (C1 rfl (I1 (fn:=Tryz.f30) (xs:=[.const (.int .i64 1),.const (.int .i64 2),.tmp 24]) (args:=[.sc (.int .i64 1),.sc (.int .i64 2),.sem (SL (eI .u8) [(ix b 16),(ix b 17)])]) (r:=.agg (A3.cells (F2 1 2 [(ix b 16),(ix b 17)]))) rfl rfl rfl Tryz.func30 rfl rfl (A8B (b0:=.sc (.int .i64 1)) (b1:=.sc (.int .i64 2)) (b2:=.sem (SL (eI .u8) [(ix b 16),(ix b 17)])) rfl rfl (gt (p:=.sem (SL (eI .u8) [(ix b 16),(ix b 17)])) (q:=.any) (hd 6 (by decide)))) rfl rfl (Q4 1 2 [(ix b 16),(ix b 17)])))
   ·exact A5G (i:=8) (d:=6) (s:=6) (z:=A0r) (ps:=J3) rfl hc hi rfl rfl rfl rfl rfl z41 rfl rfl (A7B _ _) rfl rfl rfl rfl rfl (by kernel_rfl) (by kernel_rfl) (by kernel_rfl) (by kernel_rfl) rfl
   ·exact L5 (i:=9) (s:=6) (off:=0) (ps0:=J3) (ps:=J3) (qs:=(A3.cells (F2 1 2 [(ix b 16),(ix b 17)]))) (p:=.agg (A3.cells (F2 1 2 [(ix b 16),(ix b 17)]))) 0 hc hd rfl rfl rfl M5 (gt (p:=.loc 6 0) (q:=.any) (hd 8 (by decide))) (gt (p:=.agg (A3.cells (F2 1 2 [(ix b 16),(ix b 17)]))) (q:=.any) (hd 7 (by decide))) (by exact A3s (ps:=J3) rfl (hd 8 (by decide))) rfl rfl rfl rfl rfl rfl rfl hi rfl rfl (by kernel_rfl) (by kernel_rfl)
  obtain rfl:bD=fun _=>true:=funext hb
  refine C6 ?_
  refine H6 ?_
  refine C6 ?_
  refine B8 ?_
  refine B4 rfl (C2 (p:=.sem (SL (eI .u8) b)) rfl rfl rfl rfl) ?_
  refine B4 rfl (K0 (E:=(eI .u8)) (l:=b) (i:=0) (j:=16) rfl rfl rfl Tryz.underlying22 ty5 (E3 rfl) (L3 rfl) (I0 rfl) (show 0 ≤ 0 ∧ 0 ≤ 16 ∧ 16 ≤ (b.length:Int) from (by first | omega | ((try simp only [z1,z2,z3,z4,z5,z6,z7,z8,z9,zA,zB,zC,zD,D2,C9,C4,C3,C5,B5,B6,B7,A7,A6,C0] at *); omega) | ((try simp only [z1,z2,z3,z4,z5,z6,z7,z8,z9,zA,B5,B6,B7,A7,A6,C0] at *); (try simp (disch:=omega) only [C8]); (try simp only [z1,z2,z3,z4,z5,z6,z7,z8,z9,zA,zB,zC,zD,D2,C9,C4,C3,C5,B5,B6,B7] at *); omega)))) ?_
  refine B4 rfl (I4 (E:=(eI .u8)) (l:=[255]) (tp:=29) (parts:=[(0,.const (.int .u8 255))]) (qs:=[.sc (.int .u8 255)]) rfl rfl rfl N3 rfl rfl rfl rfl) ?_
  refine B4 rfl (I1 (fn:=Tryz.f36) (xs:=[.tmp 28,.tmp 29]) (args:=[.sem (SL (eI .u8) (sub b 0 16)),.sem (SL (eI .u8) [255])]) (r:=.sc (.int .i64 (M2 (sub b 0 16) 255))) rfl rfl rfl Tryz.func36 rfl rfl rfl rfl rfl (A2p (sub b 0 16) 255)) ?_
  refine B4 rfl (E6 (u1:=.int .i64 (M2 (sub b 0 16) 255)) (u2:=.int .i64 16) (v:=.bool (!(decide (((M2 (sub b 0 16) 255):Int)=16)))) rfl rfl rfl rfl rfl (fun _=>rfl)) ?_
  refine B4 rfl (C7 (p:=.sc (.bool (!(decide (((M2 (sub b 0 16) 255):Int)=16))))) rfl rfl rfl rfl) ?_
  refine D4 ?_
  refine F6 (b:=!(decide (((M2 (sub b 0 16) 255):Int)=16))) rfl (fun k2=>?_) (fun k2=>?_)
  ·skip
   refine C6 ?_
   refine B8 ?_
   refine B4 rfl (I1 (fn:=Tryz.f30) (xs:=[.const (.int .i64 1),.const (.int .i64 1),.const (.slice none 0 0)]) (args:=[.sc (.int .i64 1),.sc (.int .i64 1),.sc (.slice none 0 0)]) (r:=.agg (A3.cells (F2 1 1 []))) rfl rfl rfl Tryz.func30 rfl rfl rfl rfl rfl (f9 (Q4 1 1 []) (.cons (.one (.rfl _)) (.cons (.one (.rfl _)) (.cons (.one (.nil _)) .nil))))) ?_
   refine B4 rfl (C7 (p:=.sc (.int .i64 0)) rfl rfl rfl rfl) ?_
   refine B4 rfl (G5 (s:=3) (off:=0) (ps:=J3) (p:=.agg (A3.cells (F2 1 1 []))) (qs:=(A3.cells (F2 1 1 []))) rfl rfl M5 rfl rfl rfl rfl rfl rfl rfl) ?_
   refine D4 ?_
   refine G2 ?_
   exact F7 (F:=(fun (z:Int × A3)=>⟨[],[],.tup [.sc (.int .i64 z.1),.agg (A3.cells z.2)]⟩)) (z:=(E1 b)) (v:=(0,(F2 1 1 []))) (bF k1 (bT k2 rfl)) rfl (.two (.tmp 2 (.sc (.int .i64 0)) rfl) (.one (.rfl _)) rfl (.cell 3 41 3 3 true (A3.cells (F2 1 1 [])) (.agg (A3.cells (F2 1 1 []))) rfl rfl M5 rfl rfl rfl) (.one (.rfl _)) rfl) trivial trivial
  ·skip
   refine C6 ?_
   refine B8 ?_
   refine B4 rfl (C2 (p:=.sc (.int .i64 (D9 (sub b 16 (b.length:Int))))) rfl rfl rfl rfl) ?_
   refine B4 rfl (E6 (u1:=.int .i64 (D9 (sub b 16 (b.length:Int)))) (u2:=.int .i64 19) (v:=.bool (decide (((D9 (sub b 16 (b.length:Int))):Int) < 19))) rfl rfl rfl rfl rfl (fun _=>rfl)) ?_
   refine B4 rfl (C2 (p:=.sc (.bool (decide (((D9 (sub b 16 (b.length:Int))):Int) < 19)))) rfl rfl rfl rfl) ?_
   refine E0 (C:=!(decide (((D9 (sub b 16 (b.length:Int))):Int) < 19))) (p:=.sc (.int .i64 (D9 (sub b 16 (b.length:Int))))) (H8 (b:=decide (((D9 (sub b 16 (b.length:Int))):Int) < 19)) (c:=!(decide (((D9 (sub b 16 (b.length:Int))):Int) < 19))) rfl rfl rfl rfl rfl rfl) rfl rfl (fun g3=>C2 (p:=.sc (.int .i64 (D9 (sub b 16 (b.length:Int))))) rfl rfl rfl rfl) ?_
   refine E0 (C:=!(decide (((D9 (sub b 16 (b.length:Int))):Int) < 19))) (p:=.sc (.bool (decide ((4096:Int) < (D9 (sub b 16 (b.length:Int))))))) (H8 (b:=decide (((D9 (sub b 16 (b.length:Int))):Int) < 19)) (c:=!(decide (((D9 (sub b 16 (b.length:Int))):Int) < 19))) rfl rfl rfl rfl rfl rfl) rfl rfl (fun g4=>E6 (u1:=.int .i64 (D9 (sub b 16 (b.length:Int)))) (u2:=.int .i64 4096) (v:=.bool (decide ((4096:Int) < (D9 (sub b 16 (b.length:Int)))))) rfl rfl rfl (gt (p:=.sc (.int .i64 (D9 (sub b 16 (b.length:Int))))) (q:=.sc undef) g4) rfl (fun _=>rfl)) ?_
   refine B4 rfl (N5 (b:=decide (((D9 (sub b 16 (b.length:Int))):Int) < 19)) (y:=decide ((4096:Int) < (D9 (sub b 16 (b.length:Int))))) rfl rfl rfl rfl rfl rfl) ?_
   refine B4 rfl (C7 (p:=.sc (.bool ((decide (((D9 (sub b 16 (b.length:Int))):Int) < 19)) || (decide ((4096:Int) < (D9 (sub b 16 (b.length:Int)))))))) rfl rfl rfl rfl) ?_
   refine D4 ?_
   refine F6 (b:=(decide (((D9 (sub b 16 (b.length:Int))):Int) < 19)) || (decide ((4096:Int) < (D9 (sub b 16 (b.length:Int)))))) rfl (fun k5=>?_) (fun k5=>?_)
   ·skip
    refine C6 ?_
    refine Q5 { ds:=[some 40,some 2,none],p:=fun i=>[.agg (A3.cells (F2 1 2 [(ix b 16),(ix b 17)])),.sc (.int .i64 0),.any].getD i .any,al:=[],st:=[(2,3,0,(A3.cells (F2 1 2 [(ix b 16),(ix b 17)])))] } rfl (by kernel_rfl) rfl rfl ?_ (fun bD hb=>?_)
    ·refine ⟨fun bD hc hi hd=>?_,fun bD hc hi hd=>?_,fun bD hc hi hd=>?_,trivial⟩
     ·exact F3.putStep (i:=0) (q:=.agg (A3.cells (F2 1 2 [(ix b 16),(ix b 17)]))) rfl rfl rfl (C1 rfl (F4 (s:=6) (off:=0) (ps:=(A3.cells (F2 1 2 [(ix b 16),(ix b 17)]))) (p:=.agg (A3.cells (F2 1 2 [(ix b 16),(ix b 17)]))) rfl rfl rfl M5 rfl rfl rfl rfl rfl))
     ·exact F3.putStep (i:=1) (q:=.sc (.int .i64 0)) rfl rfl rfl (C1 rfl (C7 (p:=.sc (.int .i64 0)) rfl rfl rfl rfl))
     ·exact L5 (i:=2) (s:=3) (off:=0) (ps0:=J3) (ps:=J3) (qs:=(A3.cells (F2 1 2 [(ix b 16),(ix b 17)]))) (p:=.agg (A3.cells (F2 1 2 [(ix b 16),(ix b 17)]))) 0 hc hd rfl rfl rfl M5 rfl (gt (p:=.agg (A3.cells (F2 1 2 [(ix b 16),(ix b 17)]))) (q:=.any) (hd 0 (by decide))) (by exact K3 (ps:=J3) rfl rfl) rfl rfl rfl rfl rfl rfl rfl hi rfl rfl (by kernel_rfl) (by kernel_rfl)
    obtain rfl:bD=fun _=>true:=funext hb
    refine G2 ?_
    exact F7 (F:=(fun (z:Int × A3)=>⟨[],[],.tup [.sc (.int .i64 z.1),.agg (A3.cells z.2)]⟩)) (z:=(E1 b)) (v:=(0,(F2 1 2 [(ix b 16),(ix b 17)]))) (bF k1 (bF k2 (bT k5 rfl))) rfl (.two (.tmp 2 (.sc (.int .i64 0)) rfl) (.one (.rfl _)) rfl (.cell 3 41 3 3 true (A3.cells (F2 1 2 [(ix b 16),(ix b 17)])) (.agg (A3.cells (F2 1 2 [(ix b 16),(ix b 17)]))) rfl rfl M5 rfl rfl rfl) (.one (.rfl _)) rfl) trivial trivial
   ·skip
    refine C6 ?_
    refine B8 ?_
    refine B4 rfl (C2 (p:=.sc (.int .i64 (IntKind.wrap .i64 (ix b 18)))) rfl rfl rfl rfl) ?_
    refine B4 rfl (E6 (u1:=.int .i64 (IntKind.wrap .i64 (ix b 18))) (u2:=.int .i64 1) (v:=.bool (decide (((IntKind.wrap .i64 (ix b 18)):Int) < 1))) rfl rfl rfl rfl rfl (fun _=>rfl)) ?_
    refine B4 rfl (C2 (p:=.sc (.bool (decide (((IntKind.wrap .i64 (ix b 18)):Int) < 1)))) rfl rfl rfl rfl) ?_
    refine E0 (C:=!(decide (((IntKind.wrap .i64 (ix b 18)):Int) < 1))) (p:=.sc (.int .i64 (IntKind.wrap .i64 (ix b 18)))) (H8 (b:=decide (((IntKind.wrap .i64 (ix b 18)):Int) < 1)) (c:=!(decide (((IntKind.wrap .i64 (ix b 18)):Int) < 1))) rfl rfl rfl rfl rfl rfl) rfl rfl (fun g6=>C2 (p:=.sc (.int .i64 (IntKind.wrap .i64 (ix b 18)))) rfl rfl rfl rfl) ?_
    refine E0 (C:=!(decide (((IntKind.wrap .i64 (ix b 18)):Int) < 1))) (p:=.sc (.bool (decide ((4:Int) < (IntKind.wrap .i64 (ix b 18)))))) (H8 (b:=decide (((IntKind.wrap .i64 (ix b 18)):Int) < 1)) (c:=!(decide (((IntKind.wrap .i64 (ix b 18)):Int) < 1))) rfl rfl rfl rfl rfl rfl) rfl rfl (fun g7=>E6 (u1:=.int .i64 (IntKind.wrap .i64 (ix b 18))) (u2:=.int .i64 4) (v:=.bool (decide ((4:Int) < (IntKind.wrap .i64 (ix b 18))))) rfl rfl rfl (gt (p:=.sc (.int .i64 (IntKind.wrap .i64 (ix b 18)))) (q:=.sc undef) g7) rfl (fun _=>rfl)) ?_
    refine B4 rfl (N5 (b:=decide (((IntKind.wrap .i64 (ix b 18)):Int) < 1)) (y:=decide ((4:Int) < (IntKind.wrap .i64 (ix b 18)))) rfl rfl rfl rfl rfl rfl) ?_
    refine B4 rfl (C7 (p:=.sc (.bool ((decide (((IntKind.wrap .i64 (ix b 18)):Int) < 1)) || (decide ((4:Int) < (IntKind.wrap .i64 (ix b 18))))))) rfl rfl rfl rfl) ?_
    refine D4 ?_
    refine F6 (b:=(decide (((IntKind.wrap .i64 (ix b 18)):Int) < 1)) || (decide ((4:Int) < (IntKind.wrap .i64 (ix b 18))))) rfl (fun k8=>?_) (fun k8=>?_)
    ·skip
     refine C6 ?_
     refine B8 ?_
     refine B4 rfl (C2 (p:=.sem (SL (eI .u8) b)) rfl rfl rfl rfl) ?_
     refine B4 rfl (N6 (E:=(eI .u8)) (l:=b) (n:=18) (ps:=[.sc (.int .u8 (ix b 18))]) rfl rfl rfl Tryz.underlying22 ty5 (E3 rfl) rfl (by first | omega | ((try simp only [z1,z2,z3,z4,z5,z6,z7,z8,z9,zA,zB,zC,zD,D2,C9,C4,C3,C5,B5,B6,B7,A7,A6,C0] at *); omega) | ((try simp only [z1,z2,z3,z4,z5,z6,z7,z8,z9,zA,B5,B6,B7,A7,A6,C0] at *); (try simp (disch:=omega) only [C8]); (try simp only [z1,z2,z3,z4,z5,z6,z7,z8,z9,zA,zB,zC,zD,D2,C9,C4,C3,C5,B5,B6,B7] at *); omega)) rfl) ?_
     refine B4 rfl (G4 (ps:=[.sc (.int .u8 (ix b 18))]) (p:=.sc (.int .u8 (ix b 18))) rfl rfl rfl ty5 rfl rfl rfl rfl rfl) ?_
     refine B4 rfl (I4 (E:=(eI .u8)) (l:=[(ix b 18)]) (tp:=51) (parts:=[(0,.tmp 50)]) (qs:=[.sc (.int .u8 (ix b 18))]) rfl rfl rfl N3 rfl rfl rfl rfl) ?_
     refine B4 rfl (I1 (fn:=Tryz.f30) (xs:=[.const (.int .i64 1),.const (.int .i64 3),.tmp 51]) (args:=[.sc (.int .i64 1),.sc (.int .i64 3),.sem (SL (eI .u8) [(ix b 18)])]) (r:=.agg (A3.cells (F2 1 3 [(ix b 18)]))) rfl rfl rfl Tryz.func30 rfl rfl rfl rfl rfl (Q4 1 3 [(ix b 18)])) ?_
     refine B4 rfl (C7 (p:=.sc (.int .i64 0)) rfl rfl rfl rfl) ?_
     refine B4 rfl (G5 (s:=3) (off:=0) (ps:=J3) (p:=.agg (A3.cells (F2 1 3 [(ix b 18)]))) (qs:=(A3.cells (F2 1 3 [(ix b 18)]))) rfl rfl M5 rfl rfl rfl rfl rfl rfl rfl) ?_
     refine D4 ?_
     refine G2 ?_
     exact F7 (F:=(fun (z:Int × A3)=>⟨[],[],.tup [.sc (.int .i64 z.1),.agg (A3.cells z.2)]⟩)) (z:=(E1 b)) (v:=(0,(F2 1 3 [(ix b 18)]))) (bF k1 (bF k2 (bF k5 (bT k8 rfl)))) rfl (.two (.tmp 2 (.sc (.int .i64 0)) rfl) (.one (.rfl _)) rfl (.cell 3 41 3 3 true (A3.cells (F2 1 3 [(ix b 18)])) (.agg (A3.cells (F2 1 3 [(ix b 18)]))) rfl rfl M5 rfl rfl rfl) (.one (.rfl _)) rfl) trivial trivial
    ·skip
     refine C6 ?_
     refine B8 ?_
     refine B4 rfl (C2 (p:=.sc (.int .i64 (IntKind.wrap .i64 (ix b 18)))) rfl rfl rfl rfl) ?_
     refine B4 rfl (C2 (p:=.sc (.int .i64 (D9 (sub b 16 (b.length:Int))))) rfl rfl rfl rfl) ?_
     refine B4 rfl (I1 (fn:=Tryz.f37) (xs:=[.tmp 54,.tmp 55]) (args:=[.sc (.int .i64 (IntKind.wrap .i64 (ix b 18))),.sc (.int .i64 (D9 (sub b 16 (b.length:Int))))]) (r:=.sc (.bool (P5 (IntKind.wrap .i64 (ix b 18)) (D9 (sub b 16 (b.length:Int)))))) rfl rfl rfl Tryz.func37 rfl rfl rfl rfl rfl (A4F (IntKind.wrap .i64 (ix b 18)) (D9 (sub b 16 (b.length:Int))))) ?_
     refine B4 rfl (C7 (p:=.sc (.bool (P5 (IntKind.wrap .i64 (ix b 18)) (D9 (sub b 16 (b.length:Int)))))) rfl rfl rfl rfl) ?_
     refine D4 ?_
     refine F6 (b:=(P5 (IntKind.wrap .i64 (ix b 18)) (D9 (sub b 16 (b.length:Int))))) rfl (fun k9=>?_) (fun k9=>?_)
     ·skip
      refine C6 ?_
      refine Q5 { ds:=[some 57,some 2,none],p:=fun i=>[.agg (A3.cells (F2 1 2 [(ix b 16),(ix b 17)])),.sc (.int .i64 0),.any].getD i .any,al:=[],st:=[(2,3,0,(A3.cells (F2 1 2 [(ix b 16),(ix b 17)])))] } rfl (by kernel_rfl) rfl rfl ?_ (fun bD hb=>?_)
      ·refine ⟨fun bD hc hi hd=>?_,fun bD hc hi hd=>?_,fun bD hc hi hd=>?_,trivial⟩
       ·exact F3.putStep (i:=0) (q:=.agg (A3.cells (F2 1 2 [(ix b 16),(ix b 17)]))) rfl rfl rfl (C1 rfl (F4 (s:=6) (off:=0) (ps:=(A3.cells (F2 1 2 [(ix b 16),(ix b 17)]))) (p:=.agg (A3.cells (F2 1 2 [(ix b 16),(ix b 17)]))) rfl rfl rfl M5 rfl rfl rfl rfl rfl))
       ·exact F3.putStep (i:=1) (q:=.sc (.int .i64 0)) rfl rfl rfl (C1 rfl (C7 (p:=.sc (.int .i64 0)) rfl rfl rfl rfl))
       ·exact L5 (i:=2) (s:=3) (off:=0) (ps0:=J3) (ps:=J3) (qs:=(A3.cells (F2 1 2 [(ix b 16),(ix b 17)]))) (p:=.agg (A3.cells (F2 1 2 [(ix b 16),(ix b 17)]))) 0 hc hd rfl rfl rfl M5 rfl (gt (p:=.agg (A3.cells (F2 1 2 [(ix b 16),(ix b 17)]))) (q:=.any) (hd 0 (by decide))) (by exact K3 (ps:=J3) rfl rfl) rfl rfl rfl rfl rfl rfl rfl hi rfl rfl (by kernel_rfl) (by kernel_rfl)
      obtain rfl:bD=fun _=>true:=funext hb
      refine G2 ?_
      exact F7 (F:=(fun (z:Int × A3)=>⟨[],[],.tup [.sc (.int .i64 z.1),.agg (A3.cells z.2)]⟩)) (z:=(E1 b)) (v:=(0,(F2 1 2 [(ix b 16),(ix b 17)]))) (bF k1 (bF k2 (bF k5 (bF k8 (bT k9 rfl))))) rfl (.two (.tmp 2 (.sc (.int .i64 0)) rfl) (.one (.rfl _)) rfl (.cell 3 41 3 3 true (A3.cells (F2 1 2 [(ix b 16),(ix b 17)])) (.agg (A3.cells (F2 1 2 [(ix b 16),(ix b 17)]))) rfl rfl M5 rfl rfl rfl) (.one (.rfl _)) rfl) trivial trivial
     ·skip
      refine F9 ?_
      refine C6 ?_
      refine B8 ?_
      refine B4 rfl (C2 (p:=.sc (.int .i64 (D9 (sub b 16 (b.length:Int))))) rfl rfl rfl rfl) ?_
      refine B4 rfl (M7 (parts:=[]) (pps:=[]) (qs:=J3) rfl rfl rfl A1o rfl rfl (by kernel_rfl)) ?_
      refine B4 rfl (C7 (p:=.sc (.int .i64 (D9 (sub b 16 (b.length:Int))))) rfl rfl rfl rfl) ?_
      refine B4 rfl (G5 (s:=3) (off:=0) (ps:=J3) (p:=.agg J3) (qs:=J3) rfl rfl M5 rfl rfl rfl rfl rfl rfl rfl) ?_
      refine D4 ?_
      refine G2 ?_
      exact F7 (F:=(fun (z:Int × A3)=>⟨[],[],.tup [.sc (.int .i64 z.1),.agg (A3.cells z.2)]⟩)) (z:=(E1 b)) (v:=((D9 (sub b 16 (b.length:Int))),(⟨0,0,[]⟩:A3))) (bF k1 (bF k2 (bF k5 (bF k8 (bF k9 rfl))))) rfl (.two (.tmp 2 (.sc (.int .i64 (D9 (sub b 16 (b.length:Int))))) rfl) (.one (.rfl _)) rfl (.cell 3 41 3 3 true J3 (.agg J3) rfl rfl M5 rfl rfl rfl) (.agg (.cons (.rfl _) (.cons (.rfl _) (.cons (.nil _) .nil)))) rfl) trivial trivial
theorem s6 (b:List Int):PF Tryz.prog 20 [.sem (SL (eI .u8) b)] (.tup [.sc (.int .i64 ((E1 b).1)),.agg (A3.cells ((E1 b).2))]):=M1 (A3M b) rfl
def Q8 (b:List Int) (v:Int):List Int:=
 (b ++ [(IntKind.wrap .u8 (Int.fdiv v (2 ^ 8))),(IntKind.wrap .u8 v)])
set_option maxRecDepth 100000 in
set_option maxHeartbeats 4000000 in
theorem A6e (b:List Int) (v:Int) (hl0:b.length ≤ 70368744177664):PG Tryz.prog 45 [] [(1000,(1,b.length))] [.own 1000 b.length (SL (eI .u8) b),.sc (.int .i64 v)] (fun _:Unit=>True) (fun _=>(fun (z:List Int)=>⟨[],[(1000,(1,z.length))],.own 1000 z.length (SL (eI .u8) z)⟩) (Q8 b v)):=by
 refine M4 (N:=13) (l:=[.tmp 4]) Tryz.func45 rfl rfl rfl (Nat.le_of_ble_eq_true rfl) fun w0 i0 F βs=>?_
 refine C6 ?_
 refine B8 ?_
 refine B4 rfl (C7 (p:=.sc (.slice none 0 0)) rfl rfl rfl rfl) ?_
 refine D4 ?_
 refine C6 ?_
 refine B8 ?_
 refine B4 rfl (C2 (p:=.own 1000 b.length (SL (eI .u8) b)) rfl rfl rfl rfl) ?_
 refine B4 rfl (C2 (p:=.sc (.int .i64 v)) rfl rfl rfl rfl) ?_
 refine B4 rfl (E6 (u1:=.int .i64 v) (u2:=.int .u64 8) (v:=.int .i64 (Int.fdiv v (2 ^ 8))) rfl rfl rfl rfl rfl (fun _=>rfl)) ?_
 refine B4 rfl (G8 (m:=(IntKind.wrap .u8 (Int.fdiv v (2 ^ 8)))) rfl rfl rfl Tryz.underlying3 Tryz.underlying5 rfl rfl) ?_
 refine B4 rfl (C2 (p:=.sc (.int .i64 v)) rfl rfl rfl rfl) ?_
 refine B4 rfl (G8 (m:=(IntKind.wrap .u8 v)) rfl rfl rfl Tryz.underlying3 Tryz.underlying5 rfl rfl) ?_
 refine B4 rfl (I4 (E:=(eI .u8)) (l:=[(IntKind.wrap .u8 (Int.fdiv v (2 ^ 8))),(IntKind.wrap .u8 v)]) (tp:=11) (parts:=[(0,.tmp 8),(1,.tmp 10)]) (qs:=[.sc (.int .u8 (IntKind.wrap .u8 (Int.fdiv v (2 ^ 8)))),.sc (.int .u8 (IntKind.wrap .u8 v))]) rfl rfl rfl N3 rfl rfl rfl rfl) ?_
 refine B4 rfl (K1 (E:=(eI .u8)) (l:=b) (ext:=[(IntKind.wrap .u8 (Int.fdiv v (2 ^ 8))),(IntKind.wrap .u8 v)]) (tp:=1000) rfl rfl rfl N3 rfl rfl (Q1 rfl) (by first | ((try simp only [zB,zC,zD,B7,A7,A6,C0]); omega) | ((try simp only [z1,z2,z3,z4,z5,z6,z7,z8,z9,zA,zB,zC,zD,D2,C9,C4,C3,C5,B5,B6,B7,A7,A6,C0] at *); omega))) ?_
 refine B4 rfl (C7 (p:=.own 1000 (List.length (α:=Int) (b ++ [(IntKind.wrap .u8 (Int.fdiv v (2 ^ 8))),(IntKind.wrap .u8 v)])) (SL (eI .u8) (b ++ [(IntKind.wrap .u8 (Int.fdiv v (2 ^ 8))),(IntKind.wrap .u8 v)]))) rfl rfl rfl rfl) ?_
 refine D4 ?_
 refine G2 ?_
 exact F7 (F:=(fun (z:List Int)=>⟨[],[(1000,(1,z.length))],.own 1000 z.length (SL (eI .u8) z)⟩)) (z:=(Q8 b v)) (v:=(b ++ [(IntKind.wrap .u8 (Int.fdiv v (2 ^ 8))),(IntKind.wrap .u8 v)])) rfl rfl (.one (.tmp 4 (.own 1000 (List.length (α:=Int) (b ++ [(IntKind.wrap .u8 (Int.fdiv v (2 ^ 8))),(IntKind.wrap .u8 v)])) (SL (eI .u8) (b ++ [(IntKind.wrap .u8 (Int.fdiv v (2 ^ 8))),(IntKind.wrap .u8 v)]))) rfl) (.one (.rfl _)) rfl) trivial ⟨rfl,trivial⟩
theorem D8 (b:List Int) (v:Int):(Q8 b v).length=b.length + 2:=by simp [Q8]
def P0 (a:List Int) (b:List Int):Nat → Int → (Bool) ⊕ (Int)
 | 0,_=>Sum.inr default
 | n0 + 1,i_0 =>
  (bif decide ((i_0:Int) < (a.length:Int)) then
   (bif !(decide (((ix a i_0):Int)=(ix b i_0))) then
    Sum.inl false
   else
    P0 a b n0 (IntKind.wrap .i64 (i_0 + 1)))
  else
   Sum.inr i_0)
def F5 (a:List Int) (b:List Int):Bool:=
 (bif !(decide (((a.length:Int):Int)=(b.length:Int))) then
  false
 else
  (Sum.elim (fun z=>z) (fun (x_0:Int) =>
   true) (P0 a b (((a.length:Int) - 0).toNat + 1) 0)))
set_option maxRecDepth 100000 in
set_option maxHeartbeats 4000000 in
theorem A2l (a:List Int) (b:List Int):PG Tryz.prog 18 [] [] [.sem (SL (eI .u8) a),.sem (SL (eI .u8) b)] (fun _:Unit=>True) (fun _=>(fun (z:Bool)=>⟨[],[],.sc (.bool z)⟩) (F5 a b)):=by
 refine M4 (N:=26) (l:=[.tmp 4]) Tryz.func18 rfl rfl rfl (Nat.le_of_ble_eq_true rfl) fun w0 i0 F βs=>?_
 refine H5 0 rfl (fun hl1=>?_)
 refine H5 1 rfl (fun hl2=>?_)
 refine C6 ?_
 refine B8 ?_
 refine B4 rfl (C7 (p:=.sc (.bool false)) rfl rfl rfl rfl) ?_
 refine D4 ?_
 refine C6 ?_
 refine C6 ?_
 refine B8 ?_
 refine B4 rfl (C2 (p:=.sem (SL (eI .u8) a)) rfl rfl rfl rfl) ?_
 refine B4 rfl (L6 rfl rfl rfl Tryz.underlying22 (E3 rfl)) ?_
 refine B4 rfl (C2 (p:=.sem (SL (eI .u8) b)) rfl rfl rfl rfl) ?_
 refine B4 rfl (L6 rfl rfl rfl Tryz.underlying22 (E3 rfl)) ?_
 refine B4 rfl (E6 (u1:=.int .i64 (a.length:Int)) (u2:=.int .i64 (b.length:Int)) (v:=.bool (!(decide (((a.length:Int):Int)=(b.length:Int))))) rfl rfl rfl rfl rfl (fun _=>rfl)) ?_
 refine D4 ?_
 refine F6 (b:=!(decide (((a.length:Int):Int)=(b.length:Int)))) rfl (fun k3=>?_) (fun k3=>?_)
 ·skip
  refine C6 ?_
  refine B8 ?_
  refine B4 rfl (C7 (p:=.sc (.bool false)) rfl rfl rfl rfl) ?_
  refine D4 ?_
  refine G2 ?_
  exact F7 (F:=(fun (z:Bool)=>⟨[],[],.sc (.bool z)⟩)) (z:=(F5 a b)) (v:=false) (bT k3 rfl) rfl (.one (.tmp 4 (.sc (.bool false)) rfl) (.one (.rfl _)) rfl) trivial trivial
 ·skip
  refine F9 ?_
  refine C6 ?_
  refine C6 ?_
  refine B8 ?_
  refine B4 rfl (C7 (p:=.sc (.int .i64 0)) rfl rfl rfl rfl) ?_
  refine D4 ?_
  refine V4 (ι:=Int) (p:=fun x_0=>(P0 a b (((a.length:Int) - 0).toNat + 1) 0)=.inr x_0) (S:=fun x_0=>St.of 26 [(0,.sem (SL (eI .u8) a)),(1,.sem (SL (eI .u8) b)),(4,.sc (.bool false)),(5,.sc (.int .i64 x_0))] [] []) (by first | exact V3 | exact X8 | exact Y3 | exact Y0) ?_ (fun x_0 e4=>?_)
  ·skip
   refine H6 ?_
   refine R3 (ι:=Nat × Int) (S:=fun i=>St.of 26 [(0,.sem (SL (eI .u8) a)),(1,.sem (SL (eI .u8) b)),(4,.sc (.bool false)),(5,.sc (.int .i64 i.2))] [] []) (J:=fun i=>P0 a b i.1 i.2=(P0 a b (((a.length:Int) - 0).toNat + 1) 0) ∧ (((a.length:Int) - i.2).toNat < i.1) ∧ (0 ≤ i.2)) (μ:=fun i=>i.1) (i₀:=((((a.length:Int) - 0).toNat + 1),0)) (G9 rfl ⟨⟨rfl,(.one (.rfl _))⟩,⟨⟨rfl,(.one (.rfl _))⟩,⟨⟨rfl,(.one (.rfl _))⟩,⟨⟨rfl,(.one (.rfl _))⟩,trivial⟩⟩⟩⟩ trivial trivial) ⟨rfl,(by first | omega | ((try simp only [z1,z2,z3,z4,z5,z6,z7,z8,z9,zA,zB,zC,zD,D2,C9,C4,C3,C5,B5,B6,B7,A7,A6,C0,D8] at *); omega) | ((try simp only [z1,z2,z3,z4,z5,z6,z7,z8,z9,zA,B5,B6,B7,A7,A6,C0,D8] at *); (try simp (disch:=omega) only [C8]); (try simp only [z1,z2,z3,z4,z5,z6,z7,z8,z9,zA,zB,zC,zD,D2,C9,C4,C3,C5,B5,B6,B7] at *); omega)),(by first | omega | ((try simp only [z1,z2,z3,z4,z5,z6,z7,z8,z9,zA,zB,zC,zD,D2,C9,C4,C3,C5,B5,B6,B7,A7,A6,C0,D8] at *); omega) | ((try simp only [z1,z2,z3,z4,z5,z6,z7,z8,z9,zA,B5,B6,B7,A7,A6,C0,D8] at *); (try simp (disch:=omega) only [C8]); (try simp only [z1,z2,z3,z4,z5,z6,z7,z8,z9,zA,zB,zC,zD,D2,C9,C4,C3,C5,B5,B6,B7] at *); omega))⟩ ?_
   rintro ⟨n0,i_0⟩ ⟨hJ0,hm0_0,hm0_1⟩
   obtain ⟨n0,rfl⟩:∃ m,n0=m + 1:=⟨n0 - 1,by have:0 < n0:=Nat.lt_of_le_of_lt (Nat.zero_le _) hm0_0; omega⟩
   replace hJ0:P0 a b (n0 + 1) i_0=(P0 a b (((a.length:Int) - 0).toNat + 1) 0):=hJ0
   replace hm0_0:((a.length:Int) - i_0).toNat < n0 + 1:=hm0_0
   replace hm0_1:0 ≤ i_0:=hm0_1
   refine H5 0 rfl (fun hl5=>?_)
   refine H5 1 rfl (fun hl6=>?_)
   refine C6 ?_
   refine C6 ?_
   refine B8 ?_
   refine B4 rfl (C2 (p:=.sc (.int .i64 i_0)) rfl rfl rfl rfl) ?_
   refine B4 rfl (C2 (p:=.sem (SL (eI .u8) a)) rfl rfl rfl rfl) ?_
   refine B4 rfl (L6 rfl rfl rfl Tryz.underlying22 (E3 rfl)) ?_
   refine B4 rfl (E6 (u1:=.int .i64 i_0) (u2:=.int .i64 (a.length:Int)) (v:=.bool (decide ((i_0:Int) < (a.length:Int)))) rfl rfl rfl rfl rfl (fun _=>rfl)) ?_
   refine D4 ?_
   refine F6 (b:=decide ((i_0:Int) < (a.length:Int))) rfl (fun k7=>?_) (fun k7=>?_)
   ·skip
    refine F9 ?_
    refine C6 ?_
    refine H6 ?_
    refine C6 ?_
    refine Q5 { ds:=[some 17,some 18,some 19,some 20,some 21,some 22,some 23,some 24,some 25],p:=fun i=>[.sem (SL (eI .u8) a),.sc (.int .i64 i_0),.sem (PT [.sc (.int .u8 (ix a i_0))]),.sc (.int .u8 (ix a i_0)),.sem (SL (eI .u8) b),.sc (.int .i64 i_0),.sem (PT [.sc (.int .u8 (ix b i_0))]),.sc (.int .u8 (ix b i_0)),.sc (.bool (!(decide (((ix a i_0):Int)=(ix b i_0)))))].getD i .any,al:=[],st:=[] } rfl (by kernel_rfl) rfl rfl ?_ (fun bD hb=>?_)
    ·refine ⟨fun bD hc hi hd=>?_,fun bD hc hi hd=>?_,fun bD hc hi hd=>?_,fun bD hc hi hd=>?_,fun bD hc hi hd=>?_,fun bD hc hi hd=>?_,fun bD hc hi hd=>?_,fun bD hc hi hd=>?_,fun bD hc hi hd=>?_,trivial⟩
     ·exact F3.putStep (i:=0) (q:=.sem (SL (eI .u8) a)) rfl rfl rfl (C1 rfl (C2 (p:=.sem (SL (eI .u8) a)) rfl rfl rfl rfl))
     ·exact F3.putStep (i:=1) (q:=.sc (.int .i64 i_0)) rfl rfl rfl (C1 rfl (C2 (p:=.sc (.int .i64 i_0)) rfl rfl rfl rfl))
     ·exact F3.putStep (i:=2) (q:=.sem (PT [.sc (.int .u8 (ix a i_0))])) rfl rfl rfl (C1 rfl (N6 (E:=(eI .u8)) (l:=a) (n:=i_0) (ps:=[.sc (.int .u8 (ix a i_0))]) rfl rfl rfl Tryz.underlying22 ty5 (by exact (E3 (by exact (gt (p:=.sem (SL (eI .u8) a)) (q:=.any) (hd 0 (by decide)))))) (gt (p:=.sc (.int .i64 i_0)) (q:=.any) (hd 1 (by decide))) (by first | omega | ((try simp only [z1,z2,z3,z4,z5,z6,z7,z8,z9,zA,zB,zC,zD,D2,C9,C4,C3,C5,B5,B6,B7,A7,A6,C0,D8] at *); omega) | ((try simp only [z1,z2,z3,z4,z5,z6,z7,z8,z9,zA,B5,B6,B7,A7,A6,C0,D8] at *); (try simp (disch:=omega) only [C8]); (try simp only [z1,z2,z3,z4,z5,z6,z7,z8,z9,zA,zB,zC,zD,D2,C9,C4,C3,C5,B5,B6,B7] at *); omega)) rfl))
     ·exact F3.putStep (i:=3) (q:=.sc (.int .u8 (ix a i_0))) rfl rfl rfl (C1 rfl (G4 (ps:=[.sc (.int .u8 (ix a i_0))]) (p:=.sc (.int .u8 (ix a i_0))) rfl rfl rfl ty5 (gt (p:=.sem (PT [.sc (.int .u8 (ix a i_0))])) (q:=.any) (hd 2 (by decide))) rfl rfl rfl rfl))
     ·exact F3.putStep (i:=4) (q:=.sem (SL (eI .u8) b)) rfl rfl rfl (C1 rfl (C2 (p:=.sem (SL (eI .u8) b)) rfl rfl rfl rfl))
     ·exact F3.putStep (i:=5) (q:=.sc (.int .i64 i_0)) rfl rfl rfl (C1 rfl (C2 (p:=.sc (.int .i64 i_0)) rfl rfl rfl rfl))
     ·exact F3.putStep (i:=6) (q:=.sem (PT [.sc (.int .u8 (ix b i_0))])) rfl rfl rfl (C1 rfl (N6 (E:=(eI .u8)) (l:=b) (n:=i_0) (ps:=[.sc (.int .u8 (ix b i_0))]) rfl rfl rfl Tryz.underlying22 ty5 (by exact (E3 (by exact (gt (p:=.sem (SL (eI .u8) b)) (q:=.any) (hd 4 (by decide)))))) (gt (p:=.sc (.int .i64 i_0)) (q:=.any) (hd 5 (by decide))) (by first | omega | ((try simp only [z1,z2,z3,z4,z5,z6,z7,z8,z9,zA,zB,zC,zD,D2,C9,C4,C3,C5,B5,B6,B7,A7,A6,C0,D8] at *); omega) | ((try simp only [z1,z2,z3,z4,z5,z6,z7,z8,z9,zA,B5,B6,B7,A7,A6,C0,D8] at *); (try simp (disch:=omega) only [C8]); (try simp only [z1,z2,z3,z4,z5,z6,z7,z8,z9,zA,zB,zC,zD,D2,C9,C4,C3,C5,B5,B6,B7] at *); omega)) rfl))
     ·exact F3.putStep (i:=7) (q:=.sc (.int .u8 (ix b i_0))) rfl rfl rfl (C1 rfl (G4 (ps:=[.sc (.int .u8 (ix b i_0))]) (p:=.sc (.int .u8 (ix b i_0))) rfl rfl rfl ty5 (gt (p:=.sem (PT [.sc (.int .u8 (ix b i_0))])) (q:=.any) (hd 6 (by decide))) rfl rfl rfl rfl))
     ·exact F3.putStep (i:=8) (q:=.sc (.bool (!(decide (((ix a i_0):Int)=(ix b i_0)))))) rfl rfl rfl (C1 rfl (E6 (u1:=.int .u8 (ix a i_0)) (u2:=.int .u8 (ix b i_0)) (v:=.bool (!(decide (((ix a i_0):Int)=(ix b i_0))))) rfl rfl rfl (gt (p:=.sc (.int .u8 (ix a i_0))) (q:=.any) (hd 3 (by decide))) (gt (p:=.sc (.int .u8 (ix b i_0))) (q:=.any) (hd 7 (by decide))) (fun _=>rfl)))
    obtain rfl:bD=fun _=>true:=funext hb
    refine F6 (b:=!(decide (((ix a i_0):Int)=(ix b i_0)))) rfl (fun k8=>?_) (fun k8=>?_)
    ·skip
     refine C6 ?_
     refine B8 ?_
     refine B4 rfl (C7 (p:=.sc (.bool false)) rfl rfl rfl rfl) ?_
     refine D4 ?_
     refine G2 ?_
     exact F7 (F:=(fun (z:Bool)=>⟨[],[],.sc (.bool z)⟩)) (z:=(F5 a b)) (v:=false) (bF k3 (mL (hJ0.symm.trans (bT k7 (bT k8 rfl))) rfl)) rfl (.one (.tmp 4 (.sc (.bool false)) rfl) (.one (.rfl _)) rfl) trivial trivial
    ·skip
     refine F9 ?_
     refine B8 ?_
     refine B4 rfl (C2 (p:=.sc (.int .i64 i_0)) rfl rfl rfl rfl) ?_
     refine B4 rfl (E6 (u1:=.int .i64 i_0) (u2:=.int .i64 1) (v:=.int .i64 (IntKind.wrap .i64 (i_0 + 1))) rfl rfl rfl rfl rfl (fun _=>rfl)) ?_
     refine B4 rfl (C7 (p:=.sc (.int .i64 (IntKind.wrap .i64 (i_0 + 1)))) rfl rfl rfl rfl) ?_
     refine D4 ?_
     exact ⟨(n0,(IntKind.wrap .i64 (i_0 + 1))),(G9 rfl ⟨⟨rfl,(.one (.rfl _))⟩,⟨⟨rfl,(.one (.rfl _))⟩,⟨⟨rfl,(.one (.rfl _))⟩,⟨⟨rfl,(.one (.rfl _))⟩,trivial⟩⟩⟩⟩ trivial trivial),⟨Eq.trans (Eq.symm (bT k7 (bF k8 rfl))) hJ0,(by first | omega | ((try simp only [z1,z2,z3,z4,z5,z6,z7,z8,z9,zA,zB,zC,zD,D2,C9,C4,C3,C5,B5,B6,B7,A7,A6,C0,D8] at *); omega) | ((try simp only [z1,z2,z3,z4,z5,z6,z7,z8,z9,zA,B5,B6,B7,A7,A6,C0,D8] at *); (try simp (disch:=omega) only [C8]); (try simp only [z1,z2,z3,z4,z5,z6,z7,z8,z9,zA,zB,zC,zD,D2,C9,C4,C3,C5,B5,B6,B7] at *); omega)),(by first | omega | ((try simp only [z1,z2,z3,z4,z5,z6,z7,z8,z9,zA,zB,zC,zD,D2,C9,C4,C3,C5,B5,B6,B7,A7,A6,C0,D8] at *); omega) | ((try simp only [z1,z2,z3,z4,z5,z6,z7,z8,z9,zA,B5,B6,B7,A7,A6,C0,D8] at *); (try simp (disch:=omega) only [C8]); (try simp only [z1,z2,z3,z4,z5,z6,z7,z8,z9,zA,zB,zC,zD,D2,C9,C4,C3,C5,B5,B6,B7] at *); omega))⟩,Nat.lt_succ_self _⟩
   ·skip
    refine S8 ?_
    exact ⟨i_0,hJ0.symm.trans (bF k7 rfl),(G9 rfl ⟨⟨rfl,(.one (.rfl _))⟩,⟨⟨rfl,(.one (.rfl _))⟩,⟨⟨rfl,(.one (.rfl _))⟩,⟨⟨rfl,(.one (.rfl _))⟩,trivial⟩⟩⟩⟩ trivial trivial)⟩
  ·skip
   refine H5 0 rfl (fun hl9=>?_)
   refine H5 1 rfl (fun hl10=>?_)
   refine C6 ?_
   refine B8 ?_
   refine B4 rfl (C7 (p:=.sc (.bool true)) rfl rfl rfl rfl) ?_
   refine D4 ?_
   refine G2 ?_
   exact F7 (F:=(fun (z:Bool)=>⟨[],[],.sc (.bool z)⟩)) (z:=(F5 a b)) (v:=true) (bF k3 (mR e4 rfl)) rfl (.one (.tmp 4 (.sc (.bool true)) rfl) (.one (.rfl _)) rfl) trivial trivial
theorem A0z (a:List Int) (b:List Int):PF Tryz.prog 18 [.sem (SL (eI .u8) a),.sem (SL (eI .u8) b)] (.sc (.bool (F5 a b))):=M1 (A2l a b) rfl
def T2 (a0:A3) (a1:A3):Bool:=
 ((decide ((a0.fCode:Int)=a1.fCode)) && (decide ((a0.fSub:Int)=a1.fSub))) && (F5 a0.fData a1.fData)
set_option maxRecDepth 100000 in
set_option maxHeartbeats 4000000 in
theorem A0s (a0:A3) (a1:A3):PG Tryz.prog 11 [] [] [.agg (A3.cells a0),.agg (A3.cells a1)] (fun _:Unit=>True) (fun _=>(fun (z:Bool)=>⟨[],[],.sc (.bool z)⟩) (T2 a0 a1)):=by
 refine M4 (N:=24) (l:=[.tmp 4]) Tryz.func11 rfl rfl rfl (Nat.le_of_ble_eq_true rfl) fun w0 i0 F βs=>?_
 refine C6 ?_
 refine B8 ?_
 refine B4 rfl (q9 (s:=2) (p:=.agg (A3.cells a0)) (qs:=(A3.cells a0)) rfl rfl rfl rfl rfl rfl rfl) ?_
 refine B4 rfl (q9 (s:=3) (p:=.agg (A3.cells a1)) (qs:=(A3.cells a1)) rfl rfl rfl rfl rfl rfl rfl) ?_
 refine B4 rfl (C7 (p:=.sc (.bool false)) rfl rfl rfl rfl) ?_
 refine D4 ?_
 refine C6 ?_
 refine B8 ?_
 refine B4 rfl (D3 (b:=2) (k:=0) (m:=0) rfl rfl rfl Q9 rfl rfl) ?_
 refine B4 rfl (F4 (s:=2) (off:=0) (ps:=(A3.cells a0)) (p:=.sc (.int .i64 a0.fCode)) rfl rfl rfl ty3 rfl rfl rfl rfl rfl) ?_
 refine B4 rfl (D3 (b:=3) (k:=0) (m:=0) rfl rfl rfl Q9 rfl rfl) ?_
 refine B4 rfl (F4 (s:=3) (off:=0) (ps:=(A3.cells a1)) (p:=.sc (.int .i64 a1.fCode)) rfl rfl rfl ty3 rfl rfl rfl rfl rfl) ?_
 refine B4 rfl (E6 (u1:=.int .i64 a0.fCode) (u2:=.int .i64 a1.fCode) (v:=.bool (decide ((a0.fCode:Int)=a1.fCode))) rfl rfl rfl rfl rfl (fun _=>rfl)) ?_
 refine B4 rfl (C2 (p:=.sc (.bool (decide ((a0.fCode:Int)=a1.fCode)))) rfl rfl rfl rfl) ?_
 refine E0 (C:=decide ((a0.fCode:Int)=a1.fCode)) (p:=.loc 2 1) (G6 rfl rfl rfl rfl rfl) rfl rfl (fun g1=>D3 (b:=2) (k:=0) (m:=1) rfl rfl rfl f8 rfl rfl) ?_
 refine E0 (C:=decide ((a0.fCode:Int)=a1.fCode)) (p:=.sc (.int .i64 a0.fSub)) (G6 rfl rfl rfl rfl rfl) rfl rfl (fun g2=>F4 (s:=2) (off:=1) (ps:=(A3.cells a0)) (p:=.sc (.int .i64 a0.fSub)) rfl rfl rfl ty3 (gt (p:=.loc 2 1) (q:=.sc undef) g2) rfl rfl rfl rfl) ?_
 refine E0 (C:=decide ((a0.fCode:Int)=a1.fCode)) (p:=.loc 3 1) (G6 rfl rfl rfl rfl rfl) rfl rfl (fun g3=>D3 (b:=3) (k:=0) (m:=1) rfl rfl rfl f8 rfl rfl) ?_
 refine E0 (C:=decide ((a0.fCode:Int)=a1.fCode)) (p:=.sc (.int .i64 a1.fSub)) (G6 rfl rfl rfl rfl rfl) rfl rfl (fun g4=>F4 (s:=3) (off:=1) (ps:=(A3.cells a1)) (p:=.sc (.int .i64 a1.fSub)) rfl rfl rfl ty3 (gt (p:=.loc 3 1) (q:=.sc undef) g4) rfl rfl rfl rfl) ?_
 refine E0 (C:=decide ((a0.fCode:Int)=a1.fCode)) (p:=.sc (.bool (decide ((a0.fSub:Int)=a1.fSub)))) (G6 rfl rfl rfl rfl rfl) rfl rfl (fun g5=>E6 (u1:=.int .i64 a0.fSub) (u2:=.int .i64 a1.fSub) (v:=.bool (decide ((a0.fSub:Int)=a1.fSub))) rfl rfl rfl (gt (p:=.sc (.int .i64 a0.fSub)) (q:=.sc undef) g5) (gt (p:=.sc (.int .i64 a1.fSub)) (q:=.sc undef) g5) (fun _=>rfl)) ?_
 refine B4 rfl (J1 (b:=decide ((a0.fCode:Int)=a1.fCode)) (y:=decide ((a0.fSub:Int)=a1.fSub)) rfl rfl rfl rfl rfl) ?_
 refine B4 rfl (C2 (p:=.sc (.bool ((decide ((a0.fCode:Int)=a1.fCode)) && (decide ((a0.fSub:Int)=a1.fSub))))) rfl rfl rfl rfl) ?_
 refine E0 (C:=(decide ((a0.fCode:Int)=a1.fCode)) && (decide ((a0.fSub:Int)=a1.fSub))) (p:=.loc 2 2) (G6 rfl rfl rfl rfl rfl) rfl rfl (fun g6=>D3 (b:=2) (k:=0) (m:=2) rfl rfl rfl A2x rfl rfl) ?_
 refine E0 (C:=(decide ((a0.fCode:Int)=a1.fCode)) && (decide ((a0.fSub:Int)=a1.fSub))) (p:=.sem (SL (eI .u8) a0.fData)) (G6 rfl rfl rfl rfl rfl) rfl rfl (fun g7=>F4 (s:=2) (off:=2) (ps:=(A3.cells a0)) (p:=.sem (SL (eI .u8) a0.fData)) rfl rfl rfl A3N (gt (p:=.loc 2 2) (q:=.sc undef) g7) rfl rfl rfl rfl) ?_
 refine E0 (C:=(decide ((a0.fCode:Int)=a1.fCode)) && (decide ((a0.fSub:Int)=a1.fSub))) (p:=.loc 3 2) (G6 rfl rfl rfl rfl rfl) rfl rfl (fun g8=>D3 (b:=3) (k:=0) (m:=2) rfl rfl rfl A2x rfl rfl) ?_
 refine E0 (C:=(decide ((a0.fCode:Int)=a1.fCode)) && (decide ((a0.fSub:Int)=a1.fSub))) (p:=.sem (SL (eI .u8) a1.fData)) (G6 rfl rfl rfl rfl rfl) rfl rfl (fun g9=>F4 (s:=3) (off:=2) (ps:=(A3.cells a1)) (p:=.sem (SL (eI .u8) a1.fData)) rfl rfl rfl A3N (gt (p:=.loc 3 2) (q:=.sc undef) g9) rfl rfl rfl rfl) ?_
 refine E0 (C:=(decide ((a0.fCode:Int)=a1.fCode)) && (decide ((a0.fSub:Int)=a1.fSub))) (p:=.sc (.bool (F5 a0.fData a1.fData))) (G6 rfl rfl rfl rfl rfl) rfl rfl (fun g10=>I1 (fn:=Tryz.f18) (xs:=[.tmp 19,.tmp 21]) (args:=[.sem (SL (eI .u8) a0.fData),.sem (SL (eI .u8) a1.fData)]) (r:=.sc (.bool (F5 a0.fData a1.fData))) rfl rfl rfl Tryz.func18 rfl rfl (A6B (b0:=.sem (SL (eI .u8) a0.fData)) (b1:=.sem (SL (eI .u8) a1.fData)) (gt (p:=.sem (SL (eI .u8) a0.fData)) (q:=.sc undef) g10) (gt (p:=.sem (SL (eI .u8) a1.fData)) (q:=.sc undef) g10)) rfl rfl (A0z a0.fData a1.fData)) ?_
 refine B4 rfl (J1 (b:=(decide ((a0.fCode:Int)=a1.fCode)) && (decide ((a0.fSub:Int)=a1.fSub))) (y:=(F5 a0.fData a1.fData)) rfl rfl rfl rfl rfl) ?_
 refine B4 rfl (C7 (p:=.sc (.bool (((decide ((a0.fCode:Int)=a1.fCode)) && (decide ((a0.fSub:Int)=a1.fSub))) && (F5 a0.fData a1.fData)))) rfl rfl rfl rfl) ?_
 refine D4 ?_
 refine G2 ?_
 exact F7 (F:=(fun (z:Bool)=>⟨[],[],.sc (.bool z)⟩)) (z:=(T2 a0 a1)) (v:=((decide ((a0.fCode:Int)=a1.fCode)) && (decide ((a0.fSub:Int)=a1.fSub))) && (F5 a0.fData a1.fData)) rfl rfl (.one (.tmp 4 (.sc (.bool (((decide ((a0.fCode:Int)=a1.fCode)) && (decide ((a0.fSub:Int)=a1.fSub))) && (F5 a0.fData a1.fData)))) rfl) (.one (.rfl _)) rfl) trivial trivial
theorem ref05_SameNote_pf (a0:A3) (a1:A3):PF Tryz.prog 11 [.agg (A3.cells a0),.agg (A3.cells a1)] (.sc (.bool (T2 a0 a1))):=M1 (A0s a0 a1) rfl
def l8  : Int × Int:=
 (0,16)
set_option maxRecDepth 100000 in
set_option maxHeartbeats 4000000 in
theorem A2r  : PG Tryz.prog 93 [] [] [.sc (.int .u64 1),.sc (.int .u64 16)] (fun _:Unit=>True) (fun _=>(fun (z:Int × Int)=>⟨[],[],.tup [.sc (.int .u64 z.1),.sc (.int .u64 z.2)]⟩) l8):=by
 refine M4 (N:=51) (l:=[.tmp 4,.tmp 5]) Tryz.func93 rfl rfl rfl (Nat.le_of_ble_eq_true rfl) fun w0 i0 F βs=>?_
 refine C6 ?_
 refine B8 ?_
 refine B4 rfl (C7 (p:=.sc (.int .u64 0)) rfl rfl rfl rfl) ?_
 refine B4 rfl (C7 (p:=.sc (.int .u64 0)) rfl rfl rfl rfl) ?_
 refine D4 ?_
 refine C6 ?_
 refine B8 ?_
 refine B4 rfl (C2 (p:=.sc (.int .u64 1)) rfl rfl rfl rfl) ?_
 refine B4 rfl (E6 (u1:=.int .u64 1) (u2:=.int .u64 4294967295) (v:=.int .u64 1) rfl rfl rfl rfl rfl (fun _=>by kernel_rfl)) ?_
 refine B4 rfl (C7 (p:=.sc (.int .u64 1)) rfl rfl rfl rfl) ?_
 refine D4 ?_
 refine C6 ?_
 refine B8 ?_
 refine B4 rfl (C2 (p:=.sc (.int .u64 1)) rfl rfl rfl rfl) ?_
 refine B4 rfl (E6 (u1:=.int .u64 1) (u2:=.int .u64 32) (v:=.int .u64 0) rfl rfl rfl rfl rfl (fun _=>by kernel_rfl)) ?_
 refine B4 rfl (C7 (p:=.sc (.int .u64 0)) rfl rfl rfl rfl) ?_
 refine D4 ?_
 refine C6 ?_
 refine B8 ?_
 refine B4 rfl (C2 (p:=.sc (.int .u64 16)) rfl rfl rfl rfl) ?_
 refine B4 rfl (E6 (u1:=.int .u64 16) (u2:=.int .u64 4294967295) (v:=.int .u64 16) rfl rfl rfl rfl rfl (fun _=>by kernel_rfl)) ?_
 refine B4 rfl (C7 (p:=.sc (.int .u64 16)) rfl rfl rfl rfl) ?_
 refine D4 ?_
 refine C6 ?_
 refine B8 ?_
 refine B4 rfl (C2 (p:=.sc (.int .u64 16)) rfl rfl rfl rfl) ?_
 refine B4 rfl (E6 (u1:=.int .u64 16) (u2:=.int .u64 32) (v:=.int .u64 0) rfl rfl rfl rfl rfl (fun _=>by kernel_rfl)) ?_
 refine B4 rfl (C7 (p:=.sc (.int .u64 0)) rfl rfl rfl rfl) ?_
 refine D4 ?_
 refine C6 ?_
 refine B8 ?_
 refine B4 rfl (C2 (p:=.sc (.int .u64 1)) rfl rfl rfl rfl) ?_
 refine B4 rfl (C2 (p:=.sc (.int .u64 16)) rfl rfl rfl rfl) ?_
 refine B4 rfl (E6 (u1:=.int .u64 1) (u2:=.int .u64 16) (v:=.int .u64 16) rfl rfl rfl rfl rfl (fun _=>by kernel_rfl)) ?_
 refine B4 rfl (C7 (p:=.sc (.int .u64 16)) rfl rfl rfl rfl) ?_
 refine D4 ?_
 refine C6 ?_
 refine B8 ?_
 refine B4 rfl (C2 (p:=.sc (.int .u64 0)) rfl rfl rfl rfl) ?_
 refine B4 rfl (C2 (p:=.sc (.int .u64 16)) rfl rfl rfl rfl) ?_
 refine B4 rfl (E6 (u1:=.int .u64 0) (u2:=.int .u64 16) (v:=.int .u64 0) rfl rfl rfl rfl rfl (fun _=>by kernel_rfl)) ?_
 refine B4 rfl (C2 (p:=.sc (.int .u64 16)) rfl rfl rfl rfl) ?_
 refine B4 rfl (E6 (u1:=.int .u64 16) (u2:=.int .u64 32) (v:=.int .u64 0) rfl rfl rfl rfl rfl (fun _=>by kernel_rfl)) ?_
 refine B4 rfl (E6 (u1:=.int .u64 0) (u2:=.int .u64 0) (v:=.int .u64 0) rfl rfl rfl rfl rfl (fun _=>by kernel_rfl)) ?_
 refine B4 rfl (C7 (p:=.sc (.int .u64 0)) rfl rfl rfl rfl) ?_
 refine D4 ?_
 refine C6 ?_
 refine B8 ?_
 refine B4 rfl (C2 (p:=.sc (.int .u64 0)) rfl rfl rfl rfl) ?_
 refine B4 rfl (E6 (u1:=.int .u64 0) (u2:=.int .u64 4294967295) (v:=.int .u64 0) rfl rfl rfl rfl rfl (fun _=>by kernel_rfl)) ?_
 refine B4 rfl (C7 (p:=.sc (.int .u64 0)) rfl rfl rfl rfl) ?_
 refine D4 ?_
 refine C6 ?_
 refine B8 ?_
 refine B4 rfl (C2 (p:=.sc (.int .u64 0)) rfl rfl rfl rfl) ?_
 refine B4 rfl (E6 (u1:=.int .u64 0) (u2:=.int .u64 32) (v:=.int .u64 0) rfl rfl rfl rfl rfl (fun _=>by kernel_rfl)) ?_
 refine B4 rfl (C7 (p:=.sc (.int .u64 0)) rfl rfl rfl rfl) ?_
 refine D4 ?_
 refine C6 ?_
 refine B8 ?_
 refine B4 rfl (C2 (p:=.sc (.int .u64 0)) rfl rfl rfl rfl) ?_
 refine B4 rfl (C2 (p:=.sc (.int .u64 1)) rfl rfl rfl rfl) ?_
 refine B4 rfl (C2 (p:=.sc (.int .u64 0)) rfl rfl rfl rfl) ?_
 refine B4 rfl (E6 (u1:=.int .u64 1) (u2:=.int .u64 0) (v:=.int .u64 0) rfl rfl rfl rfl rfl (fun _=>by kernel_rfl)) ?_
 refine B4 rfl (E6 (u1:=.int .u64 0) (u2:=.int .u64 0) (v:=.int .u64 0) rfl rfl rfl rfl rfl (fun _=>by kernel_rfl)) ?_
 refine B4 rfl (C7 (p:=.sc (.int .u64 0)) rfl rfl rfl rfl) ?_
 refine D4 ?_
 refine C6 ?_
 refine B8 ?_
 refine B4 rfl (C2 (p:=.sc (.int .u64 0)) rfl rfl rfl rfl) ?_
 refine B4 rfl (C2 (p:=.sc (.int .u64 0)) rfl rfl rfl rfl) ?_
 refine B4 rfl (E6 (u1:=.int .u64 0) (u2:=.int .u64 0) (v:=.int .u64 0) rfl rfl rfl rfl rfl (fun _=>by kernel_rfl)) ?_
 refine B4 rfl (C2 (p:=.sc (.int .u64 0)) rfl rfl rfl rfl) ?_
 refine B4 rfl (E6 (u1:=.int .u64 0) (u2:=.int .u64 0) (v:=.int .u64 0) rfl rfl rfl rfl rfl (fun _=>by kernel_rfl)) ?_
 refine B4 rfl (C2 (p:=.sc (.int .u64 0)) rfl rfl rfl rfl) ?_
 refine B4 rfl (E6 (u1:=.int .u64 0) (u2:=.int .u64 32) (v:=.int .u64 0) rfl rfl rfl rfl rfl (fun _=>by kernel_rfl)) ?_
 refine B4 rfl (E6 (u1:=.int .u64 0) (u2:=.int .u64 0) (v:=.int .u64 0) rfl rfl rfl rfl rfl (fun _=>by kernel_rfl)) ?_
 refine B4 rfl (C7 (p:=.sc (.int .u64 0)) rfl rfl rfl rfl) ?_
 refine D4 ?_
 refine C6 ?_
 refine B8 ?_
 refine B4 rfl (C2 (p:=.sc (.int .u64 1)) rfl rfl rfl rfl) ?_
 refine B4 rfl (C2 (p:=.sc (.int .u64 16)) rfl rfl rfl rfl) ?_
 refine B4 rfl (E6 (u1:=.int .u64 1) (u2:=.int .u64 16) (v:=.int .u64 16) rfl rfl rfl rfl rfl (fun _=>by kernel_rfl)) ?_
 refine B4 rfl (C7 (p:=.sc (.int .u64 16)) rfl rfl rfl rfl) ?_
 refine D4 ?_
 refine G2 ?_
 exact F7 (F:=(fun (z:Int × Int)=>⟨[],[],.tup [.sc (.int .u64 z.1),.sc (.int .u64 z.2)]⟩)) (z:=l8) (v:=(0,16)) rfl rfl (.two (.tmp 4 (.sc (.int .u64 0)) rfl) (.one (.rfl _)) rfl (.tmp 5 (.sc (.int .u64 16)) rfl) (.one (.rfl _)) rfl) trivial trivial
theorem A3U  : PF Tryz.prog 93 [.sc (.int .u64 1),.sc (.int .u64 16)] (.tup [.sc (.int .u64 l8.1),.sc (.int .u64 l8.2)]):=M1 (A2r) rfl
def A1b  : Int × Int:=
 (0,16)
set_option maxRecDepth 100000 in
set_option maxHeartbeats 4000000 in
theorem A3S  : PG Tryz.prog 67 [] [] [.sc (.int .u64 1),.sc (.int .u64 16)] (fun _:Unit=>True) (fun _=>(fun (z:Int × Int)=>⟨[],[],.tup [.sc (.int .u64 z.1),.sc (.int .u64 z.2)]⟩) A1b):=by
 refine M4 (N:=30) (l:=[.tmp 4,.tmp 5]) Tryz.func67 rfl rfl rfl (Nat.le_of_ble_eq_true rfl) fun w0 i0 F βs=>?_
 refine C6 ?_
 refine B8 ?_
 refine B4 rfl (C7 (p:=.sc (.int .u64 0)) rfl rfl rfl rfl) ?_
 refine B4 rfl (C7 (p:=.sc (.int .u64 0)) rfl rfl rfl rfl) ?_
 refine D4 ?_
 refine C6 ?_
 refine F6 (b:=false) rfl (fun h=>by cases h) (fun _=>?_)
 refine F9 ?_
 refine C6 ?_
 refine B8 ?_
 refine B4 rfl (C2 (p:=.sc (.int .u64 1)) rfl rfl rfl rfl) ?_
 refine B4 rfl (C2 (p:=.sc (.int .u64 16)) rfl rfl rfl rfl) ?_
 refine B4 rfl (I1 (fn:=Tryz.f93) (xs:=[.tmp 23,.tmp 24]) (args:=[.sc (.int .u64 1),.sc (.int .u64 16)]) (r:=.tup [.sc (.int .u64 0),.sc (.int .u64 16)]) rfl rfl rfl Tryz.func93 rfl rfl rfl rfl rfl (PF.conv (A3U) rfl)) ?_
 refine B4 rfl (C2 (p:=.tup [.sc (.int .u64 0),.sc (.int .u64 16)]) rfl rfl rfl rfl) ?_
 refine B4 rfl (I2 (ps:=[.sc (.int .u64 0),.sc (.int .u64 16)]) (p:=.sc (.int .u64 0)) rfl rfl rfl rfl rfl) ?_
 refine B4 rfl (I2 (ps:=[.sc (.int .u64 0),.sc (.int .u64 16)]) (p:=.sc (.int .u64 16)) rfl rfl rfl rfl rfl) ?_
 refine B4 rfl (C7 (p:=.sc (.int .u64 0)) rfl rfl rfl rfl) ?_
 refine B4 rfl (C7 (p:=.sc (.int .u64 16)) rfl rfl rfl rfl) ?_
 refine D4 ?_
 refine C6 ?_
 refine B8 ?_
 refine B4 rfl (C2 (p:=.sc (.int .u64 0)) rfl rfl rfl rfl) ?_
 refine B4 rfl (C2 (p:=.sc (.int .u64 16)) rfl rfl rfl rfl) ?_
 refine B4 rfl (C7 (p:=.sc (.int .u64 0)) rfl rfl rfl rfl) ?_
 refine B4 rfl (C7 (p:=.sc (.int .u64 16)) rfl rfl rfl rfl) ?_
 refine D4 ?_
 refine G2 ?_
 exact F7 (F:=(fun (z:Int × Int)=>⟨[],[],.tup [.sc (.int .u64 z.1),.sc (.int .u64 z.2)]⟩)) (z:=A1b) (v:=(0,16)) rfl rfl (.two (.tmp 4 (.sc (.int .u64 0)) rfl) (.one (.rfl _)) rfl (.tmp 5 (.sc (.int .u64 16)) rfl) (.one (.rfl _)) rfl) trivial trivial
theorem A5j  : PF Tryz.prog 67 [.sc (.int .u64 1),.sc (.int .u64 16)] (.tup [.sc (.int .u64 A1b.1),.sc (.int .u64 A1b.2)]):=M1 (A3S) rfl
def J0 (c:Int):List Int:=
 [c,c,c,c,c,c,c,c,c,c,c,c,c,c,c,c]
set_option maxRecDepth 100000 in
set_option maxHeartbeats 4000000 in
theorem A1i (c:Int):PG Tryz.prog 46 [] [] [.sem (SL (eI .u8) [c]),.sc (.int .i64 16)] (fun _:Unit=>True) (fun _=>(fun (z:List Int)=>⟨[],[(1000,(1,z.length))],.own 1000 z.length (SL (eI .u8) z)⟩) (J0 c)):=by
 refine M4 (N:=77) (l:=[.tmp 4]) Tryz.func46 rfl rfl rfl (Nat.le_of_ble_eq_true rfl) fun w0 i0 F βs=>?_
 refine H5 0 rfl (fun hl1=>?_)
 refine C6 ?_
 refine B8 ?_
 refine B4 rfl (C7 (p:=.sc (.slice none 0 0)) rfl rfl rfl rfl) ?_
 refine D4 ?_
 refine C6 ?_
 refine C6 ?_
 refine B8 ?_
 refine B4 rfl (C2 (p:=.sc (.int .i64 16)) rfl rfl rfl rfl) ?_
 refine B4 rfl (E6 (u1:=.int .i64 16) (u2:=.int .i64 0) (v:=.bool false) rfl rfl rfl rfl rfl (fun _=>rfl)) ?_
 refine D4 ?_
 refine F6 (b:=false) rfl (fun h=>by cases h) (fun _=>?_)
 refine F9 ?_
 refine C6 ?_
 refine C6 ?_
 refine B8 ?_
 refine B4 rfl (C2 (p:=.sc (.int .i64 16)) rfl rfl rfl rfl) ?_
 refine B4 rfl (E6 (u1:=.int .i64 16) (u2:=.int .i64 0) (v:=.bool false) rfl rfl rfl rfl rfl (fun _=>rfl)) ?_
 refine D4 ?_
 refine F6 (b:=false) rfl (fun h=>by cases h) (fun _=>?_)
 refine F9 ?_
 refine C6 ?_
 refine B8 ?_
 refine B4 rfl (C2 (p:=.sem (SL (eI .u8) [c])) rfl rfl rfl rfl) ?_
 refine B4 rfl (L6 (l:=[c]) rfl rfl rfl Tryz.underlying22 (E3 rfl)) ?_
 refine B4 rfl (G8 (m:=1) rfl rfl rfl Tryz.underlying3 Tryz.underlying88 rfl rfl) ?_
 refine B4 rfl (C2 (p:=.sc (.int .i64 16)) rfl rfl rfl rfl) ?_
 refine B4 rfl (G8 (m:=16) rfl rfl rfl Tryz.underlying3 Tryz.underlying88 rfl rfl) ?_
 refine B4 rfl (I1 (fn:=Tryz.f67) (xs:=[.tmp 21,.tmp 23]) (args:=[.sc (.int .u64 1),.sc (.int .u64 16)]) (r:=.tup [.sc (.int .u64 0),.sc (.int .u64 16)]) rfl rfl rfl Tryz.func67 rfl rfl rfl rfl rfl (PF.conv (A5j) rfl)) ?_
 refine B4 rfl (C2 (p:=.tup [.sc (.int .u64 0),.sc (.int .u64 16)]) rfl rfl rfl rfl) ?_
 refine B4 rfl (I2 (ps:=[.sc (.int .u64 0),.sc (.int .u64 16)]) (p:=.sc (.int .u64 0)) rfl rfl rfl rfl rfl) ?_
 refine B4 rfl (I2 (ps:=[.sc (.int .u64 0),.sc (.int .u64 16)]) (p:=.sc (.int .u64 16)) rfl rfl rfl rfl rfl) ?_
 refine B4 rfl (C7 (p:=.sc (.int .u64 0)) rfl rfl rfl rfl) ?_
 refine B4 rfl (C7 (p:=.sc (.int .u64 16)) rfl rfl rfl rfl) ?_
 refine D4 ?_
 refine C6 ?_
 refine C6 ?_
 refine B8 ?_
 refine B4 rfl (C2 (p:=.sc (.int .u64 0)) rfl rfl rfl rfl) ?_
 refine B4 rfl (E6 (u1:=.int .u64 0) (u2:=.int .u64 0) (v:=.bool false) rfl rfl rfl rfl rfl (fun _=>rfl)) ?_
 refine B4 rfl (C2 (p:=.sc (.bool false)) rfl rfl rfl rfl) ?_
 refine A5P (b:=false) rfl rfl rfl rfl rfl rfl (C2 (p:=.sc (.int .u64 16)) rfl rfl rfl rfl) ?_
 refine A5P (b:=false) rfl rfl rfl rfl rfl rfl (E6 (u1:=.int .u64 16) (u2:=.int .u64 9223372036854775807) (v:=.bool false) rfl rfl rfl rfl rfl (fun _=>rfl)) ?_
 refine B4 rfl (A4r (b:=false) (p:=.sc (.bool false)) rfl rfl rfl rfl rfl rfl) ?_
 refine D4 ?_
 refine F6 (b:=false) rfl (fun h=>by cases h) (fun _=>?_)
 refine F9 ?_
 refine C6 ?_
 refine B8 ?_
 refine B4 rfl (C2 (p:=.sc (.int .u64 16)) rfl rfl rfl rfl) ?_
 refine B4 rfl (G8 (m:=16) rfl rfl rfl Tryz.underlying88 Tryz.underlying3 rfl rfl) ?_
 refine B4 rfl (C7 (p:=.sc (.int .i64 16)) rfl rfl rfl rfl) ?_
 refine D4 ?_
 refine C6 ?_
 refine C6 ?_
 refine B8 ?_
 refine B4 rfl (C2 (p:=.sem (SL (eI .u8) [c])) rfl rfl rfl rfl) ?_
 refine B4 rfl (L6 (l:=[c]) rfl rfl rfl Tryz.underlying22 (E3 rfl)) ?_
 refine B4 rfl (E6 (u1:=.int .i64 1) (u2:=.int .i64 0) (v:=.bool false) rfl rfl rfl rfl rfl (fun _=>rfl)) ?_
 refine D4 ?_
 refine F6 (b:=false) rfl (fun h=>by cases h) (fun _=>?_)
 refine F9 ?_
 refine C6 ?_
 refine B8 ?_
 refine B4 rfl (C2 (p:=.sc (.int .i64 16)) rfl rfl rfl rfl) ?_
 refine B4 rfl (C7 (p:=.sc (.int .i64 16)) rfl rfl rfl rfl) ?_
 refine D4 ?_
 refine C6 ?_
 refine C6 ?_
 refine B8 ?_
 refine B4 rfl (C2 (p:=.sc (.int .i64 16)) rfl rfl rfl rfl) ?_
 refine B4 rfl (E6 (u1:=.int .i64 16) (u2:=.int .i64 8192) (v:=.bool false) rfl rfl rfl rfl rfl (fun _=>rfl)) ?_
 refine D4 ?_
 refine F6 (b:=false) rfl (fun h=>by cases h) (fun _=>?_)
 refine F9 ?_
 refine C6 ?_
 refine B8 ?_
 refine B4 rfl (C2 (p:=.sc (.int .i64 16)) rfl rfl rfl rfl) ?_
 refine j7 rfl (A7L (fn:=Tryz.f68) (s:=5054) (n:=16) (ps:=#[3]) (t:=22) rfl rfl rfl rfl Tryz.func68 rfl rfl (by kernel_rfl) (by kernel_rfl) Tryz.underlying22 rfl (by decide)) (fun cap54 hcap54=>?_)
 refine A7r (s:=5054) (ps:=List.replicate cap54 .any) (qs:=(.any :: .any :: .any :: .any :: .any :: .any :: .any :: .any :: .any :: .any :: .any :: .any :: .any :: .any :: .any :: .any :: (List.replicate (cap54 - 16) .any))) rfl (A6T cap54 16 hcap54.1) ?_
 refine B4 rfl (C2 (p:=.sc (.int .i64 16)) rfl rfl rfl rfl) ?_
 refine B4 rfl (C2 (p:=.sc (.int .i64 16)) rfl rfl rfl rfl) ?_
 refine B4 rfl (A6O (off':=0) (n':=16) (c':=16) (i:=0) (j:=16) (m:=16) (sz:=1) rfl rfl rfl Tryz.underlying22 ty5 rfl (L3 rfl) rfl rfl (by omega) (by decide) rfl rfl) ?_
 refine B4 rfl (C7 (p:=.arr 5054 0 16 16) rfl rfl rfl rfl) ?_
 refine D4 ?_
 refine C6 ?_
 refine B8 ?_
 refine B4 rfl (C2 (p:=.arr 5054 0 16 16) rfl rfl rfl rfl) ?_
 refine B4 rfl (C2 (p:=.sem (SL (eI .u8) [c])) rfl rfl rfl rfl) ?_
 refine B4 rfl (A8h (E:=(eI .u8)) (s:=5054) (l:=[c]) (ps:=(.any :: .any :: .any :: .any :: .any :: .any :: .any :: .any :: .any :: .any :: .any :: .any :: .any :: .any :: .any :: .any :: (List.replicate (cap54 - 16) .any))) (qs:=((.sc (.int .u8 c)) :: .any :: .any :: .any :: .any :: .any :: .any :: .any :: .any :: .any :: .any :: .any :: .any :: .any :: .any :: .any :: (List.replicate (cap54 - 16) .any))) rfl rfl rfl Tryz.underlying22 ty5 rfl rfl (E3 rfl) (by show 0 + 1 * 1 ≤ List.length (α:=PV) (.any :: .any :: .any :: .any :: .any :: .any :: .any :: .any :: .any :: .any :: .any :: .any :: .any :: .any :: .any :: .any :: (List.replicate (cap54 - 16) .any)); simp only [List.length_cons]; omega) rfl (fun _=>rfl)) ?_
 refine B4 rfl (C7 (p:=.sc (.int .i64 1)) rfl rfl rfl rfl) ?_
 refine D4 ?_
 refine C6 ?_
 refine H6 ?_
 refine A6K 6 ?_
 refine A5k ?_
 refine C6 ?_
 refine C6 ?_
 refine B8 ?_
 refine B4 rfl (C2 (p:=.sc (.int .i64 1)) rfl rfl rfl rfl) ?_
 refine B4 rfl (C2 (p:=.sc (.int .i64 16)) rfl rfl rfl rfl) ?_
 refine B4 rfl (E6 (u1:=.int .i64 1) (u2:=.int .i64 16) (v:=.bool true) rfl rfl rfl rfl rfl (fun _=>rfl)) ?_
 refine D4 ?_
 refine F6 (b:=true) rfl (fun _=>?_) (fun h=>by cases h)
 refine F9 ?_
 refine H6 ?_
 refine C6 ?_
 refine B8 ?_
 refine B4 rfl (C2 (p:=.sc (.int .i64 1)) rfl rfl rfl rfl) ?_
 refine B4 rfl (C2 (p:=.sc (.int .i64 16)) rfl rfl rfl rfl) ?_
 refine B4 rfl (l0 (xs:=[.tmp 64,.tmp 65]) (us:=[.int .i64 1,.int .i64 16]) (v:=.int .i64 1) rfl rfl rfl rfl (fun _ _=>by kernel_rfl)) ?_
 refine B4 rfl (C7 (p:=.sc (.int .i64 1)) rfl rfl rfl rfl) ?_
 refine D4 ?_
 refine S9 (ds:=[some 67,some 68,some 69,some 70,some 71,some 72,some 73,some 74,some 75,some 10]) (ks:=[7]) (ps:=[.sc (.int .i64 1),.arr 5054 0 16 16,.sc (.int .i64 1),.arr 5054 1 15 15,.arr 5054 0 16 16,.sc (.int .i64 1),.arr 5054 0 1 16,.any,.any,.any]) rfl (by kernel_rfl) rfl rfl ?_
 refine A0c (d:=74) (q:=.sc (.int .i64 1)) (s:=5054) (x:=some ((.sc (.int .u8 c)) :: (.sc (.int .u8 c)) :: .any :: .any :: .any :: .any :: .any :: .any :: .any :: .any :: .any :: .any :: .any :: .any :: .any :: .any :: (List.replicate (cap54 - 16) .any))) (k:=7) (qs:=[.sc (.int .i64 1),.arr 5054 0 16 16,.sc (.int .i64 1),.arr 5054 1 15 15,.arr 5054 0 16 16,.sc (.int .i64 1),.arr 5054 0 1 16,.sc (.int .i64 1),.sc (.int .i64 2),.sc (.int .i64 2)]) [0,1,2,3,4,5,6] [true,true,true,true,true,true,true,false,false,false] (by kernel_rfl) (by kernel_rfl) rfl rfl rfl (by kernel_rfl) rfl rfl rfl rfl rfl ?_ (fun bD hc hi hd=>by exact A1c (off:=1) (n:=15) (c:=15) (off2:=0) (n2:=1) (c2:=16) (s:=5054) (sz:=1) (ps:=((.sc (.int .u8 c)) :: .any :: .any :: .any :: .any :: .any :: .any :: .any :: .any :: .any :: .any :: .any :: .any :: .any :: .any :: .any :: (List.replicate (cap54 - 16) .any))) (qs:=((.sc (.int .u8 c)) :: (.sc (.int .u8 c)) :: .any :: .any :: .any :: .any :: .any :: .any :: .any :: .any :: .any :: .any :: .any :: .any :: .any :: .any :: (List.replicate (cap54 - 16) .any))) rfl rfl rfl Tryz.underlying22 ty5 (by exact (gt (p:=.arr 5054 1 15 15) (q:=.any) (hd 3 (by decide)))) (by exact (gt (p:=.arr 5054 0 1 16) (q:=.any) (hd 6 (by decide)))) rfl (by show 1 + 1 * 1 ≤ List.length (α:=PV) ((.sc (.int .u8 c)) :: .any :: .any :: .any :: .any :: .any :: .any :: .any :: .any :: .any :: .any :: .any :: .any :: .any :: .any :: .any :: (List.replicate (cap54 - 16) .any)); simp only [List.length_cons]; omega) (by show 0 + 1 * 1 ≤ List.length (α:=PV) ((.sc (.int .u8 c)) :: .any :: .any :: .any :: .any :: .any :: .any :: .any :: .any :: .any :: .any :: .any :: .any :: .any :: .any :: .any :: (List.replicate (cap54 - 16) .any)); simp only [List.length_cons]; omega) rfl) ?_
 ·refine fc ?_ (fc ?_ (fc ?_ (fc ?_ (fc ?_ (fc ?_ (fc ?_ (fn')))))))
  ·exact E7 (i:=0) (q:=.sc (.int .i64 1)) rfl rfl rfl (fun bD hc hi hd=>C1 rfl (C2 (p:=.sc (.int .i64 1)) rfl rfl rfl (gf (q:=.sc (.int .i64 1)) (S5 (j:=9) hc hi (by kernel_rfl)))))
  ·exact E7 (i:=1) (q:=.arr 5054 0 16 16) rfl rfl rfl (fun bD hc hi hd=>C1 rfl (C2 (p:=.arr 5054 0 16 16) rfl rfl rfl rfl))
  ·exact E7 (i:=2) (q:=.sc (.int .i64 1)) rfl rfl rfl (fun bD hc hi hd=>C1 rfl (C2 (p:=.sc (.int .i64 1)) rfl rfl rfl (gf (q:=.sc (.int .i64 1)) (S5 (j:=9) hc hi (by kernel_rfl)))))
  ·exact E7 (i:=3) (q:=.arr 5054 1 15 15) rfl rfl rfl (fun bD hc hi hd=>C1 rfl (X1 (off':=1) (n':=15) (c':=15) (i:=1) (j:=16) (sz:=1) rfl rfl rfl Tryz.underlying22 ty5 (gt (p:=.arr 5054 0 16 16) (q:=.any) (hd 1 (by decide))) (I0 (gt (p:=.sc (.int .i64 1)) (q:=.any) (hd 2 (by decide)))) (L3 rfl) (by omega) (by decide) rfl rfl))
  ·exact E7 (i:=4) (q:=.arr 5054 0 16 16) rfl rfl rfl (fun bD hc hi hd=>C1 rfl (C2 (p:=.arr 5054 0 16 16) rfl rfl rfl rfl))
  ·exact E7 (i:=5) (q:=.sc (.int .i64 1)) rfl rfl rfl (fun bD hc hi hd=>C1 rfl (C2 (p:=.sc (.int .i64 1)) rfl rfl rfl rfl))
  ·exact E7 (i:=6) (q:=.arr 5054 0 1 16) rfl rfl rfl (fun bD hc hi hd=>C1 rfl (X1 (off':=0) (n':=1) (c':=16) (i:=0) (j:=1) (sz:=1) rfl rfl rfl Tryz.underlying22 ty5 (gt (p:=.arr 5054 0 16 16) (q:=.any) (hd 4 (by decide))) (L3 rfl) (I0 (gt (p:=.sc (.int .i64 1)) (q:=.any) (hd 5 (by decide)))) (by omega) (by decide) rfl rfl))
 refine P6 [0,8,9] (by kernel_rfl) ?_ (fun bD hb=>?_)
 ·refine fc ?_ (fc ?_ (fc ?_ (fn')))
  ·exact E7 (i:=0) (q:=.sc (.int .i64 1)) rfl rfl rfl (fun bD hc hi hd=>C1 rfl (C2 (p:=.sc (.int .i64 1)) rfl rfl rfl (gf (q:=.sc (.int .i64 1)) (S5 (j:=9) hc hi (by kernel_rfl)))))
  ·exact E7 (i:=8) (q:=.sc (.int .i64 2)) rfl rfl rfl (fun bD hc hi hd=>C1 rfl (E6 (u1:=.int .i64 1) (u2:=.int .i64 1) (v:=.int .i64 2) rfl rfl rfl (gt (p:=.sc (.int .i64 1)) (q:=.any) (hd 0 (by decide))) (gt (p:=.sc (.int .i64 1)) (q:=.any) (hd 7 (by decide))) (fun _=>by kernel_rfl)))
  ·exact E7 (i:=9) (q:=.sc (.int .i64 2)) rfl rfl rfl (fun bD hc hi hd=>C1 rfl (C7 (p:=.sc (.int .i64 2)) rfl rfl rfl (gt (p:=.sc (.int .i64 2)) (q:=.any) (hd 8 (by decide)))))
 obtain rfl:bD=fun _=>true:=funext hb
 refine A5k ?_
 refine C6 ?_
 refine C6 ?_
 refine B8 ?_
 refine B4 rfl (C2 (p:=.sc (.int .i64 2)) rfl rfl rfl rfl) ?_
 refine B4 rfl (C2 (p:=.sc (.int .i64 16)) rfl rfl rfl rfl) ?_
 refine B4 rfl (E6 (u1:=.int .i64 2) (u2:=.int .i64 16) (v:=.bool true) rfl rfl rfl rfl rfl (fun _=>rfl)) ?_
 refine D4 ?_
 refine F6 (b:=true) rfl (fun _=>?_) (fun h=>by cases h)
 refine F9 ?_
 refine H6 ?_
 refine C6 ?_
 refine B8 ?_
 refine B4 rfl (C2 (p:=.sc (.int .i64 2)) rfl rfl rfl rfl) ?_
 refine B4 rfl (C2 (p:=.sc (.int .i64 16)) rfl rfl rfl rfl) ?_
 refine B4 rfl (l0 (xs:=[.tmp 64,.tmp 65]) (us:=[.int .i64 2,.int .i64 16]) (v:=.int .i64 2) rfl rfl rfl rfl (fun _ _=>by kernel_rfl)) ?_
 refine B4 rfl (C7 (p:=.sc (.int .i64 2)) rfl rfl rfl rfl) ?_
 refine D4 ?_
 refine S9 (ds:=[some 67,some 68,some 69,some 70,some 71,some 72,some 73,some 74,some 75,some 10]) (ks:=[7]) (ps:=[.sc (.int .i64 2),.arr 5054 0 16 16,.sc (.int .i64 2),.arr 5054 2 14 14,.arr 5054 0 16 16,.sc (.int .i64 2),.arr 5054 0 2 16,.any,.any,.any]) rfl (by kernel_rfl) rfl rfl ?_
 refine A0c (d:=74) (q:=.sc (.int .i64 2)) (s:=5054) (x:=some ((.sc (.int .u8 c)) :: (.sc (.int .u8 c)) :: (.sc (.int .u8 c)) :: (.sc (.int .u8 c)) :: .any :: .any :: .any :: .any :: .any :: .any :: .any :: .any :: .any :: .any :: .any :: .any :: (List.replicate (cap54 - 16) .any))) (k:=7) (qs:=[.sc (.int .i64 2),.arr 5054 0 16 16,.sc (.int .i64 2),.arr 5054 2 14 14,.arr 5054 0 16 16,.sc (.int .i64 2),.arr 5054 0 2 16,.sc (.int .i64 2),.sc (.int .i64 4),.sc (.int .i64 4)]) [0,1,2,3,4,5,6] [true,true,true,true,true,true,true,false,false,false] (by kernel_rfl) (by kernel_rfl) rfl rfl rfl (by kernel_rfl) rfl rfl rfl rfl rfl ?_ (fun bD hc hi hd=>by exact A1c (off:=2) (n:=14) (c:=14) (off2:=0) (n2:=2) (c2:=16) (s:=5054) (sz:=1) (ps:=((.sc (.int .u8 c)) :: (.sc (.int .u8 c)) :: .any :: .any :: .any :: .any :: .any :: .any :: .any :: .any :: .any :: .any :: .any :: .any :: .any :: .any :: (List.replicate (cap54 - 16) .any))) (qs:=((.sc (.int .u8 c)) :: (.sc (.int .u8 c)) :: (.sc (.int .u8 c)) :: (.sc (.int .u8 c)) :: .any :: .any :: .any :: .any :: .any :: .any :: .any :: .any :: .any :: .any :: .any :: .any :: (List.replicate (cap54 - 16) .any))) rfl rfl rfl Tryz.underlying22 ty5 (by exact (gt (p:=.arr 5054 2 14 14) (q:=.arr 5054 1 15 15) (hd 3 (by decide)))) (by exact (gt (p:=.arr 5054 0 2 16) (q:=.arr 5054 0 1 16) (hd 6 (by decide)))) rfl (by show 2 + 2 * 1 ≤ List.length (α:=PV) ((.sc (.int .u8 c)) :: (.sc (.int .u8 c)) :: .any :: .any :: .any :: .any :: .any :: .any :: .any :: .any :: .any :: .any :: .any :: .any :: .any :: .any :: (List.replicate (cap54 - 16) .any)); simp only [List.length_cons]; omega) (by show 0 + 2 * 1 ≤ List.length (α:=PV) ((.sc (.int .u8 c)) :: (.sc (.int .u8 c)) :: .any :: .any :: .any :: .any :: .any :: .any :: .any :: .any :: .any :: .any :: .any :: .any :: .any :: .any :: (List.replicate (cap54 - 16) .any)); simp only [List.length_cons]; omega) rfl) ?_
 ·refine fc ?_ (fc ?_ (fc ?_ (fc ?_ (fc ?_ (fc ?_ (fc ?_ (fn')))))))
  ·exact E7 (i:=0) (q:=.sc (.int .i64 2)) rfl rfl rfl (fun bD hc hi hd=>C1 rfl (C2 (p:=.sc (.int .i64 2)) rfl rfl rfl (gf (q:=.sc (.int .i64 2)) (S5 (j:=9) hc hi (by kernel_rfl)))))
  ·exact E7 (i:=1) (q:=.arr 5054 0 16 16) rfl rfl rfl (fun bD hc hi hd=>C1 rfl (C2 (p:=.arr 5054 0 16 16) rfl rfl rfl rfl))
  ·exact E7 (i:=2) (q:=.sc (.int .i64 2)) rfl rfl rfl (fun bD hc hi hd=>C1 rfl (C2 (p:=.sc (.int .i64 2)) rfl rfl rfl (gf (q:=.sc (.int .i64 2)) (S5 (j:=9) hc hi (by kernel_rfl)))))
  ·exact E7 (i:=3) (q:=.arr 5054 2 14 14) rfl rfl rfl (fun bD hc hi hd=>C1 rfl (X1 (off':=2) (n':=14) (c':=14) (i:=2) (j:=16) (sz:=1) rfl rfl rfl Tryz.underlying22 ty5 (gt (p:=.arr 5054 0 16 16) (q:=.arr 5054 0 16 16) (hd 1 (by decide))) (I0 (gt (p:=.sc (.int .i64 2)) (q:=.sc (.int .i64 1)) (hd 2 (by decide)))) (L3 rfl) (by omega) (by decide) rfl rfl))
  ·exact E7 (i:=4) (q:=.arr 5054 0 16 16) rfl rfl rfl (fun bD hc hi hd=>C1 rfl (C2 (p:=.arr 5054 0 16 16) rfl rfl rfl rfl))
  ·exact E7 (i:=5) (q:=.sc (.int .i64 2)) rfl rfl rfl (fun bD hc hi hd=>C1 rfl (C2 (p:=.sc (.int .i64 2)) rfl rfl rfl rfl))
  ·exact E7 (i:=6) (q:=.arr 5054 0 2 16) rfl rfl rfl (fun bD hc hi hd=>C1 rfl (X1 (off':=0) (n':=2) (c':=16) (i:=0) (j:=2) (sz:=1) rfl rfl rfl Tryz.underlying22 ty5 (gt (p:=.arr 5054 0 16 16) (q:=.arr 5054 0 16 16) (hd 4 (by decide))) (L3 rfl) (I0 (gt (p:=.sc (.int .i64 2)) (q:=.sc (.int .i64 1)) (hd 5 (by decide)))) (by omega) (by decide) rfl rfl))
 refine P6 [0,8,9] (by kernel_rfl) ?_ (fun bD hb=>?_)
 ·refine fc ?_ (fc ?_ (fc ?_ (fn')))
  ·exact E7 (i:=0) (q:=.sc (.int .i64 2)) rfl rfl rfl (fun bD hc hi hd=>C1 rfl (C2 (p:=.sc (.int .i64 2)) rfl rfl rfl (gf (q:=.sc (.int .i64 2)) (S5 (j:=9) hc hi (by kernel_rfl)))))
  ·exact E7 (i:=8) (q:=.sc (.int .i64 4)) rfl rfl rfl (fun bD hc hi hd=>C1 rfl (E6 (u1:=.int .i64 2) (u2:=.int .i64 2) (v:=.int .i64 4) rfl rfl rfl (gt (p:=.sc (.int .i64 2)) (q:=.sc (.int .i64 1)) (hd 0 (by decide))) (gt (p:=.sc (.int .i64 2)) (q:=.sc (.int .i64 1)) (hd 7 (by decide))) (fun _=>by kernel_rfl)))
  ·exact E7 (i:=9) (q:=.sc (.int .i64 4)) rfl rfl rfl (fun bD hc hi hd=>C1 rfl (C7 (p:=.sc (.int .i64 4)) rfl rfl rfl (gt (p:=.sc (.int .i64 4)) (q:=.sc (.int .i64 2)) (hd 8 (by decide)))))
 obtain rfl:bD=fun _=>true:=funext hb
 refine A5k ?_
 refine C6 ?_
 refine C6 ?_
 refine B8 ?_
 refine B4 rfl (C2 (p:=.sc (.int .i64 4)) rfl rfl rfl rfl) ?_
 refine B4 rfl (C2 (p:=.sc (.int .i64 16)) rfl rfl rfl rfl) ?_
 refine B4 rfl (E6 (u1:=.int .i64 4) (u2:=.int .i64 16) (v:=.bool true) rfl rfl rfl rfl rfl (fun _=>rfl)) ?_
 refine D4 ?_
 refine F6 (b:=true) rfl (fun _=>?_) (fun h=>by cases h)
 refine F9 ?_
 refine H6 ?_
 refine C6 ?_
 refine B8 ?_
 refine B4 rfl (C2 (p:=.sc (.int .i64 4)) rfl rfl rfl rfl) ?_
 refine B4 rfl (C2 (p:=.sc (.int .i64 16)) rfl rfl rfl rfl) ?_
 refine B4 rfl (l0 (xs:=[.tmp 64,.tmp 65]) (us:=[.int .i64 4,.int .i64 16]) (v:=.int .i64 4) rfl rfl rfl rfl (fun _ _=>by kernel_rfl)) ?_
 refine B4 rfl (C7 (p:=.sc (.int .i64 4)) rfl rfl rfl rfl) ?_
 refine D4 ?_
 refine S9 (ds:=[some 67,some 68,some 69,some 70,some 71,some 72,some 73,some 74,some 75,some 10]) (ks:=[7]) (ps:=[.sc (.int .i64 4),.arr 5054 0 16 16,.sc (.int .i64 4),.arr 5054 4 12 12,.arr 5054 0 16 16,.sc (.int .i64 4),.arr 5054 0 4 16,.any,.any,.any]) rfl (by kernel_rfl) rfl rfl ?_
 refine A0c (d:=74) (q:=.sc (.int .i64 4)) (s:=5054) (x:=some ((.sc (.int .u8 c)) :: (.sc (.int .u8 c)) :: (.sc (.int .u8 c)) :: (.sc (.int .u8 c)) :: (.sc (.int .u8 c)) :: (.sc (.int .u8 c)) :: (.sc (.int .u8 c)) :: (.sc (.int .u8 c)) :: .any :: .any :: .any :: .any :: .any :: .any :: .any :: .any :: (List.replicate (cap54 - 16) .any))) (k:=7) (qs:=[.sc (.int .i64 4),.arr 5054 0 16 16,.sc (.int .i64 4),.arr 5054 4 12 12,.arr 5054 0 16 16,.sc (.int .i64 4),.arr 5054 0 4 16,.sc (.int .i64 4),.sc (.int .i64 8),.sc (.int .i64 8)]) [0,1,2,3,4,5,6] [true,true,true,true,true,true,true,false,false,false] (by kernel_rfl) (by kernel_rfl) rfl rfl rfl (by kernel_rfl) rfl rfl rfl rfl rfl ?_ (fun bD hc hi hd=>by exact A1c (off:=4) (n:=12) (c:=12) (off2:=0) (n2:=4) (c2:=16) (s:=5054) (sz:=1) (ps:=((.sc (.int .u8 c)) :: (.sc (.int .u8 c)) :: (.sc (.int .u8 c)) :: (.sc (.int .u8 c)) :: .any :: .any :: .any :: .any :: .any :: .any :: .any :: .any :: .any :: .any :: .any :: .any :: (List.replicate (cap54 - 16) .any))) (qs:=((.sc (.int .u8 c)) :: (.sc (.int .u8 c)) :: (.sc (.int .u8 c)) :: (.sc (.int .u8 c)) :: (.sc (.int .u8 c)) :: (.sc (.int .u8 c)) :: (.sc (.int .u8 c)) :: (.sc (.int .u8 c)) :: .any :: .any :: .any :: .any :: .any :: .any :: .any :: .any :: (List.replicate (cap54 - 16) .any))) rfl rfl rfl Tryz.underlying22 ty5 (by exact (gt (p:=.arr 5054 4 12 12) (q:=.arr 5054 2 14 14) (hd 3 (by decide)))) (by exact (gt (p:=.arr 5054 0 4 16) (q:=.arr 5054 0 2 16) (hd 6 (by decide)))) rfl (by show 4 + 4 * 1 ≤ List.length (α:=PV) ((.sc (.int .u8 c)) :: (.sc (.int .u8 c)) :: (.sc (.int .u8 c)) :: (.sc (.int .u8 c)) :: .any :: .any :: .any :: .any :: .any :: .any :: .any :: .any :: .any :: .any :: .any :: .any :: (List.replicate (cap54 - 16) .any)); simp only [List.length_cons]; omega) (by show 0 + 4 * 1 ≤ List.length (α:=PV) ((.sc (.int .u8 c)) :: (.sc (.int .u8 c)) :: (.sc (.int .u8 c)) :: (.sc (.int .u8 c)) :: .any :: .any :: .any :: .any :: .any :: .any :: .any :: .any :: .any :: .any :: .any :: .any :: (List.replicate (cap54 - 16) .any)); simp only [List.length_cons]; omega) rfl) ?_
 ·refine fc ?_ (fc ?_ (fc ?_ (fc ?_ (fc ?_ (fc ?_ (fc ?_ (fn')))))))
  ·exact E7 (i:=0) (q:=.sc (.int .i64 4)) rfl rfl rfl (fun bD hc hi hd=>C1 rfl (C2 (p:=.sc (.int .i64 4)) rfl rfl rfl (gf (q:=.sc (.int .i64 4)) (S5 (j:=9) hc hi (by kernel_rfl)))))
  ·exact E7 (i:=1) (q:=.arr 5054 0 16 16) rfl rfl rfl (fun bD hc hi hd=>C1 rfl (C2 (p:=.arr 5054 0 16 16) rfl rfl rfl rfl))
  ·exact E7 (i:=2) (q:=.sc (.int .i64 4)) rfl rfl rfl (fun bD hc hi hd=>C1 rfl (C2 (p:=.sc (.int .i64 4)) rfl rfl rfl (gf (q:=.sc (.int .i64 4)) (S5 (j:=9) hc hi (by kernel_rfl)))))
  ·exact E7 (i:=3) (q:=.arr 5054 4 12 12) rfl rfl rfl (fun bD hc hi hd=>C1 rfl (X1 (off':=4) (n':=12) (c':=12) (i:=4) (j:=16) (sz:=1) rfl rfl rfl Tryz.underlying22 ty5 (gt (p:=.arr 5054 0 16 16) (q:=.arr 5054 0 16 16) (hd 1 (by decide))) (I0 (gt (p:=.sc (.int .i64 4)) (q:=.sc (.int .i64 2)) (hd 2 (by decide)))) (L3 rfl) (by omega) (by decide) rfl rfl))
  ·exact E7 (i:=4) (q:=.arr 5054 0 16 16) rfl rfl rfl (fun bD hc hi hd=>C1 rfl (C2 (p:=.arr 5054 0 16 16) rfl rfl rfl rfl))
  ·exact E7 (i:=5) (q:=.sc (.int .i64 4)) rfl rfl rfl (fun bD hc hi hd=>C1 rfl (C2 (p:=.sc (.int .i64 4)) rfl rfl rfl rfl))
  ·exact E7 (i:=6) (q:=.arr 5054 0 4 16) rfl rfl rfl (fun bD hc hi hd=>C1 rfl (X1 (off':=0) (n':=4) (c':=16) (i:=0) (j:=4) (sz:=1) rfl rfl rfl Tryz.underlying22 ty5 (gt (p:=.arr 5054 0 16 16) (q:=.arr 5054 0 16 16) (hd 4 (by decide))) (L3 rfl) (I0 (gt (p:=.sc (.int .i64 4)) (q:=.sc (.int .i64 2)) (hd 5 (by decide)))) (by omega) (by decide) rfl rfl))
 refine P6 [0,8,9] (by kernel_rfl) ?_ (fun bD hb=>?_)
 ·refine fc ?_ (fc ?_ (fc ?_ (fn')))
  ·exact E7 (i:=0) (q:=.sc (.int .i64 4)) rfl rfl rfl (fun bD hc hi hd=>C1 rfl (C2 (p:=.sc (.int .i64 4)) rfl rfl rfl (gf (q:=.sc (.int .i64 4)) (S5 (j:=9) hc hi (by kernel_rfl)))))
  ·exact E7 (i:=8) (q:=.sc (.int .i64 8)) rfl rfl rfl (fun bD hc hi hd=>C1 rfl (E6 (u1:=.int .i64 4) (u2:=.int .i64 4) (v:=.int .i64 8) rfl rfl rfl (gt (p:=.sc (.int .i64 4)) (q:=.sc (.int .i64 2)) (hd 0 (by decide))) (gt (p:=.sc (.int .i64 4)) (q:=.sc (.int .i64 2)) (hd 7 (by decide))) (fun _=>by kernel_rfl)))
  ·exact E7 (i:=9) (q:=.sc (.int .i64 8)) rfl rfl rfl (fun bD hc hi hd=>C1 rfl (C7 (p:=.sc (.int .i64 8)) rfl rfl rfl (gt (p:=.sc (.int .i64 8)) (q:=.sc (.int .i64 4)) (hd 8 (by decide)))))
 obtain rfl:bD=fun _=>true:=funext hb
 refine A5k ?_
 refine C6 ?_
 refine C6 ?_
 refine B8 ?_
 refine B4 rfl (C2 (p:=.sc (.int .i64 8)) rfl rfl rfl rfl) ?_
 refine B4 rfl (C2 (p:=.sc (.int .i64 16)) rfl rfl rfl rfl) ?_
 refine B4 rfl (E6 (u1:=.int .i64 8) (u2:=.int .i64 16) (v:=.bool true) rfl rfl rfl rfl rfl (fun _=>rfl)) ?_
 refine D4 ?_
 refine F6 (b:=true) rfl (fun _=>?_) (fun h=>by cases h)
 refine F9 ?_
 refine H6 ?_
 refine C6 ?_
 refine B8 ?_
 refine B4 rfl (C2 (p:=.sc (.int .i64 8)) rfl rfl rfl rfl) ?_
 refine B4 rfl (C2 (p:=.sc (.int .i64 16)) rfl rfl rfl rfl) ?_
 refine B4 rfl (l0 (xs:=[.tmp 64,.tmp 65]) (us:=[.int .i64 8,.int .i64 16]) (v:=.int .i64 8) rfl rfl rfl rfl (fun _ _=>by kernel_rfl)) ?_
 refine B4 rfl (C7 (p:=.sc (.int .i64 8)) rfl rfl rfl rfl) ?_
 refine D4 ?_
 refine S9 (ds:=[some 67,some 68,some 69,some 70,some 71,some 72,some 73,some 74,some 75,some 10]) (ks:=[7]) (ps:=[.sc (.int .i64 8),.arr 5054 0 16 16,.sc (.int .i64 8),.arr 5054 8 8 8,.arr 5054 0 16 16,.sc (.int .i64 8),.arr 5054 0 8 16,.any,.any,.any]) rfl (by kernel_rfl) rfl rfl ?_
 refine A0c (d:=74) (q:=.sc (.int .i64 8)) (s:=5054) (x:=some ((.sc (.int .u8 c)) :: (.sc (.int .u8 c)) :: (.sc (.int .u8 c)) :: (.sc (.int .u8 c)) :: (.sc (.int .u8 c)) :: (.sc (.int .u8 c)) :: (.sc (.int .u8 c)) :: (.sc (.int .u8 c)) :: (.sc (.int .u8 c)) :: (.sc (.int .u8 c)) :: (.sc (.int .u8 c)) :: (.sc (.int .u8 c)) :: (.sc (.int .u8 c)) :: (.sc (.int .u8 c)) :: (.sc (.int .u8 c)) :: (.sc (.int .u8 c)) :: (List.replicate (cap54 - 16) .any))) (k:=7) (qs:=[.sc (.int .i64 8),.arr 5054 0 16 16,.sc (.int .i64 8),.arr 5054 8 8 8,.arr 5054 0 16 16,.sc (.int .i64 8),.arr 5054 0 8 16,.sc (.int .i64 8),.sc (.int .i64 16),.sc (.int .i64 16)]) [0,1,2,3,4,5,6] [true,true,true,true,true,true,true,false,false,false] (by kernel_rfl) (by kernel_rfl) rfl rfl rfl (by kernel_rfl) rfl rfl rfl rfl rfl ?_ (fun bD hc hi hd=>by exact A1c (off:=8) (n:=8) (c:=8) (off2:=0) (n2:=8) (c2:=16) (s:=5054) (sz:=1) (ps:=((.sc (.int .u8 c)) :: (.sc (.int .u8 c)) :: (.sc (.int .u8 c)) :: (.sc (.int .u8 c)) :: (.sc (.int .u8 c)) :: (.sc (.int .u8 c)) :: (.sc (.int .u8 c)) :: (.sc (.int .u8 c)) :: .any :: .any :: .any :: .any :: .any :: .any :: .any :: .any :: (List.replicate (cap54 - 16) .any))) (qs:=((.sc (.int .u8 c)) :: (.sc (.int .u8 c)) :: (.sc (.int .u8 c)) :: (.sc (.int .u8 c)) :: (.sc (.int .u8 c)) :: (.sc (.int .u8 c)) :: (.sc (.int .u8 c)) :: (.sc (.int .u8 c)) :: (.sc (.int .u8 c)) :: (.sc (.int .u8 c)) :: (.sc (.int .u8 c)) :: (.sc (.int .u8 c)) :: (.sc (.int .u8 c)) :: (.sc (.int .u8 c)) :: (.sc (.int .u8 c)) :: (.sc (.int .u8 c)) :: (List.replicate (cap54 - 16) .any))) rfl rfl rfl Tryz.underlying22 ty5 (by exact (gt (p:=.arr 5054 8 8 8) (q:=.arr 5054 4 12 12) (hd 3 (by decide)))) (by exact (gt (p:=.arr 5054 0 8 16) (q:=.arr 5054 0 4 16) (hd 6 (by decide)))) rfl (by show 8 + 8 * 1 ≤ List.length (α:=PV) ((.sc (.int .u8 c)) :: (.sc (.int .u8 c)) :: (.sc (.int .u8 c)) :: (.sc (.int .u8 c)) :: (.sc (.int .u8 c)) :: (.sc (.int .u8 c)) :: (.sc (.int .u8 c)) :: (.sc (.int .u8 c)) :: .any :: .any :: .any :: .any :: .any :: .any :: .any :: .any :: (List.replicate (cap54 - 16) .any)); simp only [List.length_cons]; omega) (by show 0 + 8 * 1 ≤ List.length (α:=PV) ((.sc (.int .u8 c)) :: (.sc (.int .u8 c)) :: (.sc (.int .u8 c)) :: (.sc (.int .u8 c)) :: (.sc (.int .u8 c)) :: (.sc (.int .u8 c)) :: (.sc (.int .u8 c)) :: (.sc (.int .u8 c)) :: .any :: .any :: .any :: .any :: .any :: .any :: .any :: .any :: (List.replicate (cap54 - 16) .any)); simp only [List.length_cons]; omega) rfl) ?_
 ·refine fc ?_ (fc ?_ (fc ?_ (fc ?_ (fc ?_ (fc ?_ (fc ?_ (fn')))))))
  ·exact E7 (i:=0) (q:=.sc (.int .i64 8)) rfl rfl rfl (fun bD hc hi hd=>C1 rfl (C2 (p:=.sc (.int .i64 8)) rfl rfl rfl (gf (q:=.sc (.int .i64 8)) (S5 (j:=9) hc hi (by kernel_rfl)))))
  ·exact E7 (i:=1) (q:=.arr 5054 0 16 16) rfl rfl rfl (fun bD hc hi hd=>C1 rfl (C2 (p:=.arr 5054 0 16 16) rfl rfl rfl rfl))
  ·exact E7 (i:=2) (q:=.sc (.int .i64 8)) rfl rfl rfl (fun bD hc hi hd=>C1 rfl (C2 (p:=.sc (.int .i64 8)) rfl rfl rfl (gf (q:=.sc (.int .i64 8)) (S5 (j:=9) hc hi (by kernel_rfl)))))
  ·exact E7 (i:=3) (q:=.arr 5054 8 8 8) rfl rfl rfl (fun bD hc hi hd=>C1 rfl (X1 (off':=8) (n':=8) (c':=8) (i:=8) (j:=16) (sz:=1) rfl rfl rfl Tryz.underlying22 ty5 (gt (p:=.arr 5054 0 16 16) (q:=.arr 5054 0 16 16) (hd 1 (by decide))) (I0 (gt (p:=.sc (.int .i64 8)) (q:=.sc (.int .i64 4)) (hd 2 (by decide)))) (L3 rfl) (by omega) (by decide) rfl rfl))
  ·exact E7 (i:=4) (q:=.arr 5054 0 16 16) rfl rfl rfl (fun bD hc hi hd=>C1 rfl (C2 (p:=.arr 5054 0 16 16) rfl rfl rfl rfl))
  ·exact E7 (i:=5) (q:=.sc (.int .i64 8)) rfl rfl rfl (fun bD hc hi hd=>C1 rfl (C2 (p:=.sc (.int .i64 8)) rfl rfl rfl rfl))
  ·exact E7 (i:=6) (q:=.arr 5054 0 8 16) rfl rfl rfl (fun bD hc hi hd=>C1 rfl (X1 (off':=0) (n':=8) (c':=16) (i:=0) (j:=8) (sz:=1) rfl rfl rfl Tryz.underlying22 ty5 (gt (p:=.arr 5054 0 16 16) (q:=.arr 5054 0 16 16) (hd 4 (by decide))) (L3 rfl) (I0 (gt (p:=.sc (.int .i64 8)) (q:=.sc (.int .i64 4)) (hd 5 (by decide)))) (by omega) (by decide) rfl rfl))
 refine P6 [0,8,9] (by kernel_rfl) ?_ (fun bD hb=>?_)
 ·refine fc ?_ (fc ?_ (fc ?_ (fn')))
  ·exact E7 (i:=0) (q:=.sc (.int .i64 8)) rfl rfl rfl (fun bD hc hi hd=>C1 rfl (C2 (p:=.sc (.int .i64 8)) rfl rfl rfl (gf (q:=.sc (.int .i64 8)) (S5 (j:=9) hc hi (by kernel_rfl)))))
  ·exact E7 (i:=8) (q:=.sc (.int .i64 16)) rfl rfl rfl (fun bD hc hi hd=>C1 rfl (E6 (u1:=.int .i64 8) (u2:=.int .i64 8) (v:=.int .i64 16) rfl rfl rfl (gt (p:=.sc (.int .i64 8)) (q:=.sc (.int .i64 4)) (hd 0 (by decide))) (gt (p:=.sc (.int .i64 8)) (q:=.sc (.int .i64 4)) (hd 7 (by decide))) (fun _=>by kernel_rfl)))
  ·exact E7 (i:=9) (q:=.sc (.int .i64 16)) rfl rfl rfl (fun bD hc hi hd=>C1 rfl (C7 (p:=.sc (.int .i64 16)) rfl rfl rfl (gt (p:=.sc (.int .i64 16)) (q:=.sc (.int .i64 8)) (hd 8 (by decide)))))
 obtain rfl:bD=fun _=>true:=funext hb
 refine A5k ?_
 refine C6 ?_
 refine C6 ?_
 refine B8 ?_
 refine B4 rfl (C2 (p:=.sc (.int .i64 16)) rfl rfl rfl rfl) ?_
 refine B4 rfl (C2 (p:=.sc (.int .i64 16)) rfl rfl rfl rfl) ?_
 refine B4 rfl (E6 (u1:=.int .i64 16) (u2:=.int .i64 16) (v:=.bool false) rfl rfl rfl rfl rfl (fun _=>rfl)) ?_
 refine D4 ?_
 refine F6 (b:=false) rfl (fun h=>by cases h) (fun _=>?_)
 refine S8 ?_
 refine C6 ?_
 refine B8 ?_
 refine B4 rfl (C2 (p:=.arr 5054 0 16 16) rfl rfl rfl rfl) ?_
 refine B4 rfl (C7 (p:=.arr 5054 0 16 16) rfl rfl rfl rfl) ?_
 refine D4 ?_
 refine A8n (E:=(eI .u8)) (s:=5054) (d:=4) (n:=16) (c:=16) (tp:=1000) (l:=[c,c,c,c,c,c,c,c,c,c,c,c,c,c,c,c]) (ps:=((.sc (.int .u8 c)) :: (.sc (.int .u8 c)) :: (.sc (.int .u8 c)) :: (.sc (.int .u8 c)) :: (.sc (.int .u8 c)) :: (.sc (.int .u8 c)) :: (.sc (.int .u8 c)) :: (.sc (.int .u8 c)) :: (.sc (.int .u8 c)) :: (.sc (.int .u8 c)) :: (.sc (.int .u8 c)) :: (.sc (.int .u8 c)) :: (.sc (.int .u8 c)) :: (.sc (.int .u8 c)) :: (.sc (.int .u8 c)) :: (.sc (.int .u8 c)) :: (List.replicate (cap54 - 16) .any))) rfl rfl rfl rfl rfl (fun _=>rfl) ⟨Nat.le_of_ble_eq_true rfl,by decide,by show 16 * 1 ≤ List.length (α:=PV) ((.sc (.int .u8 c)) :: (.sc (.int .u8 c)) :: (.sc (.int .u8 c)) :: (.sc (.int .u8 c)) :: (.sc (.int .u8 c)) :: (.sc (.int .u8 c)) :: (.sc (.int .u8 c)) :: (.sc (.int .u8 c)) :: (.sc (.int .u8 c)) :: (.sc (.int .u8 c)) :: (.sc (.int .u8 c)) :: (.sc (.int .u8 c)) :: (.sc (.int .u8 c)) :: (.sc (.int .u8 c)) :: (.sc (.int .u8 c)) :: (.sc (.int .u8 c)) :: (List.replicate (cap54 - 16) .any)); simp only [List.length_cons]; omega⟩ ?_
 refine G2 ?_
 exact F7 (F:=(fun (z:List Int)=>⟨[],[(1000,(1,z.length))],.own 1000 z.length (SL (eI .u8) z)⟩)) (z:=(J0 c)) (v:=[c,c,c,c,c,c,c,c,c,c,c,c,c,c,c,c]) rfl rfl (.one (.tmp 4 (.own 1000 (List.length (α:=Int) [c,c,c,c,c,c,c,c,c,c,c,c,c,c,c,c]) (SL (eI .u8) [c,c,c,c,c,c,c,c,c,c,c,c,c,c,c,c])) rfl) (.one (.rfl _)) rfl) trivial ⟨rfl,trivial⟩
theorem E8 (c:Int):(J0 c).length=16:=rfl
def G0 (m:A8):(List Int) × Bool:=
 (bif decide ((m.fKind:Int)=3) then
  (([(IntKind.wrap .u8 m.fNote.fCode),(IntKind.wrap .u8 m.fNote.fSub)] ++ m.fNote.fData),(((decide ((0:Int) ≤ m.fNote.fCode)) && (decide ((m.fNote.fCode:Int) ≤ 255))) && (decide ((0:Int) ≤ m.fNote.fSub))) && (decide ((m.fNote.fSub:Int) ≤ 255)))
 else
  ([],decide ((m.fKind:Int)=4)))
set_option maxRecDepth 100000 in
set_option maxHeartbeats 4000000 in
theorem A3X (m:A8) (h1:decide ((m.fKind:Int)=1)=false) (h2:decide ((m.fKind:Int)=2)=false) (h3:m.fNote.fData.length ≤ 1000000):PG Tryz.prog 44 [] [] [.agg (A8.cells m)] (fun _:Unit=>True) (fun _=>(fun (z:(List Int) × Bool)=>⟨[],[],.tup [.sem (SL (eI .u8) z.1),.sc (.bool z.2)]⟩) (G0 m)):=by
 refine M4 (N:=58) (l:=[.tmp 2,.tmp 3]) Tryz.func44 rfl rfl rfl (Nat.le_of_ble_eq_true rfl) fun w0 i0 F βs=>?_
 refine C6 ?_
 refine B8 ?_
 refine B4 rfl (q9 (s:=1) (p:=.agg (A8.cells m)) (qs:=(A8.cells m)) rfl rfl rfl rfl rfl rfl rfl) ?_
 refine B4 rfl (C7 (p:=.sc (.slice none 0 0)) rfl rfl rfl rfl) ?_
 refine B4 rfl (C7 (p:=.sc (.bool false)) rfl rfl rfl rfl) ?_
 refine D4 ?_
 refine C6 ?_
 refine C6 ?_
 refine B8 ?_
 refine B4 rfl (D3 (b:=1) (k:=0) (m:=0) rfl rfl rfl X5 rfl rfl) ?_
 refine B4 rfl (F4 (s:=1) (off:=0) (ps:=(A8.cells m)) (p:=.sc (.int .i64 m.fKind)) rfl rfl rfl ty3 rfl rfl rfl rfl rfl) ?_
 refine D4 ?_
 refine H6 ?_
 refine C6 ?_
 refine B8 ?_
 refine B4 rfl (E6 (u1:=.int .i64 m.fKind) (u2:=.int .i64 1) (v:=.bool (decide ((m.fKind:Int)=1))) rfl rfl rfl rfl rfl (fun _=>rfl)) ?_
 refine B4 rfl (C7 (p:=.sc (.bool (decide ((m.fKind:Int)=1)))) rfl rfl rfl rfl) ?_
 refine D4 ?_
 refine F6 (b:=decide ((m.fKind:Int)=1)) rfl (fun h=>absurd (h.symm.trans h1) (by decide)) (fun h=>?_)
 refine C6 ?_
 refine B8 ?_
 refine B4 rfl (E6 (u1:=.int .i64 m.fKind) (u2:=.int .i64 2) (v:=.bool (decide ((m.fKind:Int)=2))) rfl rfl rfl rfl rfl (fun _=>rfl)) ?_
 refine B4 rfl (C7 (p:=.sc (.bool (decide ((m.fKind:Int)=2)))) rfl rfl rfl rfl) ?_
 refine D4 ?_
 refine F6 (b:=decide ((m.fKind:Int)=2)) rfl (fun h=>absurd (h.symm.trans h2) (by decide)) (fun h=>?_)
 refine C6 ?_
 refine B8 ?_
 refine B4 rfl (E6 (u1:=.int .i64 m.fKind) (u2:=.int .i64 3) (v:=.bool (decide ((m.fKind:Int)=3))) rfl rfl rfl rfl rfl (fun _=>rfl)) ?_
 refine B4 rfl (C7 (p:=.sc (.bool (decide ((m.fKind:Int)=3)))) rfl rfl rfl rfl) ?_
 refine D4 ?_
 refine F6 (b:=decide ((m.fKind:Int)=3)) rfl (fun k1=>?_) (fun k1=>?_)
 ·skip
  refine C6 ?_
  refine B8 ?_
  refine B4 rfl (D3 (b:=1) (k:=0) (m:=22) rfl rfl rfl A8x rfl rfl) ?_
  refine B4 rfl (F4 (s:=1) (off:=22) (ps:=(A8.cells m)) (p:=.agg (A3.cells m.fNote)) rfl rfl rfl M5 rfl rfl rfl rfl rfl) ?_
  refine B4 rfl (L2 (s:=4) (z:=A0r) (qs:=J3) rfl rfl rfl rfl z41 rfl rfl) ?_
  refine B4 rfl (G5 (s:=4) (off:=0) (ps:=J3) (p:=.agg (A3.cells m.fNote)) (qs:=(A3.cells m.fNote)) rfl rfl M5 rfl rfl rfl rfl rfl rfl rfl) ?_
  refine D4 ?_
  refine C6 ?_
  refine B8 ?_
  refine B4 rfl (D3 (b:=4) (k:=0) (m:=0) rfl rfl rfl Q9 rfl rfl) ?_
  refine B4 rfl (F4 (s:=4) (off:=0) (ps:=(A3.cells m.fNote)) (p:=.sc (.int .i64 m.fNote.fCode)) rfl rfl rfl ty3 rfl rfl rfl rfl rfl) ?_
  refine B4 rfl (E6 (u1:=.int .i64 m.fNote.fCode) (u2:=.int .i64 0) (v:=.bool (decide ((0:Int) ≤ m.fNote.fCode))) rfl rfl rfl rfl rfl (fun _=>rfl)) ?_
  refine B4 rfl (C2 (p:=.sc (.bool (decide ((0:Int) ≤ m.fNote.fCode)))) rfl rfl rfl rfl) ?_
  refine E0 (C:=decide ((0:Int) ≤ m.fNote.fCode)) (p:=.loc 4 0) (G6 rfl rfl rfl rfl rfl) rfl rfl (fun g2=>D3 (b:=4) (k:=0) (m:=0) rfl rfl rfl Q9 rfl rfl) ?_
  refine E0 (C:=decide ((0:Int) ≤ m.fNote.fCode)) (p:=.sc (.int .i64 m.fNote.fCode)) (G6 rfl rfl rfl rfl rfl) rfl rfl (fun g3=>F4 (s:=4) (off:=0) (ps:=(A3.cells m.fNote)) (p:=.sc (.int .i64 m.fNote.fCode)) rfl rfl rfl ty3 (gt (p:=.loc 4 0) (q:=.sc undef) g3) rfl rfl rfl rfl) ?_
  refine E0 (C:=decide ((0:Int) ≤ m.fNote.fCode)) (p:=.sc (.bool (decide ((m.fNote.fCode:Int) ≤ 255)))) (G6 rfl rfl rfl rfl rfl) rfl rfl (fun g4=>E6 (u1:=.int .i64 m.fNote.fCode) (u2:=.int .i64 255) (v:=.bool (decide ((m.fNote.fCode:Int) ≤ 255))) rfl rfl rfl (gt (p:=.sc (.int .i64 m.fNote.fCode)) (q:=.sc undef) g4) rfl (fun _=>rfl)) ?_
  refine B4 rfl (J1 (b:=decide ((0:Int) ≤ m.fNote.fCode)) (y:=decide ((m.fNote.fCode:Int) ≤ 255)) rfl rfl rfl rfl rfl) ?_
  refine B4 rfl (C2 (p:=.sc (.bool ((decide ((0:Int) ≤ m.fNote.fCode)) && (decide ((m.fNote.fCode:Int) ≤ 255))))) rfl rfl rfl rfl) ?_
  refine E0 (C:=(decide ((0:Int) ≤ m.fNote.fCode)) && (decide ((m.fNote.fCode:Int) ≤ 255))) (p:=.loc 4 1) (G6 rfl rfl rfl rfl rfl) rfl rfl (fun g5=>D3 (b:=4) (k:=0) (m:=1) rfl rfl rfl f8 rfl rfl) ?_
  refine E0 (C:=(decide ((0:Int) ≤ m.fNote.fCode)) && (decide ((m.fNote.fCode:Int) ≤ 255))) (p:=.sc (.int .i64 m.fNote.fSub)) (G6 rfl rfl rfl rfl rfl) rfl rfl (fun g6=>F4 (s:=4) (off:=1) (ps:=(A3.cells m.fNote)) (p:=.sc (.int .i64 m.fNote.fSub)) rfl rfl rfl ty3 (gt (p:=.loc 4 1) (q:=.sc undef) g6) rfl rfl rfl rfl) ?_
  refine E0 (C:=(decide ((0:Int) ≤ m.fNote.fCode)) && (decide ((m.fNote.fCode:Int) ≤ 255))) (p:=.sc (.bool (decide ((0:Int) ≤ m.fNote.fSub)))) (G6 rfl rfl rfl rfl rfl) rfl rfl (fun g7=>E6 (u1:=.int .i64 m.fNote.fSub) (u2:=.int .i64 0) (v:=.bool (decide ((0:Int) ≤ m.fNote.fSub))) rfl rfl rfl (gt (p:=.sc (.int .i64 m.fNote.fSub)) (q:=.sc undef) g7) rfl (fun _=>rfl)) ?_
  refine B4 rfl (J1 (b:=(decide ((0:Int) ≤ m.fNote.fCode)) && (decide ((m.fNote.fCode:Int) ≤ 255))) (y:=decide ((0:Int) ≤ m.fNote.fSub)) rfl rfl rfl rfl rfl) ?_
  refine B4 rfl (C2 (p:=.sc (.bool (((decide ((0:Int) ≤ m.fNote.fCode)) && (decide ((m.fNote.fCode:Int) ≤ 255))) && (decide ((0:Int) ≤ m.fNote.fSub))))) rfl rfl rfl rfl) ?_
  refine E0 (C:=((decide ((0:Int) ≤ m.fNote.fCode)) && (decide ((m.fNote.fCode:Int) ≤ 255))) && (decide ((0:Int) ≤ m.fNote.fSub))) (p:=.loc 4 1) (G6 rfl rfl rfl rfl rfl) rfl rfl (fun g8=>D3 (b:=4) (k:=0) (m:=1) rfl rfl rfl f8 rfl rfl) ?_
  refine E0 (C:=((decide ((0:Int) ≤ m.fNote.fCode)) && (decide ((m.fNote.fCode:Int) ≤ 255))) && (decide ((0:Int) ≤ m.fNote.fSub))) (p:=.sc (.int .i64 m.fNote.fSub)) (G6 rfl rfl rfl rfl rfl) rfl rfl (fun g9=>F4 (s:=4) (off:=1) (ps:=(A3.cells m.fNote)) (p:=.sc (.int .i64 m.fNote.fSub)) rfl rfl rfl ty3 (gt (p:=.loc 4 1) (q:=.sc undef) g9) rfl rfl rfl rfl) ?_
  refine E0 (C:=((decide ((0:Int) ≤ m.fNote.fCode)) && (decide ((m.fNote.fCode:Int) ≤ 255))) && (decide ((0:Int) ≤ m.fNote.fSub))) (p:=.sc (.bool (decide ((m.fNote.fSub:Int) ≤ 255)))) (G6 rfl rfl rfl rfl rfl) rfl rfl (fun g10=>E6 (u1:=.int .i64 m.fNote.fSub) (u2:=.int .i64 255) (v:=.bool (decide ((m.fNote.fSub:Int) ≤ 255))) rfl rfl rfl (gt (p:=.sc (.int .i64 m.fNote.fSub)) (q:=.sc undef) g10) rfl (fun _=>rfl)) ?_
  refine B4 rfl (J1 (b:=((decide ((0:Int) ≤ m.fNote.fCode)) && (decide ((m.fNote.fCode:Int) ≤ 255))) && (decide ((0:Int) ≤ m.fNote.fSub))) (y:=decide ((m.fNote.fSub:Int) ≤ 255)) rfl rfl rfl rfl rfl) ?_
  refine B4 rfl (C7 (p:=.sc (.bool ((((decide ((0:Int) ≤ m.fNote.fCode)) && (decide ((m.fNote.fCode:Int) ≤ 255))) && (decide ((0:Int) ≤ m.fNote.fSub))) && (decide ((m.fNote.fSub:Int) ≤ 255))))) rfl rfl rfl rfl) ?_
  refine D4 ?_
  refine C6 ?_
  refine B8 ?_
  refine B4 rfl (D3 (b:=4) (k:=0) (m:=0) rfl rfl rfl Q9 rfl rfl) ?_
  refine B4 rfl (F4 (s:=4) (off:=0) (ps:=(A3.cells m.fNote)) (p:=.sc (.int .i64 m.fNote.fCode)) rfl rfl rfl ty3 rfl rfl rfl rfl rfl) ?_
  refine B4 rfl (G8 (m:=(IntKind.wrap .u8 m.fNote.fCode)) rfl rfl rfl Tryz.underlying3 Tryz.underlying5 rfl rfl) ?_
  refine B4 rfl (D3 (b:=4) (k:=0) (m:=1) rfl rfl rfl f8 rfl rfl) ?_
  refine B4 rfl (F4 (s:=4) (off:=1) (ps:=(A3.cells m.fNote)) (p:=.sc (.int .i64 m.fNote.fSub)) rfl rfl rfl ty3 rfl rfl rfl rfl rfl) ?_
  refine B4 rfl (G8 (m:=(IntKind.wrap .u8 m.fNote.fSub)) rfl rfl rfl Tryz.underlying3 Tryz.underlying5 rfl rfl) ?_
  refine B4 rfl (I4 (E:=(eI .u8)) (l:=[(IntKind.wrap .u8 m.fNote.fCode),(IntKind.wrap .u8 m.fNote.fSub)]) (tp:=50) (parts:=[(0,.tmp 46),(1,.tmp 49)]) (qs:=[.sc (.int .u8 (IntKind.wrap .u8 m.fNote.fCode)),.sc (.int .u8 (IntKind.wrap .u8 m.fNote.fSub))]) rfl rfl rfl N3 rfl rfl rfl rfl) ?_
  refine B4 rfl (D3 (b:=4) (k:=0) (m:=2) rfl rfl rfl A2x rfl rfl) ?_
  refine B4 rfl (F4 (s:=4) (off:=2) (ps:=(A3.cells m.fNote)) (p:=.sem (SL (eI .u8) m.fNote.fData)) rfl rfl rfl A3N rfl rfl rfl rfl rfl) ?_
  refine B4 rfl (K1 (E:=(eI .u8)) (l:=[(IntKind.wrap .u8 m.fNote.fCode),(IntKind.wrap .u8 m.fNote.fSub)]) (ext:=m.fNote.fData) (tp:=50) rfl rfl rfl N3 rfl rfl (E3 rfl) (by first | ((try simp only [zB,zC,zD,B7,A7,A6,C0,D8,E8]); omega) | ((try simp only [z1,z2,z3,z4,z5,z6,z7,z8,z9,zA,zB,zC,zD,D2,C9,C4,C3,C5,B5,B6,B7,A7,A6,C0,D8,E8] at *); omega))) ?_
  refine B4 rfl (C2 (p:=.sc (.bool ((((decide ((0:Int) ≤ m.fNote.fCode)) && (decide ((m.fNote.fCode:Int) ≤ 255))) && (decide ((0:Int) ≤ m.fNote.fSub))) && (decide ((m.fNote.fSub:Int) ≤ 255))))) rfl rfl rfl rfl) ?_
  refine B4 rfl (C7 (p:=.own 50 (List.length (α:=Int) ([(IntKind.wrap .u8 m.fNote.fCode),(IntKind.wrap .u8 m.fNote.fSub)] ++ m.fNote.fData)) (SL (eI .u8) ([(IntKind.wrap .u8 m.fNote.fCode),(IntKind.wrap .u8 m.fNote.fSub)] ++ m.fNote.fData))) rfl rfl rfl rfl) ?_
  refine B4 rfl (C7 (p:=.sc (.bool ((((decide ((0:Int) ≤ m.fNote.fCode)) && (decide ((m.fNote.fCode:Int) ≤ 255))) && (decide ((0:Int) ≤ m.fNote.fSub))) && (decide ((m.fNote.fSub:Int) ≤ 255))))) rfl rfl rfl rfl) ?_
  refine D4 ?_
  refine G2 ?_
  exact F7 (F:=(fun (z:(List Int) × Bool)=>⟨[],[],.tup [.sem (SL (eI .u8) z.1),.sc (.bool z.2)]⟩)) (z:=(G0 m)) (v:=(([(IntKind.wrap .u8 m.fNote.fCode),(IntKind.wrap .u8 m.fNote.fSub)] ++ m.fNote.fData),(((decide ((0:Int) ≤ m.fNote.fCode)) && (decide ((m.fNote.fCode:Int) ≤ 255))) && (decide ((0:Int) ≤ m.fNote.fSub))) && (decide ((m.fNote.fSub:Int) ≤ 255)))) (bT k1 rfl) rfl (.two (.tmp 2 (.sem (SL (eI .u8) ([(IntKind.wrap .u8 m.fNote.fCode),(IntKind.wrap .u8 m.fNote.fSub)] ++ m.fNote.fData))) rfl) (.one (.rfl _)) rfl (.tmp 3 (.sc (.bool ((((decide ((0:Int) ≤ m.fNote.fCode)) && (decide ((m.fNote.fCode:Int) ≤ 255))) && (decide ((0:Int) ≤ m.fNote.fSub))) && (decide ((m.fNote.fSub:Int) ≤ 255))))) rfl) (.one (.rfl _)) rfl) trivial trivial
 ·skip
  refine F9 ?_
  refine C6 ?_
  refine Q5 { ds:=[some 55,some 56,some 57,some 2,some 3],p:=fun i=>[.loc 1 0,.sc (.int .i64 m.fKind),.sc (.bool (decide ((m.fKind:Int)=4))),.sc (.slice none 0 0),.sc (.bool (decide ((m.fKind:Int)=4)))].getD i .any,al:=[],st:=[] } rfl (by kernel_rfl) rfl rfl ?_ (fun bD hb=>?_)
  ·refine ⟨fun bD hc hi hd=>?_,fun bD hc hi hd=>?_,fun bD hc hi hd=>?_,fun bD hc hi hd=>?_,fun bD hc hi hd=>?_,trivial⟩
   ·exact F3.putStep (i:=0) (q:=.loc 1 0) rfl rfl rfl (C1 rfl (D3 (b:=1) (k:=0) (m:=0) rfl rfl rfl X5 rfl rfl))
   ·exact F3.putStep (i:=1) (q:=.sc (.int .i64 m.fKind)) rfl rfl rfl (C1 rfl (F4 (s:=1) (off:=0) (ps:=(A8.cells m)) (p:=.sc (.int .i64 m.fKind)) rfl rfl rfl ty3 (gt (p:=.loc 1 0) (q:=.any) (hd 0 (by decide))) rfl rfl rfl rfl))
   ·exact F3.putStep (i:=2) (q:=.sc (.bool (decide ((m.fKind:Int)=4)))) rfl rfl rfl (C1 rfl (E6 (u1:=.int .i64 m.fKind) (u2:=.int .i64 4) (v:=.bool (decide ((m.fKind:Int)=4))) rfl rfl rfl (gt (p:=.sc (.int .i64 m.fKind)) (q:=.any) (hd 1 (by decide))) rfl (fun _=>rfl)))
   ·exact F3.putStep (i:=3) (q:=.sc (.slice none 0 0)) rfl rfl rfl (C1 rfl (C7 (p:=.sc (.slice none 0 0)) rfl rfl rfl rfl))
   ·exact F3.putStep (i:=4) (q:=.sc (.bool (decide ((m.fKind:Int)=4)))) rfl rfl rfl (C1 rfl (C7 (p:=.sc (.bool (decide ((m.fKind:Int)=4)))) rfl rfl rfl (gt (p:=.sc (.bool (decide ((m.fKind:Int)=4)))) (q:=.any) (hd 2 (by decide)))))
  obtain rfl:bD=fun _=>true:=funext hb
  refine G2 ?_
  exact F7 (F:=(fun (z:(List Int) × Bool)=>⟨[],[],.tup [.sem (SL (eI .u8) z.1),.sc (.bool z.2)]⟩)) (z:=(G0 m)) (v:=([],decide ((m.fKind:Int)=4))) (bF k1 rfl) rfl (.two (.tmp 2 (.sc (.slice none 0 0)) rfl) (.one (.nil _)) rfl (.tmp 3 (.sc (.bool (decide ((m.fKind:Int)=4)))) rfl) (.one (.rfl _)) rfl) trivial trivial
theorem A5n (m:A8) (h1:decide ((m.fKind:Int)=1)=false) (h2:decide ((m.fKind:Int)=2)=false) (h3:m.fNote.fData.length ≤ 1000000):PF Tryz.prog 44 [.agg (A8.cells m)] (.tup [.sem (SL (eI .u8) ((G0 m).1)),.sc (.bool ((G0 m).2))]):=M1 (A3X m h1 h2 h3) rfl
def D6 (m:A8):List Int:=
 (bif (!((G0 m).2)) || (decide ((4077:Int) < (((G0 m).1).length:Int))) then
  []
 else
  (((Q8 (J0 255) (IntKind.wrap .i64 (19 + (((G0 m).1).length:Int)))) ++ [(IntKind.wrap .u8 m.fKind)]) ++ (G0 m).1))
set_option maxRecDepth 100000 in
set_option maxHeartbeats 4000000 in
theorem A2t (m:A8) (h1:decide ((m.fKind:Int)=1)=false) (h2:decide ((m.fKind:Int)=2)=false) (h3:m.fNote.fData.length ≤ 1000000):PG Tryz.prog 29 [] [] [.agg (A8.cells m)] (fun _:Unit=>True) (fun _=>(fun (z:List Int)=>⟨[],[],.sem (SL (eI .u8) z)⟩) (D6 m)):=by
 refine M4 (N:=32) (l:=[.tmp 2]) Tryz.func29 rfl rfl rfl (Nat.le_of_ble_eq_true rfl) fun w0 i0 F βs=>?_
 refine C6 ?_
 refine B8 ?_
 refine B4 rfl (q9 (s:=1) (p:=.agg (A8.cells m)) (qs:=(A8.cells m)) rfl rfl rfl rfl rfl rfl rfl) ?_
 refine B4 rfl (C7 (p:=.sc (.slice none 0 0)) rfl rfl rfl rfl) ?_
 refine D4 ?_
 refine C6 ?_
 refine B8 ?_
 refine B4 rfl (F4 (s:=1) (off:=0) (ps:=(A8.cells m)) (p:=.agg (A8.cells m)) rfl rfl rfl X7 rfl rfl rfl rfl rfl) ?_
 refine B4 rfl (I1 (fn:=Tryz.f44) (xs:=[.tmp 7]) (args:=[.agg (A8.cells m)]) (r:=.tup [.sem (SL (eI .u8) ((G0 m).1)),.sc (.bool ((G0 m).2))]) rfl rfl rfl Tryz.func44 rfl rfl rfl rfl rfl (A5n m (by first | assumption | rfl) (by first | assumption | rfl) (by first | assumption | (simp; done) | omega | (show List.length _ ≤ _; simp only [List.length_replicate,D2,B5]; omega)))) ?_
 refine B4 rfl (C2 (p:=.tup [.sem (SL (eI .u8) ((G0 m).1)),.sc (.bool ((G0 m).2))]) rfl rfl rfl rfl) ?_
 refine B4 rfl (I2 (ps:=[.sem (SL (eI .u8) ((G0 m).1)),.sc (.bool ((G0 m).2))]) (p:=.sem (SL (eI .u8) ((G0 m).1))) rfl rfl rfl rfl rfl) ?_
 refine B4 rfl (I2 (ps:=[.sem (SL (eI .u8) ((G0 m).1)),.sc (.bool ((G0 m).2))]) (p:=.sc (.bool ((G0 m).2))) rfl rfl rfl rfl rfl) ?_
 refine B4 rfl (C7 (p:=.sem (SL (eI .u8) ((G0 m).1))) rfl rfl rfl rfl) ?_
 refine B4 rfl (C7 (p:=.sc (.bool ((G0 m).2))) rfl rfl rfl rfl) ?_
 refine D4 ?_
 refine C6 ?_
 refine C6 ?_
 refine B8 ?_
 refine B4 rfl (C2 (p:=.sc (.bool ((G0 m).2))) rfl rfl rfl rfl) ?_
 refine B4 rfl (X4 (u:=.bool ((G0 m).2)) (v:=.bool (!((G0 m).2))) rfl rfl rfl rfl (fun _=>rfl)) ?_
 refine B4 rfl (C2 (p:=.sc (.bool (!((G0 m).2)))) rfl rfl rfl rfl) ?_
 refine E0 (C:=(G0 m).2) (p:=.sem (SL (eI .u8) ((G0 m).1))) (H8 (b:=!((G0 m).2)) (c:=(G0 m).2) rfl rfl rfl rfl rfl (Bool.not_not _)) rfl rfl (fun g1=>C2 (p:=.sem (SL (eI .u8) ((G0 m).1))) rfl rfl rfl rfl) ?_
 refine E0 (C:=(G0 m).2) (p:=.sc (.int .i64 (((G0 m).1).length:Int))) (H8 (b:=!((G0 m).2)) (c:=(G0 m).2) rfl rfl rfl rfl rfl (Bool.not_not _)) rfl rfl (fun g2=>L6 rfl rfl rfl Tryz.underlying22 (by exact (E3 (by exact (gt (p:=.sem (SL (eI .u8) ((G0 m).1))) (q:=.sc undef) g2))))) ?_
 refine E0 (C:=(G0 m).2) (p:=.sc (.bool (decide ((4077:Int) < (((G0 m).1).length:Int))))) (H8 (b:=!((G0 m).2)) (c:=(G0 m).2) rfl rfl rfl rfl rfl (Bool.not_not _)) rfl rfl (fun g3=>E6 (u1:=.int .i64 (((G0 m).1).length:Int)) (u2:=.int .i64 4077) (v:=.bool (decide ((4077:Int) < (((G0 m).1).length:Int)))) rfl rfl rfl (gt (p:=.sc (.int .i64 (((G0 m).1).length:Int))) (q:=.sc undef) g3) rfl (fun _=>rfl)) ?_
 refine B4 rfl (N5 (b:=!((G0 m).2)) (y:=decide ((4077:Int) < (((G0 m).1).length:Int))) rfl rfl rfl rfl rfl (Bool.not_not _)) ?_
 refine D4 ?_
 refine F6 (b:=(!((G0 m).2)) || (decide ((4077:Int) < (((G0 m).1).length:Int)))) rfl (fun k4=>?_) (fun k4=>?_)
 ·skip
  refine C6 ?_
  refine B8 ?_
  refine B4 rfl (C7 (p:=.sc (.slice none 0 0)) rfl rfl rfl rfl) ?_
  refine D4 ?_
  refine G2 ?_
  exact F7 (F:=(fun (z:List Int)=>⟨[],[],.sem (SL (eI .u8) z)⟩)) (z:=(D6 m)) (v:=[]) (bT k4 rfl) rfl (.one (.tmp 2 (.sc (.slice none 0 0)) rfl) (.one (.nil _)) rfl) trivial trivial
 ·skip
  refine F9 ?_
  refine C6 ?_
  refine B8 ?_
  refine B4 rfl (I4 (E:=(eI .u8)) (l:=[255]) (tp:=18) (parts:=[(0,.const (.int .u8 255))]) (qs:=[.sc (.int .u8 255)]) rfl rfl rfl N3 rfl rfl rfl rfl) ?_
  refine j7 rfl (j5 (fn:=Tryz.f46) (xs:=[.tmp 18,.const (.int .i64 16)]) (bxs:=[]) (tps:=[]) (newS:=[]) (newT:=[(1000,3019)]) (ρ:=[]) (τ:=[(1000,3019)]) rfl rfl rfl Tryz.func46 rfl rfl (A1i 255) rfl rfl rfl rfl rfl rfl (by decide) fn' fn' ((.cons (.one (.rfl _)) (.cons (.one (.rfl _)) .nil))) rfl (fun _=>rfl) (fun _=>rfl) rfl) (fun _ _=>?_)
  refine B4 rfl (C2 (p:=.sem (SL (eI .u8) ((G0 m).1))) rfl rfl rfl rfl) ?_
  refine B4 rfl (L6 rfl rfl rfl Tryz.underlying22 (E3 rfl)) ?_
  refine B4 rfl (E6 (u1:=.int .i64 19) (u2:=.int .i64 (((G0 m).1).length:Int)) (v:=.int .i64 (IntKind.wrap .i64 (19 + (((G0 m).1).length:Int)))) rfl rfl rfl rfl rfl (fun _=>rfl)) ?_
  refine j7 rfl (j5 (fn:=Tryz.f45) (xs:=[.tmp 19,.tmp 22]) (bxs:=[]) (tps:=[(1000,3019,(1,(J0 255).length))]) (newS:=[]) (newT:=[]) (ρ:=[]) (τ:=[(1000,3019)]) rfl rfl rfl Tryz.func45 rfl rfl (A6e (J0 255) (IntKind.wrap .i64 (19 + (((G0 m).1).length:Int))) (by first | ((try simp only [zB,zC,zD,B7,A7,A6,C0,D8,E8]); omega) | ((try simp only [z1,z2,z3,z4,z5,z6,z7,z8,z9,zA,zB,zC,zD,D2,C9,C4,C3,C5,B5,B6,B7,A7,A6,C0,D8,E8] at *); omega))) rfl rfl rfl rfl rfl rfl (by decide) fn' (fc rfl fn') ((.cons (.one (.rfl _)) (.cons (.one (.rfl _)) .nil))) rfl (fun _=>rfl) (fun _=>rfl) rfl) (fun _ _=>?_)
  refine B4 rfl (C7 (p:=.own 3019 (List.length (α:=Int) (Q8 (J0 255) (IntKind.wrap .i64 (19 + (((G0 m).1).length:Int))))) (SL (eI .u8) (Q8 (J0 255) (IntKind.wrap .i64 (19 + (((G0 m).1).length:Int)))))) rfl rfl rfl rfl) ?_
  refine D4 ?_
  refine C6 ?_
  refine B8 ?_
  refine B4 rfl (C2 (p:=.own 3019 (List.length (α:=Int) (Q8 (J0 255) (IntKind.wrap .i64 (19 + (((G0 m).1).length:Int))))) (SL (eI .u8) (Q8 (J0 255) (IntKind.wrap .i64 (19 + (((G0 m).1).length:Int)))))) rfl rfl rfl rfl) ?_
  refine B4 rfl (D3 (b:=1) (k:=0) (m:=0) rfl rfl rfl X5 rfl rfl) ?_
  refine B4 rfl (F4 (s:=1) (off:=0) (ps:=(A8.cells m)) (p:=.sc (.int .i64 m.fKind)) rfl rfl rfl ty3 rfl rfl rfl rfl rfl) ?_
  refine B4 rfl (G8 (m:=(IntKind.wrap .u8 m.fKind)) rfl rfl rfl Tryz.underlying3 Tryz.underlying5 rfl rfl) ?_
  refine B4 rfl (I4 (E:=(eI .u8)) (l:=[(IntKind.wrap .u8 m.fKind)]) (tp:=28) (parts:=[(0,.tmp 27)]) (qs:=[.sc (.int .u8 (IntKind.wrap .u8 m.fKind))]) rfl rfl rfl N3 rfl rfl rfl rfl) ?_
  refine B4 rfl (K1 (E:=(eI .u8)) (l:=(Q8 (J0 255) (IntKind.wrap .i64 (19 + (((G0 m).1).length:Int))))) (ext:=[(IntKind.wrap .u8 m.fKind)]) (tp:=3019) rfl rfl rfl N3 rfl rfl (Q1 rfl) (by first | ((try simp only [zB,zC,zD,B7,A7,A6,C0,D8,E8]); omega) | ((try simp only [z1,z2,z3,z4,z5,z6,z7,z8,z9,zA,zB,zC,zD,D2,C9,C4,C3,C5,B5,B6,B7,A7,A6,C0,D8,E8] at *); omega))) ?_
  refine B4 rfl (C2 (p:=.sem (SL (eI .u8) ((G0 m).1))) rfl rfl rfl rfl) ?_
  refine B4 rfl (K1 (E:=(eI .u8)) (l:=((Q8 (J0 255) (IntKind.wrap .i64 (19 + (((G0 m).1).length:Int)))) ++ [(IntKind.wrap .u8 m.fKind)])) (ext:=(G0 m).1) (tp:=3019) rfl rfl rfl N3 rfl rfl (E3 rfl) (by first | ((try simp only [zB,zC,zD,B7,A7,A6,C0,D8,E8]); omega) | ((try simp only [z1,z2,z3,z4,z5,z6,z7,z8,z9,zA,zB,zC,zD,D2,C9,C4,C3,C5,B5,B6,B7,A7,A6,C0,D8,E8] at *); omega))) ?_
  refine B4 rfl (C7 (p:=.own 3019 (List.length (α:=Int) (((Q8 (J0 255) (IntKind.wrap .i64 (19 + (((G0 m).1).length:Int)))) ++ [(IntKind.wrap .u8 m.fKind)]) ++ (G0 m).1)) (SL (eI .u8) (((Q8 (J0 255) (IntKind.wrap .i64 (19 + (((G0 m).1).length:Int)))) ++ [(IntKind.wrap .u8 m.fKind)]) ++ (G0 m).1))) rfl rfl rfl rfl) ?_
  refine D4 ?_
  refine G2 ?_
  exact F7 (F:=(fun (z:List Int)=>⟨[],[],.sem (SL (eI .u8) z)⟩)) (z:=(D6 m)) (v:=(((Q8 (J0 255) (IntKind.wrap .i64 (19 + (((G0 m).1).length:Int)))) ++ [(IntKind.wrap .u8 m.fKind)]) ++ (G0 m).1)) (bF k4 rfl) rfl (.one (.tmp 2 (.sem (SL (eI .u8) (((Q8 (J0 255) (IntKind.wrap .i64 (19 + (((G0 m).1).length:Int)))) ++ [(IntKind.wrap .u8 m.fKind)]) ++ (G0 m).1))) rfl) (.one (.rfl _)) rfl) trivial trivial
theorem A3O (m:A8) (h1:decide ((m.fKind:Int)=1)=false) (h2:decide ((m.fKind:Int)=2)=false) (h3:m.fNote.fData.length ≤ 1000000):PF Tryz.prog 29 [.agg (A8.cells m)] (.sem (SL (eI .u8) (D6 m))):=M1 (A2t m h1 h2 h3) rfl
def F1 (b:List Int):A8 × A3:=
 (bif !(decide ((((E1 b).2).fCode:Int)=0)) then
  ((⟨0,(⟨0,0,0,(⟨false,0,false,false,0,false,false,false,0⟩:B0)⟩:D1),(⟨[],(⟨0,[],0,0,0,[],[]⟩:A5),[]⟩:A4),(⟨0,0,[]⟩:A3)⟩:A8),((E1 b).2))
 else
  (bif (!(decide (((E1 b).1:Int)=(b.length:Int)))) || (decide (((E1 b).1:Int)=0)) then
   ((⟨0,(⟨0,0,0,(⟨false,0,false,false,0,false,false,false,0⟩:B0)⟩:D1),(⟨[],(⟨0,[],0,0,0,[],[]⟩:A5),[]⟩:A4),(⟨0,0,[]⟩:A3)⟩:A8),(F2 1 2 []))
  else
   ((⟨(IntKind.wrap .i64 (ix b 18)),(⟨0,0,0,(⟨false,0,false,false,0,false,false,false,0⟩:B0)⟩:D1),(⟨[],(⟨0,[],0,0,0,[],[]⟩:A5),[]⟩:A4),(⟨0,0,[]⟩:A3)⟩:A8),(⟨0,0,[]⟩:A3))))
set_option maxRecDepth 100000 in
set_option maxHeartbeats 4000000 in
theorem A1E (b:List Int) (h1:(decide (((IntKind.wrap .i64 (ix b 18)):Int)=1))=false) (h2:(decide (((IntKind.wrap .i64 (ix b 18)):Int)=2))=false) (h3:(decide (((IntKind.wrap .i64 (ix b 18)):Int)=3))=false) (h0:19 ≤ b.length):PG Tryz.prog 16 [] [] [.sem (SL (eI .u8) b)] (fun _:Unit=>True) (fun _=>(fun (z:A8 × A3)=>⟨[],[],.tup [.agg (A8.cells z.1),.agg (A3.cells z.2)]⟩) (F1 b)):=by
 refine M4 (N:=77) (l:=[.cell 2 43,.cell 3 41]) Tryz.func16 rfl rfl rfl (Nat.le_of_ble_eq_true rfl) fun w0 i0 F βs=>?_
 refine C6 ?_
 refine B8 ?_
 refine B4 rfl (L2 (s:=2) (z:=A5B) (qs:=N1) rfl rfl rfl rfl z43 rfl rfl) ?_
 refine B4 rfl (L2 (s:=3) (z:=A0r) (qs:=J3) rfl rfl rfl rfl z41 rfl rfl) ?_
 refine D4 ?_
 refine C6 ?_
 refine B8 ?_
 refine B4 rfl (C2 (p:=.sem (SL (eI .u8) b)) rfl rfl rfl rfl) ?_
 refine B4 rfl (I1 (fn:=Tryz.f20) (xs:=[.tmp 9]) (args:=[.sem (SL (eI .u8) b)]) (r:=.tup [.sc (.int .i64 ((E1 b).1)),.agg (A3.cells ((E1 b).2))]) rfl rfl rfl Tryz.func20 rfl rfl rfl rfl rfl (s6 b)) ?_
 refine B4 rfl (C2 (p:=.tup [.sc (.int .i64 ((E1 b).1)),.agg (A3.cells ((E1 b).2))]) rfl rfl rfl rfl) ?_
 refine B4 rfl (I2 (ps:=[.sc (.int .i64 ((E1 b).1)),.agg (A3.cells ((E1 b).2))]) (p:=.sc (.int .i64 ((E1 b).1))) rfl rfl rfl rfl rfl) ?_
 refine B4 rfl (I2 (ps:=[.sc (.int .i64 ((E1 b).1)),.agg (A3.cells ((E1 b).2))]) (p:=.agg (A3.cells ((E1 b).2))) rfl rfl rfl rfl rfl) ?_
 refine B4 rfl (L2 (s:=5) (z:=A0r) (qs:=J3) rfl rfl rfl rfl z41 rfl rfl) ?_
 refine B4 rfl (C7 (p:=.sc (.int .i64 ((E1 b).1))) rfl rfl rfl rfl) ?_
 refine B4 rfl (G5 (s:=5) (off:=0) (ps:=J3) (p:=.agg (A3.cells ((E1 b).2))) (qs:=(A3.cells ((E1 b).2))) rfl rfl M5 rfl rfl rfl rfl rfl rfl rfl) ?_
 refine D4 ?_
 refine C6 ?_
 refine H6 ?_
 refine C6 ?_
 refine B8 ?_
 refine B4 rfl (D3 (b:=5) (k:=0) (m:=0) rfl rfl rfl Q9 rfl rfl) ?_
 refine B4 rfl (F4 (s:=5) (off:=0) (ps:=(A3.cells ((E1 b).2))) (p:=.sc (.int .i64 (((E1 b).2).fCode))) rfl rfl rfl ty3 rfl rfl rfl rfl rfl) ?_
 refine B4 rfl (E6 (u1:=.int .i64 (((E1 b).2).fCode)) (u2:=.int .i64 0) (v:=.bool (!(decide ((((E1 b).2).fCode:Int)=0)))) rfl rfl rfl rfl rfl (fun _=>rfl)) ?_
 refine B4 rfl (C7 (p:=.sc (.bool (!(decide ((((E1 b).2).fCode:Int)=0))))) rfl rfl rfl rfl) ?_
 refine D4 ?_
 refine F6 (b:=!(decide ((((E1 b).2).fCode:Int)=0))) rfl (fun k1=>?_) (fun k1=>?_)
 ·skip
  refine C6 ?_
  refine Q5 { ds:=[some 17,some 18,none,none],p:=fun i=>[.agg N1,.agg (A3.cells ((E1 b).2)),.any,.any].getD i .any,al:=[],st:=[(2,2,0,N1),(3,3,0,(A3.cells ((E1 b).2)))] } rfl (by kernel_rfl) rfl rfl ?_ (fun bD hb=>?_)
  ·refine ⟨fun bD hc hi hd=>?_,fun bD hc hi hd=>?_,fun bD hc hi hd=>?_,fun bD hc hi hd=>?_,trivial⟩
   ·exact F3.putStep (i:=0) (q:=.agg N1) rfl rfl rfl (C1 rfl (M7 (parts:=[]) (pps:=[]) (qs:=N1) rfl rfl rfl A1g rfl rfl (by kernel_rfl)))
   ·exact F3.putStep (i:=1) (q:=.agg (A3.cells ((E1 b).2))) rfl rfl rfl (C1 rfl (F4 (s:=5) (off:=0) (ps:=(A3.cells ((E1 b).2))) (p:=.agg (A3.cells ((E1 b).2))) rfl rfl rfl M5 rfl rfl rfl rfl rfl))
   ·exact L5 (i:=2) (s:=2) (off:=0) (ps0:=N1) (ps:=N1) (qs:=N1) (p:=.agg N1) 0 hc hd rfl rfl rfl X7 rfl (gt (p:=.agg N1) (q:=.any) (hd 0 (by decide))) (by exact K3 (ps:=N1) rfl rfl) rfl rfl rfl rfl rfl rfl rfl hi rfl rfl (by kernel_rfl) (by kernel_rfl)
   ·exact L5 (i:=3) (s:=3) (off:=0) (ps0:=J3) (ps:=J3) (qs:=(A3.cells ((E1 b).2))) (p:=.agg (A3.cells ((E1 b).2))) 1 hc hd rfl rfl rfl M5 rfl (gt (p:=.agg (A3.cells ((E1 b).2))) (q:=.any) (hd 1 (by decide))) (by exact K3 (ps:=J3) rfl rfl) rfl rfl rfl rfl rfl rfl rfl hi rfl rfl (by kernel_rfl) (by kernel_rfl)
  obtain rfl:bD=fun _=>true:=funext hb
  refine G2 ?_
  exact F7 (F:=(fun (z:A8 × A3)=>⟨[],[],.tup [.agg (A8.cells z.1),.agg (A3.cells z.2)]⟩)) (z:=(F1 b)) (v:=((⟨0,(⟨0,0,0,(⟨false,0,false,false,0,false,false,false,0⟩:B0)⟩:D1),(⟨[],(⟨0,[],0,0,0,[],[]⟩:A5),[]⟩:A4),(⟨0,0,[]⟩:A3)⟩:A8),((E1 b).2))) (bT k1 rfl) rfl (.two (.cell 2 43 2 25 true N1 (.agg N1) rfl rfl X7 rfl rfl rfl) (.agg (.cons (.rfl _) (.cons (.rfl _) (.cons (.rfl _) (.cons (.rfl _) (.cons (.rfl _) (.cons (.rfl _) (.cons (.rfl _) (.cons (.rfl _) (.cons (.rfl _) (.cons (.rfl _) (.cons (.rfl _) (.cons (.rfl _) (.cons (.rfl _) (.cons (.nil _) (.cons (.rfl _) (.cons (.nil _) (.cons (.rfl _) (.cons (.rfl _) (.cons (.rfl _) (.cons (.nil _) (.cons (.nil _) (.cons (.nil _) (.cons (.rfl _) (.cons (.rfl _) (.cons (.nil _) .nil)))))))))))))))))))))))))) rfl (.cell 3 41 3 3 true (A3.cells ((E1 b).2)) (.agg (A3.cells ((E1 b).2))) rfl rfl M5 rfl rfl rfl) (.one (.rfl _)) rfl) trivial trivial
 ·skip
  refine C6 ?_
  refine B8 ?_
  refine B4 rfl (C2 (p:=.sc (.int .i64 ((E1 b).1))) rfl rfl rfl rfl) ?_
  refine B4 rfl (C2 (p:=.sem (SL (eI .u8) b)) rfl rfl rfl rfl) ?_
  refine B4 rfl (L6 rfl rfl rfl Tryz.underlying22 (E3 rfl)) ?_
  refine B4 rfl (E6 (u1:=.int .i64 ((E1 b).1)) (u2:=.int .i64 (b.length:Int)) (v:=.bool (!(decide (((E1 b).1:Int)=(b.length:Int))))) rfl rfl rfl rfl rfl (fun _=>rfl)) ?_
  refine B4 rfl (C2 (p:=.sc (.bool (!(decide (((E1 b).1:Int)=(b.length:Int)))))) rfl rfl rfl rfl) ?_
  refine E0 (C:=decide (((E1 b).1:Int)=(b.length:Int))) (p:=.sc (.int .i64 ((E1 b).1))) (H8 (b:=!(decide (((E1 b).1:Int)=(b.length:Int)))) (c:=decide (((E1 b).1:Int)=(b.length:Int))) rfl rfl rfl rfl rfl (Bool.not_not _)) rfl rfl (fun g2=>C2 (p:=.sc (.int .i64 ((E1 b).1))) rfl rfl rfl rfl) ?_
  refine E0 (C:=decide (((E1 b).1:Int)=(b.length:Int))) (p:=.sc (.bool (decide (((E1 b).1:Int)=0)))) (H8 (b:=!(decide (((E1 b).1:Int)=(b.length:Int)))) (c:=decide (((E1 b).1:Int)=(b.length:Int))) rfl rfl rfl rfl rfl (Bool.not_not _)) rfl rfl (fun g3=>E6 (u1:=.int .i64 ((E1 b).1)) (u2:=.int .i64 0) (v:=.bool (decide (((E1 b).1:Int)=0))) rfl rfl rfl (gt (p:=.sc (.int .i64 ((E1 b).1))) (q:=.sc undef) g3) rfl (fun _=>rfl)) ?_
  refine B4 rfl (N5 (b:=!(decide (((E1 b).1:Int)=(b.length:Int)))) (y:=decide (((E1 b).1:Int)=0)) rfl rfl rfl rfl rfl (Bool.not_not _)) ?_
  refine B4 rfl (C7 (p:=.sc (.bool ((!(decide (((E1 b).1:Int)=(b.length:Int)))) || (decide (((E1 b).1:Int)=0))))) rfl rfl rfl rfl) ?_
  refine D4 ?_
  refine F6 (b:=(!(decide (((E1 b).1:Int)=(b.length:Int)))) || (decide (((E1 b).1:Int)=0))) rfl (fun k4=>?_) (fun k4=>?_)
  ·skip
   refine C6 ?_
   refine B8 ?_
   refine B4 rfl (M7 (parts:=[]) (pps:=[]) (qs:=N1) rfl rfl rfl A1g rfl rfl (by kernel_rfl)) ?_
   refine B4 rfl (I1 (fn:=Tryz.f30) (xs:=[.const (.int .i64 1),.const (.int .i64 2),.const (.slice none 0 0)]) (args:=[.sc (.int .i64 1),.sc (.int .i64 2),.sc (.slice none 0 0)]) (r:=.agg (A3.cells (F2 1 2 []))) rfl rfl rfl Tryz.func30 rfl rfl rfl rfl rfl (f9 (Q4 1 2 []) (.cons (.one (.rfl _)) (.cons (.one (.rfl _)) (.cons (.one (.nil _)) .nil))))) ?_
   refine B4 rfl (G5 (s:=2) (off:=0) (ps:=N1) (p:=.agg N1) (qs:=N1) rfl rfl X7 rfl rfl rfl rfl rfl rfl rfl) ?_
   refine B4 rfl (G5 (s:=3) (off:=0) (ps:=J3) (p:=.agg (A3.cells (F2 1 2 []))) (qs:=(A3.cells (F2 1 2 []))) rfl rfl M5 rfl rfl rfl rfl rfl rfl rfl) ?_
   refine D4 ?_
   refine G2 ?_
   exact F7 (F:=(fun (z:A8 × A3)=>⟨[],[],.tup [.agg (A8.cells z.1),.agg (A3.cells z.2)]⟩)) (z:=(F1 b)) (v:=((⟨0,(⟨0,0,0,(⟨false,0,false,false,0,false,false,false,0⟩:B0)⟩:D1),(⟨[],(⟨0,[],0,0,0,[],[]⟩:A5),[]⟩:A4),(⟨0,0,[]⟩:A3)⟩:A8),(F2 1 2 []))) (bF k1 (bT k4 rfl)) rfl (.two (.cell 2 43 2 25 true N1 (.agg N1) rfl rfl X7 rfl rfl rfl) (.agg (.cons (.rfl _) (.cons (.rfl _) (.cons (.rfl _) (.cons (.rfl _) (.cons (.rfl _) (.cons (.rfl _) (.cons (.rfl _) (.cons (.rfl _) (.cons (.rfl _) (.cons (.rfl _) (.cons (.rfl _) (.cons (.rfl _) (.cons (.rfl _) (.cons (.nil _) (.cons (.rfl _) (.cons (.nil _) (.cons (.rfl _) (.cons (.rfl _) (.cons (.rfl _) (.cons (.nil _) (.cons (.nil _) (.cons (.nil _) (.cons (.rfl _) (.cons (.rfl _) (.cons (.nil _) .nil)))))))))))))))))))))))))) rfl (.cell 3 41 3 3 true (A3.cells (F2 1 2 [])) (.agg (A3.cells (F2 1 2 []))) rfl rfl M5 rfl rfl rfl) (.one (.rfl _)) rfl) trivial trivial
  ·skip
   refine F9 ?_
   refine C6 ?_
   refine B8 ?_
   refine B4 rfl (C2 (p:=.sem (SL (eI .u8) b)) rfl rfl rfl rfl) ?_
   refine B4 rfl (N6 (E:=(eI .u8)) (l:=b) (n:=18) (ps:=[.sc (.int .u8 (ix b 18))]) rfl rfl rfl Tryz.underlying22 ty5 (E3 rfl) rfl (by first | omega | ((try simp only [z1,z2,z3,z4,z5,z6,z7,z8,z9,zA,zB,zC,zD,D2,C9,C4,C3,C5,B5,B6,B7,A7,A6,C0,D8,E8] at *); omega) | ((try simp only [z1,z2,z3,z4,z5,z6,z7,z8,z9,zA,B5,B6,B7,A7,A6,C0,D8,E8] at *); (try simp (disch:=omega) only [C8]); (try simp only [z1,z2,z3,z4,z5,z6,z7,z8,z9,zA,zB,zC,zD,D2,C9,C4,C3,C5,B5,B6,B7] at *); omega)) rfl) ?_
   refine B4 rfl (G4 (ps:=[.sc (.int .u8 (ix b 18))]) (p:=.sc (.int .u8 (ix b 18))) rfl rfl rfl ty5 rfl rfl rfl rfl rfl) ?_
   refine B4 rfl (G8 (m:=(IntKind.wrap .i64 (ix b 18))) rfl rfl rfl Tryz.underlying5 Tryz.underlying3 rfl rfl) ?_
   refine B4 rfl (M7 (parts:=[(0,.tmp 33)]) (pps:=[(0,.sc (.int .i64 (IntKind.wrap .i64 (ix b 18))))]) (qs:=[.sc (.int .i64 (IntKind.wrap .i64 (ix b 18))),.sc (.int .i64 0),.sc (.int .i64 0),.sc (.int .u32 0),.sc (.bool false),.sc (.int .i64 0),.sc (.bool false),.sc (.bool false),.sc (.int .i64 0),.sc (.bool false),.sc (.bool false),.sc (.bool false),.sc (.int .i64 0),.sc (.slice none 0 0),.sc (.int .i64 0),.sc (.slice none 0 0),.sc (.int .u32 0),.sc (.int .i64 0),.sc (.int .i64 0),.sc (.slice none 0 0),.sc (.slice none 0 0),.sc (.slice none 0 0),.sc (.int .i64 0),.sc (.int .i64 0),.sc (.slice none 0 0)]) rfl rfl rfl A1g rfl rfl (by kernel_rfl)) ?_
   refine B4 rfl (L2 (s:=6) (z:=A5B) (qs:=N1) rfl rfl rfl rfl z43 rfl rfl) ?_
   refine B4 rfl (G5 (s:=6) (off:=0) (ps:=N1) (p:=.agg [.sc (.int .i64 (IntKind.wrap .i64 (ix b 18))),.sc (.int .i64 0),.sc (.int .i64 0),.sc (.int .u32 0),.sc (.bool false),.sc (.int .i64 0),.sc (.bool false),.sc (.bool false),.sc (.int .i64 0),.sc (.bool false),.sc (.bool false),.sc (.bool false),.sc (.int .i64 0),.sc (.slice none 0 0),.sc (.int .i64 0),.sc (.slice none 0 0),.sc (.int .u32 0),.sc (.int .i64 0),.sc (.int .i64 0),.sc (.slice none 0 0),.sc (.slice none 0 0),.sc (.slice none 0 0),.sc (.int .i64 0),.sc (.int .i64 0),.sc (.slice none 0 0)]) (qs:=[.sc (.int .i64 (IntKind.wrap .i64 (ix b 18))),.sc (.int .i64 0),.sc (.int .i64 0),.sc (.int .u32 0),.sc (.bool false),.sc (.int .i64 0),.sc (.bool false),.sc (.bool false),.sc (.int .i64 0),.sc (.bool false),.sc (.bool false),.sc (.bool false),.sc (.int .i64 0),.sc (.slice none 0 0),.sc (.int .i64 0),.sc (.slice none 0 0),.sc (.int .u32 0),.sc (.int .i64 0),.sc (.int .i64 0),.sc (.slice none 0 0),.sc (.slice none 0 0),.sc (.slice none 0 0),.sc (.int .i64 0),.sc (.int .i64 0),.sc (.slice none 0 0)]) rfl rfl X7 rfl rfl rfl rfl rfl rfl rfl) ?_
   refine D4 ?_
   refine C6 ?_
   refine B8 ?_
   refine B4 rfl (C2 (p:=.sem (SL (eI .u8) b)) rfl rfl rfl rfl) ?_
   refine B4 rfl (K0 (E:=(eI .u8)) (l:=b) (i:=19) (j:=(b.length:Int)) rfl rfl rfl Tryz.underlying22 ty5 (E3 rfl) (I0 rfl) (L3 rfl) (show 0 ≤ 19 ∧ 19 ≤ (b.length:Int) ∧ (b.length:Int) ≤ (b.length:Int) from (by first | omega | ((try simp only [z1,z2,z3,z4,z5,z6,z7,z8,z9,zA,zB,zC,zD,D2,C9,C4,C3,C5,B5,B6,B7,A7,A6,C0,D8,E8] at *); omega) | ((try simp only [z1,z2,z3,z4,z5,z6,z7,z8,z9,zA,B5,B6,B7,A7,A6,C0,D8,E8] at *); (try simp (disch:=omega) only [C8]); (try simp only [z1,z2,z3,z4,z5,z6,z7,z8,z9,zA,zB,zC,zD,D2,C9,C4,C3,C5,B5,B6,B7] at *); omega)))) ?_
   refine B4 rfl (C7 (p:=.sem (SL (eI .u8) (sub b 19 (b.length:Int)))) rfl rfl rfl rfl) ?_
   refine D4 ?_
   refine C6 ?_
   refine C6 ?_
   refine B8 ?_
   refine B4 rfl (D3 (b:=6) (k:=0) (m:=0) rfl rfl rfl X5 rfl rfl) ?_
   refine B4 rfl (F4 (s:=6) (off:=0) (ps:=[.sc (.int .i64 (IntKind.wrap .i64 (ix b 18))),.sc (.int .i64 0),.sc (.int .i64 0),.sc (.int .u32 0),.sc (.bool false),.sc (.int .i64 0),.sc (.bool false),.sc (.bool false),.sc (.int .i64 0),.sc (.bool false),.sc (.bool false),.sc (.bool false),.sc (.int .i64 0),.sc (.slice none 0 0),.sc (.int .i64 0),.sc (.slice none 0 0),.sc (.int .u32 0),.sc (.int .i64 0),.sc (.int .i64 0),.sc (.slice none 0 0),.sc (.slice none 0 0),.sc (.slice none 0 0),.sc (.int .i64 0),.sc (.int .i64 0),.sc (.slice none 0 0)]) (p:=.sc (.int .i64 (IntKind.wrap .i64 (ix b 18)))) rfl rfl rfl ty3 rfl rfl rfl rfl rfl) ?_
   refine D4 ?_
   refine H6 ?_
   refine C6 ?_
   refine B8 ?_
   refine B4 rfl (E6 (u1:=.int .i64 (IntKind.wrap .i64 (ix b 18))) (u2:=.int .i64 1) (v:=.bool (decide (((IntKind.wrap .i64 (ix b 18)):Int)=1))) rfl rfl rfl rfl rfl (fun _=>rfl)) ?_
   refine B4 rfl (C7 (p:=.sc (.bool (decide (((IntKind.wrap .i64 (ix b 18)):Int)=1)))) rfl rfl rfl rfl) ?_
   refine D4 ?_
   refine F6 (b:=decide (((IntKind.wrap .i64 (ix b 18)):Int)=1)) rfl (fun h=>absurd (h.symm.trans h1) (by decide)) (fun h=>?_)
   refine C6 ?_
   refine B8 ?_
   refine B4 rfl (E6 (u1:=.int .i64 (IntKind.wrap .i64 (ix b 18))) (u2:=.int .i64 2) (v:=.bool (decide (((IntKind.wrap .i64 (ix b 18)):Int)=2))) rfl rfl rfl rfl rfl (fun _=>rfl)) ?_
   refine B4 rfl (C7 (p:=.sc (.bool (decide (((IntKind.wrap .i64 (ix b 18)):Int)=2)))) rfl rfl rfl rfl) ?_
   refine D4 ?_
   refine F6 (b:=decide (((IntKind.wrap .i64 (ix b 18)):Int)=2)) rfl (fun h=>absurd (h.symm.trans h2) (by decide)) (fun h=>?_)
   refine C6 ?_
   refine B8 ?_
   refine B4 rfl (E6 (u1:=.int .i64 (IntKind.wrap .i64 (ix b 18))) (u2:=.int .i64 3) (v:=.bool (decide (((IntKind.wrap .i64 (ix b 18)):Int)=3))) rfl rfl rfl rfl rfl (fun _=>rfl)) ?_
   refine B4 rfl (C7 (p:=.sc (.bool (decide (((IntKind.wrap .i64 (ix b 18)):Int)=3)))) rfl rfl rfl rfl) ?_
   refine D4 ?_
   refine F6 (b:=decide (((IntKind.wrap .i64 (ix b 18)):Int)=3)) rfl (fun h=>absurd (h.symm.trans h3) (by decide)) (fun h=>?_)
   refine F9 ?_
   refine C6 ?_
   refine C6 ?_
   refine B8 ?_
   refine B4 rfl (D3 (b:=5) (k:=0) (m:=0) rfl rfl rfl Q9 rfl rfl) ?_
   refine B4 rfl (F4 (s:=5) (off:=0) (ps:=(A3.cells ((E1 b).2))) (p:=.sc (.int .i64 (((E1 b).2).fCode))) rfl rfl rfl ty3 rfl rfl rfl rfl rfl) ?_
   refine B4 rfl (E6 (u1:=.int .i64 (((E1 b).2).fCode)) (u2:=.int .i64 0) (v:=.bool (!(decide ((((E1 b).2).fCode:Int)=0)))) rfl rfl rfl rfl rfl (fun _=>rfl)) ?_
   refine D4 ?_
   refine F6 (b:=!(decide ((((E1 b).2).fCode:Int)=0))) rfl (fun h=>absurd (h.symm.trans k1) (by decide)) (fun h=>?_)
   refine F9 ?_
   refine C6 ?_
   refine B8 ?_
   refine B4 rfl (F4 (s:=6) (off:=0) (ps:=[.sc (.int .i64 (IntKind.wrap .i64 (ix b 18))),.sc (.int .i64 0),.sc (.int .i64 0),.sc (.int .u32 0),.sc (.bool false),.sc (.int .i64 0),.sc (.bool false),.sc (.bool false),.sc (.int .i64 0),.sc (.bool false),.sc (.bool false),.sc (.bool false),.sc (.int .i64 0),.sc (.slice none 0 0),.sc (.int .i64 0),.sc (.slice none 0 0),.sc (.int .u32 0),.sc (.int .i64 0),.sc (.int .i64 0),.sc (.slice none 0 0),.sc (.slice none 0 0),.sc (.slice none 0 0),.sc (.int .i64 0),.sc (.int .i64 0),.sc (.slice none 0 0)]) (p:=.agg [.sc (.int .i64 (IntKind.wrap .i64 (ix b 18))),.sc (.int .i64 0),.sc (.int .i64 0),.sc (.int .u32 0),.sc (.bool false),.sc (.int .i64 0),.sc (.bool false),.sc (.bool false),.sc (.int .i64 0),.sc (.bool false),.sc (.bool false),.sc (.bool false),.sc (.int .i64 0),.sc (.slice none 0 0),.sc (.int .i64 0),.sc (.slice none 0 0),.sc (.int .u32 0),.sc (.int .i64 0),.sc (.int .i64 0),.sc (.slice none 0 0),.sc (.slice none 0 0),.sc (.slice none 0 0),.sc (.int .i64 0),.sc (.int .i64 0),.sc (.slice none 0 0)]) rfl rfl rfl X7 rfl rfl rfl rfl rfl) ?_
   refine B4 rfl (M7 (parts:=[]) (pps:=[]) (qs:=J3) rfl rfl rfl A1o rfl rfl (by kernel_rfl)) ?_
   refine B4 rfl (G5 (s:=2) (off:=0) (ps:=N1) (p:=.agg [.sc (.int .i64 (IntKind.wrap .i64 (ix b 18))),.sc (.int .i64 0),.sc (.int .i64 0),.sc (.int .u32 0),.sc (.bool false),.sc (.int .i64 0),.sc (.bool false),.sc (.bool false),.sc (.int .i64 0),.sc (.bool false),.sc (.bool false),.sc (.bool false),.sc (.int .i64 0),.sc (.slice none 0 0),.sc (.int .i64 0),.sc (.slice none 0 0),.sc (.int .u32 0),.sc (.int .i64 0),.sc (.int .i64 0),.sc (.slice none 0 0),.sc (.slice none 0 0),.sc (.slice none 0 0),.sc (.int .i64 0),.sc (.int .i64 0),.sc (.slice none 0 0)]) (qs:=[.sc (.int .i64 (IntKind.wrap .i64 (ix b 18))),.sc (.int .i64 0),.sc (.int .i64 0),.sc (.int .u32 0),.sc (.bool false),.sc (.int .i64 0),.sc (.bool false),.sc (.bool false),.sc (.int .i64 0),.sc (.bool false),.sc (.bool false),.sc (.bool false),.sc (.int .i64 0),.sc (.slice none 0 0),.sc (.int .i64 0),.sc (.slice none 0 0),.sc (.int .u32 0),.sc (.int .i64 0),.sc (.int .i64 0),.sc (.slice none 0 0),.sc (.slice none 0 0),.sc (.slice none 0 0),.sc (.int .i64 0),.sc (.int .i64 0),.sc (.slice none 0 0)]) rfl rfl X7 rfl rfl rfl rfl rfl rfl rfl) ?_
   refine B4 rfl (G5 (s:=3) (off:=0) (ps:=J3) (p:=.agg J3) (qs:=J3) rfl rfl M5 rfl rfl rfl rfl rfl rfl rfl) ?_
   refine D4 ?_
   refine G2 ?_
   exact F7 (F:=(fun (z:A8 × A3)=>⟨[],[],.tup [.agg (A8.cells z.1),.agg (A3.cells z.2)]⟩)) (z:=(F1 b)) (v:=((⟨(IntKind.wrap .i64 (ix b 18)),(⟨0,0,0,(⟨false,0,false,false,0,false,false,false,0⟩:B0)⟩:D1),(⟨[],(⟨0,[],0,0,0,[],[]⟩:A5),[]⟩:A4),(⟨0,0,[]⟩:A3)⟩:A8),(⟨0,0,[]⟩:A3))) (bF k1 (bF k4 rfl)) rfl (.two (.cell 2 43 2 25 true [.sc (.int .i64 (IntKind.wrap .i64 (ix b 18))),.sc (.int .i64 0),.sc (.int .i64 0),.sc (.int .u32 0),.sc (.bool false),.sc (.int .i64 0),.sc (.bool false),.sc (.bool false),.sc (.int .i64 0),.sc (.bool false),.sc (.bool false),.sc (.bool false),.sc (.int .i64 0),.sc (.slice none 0 0),.sc (.int .i64 0),.sc (.slice none 0 0),.sc (.int .u32 0),.sc (.int .i64 0),.sc (.int .i64 0),.sc (.slice none 0 0),.sc (.slice none 0 0),.sc (.slice none 0 0),.sc (.int .i64 0),.sc (.int .i64 0),.sc (.slice none 0 0)] (.agg [.sc (.int .i64 (IntKind.wrap .i64 (ix b 18))),.sc (.int .i64 0),.sc (.int .i64 0),.sc (.int .u32 0),.sc (.bool false),.sc (.int .i64 0),.sc (.bool false),.sc (.bool false),.sc (.int .i64 0),.sc (.bool false),.sc (.bool false),.sc (.bool false),.sc (.int .i64 0),.sc (.slice none 0 0),.sc (.int .i64 0),.sc (.slice none 0 0),.sc (.int .u32 0),.sc (.int .i64 0),.sc (.int .i64 0),.sc (.slice none 0 0),.sc (.slice none 0 0),.sc (.slice none 0 0),.sc (.int .i64 0),.sc (.int .i64 0),.sc (.slice none 0 0)]) rfl rfl X7 rfl rfl rfl) (.agg (.cons (.rfl _) (.cons (.rfl _) (.cons (.rfl _) (.cons (.rfl _) (.cons (.rfl _) (.cons (.rfl _) (.cons (.rfl _) (.cons (.rfl _) (.cons (.rfl _) (.cons (.rfl _) (.cons (.rfl _) (.cons (.rfl _) (.cons (.rfl _) (.cons (.nil _) (.cons (.rfl _) (.cons (.nil _) (.cons (.rfl _) (.cons (.rfl _) (.cons (.rfl _) (.cons (.nil _) (.cons (.nil _) (.cons (.nil _) (.cons (.rfl _) (.cons (.rfl _) (.cons (.nil _) .nil)))))))))))))))))))))))))) rfl (.cell 3 41 3 3 true J3 (.agg J3) rfl rfl M5 rfl rfl rfl) (.agg (.cons (.rfl _) (.cons (.rfl _) (.cons (.nil _) .nil)))) rfl) trivial trivial
theorem A2H (b:List Int) (h1:(decide (((IntKind.wrap .i64 (ix b 18)):Int)=1))=false) (h2:(decide (((IntKind.wrap .i64 (ix b 18)):Int)=2))=false) (h3:(decide (((IntKind.wrap .i64 (ix b 18)):Int)=3))=false) (h0:19 ≤ b.length):PF Tryz.prog 16 [.sem (SL (eI .u8) b)] (.tup [.agg (A8.cells ((F1 b).1)),.agg (A3.cells ((F1 b).2))]):=M1 (A1E b h1 h2 h3 h0) rfl
def E2  : Bool:=
 ((((decide ((((D6 (⟨4,(⟨0,0,0,(⟨false,0,false,false,0,false,false,false,0⟩:B0)⟩:D1),(⟨[],(⟨0,[],0,0,0,[],[]⟩:A5),[]⟩:A4),(⟨0,0,[]⟩:A3)⟩:A8)).length:Int):Int)=19)) && (decide ((((F1 (D6 (⟨4,(⟨0,0,0,(⟨false,0,false,false,0,false,false,false,0⟩:B0)⟩:D1),(⟨[],(⟨0,[],0,0,0,[],[]⟩:A5),[]⟩:A4),(⟨0,0,[]⟩:A3)⟩:A8))).2).fCode:Int)=0))) && (decide ((((F1 (D6 (⟨4,(⟨0,0,0,(⟨false,0,false,false,0,false,false,false,0⟩:B0)⟩:D1),(⟨[],(⟨0,[],0,0,0,[],[]⟩:A5),[]⟩:A4),(⟨0,0,[]⟩:A3)⟩:A8))).1).fKind:Int)=4))) && (decide (((E1 (D6 (⟨4,(⟨0,0,0,(⟨false,0,false,false,0,false,false,false,0⟩:B0)⟩:D1),(⟨[],(⟨0,[],0,0,0,[],[]⟩:A5),[]⟩:A4),(⟨0,0,[]⟩:A3)⟩:A8))).1:Int)=19))) && (decide ((((E1 (D6 (⟨4,(⟨0,0,0,(⟨false,0,false,false,0,false,false,false,0⟩:B0)⟩:D1),(⟨[],(⟨0,[],0,0,0,[],[]⟩:A5),[]⟩:A4),(⟨0,0,[]⟩:A3)⟩:A8))).2).fCode:Int)=0))
set_option maxRecDepth 100000 in
set_option maxHeartbeats 4000000 in
theorem A0L  : PG Tryz.prog 15 [] [] [] (fun _:Unit=>True) (fun _=>(fun (z:Bool)=>⟨[],[],.sc (.bool z)⟩) E2):=by
 refine M4 (N:=40) (l:=[.tmp 0]) Tryz.func15 rfl rfl rfl (Nat.le_of_ble_eq_true rfl) fun w0 i0 F βs=>?_
 refine C6 ?_
 refine B8 ?_
 refine B4 rfl (C7 (p:=.sc (.bool false)) rfl rfl rfl rfl) ?_
 refine D4 ?_
 refine C6 ?_
 refine B8 ?_
 refine B4 rfl (M7 (parts:=[(0,.const (.int .i64 4))]) (pps:=[(0,.sc (.int .i64 4))]) (qs:=[.sc (.int .i64 4),.sc (.int .i64 0),.sc (.int .i64 0),.sc (.int .u32 0),.sc (.bool false),.sc (.int .i64 0),.sc (.bool false),.sc (.bool false),.sc (.int .i64 0),.sc (.bool false),.sc (.bool false),.sc (.bool false),.sc (.int .i64 0),.sc (.slice none 0 0),.sc (.int .i64 0),.sc (.slice none 0 0),.sc (.int .u32 0),.sc (.int .i64 0),.sc (.int .i64 0),.sc (.slice none 0 0),.sc (.slice none 0 0),.sc (.slice none 0 0),.sc (.int .i64 0),.sc (.int .i64 0),.sc (.slice none 0 0)]) rfl rfl rfl A1g rfl rfl (by kernel_rfl)) ?_
 refine B4 rfl (I1 (fn:=Tryz.f29) (xs:=[.tmp 6]) (args:=[.agg [.sc (.int .i64 4),.sc (.int .i64 0),.sc (.int .i64 0),.sc (.int .u32 0),.sc (.bool false),.sc (.int .i64 0),.sc (.bool false),.sc (.bool false),.sc (.int .i64 0),.sc (.bool false),.sc (.bool false),.sc (.bool false),.sc (.int .i64 0),.sc (.slice none 0 0),.sc (.int .i64 0),.sc (.slice none 0 0),.sc (.int .u32 0),.sc (.int .i64 0),.sc (.int .i64 0),.sc (.slice none 0 0),.sc (.slice none 0 0),.sc (.slice none 0 0),.sc (.int .i64 0),.sc (.int .i64 0),.sc (.slice none 0 0)]]) (r:=.sem (SL (eI .u8) (D6 (⟨4,(⟨0,0,0,(⟨false,0,false,false,0,false,false,false,0⟩:B0)⟩:D1),(⟨[],(⟨0,[],0,0,0,[],[]⟩:A5),[]⟩:A4),(⟨0,0,[]⟩:A3)⟩:A8)))) rfl rfl rfl Tryz.func29 rfl rfl rfl rfl rfl (f9 (A3O (⟨4,(⟨0,0,0,(⟨false,0,false,false,0,false,false,false,0⟩:B0)⟩:D1),(⟨[],(⟨0,[],0,0,0,[],[]⟩:A5),[]⟩:A4),(⟨0,0,[]⟩:A3)⟩:A8) (by first | assumption | rfl) (by first | assumption | rfl) (by first | assumption | (simp; done) | omega | (show List.length _ ≤ _; simp only [List.length_replicate,D2,B5]; omega))) (.cons (.agg (.cons (.rfl _) (.cons (.rfl _) (.cons (.rfl _) (.cons (.rfl _) (.cons (.rfl _) (.cons (.rfl _) (.cons (.rfl _) (.cons (.rfl _) (.cons (.rfl _) (.cons (.rfl _) (.cons (.rfl _) (.cons (.rfl _) (.cons (.rfl _) (.cons (.nil _) (.cons (.rfl _) (.cons (.nil _) (.cons (.rfl _) (.cons (.rfl _) (.cons (.rfl _) (.cons (.nil _) (.cons (.nil _) (.cons (.nil _) (.cons (.rfl _) (.cons (.rfl _) (.cons (.nil _) .nil)))))))))))))))))))))))))) .nil))) ?_
 refine B4 rfl (C7 (p:=.sem (SL (eI .u8) (D6 (⟨4,(⟨0,0,0,(⟨false,0,false,false,0,false,false,false,0⟩:B0)⟩:D1),(⟨[],(⟨0,[],0,0,0,[],[]⟩:A5),[]⟩:A4),(⟨0,0,[]⟩:A3)⟩:A8)))) rfl rfl rfl rfl) ?_
 refine D4 ?_
 refine C6 ?_
 refine B8 ?_
 refine B4 rfl (C2 (p:=.sem (SL (eI .u8) (D6 (⟨4,(⟨0,0,0,(⟨false,0,false,false,0,false,false,false,0⟩:B0)⟩:D1),(⟨[],(⟨0,[],0,0,0,[],[]⟩:A5),[]⟩:A4),(⟨0,0,[]⟩:A3)⟩:A8)))) rfl rfl rfl rfl) ?_
 refine B4 rfl (I1 (fn:=Tryz.f16) (xs:=[.tmp 9]) (args:=[.sem (SL (eI .u8) (D6 (⟨4,(⟨0,0,0,(⟨false,0,false,false,0,false,false,false,0⟩:B0)⟩:D1),(⟨[],(⟨0,[],0,0,0,[],[]⟩:A5),[]⟩:A4),(⟨0,0,[]⟩:A3)⟩:A8)))]) (r:=.tup [.agg (A8.cells ((F1 (D6 (⟨4,(⟨0,0,0,(⟨false,0,false,false,0,false,false,false,0⟩:B0)⟩:D1),(⟨[],(⟨0,[],0,0,0,[],[]⟩:A5),[]⟩:A4),(⟨0,0,[]⟩:A3)⟩:A8))).1)),.agg (A3.cells ((F1 (D6 (⟨4,(⟨0,0,0,(⟨false,0,false,false,0,false,false,false,0⟩:B0)⟩:D1),(⟨[],(⟨0,[],0,0,0,[],[]⟩:A5),[]⟩:A4),(⟨0,0,[]⟩:A3)⟩:A8))).2))]) rfl rfl rfl Tryz.func16 rfl rfl rfl rfl rfl (A2H (D6 (⟨4,(⟨0,0,0,(⟨false,0,false,false,0,false,false,false,0⟩:B0)⟩:D1),(⟨[],(⟨0,[],0,0,0,[],[]⟩:A5),[]⟩:A4),(⟨0,0,[]⟩:A3)⟩:A8)) (by first | assumption | kernel_rfl | decide) (by first | assumption | kernel_rfl | decide) (by first | assumption | kernel_rfl | decide) (by first | assumption | kernel_rfl | decide))) ?_
 refine B4 rfl (C2 (p:=.tup [.agg (A8.cells ((F1 (D6 (⟨4,(⟨0,0,0,(⟨false,0,false,false,0,false,false,false,0⟩:B0)⟩:D1),(⟨[],(⟨0,[],0,0,0,[],[]⟩:A5),[]⟩:A4),(⟨0,0,[]⟩:A3)⟩:A8))).1)),.agg (A3.cells ((F1 (D6 (⟨4,(⟨0,0,0,(⟨false,0,false,false,0,false,false,false,0⟩:B0)⟩:D1),(⟨[],(⟨0,[],0,0,0,[],[]⟩:A5),[]⟩:A4),(⟨0,0,[]⟩:A3)⟩:A8))).2))]) rfl rfl rfl rfl) ?_
 refine B4 rfl (I2 (ps:=[.agg (A8.cells ((F1 (D6 (⟨4,(⟨0,0,0,(⟨false,0,false,false,0,false,false,false,0⟩:B0)⟩:D1),(⟨[],(⟨0,[],0,0,0,[],[]⟩:A5),[]⟩:A4),(⟨0,0,[]⟩:A3)⟩:A8))).1)),.agg (A3.cells ((F1 (D6 (⟨4,(⟨0,0,0,(⟨false,0,false,false,0,false,false,false,0⟩:B0)⟩:D1),(⟨[],(⟨0,[],0,0,0,[],[]⟩:A5),[]⟩:A4),(⟨0,0,[]⟩:A3)⟩:A8))).2))]) (p:=.agg (A8.cells ((F1 (D6 (⟨4,(⟨0,0,0,(⟨false,0,false,false,0,false,false,false,0⟩:B0)⟩:D1),(⟨[],(⟨0,[],0,0,0,[],[]⟩:A5),[]⟩:A4),(⟨0,0,[]⟩:A3)⟩:A8))).1))) rfl rfl rfl rfl rfl) ?_
 refine B4 rfl (I2 (ps:=[.agg (A8.cells ((F1 (D6 (⟨4,(⟨0,0,0,(⟨false,0,false,false,0,false,false,false,0⟩:B0)⟩:D1),(⟨[],(⟨0,[],0,0,0,[],[]⟩:A5),[]⟩:A4),(⟨0,0,[]⟩:A3)⟩:A8))).1)),.agg (A3.cells ((F1 (D6 (⟨4,(⟨0,0,0,(⟨false,0,false,false,0,false,false,false,0⟩:B0)⟩:D1),(⟨[],(⟨0,[],0,0,0,[],[]⟩:A5),[]⟩:A4),(⟨0,0,[]⟩:A3)⟩:A8))).2))]) (p:=.agg (A3.cells ((F1 (D6 (⟨4,(⟨0,0,0,(⟨false,0,false,false,0,false,false,false,0⟩:B0)⟩:D1),(⟨[],(⟨0,[],0,0,0,[],[]⟩:A5),[]⟩:A4),(⟨0,0,[]⟩:A3)⟩:A8))).2))) rfl rfl rfl rfl rfl) ?_
 refine B4 rfl (L2 (s:=2) (z:=A5B) (qs:=N1) rfl rfl rfl rfl z43 rfl rfl) ?_
 refine B4 rfl (L2 (s:=3) (z:=A0r) (qs:=J3) rfl rfl rfl rfl z41 rfl rfl) ?_
 refine B4 rfl (G5 (s:=2) (off:=0) (ps:=N1) (p:=.agg (A8.cells ((F1 (D6 (⟨4,(⟨0,0,0,(⟨false,0,false,false,0,false,false,false,0⟩:B0)⟩:D1),(⟨[],(⟨0,[],0,0,0,[],[]⟩:A5),[]⟩:A4),(⟨0,0,[]⟩:A3)⟩:A8))).1))) (qs:=(A8.cells ((F1 (D6 (⟨4,(⟨0,0,0,(⟨false,0,false,false,0,false,false,false,0⟩:B0)⟩:D1),(⟨[],(⟨0,[],0,0,0,[],[]⟩:A5),[]⟩:A4),(⟨0,0,[]⟩:A3)⟩:A8))).1))) rfl rfl X7 rfl rfl rfl rfl rfl rfl rfl) ?_
 refine B4 rfl (G5 (s:=3) (off:=0) (ps:=J3) (p:=.agg (A3.cells ((F1 (D6 (⟨4,(⟨0,0,0,(⟨false,0,false,false,0,false,false,false,0⟩:B0)⟩:D1),(⟨[],(⟨0,[],0,0,0,[],[]⟩:A5),[]⟩:A4),(⟨0,0,[]⟩:A3)⟩:A8))).2))) (qs:=(A3.cells ((F1 (D6 (⟨4,(⟨0,0,0,(⟨false,0,false,false,0,false,false,false,0⟩:B0)⟩:D1),(⟨[],(⟨0,[],0,0,0,[],[]⟩:A5),[]⟩:A4),(⟨0,0,[]⟩:A3)⟩:A8))).2))) rfl rfl M5 rfl rfl rfl rfl rfl rfl rfl) ?_
 refine D4 ?_
 refine C6 ?_
 refine B8 ?_
 refine B4 rfl (C2 (p:=.sem (SL (eI .u8) (D6 (⟨4,(⟨0,0,0,(⟨false,0,false,false,0,false,false,false,0⟩:B0)⟩:D1),(⟨[],(⟨0,[],0,0,0,[],[]⟩:A5),[]⟩:A4),(⟨0,0,[]⟩:A3)⟩:A8)))) rfl rfl rfl rfl) ?_
 refine B4 rfl (I1 (fn:=Tryz.f20) (xs:=[.tmp 14]) (args:=[.sem (SL (eI .u8) (D6 (⟨4,(⟨0,0,0,(⟨false,0,false,false,0,false,false,false,0⟩:B0)⟩:D1),(⟨[],(⟨0,[],0,0,0,[],[]⟩:A5),[]⟩:A4),(⟨0,0,[]⟩:A3)⟩:A8)))]) (r:=.tup [.sc (.int .i64 ((E1 (D6 (⟨4,(⟨0,0,0,(⟨false,0,false,false,0,false,false,false,0⟩:B0)⟩:D1),(⟨[],(⟨0,[],0,0,0,[],[]⟩:A5),[]⟩:A4),(⟨0,0,[]⟩:A3)⟩:A8))).1)),.agg (A3.cells ((E1 (D6 (⟨4,(⟨0,0,0,(⟨false,0,false,false,0,false,false,false,0⟩:B0)⟩:D1),(⟨[],(⟨0,[],0,0,0,[],[]⟩:A5),[]⟩:A4),(⟨0,0,[]⟩:A3)⟩:A8))).2))]) rfl rfl rfl Tryz.func20 rfl rfl rfl rfl rfl (s6 (D6 (⟨4,(⟨0,0,0,(⟨false,0,false,false,0,false,false,false,0⟩:B0)⟩:D1),(⟨[],(⟨0,[],0,0,0,[],[]⟩:A5),[]⟩:A4),(⟨0,0,[]⟩:A3)⟩:A8)))) ?_
 refine B4 rfl (C2 (p:=.tup [.sc (.int .i64 ((E1 (D6 (⟨4,(⟨0,0,0,(⟨false,0,false,false,0,false,false,false,0⟩:B0)⟩:D1),(⟨[],(⟨0,[],0,0,0,[],[]⟩:A5),[]⟩:A4),(⟨0,0,[]⟩:A3)⟩:A8))).1)),.agg (A3.cells ((E1 (D6 (⟨4,(⟨0,0,0,(⟨false,0,false,false,0,false,false,false,0⟩:B0)⟩:D1),(⟨[],(⟨0,[],0,0,0,[],[]⟩:A5),[]⟩:A4),(⟨0,0,[]⟩:A3)⟩:A8))).2))]) rfl rfl rfl rfl) ?_
 refine B4 rfl (I2 (ps:=[.sc (.int .i64 ((E1 (D6 (⟨4,(⟨0,0,0,(⟨false,0,false,false,0,false,false,false,0⟩:B0)⟩:D1),(⟨[],(⟨0,[],0,0,0,[],[]⟩:A5),[]⟩:A4),(⟨0,0,[]⟩:A3)⟩:A8))).1)),.agg (A3.cells ((E1 (D6 (⟨4,(⟨0,0,0,(⟨false,0,false,false,0,false,false,false,0⟩:B0)⟩:D1),(⟨[],(⟨0,[],0,0,0,[],[]⟩:A5),[]⟩:A4),(⟨0,0,[]⟩:A3)⟩:A8))).2))]) (p:=.sc (.int .i64 ((E1 (D6 (⟨4,(⟨0,0,0,(⟨false,0,false,false,0,false,false,false,0⟩:B0)⟩:D1),(⟨[],(⟨0,[],0,0,0,[],[]⟩:A5),[]⟩:A4),(⟨0,0,[]⟩:A3)⟩:A8))).1))) rfl rfl rfl rfl rfl) ?_
 refine B4 rfl (I2 (ps:=[.sc (.int .i64 ((E1 (D6 (⟨4,(⟨0,0,0,(⟨false,0,false,false,0,false,false,false,0⟩:B0)⟩:D1),(⟨[],(⟨0,[],0,0,0,[],[]⟩:A5),[]⟩:A4),(⟨0,0,[]⟩:A3)⟩:A8))).1)),.agg (A3.cells ((E1 (D6 (⟨4,(⟨0,0,0,(⟨false,0,false,false,0,false,false,false,0⟩:B0)⟩:D1),(⟨[],(⟨0,[],0,0,0,[],[]⟩:A5),[]⟩:A4),(⟨0,0,[]⟩:A3)⟩:A8))).2))]) (p:=.agg (A3.cells ((E1 (D6 (⟨4,(⟨0,0,0,(⟨false,0,false,false,0,false,false,false,0⟩:B0)⟩:D1),(⟨[],(⟨0,[],0,0,0,[],[]⟩:A5),[]⟩:A4),(⟨0,0,[]⟩:A3)⟩:A8))).2))) rfl rfl rfl rfl rfl) ?_
 refine B4 rfl (L2 (s:=5) (z:=A0r) (qs:=J3) rfl rfl rfl rfl z41 rfl rfl) ?_
 refine B4 rfl (C7 (p:=.sc (.int .i64 ((E1 (D6 (⟨4,(⟨0,0,0,(⟨false,0,false,false,0,false,false,false,0⟩:B0)⟩:D1),(⟨[],(⟨0,[],0,0,0,[],[]⟩:A5),[]⟩:A4),(⟨0,0,[]⟩:A3)⟩:A8))).1))) rfl rfl rfl rfl) ?_
 refine B4 rfl (G5 (s:=5) (off:=0) (ps:=J3) (p:=.agg (A3.cells ((E1 (D6 (⟨4,(⟨0,0,0,(⟨false,0,false,false,0,false,false,false,0⟩:B0)⟩:D1),(⟨[],(⟨0,[],0,0,0,[],[]⟩:A5),[]⟩:A4),(⟨0,0,[]⟩:A3)⟩:A8))).2))) (qs:=(A3.cells ((E1 (D6 (⟨4,(⟨0,0,0,(⟨false,0,false,false,0,false,false,false,0⟩:B0)⟩:D1),(⟨[],(⟨0,[],0,0,0,[],[]⟩:A5),[]⟩:A4),(⟨0,0,[]⟩:A3)⟩:A8))).2))) rfl rfl M5 rfl rfl rfl rfl rfl rfl rfl) ?_
 refine D4 ?_
 refine C6 ?_
 refine B8 ?_
 refine B4 rfl (C2 (p:=.sem (SL (eI .u8) (D6 (⟨4,(⟨0,0,0,(⟨false,0,false,false,0,false,false,false,0⟩:B0)⟩:D1),(⟨[],(⟨0,[],0,0,0,[],[]⟩:A5),[]⟩:A4),(⟨0,0,[]⟩:A3)⟩:A8)))) rfl rfl rfl rfl) ?_
 refine B4 rfl (L6 rfl rfl rfl Tryz.underlying22 (E3 rfl)) ?_
 refine B4 rfl (E6 (u1:=.int .i64 ((D6 (⟨4,(⟨0,0,0,(⟨false,0,false,false,0,false,false,false,0⟩:B0)⟩:D1),(⟨[],(⟨0,[],0,0,0,[],[]⟩:A5),[]⟩:A4),(⟨0,0,[]⟩:A3)⟩:A8)).length:Int)) (u2:=.int .i64 19) (v:=.bool (decide ((((D6 (⟨4,(⟨0,0,0,(⟨false,0,false,false,0,false,false,false,0⟩:B0)⟩:D1),(⟨[],(⟨0,[],0,0,0,[],[]⟩:A5),[]⟩:A4),(⟨0,0,[]⟩:A3)⟩:A8)).length:Int):Int)=19))) rfl rfl rfl rfl rfl (fun _=>rfl)) ?_
 refine B4 rfl (C2 (p:=.sc (.bool (decide ((((D6 (⟨4,(⟨0,0,0,(⟨false,0,false,false,0,false,false,false,0⟩:B0)⟩:D1),(⟨[],(⟨0,[],0,0,0,[],[]⟩:A5),[]⟩:A4),(⟨0,0,[]⟩:A3)⟩:A8)).length:Int):Int)=19)))) rfl rfl rfl rfl) ?_
 refine E0 (C:=decide ((((D6 (⟨4,(⟨0,0,0,(⟨false,0,false,false,0,false,false,false,0⟩:B0)⟩:D1),(⟨[],(⟨0,[],0,0,0,[],[]⟩:A5),[]⟩:A4),(⟨0,0,[]⟩:A3)⟩:A8)).length:Int):Int)=19)) (p:=.loc 3 0) (G6 rfl rfl rfl rfl rfl) rfl rfl (fun g1=>D3 (b:=3) (k:=0) (m:=0) rfl rfl rfl Q9 rfl rfl) ?_
 refine E0 (C:=decide ((((D6 (⟨4,(⟨0,0,0,(⟨false,0,false,false,0,false,false,false,0⟩:B0)⟩:D1),(⟨[],(⟨0,[],0,0,0,[],[]⟩:A5),[]⟩:A4),(⟨0,0,[]⟩:A3)⟩:A8)).length:Int):Int)=19)) (p:=.sc (.int .i64 (((F1 (D6 (⟨4,(⟨0,0,0,(⟨false,0,false,false,0,false,false,false,0⟩:B0)⟩:D1),(⟨[],(⟨0,[],0,0,0,[],[]⟩:A5),[]⟩:A4),(⟨0,0,[]⟩:A3)⟩:A8))).2).fCode))) (G6 rfl rfl rfl rfl rfl) rfl rfl (fun g2=>F4 (s:=3) (off:=0) (ps:=(A3.cells ((F1 (D6 (⟨4,(⟨0,0,0,(⟨false,0,false,false,0,false,false,false,0⟩:B0)⟩:D1),(⟨[],(⟨0,[],0,0,0,[],[]⟩:A5),[]⟩:A4),(⟨0,0,[]⟩:A3)⟩:A8))).2))) (p:=.sc (.int .i64 (((F1 (D6 (⟨4,(⟨0,0,0,(⟨false,0,false,false,0,false,false,false,0⟩:B0)⟩:D1),(⟨[],(⟨0,[],0,0,0,[],[]⟩:A5),[]⟩:A4),(⟨0,0,[]⟩:A3)⟩:A8))).2).fCode))) rfl rfl rfl ty3 (gt (p:=.loc 3 0) (q:=.sc undef) g2) rfl rfl rfl rfl) ?_
 refine E0 (C:=decide ((((D6 (⟨4,(⟨0,0,0,(⟨false,0,false,false,0,false,false,false,0⟩:B0)⟩:D1),(⟨[],(⟨0,[],0,0,0,[],[]⟩:A5),[]⟩:A4),(⟨0,0,[]⟩:A3)⟩:A8)).length:Int):Int)=19)) (p:=.sc (.bool (decide ((((F1 (D6 (⟨4,(⟨0,0,0,(⟨false,0,false,false,0,false,false,false,0⟩:B0)⟩:D1),(⟨[],(⟨0,[],0,0,0,[],[]⟩:A5),[]⟩:A4),(⟨0,0,[]⟩:A3)⟩:A8))).2).fCode:Int)=0)))) (G6 rfl rfl rfl rfl rfl) rfl rfl (fun g3=>E6 (u1:=.int .i64 (((F1 (D6 (⟨4,(⟨0,0,0,(⟨false,0,false,false,0,false,false,false,0⟩:B0)⟩:D1),(⟨[],(⟨0,[],0,0,0,[],[]⟩:A5),[]⟩:A4),(⟨0,0,[]⟩:A3)⟩:A8))).2).fCode)) (u2:=.int .i64 0) (v:=.bool (decide ((((F1 (D6 (⟨4,(⟨0,0,0,(⟨false,0,false,false,0,false,false,false,0⟩:B0)⟩:D1),(⟨[],(⟨0,[],0,0,0,[],[]⟩:A5),[]⟩:A4),(⟨0,0,[]⟩:A3)⟩:A8))).2).fCode:Int)=0))) rfl rfl rfl (gt (p:=.sc (.int .i64 (((F1 (D6 (⟨4,(⟨0,0,0,(⟨false,0,false,false,0,false,false,false,0⟩:B0)⟩:D1),(⟨[],(⟨0,[],0,0,0,[],[]⟩:A5),[]⟩:A4),(⟨0,0,[]⟩:A3)⟩:A8))).2).fCode))) (q:=.sc undef) g3) rfl (fun _=>rfl)) ?_
 refine B4 rfl (J1 (b:=decide ((((D6 (⟨4,(⟨0,0,0,(⟨false,0,false,false,0,false,false,false,0⟩:B0)⟩:D1),(⟨[],(⟨0,[],0,0,0,[],[]⟩:A5),[]⟩:A4),(⟨0,0,[]⟩:A3)⟩:A8)).length:Int):Int)=19)) (y:=decide ((((F1 (D6 (⟨4,(⟨0,0,0,(⟨false,0,false,false,0,false,false,false,0⟩:B0)⟩:D1),(⟨[],(⟨0,[],0,0,0,[],[]⟩:A5),[]⟩:A4),(⟨0,0,[]⟩:A3)⟩:A8))).2).fCode:Int)=0)) rfl rfl rfl rfl rfl) ?_
 refine B4 rfl (C2 (p:=.sc (.bool ((decide ((((D6 (⟨4,(⟨0,0,0,(⟨false,0,false,false,0,false,false,false,0⟩:B0)⟩:D1),(⟨[],(⟨0,[],0,0,0,[],[]⟩:A5),[]⟩:A4),(⟨0,0,[]⟩:A3)⟩:A8)).length:Int):Int)=19)) && (decide ((((F1 (D6 (⟨4,(⟨0,0,0,(⟨false,0,false,false,0,false,false,false,0⟩:B0)⟩:D1),(⟨[],(⟨0,[],0,0,0,[],[]⟩:A5),[]⟩:A4),(⟨0,0,[]⟩:A3)⟩:A8))).2).fCode:Int)=0))))) rfl rfl rfl rfl) ?_
 refine E0 (C:=(decide ((((D6 (⟨4,(⟨0,0,0,(⟨false,0,false,false,0,false,false,false,0⟩:B0)⟩:D1),(⟨[],(⟨0,[],0,0,0,[],[]⟩:A5),[]⟩:A4),(⟨0,0,[]⟩:A3)⟩:A8)).length:Int):Int)=19)) && (decide ((((F1 (D6 (⟨4,(⟨0,0,0,(⟨false,0,false,false,0,false,false,false,0⟩:B0)⟩:D1),(⟨[],(⟨0,[],0,0,0,[],[]⟩:A5),[]⟩:A4),(⟨0,0,[]⟩:A3)⟩:A8))).2).fCode:Int)=0))) (p:=.loc 2 0) (G6 rfl rfl rfl rfl rfl) rfl rfl (fun g4=>D3 (b:=2) (k:=0) (m:=0) rfl rfl rfl X5 rfl rfl) ?_
 refine E0 (C:=(decide ((((D6 (⟨4,(⟨0,0,0,(⟨false,0,false,false,0,false,false,false,0⟩:B0)⟩:D1),(⟨[],(⟨0,[],0,0,0,[],[]⟩:A5),[]⟩:A4),(⟨0,0,[]⟩:A3)⟩:A8)).length:Int):Int)=19)) && (decide ((((F1 (D6 (⟨4,(⟨0,0,0,(⟨false,0,false,false,0,false,false,false,0⟩:B0)⟩:D1),(⟨[],(⟨0,[],0,0,0,[],[]⟩:A5),[]⟩:A4),(⟨0,0,[]⟩:A3)⟩:A8))).2).fCode:Int)=0))) (p:=.sc (.int .i64 (((F1 (D6 (⟨4,(⟨0,0,0,(⟨false,0,false,false,0,false,false,false,0⟩:B0)⟩:D1),(⟨[],(⟨0,[],0,0,0,[],[]⟩:A5),[]⟩:A4),(⟨0,0,[]⟩:A3)⟩:A8))).1).fKind))) (G6 rfl rfl rfl rfl rfl) rfl rfl (fun g5=>F4 (s:=2) (off:=0) (ps:=(A8.cells ((F1 (D6 (⟨4,(⟨0,0,0,(⟨false,0,false,false,0,false,false,false,0⟩:B0)⟩:D1),(⟨[],(⟨0,[],0,0,0,[],[]⟩:A5),[]⟩:A4),(⟨0,0,[]⟩:A3)⟩:A8))).1))) (p:=.sc (.int .i64 (((F1 (D6 (⟨4,(⟨0,0,0,(⟨false,0,false,false,0,false,false,false,0⟩:B0)⟩:D1),(⟨[],(⟨0,[],0,0,0,[],[]⟩:A5),[]⟩:A4),(⟨0,0,[]⟩:A3)⟩:A8))).1).fKind))) rfl rfl rfl ty3 (gt (p:=.loc 2 0) (q:=.sc undef) g5) rfl rfl rfl rfl) ?_
 refine E0 (C:=(decide ((((D6 (⟨4,(⟨0,0,0,(⟨false,0,false,false,0,false,false,false,0⟩:B0)⟩:D1),(⟨[],(⟨0,[],0,0,0,[],[]⟩:A5),[]⟩:A4),(⟨0,0,[]⟩:A3)⟩:A8)).length:Int):Int)=19)) && (decide ((((F1 (D6 (⟨4,(⟨0,0,0,(⟨false,0,false,false,0,false,false,false,0⟩:B0)⟩:D1),(⟨[],(⟨0,[],0,0,0,[],[]⟩:A5),[]⟩:A4),(⟨0,0,[]⟩:A3)⟩:A8))).2).fCode:Int)=0))) (p:=.sc (.bool (decide ((((F1 (D6 (⟨4,(⟨0,0,0,(⟨false,0,false,false,0,false,false,false,0⟩:B0)⟩:D1),(⟨[],(⟨0,[],0,0,0,[],[]⟩:A5),[]⟩:A4),(⟨0,0,[]⟩:A3)⟩:A8))).1).fKind:Int)=4)))) (G6 rfl rfl rfl rfl rfl) rfl rfl (fun g6=>E6 (u1:=.int .i64 (((F1 (D6 (⟨4,(⟨0,0,0,(⟨false,0,false,false,0,false,false,false,0⟩:B0)⟩:D1),(⟨[],(⟨0,[],0,0,0,[],[]⟩:A5),[]⟩:A4),(⟨0,0,[]⟩:A3)⟩:A8))).1).fKind)) (u2:=.int .i64 4) (v:=.bool (decide ((((F1 (D6 (⟨4,(⟨0,0,0,(⟨false,0,false,false,0,false,false,false,0⟩:B0)⟩:D1),(⟨[],(⟨0,[],0,0,0,[],[]⟩:A5),[]⟩:A4),(⟨0,0,[]⟩:A3)⟩:A8))).1).fKind:Int)=4))) rfl rfl rfl (gt (p:=.sc (.int .i64 (((F1 (D6 (⟨4,(⟨0,0,0,(⟨false,0,false,false,0,false,false,false,0⟩:B0)⟩:D1),(⟨[],(⟨0,[],0,0,0,[],[]⟩:A5),[]⟩:A4),(⟨0,0,[]⟩:A3)⟩:A8))).1).fKind))) (q:=.sc undef) g6) rfl (fun _=>rfl)) ?_
 refine B4 rfl (J1 (b:=(decide ((((D6 (⟨4,(⟨0,0,0,(⟨false,0,false,false,0,false,false,false,0⟩:B0)⟩:D1),(⟨[],(⟨0,[],0,0,0,[],[]⟩:A5),[]⟩:A4),(⟨0,0,[]⟩:A3)⟩:A8)).length:Int):Int)=19)) && (decide ((((F1 (D6 (⟨4,(⟨0,0,0,(⟨false,0,false,false,0,false,false,false,0⟩:B0)⟩:D1),(⟨[],(⟨0,[],0,0,0,[],[]⟩:A5),[]⟩:A4),(⟨0,0,[]⟩:A3)⟩:A8))).2).fCode:Int)=0))) (y:=decide ((((F1 (D6 (⟨4,(⟨0,0,0,(⟨false,0,false,false,0,false,false,false,0⟩:B0)⟩:D1),(⟨[],(⟨0,[],0,0,0,[],[]⟩:A5),[]⟩:A4),(⟨0,0,[]⟩:A3)⟩:A8))).1).fKind:Int)=4)) rfl rfl rfl rfl rfl) ?_
 refine B4 rfl (C2 (p:=.sc (.bool (((decide ((((D6 (⟨4,(⟨0,0,0,(⟨false,0,false,false,0,false,false,false,0⟩:B0)⟩:D1),(⟨[],(⟨0,[],0,0,0,[],[]⟩:A5),[]⟩:A4),(⟨0,0,[]⟩:A3)⟩:A8)).length:Int):Int)=19)) && (decide ((((F1 (D6 (⟨4,(⟨0,0,0,(⟨false,0,false,false,0,false,false,false,0⟩:B0)⟩:D1),(⟨[],(⟨0,[],0,0,0,[],[]⟩:A5),[]⟩:A4),(⟨0,0,[]⟩:A3)⟩:A8))).2).fCode:Int)=0))) && (decide ((((F1 (D6 (⟨4,(⟨0,0,0,(⟨false,0,false,false,0,false,false,false,0⟩:B0)⟩:D1),(⟨[],(⟨0,[],0,0,0,[],[]⟩:A5),[]⟩:A4),(⟨0,0,[]⟩:A3)⟩:A8))).1).fKind:Int)=4))))) rfl rfl rfl rfl) ?_
 refine E0 (C:=((decide ((((D6 (⟨4,(⟨0,0,0,(⟨false,0,false,false,0,false,false,false,0⟩:B0)⟩:D1),(⟨[],(⟨0,[],0,0,0,[],[]⟩:A5),[]⟩:A4),(⟨0,0,[]⟩:A3)⟩:A8)).length:Int):Int)=19)) && (decide ((((F1 (D6 (⟨4,(⟨0,0,0,(⟨false,0,false,false,0,false,false,false,0⟩:B0)⟩:D1),(⟨[],(⟨0,[],0,0,0,[],[]⟩:A5),[]⟩:A4),(⟨0,0,[]⟩:A3)⟩:A8))).2).fCode:Int)=0))) && (decide ((((F1 (D6 (⟨4,(⟨0,0,0,(⟨false,0,false,false,0,false,false,false,0⟩:B0)⟩:D1),(⟨[],(⟨0,[],0,0,0,[],[]⟩:A5),[]⟩:A4),(⟨0,0,[]⟩:A3)⟩:A8))).1).fKind:Int)=4))) (p:=.sc (.int .i64 ((E1 (D6 (⟨4,(⟨0,0,0,(⟨false,0,false,false,0,false,false,false,0⟩:B0)⟩:D1),(⟨[],(⟨0,[],0,0,0,[],[]⟩:A5),[]⟩:A4),(⟨0,0,[]⟩:A3)⟩:A8))).1))) (G6 rfl rfl rfl rfl rfl) rfl rfl (fun g7=>C2 (p:=.sc (.int .i64 ((E1 (D6 (⟨4,(⟨0,0,0,(⟨false,0,false,false,0,false,false,false,0⟩:B0)⟩:D1),(⟨[],(⟨0,[],0,0,0,[],[]⟩:A5),[]⟩:A4),(⟨0,0,[]⟩:A3)⟩:A8))).1))) rfl rfl rfl rfl) ?_
 refine E0 (C:=((decide ((((D6 (⟨4,(⟨0,0,0,(⟨false,0,false,false,0,false,false,false,0⟩:B0)⟩:D1),(⟨[],(⟨0,[],0,0,0,[],[]⟩:A5),[]⟩:A4),(⟨0,0,[]⟩:A3)⟩:A8)).length:Int):Int)=19)) && (decide ((((F1 (D6 (⟨4,(⟨0,0,0,(⟨false,0,false,false,0,false,false,false,0⟩:B0)⟩:D1),(⟨[],(⟨0,[],0,0,0,[],[]⟩:A5),[]⟩:A4),(⟨0,0,[]⟩:A3)⟩:A8))).2).fCode:Int)=0))) && (decide ((((F1 (D6 (⟨4,(⟨0,0,0,(⟨false,0,false,false,0,false,false,false,0⟩:B0)⟩:D1),(⟨[],(⟨0,[],0,0,0,[],[]⟩:A5),[]⟩:A4),(⟨0,0,[]⟩:A3)⟩:A8))).1).fKind:Int)=4))) (p:=.sc (.bool (decide (((E1 (D6 (⟨4,(⟨0,0,0,(⟨false,0,false,false,0,false,false,false,0⟩:B0)⟩:D1),(⟨[],(⟨0,[],0,0,0,[],[]⟩:A5),[]⟩:A4),(⟨0,0,[]⟩:A3)⟩:A8))).1:Int)=19)))) (G6 rfl rfl rfl rfl rfl) rfl rfl (fun g8=>E6 (u1:=.int .i64 ((E1 (D6 (⟨4,(⟨0,0,0,(⟨false,0,false,false,0,false,false,false,0⟩:B0)⟩:D1),(⟨[],(⟨0,[],0,0,0,[],[]⟩:A5),[]⟩:A4),(⟨0,0,[]⟩:A3)⟩:A8))).1)) (u2:=.int .i64 19) (v:=.bool (decide (((E1 (D6 (⟨4,(⟨0,0,0,(⟨false,0,false,false,0,false,false,false,0⟩:B0)⟩:D1),(⟨[],(⟨0,[],0,0,0,[],[]⟩:A5),[]⟩:A4),(⟨0,0,[]⟩:A3)⟩:A8))).1:Int)=19))) rfl rfl rfl (gt (p:=.sc (.int .i64 ((E1 (D6 (⟨4,(⟨0,0,0,(⟨false,0,false,false,0,false,false,false,0⟩:B0)⟩:D1),(⟨[],(⟨0,[],0,0,0,[],[]⟩:A5),[]⟩:A4),(⟨0,0,[]⟩:A3)⟩:A8))).1))) (q:=.sc undef) g8) rfl (fun _=>rfl)) ?_
 refine B4 rfl (J1 (b:=((decide ((((D6 (⟨4,(⟨0,0,0,(⟨false,0,false,false,0,false,false,false,0⟩:B0)⟩:D1),(⟨[],(⟨0,[],0,0,0,[],[]⟩:A5),[]⟩:A4),(⟨0,0,[]⟩:A3)⟩:A8)).length:Int):Int)=19)) && (decide ((((F1 (D6 (⟨4,(⟨0,0,0,(⟨false,0,false,false,0,false,false,false,0⟩:B0)⟩:D1),(⟨[],(⟨0,[],0,0,0,[],[]⟩:A5),[]⟩:A4),(⟨0,0,[]⟩:A3)⟩:A8))).2).fCode:Int)=0))) && (decide ((((F1 (D6 (⟨4,(⟨0,0,0,(⟨false,0,false,false,0,false,false,false,0⟩:B0)⟩:D1),(⟨[],(⟨0,[],0,0,0,[],[]⟩:A5),[]⟩:A4),(⟨0,0,[]⟩:A3)⟩:A8))).1).fKind:Int)=4))) (y:=decide (((E1 (D6 (⟨4,(⟨0,0,0,(⟨false,0,false,false,0,false,false,false,0⟩:B0)⟩:D1),(⟨[],(⟨0,[],0,0,0,[],[]⟩:A5),[]⟩:A4),(⟨0,0,[]⟩:A3)⟩:A8))).1:Int)=19)) rfl rfl rfl rfl rfl) ?_
 refine B4 rfl (C2 (p:=.sc (.bool ((((decide ((((D6 (⟨4,(⟨0,0,0,(⟨false,0,false,false,0,false,false,false,0⟩:B0)⟩:D1),(⟨[],(⟨0,[],0,0,0,[],[]⟩:A5),[]⟩:A4),(⟨0,0,[]⟩:A3)⟩:A8)).length:Int):Int)=19)) && (decide ((((F1 (D6 (⟨4,(⟨0,0,0,(⟨false,0,false,false,0,false,false,false,0⟩:B0)⟩:D1),(⟨[],(⟨0,[],0,0,0,[],[]⟩:A5),[]⟩:A4),(⟨0,0,[]⟩:A3)⟩:A8))).2).fCode:Int)=0))) && (decide ((((F1 (D6 (⟨4,(⟨0,0,0,(⟨false,0,false,false,0,false,false,false,0⟩:B0)⟩:D1),(⟨[],(⟨0,[],0,0,0,[],[]⟩:A5),[]⟩:A4),(⟨0,0,[]⟩:A3)⟩:A8))).1).fKind:Int)=4))) && (decide (((E1 (D6 (⟨4,(⟨0,0,0,(⟨false,0,false,false,0,false,false,false,0⟩:B0)⟩:D1),(⟨[],(⟨0,[],0,0,0,[],[]⟩:A5),[]⟩:A4),(⟨0,0,[]⟩:A3)⟩:A8))).1:Int)=19))))) rfl rfl rfl rfl) ?_
 refine E0 (C:=(((decide ((((D6 (⟨4,(⟨0,0,0,(⟨false,0,false,false,0,false,false,false,0⟩:B0)⟩:D1),(⟨[],(⟨0,[],0,0,0,[],[]⟩:A5),[]⟩:A4),(⟨0,0,[]⟩:A3)⟩:A8)).length:Int):Int)=19)) && (decide ((((F1 (D6 (⟨4,(⟨0,0,0,(⟨false,0,false,false,0,false,false,false,0⟩:B0)⟩:D1),(⟨[],(⟨0,[],0,0,0,[],[]⟩:A5),[]⟩:A4),(⟨0,0,[]⟩:A3)⟩:A8))).2).fCode:Int)=0))) && (decide ((((F1 (D6 (⟨4,(⟨0,0,0,(⟨false,0,false,false,0,false,false,false,0⟩:B0)⟩:D1),(⟨[],(⟨0,[],0,0,0,[],[]⟩:A5),[]⟩:A4),(⟨0,0,[]⟩:A3)⟩:A8))).1).fKind:Int)=4))) && (decide (((E1 (D6 (⟨4,(⟨0,0,0,(⟨false,0,false,false,0,false,false,false,0⟩:B0)⟩:D1),(⟨[],(⟨0,[],0,0,0,[],[]⟩:A5),[]⟩:A4),(⟨0,0,[]⟩:A3)⟩:A8))).1:Int)=19))) (p:=.loc 5 0) (G6 rfl rfl rfl rfl rfl) rfl rfl (fun g9=>D3 (b:=5) (k:=0) (m:=0) rfl rfl rfl Q9 rfl rfl) ?_
 refine E0 (C:=(((decide ((((D6 (⟨4,(⟨0,0,0,(⟨false,0,false,false,0,false,false,false,0⟩:B0)⟩:D1),(⟨[],(⟨0,[],0,0,0,[],[]⟩:A5),[]⟩:A4),(⟨0,0,[]⟩:A3)⟩:A8)).length:Int):Int)=19)) && (decide ((((F1 (D6 (⟨4,(⟨0,0,0,(⟨false,0,false,false,0,false,false,false,0⟩:B0)⟩:D1),(⟨[],(⟨0,[],0,0,0,[],[]⟩:A5),[]⟩:A4),(⟨0,0,[]⟩:A3)⟩:A8))).2).fCode:Int)=0))) && (decide ((((F1 (D6 (⟨4,(⟨0,0,0,(⟨false,0,false,false,0,false,false,false,0⟩:B0)⟩:D1),(⟨[],(⟨0,[],0,0,0,[],[]⟩:A5),[]⟩:A4),(⟨0,0,[]⟩:A3)⟩:A8))).1).fKind:Int)=4))) && (decide (((E1 (D6 (⟨4,(⟨0,0,0,(⟨false,0,false,false,0,false,false,false,0⟩:B0)⟩:D1),(⟨[],(⟨0,[],0,0,0,[],[]⟩:A5),[]⟩:A4),(⟨0,0,[]⟩:A3)⟩:A8))).1:Int)=19))) (p:=.sc (.int .i64 (((E1 (D6 (⟨4,(⟨0,0,0,(⟨false,0,false,false,0,false,false,false,0⟩:B0)⟩:D1),(⟨[],(⟨0,[],0,0,0,[],[]⟩:A5),[]⟩:A4),(⟨0,0,[]⟩:A3)⟩:A8))).2).fCode))) (G6 rfl rfl rfl rfl rfl) rfl rfl (fun g10=>F4 (s:=5) (off:=0) (ps:=(A3.cells ((E1 (D6 (⟨4,(⟨0,0,0,(⟨false,0,false,false,0,false,false,false,0⟩:B0)⟩:D1),(⟨[],(⟨0,[],0,0,0,[],[]⟩:A5),[]⟩:A4),(⟨0,0,[]⟩:A3)⟩:A8))).2))) (p:=.sc (.int .i64 (((E1 (D6 (⟨4,(⟨0,0,0,(⟨false,0,false,false,0,false,false,false,0⟩:B0)⟩:D1),(⟨[],(⟨0,[],0,0,0,[],[]⟩:A5),[]⟩:A4),(⟨0,0,[]⟩:A3)⟩:A8))).2).fCode))) rfl rfl rfl ty3 (gt (p:=.loc 5 0) (q:=.sc undef) g10) rfl rfl rfl rfl) ?_
 refine E0 (C:=(((decide ((((D6 (⟨4,(⟨0,0,0,(⟨false,0,false,false,0,false,false,false,0⟩:B0)⟩:D1),(⟨[],(⟨0,[],0,0,0,[],[]⟩:A5),[]⟩:A4),(⟨0,0,[]⟩:A3)⟩:A8)).length:Int):Int)=19)) && (decide ((((F1 (D6 (⟨4,(⟨0,0,0,(⟨false,0,false,false,0,false,false,false,0⟩:B0)⟩:D1),(⟨[],(⟨0,[],0,0,0,[],[]⟩:A5),[]⟩:A4),(⟨0,0,[]⟩:A3)⟩:A8))).2).fCode:Int)=0))) && (decide ((((F1 (D6 (⟨4,(⟨0,0,0,(⟨false,0,false,false,0,false,false,false,0⟩:B0)⟩:D1),(⟨[],(⟨0,[],0,0,0,[],[]⟩:A5),[]⟩:A4),(⟨0,0,[]⟩:A3)⟩:A8))).1).fKind:Int)=4))) && (decide (((E1 (D6 (⟨4,(⟨0,0,0,(⟨false,0,false,false,0,false,false,false,0⟩:B0)⟩:D1),(⟨[],(⟨0,[],0,0,0,[],[]⟩:A5),[]⟩:A4),(⟨0,0,[]⟩:A3)⟩:A8))).1:Int)=19))) (p:=.sc (.bool (decide ((((E1 (D6 (⟨4,(⟨0,0,0,(⟨false,0,false,false,0,false,false,false,0⟩:B0)⟩:D1),(⟨[],(⟨0,[],0,0,0,[],[]⟩:A5),[]⟩:A4),(⟨0,0,[]⟩:A3)⟩:A8))).2).fCode:Int)=0)))) (G6 rfl rfl rfl rfl rfl) rfl rfl (fun g11=>E6 (u1:=.int .i64 (((E1 (D6 (⟨4,(⟨0,0,0,(⟨false,0,false,false,0,false,false,false,0⟩:B0)⟩:D1),(⟨[],(⟨0,[],0,0,0,[],[]⟩:A5),[]⟩:A4),(⟨0,0,[]⟩:A3)⟩:A8))).2).fCode)) (u2:=.int .i64 0) (v:=.bool (decide ((((E1 (D6 (⟨4,(⟨0,0,0,(⟨false,0,false,false,0,false,false,false,0⟩:B0)⟩:D1),(⟨[],(⟨0,[],0,0,0,[],[]⟩:A5),[]⟩:A4),(⟨0,0,[]⟩:A3)⟩:A8))).2).fCode:Int)=0))) rfl rfl rfl (gt (p:=.sc (.int .i64 (((E1 (D6 (⟨4,(⟨0,0,0,(⟨false,0,false,false,0,false,false,false,0⟩:B0)⟩:D1),(⟨[],(⟨0,[],0,0,0,[],[]⟩:A5),[]⟩:A4),(⟨0,0,[]⟩:A3)⟩:A8))).2).fCode))) (q:=.sc undef) g11) rfl (fun _=>rfl)) ?_
 refine B4 rfl (J1 (b:=(((decide ((((D6 (⟨4,(⟨0,0,0,(⟨false,0,false,false,0,false,false,false,0⟩:B0)⟩:D1),(⟨[],(⟨0,[],0,0,0,[],[]⟩:A5),[]⟩:A4),(⟨0,0,[]⟩:A3)⟩:A8)).length:Int):Int)=19)) && (decide ((((F1 (D6 (⟨4,(⟨0,0,0,(⟨false,0,false,false,0,false,false,false,0⟩:B0)⟩:D1),(⟨[],(⟨0,[],0,0,0,[],[]⟩:A5),[]⟩:A4),(⟨0,0,[]⟩:A3)⟩:A8))).2).fCode:Int)=0))) && (decide ((((F1 (D6 (⟨4,(⟨0,0,0,(⟨false,0,false,false,0,false,false,false,0⟩:B0)⟩:D1),(⟨[],(⟨0,[],0,0,0,[],[]⟩:A5),[]⟩:A4),(⟨0,0,[]⟩:A3)⟩:A8))).1).fKind:Int)=4))) && (decide (((E1 (D6 (⟨4,(⟨0,0,0,(⟨false,0,false,false,0,false,false,false,0⟩:B0)⟩:D1),(⟨[],(⟨0,[],0,0,0,[],[]⟩:A5),[]⟩:A4),(⟨0,0,[]⟩:A3)⟩:A8))).1:Int)=19))) (y:=decide ((((E1 (D6 (⟨4,(⟨0,0,0,(⟨false,0,false,false,0,false,false,false,0⟩:B0)⟩:D1),(⟨[],(⟨0,[],0,0,0,[],[]⟩:A5),[]⟩:A4),(⟨0,0,[]⟩:A3)⟩:A8))).2).fCode:Int)=0)) rfl rfl rfl rfl rfl) ?_
 refine B4 rfl (C7 (p:=.sc (.bool (((((decide ((((D6 (⟨4,(⟨0,0,0,(⟨false,0,false,false,0,false,false,false,0⟩:B0)⟩:D1),(⟨[],(⟨0,[],0,0,0,[],[]⟩:A5),[]⟩:A4),(⟨0,0,[]⟩:A3)⟩:A8)).length:Int):Int)=19)) && (decide ((((F1 (D6 (⟨4,(⟨0,0,0,(⟨false,0,false,false,0,false,false,false,0⟩:B0)⟩:D1),(⟨[],(⟨0,[],0,0,0,[],[]⟩:A5),[]⟩:A4),(⟨0,0,[]⟩:A3)⟩:A8))).2).fCode:Int)=0))) && (decide ((((F1 (D6 (⟨4,(⟨0,0,0,(⟨false,0,false,false,0,false,false,false,0⟩:B0)⟩:D1),(⟨[],(⟨0,[],0,0,0,[],[]⟩:A5),[]⟩:A4),(⟨0,0,[]⟩:A3)⟩:A8))).1).fKind:Int)=4))) && (decide (((E1 (D6 (⟨4,(⟨0,0,0,(⟨false,0,false,false,0,false,false,false,0⟩:B0)⟩:D1),(⟨[],(⟨0,[],0,0,0,[],[]⟩:A5),[]⟩:A4),(⟨0,0,[]⟩:A3)⟩:A8))).1:Int)=19))) && (decide ((((E1 (D6 (⟨4,(⟨0,0,0,(⟨false,0,false,false,0,false,false,false,0⟩:B0)⟩:D1),(⟨[],(⟨0,[],0,0,0,[],[]⟩:A5),[]⟩:A4),(⟨0,0,[]⟩:A3)⟩:A8))).2).fCode:Int)=0))))) rfl rfl rfl rfl) ?_
 refine D4 ?_
 refine G2 ?_
 exact F7 (F:=(fun (z:Bool)=>⟨[],[],.sc (.bool z)⟩)) (z:=E2) (v:=((((decide ((((D6 (⟨4,(⟨0,0,0,(⟨false,0,false,false,0,false,false,false,0⟩:B0)⟩:D1),(⟨[],(⟨0,[],0,0,0,[],[]⟩:A5),[]⟩:A4),(⟨0,0,[]⟩:A3)⟩:A8)).length:Int):Int)=19)) && (decide ((((F1 (D6 (⟨4,(⟨0,0,0,(⟨false,0,false,false,0,false,false,false,0⟩:B0)⟩:D1),(⟨[],(⟨0,[],0,0,0,[],[]⟩:A5),[]⟩:A4),(⟨0,0,[]⟩:A3)⟩:A8))).2).fCode:Int)=0))) && (decide ((((F1 (D6 (⟨4,(⟨0,0,0,(⟨false,0,false,false,0,false,false,false,0⟩:B0)⟩:D1),(⟨[],(⟨0,[],0,0,0,[],[]⟩:A5),[]⟩:A4),(⟨0,0,[]⟩:A3)⟩:A8))).1).fKind:Int)=4))) && (decide (((E1 (D6 (⟨4,(⟨0,0,0,(⟨false,0,false,false,0,false,false,false,0⟩:B0)⟩:D1),(⟨[],(⟨0,[],0,0,0,[],[]⟩:A5),[]⟩:A4),(⟨0,0,[]⟩:A3)⟩:A8))).1:Int)=19))) && (decide ((((E1 (D6 (⟨4,(⟨0,0,0,(⟨false,0,false,false,0,false,false,false,0⟩:B0)⟩:D1),(⟨[],(⟨0,[],0,0,0,[],[]⟩:A5),[]⟩:A4),(⟨0,0,[]⟩:A3)⟩:A8))).2).fCode:Int)=0))) rfl rfl (.one (.tmp 0 (.sc (.bool (((((decide ((((D6 (⟨4,(⟨0,0,0,(⟨false,0,false,false,0,false,false,false,0⟩:B0)⟩:D1),(⟨[],(⟨0,[],0,0,0,[],[]⟩:A5),[]⟩:A4),(⟨0,0,[]⟩:A3)⟩:A8)).length:Int):Int)=19)) && (decide ((((F1 (D6 (⟨4,(⟨0,0,0,(⟨false,0,false,false,0,false,false,false,0⟩:B0)⟩:D1),(⟨[],(⟨0,[],0,0,0,[],[]⟩:A5),[]⟩:A4),(⟨0,0,[]⟩:A3)⟩:A8))).2).fCode:Int)=0))) && (decide ((((F1 (D6 (⟨4,(⟨0,0,0,(⟨false,0,false,false,0,false,false,false,0⟩:B0)⟩:D1),(⟨[],(⟨0,[],0,0,0,[],[]⟩:A5),[]⟩:A4),(⟨0,0,[]⟩:A3)⟩:A8))).1).fKind:Int)=4))) && (decide (((E1 (D6 (⟨4,(⟨0,0,0,(⟨false,0,false,false,0,false,false,false,0⟩:B0)⟩:D1),(⟨[],(⟨0,[],0,0,0,[],[]⟩:A5),[]⟩:A4),(⟨0,0,[]⟩:A3)⟩:A8))).1:Int)=19))) && (decide ((((E1 (D6 (⟨4,(⟨0,0,0,(⟨false,0,false,false,0,false,false,false,0⟩:B0)⟩:D1),(⟨[],(⟨0,[],0,0,0,[],[]⟩:A5),[]⟩:A4),(⟨0,0,[]⟩:A3)⟩:A8))).2).fCode:Int)=0))))) rfl) (.one (.rfl _)) rfl) trivial trivial
theorem l5  : PF Tryz.prog 15 [] (.sc (.bool E2)):=M1 (A0L) rfl
def H2 (code:Int) (sb:Int) (data:List Int):A3:=
 (⟨code,sb,(([]:List Int) ++ data)⟩:A3)
set_option maxRecDepth 100000 in
set_option maxHeartbeats 4000000 in
theorem A2v (code:Int) (sb:Int) (data:List Int) (hn:data.length ≤ 1000000):PG Tryz.prog 22 [] [] [.sc (.int .i64 code),.sc (.int .i64 sb),.sem (SL (eI .u8) data)] (fun _:Unit=>True) (fun _=>(fun (z:A3)=>⟨[],[],.agg (A3.cells z)⟩) (H2 code sb data)):=by
 refine M4 (N:=13) (l:=[.cell 6 41]) Tryz.func22 rfl rfl rfl (Nat.le_of_ble_eq_true rfl) fun w0 i0 F βs=>?_
 refine C6 ?_
 refine B8 ?_
 refine B4 rfl (L2 (s:=6) (z:=A0r) (qs:=J3) rfl rfl rfl rfl z41 rfl rfl) ?_
 refine D4 ?_
 refine C6 ?_
 refine B8 ?_
 refine B4 rfl (C2 (p:=.sc (.int .i64 code)) rfl rfl rfl rfl) ?_
 refine B4 rfl (C2 (p:=.sc (.int .i64 sb)) rfl rfl rfl rfl) ?_
 refine B4 rfl (I4 (E:=(eI .u8)) (l:=([]:List Int)) (tp:=9) (parts:=[]) (qs:=[]) rfl rfl rfl N3 rfl rfl rfl rfl) ?_
 refine B4 rfl (C2 (p:=.sem (SL (eI .u8) data)) rfl rfl rfl rfl) ?_
 refine B4 rfl (K1 (E:=(eI .u8)) (l:=([]:List Int)) (ext:=data) (tp:=9) rfl rfl rfl N3 rfl rfl (E3 rfl) (by first | ((try simp only [zB,zC,zD,B7,A7,A6,C0,D8,E8]); omega) | ((try simp only [z1,z2,z3,z4,z5,z6,z7,z8,z9,zA,zB,zC,zD,D2,C9,C4,C3,C5,B5,B6,B7,A7,A6,C0,D8,E8] at *); omega))) ?_
 refine B4 rfl (M7 (parts:=[(0,.tmp 7),(1,.tmp 8),(2,.tmp 11)]) (pps:=[(0,.sc (.int .i64 code)),(1,.sc (.int .i64 sb)),(2,.own 9 (List.length (α:=Int) (([]:List Int) ++ data)) (SL (eI .u8) (([]:List Int) ++ data)))]) (qs:=[.sc (.int .i64 code),.sc (.int .i64 sb),.own 9 (List.length (α:=Int) (([]:List Int) ++ data)) (SL (eI .u8) (([]:List Int) ++ data))]) rfl rfl rfl A1o rfl rfl (by kernel_rfl)) ?_
 refine B4 rfl (G5 (s:=6) (off:=0) (ps:=J3) (p:=.agg [.sc (.int .i64 code),.sc (.int .i64 sb),.own 9 (List.length (α:=Int) (([]:List Int) ++ data)) (SL (eI .u8) (([]:List Int) ++ data))]) (qs:=[.sc (.int .i64 code),.sc (.int .i64 sb),.own 9 (List.length (α:=Int) (([]:List Int) ++ data)) (SL (eI .u8) (([]:List Int) ++ data))]) rfl rfl M5 rfl rfl rfl rfl rfl rfl rfl) ?_
 refine D4 ?_
 refine G2 ?_
 exact F7 (F:=(fun (z:A3)=>⟨[],[],.agg (A3.cells z)⟩)) (z:=(H2 code sb data)) (v:=(⟨code,sb,(([]:List Int) ++ data)⟩:A3)) rfl rfl (.one (.cell 6 41 6 3 true [.sc (.int .i64 code),.sc (.int .i64 sb),.own 9 (List.length (α:=Int) (([]:List Int) ++ data)) (SL (eI .u8) (([]:List Int) ++ data))] (.agg [.sc (.int .i64 code),.sc (.int .i64 sb),.sem (SL (eI .u8) (([]:List Int) ++ data))]) rfl rfl M5 rfl rfl rfl) (.one (.rfl _)) rfl) trivial trivial
theorem W9 (code:Int) (sb:Int) (data:List Int) (hn:data.length ≤ 1000000):PF Tryz.prog 22 [.sc (.int .i64 code),.sc (.int .i64 sb),.sem (SL (eI .u8) data)] (.agg (A3.cells (H2 code sb data))):=M1 (A2v code sb data hn) rfl
def O8 (b:List Int):Nat → Int → (Int × A3) ⊕ (Int)
 | 0,_=>Sum.inr default
 | n0 + 1,x4_0 =>
  (bif decide ((x4_0:Int) < 16) then
   (bif !(decide (((ix b x4_0):Int)=255)) then
    Sum.inl (0,(H2 1 1 []))
   else
    O8 b n0 (IntKind.wrap .i64 (x4_0 + 1)))
  else
   Sum.inr x4_0)
def Q0 (b:List Int):Int × A3:=
 (bif decide (((b.length:Int):Int) < 19) then
  (0,(⟨0,0,[]⟩:A3))
 else
  (Sum.elim (fun z=>z) (fun (x_0:Int) =>
   (bif (decide (((IntKind.wrap .i64 ((IntKind.wrap .i64 (256 * (IntKind.wrap .i64 (ix b 16)))) + (IntKind.wrap .i64 (ix b 17)))):Int) < 19)) || (decide ((4096:Int) < (IntKind.wrap .i64 ((IntKind.wrap .i64 (256 * (IntKind.wrap .i64 (ix b 16)))) + (IntKind.wrap .i64 (ix b 17)))))) then
    (0,(H2 1 2 (sub b 16 18)))
   else
    (bif (decide (((IntKind.wrap .i64 (ix b 18)):Int) < 1)) || (decide ((4:Int) < (IntKind.wrap .i64 (ix b 18)))) then
     (0,(H2 1 3 (sub b 18 19)))
    else
     (bif ((((decide (((IntKind.wrap .i64 (ix b 18)):Int)=1)) && (decide (((IntKind.wrap .i64 ((IntKind.wrap .i64 (256 * (IntKind.wrap .i64 (ix b 16)))) + (IntKind.wrap .i64 (ix b 17)))):Int) < 29))) || ((decide (((IntKind.wrap .i64 (ix b 18)):Int)=2)) && (decide (((IntKind.wrap .i64 ((IntKind.wrap .i64 (256 * (IntKind.wrap .i64 (ix b 16)))) + (IntKind.wrap .i64 (ix b 17)))):Int) < 23)))) || ((decide (((IntKind.wrap .i64 (ix b 18)):Int)=3)) && (decide (((IntKind.wrap .i64 ((IntKind.wrap .i64 (256 * (IntKind.wrap .i64 (ix b 16)))) + (IntKind.wrap .i64 (ix b 17)))):Int) < 21)))) || ((decide (((IntKind.wrap .i64 (ix b 18)):Int)=4)) && (!(decide (((IntKind.wrap .i64 ((IntKind.wrap .i64 (256 * (IntKind.wrap .i64 (ix b 16)))) + (IntKind.wrap .i64 (ix b 17)))):Int)=19)))) then
      (0,(H2 1 2 (sub b 16 18)))
     else
      ((IntKind.wrap .i64 ((IntKind.wrap .i64 (256 * (IntKind.wrap .i64 (ix b 16)))) + (IntKind.wrap .i64 (ix b 17)))),(⟨0,0,[]⟩:A3)))))) (O8 b (((16:Int) - 0).toNat + 1) 0)))
set_option maxRecDepth 100000 in
set_option maxHeartbeats 4000000 in
theorem A2j (b:List Int):PG Tryz.prog 10 [] [] [.sem (SL (eI .u8) b)] (fun _:Unit=>True) (fun _=>(fun (z:Int × A3)=>⟨[],[],.tup [.sc (.int .i64 z.1),.agg (A3.cells z.2)]⟩) (Q0 b)):=by
 refine M4 (N:=88) (l:=[.tmp 2,.cell 3 41]) Tryz.func10 rfl rfl rfl (Nat.le_of_ble_eq_true rfl) fun w0 i0 F βs=>?_
 refine H5 0 rfl (fun hl1=>?_)
 refine C6 ?_
 refine B8 ?_
 refine B4 rfl (C7 (p:=.sc (.int .i64 0)) rfl rfl rfl rfl) ?_
 refine B4 rfl (L2 (s:=3) (z:=A0r) (qs:=J3) rfl rfl rfl rfl z41 rfl rfl) ?_
 refine D4 ?_
 refine C6 ?_
 refine C6 ?_
 refine B8 ?_
 refine B4 rfl (C2 (p:=.sem (SL (eI .u8) b)) rfl rfl rfl rfl) ?_
 refine B4 rfl (L6 rfl rfl rfl Tryz.underlying22 (E3 rfl)) ?_
 refine B4 rfl (E6 (u1:=.int .i64 (b.length:Int)) (u2:=.int .i64 19) (v:=.bool (decide (((b.length:Int):Int) < 19))) rfl rfl rfl rfl rfl (fun _=>rfl)) ?_
 refine D4 ?_
 refine F6 (b:=decide (((b.length:Int):Int) < 19)) rfl (fun k2=>?_) (fun k2=>?_)
 ·skip
  refine C6 ?_
  refine B8 ?_
  refine B4 rfl (M7 (parts:=[]) (pps:=[]) (qs:=J3) rfl rfl rfl A1o rfl rfl (by kernel_rfl)) ?_
  refine B4 rfl (C7 (p:=.sc (.int .i64 0)) rfl rfl rfl rfl) ?_
  refine B4 rfl (G5 (s:=3) (off:=0) (ps:=J3) (p:=.agg J3) (qs:=J3) rfl rfl M5 rfl rfl rfl rfl rfl rfl rfl) ?_
  refine D4 ?_
  refine G2 ?_
  exact F7 (F:=(fun (z:Int × A3)=>⟨[],[],.tup [.sc (.int .i64 z.1),.agg (A3.cells z.2)]⟩)) (z:=(Q0 b)) (v:=(0,(⟨0,0,[]⟩:A3))) (bT k2 rfl) rfl (.two (.tmp 2 (.sc (.int .i64 0)) rfl) (.one (.rfl _)) rfl (.cell 3 41 3 3 true J3 (.agg J3) rfl rfl M5 rfl rfl rfl) (.agg (.cons (.rfl _) (.cons (.rfl _) (.cons (.nil _) .nil)))) rfl) trivial trivial
 ·skip
  refine F9 ?_
  refine C6 ?_
  refine C6 ?_
  refine B8 ?_
  refine B4 rfl (C7 (p:=.sc (.int .i64 0)) rfl rfl rfl rfl) ?_
  refine D4 ?_
  refine V4 (ι:=Int) (p:=fun x_0=>(O8 b (((16:Int) - 0).toNat + 1) 0)=.inr x_0) (S:=fun x_0=>St.of 88 [(0,.sem (SL (eI .u8) b)),(2,.sc (.int .i64 0)),(3,.loc 3 0),(4,.sc (.int .i64 x_0))] [(3,J3)] []) (by first | exact V3 | exact X8 | exact Y3 | exact Y0) ?_ (fun x_0 e3=>?_)
  ·skip
   refine H6 ?_
   refine R3 (ι:=Nat × Int) (S:=fun i=>St.of 88 [(0,.sem (SL (eI .u8) b)),(2,.sc (.int .i64 0)),(3,.loc 3 0),(4,.sc (.int .i64 i.2))] [(3,J3)] []) (J:=fun i=>O8 b i.1 i.2=(O8 b (((16:Int) - 0).toNat + 1) 0) ∧ (((16:Int) - i.2).toNat < i.1) ∧ (0 ≤ i.2)) (μ:=fun i=>i.1) (i₀:=((((16:Int) - 0).toNat + 1),0)) (G9 rfl ⟨⟨rfl,(.one (.rfl _))⟩,⟨⟨rfl,(.one (.rfl _))⟩,⟨⟨rfl,(.one (.rfl _))⟩,⟨⟨rfl,(.one (.rfl _))⟩,trivial⟩⟩⟩⟩ ⟨⟨J3,rfl,(.cons (.rfl _) (.cons (.rfl _) (.cons (.rfl _) .nil)))⟩,trivial⟩ trivial) ⟨rfl,(by first | omega | ((try simp only [z1,z2,z3,z4,z5,z6,z7,z8,z9,zA,zB,zC,zD,D2,C9,C4,C3,C5,B5,B6,B7,A7,A6,C0,D8,E8] at *); omega) | ((try simp only [z1,z2,z3,z4,z5,z6,z7,z8,z9,zA,B5,B6,B7,A7,A6,C0,D8,E8] at *); (try simp (disch:=omega) only [C8]); (try simp only [z1,z2,z3,z4,z5,z6,z7,z8,z9,zA,zB,zC,zD,D2,C9,C4,C3,C5,B5,B6,B7] at *); omega)),(by first | omega | ((try simp only [z1,z2,z3,z4,z5,z6,z7,z8,z9,zA,zB,zC,zD,D2,C9,C4,C3,C5,B5,B6,B7,A7,A6,C0,D8,E8] at *); omega) | ((try simp only [z1,z2,z3,z4,z5,z6,z7,z8,z9,zA,B5,B6,B7,A7,A6,C0,D8,E8] at *); (try simp (disch:=omega) only [C8]); (try simp only [z1,z2,z3,z4,z5,z6,z7,z8,z9,zA,zB,zC,zD,D2,C9,C4,C3,C5,B5,B6,B7] at *); omega))⟩ ?_
   rintro ⟨n0,x4_0⟩ ⟨hJ0,hm0_0,hm0_1⟩
   obtain ⟨n0,rfl⟩:∃ m,n0=m + 1:=⟨n0 - 1,by have:0 < n0:=Nat.lt_of_le_of_lt (Nat.zero_le _) hm0_0; omega⟩
   replace hJ0:O8 b (n0 + 1) x4_0=(O8 b (((16:Int) - 0).toNat + 1) 0):=hJ0
   replace hm0_0:((16:Int) - x4_0).toNat < n0 + 1:=hm0_0
   replace hm0_1:0 ≤ x4_0:=hm0_1
   refine H5 0 rfl (fun hl4=>?_)
   refine C6 ?_
   refine C6 ?_
   refine B8 ?_
   refine B4 rfl (C2 (p:=.sc (.int .i64 x4_0)) rfl rfl rfl rfl) ?_
   refine B4 rfl (E6 (u1:=.int .i64 x4_0) (u2:=.int .i64 16) (v:=.bool (decide ((x4_0:Int) < 16))) rfl rfl rfl rfl rfl (fun _=>rfl)) ?_
   refine D4 ?_
   refine F6 (b:=decide ((x4_0:Int) < 16)) rfl (fun k5=>?_) (fun k5=>?_)
   ·skip
    refine F9 ?_
    refine C6 ?_
    refine H6 ?_
    refine C6 ?_
    refine B8 ?_
    refine B4 rfl (C2 (p:=.sem (SL (eI .u8) b)) rfl rfl rfl rfl) ?_
    refine B4 rfl (C2 (p:=.sc (.int .i64 x4_0)) rfl rfl rfl rfl) ?_
    refine B4 rfl (N6 (E:=(eI .u8)) (l:=b) (n:=x4_0) (ps:=[.sc (.int .u8 (ix b x4_0))]) rfl rfl rfl Tryz.underlying22 ty5 (E3 rfl) rfl (by first | omega | ((try simp only [z1,z2,z3,z4,z5,z6,z7,z8,z9,zA,zB,zC,zD,D2,C9,C4,C3,C5,B5,B6,B7,A7,A6,C0,D8,E8] at *); omega) | ((try simp only [z1,z2,z3,z4,z5,z6,z7,z8,z9,zA,B5,B6,B7,A7,A6,C0,D8,E8] at *); (try simp (disch:=omega) only [C8]); (try simp only [z1,z2,z3,z4,z5,z6,z7,z8,z9,zA,zB,zC,zD,D2,C9,C4,C3,C5,B5,B6,B7] at *); omega)) rfl) ?_
    refine B4 rfl (G4 (ps:=[.sc (.int .u8 (ix b x4_0))]) (p:=.sc (.int .u8 (ix b x4_0))) rfl rfl rfl ty5 rfl rfl rfl rfl rfl) ?_
    refine B4 rfl (E6 (u1:=.int .u8 (ix b x4_0)) (u2:=.int .u8 255) (v:=.bool (!(decide (((ix b x4_0):Int)=255)))) rfl rfl rfl rfl rfl (fun _=>rfl)) ?_
    refine D4 ?_
    refine F6 (b:=!(decide (((ix b x4_0):Int)=255))) rfl (fun k6=>?_) (fun k6=>?_)
    ·skip
     refine C6 ?_
     refine B8 ?_
     refine B4 rfl (I1 (fn:=Tryz.f22) (xs:=[.const (.int .i64 1),.const (.int .i64 1),.const (.slice none 0 0)]) (args:=[.sc (.int .i64 1),.sc (.int .i64 1),.sc (.slice none 0 0)]) (r:=.agg (A3.cells (H2 1 1 []))) rfl rfl rfl Tryz.func22 rfl rfl rfl rfl rfl (f9 (W9 1 1 [] (by first | omega | ((try simp only [z1,z2,z3,z4,z5,z6,z7,z8,z9,zA,zB,zC,zD,D2,C9,C4,C3,C5,B5,B6,B7,A7,A6,C0,D8,E8] at *); omega) | ((try simp only [z1,z2,z3,z4,z5,z6,z7,z8,z9,zA,B5,B6,B7,A7,A6,C0,D8,E8] at *); (try simp (disch:=omega) only [C8]); (try simp only [z1,z2,z3,z4,z5,z6,z7,z8,z9,zA,zB,zC,zD,D2,C9,C4,C3,C5,B5,B6,B7] at *); omega))) (.cons (.one (.rfl _)) (.cons (.one (.rfl _)) (.cons (.one (.nil _)) .nil))))) ?_
     refine B4 rfl (C7 (p:=.sc (.int .i64 0)) rfl rfl rfl rfl) ?_
     refine B4 rfl (G5 (s:=3) (off:=0) (ps:=J3) (p:=.agg (A3.cells (H2 1 1 []))) (qs:=(A3.cells (H2 1 1 []))) rfl rfl M5 rfl rfl rfl rfl rfl rfl rfl) ?_
     refine D4 ?_
     refine G2 ?_
     exact F7 (F:=(fun (z:Int × A3)=>⟨[],[],.tup [.sc (.int .i64 z.1),.agg (A3.cells z.2)]⟩)) (z:=(Q0 b)) (v:=(0,(H2 1 1 []))) (bF k2 (mL (hJ0.symm.trans (bT k5 (bT k6 rfl))) rfl)) rfl (.two (.tmp 2 (.sc (.int .i64 0)) rfl) (.one (.rfl _)) rfl (.cell 3 41 3 3 true (A3.cells (H2 1 1 [])) (.agg (A3.cells (H2 1 1 []))) rfl rfl M5 rfl rfl rfl) (.one (.rfl _)) rfl) trivial trivial
    ·skip
     refine F9 ?_
     refine B8 ?_
     refine B4 rfl (C2 (p:=.sc (.int .i64 x4_0)) rfl rfl rfl rfl) ?_
     refine B4 rfl (E6 (u1:=.int .i64 x4_0) (u2:=.int .i64 1) (v:=.int .i64 (IntKind.wrap .i64 (x4_0 + 1))) rfl rfl rfl rfl rfl (fun _=>rfl)) ?_
     refine B4 rfl (C7 (p:=.sc (.int .i64 (IntKind.wrap .i64 (x4_0 + 1)))) rfl rfl rfl rfl) ?_
     refine D4 ?_
     exact ⟨(n0,(IntKind.wrap .i64 (x4_0 + 1))),(G9 rfl ⟨⟨rfl,(.one (.rfl _))⟩,⟨⟨rfl,(.one (.rfl _))⟩,⟨⟨rfl,(.one (.rfl _))⟩,⟨⟨rfl,(.one (.rfl _))⟩,trivial⟩⟩⟩⟩ ⟨⟨J3,rfl,(.cons (.rfl _) (.cons (.rfl _) (.cons (.rfl _) .nil)))⟩,trivial⟩ trivial),⟨Eq.trans (Eq.symm (bT k5 (bF k6 rfl))) hJ0,(by first | omega | ((try simp only [z1,z2,z3,z4,z5,z6,z7,z8,z9,zA,zB,zC,zD,D2,C9,C4,C3,C5,B5,B6,B7,A7,A6,C0,D8,E8] at *); omega) | ((try simp only [z1,z2,z3,z4,z5,z6,z7,z8,z9,zA,B5,B6,B7,A7,A6,C0,D8,E8] at *); (try simp (disch:=omega) only [C8]); (try simp only [z1,z2,z3,z4,z5,z6,z7,z8,z9,zA,zB,zC,zD,D2,C9,C4,C3,C5,B5,B6,B7] at *); omega)),(by first | omega | ((try simp only [z1,z2,z3,z4,z5,z6,z7,z8,z9,zA,zB,zC,zD,D2,C9,C4,C3,C5,B5,B6,B7,A7,A6,C0,D8,E8] at *); omega) | ((try simp only [z1,z2,z3,z4,z5,z6,z7,z8,z9,zA,B5,B6,B7,A7,A6,C0,D8,E8] at *); (try simp (disch:=omega) only [C8]); (try simp only [z1,z2,z3,z4,z5,z6,z7,z8,z9,zA,zB,zC,zD,D2,C9,C4,C3,C5,B5,B6,B7] at *); omega))⟩,Nat.lt_succ_self _⟩
   ·skip
    refine S8 ?_
    exact ⟨x4_0,hJ0.symm.trans (bF k5 rfl),(G9 rfl ⟨⟨rfl,(.one (.rfl _))⟩,⟨⟨rfl,(.one (.rfl _))⟩,⟨⟨rfl,(.one (.rfl _))⟩,⟨⟨rfl,(.one (.rfl _))⟩,trivial⟩⟩⟩⟩ ⟨⟨J3,rfl,(.cons (.rfl _) (.cons (.rfl _) (.cons (.rfl _) .nil)))⟩,trivial⟩ trivial)⟩
  ·skip
   refine H5 0 rfl (fun hl7=>?_)
   refine C6 ?_
   refine Q5 { ds:=[some 21,some 22,some 23,some 24,some 25,some 26,some 27,some 28,some 29,some 30,some 31,some 32,some 33,some 34,some 5,some 6],p:=fun i=>[.sem (SL (eI .u8) b),.sem (PT [.sc (.int .u8 (ix b 16))]),.sc (.int .u8 (ix b 16)),.sc (.int .i64 (IntKind.wrap .i64 (ix b 16))),.sc (.int .i64 (IntKind.wrap .i64 (256 * (IntKind.wrap .i64 (ix b 16))))),.sem (SL (eI .u8) b),.sem (PT [.sc (.int .u8 (ix b 17))]),.sc (.int .u8 (ix b 17)),.sc (.int .i64 (IntKind.wrap .i64 (ix b 17))),.sc (.int .i64 (IntKind.wrap .i64 ((IntKind.wrap .i64 (256 * (IntKind.wrap .i64 (ix b 16)))) + (IntKind.wrap .i64 (ix b 17))))),.sem (SL (eI .u8) b),.sem (PT [.sc (.int .u8 (ix b 18))]),.sc (.int .u8 (ix b 18)),.sc (.int .i64 (IntKind.wrap .i64 (ix b 18))),.sc (.int .i64 (IntKind.wrap .i64 ((IntKind.wrap .i64 (256 * (IntKind.wrap .i64 (ix b 16)))) + (IntKind.wrap .i64 (ix b 17))))),.sc (.int .i64 (IntKind.wrap .i64 (ix b 18)))].getD i .any,al:=[],st:=[] } rfl (by kernel_rfl) rfl rfl ?_ (fun bD hb=>?_)
   ·refine ⟨fun bD hc hi hd=>?_,fun bD hc hi hd=>?_,fun bD hc hi hd=>?_,fun bD hc hi hd=>?_,fun bD hc hi hd=>?_,fun bD hc hi hd=>?_,fun bD hc hi hd=>?_,fun bD hc hi hd=>?_,fun bD hc hi hd=>?_,fun bD hc hi hd=>?_,fun bD hc hi hd=>?_,fun bD hc hi hd=>?_,fun bD hc hi hd=>?_,fun bD hc hi hd=>?_,fun bD hc hi hd=>?_,fun bD hc hi hd=>?_,trivial⟩
    ·exact F3.putStep (i:=0) (q:=.sem (SL (eI .u8) b)) rfl rfl rfl (C1 rfl (C2 (p:=.sem (SL (eI .u8) b)) rfl rfl rfl rfl))
    ·exact F3.putStep (i:=1) (q:=.sem (PT [.sc (.int .u8 (ix b 16))])) rfl rfl rfl (C1 rfl (N6 (E:=(eI .u8)) (l:=b) (n:=16) (ps:=[.sc (.int .u8 (ix b 16))]) rfl rfl rfl Tryz.underlying22 ty5 (by exact (E3 (by exact (gt (p:=.sem (SL (eI .u8) b)) (q:=.any) (hd 0 (by decide)))))) rfl (by first | omega | ((try simp only [z1,z2,z3,z4,z5,z6,z7,z8,z9,zA,zB,zC,zD,D2,C9,C4,C3,C5,B5,B6,B7,A7,A6,C0,D8,E8] at *); omega) | ((try simp only [z1,z2,z3,z4,z5,z6,z7,z8,z9,zA,B5,B6,B7,A7,A6,C0,D8,E8] at *); (try simp (disch:=omega) only [C8]); (try simp only [z1,z2,z3,z4,z5,z6,z7,z8,z9,zA,zB,zC,zD,D2,C9,C4,C3,C5,B5,B6,B7] at *); omega)) rfl))
    ·exact F3.putStep (i:=2) (q:=.sc (.int .u8 (ix b 16))) rfl rfl rfl (C1 rfl (G4 (ps:=[.sc (.int .u8 (ix b 16))]) (p:=.sc (.int .u8 (ix b 16))) rfl rfl rfl ty5 (gt (p:=.sem (PT [.sc (.int .u8 (ix b 16))])) (q:=.any) (hd 1 (by decide))) rfl rfl rfl rfl))
    ·exact F3.putStep (i:=3) (q:=.sc (.int .i64 (IntKind.wrap .i64 (ix b 16)))) rfl rfl rfl (C1 rfl (G8 (m:=(IntKind.wrap .i64 (ix b 16))) rfl rfl rfl Tryz.underlying5 Tryz.underlying3 (gt (p:=.sc (.int .u8 (ix b 16))) (q:=.any) (hd 2 (by decide))) rfl))
    ·exact F3.putStep (i:=4) (q:=.sc (.int .i64 (IntKind.wrap .i64 (256 * (IntKind.wrap .i64 (ix b 16)))))) rfl rfl rfl (C1 rfl (E6 (u1:=.int .i64 256) (u2:=.int .i64 (IntKind.wrap .i64 (ix b 16))) (v:=.int .i64 (IntKind.wrap .i64 (256 * (IntKind.wrap .i64 (ix b 16))))) rfl rfl rfl rfl (gt (p:=.sc (.int .i64 (IntKind.wrap .i64 (ix b 16)))) (q:=.any) (hd 3 (by decide))) (fun _=>rfl)))
    ·exact F3.putStep (i:=5) (q:=.sem (SL (eI .u8) b)) rfl rfl rfl (C1 rfl (C2 (p:=.sem (SL (eI .u8) b)) rfl rfl rfl rfl))
    ·exact F3.putStep (i:=6) (q:=.sem (PT [.sc (.int .u8 (ix b 17))])) rfl rfl rfl (C1 rfl (N6 (E:=(eI .u8)) (l:=b) (n:=17) (ps:=[.sc (.int .u8 (ix b 17))]) rfl rfl rfl Tryz.underlying22 ty5 (by exact (E3 (by exact (gt (p:=.sem (SL (eI .u8) b)) (q:=.any) (hd 5 (by decide)))))) rfl (by first | omega | ((try simp only [z1,z2,z3,z4,z5,z6,z7,z8,z9,zA,zB,zC,zD,D2,C9,C4,C3,C5,B5,B6,B7,A7,A6,C0,D8,E8] at *); omega) | ((try simp only [z1,z2,z3,z4,z5,z6,z7,z8,z9,zA,B5,B6,B7,A7,A6,C0,D8,E8] at *); (try simp (disch:=omega) only [C8]); (try simp only [z1,z2,z3,z4,z5,z6,z7,z8,z9,zA,zB,zC,zD,D2,C9,C4,C3,C5,B5,B6,B7] at *); omega)) rfl))
    ·exact F3.putStep (i:=7) (q:=.sc (.int .u8 (ix b 17))) rfl rfl rfl (C1 rfl (G4 (ps:=[.sc (.int .u8 (ix b 17))]) (p:=.sc (.int .u8 (ix b 17))) rfl rfl rfl ty5 (gt (p:=.sem (PT [.sc (.int .u8 (ix b 17))])) (q:=.any) (hd 6 (by decide))) rfl rfl rfl rfl))
    ·exact F3.putStep (i:=8) (q:=.sc (.int .i64 (IntKind.wrap .i64 (ix b 17)))) rfl rfl rfl (C1 rfl (G8 (m:=(IntKind.wrap .i64 (ix b 17))) rfl rfl rfl Tryz.underlying5 Tryz.underlying3 (gt (p:=.sc (.int .u8 (ix b 17))) (q:=.any) (hd 7 (by decide))) rfl))
    ·exact F3.putStep (i:=9) (q:=.sc (.int .i64 (IntKind.wrap .i64 ((IntKind.wrap .i64 (256 * (IntKind.wrap .i64 (ix b 16)))) + (IntKind.wrap .i64 (ix b 17)))))) rfl rfl rfl (C1 rfl (E6 (u1:=.int .i64 (IntKind.wrap .i64 (256 * (IntKind.wrap .i64 (ix b 16))))) (u2:=.int .i64 (IntKind.wrap .i64 (ix b 17))) (v:=.int .i64 (IntKind.wrap .i64 ((IntKind.wrap .i64 (256 * (IntKind.wrap .i64 (ix b 16)))) + (IntKind.wrap .i64 (ix b 17))))) rfl rfl rfl (gt (p:=.sc (.int .i64 (IntKind.wrap .i64 (256 * (IntKind.wrap .i64 (ix b 16)))))) (q:=.any) (hd 4 (by decide))) (gt (p:=.sc (.int .i64 (IntKind.wrap .i64 (ix b 17)))) (q:=.any) (hd 8 (by decide))) (fun _=>rfl)))
    ·exact F3.putStep (i:=10) (q:=.sem (SL (eI .u8) b)) rfl rfl rfl (C1 rfl (C2 (p:=.sem (SL (eI .u8) b)) rfl rfl rfl rfl))
    ·exact F3.putStep (i:=11) (q:=.sem (PT [.sc (.int .u8 (ix b 18))])) rfl rfl rfl (C1 rfl (N6 (E:=(eI .u8)) (l:=b) (n:=18) (ps:=[.sc (.int .u8 (ix b 18))]) rfl rfl rfl Tryz.underlying22 ty5 (by exact (E3 (by exact (gt (p:=.sem (SL (eI .u8) b)) (q:=.any) (hd 10 (by decide)))))) rfl (by first | omega | ((try simp only [z1,z2,z3,z4,z5,z6,z7,z8,z9,zA,zB,zC,zD,D2,C9,C4,C3,C5,B5,B6,B7,A7,A6,C0,D8,E8] at *); omega) | ((try simp only [z1,z2,z3,z4,z5,z6,z7,z8,z9,zA,B5,B6,B7,A7,A6,C0,D8,E8] at *); (try simp (disch:=omega) only [C8]); (try simp only [z1,z2,z3,z4,z5,z6,z7,z8,z9,zA,zB,zC,zD,D2,C9,C4,C3,C5,B5,B6,B7] at *); omega)) rfl))
    ·exact F3.putStep (i:=12) (q:=.sc (.int .u8 (ix b 18))) rfl rfl rfl (C1 rfl (G4 (ps:=[.sc (.int .u8 (ix b 18))]) (p:=.sc (.int .u8 (ix b 18))) rfl rfl rfl ty5 (gt (p:=.sem (PT [.sc (.int .u8 (ix b 18))])) (q:=.any) (hd 11 (by decide))) rfl rfl rfl rfl))
    ·exact F3.putStep (i:=13) (q:=.sc (.int .i64 (IntKind.wrap .i64 (ix b 18)))) rfl rfl rfl (C1 rfl (G8 (m:=(IntKind.wrap .i64 (ix b 18))) rfl rfl rfl Tryz.underlying5 Tryz.underlying3 (gt (p:=.sc (.int .u8 (ix b 18))) (q:=.any) (hd 12 (by decide))) rfl))
    ·exact F3.putStep (i:=14) (q:=.sc (.int .i64 (IntKind.wrap .i64 ((IntKind.wrap .i64 (256 * (IntKind.wrap .i64 (ix b 16)))) + (IntKind.wrap .i64 (ix b 17)))))) rfl rfl rfl (C1 rfl (C7 (p:=.sc (.int .i64 (IntKind.wrap .i64 ((IntKind.wrap .i64 (256 * (IntKind.wrap .i64 (ix b 16)))) + (IntKind.wrap .i64 (ix b 17)))))) rfl rfl rfl (gt (p:=.sc (.int .i64 (IntKind.wrap .i64 ((IntKind.wrap .i64 (256 * (IntKind.wrap .i64 (ix b 16)))) + (IntKind.wrap .i64 (ix b 17)))))) (q:=.any) (hd 9 (by decide)))))
    ·exact F3.putStep (i:=15) (q:=.sc (.int .i64 (IntKind.wrap .i64 (ix b 18)))) rfl rfl rfl (C1 rfl (C7 (p:=.sc (.int .i64 (IntKind.wrap .i64 (ix b 18)))) rfl rfl rfl (gt (p:=.sc (.int .i64 (IntKind.wrap .i64 (ix b 18)))) (q:=.any) (hd 13 (by decide)))))
   obtain rfl:bD=fun _=>true:=funext hb
   refine C6 ?_
   refine C6 ?_
   refine B8 ?_
   refine B4 rfl (C2 (p:=.sc (.int .i64 (IntKind.wrap .i64 ((IntKind.wrap .i64 (256 * (IntKind.wrap .i64 (ix b 16)))) + (IntKind.wrap .i64 (ix b 17)))))) rfl rfl rfl rfl) ?_
   refine B4 rfl (E6 (u1:=.int .i64 (IntKind.wrap .i64 ((IntKind.wrap .i64 (256 * (IntKind.wrap .i64 (ix b 16)))) + (IntKind.wrap .i64 (ix b 17))))) (u2:=.int .i64 19) (v:=.bool (decide (((IntKind.wrap .i64 ((IntKind.wrap .i64 (256 * (IntKind.wrap .i64 (ix b 16)))) + (IntKind.wrap .i64 (ix b 17)))):Int) < 19))) rfl rfl rfl rfl rfl (fun _=>rfl)) ?_
   refine B4 rfl (C2 (p:=.sc (.bool (decide (((IntKind.wrap .i64 ((IntKind.wrap .i64 (256 * (IntKind.wrap .i64 (ix b 16)))) + (IntKind.wrap .i64 (ix b 17)))):Int) < 19)))) rfl rfl rfl rfl) ?_
   refine E0 (C:=!(decide (((IntKind.wrap .i64 ((IntKind.wrap .i64 (256 * (IntKind.wrap .i64 (ix b 16)))) + (IntKind.wrap .i64 (ix b 17)))):Int) < 19))) (p:=.sc (.int .i64 (IntKind.wrap .i64 ((IntKind.wrap .i64 (256 * (IntKind.wrap .i64 (ix b 16)))) + (IntKind.wrap .i64 (ix b 17)))))) (H8 (b:=decide (((IntKind.wrap .i64 ((IntKind.wrap .i64 (256 * (IntKind.wrap .i64 (ix b 16)))) + (IntKind.wrap .i64 (ix b 17)))):Int) < 19)) (c:=!(decide (((IntKind.wrap .i64 ((IntKind.wrap .i64 (256 * (IntKind.wrap .i64 (ix b 16)))) + (IntKind.wrap .i64 (ix b 17)))):Int) < 19))) rfl rfl rfl rfl rfl rfl) rfl rfl (fun g8=>C2 (p:=.sc (.int .i64 (IntKind.wrap .i64 ((IntKind.wrap .i64 (256 * (IntKind.wrap .i64 (ix b 16)))) + (IntKind.wrap .i64 (ix b 17)))))) rfl rfl rfl rfl) ?_
   refine E0 (C:=!(decide (((IntKind.wrap .i64 ((IntKind.wrap .i64 (256 * (IntKind.wrap .i64 (ix b 16)))) + (IntKind.wrap .i64 (ix b 17)))):Int) < 19))) (p:=.sc (.bool (decide ((4096:Int) < (IntKind.wrap .i64 ((IntKind.wrap .i64 (256 * (IntKind.wrap .i64 (ix b 16)))) + (IntKind.wrap .i64 (ix b 17)))))))) (H8 (b:=decide (((IntKind.wrap .i64 ((IntKind.wrap .i64 (256 * (IntKind.wrap .i64 (ix b 16)))) + (IntKind.wrap .i64 (ix b 17)))):Int) < 19)) (c:=!(decide (((IntKind.wrap .i64 ((IntKind.wrap .i64 (256 * (IntKind.wrap .i64 (ix b 16)))) + (IntKind.wrap .i64 (ix b 17)))):Int) < 19))) rfl rfl rfl rfl rfl rfl) rfl rfl (fun g9=>E6 (u1:=.int .i64 (IntKind.wrap .i64 ((IntKind.wrap .i64 (256 * (IntKind.wrap .i64 (ix b 16)))) + (IntKind.wrap .i64 (ix b 17))))) (u2:=.int .i64 4096) (v:=.bool (decide ((4096:Int) < (IntKind.wrap .i64 ((IntKind.wrap .i64 (256 * (IntKind.wrap .i64 (ix b 16)))) + (IntKind.wrap .i64 (ix b 17))))))) rfl rfl rfl (gt (p:=.sc (.int .i64 (IntKind.wrap .i64 ((IntKind.wrap .i64 (256 * (IntKind.wrap .i64 (ix b 16)))) + (IntKind.wrap .i64 (ix b 17)))))) (q:=.sc undef) g9) rfl (fun _=>rfl)) ?_
   refine B4 rfl (N5 (b:=decide (((IntKind.wrap .i64 ((IntKind.wrap .i64 (256 * (IntKind.wrap .i64 (ix b 16)))) + (IntKind.wrap .i64 (ix b 17)))):Int) < 19)) (y:=decide ((4096:Int) < (IntKind.wrap .i64 ((IntKind.wrap .i64 (256 * (IntKind.wrap .i64 (ix b 16)))) + (IntKind.wrap .i64 (ix b 17)))))) rfl rfl rfl rfl rfl rfl) ?_
   refine D4 ?_
   refine F6 (b:=(decide (((IntKind.wrap .i64 ((IntKind.wrap .i64 (256 * (IntKind.wrap .i64 (ix b 16)))) + (IntKind.wrap .i64 (ix b 17)))):Int) < 19)) || (decide ((4096:Int) < (IntKind.wrap .i64 ((IntKind.wrap .i64 (256 * (IntKind.wrap .i64 (ix b 16)))) + (IntKind.wrap .i64 (ix b 17))))))) rfl (fun k10=>?_) (fun k10=>?_)
   ·skip
    refine C6 ?_
    refine B8 ?_
    refine B4 rfl (C2 (p:=.sem (SL (eI .u8) b)) rfl rfl rfl rfl) ?_
    refine B4 rfl (K0 (E:=(eI .u8)) (l:=b) (i:=16) (j:=18) rfl rfl rfl Tryz.underlying22 ty5 (E3 rfl) (I0 rfl) (I0 rfl) (show 0 ≤ 16 ∧ 16 ≤ 18 ∧ 18 ≤ (b.length:Int) from (by first | omega | ((try simp only [z1,z2,z3,z4,z5,z6,z7,z8,z9,zA,zB,zC,zD,D2,C9,C4,C3,C5,B5,B6,B7,A7,A6,C0,D8,E8] at *); omega) | ((try simp only [z1,z2,z3,z4,z5,z6,z7,z8,z9,zA,B5,B6,B7,A7,A6,C0,D8,E8] at *); (try simp (disch:=omega) only [C8]); (try simp only [z1,z2,z3,z4,z5,z6,z7,z8,z9,zA,zB,zC,zD,D2,C9,C4,C3,C5,B5,B6,B7] at *); omega)))) ?_
    refine B4 rfl (I1 (fn:=Tryz.f22) (xs:=[.const (.int .i64 1),.const (.int .i64 2),.tmp 42]) (args:=[.sc (.int .i64 1),.sc (.int .i64 2),.sem (SL (eI .u8) (sub b 16 18))]) (r:=.agg (A3.cells (H2 1 2 (sub b 16 18)))) rfl rfl rfl Tryz.func22 rfl rfl rfl rfl rfl (W9 1 2 (sub b 16 18) (by first | omega | ((try simp only [z1,z2,z3,z4,z5,z6,z7,z8,z9,zA,zB,zC,zD,D2,C9,C4,C3,C5,B5,B6,B7,A7,A6,C0,D8,E8] at *); omega) | ((try simp only [z1,z2,z3,z4,z5,z6,z7,z8,z9,zA,B5,B6,B7,A7,A6,C0,D8,E8] at *); (try simp (disch:=omega) only [C8]); (try simp only [z1,z2,z3,z4,z5,z6,z7,z8,z9,zA,zB,zC,zD,D2,C9,C4,C3,C5,B5,B6,B7] at *); omega)))) ?_
    refine B4 rfl (C7 (p:=.sc (.int .i64 0)) rfl rfl rfl rfl) ?_
    refine B4 rfl (G5 (s:=3) (off:=0) (ps:=J3) (p:=.agg (A3.cells (H2 1 2 (sub b 16 18)))) (qs:=(A3.cells (H2 1 2 (sub b 16 18)))) rfl rfl M5 rfl rfl rfl rfl rfl rfl rfl) ?_
    refine D4 ?_
    refine G2 ?_
    exact F7 (F:=(fun (z:Int × A3)=>⟨[],[],.tup [.sc (.int .i64 z.1),.agg (A3.cells z.2)]⟩)) (z:=(Q0 b)) (v:=(0,(H2 1 2 (sub b 16 18)))) (bF k2 (mR e3 (bT k10 rfl))) rfl (.two (.tmp 2 (.sc (.int .i64 0)) rfl) (.one (.rfl _)) rfl (.cell 3 41 3 3 true (A3.cells (H2 1 2 (sub b 16 18))) (.agg (A3.cells (H2 1 2 (sub b 16 18)))) rfl rfl M5 rfl rfl rfl) (.one (.rfl _)) rfl) trivial trivial
   ·skip
    refine F9 ?_
    refine C6 ?_
    refine C6 ?_
    refine B8 ?_
    refine B4 rfl (C2 (p:=.sc (.int .i64 (IntKind.wrap .i64 (ix b 18)))) rfl rfl rfl rfl) ?_
    refine B4 rfl (E6 (u1:=.int .i64 (IntKind.wrap .i64 (ix b 18))) (u2:=.int .i64 1) (v:=.bool (decide (((IntKind.wrap .i64 (ix b 18)):Int) < 1))) rfl rfl rfl rfl rfl (fun _=>rfl)) ?_
    refine B4 rfl (C2 (p:=.sc (.bool (decide (((IntKind.wrap .i64 (ix b 18)):Int) < 1)))) rfl rfl rfl rfl) ?_
    refine E0 (C:=!(decide (((IntKind.wrap .i64 (ix b 18)):Int) < 1))) (p:=.sc (.int .i64 (IntKind.wrap .i64 (ix b 18)))) (H8 (b:=decide (((IntKind.wrap .i64 (ix b 18)):Int) < 1)) (c:=!(decide (((IntKind.wrap .i64 (ix b 18)):Int) < 1))) rfl rfl rfl rfl rfl rfl) rfl rfl (fun g11=>C2 (p:=.sc (.int .i64 (IntKind.wrap .i64 (ix b 18)))) rfl rfl rfl rfl) ?_
    refine E0 (C:=!(decide (((IntKind.wrap .i64 (ix b 18)):Int) < 1))) (p:=.sc (.bool (decide ((4:Int) < (IntKind.wrap .i64 (ix b 18)))))) (H8 (b:=decide (((IntKind.wrap .i64 (ix b 18)):Int) < 1)) (c:=!(decide (((IntKind.wrap .i64 (ix b 18)):Int) < 1))) rfl rfl rfl rfl rfl rfl) rfl rfl (fun g12=>E6 (u1:=.int .i64 (IntKind.wrap .i64 (ix b 18))) (u2:=.int .i64 4) (v:=.bool (decide ((4:Int) < (IntKind.wrap .i64 (ix b 18))))) rfl rfl rfl (gt (p:=.sc (.int .i64 (IntKind.wrap .i64 (ix b 18)))) (q:=.sc undef) g12) rfl (fun _=>rfl)) ?_
    refine B4 rfl (N5 (b:=decide (((IntKind.wrap .i64 (ix b 18)):Int) < 1)) (y:=decide ((4:Int) < (IntKind.wrap .i64 (ix b 18)))) rfl rfl rfl rfl rfl rfl) ?_
    refine D4 ?_
    refine F6 (b:=(decide (((IntKind.wrap .i64 (ix b 18)):Int) < 1)) || (decide ((4:Int) < (IntKind.wrap .i64 (ix b 18))))) rfl (fun k13=>?_) (fun k13=>?_)
    ·skip
     refine C6 ?_
     refine B8 ?_
     refine B4 rfl (C2 (p:=.sem (SL (eI .u8) b)) rfl rfl rfl rfl) ?_
     refine B4 rfl (K0 (E:=(eI .u8)) (l:=b) (i:=18) (j:=19) rfl rfl rfl Tryz.underlying22 ty5 (E3 rfl) (I0 rfl) (I0 rfl) (show 0 ≤ 18 ∧ 18 ≤ 19 ∧ 19 ≤ (b.length:Int) from (by first | omega | ((try simp only [z1,z2,z3,z4,z5,z6,z7,z8,z9,zA,zB,zC,zD,D2,C9,C4,C3,C5,B5,B6,B7,A7,A6,C0,D8,E8] at *); omega) | ((try simp only [z1,z2,z3,z4,z5,z6,z7,z8,z9,zA,B5,B6,B7,A7,A6,C0,D8,E8] at *); (try simp (disch:=omega) only [C8]); (try simp only [z1,z2,z3,z4,z5,z6,z7,z8,z9,zA,zB,zC,zD,D2,C9,C4,C3,C5,B5,B6,B7] at *); omega)))) ?_
     refine B4 rfl (I1 (fn:=Tryz.f22) (xs:=[.const (.int .i64 1),.const (.int .i64 3),.tmp 51]) (args:=[.sc (.int .i64 1),.sc (.int .i64 3),.sem (SL (eI .u8) (sub b 18 19))]) (r:=.agg (A3.cells (H2 1 3 (sub b 18 19)))) rfl rfl rfl Tryz.func22 rfl rfl rfl rfl rfl (W9 1 3 (sub b 18 19) (by first | omega | ((try simp only [z1,z2,z3,z4,z5,z6,z7,z8,z9,zA,zB,zC,zD,D2,C9,C4,C3,C5,B5,B6,B7,A7,A6,C0,D8,E8] at *); omega) | ((try simp only [z1,z2,z3,z4,z5,z6,z7,z8,z9,zA,B5,B6,B7,A7,A6,C0,D8,E8] at *); (try simp (disch:=omega) only [C8]); (try simp only [z1,z2,z3,z4,z5,z6,z7,z8,z9,zA,zB,zC,zD,D2,C9,C4,C3,C5,B5,B6,B7] at *); omega)))) ?_
     refine B4 rfl (C7 (p:=.sc (.int .i64 0)) rfl rfl rfl rfl) ?_
     refine B4 rfl (G5 (s:=3) (off:=0) (ps:=J3) (p:=.agg (A3.cells (H2 1 3 (sub b 18 19)))) (qs:=(A3.cells (H2 1 3 (sub b 18 19)))) rfl rfl M5 rfl rfl rfl rfl rfl rfl rfl) ?_
     refine D4 ?_
     refine G2 ?_
     exact F7 (F:=(fun (z:Int × A3)=>⟨[],[],.tup [.sc (.int .i64 z.1),.agg (A3.cells z.2)]⟩)) (z:=(Q0 b)) (v:=(0,(H2 1 3 (sub b 18 19)))) (bF k2 (mR e3 (bF k10 (bT k13 rfl)))) rfl (.two (.tmp 2 (.sc (.int .i64 0)) rfl) (.one (.rfl _)) rfl (.cell 3 41 3 3 true (A3.cells (H2 1 3 (sub b 18 19))) (.agg (A3.cells (H2 1 3 (sub b 18 19)))) rfl rfl M5 rfl rfl rfl) (.one (.rfl _)) rfl) trivial trivial
    ·skip
     refine F9 ?_
     refine C6 ?_
     refine C6 ?_
     refine B8 ?_
     refine B4 rfl (C2 (p:=.sc (.int .i64 (IntKind.wrap .i64 (ix b 18)))) rfl rfl rfl rfl) ?_
     refine B4 rfl (E6 (u1:=.int .i64 (IntKind.wrap .i64 (ix b 18))) (u2:=.int .i64 1) (v:=.bool (decide (((IntKind.wrap .i64 (ix b 18)):Int)=1))) rfl rfl rfl rfl rfl (fun _=>rfl)) ?_
     refine B4 rfl (C2 (p:=.sc (.bool (decide (((IntKind.wrap .i64 (ix b 18)):Int)=1)))) rfl rfl rfl rfl) ?_
     refine E0 (C:=decide (((IntKind.wrap .i64 (ix b 18)):Int)=1)) (p:=.sc (.int .i64 (IntKind.wrap .i64 ((IntKind.wrap .i64 (256 * (IntKind.wrap .i64 (ix b 16)))) + (IntKind.wrap .i64 (ix b 17)))))) (G6 rfl rfl rfl rfl rfl) rfl rfl (fun g14=>C2 (p:=.sc (.int .i64 (IntKind.wrap .i64 ((IntKind.wrap .i64 (256 * (IntKind.wrap .i64 (ix b 16)))) + (IntKind.wrap .i64 (ix b 17)))))) rfl rfl rfl rfl) ?_
     refine E0 (C:=decide (((IntKind.wrap .i64 (ix b 18)):Int)=1)) (p:=.sc (.bool (decide (((IntKind.wrap .i64 ((IntKind.wrap .i64 (256 * (IntKind.wrap .i64 (ix b 16)))) + (IntKind.wrap .i64 (ix b 17)))):Int) < 29)))) (G6 rfl rfl rfl rfl rfl) rfl rfl (fun g15=>E6 (u1:=.int .i64 (IntKind.wrap .i64 ((IntKind.wrap .i64 (256 * (IntKind.wrap .i64 (ix b 16)))) + (IntKind.wrap .i64 (ix b 17))))) (u2:=.int .i64 29) (v:=.bool (decide (((IntKind.wrap .i64 ((IntKind.wrap .i64 (256 * (IntKind.wrap .i64 (ix b 16)))) + (IntKind.wrap .i64 (ix b 17)))):Int) < 29))) rfl rfl rfl (gt (p:=.sc (.int .i64 (IntKind.wrap .i64 ((IntKind.wrap .i64 (256 * (IntKind.wrap .i64 (ix b 16)))) + (IntKind.wrap .i64 (ix b 17)))))) (q:=.sc undef) g15) rfl (fun _=>rfl)) ?_
     refine B4 rfl (J1 (b:=decide (((IntKind.wrap .i64 (ix b 18)):Int)=1)) (y:=decide (((IntKind.wrap .i64 ((IntKind.wrap .i64 (256 * (IntKind.wrap .i64 (ix b 16)))) + (IntKind.wrap .i64 (ix b 17)))):Int) < 29)) rfl rfl rfl rfl rfl) ?_
     refine B4 rfl (C2 (p:=.sc (.bool ((decide (((IntKind.wrap .i64 (ix b 18)):Int)=1)) && (decide (((IntKind.wrap .i64 ((IntKind.wrap .i64 (256 * (IntKind.wrap .i64 (ix b 16)))) + (IntKind.wrap .i64 (ix b 17)))):Int) < 29))))) rfl rfl rfl rfl) ?_
     refine E0 (C:=!((decide (((IntKind.wrap .i64 (ix b 18)):Int)=1)) && (decide (((IntKind.wrap .i64 ((IntKind.wrap .i64 (256 * (IntKind.wrap .i64 (ix b 16)))) + (IntKind.wrap .i64 (ix b 17)))):Int) < 29)))) (p:=.sc (.int .i64 (IntKind.wrap .i64 (ix b 18)))) (H8 (b:=(decide (((IntKind.wrap .i64 (ix b 18)):Int)=1)) && (decide (((IntKind.wrap .i64 ((IntKind.wrap .i64 (256 * (IntKind.wrap .i64 (ix b 16)))) + (IntKind.wrap .i64 (ix b 17)))):Int) < 29))) (c:=!((decide (((IntKind.wrap .i64 (ix b 18)):Int)=1)) && (decide (((IntKind.wrap .i64 ((IntKind.wrap .i64 (256 * (IntKind.wrap .i64 (ix b 16)))) + (IntKind.wrap .i64 (ix b 17)))):Int) < 29)))) rfl rfl rfl rfl rfl rfl) rfl rfl (fun g16=>C2 (p:=.sc (.int .i64 (IntKind.wrap .i64 (ix b 18)))) rfl rfl rfl rfl) ?_
     refine E0 (C:=!((decide (((IntKind.wrap .i64 (ix b 18)):Int)=1)) && (decide (((IntKind.wrap .i64 ((IntKind.wrap .i64 (256 * (IntKind.wrap .i64 (ix b 16)))) + (IntKind.wrap .i64 (ix b 17)))):Int) < 29)))) (p:=.sc (.bool (decide (((IntKind.wrap .i64 (ix b 18)):Int)=2)))) (H8 (b:=(decide (((IntKind.wrap .i64 (ix b 18)):Int)=1)) && (decide (((IntKind.wrap .i64 ((IntKind.wrap .i64 (256 * (IntKind.wrap .i64 (ix b 16)))) + (IntKind.wrap .i64 (ix b 17)))):Int) < 29))) (c:=!((decide (((IntKind.wrap .i64 (ix b 18)):Int)=1)) && (decide (((IntKind.wrap .i64 ((IntKind.wrap .i64 (256 * (IntKind.wrap .i64 (ix b 16)))) + (IntKind.wrap .i64 (ix b 17)))):Int) < 29)))) rfl rfl rfl rfl rfl rfl) rfl rfl (fun g17=>E6 (u1:=.int .i64 (IntKind.wrap .i64 (ix b 18))) (u2:=.int .i64 2) (v:=.bool (decide (((IntKind.wrap .i64 (ix b 18)):Int)=2))) rfl rfl rfl (gt (p:=.sc (.int .i64 (IntKind.wrap .i64 (ix b 18)))) (q:=.sc undef) g17) rfl (fun _=>rfl)) ?_
     refine E0 (C:=!((decide (((IntKind.wrap .i64 (ix b 18)):Int)=1)) && (decide (((IntKind.wrap .i64 ((IntKind.wrap .i64 (256 * (IntKind.wrap .i64 (ix b 16)))) + (IntKind.wrap .i64 (ix b 17)))):Int) < 29)))) (p:=.sc (.bool (decide (((IntKind.wrap .i64 (ix b 18)):Int)=2)))) (H8 (b:=(decide (((IntKind.wrap .i64 (ix b 18)):Int)=1)) && (decide (((IntKind.wrap .i64 ((IntKind.wrap .i64 (256 * (IntKind.wrap .i64 (ix b 16)))) + (IntKind.wrap .i64 (ix b 17)))):Int) < 29))) (c:=!((decide (((IntKind.wrap .i64 (ix b 18)):Int)=1)) && (decide (((IntKind.wrap .i64 ((IntKind.wrap .i64 (256 * (IntKind.wrap .i64 (ix b 16)))) + (IntKind.wrap .i64 (ix b 17)))):Int) < 29)))) rfl rfl rfl rfl rfl rfl) rfl rfl (fun g18=>C2 (p:=.sc (.bool (decide (((IntKind.wrap .i64 (ix b 18)):Int)=2)))) rfl rfl rfl (gt (p:=.sc (.bool (decide (((IntKind.wrap .i64 (ix b 18)):Int)=2)))) (q:=.sc undef) g18)) ?_
     refine E0 (C:=(!((decide (((IntKind.wrap .i64 (ix b 18)):Int)=1)) && (decide (((IntKind.wrap .i64 ((IntKind.wrap .i64 (256 * (IntKind.wrap .i64 (ix b 16)))) + (IntKind.wrap .i64 (ix b 17)))):Int) < 29)))) && (decide (((IntKind.wrap .i64 (ix b 18)):Int)=2))) (p:=.sc (.int .i64 (IntKind.wrap .i64 ((IntKind.wrap .i64 (256 * (IntKind.wrap .i64 (ix b 16)))) + (IntKind.wrap .i64 (ix b 17)))))) (M3 (E:=!((decide (((IntKind.wrap .i64 (ix b 18)):Int)=1)) && (decide (((IntKind.wrap .i64 ((IntKind.wrap .i64 (256 * (IntKind.wrap .i64 (ix b 16)))) + (IntKind.wrap .i64 (ix b 17)))):Int) < 29)))) (y:=decide (((IntKind.wrap .i64 (ix b 18)):Int)=2)) rfl rfl rfl rfl rfl) rfl rfl (fun g19=>C2 (p:=.sc (.int .i64 (IntKind.wrap .i64 ((IntKind.wrap .i64 (256 * (IntKind.wrap .i64 (ix b 16)))) + (IntKind.wrap .i64 (ix b 17)))))) rfl rfl rfl rfl) ?_
     refine E0 (C:=(!((decide (((IntKind.wrap .i64 (ix b 18)):Int)=1)) && (decide (((IntKind.wrap .i64 ((IntKind.wrap .i64 (256 * (IntKind.wrap .i64 (ix b 16)))) + (IntKind.wrap .i64 (ix b 17)))):Int) < 29)))) && (decide (((IntKind.wrap .i64 (ix b 18)):Int)=2))) (p:=.sc (.bool (decide (((IntKind.wrap .i64 ((IntKind.wrap .i64 (256 * (IntKind.wrap .i64 (ix b 16)))) + (IntKind.wrap .i64 (ix b 17)))):Int) < 23)))) (M3 (E:=!((decide (((IntKind.wrap .i64 (ix b 18)):Int)=1)) && (decide (((IntKind.wrap .i64 ((IntKind.wrap .i64 (256 * (IntKind.wrap .i64 (ix b 16)))) + (IntKind.wrap .i64 (ix b 17)))):Int) < 29)))) (y:=decide (((IntKind.wrap .i64 (ix b 18)):Int)=2)) rfl rfl rfl rfl rfl) rfl rfl (fun g20=>E6 (u1:=.int .i64 (IntKind.wrap .i64 ((IntKind.wrap .i64 (256 * (IntKind.wrap .i64 (ix b 16)))) + (IntKind.wrap .i64 (ix b 17))))) (u2:=.int .i64 23) (v:=.bool (decide (((IntKind.wrap .i64 ((IntKind.wrap .i64 (256 * (IntKind.wrap .i64 (ix b 16)))) + (IntKind.wrap .i64 (ix b 17)))):Int) < 23))) rfl rfl rfl (gt (p:=.sc (.int .i64 (IntKind.wrap .i64 ((IntKind.wrap .i64 (256 * (IntKind.wrap .i64 (ix b 16)))) + (IntKind.wrap .i64 (ix b 17)))))) (q:=.sc undef) g20) rfl (fun _=>rfl)) ?_
     refine E0 (C:=!((decide (((IntKind.wrap .i64 (ix b 18)):Int)=1)) && (decide (((IntKind.wrap .i64 ((IntKind.wrap .i64 (256 * (IntKind.wrap .i64 (ix b 16)))) + (IntKind.wrap .i64 (ix b 17)))):Int) < 29)))) (p:=.sc (.bool ((decide (((IntKind.wrap .i64 (ix b 18)):Int)=2)) && (decide (((IntKind.wrap .i64 ((IntKind.wrap .i64 (256 * (IntKind.wrap .i64 (ix b 16)))) + (IntKind.wrap .i64 (ix b 17)))):Int) < 23))))) (H8 (b:=(decide (((IntKind.wrap .i64 (ix b 18)):Int)=1)) && (decide (((IntKind.wrap .i64 ((IntKind.wrap .i64 (256 * (IntKind.wrap .i64 (ix b 16)))) + (IntKind.wrap .i64 (ix b 17)))):Int) < 29))) (c:=!((decide (((IntKind.wrap .i64 (ix b 18)):Int)=1)) && (decide (((IntKind.wrap .i64 ((IntKind.wrap .i64 (256 * (IntKind.wrap .i64 (ix b 16)))) + (IntKind.wrap .i64 (ix b 17)))):Int) < 29)))) rfl rfl rfl rfl rfl rfl) rfl rfl (fun g21=>J1 (b:=decide (((IntKind.wrap .i64 (ix b 18)):Int)=2)) (y:=decide (((IntKind.wrap .i64 ((IntKind.wrap .i64 (256 * (IntKind.wrap .i64 (ix b 16)))) + (IntKind.wrap .i64 (ix b 17)))):Int) < 23)) rfl rfl rfl (gt (p:=.sc (.bool (decide (((IntKind.wrap .i64 (ix b 18)):Int)=2)))) (q:=.sc undef) g21) (gA (p:=.sc (.bool (decide (((IntKind.wrap .i64 ((IntKind.wrap .i64 (256 * (IntKind.wrap .i64 (ix b 16)))) + (IntKind.wrap .i64 (ix b 17)))):Int) < 23)))) (q:=.sc undef) g21)) ?_
     refine B4 rfl (N5 (b:=(decide (((IntKind.wrap .i64 (ix b 18)):Int)=1)) && (decide (((IntKind.wrap .i64 ((IntKind.wrap .i64 (256 * (IntKind.wrap .i64 (ix b 16)))) + (IntKind.wrap .i64 (ix b 17)))):Int) < 29))) (y:=(decide (((IntKind.wrap .i64 (ix b 18)):Int)=2)) && (decide (((IntKind.wrap .i64 ((IntKind.wrap .i64 (256 * (IntKind.wrap .i64 (ix b 16)))) + (IntKind.wrap .i64 (ix b 17)))):Int) < 23))) rfl rfl rfl rfl rfl rfl) ?_
     refine B4 rfl (C2 (p:=.sc (.bool (((decide (((IntKind.wrap .i64 (ix b 18)):Int)=1)) && (decide (((IntKind.wrap .i64 ((IntKind.wrap .i64 (256 * (IntKind.wrap .i64 (ix b 16)))) + (IntKind.wrap .i64 (ix b 17)))):Int) < 29))) || ((decide (((IntKind.wrap .i64 (ix b 18)):Int)=2)) && (decide (((IntKind.wrap .i64 ((IntKind.wrap .i64 (256 * (IntKind.wrap .i64 (ix b 16)))) + (IntKind.wrap .i64 (ix b 17)))):Int) < 23)))))) rfl rfl rfl rfl) ?_
     refine E0 (C:=!(((decide (((IntKind.wrap .i64 (ix b 18)):Int)=1)) && (decide (((IntKind.wrap .i64 ((IntKind.wrap .i64 (256 * (IntKind.wrap .i64 (ix b 16)))) + (IntKind.wrap .i64 (ix b 17)))):Int) < 29))) || ((decide (((IntKind.wrap .i64 (ix b 18)):Int)=2)) && (decide (((IntKind.wrap .i64 ((IntKind.wrap .i64 (256 * (IntKind.wrap .i64 (ix b 16)))) + (IntKind.wrap .i64 (ix b 17)))):Int) < 23))))) (p:=.sc (.int .i64 (IntKind.wrap .i64 (ix b 18)))) (H8 (b:=((decide (((IntKind.wrap .i64 (ix b 18)):Int)=1)) && (decide (((IntKind.wrap .i64 ((IntKind.wrap .i64 (256 * (IntKind.wrap .i64 (ix b 16)))) + (IntKind.wrap .i64 (ix b 17)))):Int) < 29))) || ((decide (((IntKind.wrap .i64 (ix b 18)):Int)=2)) && (decide (((IntKind.wrap .i64 ((IntKind.wrap .i64 (256 * (IntKind.wrap .i64 (ix b 16)))) + (IntKind.wrap .i64 (ix b 17)))):Int) < 23)))) (c:=!(((decide (((IntKind.wrap .i64 (ix b 18)):Int)=1)) && (decide (((IntKind.wrap .i64 ((IntKind.wrap .i64 (256 * (IntKind.wrap .i64 (ix b 16)))) + (IntKind.wrap .i64 (ix b 17)))):Int) < 29))) || ((decide (((IntKind.wrap .i64 (ix b 18)):Int)=2)) && (decide (((IntKind.wrap .i64 ((IntKind.wrap .i64 (256 * (IntKind.wrap .i64 (ix b 16)))) + (IntKind.wrap .i64 (ix b 17)))):Int) < 23))))) rfl rfl rfl rfl rfl rfl) rfl rfl (fun g22=>C2 (p:=.sc (.int .i64 (IntKind.wrap .i64 (ix b 18)))) rfl rfl rfl rfl) ?_
     refine E0 (C:=!(((decide (((IntKind.wrap .i64 (ix b 18)):Int)=1)) && (decide (((IntKind.wrap .i64 ((IntKind.wrap .i64 (256 * (IntKind.wrap .i64 (ix b 16)))) + (IntKind.wrap .i64 (ix b 17)))):Int) < 29))) || ((decide (((IntKind.wrap .i64 (ix b 18)):Int)=2)) && (decide (((IntKind.wrap .i64 ((IntKind.wrap .i64 (256 * (IntKind.wrap .i64 (ix b 16)))) + (IntKind.wrap .i64 (ix b 17)))):Int) < 23))))) (p:=.sc (.bool (decide (((IntKind.wrap .i64 (ix b 18)):Int)=3)))) (H8 (b:=((decide (((IntKind.wrap .i64 (ix b 18)):Int)=1)) && (decide (((IntKind.wrap .i64 ((IntKind.wrap .i64 (256 * (IntKind.wrap .i64 (ix b 16)))) + (IntKind.wrap .i64 (ix b 17)))):Int) < 29))) || ((decide (((IntKind.wrap .i64 (ix b 18)):Int)=2)) && (decide (((IntKind.wrap .i64 ((IntKind.wrap .i64 (256 * (IntKind.wrap .i64 (ix b 16)))) + (IntKind.wrap .i64 (ix b 17)))):Int) < 23)))) (c:=!(((decide (((IntKind.wrap .i64 (ix b 18)):Int)=1)) && (decide (((IntKind.wrap .i64 ((IntKind.wrap .i64 (256 * (IntKind.wrap .i64 (ix b 16)))) + (IntKind.wrap .i64 (ix b 17)))):Int) < 29))) || ((decide (((IntKind.wrap .i64 (ix b 18)):Int)=2)) && (decide (((IntKind.wrap .i64 ((IntKind.wrap .i64 (256 * (IntKind.wrap .i64 (ix b 16)))) + (IntKind.wrap .i64 (ix b 17)))):Int) < 23))))) rfl rfl rfl rfl rfl rfl) rfl rfl (fun g23=>E6 (u1:=.int .i64 (IntKind.wrap .i64 (ix b 18))) (u2:=.int .i64 3) (v:=.bool (decide (((IntKind.wrap .i64 (ix b 18)):Int)=3))) rfl rfl rfl (gt (p:=.sc (.int .i64 (IntKind.wrap .i64 (ix b 18)))) (q:=.sc undef) g23) rfl (fun _=>rfl)) ?_
     refine E0 (C:=!(((decide (((IntKind.wrap .i64 (ix b 18)):Int)=1)) && (decide (((IntKind.wrap .i64 ((IntKind.wrap .i64 (256 * (IntKind.wrap .i64 (ix b 16)))) + (IntKind.wrap .i64 (ix b 17)))):Int) < 29))) || ((decide (((IntKind.wrap .i64 (ix b 18)):Int)=2)) && (decide (((IntKind.wrap .i64 ((IntKind.wrap .i64 (256 * (IntKind.wrap .i64 (ix b 16)))) + (IntKind.wrap .i64 (ix b 17)))):Int) < 23))))) (p:=.sc (.bool (decide (((IntKind.wrap .i64 (ix b 18)):Int)=3)))) (H8 (b:=((decide (((IntKind.wrap .i64 (ix b 18)):Int)=1)) && (decide (((IntKind.wrap .i64 ((IntKind.wrap .i64 (256 * (IntKind.wrap .i64 (ix b 16)))) + (IntKind.wrap .i64 (ix b 17)))):Int) < 29))) || ((decide (((IntKind.wrap .i64 (ix b 18)):Int)=2)) && (decide (((IntKind.wrap .i64 ((IntKind.wrap .i64 (256 * (IntKind.wrap .i64 (ix b 16)))) + (IntKind.wrap .i64 (ix b 17)))):Int) < 23)))) (c:=!(((decide (((IntKind.wrap .i64 (ix b 18)):Int)=1)) && (decide (((IntKind.wrap .i64 ((IntKind.wrap .i64 (256 * (IntKind.wrap .i64 (ix b 16)))) + (IntKind.wrap .i64 (ix b 17)))):Int) < 29))) || ((decide (((IntKind.wrap .i64 (ix b 18)):Int)=2)) && (decide (((IntKind.wrap .i64 ((IntKind.wrap .i64 (256 * (IntKind.wrap .i64 (ix b 16)))) + (IntKind.wrap .i64 (ix b 17)))):Int) < 23))))) rfl rfl rfl rfl rfl rfl) rfl rfl (fun g24=>C2 (p:=.sc (.bool (decide (((IntKind.wrap .i64 (ix b 18)):Int)=3)))) rfl rfl rfl (gt (p:=.sc (.bool (decide (((IntKind.wrap .i64 (ix b 18)):Int)=3)))) (q:=.sc undef) g24)) ?_
     refine E0 (C:=(!(((decide (((IntKind.wrap .i64 (ix b 18)):Int)=1)) && (decide (((IntKind.wrap .i64 ((IntKind.wrap .i64 (256 * (IntKind.wrap .i64 (ix b 16)))) + (IntKind.wrap .i64 (ix b 17)))):Int) < 29))) || ((decide (((IntKind.wrap .i64 (ix b 18)):Int)=2)) && (decide (((IntKind.wrap .i64 ((IntKind.wrap .i64 (256 * (IntKind.wrap .i64 (ix b 16)))) + (IntKind.wrap .i64 (ix b 17)))):Int) < 23))))) && (decide (((IntKind.wrap .i64 (ix b 18)):Int)=3))) (p:=.sc (.int .i64 (IntKind.wrap .i64 ((IntKind.wrap .i64 (256 * (IntKind.wrap .i64 (ix b 16)))) + (IntKind.wrap .i64 (ix b 17)))))) (M3 (E:=!(((decide (((IntKind.wrap .i64 (ix b 18)):Int)=1)) && (decide (((IntKind.wrap .i64 ((IntKind.wrap .i64 (256 * (IntKind.wrap .i64 (ix b 16)))) + (IntKind.wrap .i64 (ix b 17)))):Int) < 29))) || ((decide (((IntKind.wrap .i64 (ix b 18)):Int)=2)) && (decide (((IntKind.wrap .i64 ((IntKind.wrap .i64 (256 * (IntKind.wrap .i64 (ix b 16)))) + (IntKind.wrap .i64 (ix b 17)))):Int) < 23))))) (y:=decide (((IntKind.wrap .i64 (ix b 18)):Int)=3)) rfl rfl rfl rfl rfl) rfl rfl (fun g25=>C2 (p:=.sc (.int .i64 (IntKind.wrap .i64 ((IntKind.wrap .i64 (256 * (IntKind.wrap .i64 (ix b 16)))) + (IntKind.wrap .i64 (ix b 17)))))) rfl rfl rfl rfl) ?_
     refine E0 (C:=(!(((decide (((IntKind.wrap .i64 (ix b 18)):Int)=1)) && (decide (((IntKind.wrap .i64 ((IntKind.wrap .i64 (256 * (IntKind.wrap .i64 (ix b 16)))) + (IntKind.wrap .i64 (ix b 17)))):Int) < 29))) || ((decide (((IntKind.wrap .i64 (ix b 18)):Int)=2)) && (decide (((IntKind.wrap .i64 ((IntKind.wrap .i64 (256 * (IntKind.wrap .i64 (ix b 16)))) + (IntKind.wrap .i64 (ix b 17)))):Int) < 23))))) && (decide (((IntKind.wrap .i64 (ix b 18)):Int)=3))) (p:=.sc (.bool (decide (((IntKind.wrap .i64 ((IntKind.wrap .i64 (256 * (IntKind.wrap .i64 (ix b 16)))) + (IntKind.wrap .i64 (ix b 17)))):Int) < 21)))) (M3 (E:=!(((decide (((IntKind.wrap .i64 (ix b 18)):Int)=1)) && (decide (((IntKind.wrap .i64 ((IntKind.wrap .i64 (256 * (IntKind.wrap .i64 (ix b 16)))) + (IntKind.wrap .i64 (ix b 17)))):Int) < 29))) || ((decide (((IntKind.wrap .i64 (ix b 18)):Int)=2)) && (decide (((IntKind.wrap .i64 ((IntKind.wrap .i64 (256 * (IntKind.wrap .i64 (ix b 16)))) + (IntKind.wrap .i64 (ix b 17)))):Int) < 23))))) (y:=decide (((IntKind.wrap .i64 (ix b 18)):Int)=3)) rfl rfl rfl rfl rfl) rfl rfl (fun g26=>E6 (u1:=.int .i64 (IntKind.wrap .i64 ((IntKind.wrap .i64 (256 * (IntKind.wrap .i64 (ix b 16)))) + (IntKind.wrap .i64 (ix b 17))))) (u2:=.int .i64 21) (v:=.bool (decide (((IntKind.wrap .i64 ((IntKind.wrap .i64 (256 * (IntKind.wrap .i64 (ix b 16)))) + (IntKind.wrap .i64 (ix b 17)))):Int) < 21))) rfl rfl rfl (gt (p:=.sc (.int .i64 (IntKind.wrap .i64 ((IntKind.wrap .i64 (256 * (IntKind.wrap .i64 (ix b 16)))) + (IntKind.wrap .i64 (ix b 17)))))) (q:=.sc undef) g26) rfl (fun _=>rfl)) ?_
     refine E0 (C:=!(((decide (((IntKind.wrap .i64 (ix b 18)):Int)=1)) && (decide (((IntKind.wrap .i64 ((IntKind.wrap .i64 (256 * (IntKind.wrap .i64 (ix b 16)))) + (IntKind.wrap .i64 (ix b 17)))):Int) < 29))) || ((decide (((IntKind.wrap .i64 (ix b 18)):Int)=2)) && (decide (((IntKind.wrap .i64 ((IntKind.wrap .i64 (256 * (IntKind.wrap .i64 (ix b 16)))) + (IntKind.wrap .i64 (ix b 17)))):Int) < 23))))) (p:=.sc (.bool ((decide (((IntKind.wrap .i64 (ix b 18)):Int)=3)) && (decide (((IntKind.wrap .i64 ((IntKind.wrap .i64 (256 * (IntKind.wrap .i64 (ix b 16)))) + (IntKind.wrap .i64 (ix b 17)))):Int) < 21))))) (H8 (b:=((decide (((IntKind.wrap .i64 (ix b 18)):Int)=1)) && (decide (((IntKind.wrap .i64 ((IntKind.wrap .i64 (256 * (IntKind.wrap .i64 (ix b 16)))) + (IntKind.wrap .i64 (ix b 17)))):Int) < 29))) || ((decide (((IntKind.wrap .i64 (ix b 18)):Int)=2)) && (decide (((IntKind.wrap .i64 ((IntKind.wrap .i64 (256 * (IntKind.wrap .i64 (ix b 16)))) + (IntKind.wrap .i64 (ix b 17)))):Int) < 23)))) (c:=!(((decide (((IntKind.wrap .i64 (ix b 18)):Int)=1)) && (decide (((IntKind.wrap .i64 ((IntKind.wrap .i64 (256 * (IntKind.wrap .i64 (ix b 16)))) + (IntKind.wrap .i64 (ix b 17)))):Int) < 29))) || ((decide (((IntKind.wrap .i64 (ix b 18)):Int)=2)) && (decide (((IntKind.wrap .i64 ((IntKind.wrap .i64 (256 * (IntKind.wrap .i64 (ix b 16)))) + (IntKind.wrap .i64 (ix b 17)))):Int) < 23))))) rfl rfl rfl rfl rfl rfl) rfl rfl (fun g27=>J1 (b:=decide (((IntKind.wrap .i64 (ix b 18)):Int)=3)) (y:=decide (((IntKind.wrap .i64 ((IntKind.wrap .i64 (256 * (IntKind.wrap .i64 (ix b 16)))) + (IntKind.wrap .i64 (ix b 17)))):Int) < 21)) rfl rfl rfl (gt (p:=.sc (.bool (decide (((IntKind.wrap .i64 (ix b 18)):Int)=3)))) (q:=.sc undef) g27) (gA (p:=.sc (.bool (decide (((IntKind.wrap .i64 ((IntKind.wrap .i64 (256 * (IntKind.wrap .i64 (ix b 16)))) + (IntKind.wrap .i64 (ix b 17)))):Int) < 21)))) (q:=.sc undef) g27)) ?_
     refine B4 rfl (N5 (b:=((decide (((IntKind.wrap .i64 (ix b 18)):Int)=1)) && (decide (((IntKind.wrap .i64 ((IntKind.wrap .i64 (256 * (IntKind.wrap .i64 (ix b 16)))) + (IntKind.wrap .i64 (ix b 17)))):Int) < 29))) || ((decide (((IntKind.wrap .i64 (ix b 18)):Int)=2)) && (decide (((IntKind.wrap .i64 ((IntKind.wrap .i64 (256 * (IntKind.wrap .i64 (ix b 16)))) + (IntKind.wrap .i64 (ix b 17)))):Int) < 23)))) (y:=(decide (((IntKind.wrap .i64 (ix b 18)):Int)=3)) && (decide (((IntKind.wrap .i64 ((IntKind.wrap .i64 (256 * (IntKind.wrap .i64 (ix b 16)))) + (IntKind.wrap .i64 (ix b 17)))):Int) < 21))) rfl rfl rfl rfl rfl rfl) ?_
     refine B4 rfl (C2 (p:=.sc (.bool ((((decide (((IntKind.wrap .i64 (ix b 18)):Int)=1)) && (decide (((IntKind.wrap .i64 ((IntKind.wrap .i64 (256 * (IntKind.wrap .i64 (ix b 16)))) + (IntKind.wrap .i64 (ix b 17)))):Int) < 29))) || ((decide (((IntKind.wrap .i64 (ix b 18)):Int)=2)) && (decide (((IntKind.wrap .i64 ((IntKind.wrap .i64 (256 * (IntKind.wrap .i64 (ix b 16)))) + (IntKind.wrap .i64 (ix b 17)))):Int) < 23)))) || ((decide (((IntKind.wrap .i64 (ix b 18)):Int)=3)) && (decide (((IntKind.wrap .i64 ((IntKind.wrap .i64 (256 * (IntKind.wrap .i64 (ix b 16)))) + (IntKind.wrap .i64 (ix b 17)))):Int) < 21)))))) rfl rfl rfl rfl) ?_
     refine E0 (C:=!((((decide (((IntKind.wrap .i64 (ix b 18)):Int)=1)) && (decide (((IntKind.wrap .i64 ((IntKind.wrap .i64 (256 * (IntKind.wrap .i64 (ix b 16)))) + (IntKind.wrap .i64 (ix b 17)))):Int) < 29))) || ((decide (((IntKind.wrap .i64 (ix b 18)):Int)=2)) && (decide (((IntKind.wrap .i64 ((IntKind.wrap .i64 (256 * (IntKind.wrap .i64 (ix b 16)))) + (IntKind.wrap .i64 (ix b 17)))):Int) < 23)))) || ((decide (((IntKind.wrap .i64 (ix b 18)):Int)=3)) && (decide (((IntKind.wrap .i64 ((IntKind.wrap .i64 (256 * (IntKind.wrap .i64 (ix b 16)))) + (IntKind.wrap .i64 (ix b 17)))):Int) < 21))))) (p:=.sc (.int .i64 (IntKind.wrap .i64 (ix b 18)))) (H8 (b:=(((decide (((IntKind.wrap .i64 (ix b 18)):Int)=1)) && (decide (((IntKind.wrap .i64 ((IntKind.wrap .i64 (256 * (IntKind.wrap .i64 (ix b 16)))) + (IntKind.wrap .i64 (ix b 17)))):Int) < 29))) || ((decide (((IntKind.wrap .i64 (ix b 18)):Int)=2)) && (decide (((IntKind.wrap .i64 ((IntKind.wrap .i64 (256 * (IntKind.wrap .i64 (ix b 16)))) + (IntKind.wrap .i64 (ix b 17)))):Int) < 23)))) || ((decide (((IntKind.wrap .i64 (ix b 18)):Int)=3)) && (decide (((IntKind.wrap .i64 ((IntKind.wrap .i64 (256 * (IntKind.wrap .i64 (ix b 16)))) + (IntKind.wrap .i64 (ix b 17)))):Int) < 21)))) (c:=!((((decide (((IntKind.wrap .i64 (ix b 18)):Int)=1)) && (decide (((IntKind.wrap .i64 ((IntKind.wrap .i64 (256 * (IntKind.wrap .i64 (ix b 16)))) + (IntKind.wrap .i64 (ix b 17)))):Int) < 29))) || ((decide (((IntKind.wrap .i64 (ix b 18)):Int)=2)) && (decide (((IntKind.wrap .i64 ((IntKind.wrap .i64 (256 * (IntKind.wrap .i64 (ix b 16)))) + (IntKind.wrap .i64 (ix b 17)))):Int) < 23)))) || ((decide (((IntKind.wrap .i64 (ix b 18)):Int)=3)) && (decide (((IntKind.wrap .i64 ((IntKind.wrap .i64 (256 * (IntKind.wrap .i64 (ix b 16)))) + (IntKind.wrap .i64 (ix b 17)))):Int) < 21))))) rfl rfl rfl rfl rfl rfl) rfl rfl (fun g28=>C2 (p:=.sc (.int .i64 (IntKind.wrap .i64 (ix b 18)))) rfl rfl rfl rfl) ?_
     refine E0 (C:=!((((decide (((IntKind.wrap .i64 (ix b 18)):Int)=1)) && (decide (((IntKind.wrap .i64 ((IntKind.wrap .i64 (256 * (IntKind.wrap .i64 (ix b 16)))) + (IntKind.wrap .i64 (ix b 17)))):Int) < 29))) || ((decide (((IntKind.wrap .i64 (ix b 18)):Int)=2)) && (decide (((IntKind.wrap .i64 ((IntKind.wrap .i64 (256 * (IntKind.wrap .i64 (ix b 16)))) + (IntKind.wrap .i64 (ix b 17)))):Int) < 23)))) || ((decide (((IntKind.wrap .i64 (ix b 18)):Int)=3)) && (decide (((IntKind.wrap .i64 ((IntKind.wrap .i64 (256 * (IntKind.wrap .i64 (ix b 16)))) + (IntKind.wrap .i64 (ix b 17)))):Int) < 21))))) (p:=.sc (.bool (decide (((IntKind.wrap .i64 (ix b 18)):Int)=4)))) (H8 (b:=(((decide (((IntKind.wrap .i64 (ix b 18)):Int)=1)) && (decide (((IntKind.wrap .i64 ((IntKind.wrap .i64 (256 * (IntKind.wrap .i64 (ix b 16)))) + (IntKind.wrap .i64 (ix b 17)))):Int) < 29))) || ((decide (((IntKind.wrap .i64 (ix b 18)):Int)=2)) && (decide (((IntKind.wrap .i64 ((IntKind.wrap .i64 (256 * (IntKind.wrap .i64 (ix b 16)))) + (IntKind.wrap .i64 (ix b 17)))):Int) < 23)))) || ((decide (((IntKind.wrap .i64 (ix b 18)):Int)=3)) && (decide (((IntKind.wrap .i64 ((IntKind.wrap .i64 (256 * (IntKind.wrap .i64 (ix b 16)))) + (IntKind.wrap .i64 (ix b 17)))):Int) < 21)))) (c:=!((((decide (((IntKind.wrap .i64 (ix b 18)):Int)=1)) && (decide (((IntKind.wrap .i64 ((IntKind.wrap .i64 (256 * (IntKind.wrap .i64 (ix b 16)))) + (IntKind.wrap .i64 (ix b 17)))):Int) < 29))) || ((decide (((IntKind.wrap .i64 (ix b 18)):Int)=2)) && (decide (((IntKind.wrap .i64 ((IntKind.wrap .i64 (256 * (IntKind.wrap .i64 (ix b 16)))) + (IntKind.wrap .i64 (ix b 17)))):Int) < 23)))) || ((decide (((IntKind.wrap .i64 (ix b 18)):Int)=3)) && (decide (((IntKind.wrap .i64 ((IntKind.wrap .i64 (256 * (IntKind.wrap .i64 (ix b 16)))) + (IntKind.wrap .i64 (ix b 17)))):Int) < 21))))) rfl rfl rfl rfl rfl rfl) rfl rfl (fun g29=>E6 (u1:=.int .i64 (IntKind.wrap .i64 (ix b 18))) (u2:=.int .i64 4) (v:=.bool (decide (((IntKind.wrap .i64 (ix b 18)):Int)=4))) rfl rfl rfl (gt (p:=.sc (.int .i64 (IntKind.wrap .i64 (ix b 18)))) (q:=.sc undef) g29) rfl (fun _=>rfl)) ?_
     refine E0 (C:=!((((decide (((IntKind.wrap .i64 (ix b 18)):Int)=1)) && (decide (((IntKind.wrap .i64 ((IntKind.wrap .i64 (256 * (IntKind.wrap .i64 (ix b 16)))) + (IntKind.wrap .i64 (ix b 17)))):Int) < 29))) || ((decide (((IntKind.wrap .i64 (ix b 18)):Int)=2)) && (decide (((IntKind.wrap .i64 ((IntKind.wrap .i64 (256 * (IntKind.wrap .i64 (ix b 16)))) + (IntKind.wrap .i64 (ix b 17)))):Int) < 23)))) || ((decide (((IntKind.wrap .i64 (ix b 18)):Int)=3)) && (decide (((IntKind.wrap .i64 ((IntKind.wrap .i64 (256 * (IntKind.wrap .i64 (ix b 16)))) + (IntKind.wrap .i64 (ix b 17)))):Int) < 21))))) (p:=.sc (.bool (decide (((IntKind.wrap .i64 (ix b 18)):Int)=4)))) (H8 (b:=(((decide (((IntKind.wrap .i64 (ix b 18)):Int)=1)) && (decide (((IntKind.wrap .i64 ((IntKind.wrap .i64 (256 * (IntKind.wrap .i64 (ix b 16)))) + (IntKind.wrap .i64 (ix b 17)))):Int) < 29))) || ((decide (((IntKind.wrap .i64 (ix b 18)):Int)=2)) && (decide (((IntKind.wrap .i64 ((IntKind.wrap .i64 (256 * (IntKind.wrap .i64 (ix b 16)))) + (IntKind.wrap .i64 (ix b 17)))):Int) < 23)))) || ((decide (((IntKind.wrap .i64 (ix b 18)):Int)=3)) && (decide (((IntKind.wrap .i64 ((IntKind.wrap .i64 (256 * (IntKind.wrap .i64 (ix b 16)))) + (IntKind.wrap .i64 (ix b 17)))):Int) < 21)))) (c:=!((((decide (((IntKind.wrap .i64 (ix b 18)):Int)=1)) && (decide (((IntKind.wrap .i64 ((IntKind.wrap .i64 (256 * (IntKind.wrap .i64 (ix b 16)))) + (IntKind.wrap .i64 (ix b 17)))):Int) < 29))) || ((decide (((IntKind.wrap .i64 (ix b 18)):Int)=2)) && (decide (((IntKind.wrap .i64 ((IntKind.wrap .i64 (256 * (IntKind.wrap .i64 (ix b 16)))) + (IntKind.wrap .i64 (ix b 17)))):Int) < 23)))) || ((decide (((IntKind.wrap .i64 (ix b 18)):Int)=3)) && (decide (((IntKind.wrap .i64 ((IntKind.wrap .i64 (256 * (IntKind.wrap .i64 (ix b 16)))) + (IntKind.wrap .i64 (ix b 17)))):Int) < 21))))) rfl rfl rfl rfl rfl rfl) rfl rfl (fun g30=>C2 (p:=.sc (.bool (decide (((IntKind.wrap .i64 (ix b 18)):Int)=4)))) rfl rfl rfl (gt (p:=.sc (.bool (decide (((IntKind.wrap .i64 (ix b 18)):Int)=4)))) (q:=.sc undef) g30)) ?_
     refine E0 (C:=(!((((decide (((IntKind.wrap .i64 (ix b 18)):Int)=1)) && (decide (((IntKind.wrap .i64 ((IntKind.wrap .i64 (256 * (IntKind.wrap .i64 (ix b 16)))) + (IntKind.wrap .i64 (ix b 17)))):Int) < 29))) || ((decide (((IntKind.wrap .i64 (ix b 18)):Int)=2)) && (decide (((IntKind.wrap .i64 ((IntKind.wrap .i64 (256 * (IntKind.wrap .i64 (ix b 16)))) + (IntKind.wrap .i64 (ix b 17)))):Int) < 23)))) || ((decide (((IntKind.wrap .i64 (ix b 18)):Int)=3)) && (decide (((IntKind.wrap .i64 ((IntKind.wrap .i64 (256 * (IntKind.wrap .i64 (ix b 16)))) + (IntKind.wrap .i64 (ix b 17)))):Int) < 21))))) && (decide (((IntKind.wrap .i64 (ix b 18)):Int)=4))) (p:=.sc (.int .i64 (IntKind.wrap .i64 ((IntKind.wrap .i64 (256 * (IntKind.wrap .i64 (ix b 16)))) + (IntKind.wrap .i64 (ix b 17)))))) (M3 (E:=!((((decide (((IntKind.wrap .i64 (ix b 18)):Int)=1)) && (decide (((IntKind.wrap .i64 ((IntKind.wrap .i64 (256 * (IntKind.wrap .i64 (ix b 16)))) + (IntKind.wrap .i64 (ix b 17)))):Int) < 29))) || ((decide (((IntKind.wrap .i64 (ix b 18)):Int)=2)) && (decide (((IntKind.wrap .i64 ((IntKind.wrap .i64 (256 * (IntKind.wrap .i64 (ix b 16)))) + (IntKind.wrap .i64 (ix b 17)))):Int) < 23)))) || ((decide (((IntKind.wrap .i64 (ix b 18)):Int)=3)) && (decide (((IntKind.wrap .i64 ((IntKind.wrap .i64 (256 * (IntKind.wrap .i64 (ix b 16)))) + (IntKind.wrap .i64 (ix b 17)))):Int) < 21))))) (y:=decide (((IntKind.wrap .i64 (ix b 18)):Int)=4)) rfl rfl rfl rfl rfl) rfl rfl (fun g31=>C2 (p:=.sc (.int .i64 (IntKind.wrap .i64 ((IntKind.wrap .i64 (256 * (IntKind.wrap .i64 (ix b 16)))) + (IntKind.wrap .i64 (ix b 17)))))) rfl rfl rfl rfl) ?_
     refine E0 (C:=(!((((decide (((IntKind.wrap .i64 (ix b 18)):Int)=1)) && (decide (((IntKind.wrap .i64 ((IntKind.wrap .i64 (256 * (IntKind.wrap .i64 (ix b 16)))) + (IntKind.wrap .i64 (ix b 17)))):Int) < 29))) || ((decide (((IntKind.wrap .i64 (ix b 18)):Int)=2)) && (decide (((IntKind.wrap .i64 ((IntKind.wrap .i64 (256 * (IntKind.wrap .i64 (ix b 16)))) + (IntKind.wrap .i64 (ix b 17)))):Int) < 23)))) || ((decide (((IntKind.wrap .i64 (ix b 18)):Int)=3)) && (decide (((IntKind.wrap .i64 ((IntKind.wrap .i64 (256 * (IntKind.wrap .i64 (ix b 16)))) + (IntKind.wrap .i64 (ix b 17)))):Int) < 21))))) && (decide (((IntKind.wrap .i64 (ix b 18)):Int)=4))) (p:=.sc (.bool (!(decide (((IntKind.wrap .i64 ((IntKind.wrap .i64 (256 * (IntKind.wrap .i64 (ix b 16)))) + (IntKind.wrap .i64 (ix b 17)))):Int)=19))))) (M3 (E:=!((((decide (((IntKind.wrap .i64 (ix b 18)):Int)=1)) && (decide (((IntKind.wrap .i64 ((IntKind.wrap .i64 (256 * (IntKind.wrap .i64 (ix b 16)))) + (IntKind.wrap .i64 (ix b 17)))):Int) < 29))) || ((decide (((IntKind.wrap .i64 (ix b 18)):Int)=2)) && (decide (((IntKind.wrap .i64 ((IntKind.wrap .i64 (256 * (IntKind.wrap .i64 (ix b 16)))) + (IntKind.wrap .i64 (ix b 17)))):Int) < 23)))) || ((decide (((IntKind.wrap .i64 (ix b 18)):Int)=3)) && (decide (((IntKind.wrap .i64 ((IntKind.wrap .i64 (256 * (IntKind.wrap .i64 (ix b 16)))) + (IntKind.wrap .i64 (ix b 17)))):Int) < 21))))) (y:=decide (((IntKind.wrap .i64 (ix b 18)):Int)=4)) rfl rfl rfl rfl rfl) rfl rfl (fun g32=>E6 (u1:=.int .i64 (IntKind.wrap .i64 ((IntKind.wrap .i64 (256 * (IntKind.wrap .i64 (ix b 16)))) + (IntKind.wrap .i64 (ix b 17))))) (u2:=.int .i64 19) (v:=.bool (!(decide (((IntKind.wrap .i64 ((IntKind.wrap .i64 (256 * (IntKind.wrap .i64 (ix b 16)))) + (IntKind.wrap .i64 (ix b 17)))):Int)=19)))) rfl rfl rfl (gt (p:=.sc (.int .i64 (IntKind.wrap .i64 ((IntKind.wrap .i64 (256 * (IntKind.wrap .i64 (ix b 16)))) + (IntKind.wrap .i64 (ix b 17)))))) (q:=.sc undef) g32) rfl (fun _=>rfl)) ?_
     refine E0 (C:=!((((decide (((IntKind.wrap .i64 (ix b 18)):Int)=1)) && (decide (((IntKind.wrap .i64 ((IntKind.wrap .i64 (256 * (IntKind.wrap .i64 (ix b 16)))) + (IntKind.wrap .i64 (ix b 17)))):Int) < 29))) || ((decide (((IntKind.wrap .i64 (ix b 18)):Int)=2)) && (decide (((IntKind.wrap .i64 ((IntKind.wrap .i64 (256 * (IntKind.wrap .i64 (ix b 16)))) + (IntKind.wrap .i64 (ix b 17)))):Int) < 23)))) || ((decide (((IntKind.wrap .i64 (ix b 18)):Int)=3)) && (decide (((IntKind.wrap .i64 ((IntKind.wrap .i64 (256 * (IntKind.wrap .i64 (ix b 16)))) + (IntKind.wrap .i64 (ix b 17)))):Int) < 21))))) (p:=.sc (.bool ((decide (((IntKind.wrap .i64 (ix b 18)):Int)=4)) && (!(decide (((IntKind.wrap .i64 ((IntKind.wrap .i64 (256 * (IntKind.wrap .i64 (ix b 16)))) + (IntKind.wrap .i64 (ix b 17)))):Int)=19)))))) (H8 (b:=(((decide (((IntKind.wrap .i64 (ix b 18)):Int)=1)) && (decide (((IntKind.wrap .i64 ((IntKind.wrap .i64 (256 * (IntKind.wrap .i64 (ix b 16)))) + (IntKind.wrap .i64 (ix b 17)))):Int) < 29))) || ((decide (((IntKind.wrap .i64 (ix b 18)):Int)=2)) && (decide (((IntKind.wrap .i64 ((IntKind.wrap .i64 (256 * (IntKind.wrap .i64 (ix b 16)))) + (IntKind.wrap .i64 (ix b 17)))):Int) < 23)))) || ((decide (((IntKind.wrap .i64 (ix b 18)):Int)=3)) && (decide (((IntKind.wrap .i64 ((IntKind.wrap .i64 (256 * (IntKind.wrap .i64 (ix b 16)))) + (IntKind.wrap .i64 (ix b 17)))):Int) < 21)))) (c:=!((((decide (((IntKind.wrap .i64 (ix b 18)):Int)=1)) && (decide (((IntKind.wrap .i64 ((IntKind.wrap .i64 (256 * (IntKind.wrap .i64 (ix b 16)))) + (IntKind.wrap .i64 (ix b 17)))):Int) < 29))) || ((decide (((IntKind.wrap .i64 (ix b 18)):Int)=2)) && (decide (((IntKind.wrap .i64 ((IntKind.wrap .i64 (256 * (IntKind.wrap .i64 (ix b 16)))) + (IntKind.wrap .i64 (ix b 17)))):Int) < 23)))) || ((decide (((IntKind.wrap .i64 (ix b 18)):Int)=3)) && (decide (((IntKind.wrap .i64 ((IntKind.wrap .i64 (256 * (IntKind.wrap .i64 (ix b 16)))) + (IntKind.wrap .i64 (ix b 17)))):Int) < 21))))) rfl rfl rfl rfl rfl rfl) rfl rfl (fun g33=>J1 (b:=decide (((IntKind.wrap .i64 (ix b 18)):Int)=4)) (y:=!(decide (((IntKind.wrap .i64 ((IntKind.wrap .i64 (256 * (IntKind.wrap .i64 (ix b 16)))) + (IntKind.wrap .i64 (ix b 17)))):Int)=19))) rfl rfl rfl (gt (p:=.sc (.bool (decide (((IntKind.wrap .i64 (ix b 18)):Int)=4)))) (q:=.sc undef) g33) (gA (p:=.sc (.bool (!(decide (((IntKind.wrap .i64 ((IntKind.wrap .i64 (256 * (IntKind.wrap .i64 (ix b 16)))) + (IntKind.wrap .i64 (ix b 17)))):Int)=19))))) (q:=.sc undef) g33)) ?_
     refine B4 rfl (N5 (b:=(((decide (((IntKind.wrap .i64 (ix b 18)):Int)=1)) && (decide (((IntKind.wrap .i64 ((IntKind.wrap .i64 (256 * (IntKind.wrap .i64 (ix b 16)))) + (IntKind.wrap .i64 (ix b 17)))):Int) < 29))) || ((decide (((IntKind.wrap .i64 (ix b 18)):Int)=2)) && (decide (((IntKind.wrap .i64 ((IntKind.wrap .i64 (256 * (IntKind.wrap .i64 (ix b 16)))) + (IntKind.wrap .i64 (ix b 17)))):Int) < 23)))) || ((decide (((IntKind.wrap .i64 (ix b 18)):Int)=3)) && (decide (((IntKind.wrap .i64 ((IntKind.wrap .i64 (256 * (IntKind.wrap .i64 (ix b 16)))) + (IntKind.wrap .i64 (ix b 17)))):Int) < 21)))) (y:=(decide (((IntKind.wrap .i64 (ix b 18)):Int)=4)) && (!(decide (((IntKind.wrap .i64 ((IntKind.wrap .i64 (256 * (IntKind.wrap .i64 (ix b 16)))) + (IntKind.wrap .i64 (ix b 17)))):Int)=19)))) rfl rfl rfl rfl rfl rfl) ?_
     refine D4 ?_
     refine F6 (b:=((((decide (((IntKind.wrap .i64 (ix b 18)):Int)=1)) && (decide (((IntKind.wrap .i64 ((IntKind.wrap .i64 (256 * (IntKind.wrap .i64 (ix b 16)))) + (IntKind.wrap .i64 (ix b 17)))):Int) < 29))) || ((decide (((IntKind.wrap .i64 (ix b 18)):Int)=2)) && (decide (((IntKind.wrap .i64 ((IntKind.wrap .i64 (256 * (IntKind.wrap .i64 (ix b 16)))) + (IntKind.wrap .i64 (ix b 17)))):Int) < 23)))) || ((decide (((IntKind.wrap .i64 (ix b 18)):Int)=3)) && (decide (((IntKind.wrap .i64 ((IntKind.wrap .i64 (256 * (IntKind.wrap .i64 (ix b 16)))) + (IntKind.wrap .i64 (ix b 17)))):Int) < 21)))) || ((decide (((IntKind.wrap .i64 (ix b 18)):Int)=4)) && (!(decide (((IntKind.wrap .i64 ((IntKind.wrap .i64 (256 * (IntKind.wrap .i64 (ix b 16)))) + (IntKind.wrap .i64 (ix b 17)))):Int)=19))))) rfl (fun k34=>?_) (fun k34=>?_)
     ·skip
      refine C6 ?_
      refine B8 ?_
      refine B4 rfl (C2 (p:=.sem (SL (eI .u8) b)) rfl rfl rfl rfl) ?_
      refine B4 rfl (K0 (E:=(eI .u8)) (l:=b) (i:=16) (j:=18) rfl rfl rfl Tryz.underlying22 ty5 (E3 rfl) (I0 rfl) (I0 rfl) (show 0 ≤ 16 ∧ 16 ≤ 18 ∧ 18 ≤ (b.length:Int) from (by first | omega | ((try simp only [z1,z2,z3,z4,z5,z6,z7,z8,z9,zA,zB,zC,zD,D2,C9,C4,C3,C5,B5,B6,B7,A7,A6,C0,D8,E8] at *); omega) | ((try simp only [z1,z2,z3,z4,z5,z6,z7,z8,z9,zA,B5,B6,B7,A7,A6,C0,D8,E8] at *); (try simp (disch:=omega) only [C8]); (try simp only [z1,z2,z3,z4,z5,z6,z7,z8,z9,zA,zB,zC,zD,D2,C9,C4,C3,C5,B5,B6,B7] at *); omega)))) ?_
      refine B4 rfl (I1 (fn:=Tryz.f22) (xs:=[.const (.int .i64 1),.const (.int .i64 2),.tmp 84]) (args:=[.sc (.int .i64 1),.sc (.int .i64 2),.sem (SL (eI .u8) (sub b 16 18))]) (r:=.agg (A3.cells (H2 1 2 (sub b 16 18)))) rfl rfl rfl Tryz.func22 rfl rfl rfl rfl rfl (W9 1 2 (sub b 16 18) (by first | omega | ((try simp only [z1,z2,z3,z4,z5,z6,z7,z8,z9,zA,zB,zC,zD,D2,C9,C4,C3,C5,B5,B6,B7,A7,A6,C0,D8,E8] at *); omega) | ((try simp only [z1,z2,z3,z4,z5,z6,z7,z8,z9,zA,B5,B6,B7,A7,A6,C0,D8,E8] at *); (try simp (disch:=omega) only [C8]); (try simp only [z1,z2,z3,z4,z5,z6,z7,z8,z9,zA,zB,zC,zD,D2,C9,C4,C3,C5,B5,B6,B7] at *); omega)))) ?_
      refine B4 rfl (C7 (p:=.sc (.int .i64 0)) rfl rfl rfl rfl) ?_
      refine B4 rfl (G5 (s:=3) (off:=0) (ps:=J3) (p:=.agg (A3.cells (H2 1 2 (sub b 16 18)))) (qs:=(A3.cells (H2 1 2 (sub b 16 18)))) rfl rfl M5 rfl rfl rfl rfl rfl rfl rfl) ?_
      refine D4 ?_
      refine G2 ?_
      exact F7 (F:=(fun (z:Int × A3)=>⟨[],[],.tup [.sc (.int .i64 z.1),.agg (A3.cells z.2)]⟩)) (z:=(Q0 b)) (v:=(0,(H2 1 2 (sub b 16 18)))) (bF k2 (mR e3 (bF k10 (bF k13 (bT k34 rfl))))) rfl (.two (.tmp 2 (.sc (.int .i64 0)) rfl) (.one (.rfl _)) rfl (.cell 3 41 3 3 true (A3.cells (H2 1 2 (sub b 16 18))) (.agg (A3.cells (H2 1 2 (sub b 16 18)))) rfl rfl M5 rfl rfl rfl) (.one (.rfl _)) rfl) trivial trivial
     ·skip
      refine F9 ?_
      refine C6 ?_
      refine B8 ?_
      refine B4 rfl (C2 (p:=.sc (.int .i64 (IntKind.wrap .i64 ((IntKind.wrap .i64 (256 * (IntKind.wrap .i64 (ix b 16)))) + (IntKind.wrap .i64 (ix b 17)))))) rfl rfl rfl rfl) ?_
      refine B4 rfl (M7 (parts:=[]) (pps:=[]) (qs:=J3) rfl rfl rfl A1o rfl rfl (by kernel_rfl)) ?_
      refine B4 rfl (C7 (p:=.sc (.int .i64 (IntKind.wrap .i64 ((IntKind.wrap .i64 (256 * (IntKind.wrap .i64 (ix b 16)))) + (IntKind.wrap .i64 (ix b 17)))))) rfl rfl rfl rfl) ?_
      refine B4 rfl (G5 (s:=3) (off:=0) (ps:=J3) (p:=.agg J3) (qs:=J3) rfl rfl M5 rfl rfl rfl rfl rfl rfl rfl) ?_
      refine D4 ?_
      refine G2 ?_
      exact F7 (F:=(fun (z:Int × A3)=>⟨[],[],.tup [.sc (.int .i64 z.1),.agg (A3.cells z.2)]⟩)) (z:=(Q0 b)) (v:=((IntKind.wrap .i64 ((IntKind.wrap .i64 (256 * (IntKind.wrap .i64 (ix b 16)))) + (IntKind.wrap .i64 (ix b 17)))),(⟨0,0,[]⟩:A3))) (bF k2 (mR e3 (bF k10 (bF k13 (bF k34 rfl))))) rfl (.two (.tmp 2 (.sc (.int .i64 (IntKind.wrap .i64 ((IntKind.wrap .i64 (256 * (IntKind.wrap .i64 (ix b 16)))) + (IntKind.wrap .i64 (ix b 17)))))) rfl) (.one (.rfl _)) rfl (.cell 3 41 3 3 true J3 (.agg J3) rfl rfl M5 rfl rfl rfl) (.agg (.cons (.rfl _) (.cons (.rfl _) (.cons (.nil _) .nil)))) rfl) trivial trivial
theorem ref05_Head_pf (b:List Int):PF Tryz.prog 10 [.sem (SL (eI .u8) b)] (.tup [.sc (.int .i64 ((Q0 b).1)),.agg (A3.cells ((Q0 b).2))]):=M1 (A2j b) rfl
end Go.Proofs.YtadmpldpipagnaaGreatDoor
