import Derived.Test.YtadmpldpipagnaaGreatDoorRzFnCaps
namespace Go.Proofs.YtadmpldpipagnaaGreatDoor
open Go.Ab
set_option linter.unusedSimpArgs false
set_option linter.unusedVariables false
def K7 (c:B0) (b:List Int):Nat → B0 → List Int → B0 × (List Int)
 | 0,_,_=>default
 | n0 + 1,x1000_0,x1_0 =>
  (bif decide ((0:Int) < (x1_0.length:Int)) then
   (thn (bif (I7 x1_0) && !x1000_0.fFamily then (⟨x1000_0.fFour,x1000_0.fAS4,x1000_0.fGR,x1000_0.fRestarting,x1000_0.fTime,true,!(decide (((O1 .u8 (ix x1_0 3) 128):Int)=0)),x1000_0.fLL,x1000_0.fLLTime⟩:B0) else x1000_0) fun (y_11:B0) =>
    K7 c b n0 y_11 (sub x1_0 4 (x1_0.length:Int)))
  else
   (x1000_0,x1_0))
def I5 (c:B0) (b:List Int):Bool × B0:=
 (bif (decide (((b.length:Int):Int) < 2)) || (!(decide (((Int.tmod (IntKind.wrap .i64 ((b.length:Int) - 2)) 4):Int)=0))) then
  (false,c)
 else
  (thn (K7 c b ((sub b 2 (b.length:Int)).length + 1) (⟨c.fFour,c.fAS4,true,!(decide (((O1 .u8 (ix b 0) 128):Int)=0)),(O1 .i64 (ior .i64 (IntKind.wrap .i64 ((IntKind.wrap .i64 (ix b 0)) * 2 ^ 8)) (IntKind.wrap .i64 (ix b 1))) 4095),false,false,c.fLL,c.fLLTime⟩:B0) (sub b 2 (b.length:Int))) fun (x_0:B0 × (List Int)) =>
   (true,x_0.1)))
set_option maxRecDepth 100000 in
set_option maxHeartbeats 4000000 in
theorem A2i (c:B0) (b:List Int):PG Tryz.prog 94 [(1000,(B0.cells c))] [] [.loc 1000 0,.sem (SL (eI .u8) b)] (fun _:Unit=>True) (fun _=>(fun (z:Bool × B0)=>⟨[(1000,[.sc (.bool z.2.fFour),.sc (.int .i64 z.2.fAS4),.sc (.bool z.2.fGR),.sc (.bool z.2.fRestarting),.sc (.int .i64 z.2.fTime),.sc (.bool z.2.fFamily),.sc (.bool z.2.fForward),.sc (.bool z.2.fLL),.sc (.int .i64 z.2.fLLTime)])],[],.sc (.bool z.1)⟩) (I5 c b)):=by
 refine M4 (N:=73) (l:=[.tmp 4]) Tryz.func94 rfl rfl rfl (Nat.le_of_ble_eq_true rfl) fun w0 i0 F βs=>?_
 refine H5 1 rfl (fun hl1=>?_)
 refine C6 ?_
 refine B8 ?_
 refine B4 rfl (C7 (p:=.sc (.bool false)) rfl rfl rfl rfl) ?_
 refine D4 ?_
 refine C6 ?_
 refine C6 ?_
 refine B8 ?_
 refine B4 rfl (C2 (p:=.sem (SL (eI .u8) b)) rfl rfl rfl rfl) ?_
 refine B4 rfl (L6 rfl rfl rfl Tryz.underlying22 (E3 rfl)) ?_
 refine B4 rfl (E6 (u1:=.int .i64 (b.length:Int)) (u2:=.int .i64 2) (v:=.bool (decide (((b.length:Int):Int) < 2))) rfl rfl rfl rfl rfl (fun _=>rfl)) ?_
 refine B4 rfl (C2 (p:=.sc (.bool (decide (((b.length:Int):Int) < 2)))) rfl rfl rfl rfl) ?_
 refine E0 (C:=!(decide (((b.length:Int):Int) < 2))) (p:=.sem (SL (eI .u8) b)) (H8 (b:=decide (((b.length:Int):Int) < 2)) (c:=!(decide (((b.length:Int):Int) < 2))) rfl rfl rfl rfl rfl rfl) rfl rfl (fun g2=>C2 (p:=.sem (SL (eI .u8) b)) rfl rfl rfl rfl) ?_
 refine E0 (C:=!(decide (((b.length:Int):Int) < 2))) (p:=.sc (.int .i64 (b.length:Int))) (H8 (b:=decide (((b.length:Int):Int) < 2)) (c:=!(decide (((b.length:Int):Int) < 2))) rfl rfl rfl rfl rfl rfl) rfl rfl (fun g3=>L6 rfl rfl rfl Tryz.underlying22 (by exact (E3 (by exact (gt (p:=.sem (SL (eI .u8) b)) (q:=.sc undef) g3))))) ?_
 refine E0 (C:=!(decide (((b.length:Int):Int) < 2))) (p:=.sc (.int .i64 (IntKind.wrap .i64 ((b.length:Int) - 2)))) (H8 (b:=decide (((b.length:Int):Int) < 2)) (c:=!(decide (((b.length:Int):Int) < 2))) rfl rfl rfl rfl rfl rfl) rfl rfl (fun g4=>E6 (u1:=.int .i64 (b.length:Int)) (u2:=.int .i64 2) (v:=.int .i64 (IntKind.wrap .i64 ((b.length:Int) - 2))) rfl rfl rfl (gt (p:=.sc (.int .i64 (b.length:Int))) (q:=.sc undef) g4) rfl (fun _=>rfl)) ?_
 refine E0 (C:=!(decide (((b.length:Int):Int) < 2))) (p:=.sc (.int .i64 (Int.tmod (IntKind.wrap .i64 ((b.length:Int) - 2)) 4))) (H8 (b:=decide (((b.length:Int):Int) < 2)) (c:=!(decide (((b.length:Int):Int) < 2))) rfl rfl rfl rfl rfl rfl) rfl rfl (fun g5=>E6 (u1:=.int .i64 (IntKind.wrap .i64 ((b.length:Int) - 2))) (u2:=.int .i64 4) (v:=.int .i64 (Int.tmod (IntKind.wrap .i64 ((b.length:Int) - 2)) 4)) rfl rfl rfl (gt (p:=.sc (.int .i64 (IntKind.wrap .i64 ((b.length:Int) - 2)))) (q:=.sc undef) g5) rfl (fun _=>rfl)) ?_
 refine E0 (C:=!(decide (((b.length:Int):Int) < 2))) (p:=.sc (.bool (!(decide (((Int.tmod (IntKind.wrap .i64 ((b.length:Int) - 2)) 4):Int)=0))))) (H8 (b:=decide (((b.length:Int):Int) < 2)) (c:=!(decide (((b.length:Int):Int) < 2))) rfl rfl rfl rfl rfl rfl) rfl rfl (fun g6=>E6 (u1:=.int .i64 (Int.tmod (IntKind.wrap .i64 ((b.length:Int) - 2)) 4)) (u2:=.int .i64 0) (v:=.bool (!(decide (((Int.tmod (IntKind.wrap .i64 ((b.length:Int) - 2)) 4):Int)=0)))) rfl rfl rfl (gt (p:=.sc (.int .i64 (Int.tmod (IntKind.wrap .i64 ((b.length:Int) - 2)) 4))) (q:=.sc undef) g6) rfl (fun _=>rfl)) ?_
 refine B4 rfl (N5 (b:=decide (((b.length:Int):Int) < 2)) (y:=!(decide (((Int.tmod (IntKind.wrap .i64 ((b.length:Int) - 2)) 4):Int)=0))) rfl rfl rfl rfl rfl rfl) ?_
 refine D4 ?_
 refine F6 (b:=(decide (((b.length:Int):Int) < 2)) || (!(decide (((Int.tmod (IntKind.wrap .i64 ((b.length:Int) - 2)) 4):Int)=0)))) rfl (fun k7=>?_) (fun k7=>?_)
 ·skip
  refine C6 ?_
  refine B8 ?_
  refine B4 rfl (C7 (p:=.sc (.bool false)) rfl rfl rfl rfl) ?_
  refine D4 ?_
  refine G2 ?_
  exact F7 (F:=(fun (z:Bool × B0)=>⟨[(1000,[.sc (.bool z.2.fFour),.sc (.int .i64 z.2.fAS4),.sc (.bool z.2.fGR),.sc (.bool z.2.fRestarting),.sc (.int .i64 z.2.fTime),.sc (.bool z.2.fFamily),.sc (.bool z.2.fForward),.sc (.bool z.2.fLL),.sc (.int .i64 z.2.fLLTime)])],[],.sc (.bool z.1)⟩)) (z:=(I5 c b)) (v:=(false,c)) (bT k7 rfl) rfl (.one (.tmp 4 (.sc (.bool false)) rfl) (.one (.rfl _)) rfl) ⟨⟨(B0.cells c),rfl,(.cons (.rfl _) (.cons (.rfl _) (.cons (.rfl _) (.cons (.rfl _) (.cons (.rfl _) (.cons (.rfl _) (.cons (.rfl _) (.cons (.rfl _) (.cons (.rfl _) .nil)))))))))⟩,trivial⟩ trivial
 ·skip
  refine F9 ?_
  refine C6 ?_
  refine Q5 { ds:=[some 15,some 16,some 17,some 18,some 19,some 20,some 21,some 22,some 23,some 24,some 25,some 26,some 27,some 28,some 29,some 30,some 31,some 32,some 33,some 34,some 35,some 36,some 37,none,some 38,some 39,none,some 40,some 41,none,some 42,some 43,none,some 44,some 45,none],p:=fun i=>[.loc 1000 0,.loc 1000 0,.loc 1000 0,.loc 1000 0,.loc 1000 0,.sem (SL (eI .u8) b),.sem (PT [.sc (.int .u8 (ix b 0))]),.sc (.int .u8 (ix b 0)),.sc (.int .u8 (O1 .u8 (ix b 0) 128)),.sc (.bool (!(decide (((O1 .u8 (ix b 0) 128):Int)=0)))),.sem (SL (eI .u8) b),.sem (PT [.sc (.int .u8 (ix b 0))]),.sc (.int .u8 (ix b 0)),.sc (.int .i64 (IntKind.wrap .i64 (ix b 0))),.sc (.int .i64 (IntKind.wrap .i64 ((IntKind.wrap .i64 (ix b 0)) * 2 ^ 8))),.sem (SL (eI .u8) b),.sem (PT [.sc (.int .u8 (ix b 1))]),.sc (.int .u8 (ix b 1)),.sc (.int .i64 (IntKind.wrap .i64 (ix b 1))),.sc (.int .i64 (ior .i64 (IntKind.wrap .i64 ((IntKind.wrap .i64 (ix b 0)) * 2 ^ 8)) (IntKind.wrap .i64 (ix b 1)))),.sc (.int .i64 (O1 .i64 (ior .i64 (IntKind.wrap .i64 ((IntKind.wrap .i64 (ix b 0)) * 2 ^ 8)) (IntKind.wrap .i64 (ix b 1))) 4095)),.loc 1000 0,.loc 1000 2,.any,.loc 1000 0,.loc 1000 3,.any,.loc 1000 0,.loc 1000 4,.any,.loc 1000 0,.loc 1000 5,.any,.loc 1000 0,.loc 1000 6,.any].getD i .any,al:=[],st:=[(23,1000,2,[.sc (.bool true)]),(26,1000,3,[.sc (.bool (!(decide (((O1 .u8 (ix b 0) 128):Int)=0))))]),(29,1000,4,[.sc (.int .i64 (O1 .i64 (ior .i64 (IntKind.wrap .i64 ((IntKind.wrap .i64 (ix b 0)) * 2 ^ 8)) (IntKind.wrap .i64 (ix b 1))) 4095))]),(32,1000,5,[.sc (.bool false)]),(35,1000,6,[.sc (.bool false)])] } rfl (by kernel_rfl) rfl rfl ?_ (fun bD hb=>?_)
  ·refine ⟨fun bD hc hi hd=>?_,fun bD hc hi hd=>?_,fun bD hc hi hd=>?_,fun bD hc hi hd=>?_,fun bD hc hi hd=>?_,fun bD hc hi hd=>?_,fun bD hc hi hd=>?_,fun bD hc hi hd=>?_,fun bD hc hi hd=>?_,fun bD hc hi hd=>?_,fun bD hc hi hd=>?_,fun bD hc hi hd=>?_,fun bD hc hi hd=>?_,fun bD hc hi hd=>?_,fun bD hc hi hd=>?_,fun bD hc hi hd=>?_,fun bD hc hi hd=>?_,fun bD hc hi hd=>?_,fun bD hc hi hd=>?_,fun bD hc hi hd=>?_,fun bD hc hi hd=>?_,fun bD hc hi hd=>?_,fun bD hc hi hd=>?_,fun bD hc hi hd=>?_,fun bD hc hi hd=>?_,fun bD hc hi hd=>?_,fun bD hc hi hd=>?_,fun bD hc hi hd=>?_,fun bD hc hi hd=>?_,fun bD hc hi hd=>?_,fun bD hc hi hd=>?_,fun bD hc hi hd=>?_,fun bD hc hi hd=>?_,fun bD hc hi hd=>?_,fun bD hc hi hd=>?_,fun bD hc hi hd=>?_,trivial⟩
   ·exact F3.putStep (i:=0) (q:=.loc 1000 0) rfl rfl rfl (C1 rfl (C2 (p:=.loc 1000 0) rfl rfl rfl rfl))
   ·exact F3.putStep (i:=1) (q:=.loc 1000 0) rfl rfl rfl (C1 rfl (C2 (p:=.loc 1000 0) rfl rfl rfl rfl))
   ·exact F3.putStep (i:=2) (q:=.loc 1000 0) rfl rfl rfl (C1 rfl (C2 (p:=.loc 1000 0) rfl rfl rfl rfl))
   ·exact F3.putStep (i:=3) (q:=.loc 1000 0) rfl rfl rfl (C1 rfl (C2 (p:=.loc 1000 0) rfl rfl rfl rfl))
   ·exact F3.putStep (i:=4) (q:=.loc 1000 0) rfl rfl rfl (C1 rfl (C2 (p:=.loc 1000 0) rfl rfl rfl rfl))
   ·exact F3.putStep (i:=5) (q:=.sem (SL (eI .u8) b)) rfl rfl rfl (C1 rfl (C2 (p:=.sem (SL (eI .u8) b)) rfl rfl rfl rfl))
   ·exact F3.putStep (i:=6) (q:=.sem (PT [.sc (.int .u8 (ix b 0))])) rfl rfl rfl (C1 rfl (N6 (E:=(eI .u8)) (l:=b) (n:=0) (ps:=[.sc (.int .u8 (ix b 0))]) rfl rfl rfl Tryz.underlying22 ty5 (by exact (E3 (by exact (gt (p:=.sem (SL (eI .u8) b)) (q:=.any) (hd 5 (by decide)))))) rfl (by first | omega | ((try simp only [z1,z2,z3,z4,z5,z6,z7,z8,z9,zA,zB,zC,zD,D2,C9,C4,C3,C5,B5,B6,B7,A7,A6] at *); omega) | ((try simp only [z1,z2,z3,z4,z5,z6,z7,z8,z9,zA,B5,B6,B7,A7,A6] at *); (try simp (disch:=omega) only [C8]); (try simp only [z1,z2,z3,z4,z5,z6,z7,z8,z9,zA,zB,zC,zD,D2,C9,C4,C3,C5,B5,B6,B7] at *); omega)) rfl))
   ·exact F3.putStep (i:=7) (q:=.sc (.int .u8 (ix b 0))) rfl rfl rfl (C1 rfl (G4 (ps:=[.sc (.int .u8 (ix b 0))]) (p:=.sc (.int .u8 (ix b 0))) rfl rfl rfl ty5 (gt (p:=.sem (PT [.sc (.int .u8 (ix b 0))])) (q:=.any) (hd 6 (by decide))) rfl rfl rfl rfl))
   ·exact F3.putStep (i:=8) (q:=.sc (.int .u8 (O1 .u8 (ix b 0) 128))) rfl rfl rfl (C1 rfl (E6 (u1:=.int .u8 (ix b 0)) (u2:=.int .u8 128) (v:=.int .u8 (O1 .u8 (ix b 0) 128)) rfl rfl rfl (gt (p:=.sc (.int .u8 (ix b 0))) (q:=.any) (hd 7 (by decide))) rfl (fun _=>rfl)))
   ·exact F3.putStep (i:=9) (q:=.sc (.bool (!(decide (((O1 .u8 (ix b 0) 128):Int)=0))))) rfl rfl rfl (C1 rfl (E6 (u1:=.int .u8 (O1 .u8 (ix b 0) 128)) (u2:=.int .u8 0) (v:=.bool (!(decide (((O1 .u8 (ix b 0) 128):Int)=0)))) rfl rfl rfl (gt (p:=.sc (.int .u8 (O1 .u8 (ix b 0) 128))) (q:=.any) (hd 8 (by decide))) rfl (fun _=>rfl)))
   ·exact F3.putStep (i:=10) (q:=.sem (SL (eI .u8) b)) rfl rfl rfl (C1 rfl (C2 (p:=.sem (SL (eI .u8) b)) rfl rfl rfl rfl))
   ·exact F3.putStep (i:=11) (q:=.sem (PT [.sc (.int .u8 (ix b 0))])) rfl rfl rfl (C1 rfl (N6 (E:=(eI .u8)) (l:=b) (n:=0) (ps:=[.sc (.int .u8 (ix b 0))]) rfl rfl rfl Tryz.underlying22 ty5 (by exact (E3 (by exact (gt (p:=.sem (SL (eI .u8) b)) (q:=.any) (hd 10 (by decide)))))) rfl (by first | omega | ((try simp only [z1,z2,z3,z4,z5,z6,z7,z8,z9,zA,zB,zC,zD,D2,C9,C4,C3,C5,B5,B6,B7,A7,A6] at *); omega) | ((try simp only [z1,z2,z3,z4,z5,z6,z7,z8,z9,zA,B5,B6,B7,A7,A6] at *); (try simp (disch:=omega) only [C8]); (try simp only [z1,z2,z3,z4,z5,z6,z7,z8,z9,zA,zB,zC,zD,D2,C9,C4,C3,C5,B5,B6,B7] at *); omega)) rfl))
   ·exact F3.putStep (i:=12) (q:=.sc (.int .u8 (ix b 0))) rfl rfl rfl (C1 rfl (G4 (ps:=[.sc (.int .u8 (ix b 0))]) (p:=.sc (.int .u8 (ix b 0))) rfl rfl rfl ty5 (gt (p:=.sem (PT [.sc (.int .u8 (ix b 0))])) (q:=.any) (hd 11 (by decide))) rfl rfl rfl rfl))
   ·exact F3.putStep (i:=13) (q:=.sc (.int .i64 (IntKind.wrap .i64 (ix b 0)))) rfl rfl rfl (C1 rfl (G8 (m:=(IntKind.wrap .i64 (ix b 0))) rfl rfl rfl Tryz.underlying5 Tryz.underlying3 (gt (p:=.sc (.int .u8 (ix b 0))) (q:=.any) (hd 12 (by decide))) rfl))
   ·exact F3.putStep (i:=14) (q:=.sc (.int .i64 (IntKind.wrap .i64 ((IntKind.wrap .i64 (ix b 0)) * 2 ^ 8)))) rfl rfl rfl (C1 rfl (E6 (u1:=.int .i64 (IntKind.wrap .i64 (ix b 0))) (u2:=.int .u64 8) (v:=.int .i64 (IntKind.wrap .i64 ((IntKind.wrap .i64 (ix b 0)) * 2 ^ 8))) rfl rfl rfl (gt (p:=.sc (.int .i64 (IntKind.wrap .i64 (ix b 0)))) (q:=.any) (hd 13 (by decide))) rfl (fun _=>rfl)))
   ·exact F3.putStep (i:=15) (q:=.sem (SL (eI .u8) b)) rfl rfl rfl (C1 rfl (C2 (p:=.sem (SL (eI .u8) b)) rfl rfl rfl rfl))
   ·exact F3.putStep (i:=16) (q:=.sem (PT [.sc (.int .u8 (ix b 1))])) rfl rfl rfl (C1 rfl (N6 (E:=(eI .u8)) (l:=b) (n:=1) (ps:=[.sc (.int .u8 (ix b 1))]) rfl rfl rfl Tryz.underlying22 ty5 (by exact (E3 (by exact (gt (p:=.sem (SL (eI .u8) b)) (q:=.any) (hd 15 (by decide)))))) rfl (by first | omega | ((try simp only [z1,z2,z3,z4,z5,z6,z7,z8,z9,zA,zB,zC,zD,D2,C9,C4,C3,C5,B5,B6,B7,A7,A6] at *); omega) | ((try simp only [z1,z2,z3,z4,z5,z6,z7,z8,z9,zA,B5,B6,B7,A7,A6] at *); (try simp (disch:=omega) only [C8]); (try simp only [z1,z2,z3,z4,z5,z6,z7,z8,z9,zA,zB,zC,zD,D2,C9,C4,C3,C5,B5,B6,B7] at *); omega)) rfl))
   ·exact F3.putStep (i:=17) (q:=.sc (.int .u8 (ix b 1))) rfl rfl rfl (C1 rfl (G4 (ps:=[.sc (.int .u8 (ix b 1))]) (p:=.sc (.int .u8 (ix b 1))) rfl rfl rfl ty5 (gt (p:=.sem (PT [.sc (.int .u8 (ix b 1))])) (q:=.any) (hd 16 (by decide))) rfl rfl rfl rfl))
   ·exact F3.putStep (i:=18) (q:=.sc (.int .i64 (IntKind.wrap .i64 (ix b 1)))) rfl rfl rfl (C1 rfl (G8 (m:=(IntKind.wrap .i64 (ix b 1))) rfl rfl rfl Tryz.underlying5 Tryz.underlying3 (gt (p:=.sc (.int .u8 (ix b 1))) (q:=.any) (hd 17 (by decide))) rfl))
   ·exact F3.putStep (i:=19) (q:=.sc (.int .i64 (ior .i64 (IntKind.wrap .i64 ((IntKind.wrap .i64 (ix b 0)) * 2 ^ 8)) (IntKind.wrap .i64 (ix b 1))))) rfl rfl rfl (C1 rfl (E6 (u1:=.int .i64 (IntKind.wrap .i64 ((IntKind.wrap .i64 (ix b 0)) * 2 ^ 8))) (u2:=.int .i64 (IntKind.wrap .i64 (ix b 1))) (v:=.int .i64 (ior .i64 (IntKind.wrap .i64 ((IntKind.wrap .i64 (ix b 0)) * 2 ^ 8)) (IntKind.wrap .i64 (ix b 1)))) rfl rfl rfl (gt (p:=.sc (.int .i64 (IntKind.wrap .i64 ((IntKind.wrap .i64 (ix b 0)) * 2 ^ 8)))) (q:=.any) (hd 14 (by decide))) (gt (p:=.sc (.int .i64 (IntKind.wrap .i64 (ix b 1)))) (q:=.any) (hd 18 (by decide))) (fun _=>rfl)))
   ·exact F3.putStep (i:=20) (q:=.sc (.int .i64 (O1 .i64 (ior .i64 (IntKind.wrap .i64 ((IntKind.wrap .i64 (ix b 0)) * 2 ^ 8)) (IntKind.wrap .i64 (ix b 1))) 4095))) rfl rfl rfl (C1 rfl (E6 (u1:=.int .i64 (ior .i64 (IntKind.wrap .i64 ((IntKind.wrap .i64 (ix b 0)) * 2 ^ 8)) (IntKind.wrap .i64 (ix b 1)))) (u2:=.int .i64 4095) (v:=.int .i64 (O1 .i64 (ior .i64 (IntKind.wrap .i64 ((IntKind.wrap .i64 (ix b 0)) * 2 ^ 8)) (IntKind.wrap .i64 (ix b 1))) 4095)) rfl rfl rfl (gt (p:=.sc (.int .i64 (ior .i64 (IntKind.wrap .i64 ((IntKind.wrap .i64 (ix b 0)) * 2 ^ 8)) (IntKind.wrap .i64 (ix b 1))))) (q:=.any) (hd 19 (by decide))) rfl (fun _=>rfl)))
   ·exact F3.putStep (i:=21) (q:=.loc 1000 0) rfl rfl rfl (C1 rfl (H3 (s:=1000) (off:=0) rfl rfl rfl (gt (p:=.loc 1000 0) (q:=.any) (hd 0 (by decide)))))
   ·exact F3.putStep (i:=22) (q:=.loc 1000 2) rfl rfl rfl (C1 rfl (D3 (b:=1000) (k:=0) (m:=2) rfl rfl rfl A0e (gt (p:=.loc 1000 0) (q:=.any) (hd 21 (by decide))) rfl))
   ·exact L5 (i:=23) (s:=1000) (off:=2) (ps0:=(B0.cells c)) (ps:=(B0.cells c)) (qs:=[.sc (.bool true)]) (p:=.sc (.bool true)) 0 hc hd rfl rfl rfl ty4 (gt (p:=.loc 1000 2) (q:=.any) (hd 22 (by decide))) rfl (by exact K3 (ps:=(B0.cells c)) rfl rfl) rfl rfl rfl rfl rfl rfl rfl hi rfl rfl (by kernel_rfl) (by kernel_rfl)
   ·exact F3.putStep (i:=24) (q:=.loc 1000 0) rfl rfl rfl (C1 rfl (H3 (s:=1000) (off:=0) rfl rfl rfl (gt (p:=.loc 1000 0) (q:=.any) (hd 1 (by decide)))))
   ·exact F3.putStep (i:=25) (q:=.loc 1000 3) rfl rfl rfl (C1 rfl (D3 (b:=1000) (k:=0) (m:=3) rfl rfl rfl A0g (gt (p:=.loc 1000 0) (q:=.any) (hd 24 (by decide))) rfl))
   ·exact L5 (i:=26) (s:=1000) (off:=3) (ps0:=(B0.cells c)) (ps:=[.sc (.bool c.fFour),.sc (.int .i64 c.fAS4),.sc (.bool true),.sc (.bool c.fRestarting),.sc (.int .i64 c.fTime),.sc (.bool c.fFamily),.sc (.bool c.fForward),.sc (.bool c.fLL),.sc (.int .i64 c.fLLTime)]) (qs:=[.sc (.bool (!(decide (((O1 .u8 (ix b 0) 128):Int)=0))))]) (p:=.sc (.bool (!(decide (((O1 .u8 (ix b 0) 128):Int)=0))))) 1 hc hd rfl rfl rfl ty4 (gt (p:=.loc 1000 3) (q:=.any) (hd 25 (by decide))) (gt (p:=.sc (.bool (!(decide (((O1 .u8 (ix b 0) 128):Int)=0))))) (q:=.any) (hd 9 (by decide))) (by exact K3 (ps:=(B0.cells c)) rfl rfl) rfl rfl rfl rfl rfl rfl rfl hi rfl rfl (by kernel_rfl) (by kernel_rfl)
   ·exact F3.putStep (i:=27) (q:=.loc 1000 0) rfl rfl rfl (C1 rfl (H3 (s:=1000) (off:=0) rfl rfl rfl (gt (p:=.loc 1000 0) (q:=.any) (hd 2 (by decide)))))
   ·exact F3.putStep (i:=28) (q:=.loc 1000 4) rfl rfl rfl (C1 rfl (D3 (b:=1000) (k:=0) (m:=4) rfl rfl rfl V2 (gt (p:=.loc 1000 0) (q:=.any) (hd 27 (by decide))) rfl))
   ·exact L5 (i:=29) (s:=1000) (off:=4) (ps0:=(B0.cells c)) (ps:=[.sc (.bool c.fFour),.sc (.int .i64 c.fAS4),.sc (.bool true),.sc (.bool (!(decide (((O1 .u8 (ix b 0) 128):Int)=0)))),.sc (.int .i64 c.fTime),.sc (.bool c.fFamily),.sc (.bool c.fForward),.sc (.bool c.fLL),.sc (.int .i64 c.fLLTime)]) (qs:=[.sc (.int .i64 (O1 .i64 (ior .i64 (IntKind.wrap .i64 ((IntKind.wrap .i64 (ix b 0)) * 2 ^ 8)) (IntKind.wrap .i64 (ix b 1))) 4095))]) (p:=.sc (.int .i64 (O1 .i64 (ior .i64 (IntKind.wrap .i64 ((IntKind.wrap .i64 (ix b 0)) * 2 ^ 8)) (IntKind.wrap .i64 (ix b 1))) 4095))) 2 hc hd rfl rfl rfl ty3 (gt (p:=.loc 1000 4) (q:=.any) (hd 28 (by decide))) (gt (p:=.sc (.int .i64 (O1 .i64 (ior .i64 (IntKind.wrap .i64 ((IntKind.wrap .i64 (ix b 0)) * 2 ^ 8)) (IntKind.wrap .i64 (ix b 1))) 4095))) (q:=.any) (hd 20 (by decide))) (by exact K3 (ps:=(B0.cells c)) rfl rfl) rfl rfl rfl rfl rfl rfl rfl hi rfl rfl (by kernel_rfl) (by kernel_rfl)
   ·exact F3.putStep (i:=30) (q:=.loc 1000 0) rfl rfl rfl (C1 rfl (H3 (s:=1000) (off:=0) rfl rfl rfl (gt (p:=.loc 1000 0) (q:=.any) (hd 3 (by decide)))))
   ·exact F3.putStep (i:=31) (q:=.loc 1000 5) rfl rfl rfl (C1 rfl (D3 (b:=1000) (k:=0) (m:=5) rfl rfl rfl T8 (gt (p:=.loc 1000 0) (q:=.any) (hd 30 (by decide))) rfl))
   ·exact L5 (i:=32) (s:=1000) (off:=5) (ps0:=(B0.cells c)) (ps:=[.sc (.bool c.fFour),.sc (.int .i64 c.fAS4),.sc (.bool true),.sc (.bool (!(decide (((O1 .u8 (ix b 0) 128):Int)=0)))),.sc (.int .i64 (O1 .i64 (ior .i64 (IntKind.wrap .i64 ((IntKind.wrap .i64 (ix b 0)) * 2 ^ 8)) (IntKind.wrap .i64 (ix b 1))) 4095)),.sc (.bool c.fFamily),.sc (.bool c.fForward),.sc (.bool c.fLL),.sc (.int .i64 c.fLLTime)]) (qs:=[.sc (.bool false)]) (p:=.sc (.bool false)) 3 hc hd rfl rfl rfl ty4 (gt (p:=.loc 1000 5) (q:=.any) (hd 31 (by decide))) rfl (by exact K3 (ps:=(B0.cells c)) rfl rfl) rfl rfl rfl rfl rfl rfl rfl hi rfl rfl (by kernel_rfl) (by kernel_rfl)
   ·exact F3.putStep (i:=33) (q:=.loc 1000 0) rfl rfl rfl (C1 rfl (H3 (s:=1000) (off:=0) rfl rfl rfl (gt (p:=.loc 1000 0) (q:=.any) (hd 4 (by decide)))))
   ·exact F3.putStep (i:=34) (q:=.loc 1000 6) rfl rfl rfl (C1 rfl (D3 (b:=1000) (k:=0) (m:=6) rfl rfl rfl j3 (gt (p:=.loc 1000 0) (q:=.any) (hd 33 (by decide))) rfl))
   ·exact L5 (i:=35) (s:=1000) (off:=6) (ps0:=(B0.cells c)) (ps:=[.sc (.bool c.fFour),.sc (.int .i64 c.fAS4),.sc (.bool true),.sc (.bool (!(decide (((O1 .u8 (ix b 0) 128):Int)=0)))),.sc (.int .i64 (O1 .i64 (ior .i64 (IntKind.wrap .i64 ((IntKind.wrap .i64 (ix b 0)) * 2 ^ 8)) (IntKind.wrap .i64 (ix b 1))) 4095)),.sc (.bool false),.sc (.bool c.fForward),.sc (.bool c.fLL),.sc (.int .i64 c.fLLTime)]) (qs:=[.sc (.bool false)]) (p:=.sc (.bool false)) 4 hc hd rfl rfl rfl ty4 (gt (p:=.loc 1000 6) (q:=.any) (hd 34 (by decide))) rfl (by exact K3 (ps:=(B0.cells c)) rfl rfl) rfl rfl rfl rfl rfl rfl rfl hi rfl rfl (by kernel_rfl) (by kernel_rfl)
  obtain rfl:bD=fun _=>true:=funext hb
  refine C6 ?_
  refine C6 ?_
  refine B8 ?_
  refine B4 rfl (C2 (p:=.sem (SL (eI .u8) b)) rfl rfl rfl rfl) ?_
  refine B4 rfl (K0 (E:=(eI .u8)) (l:=b) (i:=2) (j:=(b.length:Int)) rfl rfl rfl Tryz.underlying22 ty5 (E3 rfl) (I0 rfl) (L3 rfl) (show 0 ≤ 2 ∧ 2 ≤ (b.length:Int) ∧ (b.length:Int) ≤ (b.length:Int) from (by first | omega | ((try simp only [z1,z2,z3,z4,z5,z6,z7,z8,z9,zA,zB,zC,zD,D2,C9,C4,C3,C5,B5,B6,B7,A7,A6] at *); omega) | ((try simp only [z1,z2,z3,z4,z5,z6,z7,z8,z9,zA,B5,B6,B7,A7,A6] at *); (try simp (disch:=omega) only [C8]); (try simp only [z1,z2,z3,z4,z5,z6,z7,z8,z9,zA,zB,zC,zD,D2,C9,C4,C3,C5,B5,B6,B7] at *); omega)))) ?_
  refine B4 rfl (C7 (p:=.sem (SL (eI .u8) (sub b 2 (b.length:Int)))) rfl rfl rfl rfl) ?_
  refine D4 ?_
  refine V4 (ι:=B0 × (List Int)) (p:=fun x_0=>(K7 c b ((sub b 2 (b.length:Int)).length + 1) (⟨c.fFour,c.fAS4,true,!(decide (((O1 .u8 (ix b 0) 128):Int)=0)),(O1 .i64 (ior .i64 (IntKind.wrap .i64 ((IntKind.wrap .i64 (ix b 0)) * 2 ^ 8)) (IntKind.wrap .i64 (ix b 1))) 4095),false,false,c.fLL,c.fLLTime⟩:B0) (sub b 2 (b.length:Int)))=x_0) (S:=fun x_0=>St.of 73 [(0,.loc 1000 0),(1,.sem (SL (eI .u8) x_0.2)),(4,.sc (.bool false))] [(1000,[.sc (.bool x_0.1.fFour),.sc (.int .i64 x_0.1.fAS4),.sc (.bool x_0.1.fGR),.sc (.bool x_0.1.fRestarting),.sc (.int .i64 x_0.1.fTime),.sc (.bool x_0.1.fFamily),.sc (.bool x_0.1.fForward),.sc (.bool x_0.1.fLL),.sc (.int .i64 x_0.1.fLLTime)])] []) (by first | exact V3 | exact X8 | exact Y3 | exact Y0) ?_ (fun x_0 e8=>?_)
  ·skip
   refine H6 ?_
   refine R3 (ι:=Nat × B0 × (List Int)) (S:=fun i=>St.of 73 [(0,.loc 1000 0),(1,.sem (SL (eI .u8) i.2.2)),(4,.sc (.bool false))] [(1000,[.sc (.bool i.2.1.fFour),.sc (.int .i64 i.2.1.fAS4),.sc (.bool i.2.1.fGR),.sc (.bool i.2.1.fRestarting),.sc (.int .i64 i.2.1.fTime),.sc (.bool i.2.1.fFamily),.sc (.bool i.2.1.fForward),.sc (.bool i.2.1.fLL),.sc (.int .i64 i.2.1.fLLTime)])] []) (J:=fun i=>K7 c b i.1 i.2.1 i.2.2=(K7 c b ((sub b 2 (b.length:Int)).length + 1) (⟨c.fFour,c.fAS4,true,!(decide (((O1 .u8 (ix b 0) 128):Int)=0)),(O1 .i64 (ior .i64 (IntKind.wrap .i64 ((IntKind.wrap .i64 (ix b 0)) * 2 ^ 8)) (IntKind.wrap .i64 (ix b 1))) 4095),false,false,c.fLL,c.fLLTime⟩:B0) (sub b 2 (b.length:Int))) ∧ (i.2.2.length < i.1) ∧ ((i.2.2.length:Int) % 4=0)) (μ:=fun i=>i.1) (i₀:=(((sub b 2 (b.length:Int)).length + 1),(⟨c.fFour,c.fAS4,true,!(decide (((O1 .u8 (ix b 0) 128):Int)=0)),(O1 .i64 (ior .i64 (IntKind.wrap .i64 ((IntKind.wrap .i64 (ix b 0)) * 2 ^ 8)) (IntKind.wrap .i64 (ix b 1))) 4095),false,false,c.fLL,c.fLLTime⟩:B0),(sub b 2 (b.length:Int)))) (G9 rfl ⟨⟨rfl,(.one (.rfl _))⟩,⟨⟨rfl,(.one (.rfl _))⟩,⟨⟨rfl,(.one (.rfl _))⟩,trivial⟩⟩⟩ ⟨⟨[.sc (.bool c.fFour),.sc (.int .i64 c.fAS4),.sc (.bool true),.sc (.bool (!(decide (((O1 .u8 (ix b 0) 128):Int)=0)))),.sc (.int .i64 (O1 .i64 (ior .i64 (IntKind.wrap .i64 ((IntKind.wrap .i64 (ix b 0)) * 2 ^ 8)) (IntKind.wrap .i64 (ix b 1))) 4095)),.sc (.bool false),.sc (.bool false),.sc (.bool c.fLL),.sc (.int .i64 c.fLLTime)],rfl,(.cons (wkE (f:=(fun z=>.sc (.bool z))) rfl) (.cons (wkE (f:=(fun z=>.sc (.int .i64 z))) rfl) (.cons (wkE (f:=(fun z=>.sc (.bool z))) rfl) (.cons (wkE (f:=(fun z=>.sc (.bool z))) rfl) (.cons (wkE (f:=(fun z=>.sc (.int .i64 z))) rfl) (.cons (wkE (f:=(fun z=>.sc (.bool z))) rfl) (.cons (wkE (f:=(fun z=>.sc (.bool z))) rfl) (.cons (wkE (f:=(fun z=>.sc (.bool z))) rfl) (.cons (wkE (f:=(fun z=>.sc (.int .i64 z))) rfl) .nil)))))))))⟩,trivial⟩ trivial) ⟨rfl,(by first | omega | ((try simp only [z1,z2,z3,z4,z5,z6,z7,z8,z9,zA,zB,zC,zD,D2,C9,C4,C3,C5,B5,B6,B7,A7,A6] at *); omega) | ((try simp only [z1,z2,z3,z4,z5,z6,z7,z8,z9,zA,B5,B6,B7,A7,A6] at *); (try simp (disch:=omega) only [C8]); (try simp only [z1,z2,z3,z4,z5,z6,z7,z8,z9,zA,zB,zC,zD,D2,C9,C4,C3,C5,B5,B6,B7] at *); omega)),(by first | omega | ((try simp only [z1,z2,z3,z4,z5,z6,z7,z8,z9,zA,zB,zC,zD,D2,C9,C4,C3,C5,B5,B6,B7,A7,A6] at *); omega) | ((try simp only [z1,z2,z3,z4,z5,z6,z7,z8,z9,zA,B5,B6,B7,A7,A6] at *); (try simp (disch:=omega) only [C8]); (try simp only [z1,z2,z3,z4,z5,z6,z7,z8,z9,zA,zB,zC,zD,D2,C9,C4,C3,C5,B5,B6,B7] at *); omega))⟩ ?_
   rintro ⟨n0,x1000_0,x1_0⟩ ⟨hJ0,hm0_0,hm0_1⟩
   obtain ⟨n0,rfl⟩:∃ m,n0=m + 1:=⟨n0 - 1,by have:0 < n0:=Nat.lt_of_le_of_lt (Nat.zero_le _) hm0_0; omega⟩
   replace hJ0:K7 c b (n0 + 1) x1000_0 x1_0=(K7 c b ((sub b 2 (b.length:Int)).length + 1) (⟨c.fFour,c.fAS4,true,!(decide (((O1 .u8 (ix b 0) 128):Int)=0)),(O1 .i64 (ior .i64 (IntKind.wrap .i64 ((IntKind.wrap .i64 (ix b 0)) * 2 ^ 8)) (IntKind.wrap .i64 (ix b 1))) 4095),false,false,c.fLL,c.fLLTime⟩:B0) (sub b 2 (b.length:Int))):=hJ0
   replace hm0_0:x1_0.length < n0 + 1:=hm0_0
   replace hm0_1:(x1_0.length:Int) % 4=0:=hm0_1
   refine H5 1 rfl (fun hl9=>?_)
   refine C6 ?_
   refine C6 ?_
   refine B8 ?_
   refine B4 rfl (C2 (p:=.sem (SL (eI .u8) x1_0)) rfl rfl rfl rfl) ?_
   refine B4 rfl (L6 rfl rfl rfl Tryz.underlying22 (E3 rfl)) ?_
   refine B4 rfl (E6 (u1:=.int .i64 (x1_0.length:Int)) (u2:=.int .i64 0) (v:=.bool (decide ((0:Int) < (x1_0.length:Int)))) rfl rfl rfl rfl rfl (fun _=>rfl)) ?_
   refine D4 ?_
   refine F6 (b:=decide ((0:Int) < (x1_0.length:Int))) rfl (fun k10=>?_) (fun k10=>?_)
   ·skip
    refine F9 ?_
    refine N8 (ι:=B0) (p:=fun y_11=>((bif (I7 x1_0) && !x1000_0.fFamily then (⟨x1000_0.fFour,x1000_0.fAS4,x1000_0.fGR,x1000_0.fRestarting,x1000_0.fTime,true,!(decide (((O1 .u8 (ix x1_0 3) 128):Int)=0)),x1000_0.fLL,x1000_0.fLLTime⟩:B0) else x1000_0))=y_11) (S:=fun y_11=>St.of 73 [(0,.loc 1000 0),(1,.sem (SL (eI .u8) x1_0)),(4,.sc (.bool false))] [(1000,[.sc (.bool y_11.fFour),.sc (.int .i64 y_11.fAS4),.sc (.bool y_11.fGR),.sc (.bool y_11.fRestarting),.sc (.int .i64 y_11.fTime),.sc (.bool y_11.fFamily),.sc (.bool y_11.fForward),.sc (.bool y_11.fLL),.sc (.int .i64 y_11.fLLTime)])] []) ?_ (fun y_11 e11=>?_)
    ·skip
     refine H6 ?_
     refine C6 ?_
     refine B8 ?_
     refine B4 rfl (C2 (p:=.sem (SL (eI .u8) x1_0)) rfl rfl rfl rfl) ?_
     refine B4 rfl (I1 (fn:=Tryz.f114) (xs:=[.tmp 53]) (args:=[.sem (SL (eI .u8) x1_0)]) (r:=.sc (.bool (I7 x1_0))) rfl rfl rfl Tryz.func114 rfl rfl rfl rfl rfl (A1l x1_0 (by first | omega | ((try simp only [z1,z2,z3,z4,z5,z6,z7,z8,z9,zA,zB,zC,zD,D2,C9,C4,C3,C5,B5,B6,B7,A7,A6] at *); omega) | ((try simp only [z1,z2,z3,z4,z5,z6,z7,z8,z9,zA,B5,B6,B7,A7,A6] at *); (try simp (disch:=omega) only [C8]); (try simp only [z1,z2,z3,z4,z5,z6,z7,z8,z9,zA,zB,zC,zD,D2,C9,C4,C3,C5,B5,B6,B7] at *); omega)))) ?_
     refine B4 rfl (C2 (p:=.sc (.bool (I7 x1_0))) rfl rfl rfl rfl) ?_
     refine E0 (C:=(I7 x1_0)) (p:=.loc 1000 0) (G6 rfl rfl rfl rfl rfl) rfl rfl (fun g12=>C2 (p:=.loc 1000 0) rfl rfl rfl rfl) ?_
     refine E0 (C:=(I7 x1_0)) (p:=.loc 1000 0) (G6 rfl rfl rfl rfl rfl) rfl rfl (fun g13=>H3 (s:=1000) (off:=0) rfl rfl rfl (gt (p:=.loc 1000 0) (q:=.sc undef) g13)) ?_
     refine E0 (C:=(I7 x1_0)) (p:=.loc 1000 5) (G6 rfl rfl rfl rfl rfl) rfl rfl (fun g14=>D3 (b:=1000) (k:=0) (m:=5) rfl rfl rfl T8 (gt (p:=.loc 1000 0) (q:=.sc undef) g14) rfl) ?_
     refine E0 (C:=(I7 x1_0)) (p:=.sc (.bool x1000_0.fFamily)) (G6 rfl rfl rfl rfl rfl) rfl rfl (fun g15=>F4 (s:=1000) (off:=5) (ps:=[.sc (.bool x1000_0.fFour),.sc (.int .i64 x1000_0.fAS4),.sc (.bool x1000_0.fGR),.sc (.bool x1000_0.fRestarting),.sc (.int .i64 x1000_0.fTime),.sc (.bool x1000_0.fFamily),.sc (.bool x1000_0.fForward),.sc (.bool x1000_0.fLL),.sc (.int .i64 x1000_0.fLLTime)]) (p:=.sc (.bool x1000_0.fFamily)) rfl rfl rfl ty4 (gt (p:=.loc 1000 5) (q:=.sc undef) g15) rfl rfl rfl rfl) ?_
     refine E0 (C:=(I7 x1_0)) (p:=.sc (.bool !x1000_0.fFamily)) (G6 rfl rfl rfl rfl rfl) rfl rfl (fun g16=>X4 (u:=.bool x1000_0.fFamily) (v:=.bool (!x1000_0.fFamily)) rfl rfl rfl (gt (p:=.sc (.bool x1000_0.fFamily)) (q:=.sc undef) g16) (fun _=>rfl)) ?_
     refine B4 rfl (J1 (b:=(I7 x1_0)) (y:=!x1000_0.fFamily) rfl rfl rfl rfl rfl) ?_
     refine D4 ?_
     refine F6 (b:=(I7 x1_0) && !x1000_0.fFamily) rfl (fun k17=>?_) (fun k17=>?_)
     ·skip
      refine B8 ?_
      refine B4 rfl (C2 (p:=.loc 1000 0) rfl rfl rfl rfl) ?_
      refine B4 rfl (C2 (p:=.loc 1000 0) rfl rfl rfl rfl) ?_
      refine B4 rfl (C2 (p:=.sem (SL (eI .u8) x1_0)) rfl rfl rfl rfl) ?_
      refine B4 rfl (N6 (E:=(eI .u8)) (l:=x1_0) (n:=3) (ps:=[.sc (.int .u8 (ix x1_0 3))]) rfl rfl rfl Tryz.underlying22 ty5 (E3 rfl) rfl (by first | omega | ((try simp only [z1,z2,z3,z4,z5,z6,z7,z8,z9,zA,zB,zC,zD,D2,C9,C4,C3,C5,B5,B6,B7,A7,A6] at *); omega) | ((try simp only [z1,z2,z3,z4,z5,z6,z7,z8,z9,zA,B5,B6,B7,A7,A6] at *); (try simp (disch:=omega) only [C8]); (try simp only [z1,z2,z3,z4,z5,z6,z7,z8,z9,zA,zB,zC,zD,D2,C9,C4,C3,C5,B5,B6,B7] at *); omega)) rfl) ?_
      refine B4 rfl (G4 (ps:=[.sc (.int .u8 (ix x1_0 3))]) (p:=.sc (.int .u8 (ix x1_0 3))) rfl rfl rfl ty5 rfl rfl rfl rfl rfl) ?_
      refine B4 rfl (E6 (u1:=.int .u8 (ix x1_0 3)) (u2:=.int .u8 128) (v:=.int .u8 (O1 .u8 (ix x1_0 3) 128)) rfl rfl rfl rfl rfl (fun _=>rfl)) ?_
      refine B4 rfl (E6 (u1:=.int .u8 (O1 .u8 (ix x1_0 3) 128)) (u2:=.int .u8 0) (v:=.bool (!(decide (((O1 .u8 (ix x1_0 3) 128):Int)=0)))) rfl rfl rfl rfl rfl (fun _=>rfl)) ?_
      refine B4 rfl (H3 (s:=1000) (off:=0) rfl rfl rfl rfl) ?_
      refine B4 rfl (D3 (b:=1000) (k:=0) (m:=5) rfl rfl rfl T8 rfl rfl) ?_
      refine B4 rfl (G5 (s:=1000) (off:=5) (ps:=[.sc (.bool x1000_0.fFour),.sc (.int .i64 x1000_0.fAS4),.sc (.bool x1000_0.fGR),.sc (.bool x1000_0.fRestarting),.sc (.int .i64 x1000_0.fTime),.sc (.bool x1000_0.fFamily),.sc (.bool x1000_0.fForward),.sc (.bool x1000_0.fLL),.sc (.int .i64 x1000_0.fLLTime)]) (p:=.sc (.bool true)) (qs:=[.sc (.bool x1000_0.fFour),.sc (.int .i64 x1000_0.fAS4),.sc (.bool x1000_0.fGR),.sc (.bool x1000_0.fRestarting),.sc (.int .i64 x1000_0.fTime),.sc (.bool true),.sc (.bool x1000_0.fForward),.sc (.bool x1000_0.fLL),.sc (.int .i64 x1000_0.fLLTime)]) rfl rfl ty4 rfl rfl rfl rfl rfl rfl rfl) ?_
      refine B4 rfl (H3 (s:=1000) (off:=0) rfl rfl rfl rfl) ?_
      refine B4 rfl (D3 (b:=1000) (k:=0) (m:=6) rfl rfl rfl j3 rfl rfl) ?_
      refine B4 rfl (G5 (s:=1000) (off:=6) (ps:=[.sc (.bool x1000_0.fFour),.sc (.int .i64 x1000_0.fAS4),.sc (.bool x1000_0.fGR),.sc (.bool x1000_0.fRestarting),.sc (.int .i64 x1000_0.fTime),.sc (.bool true),.sc (.bool x1000_0.fForward),.sc (.bool x1000_0.fLL),.sc (.int .i64 x1000_0.fLLTime)]) (p:=.sc (.bool (!(decide (((O1 .u8 (ix x1_0 3) 128):Int)=0))))) (qs:=[.sc (.bool x1000_0.fFour),.sc (.int .i64 x1000_0.fAS4),.sc (.bool x1000_0.fGR),.sc (.bool x1000_0.fRestarting),.sc (.int .i64 x1000_0.fTime),.sc (.bool true),.sc (.bool (!(decide (((O1 .u8 (ix x1_0 3) 128):Int)=0)))),.sc (.bool x1000_0.fLL),.sc (.int .i64 x1000_0.fLLTime)]) rfl rfl ty4 rfl rfl rfl rfl rfl rfl rfl) ?_
      refine D4 ?_
      exact ⟨(⟨x1000_0.fFour,x1000_0.fAS4,x1000_0.fGR,x1000_0.fRestarting,x1000_0.fTime,true,!(decide (((O1 .u8 (ix x1_0 3) 128):Int)=0)),x1000_0.fLL,x1000_0.fLLTime⟩:B0),(bT k17 rfl),(G9 rfl ⟨⟨rfl,(.one (.rfl _))⟩,⟨⟨rfl,(.one (.rfl _))⟩,⟨⟨rfl,(.one (.rfl _))⟩,trivial⟩⟩⟩ ⟨⟨[.sc (.bool x1000_0.fFour),.sc (.int .i64 x1000_0.fAS4),.sc (.bool x1000_0.fGR),.sc (.bool x1000_0.fRestarting),.sc (.int .i64 x1000_0.fTime),.sc (.bool true),.sc (.bool (!(decide (((O1 .u8 (ix x1_0 3) 128):Int)=0)))),.sc (.bool x1000_0.fLL),.sc (.int .i64 x1000_0.fLLTime)],rfl,(.cons (wkE (f:=(fun z=>.sc (.bool z))) rfl) (.cons (wkE (f:=(fun z=>.sc (.int .i64 z))) rfl) (.cons (wkE (f:=(fun z=>.sc (.bool z))) rfl) (.cons (wkE (f:=(fun z=>.sc (.bool z))) rfl) (.cons (wkE (f:=(fun z=>.sc (.int .i64 z))) rfl) (.cons (wkE (f:=(fun z=>.sc (.bool z))) rfl) (.cons (wkE (f:=(fun z=>.sc (.bool z))) rfl) (.cons (wkE (f:=(fun z=>.sc (.bool z))) rfl) (.cons (wkE (f:=(fun z=>.sc (.int .i64 z))) rfl) .nil)))))))))⟩,trivial⟩ trivial)⟩
     ·skip
      refine F9 ?_
      exact ⟨x1000_0,(bF k17 rfl),(G9 rfl ⟨⟨rfl,(.one (.rfl _))⟩,⟨⟨rfl,(.one (.rfl _))⟩,⟨⟨rfl,(.one (.rfl _))⟩,trivial⟩⟩⟩ ⟨⟨[.sc (.bool x1000_0.fFour),.sc (.int .i64 x1000_0.fAS4),.sc (.bool x1000_0.fGR),.sc (.bool x1000_0.fRestarting),.sc (.int .i64 x1000_0.fTime),.sc (.bool x1000_0.fFamily),.sc (.bool x1000_0.fForward),.sc (.bool x1000_0.fLL),.sc (.int .i64 x1000_0.fLLTime)],rfl,(.cons (.rfl _) (.cons (.rfl _) (.cons (.rfl _) (.cons (.rfl _) (.cons (.rfl _) (.cons (.rfl _) (.cons (.rfl _) (.cons (.rfl _) (.cons (.rfl _) .nil)))))))))⟩,trivial⟩ trivial)⟩
    ·skip
     refine H5 1 rfl (fun hl18=>?_)
     refine B8 ?_
     refine B4 rfl (C2 (p:=.sem (SL (eI .u8) x1_0)) rfl rfl rfl rfl) ?_
     refine B4 rfl (K0 (E:=(eI .u8)) (l:=x1_0) (i:=4) (j:=(x1_0.length:Int)) rfl rfl rfl Tryz.underlying22 ty5 (E3 rfl) (I0 rfl) (L3 rfl) (show 0 ≤ 4 ∧ 4 ≤ (x1_0.length:Int) ∧ (x1_0.length:Int) ≤ (x1_0.length:Int) from (by first | omega | ((try simp only [z1,z2,z3,z4,z5,z6,z7,z8,z9,zA,zB,zC,zD,D2,C9,C4,C3,C5,B5,B6,B7,A7,A6] at *); omega) | ((try simp only [z1,z2,z3,z4,z5,z6,z7,z8,z9,zA,B5,B6,B7,A7,A6] at *); (try simp (disch:=omega) only [C8]); (try simp only [z1,z2,z3,z4,z5,z6,z7,z8,z9,zA,zB,zC,zD,D2,C9,C4,C3,C5,B5,B6,B7] at *); omega)))) ?_
     refine B4 rfl (C7 (p:=.sem (SL (eI .u8) (sub x1_0 4 (x1_0.length:Int)))) rfl rfl rfl rfl) ?_
     refine D4 ?_
     exact ⟨(n0,y_11,(sub x1_0 4 (x1_0.length:Int))),(G9 rfl ⟨⟨rfl,(.one (.rfl _))⟩,⟨⟨rfl,(.one (.rfl _))⟩,⟨⟨rfl,(.one (.rfl _))⟩,trivial⟩⟩⟩ ⟨⟨[.sc (.bool y_11.fFour),.sc (.int .i64 y_11.fAS4),.sc (.bool y_11.fGR),.sc (.bool y_11.fRestarting),.sc (.int .i64 y_11.fTime),.sc (.bool y_11.fFamily),.sc (.bool y_11.fForward),.sc (.bool y_11.fLL),.sc (.int .i64 y_11.fLLTime)],rfl,(.cons (.rfl _) (.cons (.rfl _) (.cons (.rfl _) (.cons (.rfl _) (.cons (.rfl _) (.cons (.rfl _) (.cons (.rfl _) (.cons (.rfl _) (.cons (.rfl _) .nil)))))))))⟩,trivial⟩ trivial),⟨Eq.trans (Eq.symm (bT k10 (mB e11 rfl))) hJ0,(by first | omega | ((try simp only [z1,z2,z3,z4,z5,z6,z7,z8,z9,zA,zB,zC,zD,D2,C9,C4,C3,C5,B5,B6,B7,A7,A6] at *); omega) | ((try simp only [z1,z2,z3,z4,z5,z6,z7,z8,z9,zA,B5,B6,B7,A7,A6] at *); (try simp (disch:=omega) only [C8]); (try simp only [z1,z2,z3,z4,z5,z6,z7,z8,z9,zA,zB,zC,zD,D2,C9,C4,C3,C5,B5,B6,B7] at *); omega)),(by first | omega | ((try simp only [z1,z2,z3,z4,z5,z6,z7,z8,z9,zA,zB,zC,zD,D2,C9,C4,C3,C5,B5,B6,B7,A7,A6] at *); omega) | ((try simp only [z1,z2,z3,z4,z5,z6,z7,z8,z9,zA,B5,B6,B7,A7,A6] at *); (try simp (disch:=omega) only [C8]); (try simp only [z1,z2,z3,z4,z5,z6,z7,z8,z9,zA,zB,zC,zD,D2,C9,C4,C3,C5,B5,B6,B7] at *); omega))⟩,Nat.lt_succ_self _⟩
   ·skip
    refine S8 ?_
    exact ⟨(x1000_0,x1_0),hJ0.symm.trans (bF k10 rfl),(G9 rfl ⟨⟨rfl,(.one (.rfl _))⟩,⟨⟨rfl,(.one (.rfl _))⟩,⟨⟨rfl,(.one (.rfl _))⟩,trivial⟩⟩⟩ ⟨⟨[.sc (.bool x1000_0.fFour),.sc (.int .i64 x1000_0.fAS4),.sc (.bool x1000_0.fGR),.sc (.bool x1000_0.fRestarting),.sc (.int .i64 x1000_0.fTime),.sc (.bool x1000_0.fFamily),.sc (.bool x1000_0.fForward),.sc (.bool x1000_0.fLL),.sc (.int .i64 x1000_0.fLLTime)],rfl,(.cons (.rfl _) (.cons (.rfl _) (.cons (.rfl _) (.cons (.rfl _) (.cons (.rfl _) (.cons (.rfl _) (.cons (.rfl _) (.cons (.rfl _) (.cons (.rfl _) .nil)))))))))⟩,trivial⟩ trivial)⟩
  ·skip
   refine H5 1 rfl (fun hl19=>?_)
   refine C6 ?_
   refine B8 ?_
   refine B4 rfl (C7 (p:=.sc (.bool true)) rfl rfl rfl rfl) ?_
   refine D4 ?_
   refine G2 ?_
   exact F7 (F:=(fun (z:Bool × B0)=>⟨[(1000,[.sc (.bool z.2.fFour),.sc (.int .i64 z.2.fAS4),.sc (.bool z.2.fGR),.sc (.bool z.2.fRestarting),.sc (.int .i64 z.2.fTime),.sc (.bool z.2.fFamily),.sc (.bool z.2.fForward),.sc (.bool z.2.fLL),.sc (.int .i64 z.2.fLLTime)])],[],.sc (.bool z.1)⟩)) (z:=(I5 c b)) (v:=(true,x_0.1)) (bF k7 (mB e8 rfl)) rfl (.one (.tmp 4 (.sc (.bool true)) rfl) (.one (.rfl _)) rfl) ⟨⟨[.sc (.bool x_0.1.fFour),.sc (.int .i64 x_0.1.fAS4),.sc (.bool x_0.1.fGR),.sc (.bool x_0.1.fRestarting),.sc (.int .i64 x_0.1.fTime),.sc (.bool x_0.1.fFamily),.sc (.bool x_0.1.fForward),.sc (.bool x_0.1.fLL),.sc (.int .i64 x_0.1.fLLTime)],rfl,(.cons (.rfl _) (.cons (.rfl _) (.cons (.rfl _) (.cons (.rfl _) (.cons (.rfl _) (.cons (.rfl _) (.cons (.rfl _) (.cons (.rfl _) (.cons (.rfl _) .nil)))))))))⟩,trivial⟩ trivial
def L8 (c:B0) (b:List Int):Nat → B0 → List Int → B0 × (List Int)
 | 0,_,_=>default
 | n0 + 1,x1000_0,b_0 =>
  (bif decide ((0:Int) < (b_0.length:Int)) then
   (thn (bif (I7 b_0) && !x1000_0.fLL then (⟨x1000_0.fFour,x1000_0.fAS4,x1000_0.fGR,x1000_0.fRestarting,x1000_0.fTime,x1000_0.fFamily,x1000_0.fForward,true,(ior .i64 (ior .i64 (IntKind.wrap .i64 ((IntKind.wrap .i64 (ix b_0 4)) * 2 ^ 16)) (IntKind.wrap .i64 ((IntKind.wrap .i64 (ix b_0 5)) * 2 ^ 8))) (IntKind.wrap .i64 (ix b_0 6)))⟩:B0) else x1000_0) fun (y_6:B0) =>
    L8 c b n0 y_6 (sub b_0 7 (b_0.length:Int)))
  else
   (x1000_0,b_0))
def K6 (c:B0) (b:List Int):Bool × B0:=
 (bif !(decide (((Int.tmod (b.length:Int) 7):Int)=0)) then
  (false,c)
 else
  (thn (L8 c b (b.length + 1) (⟨c.fFour,c.fAS4,c.fGR,c.fRestarting,c.fTime,c.fFamily,c.fForward,false,0⟩:B0) b) fun (x_0:B0 × (List Int)) =>
   (true,x_0.1)))
set_option maxRecDepth 100000 in
set_option maxHeartbeats 4000000 in
theorem A3K (c:B0) (b:List Int):PG Tryz.prog 95 [(1000,(B0.cells c))] [] [.loc 1000 0,.sem (SL (eI .u8) b)] (fun _:Unit=>True) (fun _=>(fun (z:Bool × B0)=>⟨[(1000,[.sc (.bool z.2.fFour),.sc (.int .i64 z.2.fAS4),.sc (.bool z.2.fGR),.sc (.bool z.2.fRestarting),.sc (.int .i64 z.2.fTime),.sc (.bool z.2.fFamily),.sc (.bool z.2.fForward),.sc (.bool z.2.fLL),.sc (.int .i64 z.2.fLLTime)])],[],.sc (.bool z.1)⟩) (K6 c b)):=by
 refine M4 (N:=51) (l:=[.tmp 4]) Tryz.func95 rfl rfl rfl (Nat.le_of_ble_eq_true rfl) fun w0 i0 F βs=>?_
 refine H5 1 rfl (fun hl1=>?_)
 refine C6 ?_
 refine B8 ?_
 refine B4 rfl (C7 (p:=.sc (.bool false)) rfl rfl rfl rfl) ?_
 refine D4 ?_
 refine C6 ?_
 refine C6 ?_
 refine B8 ?_
 refine B4 rfl (C2 (p:=.sem (SL (eI .u8) b)) rfl rfl rfl rfl) ?_
 refine B4 rfl (L6 rfl rfl rfl Tryz.underlying22 (E3 rfl)) ?_
 refine B4 rfl (E6 (u1:=.int .i64 (b.length:Int)) (u2:=.int .i64 7) (v:=.int .i64 (Int.tmod (b.length:Int) 7)) rfl rfl rfl rfl rfl (fun _=>rfl)) ?_
 refine B4 rfl (E6 (u1:=.int .i64 (Int.tmod (b.length:Int) 7)) (u2:=.int .i64 0) (v:=.bool (!(decide (((Int.tmod (b.length:Int) 7):Int)=0)))) rfl rfl rfl rfl rfl (fun _=>rfl)) ?_
 refine D4 ?_
 refine F6 (b:=!(decide (((Int.tmod (b.length:Int) 7):Int)=0))) rfl (fun k2=>?_) (fun k2=>?_)
 ·skip
  refine C6 ?_
  refine B8 ?_
  refine B4 rfl (C7 (p:=.sc (.bool false)) rfl rfl rfl rfl) ?_
  refine D4 ?_
  refine G2 ?_
  exact F7 (F:=(fun (z:Bool × B0)=>⟨[(1000,[.sc (.bool z.2.fFour),.sc (.int .i64 z.2.fAS4),.sc (.bool z.2.fGR),.sc (.bool z.2.fRestarting),.sc (.int .i64 z.2.fTime),.sc (.bool z.2.fFamily),.sc (.bool z.2.fForward),.sc (.bool z.2.fLL),.sc (.int .i64 z.2.fLLTime)])],[],.sc (.bool z.1)⟩)) (z:=(K6 c b)) (v:=(false,c)) (bT k2 rfl) rfl (.one (.tmp 4 (.sc (.bool false)) rfl) (.one (.rfl _)) rfl) ⟨⟨(B0.cells c),rfl,(.cons (.rfl _) (.cons (.rfl _) (.cons (.rfl _) (.cons (.rfl _) (.cons (.rfl _) (.cons (.rfl _) (.cons (.rfl _) (.cons (.rfl _) (.cons (.rfl _) .nil)))))))))⟩,trivial⟩ trivial
 ·skip
  refine F9 ?_
  refine C6 ?_
  refine B8 ?_
  refine B4 rfl (C2 (p:=.loc 1000 0) rfl rfl rfl rfl) ?_
  refine B4 rfl (C2 (p:=.loc 1000 0) rfl rfl rfl rfl) ?_
  refine B4 rfl (H3 (s:=1000) (off:=0) rfl rfl rfl rfl) ?_
  refine B4 rfl (D3 (b:=1000) (k:=0) (m:=7) rfl rfl rfl W6 rfl rfl) ?_
  refine B4 rfl (G5 (s:=1000) (off:=7) (ps:=(B0.cells c)) (p:=.sc (.bool false)) (qs:=[.sc (.bool c.fFour),.sc (.int .i64 c.fAS4),.sc (.bool c.fGR),.sc (.bool c.fRestarting),.sc (.int .i64 c.fTime),.sc (.bool c.fFamily),.sc (.bool c.fForward),.sc (.bool false),.sc (.int .i64 c.fLLTime)]) rfl rfl ty4 rfl rfl rfl rfl rfl rfl rfl) ?_
  refine B4 rfl (H3 (s:=1000) (off:=0) rfl rfl rfl rfl) ?_
  refine B4 rfl (D3 (b:=1000) (k:=0) (m:=8) rfl rfl rfl S3 rfl rfl) ?_
  refine B4 rfl (G5 (s:=1000) (off:=8) (ps:=[.sc (.bool c.fFour),.sc (.int .i64 c.fAS4),.sc (.bool c.fGR),.sc (.bool c.fRestarting),.sc (.int .i64 c.fTime),.sc (.bool c.fFamily),.sc (.bool c.fForward),.sc (.bool false),.sc (.int .i64 c.fLLTime)]) (p:=.sc (.int .i64 0)) (qs:=[.sc (.bool c.fFour),.sc (.int .i64 c.fAS4),.sc (.bool c.fGR),.sc (.bool c.fRestarting),.sc (.int .i64 c.fTime),.sc (.bool c.fFamily),.sc (.bool c.fForward),.sc (.bool false),.sc (.int .i64 0)]) rfl rfl ty3 rfl rfl rfl rfl rfl rfl rfl) ?_
  refine D4 ?_
  refine N8 (ι:=B0 × (List Int)) (p:=fun x_0=>(L8 c b (b.length + 1) (⟨c.fFour,c.fAS4,c.fGR,c.fRestarting,c.fTime,c.fFamily,c.fForward,false,0⟩:B0) b)=x_0) (S:=fun x_0=>St.of 51 [(0,.loc 1000 0),(1,.sem (SL (eI .u8) x_0.2)),(4,.sc (.bool false))] [(1000,[.sc (.bool x_0.1.fFour),.sc (.int .i64 x_0.1.fAS4),.sc (.bool x_0.1.fGR),.sc (.bool x_0.1.fRestarting),.sc (.int .i64 x_0.1.fTime),.sc (.bool x_0.1.fFamily),.sc (.bool x_0.1.fForward),.sc (.bool x_0.1.fLL),.sc (.int .i64 x_0.1.fLLTime)])] []) ?_ (fun x_0 e3=>?_)
  ·skip
   refine H6 ?_
   refine R3 (ι:=Nat × B0 × (List Int)) (S:=fun i=>St.of 51 [(0,.loc 1000 0),(1,.sem (SL (eI .u8) i.2.2)),(4,.sc (.bool false))] [(1000,[.sc (.bool i.2.1.fFour),.sc (.int .i64 i.2.1.fAS4),.sc (.bool i.2.1.fGR),.sc (.bool i.2.1.fRestarting),.sc (.int .i64 i.2.1.fTime),.sc (.bool i.2.1.fFamily),.sc (.bool i.2.1.fForward),.sc (.bool i.2.1.fLL),.sc (.int .i64 i.2.1.fLLTime)])] []) (J:=fun i=>L8 c b i.1 i.2.1 i.2.2=(L8 c b (b.length + 1) (⟨c.fFour,c.fAS4,c.fGR,c.fRestarting,c.fTime,c.fFamily,c.fForward,false,0⟩:B0) b) ∧ (i.2.2.length < i.1) ∧ ((i.2.2.length:Int) % 7=0)) (μ:=fun i=>i.1) (i₀:=((b.length + 1),(⟨c.fFour,c.fAS4,c.fGR,c.fRestarting,c.fTime,c.fFamily,c.fForward,false,0⟩:B0),b)) (G9 rfl ⟨⟨rfl,(.one (.rfl _))⟩,⟨⟨rfl,(.one (.rfl _))⟩,⟨⟨rfl,(.one (.rfl _))⟩,trivial⟩⟩⟩ ⟨⟨[.sc (.bool c.fFour),.sc (.int .i64 c.fAS4),.sc (.bool c.fGR),.sc (.bool c.fRestarting),.sc (.int .i64 c.fTime),.sc (.bool c.fFamily),.sc (.bool c.fForward),.sc (.bool false),.sc (.int .i64 0)],rfl,(.cons (wkE (f:=(fun z=>.sc (.bool z))) rfl) (.cons (wkE (f:=(fun z=>.sc (.int .i64 z))) rfl) (.cons (wkE (f:=(fun z=>.sc (.bool z))) rfl) (.cons (wkE (f:=(fun z=>.sc (.bool z))) rfl) (.cons (wkE (f:=(fun z=>.sc (.int .i64 z))) rfl) (.cons (wkE (f:=(fun z=>.sc (.bool z))) rfl) (.cons (wkE (f:=(fun z=>.sc (.bool z))) rfl) (.cons (wkE (f:=(fun z=>.sc (.bool z))) rfl) (.cons (wkE (f:=(fun z=>.sc (.int .i64 z))) rfl) .nil)))))))))⟩,trivial⟩ trivial) ⟨rfl,(by first | omega | ((try simp only [z1,z2,z3,z4,z5,z6,z7,z8,z9,zA,zB,zC,zD,D2,C9,C4,C3,C5,B5,B6,B7,A7,A6] at *); omega) | ((try simp only [z1,z2,z3,z4,z5,z6,z7,z8,z9,zA,B5,B6,B7,A7,A6] at *); (try simp (disch:=omega) only [C8]); (try simp only [z1,z2,z3,z4,z5,z6,z7,z8,z9,zA,zB,zC,zD,D2,C9,C4,C3,C5,B5,B6,B7] at *); omega)),(by first | omega | ((try simp only [z1,z2,z3,z4,z5,z6,z7,z8,z9,zA,zB,zC,zD,D2,C9,C4,C3,C5,B5,B6,B7,A7,A6] at *); omega) | ((try simp only [z1,z2,z3,z4,z5,z6,z7,z8,z9,zA,B5,B6,B7,A7,A6] at *); (try simp (disch:=omega) only [C8]); (try simp only [z1,z2,z3,z4,z5,z6,z7,z8,z9,zA,zB,zC,zD,D2,C9,C4,C3,C5,B5,B6,B7] at *); omega))⟩ ?_
   rintro ⟨n0,x1000_0,b_0⟩ ⟨hJ0,hm0_0,hm0_1⟩
   obtain ⟨n0,rfl⟩:∃ m,n0=m + 1:=⟨n0 - 1,by have:0 < n0:=Nat.lt_of_le_of_lt (Nat.zero_le _) hm0_0; omega⟩
   replace hJ0:L8 c b (n0 + 1) x1000_0 b_0=(L8 c b (b.length + 1) (⟨c.fFour,c.fAS4,c.fGR,c.fRestarting,c.fTime,c.fFamily,c.fForward,false,0⟩:B0) b):=hJ0
   replace hm0_0:b_0.length < n0 + 1:=hm0_0
   replace hm0_1:(b_0.length:Int) % 7=0:=hm0_1
   refine H5 1 rfl (fun hl4=>?_)
   refine C6 ?_
   refine C6 ?_
   refine B8 ?_
   refine B4 rfl (C2 (p:=.sem (SL (eI .u8) b_0)) rfl rfl rfl rfl) ?_
   refine B4 rfl (L6 rfl rfl rfl Tryz.underlying22 (E3 rfl)) ?_
   refine B4 rfl (E6 (u1:=.int .i64 (b_0.length:Int)) (u2:=.int .i64 0) (v:=.bool (decide ((0:Int) < (b_0.length:Int)))) rfl rfl rfl rfl rfl (fun _=>rfl)) ?_
   refine D4 ?_
   refine F6 (b:=decide ((0:Int) < (b_0.length:Int))) rfl (fun k5=>?_) (fun k5=>?_)
   ·skip
    refine F9 ?_
    refine N8 (ι:=B0) (p:=fun y_6=>((bif (I7 b_0) && !x1000_0.fLL then (⟨x1000_0.fFour,x1000_0.fAS4,x1000_0.fGR,x1000_0.fRestarting,x1000_0.fTime,x1000_0.fFamily,x1000_0.fForward,true,(ior .i64 (ior .i64 (IntKind.wrap .i64 ((IntKind.wrap .i64 (ix b_0 4)) * 2 ^ 16)) (IntKind.wrap .i64 ((IntKind.wrap .i64 (ix b_0 5)) * 2 ^ 8))) (IntKind.wrap .i64 (ix b_0 6)))⟩:B0) else x1000_0))=y_6) (S:=fun y_6=>St.of 51 [(0,.loc 1000 0),(1,.sem (SL (eI .u8) b_0)),(4,.sc (.bool false))] [(1000,[.sc (.bool y_6.fFour),.sc (.int .i64 y_6.fAS4),.sc (.bool y_6.fGR),.sc (.bool y_6.fRestarting),.sc (.int .i64 y_6.fTime),.sc (.bool y_6.fFamily),.sc (.bool y_6.fForward),.sc (.bool y_6.fLL),.sc (.int .i64 y_6.fLLTime)])] []) ?_ (fun y_6 e6=>?_)
    ·skip
     refine H6 ?_
     refine C6 ?_
     refine B8 ?_
     refine B4 rfl (C2 (p:=.sem (SL (eI .u8) b_0)) rfl rfl rfl rfl) ?_
     refine B4 rfl (I1 (fn:=Tryz.f114) (xs:=[.tmp 20]) (args:=[.sem (SL (eI .u8) b_0)]) (r:=.sc (.bool (I7 b_0))) rfl rfl rfl Tryz.func114 rfl rfl rfl rfl rfl (A1l b_0 (by first | omega | ((try simp only [z1,z2,z3,z4,z5,z6,z7,z8,z9,zA,zB,zC,zD,D2,C9,C4,C3,C5,B5,B6,B7,A7,A6] at *); omega) | ((try simp only [z1,z2,z3,z4,z5,z6,z7,z8,z9,zA,B5,B6,B7,A7,A6] at *); (try simp (disch:=omega) only [C8]); (try simp only [z1,z2,z3,z4,z5,z6,z7,z8,z9,zA,zB,zC,zD,D2,C9,C4,C3,C5,B5,B6,B7] at *); omega)))) ?_
     refine B4 rfl (C2 (p:=.sc (.bool (I7 b_0))) rfl rfl rfl rfl) ?_
     refine E0 (C:=(I7 b_0)) (p:=.loc 1000 0) (G6 rfl rfl rfl rfl rfl) rfl rfl (fun g7=>C2 (p:=.loc 1000 0) rfl rfl rfl rfl) ?_
     refine E0 (C:=(I7 b_0)) (p:=.loc 1000 0) (G6 rfl rfl rfl rfl rfl) rfl rfl (fun g8=>H3 (s:=1000) (off:=0) rfl rfl rfl (gt (p:=.loc 1000 0) (q:=.sc undef) g8)) ?_
     refine E0 (C:=(I7 b_0)) (p:=.loc 1000 7) (G6 rfl rfl rfl rfl rfl) rfl rfl (fun g9=>D3 (b:=1000) (k:=0) (m:=7) rfl rfl rfl W6 (gt (p:=.loc 1000 0) (q:=.sc undef) g9) rfl) ?_
     refine E0 (C:=(I7 b_0)) (p:=.sc (.bool x1000_0.fLL)) (G6 rfl rfl rfl rfl rfl) rfl rfl (fun g10=>F4 (s:=1000) (off:=7) (ps:=[.sc (.bool x1000_0.fFour),.sc (.int .i64 x1000_0.fAS4),.sc (.bool x1000_0.fGR),.sc (.bool x1000_0.fRestarting),.sc (.int .i64 x1000_0.fTime),.sc (.bool x1000_0.fFamily),.sc (.bool x1000_0.fForward),.sc (.bool x1000_0.fLL),.sc (.int .i64 x1000_0.fLLTime)]) (p:=.sc (.bool x1000_0.fLL)) rfl rfl rfl ty4 (gt (p:=.loc 1000 7) (q:=.sc undef) g10) rfl rfl rfl rfl) ?_
     refine E0 (C:=(I7 b_0)) (p:=.sc (.bool !x1000_0.fLL)) (G6 rfl rfl rfl rfl rfl) rfl rfl (fun g11=>X4 (u:=.bool x1000_0.fLL) (v:=.bool (!x1000_0.fLL)) rfl rfl rfl (gt (p:=.sc (.bool x1000_0.fLL)) (q:=.sc undef) g11) (fun _=>rfl)) ?_
     refine B4 rfl (J1 (b:=(I7 b_0)) (y:=!x1000_0.fLL) rfl rfl rfl rfl rfl) ?_
     refine D4 ?_
     refine F6 (b:=(I7 b_0) && !x1000_0.fLL) rfl (fun k12=>?_) (fun k12=>?_)
     ·skip
      refine Q5 { ds:=[some 29,some 30,some 31,some 32,some 33,some 34,some 35,some 36,some 37,some 38,some 39,some 40,some 41,some 42,some 43,some 44,some 45,some 46,some 47,some 48,none,some 49,some 50,none],p:=fun i=>[.loc 1000 0,.loc 1000 0,.sem (SL (eI .u8) b_0),.sem (PT [.sc (.int .u8 (ix b_0 4))]),.sc (.int .u8 (ix b_0 4)),.sc (.int .i64 (IntKind.wrap .i64 (ix b_0 4))),.sc (.int .i64 (IntKind.wrap .i64 ((IntKind.wrap .i64 (ix b_0 4)) * 2 ^ 16))),.sem (SL (eI .u8) b_0),.sem (PT [.sc (.int .u8 (ix b_0 5))]),.sc (.int .u8 (ix b_0 5)),.sc (.int .i64 (IntKind.wrap .i64 (ix b_0 5))),.sc (.int .i64 (IntKind.wrap .i64 ((IntKind.wrap .i64 (ix b_0 5)) * 2 ^ 8))),.sc (.int .i64 (ior .i64 (IntKind.wrap .i64 ((IntKind.wrap .i64 (ix b_0 4)) * 2 ^ 16)) (IntKind.wrap .i64 ((IntKind.wrap .i64 (ix b_0 5)) * 2 ^ 8)))),.sem (SL (eI .u8) b_0),.sem (PT [.sc (.int .u8 (ix b_0 6))]),.sc (.int .u8 (ix b_0 6)),.sc (.int .i64 (IntKind.wrap .i64 (ix b_0 6))),.sc (.int .i64 (ior .i64 (ior .i64 (IntKind.wrap .i64 ((IntKind.wrap .i64 (ix b_0 4)) * 2 ^ 16)) (IntKind.wrap .i64 ((IntKind.wrap .i64 (ix b_0 5)) * 2 ^ 8))) (IntKind.wrap .i64 (ix b_0 6)))),.loc 1000 0,.loc 1000 7,.any,.loc 1000 0,.loc 1000 8,.any].getD i .any,al:=[],st:=[(20,1000,7,[.sc (.bool true)]),(23,1000,8,[.sc (.int .i64 (ior .i64 (ior .i64 (IntKind.wrap .i64 ((IntKind.wrap .i64 (ix b_0 4)) * 2 ^ 16)) (IntKind.wrap .i64 ((IntKind.wrap .i64 (ix b_0 5)) * 2 ^ 8))) (IntKind.wrap .i64 (ix b_0 6))))])] } rfl (by kernel_rfl) rfl rfl ?_ (fun bD hb=>?_)
      ·refine ⟨fun bD hc hi hd=>?_,fun bD hc hi hd=>?_,fun bD hc hi hd=>?_,fun bD hc hi hd=>?_,fun bD hc hi hd=>?_,fun bD hc hi hd=>?_,fun bD hc hi hd=>?_,fun bD hc hi hd=>?_,fun bD hc hi hd=>?_,fun bD hc hi hd=>?_,fun bD hc hi hd=>?_,fun bD hc hi hd=>?_,fun bD hc hi hd=>?_,fun bD hc hi hd=>?_,fun bD hc hi hd=>?_,fun bD hc hi hd=>?_,fun bD hc hi hd=>?_,fun bD hc hi hd=>?_,fun bD hc hi hd=>?_,fun bD hc hi hd=>?_,fun bD hc hi hd=>?_,fun bD hc hi hd=>?_,fun bD hc hi hd=>?_,fun bD hc hi hd=>?_,trivial⟩
       ·exact F3.putStep (i:=0) (q:=.loc 1000 0) rfl rfl rfl (C1 rfl (C2 (p:=.loc 1000 0) rfl rfl rfl rfl))
       ·exact F3.putStep (i:=1) (q:=.loc 1000 0) rfl rfl rfl (C1 rfl (C2 (p:=.loc 1000 0) rfl rfl rfl rfl))
       ·exact F3.putStep (i:=2) (q:=.sem (SL (eI .u8) b_0)) rfl rfl rfl (C1 rfl (C2 (p:=.sem (SL (eI .u8) b_0)) rfl rfl rfl rfl))
       ·exact F3.putStep (i:=3) (q:=.sem (PT [.sc (.int .u8 (ix b_0 4))])) rfl rfl rfl (C1 rfl (N6 (E:=(eI .u8)) (l:=b_0) (n:=4) (ps:=[.sc (.int .u8 (ix b_0 4))]) rfl rfl rfl Tryz.underlying22 ty5 (by exact (E3 (by exact (gt (p:=.sem (SL (eI .u8) b_0)) (q:=.any) (hd 2 (by decide)))))) rfl (by first | omega | ((try simp only [z1,z2,z3,z4,z5,z6,z7,z8,z9,zA,zB,zC,zD,D2,C9,C4,C3,C5,B5,B6,B7,A7,A6] at *); omega) | ((try simp only [z1,z2,z3,z4,z5,z6,z7,z8,z9,zA,B5,B6,B7,A7,A6] at *); (try simp (disch:=omega) only [C8]); (try simp only [z1,z2,z3,z4,z5,z6,z7,z8,z9,zA,zB,zC,zD,D2,C9,C4,C3,C5,B5,B6,B7] at *); omega)) rfl))
       ·exact F3.putStep (i:=4) (q:=.sc (.int .u8 (ix b_0 4))) rfl rfl rfl (C1 rfl (G4 (ps:=[.sc (.int .u8 (ix b_0 4))]) (p:=.sc (.int .u8 (ix b_0 4))) rfl rfl rfl ty5 (gt (p:=.sem (PT [.sc (.int .u8 (ix b_0 4))])) (q:=.any) (hd 3 (by decide))) rfl rfl rfl rfl))
       ·exact F3.putStep (i:=5) (q:=.sc (.int .i64 (IntKind.wrap .i64 (ix b_0 4)))) rfl rfl rfl (C1 rfl (G8 (m:=(IntKind.wrap .i64 (ix b_0 4))) rfl rfl rfl Tryz.underlying5 Tryz.underlying3 (gt (p:=.sc (.int .u8 (ix b_0 4))) (q:=.any) (hd 4 (by decide))) rfl))
       ·exact F3.putStep (i:=6) (q:=.sc (.int .i64 (IntKind.wrap .i64 ((IntKind.wrap .i64 (ix b_0 4)) * 2 ^ 16)))) rfl rfl rfl (C1 rfl (E6 (u1:=.int .i64 (IntKind.wrap .i64 (ix b_0 4))) (u2:=.int .u64 16) (v:=.int .i64 (IntKind.wrap .i64 ((IntKind.wrap .i64 (ix b_0 4)) * 2 ^ 16))) rfl rfl rfl (gt (p:=.sc (.int .i64 (IntKind.wrap .i64 (ix b_0 4)))) (q:=.any) (hd 5 (by decide))) rfl (fun _=>rfl)))
       ·exact F3.putStep (i:=7) (q:=.sem (SL (eI .u8) b_0)) rfl rfl rfl (C1 rfl (C2 (p:=.sem (SL (eI .u8) b_0)) rfl rfl rfl rfl))
       ·exact F3.putStep (i:=8) (q:=.sem (PT [.sc (.int .u8 (ix b_0 5))])) rfl rfl rfl (C1 rfl (N6 (E:=(eI .u8)) (l:=b_0) (n:=5) (ps:=[.sc (.int .u8 (ix b_0 5))]) rfl rfl rfl Tryz.underlying22 ty5 (by exact (E3 (by exact (gt (p:=.sem (SL (eI .u8) b_0)) (q:=.any) (hd 7 (by decide)))))) rfl (by first | omega | ((try simp only [z1,z2,z3,z4,z5,z6,z7,z8,z9,zA,zB,zC,zD,D2,C9,C4,C3,C5,B5,B6,B7,A7,A6] at *); omega) | ((try simp only [z1,z2,z3,z4,z5,z6,z7,z8,z9,zA,B5,B6,B7,A7,A6] at *); (try simp (disch:=omega) only [C8]); (try simp only [z1,z2,z3,z4,z5,z6,z7,z8,z9,zA,zB,zC,zD,D2,C9,C4,C3,C5,B5,B6,B7] at *); omega)) rfl))
       ·exact F3.putStep (i:=9) (q:=.sc (.int .u8 (ix b_0 5))) rfl rfl rfl (C1 rfl (G4 (ps:=[.sc (.int .u8 (ix b_0 5))]) (p:=.sc (.int .u8 (ix b_0 5))) rfl rfl rfl ty5 (gt (p:=.sem (PT [.sc (.int .u8 (ix b_0 5))])) (q:=.any) (hd 8 (by decide))) rfl rfl rfl rfl))
       ·exact F3.putStep (i:=10) (q:=.sc (.int .i64 (IntKind.wrap .i64 (ix b_0 5)))) rfl rfl rfl (C1 rfl (G8 (m:=(IntKind.wrap .i64 (ix b_0 5))) rfl rfl rfl Tryz.underlying5 Tryz.underlying3 (gt (p:=.sc (.int .u8 (ix b_0 5))) (q:=.any) (hd 9 (by decide))) rfl))
       ·exact F3.putStep (i:=11) (q:=.sc (.int .i64 (IntKind.wrap .i64 ((IntKind.wrap .i64 (ix b_0 5)) * 2 ^ 8)))) rfl rfl rfl (C1 rfl (E6 (u1:=.int .i64 (IntKind.wrap .i64 (ix b_0 5))) (u2:=.int .u64 8) (v:=.int .i64 (IntKind.wrap .i64 ((IntKind.wrap .i64 (ix b_0 5)) * 2 ^ 8))) rfl rfl rfl (gt (p:=.sc (.int .i64 (IntKind.wrap .i64 (ix b_0 5)))) (q:=.any) (hd 10 (by decide))) rfl (fun _=>rfl)))
       ·exact F3.putStep (i:=12) (q:=.sc (.int .i64 (ior .i64 (IntKind.wrap .i64 ((IntKind.wrap .i64 (ix b_0 4)) * 2 ^ 16)) (IntKind.wrap .i64 ((IntKind.wrap .i64 (ix b_0 5)) * 2 ^ 8))))) rfl rfl rfl (C1 rfl (E6 (u1:=.int .i64 (IntKind.wrap .i64 ((IntKind.wrap .i64 (ix b_0 4)) * 2 ^ 16))) (u2:=.int .i64 (IntKind.wrap .i64 ((IntKind.wrap .i64 (ix b_0 5)) * 2 ^ 8))) (v:=.int .i64 (ior .i64 (IntKind.wrap .i64 ((IntKind.wrap .i64 (ix b_0 4)) * 2 ^ 16)) (IntKind.wrap .i64 ((IntKind.wrap .i64 (ix b_0 5)) * 2 ^ 8)))) rfl rfl rfl (gt (p:=.sc (.int .i64 (IntKind.wrap .i64 ((IntKind.wrap .i64 (ix b_0 4)) * 2 ^ 16)))) (q:=.any) (hd 6 (by decide))) (gt (p:=.sc (.int .i64 (IntKind.wrap .i64 ((IntKind.wrap .i64 (ix b_0 5)) * 2 ^ 8)))) (q:=.any) (hd 11 (by decide))) (fun _=>rfl)))
       ·exact F3.putStep (i:=13) (q:=.sem (SL (eI .u8) b_0)) rfl rfl rfl (C1 rfl (C2 (p:=.sem (SL (eI .u8) b_0)) rfl rfl rfl rfl))
       ·exact F3.putStep (i:=14) (q:=.sem (PT [.sc (.int .u8 (ix b_0 6))])) rfl rfl rfl (C1 rfl (N6 (E:=(eI .u8)) (l:=b_0) (n:=6) (ps:=[.sc (.int .u8 (ix b_0 6))]) rfl rfl rfl Tryz.underlying22 ty5 (by exact (E3 (by exact (gt (p:=.sem (SL (eI .u8) b_0)) (q:=.any) (hd 13 (by decide)))))) rfl (by first | omega | ((try simp only [z1,z2,z3,z4,z5,z6,z7,z8,z9,zA,zB,zC,zD,D2,C9,C4,C3,C5,B5,B6,B7,A7,A6] at *); omega) | ((try simp only [z1,z2,z3,z4,z5,z6,z7,z8,z9,zA,B5,B6,B7,A7,A6] at *); (try simp (disch:=omega) only [C8]); (try simp only [z1,z2,z3,z4,z5,z6,z7,z8,z9,zA,zB,zC,zD,D2,C9,C4,C3,C5,B5,B6,B7] at *); omega)) rfl))
       ·exact F3.putStep (i:=15) (q:=.sc (.int .u8 (ix b_0 6))) rfl rfl rfl (C1 rfl (G4 (ps:=[.sc (.int .u8 (ix b_0 6))]) (p:=.sc (.int .u8 (ix b_0 6))) rfl rfl rfl ty5 (gt (p:=.sem (PT [.sc (.int .u8 (ix b_0 6))])) (q:=.any) (hd 14 (by decide))) rfl rfl rfl rfl))
       ·exact F3.putStep (i:=16) (q:=.sc (.int .i64 (IntKind.wrap .i64 (ix b_0 6)))) rfl rfl rfl (C1 rfl (G8 (m:=(IntKind.wrap .i64 (ix b_0 6))) rfl rfl rfl Tryz.underlying5 Tryz.underlying3 (gt (p:=.sc (.int .u8 (ix b_0 6))) (q:=.any) (hd 15 (by decide))) rfl))
       ·exact F3.putStep (i:=17) (q:=.sc (.int .i64 (ior .i64 (ior .i64 (IntKind.wrap .i64 ((IntKind.wrap .i64 (ix b_0 4)) * 2 ^ 16)) (IntKind.wrap .i64 ((IntKind.wrap .i64 (ix b_0 5)) * 2 ^ 8))) (IntKind.wrap .i64 (ix b_0 6))))) rfl rfl rfl (C1 rfl (E6 (u1:=.int .i64 (ior .i64 (IntKind.wrap .i64 ((IntKind.wrap .i64 (ix b_0 4)) * 2 ^ 16)) (IntKind.wrap .i64 ((IntKind.wrap .i64 (ix b_0 5)) * 2 ^ 8)))) (u2:=.int .i64 (IntKind.wrap .i64 (ix b_0 6))) (v:=.int .i64 (ior .i64 (ior .i64 (IntKind.wrap .i64 ((IntKind.wrap .i64 (ix b_0 4)) * 2 ^ 16)) (IntKind.wrap .i64 ((IntKind.wrap .i64 (ix b_0 5)) * 2 ^ 8))) (IntKind.wrap .i64 (ix b_0 6)))) rfl rfl rfl (gt (p:=.sc (.int .i64 (ior .i64 (IntKind.wrap .i64 ((IntKind.wrap .i64 (ix b_0 4)) * 2 ^ 16)) (IntKind.wrap .i64 ((IntKind.wrap .i64 (ix b_0 5)) * 2 ^ 8))))) (q:=.any) (hd 12 (by decide))) (gt (p:=.sc (.int .i64 (IntKind.wrap .i64 (ix b_0 6)))) (q:=.any) (hd 16 (by decide))) (fun _=>rfl)))
       ·exact F3.putStep (i:=18) (q:=.loc 1000 0) rfl rfl rfl (C1 rfl (H3 (s:=1000) (off:=0) rfl rfl rfl (gt (p:=.loc 1000 0) (q:=.any) (hd 0 (by decide)))))
       ·exact F3.putStep (i:=19) (q:=.loc 1000 7) rfl rfl rfl (C1 rfl (D3 (b:=1000) (k:=0) (m:=7) rfl rfl rfl W6 (gt (p:=.loc 1000 0) (q:=.any) (hd 18 (by decide))) rfl))
       ·exact L5 (i:=20) (s:=1000) (off:=7) (ps0:=[.sc (.bool x1000_0.fFour),.sc (.int .i64 x1000_0.fAS4),.sc (.bool x1000_0.fGR),.sc (.bool x1000_0.fRestarting),.sc (.int .i64 x1000_0.fTime),.sc (.bool x1000_0.fFamily),.sc (.bool x1000_0.fForward),.sc (.bool x1000_0.fLL),.sc (.int .i64 x1000_0.fLLTime)]) (ps:=[.sc (.bool x1000_0.fFour),.sc (.int .i64 x1000_0.fAS4),.sc (.bool x1000_0.fGR),.sc (.bool x1000_0.fRestarting),.sc (.int .i64 x1000_0.fTime),.sc (.bool x1000_0.fFamily),.sc (.bool x1000_0.fForward),.sc (.bool x1000_0.fLL),.sc (.int .i64 x1000_0.fLLTime)]) (qs:=[.sc (.bool true)]) (p:=.sc (.bool true)) 0 hc hd rfl rfl rfl ty4 (gt (p:=.loc 1000 7) (q:=.any) (hd 19 (by decide))) rfl (by exact K3 (ps:=[.sc (.bool x1000_0.fFour),.sc (.int .i64 x1000_0.fAS4),.sc (.bool x1000_0.fGR),.sc (.bool x1000_0.fRestarting),.sc (.int .i64 x1000_0.fTime),.sc (.bool x1000_0.fFamily),.sc (.bool x1000_0.fForward),.sc (.bool x1000_0.fLL),.sc (.int .i64 x1000_0.fLLTime)]) rfl rfl) rfl rfl rfl rfl rfl rfl rfl hi rfl rfl (by kernel_rfl) (by kernel_rfl)
       ·exact F3.putStep (i:=21) (q:=.loc 1000 0) rfl rfl rfl (C1 rfl (H3 (s:=1000) (off:=0) rfl rfl rfl (gt (p:=.loc 1000 0) (q:=.any) (hd 1 (by decide)))))
       ·exact F3.putStep (i:=22) (q:=.loc 1000 8) rfl rfl rfl (C1 rfl (D3 (b:=1000) (k:=0) (m:=8) rfl rfl rfl S3 (gt (p:=.loc 1000 0) (q:=.any) (hd 21 (by decide))) rfl))
       ·exact L5 (i:=23) (s:=1000) (off:=8) (ps0:=[.sc (.bool x1000_0.fFour),.sc (.int .i64 x1000_0.fAS4),.sc (.bool x1000_0.fGR),.sc (.bool x1000_0.fRestarting),.sc (.int .i64 x1000_0.fTime),.sc (.bool x1000_0.fFamily),.sc (.bool x1000_0.fForward),.sc (.bool x1000_0.fLL),.sc (.int .i64 x1000_0.fLLTime)]) (ps:=[.sc (.bool x1000_0.fFour),.sc (.int .i64 x1000_0.fAS4),.sc (.bool x1000_0.fGR),.sc (.bool x1000_0.fRestarting),.sc (.int .i64 x1000_0.fTime),.sc (.bool x1000_0.fFamily),.sc (.bool x1000_0.fForward),.sc (.bool true),.sc (.int .i64 x1000_0.fLLTime)]) (qs:=[.sc (.int .i64 (ior .i64 (ior .i64 (IntKind.wrap .i64 ((IntKind.wrap .i64 (ix b_0 4)) * 2 ^ 16)) (IntKind.wrap .i64 ((IntKind.wrap .i64 (ix b_0 5)) * 2 ^ 8))) (IntKind.wrap .i64 (ix b_0 6))))]) (p:=.sc (.int .i64 (ior .i64 (ior .i64 (IntKind.wrap .i64 ((IntKind.wrap .i64 (ix b_0 4)) * 2 ^ 16)) (IntKind.wrap .i64 ((IntKind.wrap .i64 (ix b_0 5)) * 2 ^ 8))) (IntKind.wrap .i64 (ix b_0 6))))) 1 hc hd rfl rfl rfl ty3 (gt (p:=.loc 1000 8) (q:=.any) (hd 22 (by decide))) (gt (p:=.sc (.int .i64 (ior .i64 (ior .i64 (IntKind.wrap .i64 ((IntKind.wrap .i64 (ix b_0 4)) * 2 ^ 16)) (IntKind.wrap .i64 ((IntKind.wrap .i64 (ix b_0 5)) * 2 ^ 8))) (IntKind.wrap .i64 (ix b_0 6))))) (q:=.any) (hd 17 (by decide))) (by exact K3 (ps:=[.sc (.bool x1000_0.fFour),.sc (.int .i64 x1000_0.fAS4),.sc (.bool x1000_0.fGR),.sc (.bool x1000_0.fRestarting),.sc (.int .i64 x1000_0.fTime),.sc (.bool x1000_0.fFamily),.sc (.bool x1000_0.fForward),.sc (.bool x1000_0.fLL),.sc (.int .i64 x1000_0.fLLTime)]) rfl rfl) rfl rfl rfl rfl rfl rfl rfl hi rfl rfl (by kernel_rfl) (by kernel_rfl)
      obtain rfl:bD=fun _=>true:=funext hb
      exact ⟨(⟨x1000_0.fFour,x1000_0.fAS4,x1000_0.fGR,x1000_0.fRestarting,x1000_0.fTime,x1000_0.fFamily,x1000_0.fForward,true,(ior .i64 (ior .i64 (IntKind.wrap .i64 ((IntKind.wrap .i64 (ix b_0 4)) * 2 ^ 16)) (IntKind.wrap .i64 ((IntKind.wrap .i64 (ix b_0 5)) * 2 ^ 8))) (IntKind.wrap .i64 (ix b_0 6)))⟩:B0),(bT k12 rfl),(G9 rfl ⟨⟨rfl,(.one (.rfl _))⟩,⟨⟨rfl,(.one (.rfl _))⟩,⟨⟨rfl,(.one (.rfl _))⟩,trivial⟩⟩⟩ ⟨⟨[.sc (.bool x1000_0.fFour),.sc (.int .i64 x1000_0.fAS4),.sc (.bool x1000_0.fGR),.sc (.bool x1000_0.fRestarting),.sc (.int .i64 x1000_0.fTime),.sc (.bool x1000_0.fFamily),.sc (.bool x1000_0.fForward),.sc (.bool true),.sc (.int .i64 (ior .i64 (ior .i64 (IntKind.wrap .i64 ((IntKind.wrap .i64 (ix b_0 4)) * 2 ^ 16)) (IntKind.wrap .i64 ((IntKind.wrap .i64 (ix b_0 5)) * 2 ^ 8))) (IntKind.wrap .i64 (ix b_0 6))))],rfl,(.cons (wkE (f:=(fun z=>.sc (.bool z))) rfl) (.cons (wkE (f:=(fun z=>.sc (.int .i64 z))) rfl) (.cons (wkE (f:=(fun z=>.sc (.bool z))) rfl) (.cons (wkE (f:=(fun z=>.sc (.bool z))) rfl) (.cons (wkE (f:=(fun z=>.sc (.int .i64 z))) rfl) (.cons (wkE (f:=(fun z=>.sc (.bool z))) rfl) (.cons (wkE (f:=(fun z=>.sc (.bool z))) rfl) (.cons (wkE (f:=(fun z=>.sc (.bool z))) rfl) (.cons (wkE (f:=(fun z=>.sc (.int .i64 z))) rfl) .nil)))))))))⟩,trivial⟩ trivial)⟩
     ·skip
      refine F9 ?_
      exact ⟨x1000_0,(bF k12 rfl),(G9 rfl ⟨⟨rfl,(.one (.rfl _))⟩,⟨⟨rfl,(.one (.rfl _))⟩,⟨⟨rfl,(.one (.rfl _))⟩,trivial⟩⟩⟩ ⟨⟨[.sc (.bool x1000_0.fFour),.sc (.int .i64 x1000_0.fAS4),.sc (.bool x1000_0.fGR),.sc (.bool x1000_0.fRestarting),.sc (.int .i64 x1000_0.fTime),.sc (.bool x1000_0.fFamily),.sc (.bool x1000_0.fForward),.sc (.bool x1000_0.fLL),.sc (.int .i64 x1000_0.fLLTime)],rfl,(.cons (.rfl _) (.cons (.rfl _) (.cons (.rfl _) (.cons (.rfl _) (.cons (.rfl _) (.cons (.rfl _) (.cons (.rfl _) (.cons (.rfl _) (.cons (.rfl _) .nil)))))))))⟩,trivial⟩ trivial)⟩
    ·skip
     refine H5 1 rfl (fun hl13=>?_)
     refine B8 ?_
     refine B4 rfl (C2 (p:=.sem (SL (eI .u8) b_0)) rfl rfl rfl rfl) ?_
     refine B4 rfl (K0 (E:=(eI .u8)) (l:=b_0) (i:=7) (j:=(b_0.length:Int)) rfl rfl rfl Tryz.underlying22 ty5 (E3 rfl) (I0 rfl) (L3 rfl) (show 0 ≤ 7 ∧ 7 ≤ (b_0.length:Int) ∧ (b_0.length:Int) ≤ (b_0.length:Int) from (by first | omega | ((try simp only [z1,z2,z3,z4,z5,z6,z7,z8,z9,zA,zB,zC,zD,D2,C9,C4,C3,C5,B5,B6,B7,A7,A6] at *); omega) | ((try simp only [z1,z2,z3,z4,z5,z6,z7,z8,z9,zA,B5,B6,B7,A7,A6] at *); (try simp (disch:=omega) only [C8]); (try simp only [z1,z2,z3,z4,z5,z6,z7,z8,z9,zA,zB,zC,zD,D2,C9,C4,C3,C5,B5,B6,B7] at *); omega)))) ?_
     refine B4 rfl (C7 (p:=.sem (SL (eI .u8) (sub b_0 7 (b_0.length:Int)))) rfl rfl rfl rfl) ?_
     refine D4 ?_
     exact ⟨(n0,y_6,(sub b_0 7 (b_0.length:Int))),(G9 rfl ⟨⟨rfl,(.one (.rfl _))⟩,⟨⟨rfl,(.one (.rfl _))⟩,⟨⟨rfl,(.one (.rfl _))⟩,trivial⟩⟩⟩ ⟨⟨[.sc (.bool y_6.fFour),.sc (.int .i64 y_6.fAS4),.sc (.bool y_6.fGR),.sc (.bool y_6.fRestarting),.sc (.int .i64 y_6.fTime),.sc (.bool y_6.fFamily),.sc (.bool y_6.fForward),.sc (.bool y_6.fLL),.sc (.int .i64 y_6.fLLTime)],rfl,(.cons (.rfl _) (.cons (.rfl _) (.cons (.rfl _) (.cons (.rfl _) (.cons (.rfl _) (.cons (.rfl _) (.cons (.rfl _) (.cons (.rfl _) (.cons (.rfl _) .nil)))))))))⟩,trivial⟩ trivial),⟨Eq.trans (Eq.symm (bT k5 (mB e6 rfl))) hJ0,(by first | omega | ((try simp only [z1,z2,z3,z4,z5,z6,z7,z8,z9,zA,zB,zC,zD,D2,C9,C4,C3,C5,B5,B6,B7,A7,A6] at *); omega) | ((try simp only [z1,z2,z3,z4,z5,z6,z7,z8,z9,zA,B5,B6,B7,A7,A6] at *); (try simp (disch:=omega) only [C8]); (try simp only [z1,z2,z3,z4,z5,z6,z7,z8,z9,zA,zB,zC,zD,D2,C9,C4,C3,C5,B5,B6,B7] at *); omega)),(by first | omega | ((try simp only [z1,z2,z3,z4,z5,z6,z7,z8,z9,zA,zB,zC,zD,D2,C9,C4,C3,C5,B5,B6,B7,A7,A6] at *); omega) | ((try simp only [z1,z2,z3,z4,z5,z6,z7,z8,z9,zA,B5,B6,B7,A7,A6] at *); (try simp (disch:=omega) only [C8]); (try simp only [z1,z2,z3,z4,z5,z6,z7,z8,z9,zA,zB,zC,zD,D2,C9,C4,C3,C5,B5,B6,B7] at *); omega))⟩,Nat.lt_succ_self _⟩
   ·skip
    refine S8 ?_
    exact ⟨(x1000_0,b_0),hJ0.symm.trans (bF k5 rfl),(G9 rfl ⟨⟨rfl,(.one (.rfl _))⟩,⟨⟨rfl,(.one (.rfl _))⟩,⟨⟨rfl,(.one (.rfl _))⟩,trivial⟩⟩⟩ ⟨⟨[.sc (.bool x1000_0.fFour),.sc (.int .i64 x1000_0.fAS4),.sc (.bool x1000_0.fGR),.sc (.bool x1000_0.fRestarting),.sc (.int .i64 x1000_0.fTime),.sc (.bool x1000_0.fFamily),.sc (.bool x1000_0.fForward),.sc (.bool x1000_0.fLL),.sc (.int .i64 x1000_0.fLLTime)],rfl,(.cons (.rfl _) (.cons (.rfl _) (.cons (.rfl _) (.cons (.rfl _) (.cons (.rfl _) (.cons (.rfl _) (.cons (.rfl _) (.cons (.rfl _) (.cons (.rfl _) .nil)))))))))⟩,trivial⟩ trivial)⟩
  ·skip
   refine H5 1 rfl (fun hl14=>?_)
   refine C6 ?_
   refine B8 ?_
   refine B4 rfl (C7 (p:=.sc (.bool true)) rfl rfl rfl rfl) ?_
   refine D4 ?_
   refine G2 ?_
   exact F7 (F:=(fun (z:Bool × B0)=>⟨[(1000,[.sc (.bool z.2.fFour),.sc (.int .i64 z.2.fAS4),.sc (.bool z.2.fGR),.sc (.bool z.2.fRestarting),.sc (.int .i64 z.2.fTime),.sc (.bool z.2.fFamily),.sc (.bool z.2.fForward),.sc (.bool z.2.fLL),.sc (.int .i64 z.2.fLLTime)])],[],.sc (.bool z.1)⟩)) (z:=(K6 c b)) (v:=(true,x_0.1)) (bF k2 (mB e3 rfl)) rfl (.one (.tmp 4 (.sc (.bool true)) rfl) (.one (.rfl _)) rfl) ⟨⟨[.sc (.bool x_0.1.fFour),.sc (.int .i64 x_0.1.fAS4),.sc (.bool x_0.1.fGR),.sc (.bool x_0.1.fRestarting),.sc (.int .i64 x_0.1.fTime),.sc (.bool x_0.1.fFamily),.sc (.bool x_0.1.fForward),.sc (.bool x_0.1.fLL),.sc (.int .i64 x_0.1.fLLTime)],rfl,(.cons (.rfl _) (.cons (.rfl _) (.cons (.rfl _) (.cons (.rfl _) (.cons (.rfl _) (.cons (.rfl _) (.cons (.rfl _) (.cons (.rfl _) (.cons (.rfl _) .nil)))))))))⟩,trivial⟩ trivial
def I8 (c:B0) (code:Int) (b:List Int):Bool × B0:=
 (bif decide ((code:Int)=65) then
  (bif !(decide (((b.length:Int):Int)=4)) then
   (false,c)
  else
   (decide ((0:Int) < (IntKind.wrap .i64 (G1 b))),(⟨true,(IntKind.wrap .i64 (G1 b)),c.fGR,c.fRestarting,c.fTime,c.fFamily,c.fForward,c.fLL,c.fLLTime⟩:B0)))
 else
  (bif decide ((code:Int)=64) then
   ((I5 c b).1,((I5 c b).2))
  else
   (bif decide ((code:Int)=71) then
    ((K6 c b).1,((K6 c b).2))
   else
    (true,c))))
set_option maxRecDepth 100000 in
set_option maxHeartbeats 4000000 in
theorem A5p (c:B0) (code:Int) (b:List Int):PG Tryz.prog 72 [(1000,(B0.cells c))] [] [.loc 1000 0,.sc (.int .u8 code),.sem (SL (eI .u8) b)] (fun _:Unit=>True) (fun _=>(fun (z:Bool × B0)=>⟨[(1000,[.sc (.bool z.2.fFour),.sc (.int .i64 z.2.fAS4),.sc (.bool z.2.fGR),.sc (.bool z.2.fRestarting),.sc (.int .i64 z.2.fTime),.sc (.bool z.2.fFamily),.sc (.bool z.2.fForward),.sc (.bool z.2.fLL),.sc (.int .i64 z.2.fLLTime)])],[],.sc (.bool z.1)⟩) (I8 c code b)):=by
 refine M4 (N:=37) (l:=[.tmp 6]) Tryz.func72 rfl rfl rfl (Nat.le_of_ble_eq_true rfl) fun w0 i0 F βs=>?_
 refine C6 ?_
 refine B8 ?_
 refine B4 rfl (C7 (p:=.sc (.bool false)) rfl rfl rfl rfl) ?_
 refine D4 ?_
 refine C6 ?_
 refine C6 ?_
 refine B8 ?_
 refine B4 rfl (C2 (p:=.sc (.int .u8 code)) rfl rfl rfl rfl) ?_
 refine D4 ?_
 refine H6 ?_
 refine C6 ?_
 refine B8 ?_
 refine B4 rfl (E6 (u1:=.int .u8 code) (u2:=.int .u8 65) (v:=.bool (decide ((code:Int)=65))) rfl rfl rfl rfl rfl (fun _=>rfl)) ?_
 refine B4 rfl (C7 (p:=.sc (.bool (decide ((code:Int)=65)))) rfl rfl rfl rfl) ?_
 refine D4 ?_
 refine F6 (b:=decide ((code:Int)=65)) rfl (fun k1=>?_) (fun k1=>?_)
 ·skip
  refine C6 ?_
  refine C6 ?_
  refine B8 ?_
  refine B4 rfl (C2 (p:=.sem (SL (eI .u8) b)) rfl rfl rfl rfl) ?_
  refine B4 rfl (L6 rfl rfl rfl Tryz.underlying22 (E3 rfl)) ?_
  refine B4 rfl (E6 (u1:=.int .i64 (b.length:Int)) (u2:=.int .i64 4) (v:=.bool (!(decide (((b.length:Int):Int)=4)))) rfl rfl rfl rfl rfl (fun _=>rfl)) ?_
  refine D4 ?_
  refine F6 (b:=!(decide (((b.length:Int):Int)=4))) rfl (fun k2=>?_) (fun k2=>?_)
  ·skip
   refine C6 ?_
   refine B8 ?_
   refine B4 rfl (C7 (p:=.sc (.bool false)) rfl rfl rfl rfl) ?_
   refine D4 ?_
   refine G2 ?_
   exact F7 (F:=(fun (z:Bool × B0)=>⟨[(1000,[.sc (.bool z.2.fFour),.sc (.int .i64 z.2.fAS4),.sc (.bool z.2.fGR),.sc (.bool z.2.fRestarting),.sc (.int .i64 z.2.fTime),.sc (.bool z.2.fFamily),.sc (.bool z.2.fForward),.sc (.bool z.2.fLL),.sc (.int .i64 z.2.fLLTime)])],[],.sc (.bool z.1)⟩)) (z:=(I8 c code b)) (v:=(false,c)) (bT k1 (bT k2 rfl)) rfl (.one (.tmp 6 (.sc (.bool false)) rfl) (.one (.rfl _)) rfl) ⟨⟨(B0.cells c),rfl,(.cons (.rfl _) (.cons (.rfl _) (.cons (.rfl _) (.cons (.rfl _) (.cons (.rfl _) (.cons (.rfl _) (.cons (.rfl _) (.cons (.rfl _) (.cons (.rfl _) .nil)))))))))⟩,trivial⟩ trivial
  ·skip
   refine F9 ?_
   refine C6 ?_
   refine B8 ?_
   refine B4 rfl (C2 (p:=.loc 1000 0) rfl rfl rfl rfl) ?_
   refine B4 rfl (C2 (p:=.loc 1000 0) rfl rfl rfl rfl) ?_
   refine B4 rfl (C2 (p:=.sem (SL (eI .u8) b)) rfl rfl rfl rfl) ?_
   refine B4 rfl (I1 (fn:=Tryz.f47) (xs:=[.tmp 15]) (args:=[.sem (SL (eI .u8) b)]) (r:=.sc (.int .u32 (G1 b))) rfl rfl rfl Tryz.func47 rfl rfl rfl rfl rfl (A0w b)) ?_
   refine B4 rfl (G8 (m:=(IntKind.wrap .i64 (G1 b))) rfl rfl rfl Tryz.underlying27 Tryz.underlying3 rfl rfl) ?_
   refine B4 rfl (H3 (s:=1000) (off:=0) rfl rfl rfl rfl) ?_
   refine B4 rfl (D3 (b:=1000) (k:=0) (m:=0) rfl rfl rfl U0 rfl rfl) ?_
   refine B4 rfl (G5 (s:=1000) (off:=0) (ps:=(B0.cells c)) (p:=.sc (.bool true)) (qs:=[.sc (.bool true),.sc (.int .i64 c.fAS4),.sc (.bool c.fGR),.sc (.bool c.fRestarting),.sc (.int .i64 c.fTime),.sc (.bool c.fFamily),.sc (.bool c.fForward),.sc (.bool c.fLL),.sc (.int .i64 c.fLLTime)]) rfl rfl ty4 rfl rfl rfl rfl rfl rfl rfl) ?_
   refine B4 rfl (H3 (s:=1000) (off:=0) rfl rfl rfl rfl) ?_
   refine B4 rfl (D3 (b:=1000) (k:=0) (m:=1) rfl rfl rfl Q6 rfl rfl) ?_
   refine B4 rfl (G5 (s:=1000) (off:=1) (ps:=[.sc (.bool true),.sc (.int .i64 c.fAS4),.sc (.bool c.fGR),.sc (.bool c.fRestarting),.sc (.int .i64 c.fTime),.sc (.bool c.fFamily),.sc (.bool c.fForward),.sc (.bool c.fLL),.sc (.int .i64 c.fLLTime)]) (p:=.sc (.int .i64 (IntKind.wrap .i64 (G1 b)))) (qs:=[.sc (.bool true),.sc (.int .i64 (IntKind.wrap .i64 (G1 b))),.sc (.bool c.fGR),.sc (.bool c.fRestarting),.sc (.int .i64 c.fTime),.sc (.bool c.fFamily),.sc (.bool c.fForward),.sc (.bool c.fLL),.sc (.int .i64 c.fLLTime)]) rfl rfl ty3 rfl rfl rfl rfl rfl rfl rfl) ?_
   refine D4 ?_
   refine C6 ?_
   refine B8 ?_
   refine B4 rfl (C2 (p:=.loc 1000 0) rfl rfl rfl rfl) ?_
   refine B4 rfl (H3 (s:=1000) (off:=0) rfl rfl rfl rfl) ?_
   refine B4 rfl (D3 (b:=1000) (k:=0) (m:=1) rfl rfl rfl Q6 rfl rfl) ?_
   refine B4 rfl (F4 (s:=1000) (off:=1) (ps:=[.sc (.bool true),.sc (.int .i64 (IntKind.wrap .i64 (G1 b))),.sc (.bool c.fGR),.sc (.bool c.fRestarting),.sc (.int .i64 c.fTime),.sc (.bool c.fFamily),.sc (.bool c.fForward),.sc (.bool c.fLL),.sc (.int .i64 c.fLLTime)]) (p:=.sc (.int .i64 (IntKind.wrap .i64 (G1 b)))) rfl rfl rfl ty3 rfl rfl rfl rfl rfl) ?_
   refine B4 rfl (E6 (u1:=.int .i64 (IntKind.wrap .i64 (G1 b))) (u2:=.int .i64 0) (v:=.bool (decide ((0:Int) < (IntKind.wrap .i64 (G1 b))))) rfl rfl rfl rfl rfl (fun _=>rfl)) ?_
   refine B4 rfl (C7 (p:=.sc (.bool (decide ((0:Int) < (IntKind.wrap .i64 (G1 b)))))) rfl rfl rfl rfl) ?_
   refine D4 ?_
   refine G2 ?_
   exact F7 (F:=(fun (z:Bool × B0)=>⟨[(1000,[.sc (.bool z.2.fFour),.sc (.int .i64 z.2.fAS4),.sc (.bool z.2.fGR),.sc (.bool z.2.fRestarting),.sc (.int .i64 z.2.fTime),.sc (.bool z.2.fFamily),.sc (.bool z.2.fForward),.sc (.bool z.2.fLL),.sc (.int .i64 z.2.fLLTime)])],[],.sc (.bool z.1)⟩)) (z:=(I8 c code b)) (v:=(decide ((0:Int) < (IntKind.wrap .i64 (G1 b))),(⟨true,(IntKind.wrap .i64 (G1 b)),c.fGR,c.fRestarting,c.fTime,c.fFamily,c.fForward,c.fLL,c.fLLTime⟩:B0))) (bT k1 (bF k2 rfl)) rfl (.one (.tmp 6 (.sc (.bool (decide ((0:Int) < (IntKind.wrap .i64 (G1 b)))))) rfl) (.one (.rfl _)) rfl) ⟨⟨[.sc (.bool true),.sc (.int .i64 (IntKind.wrap .i64 (G1 b))),.sc (.bool c.fGR),.sc (.bool c.fRestarting),.sc (.int .i64 c.fTime),.sc (.bool c.fFamily),.sc (.bool c.fForward),.sc (.bool c.fLL),.sc (.int .i64 c.fLLTime)],rfl,(.cons (.rfl _) (.cons (.rfl _) (.cons (.rfl _) (.cons (.rfl _) (.cons (.rfl _) (.cons (.rfl _) (.cons (.rfl _) (.cons (.rfl _) (.cons (.rfl _) .nil)))))))))⟩,trivial⟩ trivial
 ·skip
  refine C6 ?_
  refine B8 ?_
  refine B4 rfl (E6 (u1:=.int .u8 code) (u2:=.int .u8 64) (v:=.bool (decide ((code:Int)=64))) rfl rfl rfl rfl rfl (fun _=>rfl)) ?_
  refine B4 rfl (C7 (p:=.sc (.bool (decide ((code:Int)=64)))) rfl rfl rfl rfl) ?_
  refine D4 ?_
  refine F6 (b:=decide ((code:Int)=64)) rfl (fun k3=>?_) (fun k3=>?_)
  ·skip
   refine C6 ?_
   refine B8 ?_
   refine B4 rfl (C2 (p:=.loc 1000 0) rfl rfl rfl rfl) ?_
   refine B4 rfl (C2 (p:=.sem (SL (eI .u8) b)) rfl rfl rfl rfl) ?_
   refine j7 rfl (j5 (fn:=Tryz.f94) (xs:=[.tmp 29,.tmp 30]) (bxs:=[(1000,1000,(B0.cells c),(B0.cells c))]) (tps:=[]) (newS:=[]) (newT:=[]) (ρ:=[(1000,1000)]) (τ:=[]) rfl rfl rfl Tryz.func94 rfl rfl (A2i c b) rfl rfl rfl rfl rfl rfl (by decide) (fc ⟨rfl,(.cons (.rfl _) (.cons (.rfl _) (.cons (.rfl _) (.cons (.rfl _) (.cons (.rfl _) (.cons (.rfl _) (.cons (.rfl _) (.cons (.rfl _) (.cons (.rfl _) .nil)))))))))⟩ fn') fn' ((.cons (.one (.rfl _)) (.cons (.one (.rfl _)) .nil))) rfl (fun _=>rfl) (fun _=>rfl) rfl) (fun _ _=>?_)
   refine B4 rfl (C7 (p:=.sc (.bool ((I5 c b).1))) rfl rfl rfl rfl) ?_
   refine D4 ?_
   refine G2 ?_
   exact F7 (F:=(fun (z:Bool × B0)=>⟨[(1000,[.sc (.bool z.2.fFour),.sc (.int .i64 z.2.fAS4),.sc (.bool z.2.fGR),.sc (.bool z.2.fRestarting),.sc (.int .i64 z.2.fTime),.sc (.bool z.2.fFamily),.sc (.bool z.2.fForward),.sc (.bool z.2.fLL),.sc (.int .i64 z.2.fLLTime)])],[],.sc (.bool z.1)⟩)) (z:=(I8 c code b)) (v:=((I5 c b).1,((I5 c b).2))) (bF k1 (bT k3 rfl)) rfl (.one (.tmp 6 (.sc (.bool ((I5 c b).1))) rfl) (.one (.rfl _)) rfl) ⟨⟨[.sc (.bool (((I5 c b).2).fFour)),.sc (.int .i64 (((I5 c b).2).fAS4)),.sc (.bool (((I5 c b).2).fGR)),.sc (.bool (((I5 c b).2).fRestarting)),.sc (.int .i64 (((I5 c b).2).fTime)),.sc (.bool (((I5 c b).2).fFamily)),.sc (.bool (((I5 c b).2).fForward)),.sc (.bool (((I5 c b).2).fLL)),.sc (.int .i64 (((I5 c b).2).fLLTime))],rfl,(.cons (.rfl _) (.cons (.rfl _) (.cons (.rfl _) (.cons (.rfl _) (.cons (.rfl _) (.cons (.rfl _) (.cons (.rfl _) (.cons (.rfl _) (.cons (.rfl _) .nil)))))))))⟩,trivial⟩ trivial
  ·skip
   refine C6 ?_
   refine B8 ?_
   refine B4 rfl (E6 (u1:=.int .u8 code) (u2:=.int .u8 71) (v:=.bool (decide ((code:Int)=71))) rfl rfl rfl rfl rfl (fun _=>rfl)) ?_
   refine B4 rfl (C7 (p:=.sc (.bool (decide ((code:Int)=71)))) rfl rfl rfl rfl) ?_
   refine D4 ?_
   refine F6 (b:=decide ((code:Int)=71)) rfl (fun k4=>?_) (fun k4=>?_)
   ·skip
    refine C6 ?_
    refine B8 ?_
    refine B4 rfl (C2 (p:=.loc 1000 0) rfl rfl rfl rfl) ?_
    refine B4 rfl (C2 (p:=.sem (SL (eI .u8) b)) rfl rfl rfl rfl) ?_
    refine j7 rfl (j5 (fn:=Tryz.f95) (xs:=[.tmp 34,.tmp 35]) (bxs:=[(1000,1000,(B0.cells c),(B0.cells c))]) (tps:=[]) (newS:=[]) (newT:=[]) (ρ:=[(1000,1000)]) (τ:=[]) rfl rfl rfl Tryz.func95 rfl rfl (A3K c b) rfl rfl rfl rfl rfl rfl (by decide) (fc ⟨rfl,(.cons (.rfl _) (.cons (.rfl _) (.cons (.rfl _) (.cons (.rfl _) (.cons (.rfl _) (.cons (.rfl _) (.cons (.rfl _) (.cons (.rfl _) (.cons (.rfl _) .nil)))))))))⟩ fn') fn' ((.cons (.one (.rfl _)) (.cons (.one (.rfl _)) .nil))) rfl (fun _=>rfl) (fun _=>rfl) rfl) (fun _ _=>?_)
    refine B4 rfl (C7 (p:=.sc (.bool ((K6 c b).1))) rfl rfl rfl rfl) ?_
    refine D4 ?_
    refine G2 ?_
    exact F7 (F:=(fun (z:Bool × B0)=>⟨[(1000,[.sc (.bool z.2.fFour),.sc (.int .i64 z.2.fAS4),.sc (.bool z.2.fGR),.sc (.bool z.2.fRestarting),.sc (.int .i64 z.2.fTime),.sc (.bool z.2.fFamily),.sc (.bool z.2.fForward),.sc (.bool z.2.fLL),.sc (.int .i64 z.2.fLLTime)])],[],.sc (.bool z.1)⟩)) (z:=(I8 c code b)) (v:=((K6 c b).1,((K6 c b).2))) (bF k1 (bF k3 (bT k4 rfl))) rfl (.one (.tmp 6 (.sc (.bool ((K6 c b).1))) rfl) (.one (.rfl _)) rfl) ⟨⟨[.sc (.bool (((K6 c b).2).fFour)),.sc (.int .i64 (((K6 c b).2).fAS4)),.sc (.bool (((K6 c b).2).fGR)),.sc (.bool (((K6 c b).2).fRestarting)),.sc (.int .i64 (((K6 c b).2).fTime)),.sc (.bool (((K6 c b).2).fFamily)),.sc (.bool (((K6 c b).2).fForward)),.sc (.bool (((K6 c b).2).fLL)),.sc (.int .i64 (((K6 c b).2).fLLTime))],rfl,(.cons (.rfl _) (.cons (.rfl _) (.cons (.rfl _) (.cons (.rfl _) (.cons (.rfl _) (.cons (.rfl _) (.cons (.rfl _) (.cons (.rfl _) (.cons (.rfl _) .nil)))))))))⟩,trivial⟩ trivial
   ·skip
    refine F9 ?_
    refine C6 ?_
    refine B8 ?_
    refine B4 rfl (C7 (p:=.sc (.bool true)) rfl rfl rfl rfl) ?_
    refine D4 ?_
    refine G2 ?_
    exact F7 (F:=(fun (z:Bool × B0)=>⟨[(1000,[.sc (.bool z.2.fFour),.sc (.int .i64 z.2.fAS4),.sc (.bool z.2.fGR),.sc (.bool z.2.fRestarting),.sc (.int .i64 z.2.fTime),.sc (.bool z.2.fFamily),.sc (.bool z.2.fForward),.sc (.bool z.2.fLL),.sc (.int .i64 z.2.fLLTime)])],[],.sc (.bool z.1)⟩)) (z:=(I8 c code b)) (v:=(true,c)) (bF k1 (bF k3 (bF k4 rfl))) rfl (.one (.tmp 6 (.sc (.bool true)) rfl) (.one (.rfl _)) rfl) ⟨⟨(B0.cells c),rfl,(.cons (.rfl _) (.cons (.rfl _) (.cons (.rfl _) (.cons (.rfl _) (.cons (.rfl _) (.cons (.rfl _) (.cons (.rfl _) (.cons (.rfl _) (.cons (.rfl _) .nil)))))))))⟩,trivial⟩ trivial
def I9 (code:Int) (b:List Int) (c:B0):Bool × B0:=
 ((I8 c code b).1,((I8 c code b).2))
set_option maxRecDepth 100000 in
set_option maxHeartbeats 4000000 in
theorem A5C (code:Int) (b:List Int) (c:B0):PG Tryz.prog 71 [(1002,(B0.cells c))] [] [.sc (.int .u8 code),.sem (SL (eI .u8) b),.loc 1002 0] (fun _:Unit=>True) (fun _=>(fun (z:Bool × B0)=>⟨[(1002,[.sc (.bool z.2.fFour),.sc (.int .i64 z.2.fAS4),.sc (.bool z.2.fGR),.sc (.bool z.2.fRestarting),.sc (.int .i64 z.2.fTime),.sc (.bool z.2.fFamily),.sc (.bool z.2.fForward),.sc (.bool z.2.fLL),.sc (.int .i64 z.2.fLLTime)])],[],.sc (.bool z.1)⟩) (I9 code b c)):=by
 refine M4 (N:=9) (l:=[.tmp 5]) Tryz.func71 rfl rfl rfl (Nat.le_of_ble_eq_true rfl) fun w0 i0 F βs=>?_
 refine C6 ?_
 refine B8 ?_
 refine B4 rfl (C7 (p:=.sc (.bool false)) rfl rfl rfl rfl) ?_
 refine D4 ?_
 refine C6 ?_
 refine B8 ?_
 refine B4 rfl (C2 (p:=.sc (.int .u8 code)) rfl rfl rfl rfl) ?_
 refine B4 rfl (C2 (p:=.sem (SL (eI .u8) b)) rfl rfl rfl rfl) ?_
 refine j7 rfl (j5 (fn:=Tryz.f72) (xs:=[.tmp 2,.tmp 6,.tmp 7]) (bxs:=[(1000,1002,(B0.cells c),(B0.cells c))]) (tps:=[]) (newS:=[]) (newT:=[]) (ρ:=[(1000,1002)]) (τ:=[]) rfl rfl rfl Tryz.func72 rfl rfl (A5p c code b) rfl rfl rfl rfl rfl rfl (by decide) (fc ⟨rfl,(.cons (.rfl _) (.cons (.rfl _) (.cons (.rfl _) (.cons (.rfl _) (.cons (.rfl _) (.cons (.rfl _) (.cons (.rfl _) (.cons (.rfl _) (.cons (.rfl _) .nil)))))))))⟩ fn') fn' ((.cons (.one (.rfl _)) (.cons (.one (.rfl _)) (.cons (.one (.rfl _)) .nil)))) rfl (fun _=>rfl) (fun _=>rfl) rfl) (fun _ _=>?_)
 refine B4 rfl (C7 (p:=.sc (.bool ((I8 c code b).1))) rfl rfl rfl rfl) ?_
 refine D4 ?_
 refine G2 ?_
 exact F7 (F:=(fun (z:Bool × B0)=>⟨[(1002,[.sc (.bool z.2.fFour),.sc (.int .i64 z.2.fAS4),.sc (.bool z.2.fGR),.sc (.bool z.2.fRestarting),.sc (.int .i64 z.2.fTime),.sc (.bool z.2.fFamily),.sc (.bool z.2.fForward),.sc (.bool z.2.fLL),.sc (.int .i64 z.2.fLLTime)])],[],.sc (.bool z.1)⟩)) (z:=(I9 code b c)) (v:=((I8 c code b).1,((I8 c code b).2))) rfl rfl (.one (.tmp 5 (.sc (.bool ((I8 c code b).1))) rfl) (.one (.rfl _)) rfl) ⟨⟨[.sc (.bool (((I8 c code b).2).fFour)),.sc (.int .i64 (((I8 c code b).2).fAS4)),.sc (.bool (((I8 c code b).2).fGR)),.sc (.bool (((I8 c code b).2).fRestarting)),.sc (.int .i64 (((I8 c code b).2).fTime)),.sc (.bool (((I8 c code b).2).fFamily)),.sc (.bool (((I8 c code b).2).fForward)),.sc (.bool (((I8 c code b).2).fLL)),.sc (.int .i64 (((I8 c code b).2).fLLTime))],rfl,(.cons (.rfl _) (.cons (.rfl _) (.cons (.rfl _) (.cons (.rfl _) (.cons (.rfl _) (.cons (.rfl _) (.cons (.rfl _) (.cons (.rfl _) (.cons (.rfl _) .nil)))))))))⟩,trivial⟩ trivial
def N2 (b:List Int) (c:B0):Nat → B0 → List Int → (Bool × B0) ⊕ (B0 × (List Int))
 | 0,_,_=>Sum.inr default
 | n0 + 1,x1100_0,b_0 =>
  (bif decide ((0:Int) < (b_0.length:Int)) then
   (bif (decide (((b_0.length:Int):Int) < 2)) || (decide (((IntKind.wrap .i64 ((b_0.length:Int) - 2)):Int) < (IntKind.wrap .i64 (ix b_0 1)))) then
    Sum.inl (false,x1100_0)
   else
    (bif !((I9 (ix b_0 0) (sub b_0 2 (IntKind.wrap .i64 (2 + (IntKind.wrap .i64 (ix b_0 1))))) x1100_0).1) then
     Sum.inl (false,((I9 (ix b_0 0) (sub b_0 2 (IntKind.wrap .i64 (2 + (IntKind.wrap .i64 (ix b_0 1))))) x1100_0).2))
    else
     N2 b c n0 ((I9 (ix b_0 0) (sub b_0 2 (IntKind.wrap .i64 (2 + (IntKind.wrap .i64 (ix b_0 1))))) x1100_0).2) (sub b_0 (IntKind.wrap .i64 (2 + (IntKind.wrap .i64 (ix b_0 1)))) (b_0.length:Int))))
  else
   Sum.inr (x1100_0,b_0))
def I3 (b:List Int) (c:B0):Bool × B0:=
 (Sum.elim (fun z=>z) (fun (x_0:B0 × (List Int)) =>
  (true,x_0.1)) (N2 b c (b.length + 1) c b))
set_option maxRecDepth 100000 in
set_option maxHeartbeats 4000000 in
theorem A2o (b:List Int) (c:B0) (ok_b:gdL (okI .u8) b):PG Tryz.prog 69 [(1100,(B0.cells c))] [] [.sem (SL (eI .u8) b),.clo 71 [some 1100]] (fun _:Unit=>True) (fun _=>(fun (z:Bool × B0)=>⟨[(1100,[.sc (.bool z.2.fFour),.sc (.int .i64 z.2.fAS4),.sc (.bool z.2.fGR),.sc (.bool z.2.fRestarting),.sc (.int .i64 z.2.fTime),.sc (.bool z.2.fFamily),.sc (.bool z.2.fForward),.sc (.bool z.2.fLL),.sc (.int .i64 z.2.fLLTime)])],[],.sc (.bool z.1)⟩) (I3 b c)):=by
 refine M4 (N:=40) (l:=[.tmp 4]) Tryz.func69 rfl rfl rfl (Nat.le_of_ble_eq_true rfl) fun w0 i0 F βs=>?_
 refine H5 0 rfl (fun hl1=>?_)
 refine C6 ?_
 refine B8 ?_
 refine B4 rfl (C7 (p:=.sc (.bool false)) rfl rfl rfl rfl) ?_
 refine D4 ?_
 refine N8 (ι:=B0 × (List Int)) (p:=fun x_0=>(N2 b c (b.length + 1) c b)=.inr x_0) (S:=fun x_0=>St.of 40 [(0,.sem (SL (eI .u8) x_0.2)),(1,.clo 71 [some 1100]),(4,.sc (.bool false))] [(1100,[.sc (.bool x_0.1.fFour),.sc (.int .i64 x_0.1.fAS4),.sc (.bool x_0.1.fGR),.sc (.bool x_0.1.fRestarting),.sc (.int .i64 x_0.1.fTime),.sc (.bool x_0.1.fFamily),.sc (.bool x_0.1.fForward),.sc (.bool x_0.1.fLL),.sc (.int .i64 x_0.1.fLLTime)])] []) ?_ (fun x_0 e2=>?_)
 ·skip
  refine H6 ?_
  refine R3 (ι:=Nat × B0 × (List Int)) (S:=fun i=>St.of 40 [(0,.sem (SL (eI .u8) i.2.2)),(1,.clo 71 [some 1100]),(4,.sc (.bool false))] [(1100,[.sc (.bool i.2.1.fFour),.sc (.int .i64 i.2.1.fAS4),.sc (.bool i.2.1.fGR),.sc (.bool i.2.1.fRestarting),.sc (.int .i64 i.2.1.fTime),.sc (.bool i.2.1.fFamily),.sc (.bool i.2.1.fForward),.sc (.bool i.2.1.fLL),.sc (.int .i64 i.2.1.fLLTime)])] []) (J:=fun i=>N2 b c i.1 i.2.1 i.2.2=(N2 b c (b.length + 1) c b) ∧ (i.2.2.length < i.1) ∧ (gdL (okI .u8) i.2.2)) (μ:=fun i=>i.1) (i₀:=((b.length + 1),c,b)) (G9 rfl ⟨⟨rfl,(.one (.rfl _))⟩,⟨⟨rfl,(.one (.rfl _))⟩,⟨⟨rfl,(.one (.rfl _))⟩,trivial⟩⟩⟩ ⟨⟨(B0.cells c),rfl,(.cons (.rfl _) (.cons (.rfl _) (.cons (.rfl _) (.cons (.rfl _) (.cons (.rfl _) (.cons (.rfl _) (.cons (.rfl _) (.cons (.rfl _) (.cons (.rfl _) .nil)))))))))⟩,trivial⟩ trivial) ⟨rfl,(by first | omega | ((try simp only [z1,z2,z3,z4,z5,z6,z7,z8,z9,zA,zB,zC,zD,D2,C9,C4,C3,C5,B5,B6,B7,A7,A6] at *); omega) | ((try simp only [z1,z2,z3,z4,z5,z6,z7,z8,z9,zA,B5,B6,B7,A7,A6] at *); (try simp (disch:=omega) only [C8]); (try simp only [z1,z2,z3,z4,z5,z6,z7,z8,z9,zA,zB,zC,zD,D2,C9,C4,C3,C5,B5,B6,B7] at *); omega)),ok_b⟩ ?_
  rintro ⟨n0,x1100_0,b_0⟩ ⟨hJ0,hm0_0,ok_b_0⟩
  obtain ⟨n0,rfl⟩:∃ m,n0=m + 1:=⟨n0 - 1,by have:0 < n0:=Nat.lt_of_le_of_lt (Nat.zero_le _) hm0_0; omega⟩
  replace hJ0:N2 b c (n0 + 1) x1100_0 b_0=(N2 b c (b.length + 1) c b):=hJ0
  replace hm0_0:b_0.length < n0 + 1:=hm0_0
  replace ok_b_0:gdL (okI .u8) b_0:=ok_b_0
  refine H5 0 rfl (fun hl3=>?_)
  refine C6 ?_
  refine C6 ?_
  refine B8 ?_
  refine B4 rfl (C2 (p:=.sem (SL (eI .u8) b_0)) rfl rfl rfl rfl) ?_
  refine B4 rfl (L6 rfl rfl rfl Tryz.underlying22 (E3 rfl)) ?_
  refine B4 rfl (E6 (u1:=.int .i64 (b_0.length:Int)) (u2:=.int .i64 0) (v:=.bool (decide ((0:Int) < (b_0.length:Int)))) rfl rfl rfl rfl rfl (fun _=>rfl)) ?_
  refine D4 ?_
  refine F6 (b:=decide ((0:Int) < (b_0.length:Int))) rfl (fun k4=>?_) (fun k4=>?_)
  ·skip
   refine F9 ?_
   refine H6 ?_
   refine C6 ?_
   refine C6 ?_
   refine B8 ?_
   refine B4 rfl (C2 (p:=.sem (SL (eI .u8) b_0)) rfl rfl rfl rfl) ?_
   refine B4 rfl (L6 rfl rfl rfl Tryz.underlying22 (E3 rfl)) ?_
   refine B4 rfl (E6 (u1:=.int .i64 (b_0.length:Int)) (u2:=.int .i64 2) (v:=.bool (decide (((b_0.length:Int):Int) < 2))) rfl rfl rfl rfl rfl (fun _=>rfl)) ?_
   refine B4 rfl (C2 (p:=.sc (.bool (decide (((b_0.length:Int):Int) < 2)))) rfl rfl rfl rfl) ?_
   refine E0 (C:=!(decide (((b_0.length:Int):Int) < 2))) (p:=.sem (SL (eI .u8) b_0)) (H8 (b:=decide (((b_0.length:Int):Int) < 2)) (c:=!(decide (((b_0.length:Int):Int) < 2))) rfl rfl rfl rfl rfl rfl) rfl rfl (fun g5=>C2 (p:=.sem (SL (eI .u8) b_0)) rfl rfl rfl rfl) ?_
   have hx7:=O5 ok_b_0 1
   refine E0 (C:=!(decide (((b_0.length:Int):Int) < 2))) (p:=.sem (PT [.sc (.int .u8 (ix b_0 1))])) (H8 (b:=decide (((b_0.length:Int):Int) < 2)) (c:=!(decide (((b_0.length:Int):Int) < 2))) rfl rfl rfl rfl rfl rfl) rfl rfl (fun g6=>N6 (E:=(eI .u8)) (l:=b_0) (n:=1) (ps:=[.sc (.int .u8 (ix b_0 1))]) rfl rfl rfl Tryz.underlying22 ty5 (by exact (E3 (by exact (gt (p:=.sem (SL (eI .u8) b_0)) (q:=.sc undef) g6)))) rfl (by first | omega | ((try simp only [z1,z2,z3,z4,z5,z6,z7,z8,z9,zA,zB,zC,zD,D2,C9,C4,C3,C5,B5,B6,B7,A7,A6] at *); omega) | ((try simp only [z1,z2,z3,z4,z5,z6,z7,z8,z9,zA,B5,B6,B7,A7,A6] at *); (try simp (disch:=omega) only [C8]); (try simp only [z1,z2,z3,z4,z5,z6,z7,z8,z9,zA,zB,zC,zD,D2,C9,C4,C3,C5,B5,B6,B7] at *); omega)) rfl) ?_
   refine E0 (C:=!(decide (((b_0.length:Int):Int) < 2))) (p:=.sc (.int .u8 (ix b_0 1))) (H8 (b:=decide (((b_0.length:Int):Int) < 2)) (c:=!(decide (((b_0.length:Int):Int) < 2))) rfl rfl rfl rfl rfl rfl) rfl rfl (fun g8=>G4 (ps:=[.sc (.int .u8 (ix b_0 1))]) (p:=.sc (.int .u8 (ix b_0 1))) rfl rfl rfl ty5 (gt (p:=.sem (PT [.sc (.int .u8 (ix b_0 1))])) (q:=.sc undef) g8) rfl rfl rfl rfl) ?_
   refine E0 (C:=!(decide (((b_0.length:Int):Int) < 2))) (p:=.sc (.int .i64 (IntKind.wrap .i64 (ix b_0 1)))) (H8 (b:=decide (((b_0.length:Int):Int) < 2)) (c:=!(decide (((b_0.length:Int):Int) < 2))) rfl rfl rfl rfl rfl rfl) rfl rfl (fun g9=>G8 (m:=(IntKind.wrap .i64 (ix b_0 1))) rfl rfl rfl Tryz.underlying5 Tryz.underlying3 (gt (p:=.sc (.int .u8 (ix b_0 1))) (q:=.sc undef) g9) rfl) ?_
   refine E0 (C:=!(decide (((b_0.length:Int):Int) < 2))) (p:=.sem (SL (eI .u8) b_0)) (H8 (b:=decide (((b_0.length:Int):Int) < 2)) (c:=!(decide (((b_0.length:Int):Int) < 2))) rfl rfl rfl rfl rfl rfl) rfl rfl (fun g10=>C2 (p:=.sem (SL (eI .u8) b_0)) rfl rfl rfl rfl) ?_
   refine E0 (C:=!(decide (((b_0.length:Int):Int) < 2))) (p:=.sc (.int .i64 (b_0.length:Int))) (H8 (b:=decide (((b_0.length:Int):Int) < 2)) (c:=!(decide (((b_0.length:Int):Int) < 2))) rfl rfl rfl rfl rfl rfl) rfl rfl (fun g11=>L6 rfl rfl rfl Tryz.underlying22 (by exact (E3 (by exact (gt (p:=.sem (SL (eI .u8) b_0)) (q:=.sc undef) g11))))) ?_
   refine E0 (C:=!(decide (((b_0.length:Int):Int) < 2))) (p:=.sc (.int .i64 (IntKind.wrap .i64 ((b_0.length:Int) - 2)))) (H8 (b:=decide (((b_0.length:Int):Int) < 2)) (c:=!(decide (((b_0.length:Int):Int) < 2))) rfl rfl rfl rfl rfl rfl) rfl rfl (fun g12=>E6 (u1:=.int .i64 (b_0.length:Int)) (u2:=.int .i64 2) (v:=.int .i64 (IntKind.wrap .i64 ((b_0.length:Int) - 2))) rfl rfl rfl (gt (p:=.sc (.int .i64 (b_0.length:Int))) (q:=.sc undef) g12) rfl (fun _=>rfl)) ?_
   refine E0 (C:=!(decide (((b_0.length:Int):Int) < 2))) (p:=.sc (.bool (decide (((IntKind.wrap .i64 ((b_0.length:Int) - 2)):Int) < (IntKind.wrap .i64 (ix b_0 1)))))) (H8 (b:=decide (((b_0.length:Int):Int) < 2)) (c:=!(decide (((b_0.length:Int):Int) < 2))) rfl rfl rfl rfl rfl rfl) rfl rfl (fun g13=>E6 (u1:=.int .i64 (IntKind.wrap .i64 (ix b_0 1))) (u2:=.int .i64 (IntKind.wrap .i64 ((b_0.length:Int) - 2))) (v:=.bool (decide (((IntKind.wrap .i64 ((b_0.length:Int) - 2)):Int) < (IntKind.wrap .i64 (ix b_0 1))))) rfl rfl rfl (gt (p:=.sc (.int .i64 (IntKind.wrap .i64 (ix b_0 1)))) (q:=.sc undef) g13) (gt (p:=.sc (.int .i64 (IntKind.wrap .i64 ((b_0.length:Int) - 2)))) (q:=.sc undef) g13) (fun _=>rfl)) ?_
   refine B4 rfl (N5 (b:=decide (((b_0.length:Int):Int) < 2)) (y:=decide (((IntKind.wrap .i64 ((b_0.length:Int) - 2)):Int) < (IntKind.wrap .i64 (ix b_0 1)))) rfl rfl rfl rfl rfl rfl) ?_
   refine D4 ?_
   refine F6 (b:=(decide (((b_0.length:Int):Int) < 2)) || (decide (((IntKind.wrap .i64 ((b_0.length:Int) - 2)):Int) < (IntKind.wrap .i64 (ix b_0 1))))) rfl (fun k14=>?_) (fun k14=>?_)
   ·skip
    refine C6 ?_
    refine B8 ?_
    refine B4 rfl (C7 (p:=.sc (.bool false)) rfl rfl rfl rfl) ?_
    refine D4 ?_
    refine G2 ?_
    exact F7 (F:=(fun (z:Bool × B0)=>⟨[(1100,[.sc (.bool z.2.fFour),.sc (.int .i64 z.2.fAS4),.sc (.bool z.2.fGR),.sc (.bool z.2.fRestarting),.sc (.int .i64 z.2.fTime),.sc (.bool z.2.fFamily),.sc (.bool z.2.fForward),.sc (.bool z.2.fLL),.sc (.int .i64 z.2.fLLTime)])],[],.sc (.bool z.1)⟩)) (z:=(I3 b c)) (v:=(false,x1100_0)) (mL (hJ0.symm.trans (bT k4 (bT k14 rfl))) rfl) rfl (.one (.tmp 4 (.sc (.bool false)) rfl) (.one (.rfl _)) rfl) ⟨⟨[.sc (.bool x1100_0.fFour),.sc (.int .i64 x1100_0.fAS4),.sc (.bool x1100_0.fGR),.sc (.bool x1100_0.fRestarting),.sc (.int .i64 x1100_0.fTime),.sc (.bool x1100_0.fFamily),.sc (.bool x1100_0.fForward),.sc (.bool x1100_0.fLL),.sc (.int .i64 x1100_0.fLLTime)],rfl,(.cons (.rfl _) (.cons (.rfl _) (.cons (.rfl _) (.cons (.rfl _) (.cons (.rfl _) (.cons (.rfl _) (.cons (.rfl _) (.cons (.rfl _) (.cons (.rfl _) .nil)))))))))⟩,trivial⟩ trivial
   ·skip
    refine F9 ?_
    refine C6 ?_
    refine B8 ?_
    refine B4 rfl (C2 (p:=.sem (SL (eI .u8) b_0)) rfl rfl rfl rfl) ?_
    have hx15:=O5 ok_b_0 1
    refine B4 rfl (N6 (E:=(eI .u8)) (l:=b_0) (n:=1) (ps:=[.sc (.int .u8 (ix b_0 1))]) rfl rfl rfl Tryz.underlying22 ty5 (E3 rfl) rfl (by first | omega | ((try simp only [z1,z2,z3,z4,z5,z6,z7,z8,z9,zA,zB,zC,zD,D2,C9,C4,C3,C5,B5,B6,B7,A7,A6] at *); omega) | ((try simp only [z1,z2,z3,z4,z5,z6,z7,z8,z9,zA,B5,B6,B7,A7,A6] at *); (try simp (disch:=omega) only [C8]); (try simp only [z1,z2,z3,z4,z5,z6,z7,z8,z9,zA,zB,zC,zD,D2,C9,C4,C3,C5,B5,B6,B7] at *); omega)) rfl) ?_
    refine B4 rfl (G4 (ps:=[.sc (.int .u8 (ix b_0 1))]) (p:=.sc (.int .u8 (ix b_0 1))) rfl rfl rfl ty5 rfl rfl rfl rfl rfl) ?_
    refine B4 rfl (G8 (m:=(IntKind.wrap .i64 (ix b_0 1))) rfl rfl rfl Tryz.underlying5 Tryz.underlying3 rfl rfl) ?_
    refine B4 rfl (C7 (p:=.sc (.int .i64 (IntKind.wrap .i64 (ix b_0 1)))) rfl rfl rfl rfl) ?_
    refine D4 ?_
    refine C6 ?_
    refine C6 ?_
    refine S9 (ds:=[some 26,some 27,some 28,some 29,some 30,some 31,some 32,some 33,some 34,some 35]) (ks:=[8]) (ps:=[.clo 71 [some 1100],.sem (SL (eI .u8) b_0),.sem (PT [.sc (.int .u8 (ix b_0 0))]),.sc (.int .u8 (ix b_0 0)),.sem (SL (eI .u8) b_0),.sc (.int .i64 (IntKind.wrap .i64 (ix b_0 1))),.sc (.int .i64 (IntKind.wrap .i64 (2 + (IntKind.wrap .i64 (ix b_0 1))))),.sem (SL (eI .u8) (sub b_0 2 (IntKind.wrap .i64 (2 + (IntKind.wrap .i64 (ix b_0 1)))))),.any,.any]) rfl (by kernel_rfl) rfl rfl ?_
    have hx16:=O5 ok_b_0 0
    refine f6 (k:=8) (qs:=[.clo 71 [some 1100],.sem (SL (eI .u8) b_0),.sem (PT [.sc (.int .u8 (ix b_0 0))]),.sc (.int .u8 (ix b_0 0)),.sem (SL (eI .u8) b_0),.sc (.int .i64 (IntKind.wrap .i64 (ix b_0 1))),.sc (.int .i64 (IntKind.wrap .i64 (2 + (IntKind.wrap .i64 (ix b_0 1))))),.sem (SL (eI .u8) (sub b_0 2 (IntKind.wrap .i64 (2 + (IntKind.wrap .i64 (ix b_0 1)))))),.sc (.bool ((I9 (ix b_0 0) (sub b_0 2 (IntKind.wrap .i64 (2 + (IntKind.wrap .i64 (ix b_0 1))))) x1100_0).1)),.sc (.bool (!((I9 (ix b_0 0) (sub b_0 2 (IntKind.wrap .i64 (2 + (IntKind.wrap .i64 (ix b_0 1))))) x1100_0).1)))]) [0,1,2,3,4,5,6,7] [true,true,true,true,true,true,true,true,false,false] (by kernel_rfl) (by kernel_rfl) rfl rfl rfl (fun bD hc hi hd=>A5c (vs:=[.sc (.int .u8 (ix b_0 0)),.sem (SL (eI .u8) (sub b_0 2 (IntKind.wrap .i64 (2 + (IntKind.wrap .i64 (ix b_0 1))))))]) (fn:=Tryz.f71) (xs:=[.tmp 29,.tmp 33]) (bxs:=[(1002,1100,[.sc (.bool x1100_0.fFour),.sc (.int .i64 x1100_0.fAS4),.sc (.bool x1100_0.fGR),.sc (.bool x1100_0.fRestarting),.sc (.int .i64 x1100_0.fTime),.sc (.bool x1100_0.fFamily),.sc (.bool x1100_0.fForward),.sc (.bool x1100_0.fLL),.sc (.int .i64 x1100_0.fLLTime)],[.sc (.bool x1100_0.fFour),.sc (.int .i64 x1100_0.fAS4),.sc (.bool x1100_0.fGR),.sc (.bool x1100_0.fRestarting),.sc (.int .i64 x1100_0.fTime),.sc (.bool x1100_0.fFamily),.sc (.bool x1100_0.fForward),.sc (.bool x1100_0.fLL),.sc (.int .i64 x1100_0.fLLTime)])]) (tps:=[]) (newS:=[]) (newT:=[]) (ρ:=[(1002,1100)]) (τ:=[]) (by exact (A4N (b0:=.sc (.int .u8 (ix b_0 0))) (b1:=.sem (SL (eI .u8) (sub b_0 2 (IntKind.wrap .i64 (2 + (IntKind.wrap .i64 (ix b_0 1))))))) (gt (p:=.sc (.int .u8 (ix b_0 0))) (q:=.any) (hd 3 (by decide))) (gt (p:=.sem (SL (eI .u8) (sub b_0 2 (IntKind.wrap .i64 (2 + (IntKind.wrap .i64 (ix b_0 1))))))) (q:=.any) (hd 7 (by decide))))) rfl rfl rfl (gt (p:=.clo 71 [some 1100]) (q:=.any) (hd 0 (by decide))) Tryz.func71 rfl rfl (A5C (ix b_0 0) (sub b_0 2 (IntKind.wrap .i64 (2 + (IntKind.wrap .i64 (ix b_0 1))))) x1100_0) rfl rfl rfl rfl rfl rfl (by decide) (fc ⟨rfl,(.cons (.rfl _) (.cons (.rfl _) (.cons (.rfl _) (.cons (.rfl _) (.cons (.rfl _) (.cons (.rfl _) (.cons (.rfl _) (.cons (.rfl _) (.cons (.rfl _) .nil)))))))))⟩ fn') fn' ((.cons (.one (.rfl _)) (.cons (.one (.rfl _)) (.cons (.one (.rfl _)) .nil)))) rfl (fun _=>rfl) (fun _=>rfl) rfl) (by kernel_rfl) rfl rfl rfl rfl rfl ?_ ?_
    ·refine fc ?_ (fc ?_ (fc ?_ (fc ?_ (fc ?_ (fc ?_ (fc ?_ (fc ?_ (fn'))))))))
     ·exact E7 (i:=0) (q:=.clo 71 [some 1100]) rfl rfl rfl (fun bD hc hi hd=>C1 rfl (C2 (p:=.clo 71 [some 1100]) rfl rfl rfl rfl))
     ·exact E7 (i:=1) (q:=.sem (SL (eI .u8) b_0)) rfl rfl rfl (fun bD hc hi hd=>C1 rfl (C2 (p:=.sem (SL (eI .u8) b_0)) rfl rfl rfl rfl))
     ·exact E7 (i:=2) (q:=.sem (PT [.sc (.int .u8 (ix b_0 0))])) rfl rfl rfl (fun bD hc hi hd=>C1 rfl (N6 (E:=(eI .u8)) (l:=b_0) (n:=0) (ps:=[.sc (.int .u8 (ix b_0 0))]) rfl rfl rfl Tryz.underlying22 ty5 (by exact (E3 (by exact (gt (p:=.sem (SL (eI .u8) b_0)) (q:=.any) (hd 1 (by decide)))))) rfl (by first | omega | ((try simp only [z1,z2,z3,z4,z5,z6,z7,z8,z9,zA,zB,zC,zD,D2,C9,C4,C3,C5,B5,B6,B7,A7,A6] at *); omega) | ((try simp only [z1,z2,z3,z4,z5,z6,z7,z8,z9,zA,B5,B6,B7,A7,A6] at *); (try simp (disch:=omega) only [C8]); (try simp only [z1,z2,z3,z4,z5,z6,z7,z8,z9,zA,zB,zC,zD,D2,C9,C4,C3,C5,B5,B6,B7] at *); omega)) rfl))
     ·exact E7 (i:=3) (q:=.sc (.int .u8 (ix b_0 0))) rfl rfl rfl (fun bD hc hi hd=>C1 rfl (G4 (ps:=[.sc (.int .u8 (ix b_0 0))]) (p:=.sc (.int .u8 (ix b_0 0))) rfl rfl rfl ty5 (gt (p:=.sem (PT [.sc (.int .u8 (ix b_0 0))])) (q:=.any) (hd 2 (by decide))) rfl rfl rfl rfl))
     ·exact E7 (i:=4) (q:=.sem (SL (eI .u8) b_0)) rfl rfl rfl (fun bD hc hi hd=>C1 rfl (C2 (p:=.sem (SL (eI .u8) b_0)) rfl rfl rfl rfl))
     ·exact E7 (i:=5) (q:=.sc (.int .i64 (IntKind.wrap .i64 (ix b_0 1)))) rfl rfl rfl (fun bD hc hi hd=>C1 rfl (C2 (p:=.sc (.int .i64 (IntKind.wrap .i64 (ix b_0 1)))) rfl rfl rfl rfl))
     ·exact E7 (i:=6) (q:=.sc (.int .i64 (IntKind.wrap .i64 (2 + (IntKind.wrap .i64 (ix b_0 1)))))) rfl rfl rfl (fun bD hc hi hd=>C1 rfl (E6 (u1:=.int .i64 2) (u2:=.int .i64 (IntKind.wrap .i64 (ix b_0 1))) (v:=.int .i64 (IntKind.wrap .i64 (2 + (IntKind.wrap .i64 (ix b_0 1))))) rfl rfl rfl rfl (gt (p:=.sc (.int .i64 (IntKind.wrap .i64 (ix b_0 1)))) (q:=.any) (hd 5 (by decide))) (fun _=>rfl)))
     ·exact E7 (i:=7) (q:=.sem (SL (eI .u8) (sub b_0 2 (IntKind.wrap .i64 (2 + (IntKind.wrap .i64 (ix b_0 1))))))) rfl rfl rfl (fun bD hc hi hd=>C1 rfl (K0 (E:=(eI .u8)) (l:=b_0) (i:=2) (j:=(IntKind.wrap .i64 (2 + (IntKind.wrap .i64 (ix b_0 1))))) rfl rfl rfl Tryz.underlying22 ty5 (by exact (E3 (by exact (gt (p:=.sem (SL (eI .u8) b_0)) (q:=.any) (hd 4 (by decide)))))) (I0 rfl) (I0 (gt (p:=.sc (.int .i64 (IntKind.wrap .i64 (2 + (IntKind.wrap .i64 (ix b_0 1)))))) (q:=.any) (hd 6 (by decide)))) (show 0 ≤ 2 ∧ 2 ≤ (IntKind.wrap .i64 (2 + (IntKind.wrap .i64 (ix b_0 1)))) ∧ (IntKind.wrap .i64 (2 + (IntKind.wrap .i64 (ix b_0 1)))) ≤ (b_0.length:Int) from (by first | omega | ((try simp only [z1,z2,z3,z4,z5,z6,z7,z8,z9,zA,zB,zC,zD,D2,C9,C4,C3,C5,B5,B6,B7,A7,A6] at *); omega) | ((try simp only [z1,z2,z3,z4,z5,z6,z7,z8,z9,zA,B5,B6,B7,A7,A6] at *); (try simp (disch:=omega) only [C8]); (try simp only [z1,z2,z3,z4,z5,z6,z7,z8,z9,zA,zB,zC,zD,D2,C9,C4,C3,C5,B5,B6,B7] at *); omega)))))
    refine P6 [9] (by kernel_rfl) ?_ (fun bD hb=>?_)
    ·refine fc ?_ (fn')
     ·exact E7 (i:=9) (q:=.sc (.bool (!((I9 (ix b_0 0) (sub b_0 2 (IntKind.wrap .i64 (2 + (IntKind.wrap .i64 (ix b_0 1))))) x1100_0).1)))) rfl rfl rfl (fun bD hc hi hd=>C1 rfl (X4 (u:=.bool ((I9 (ix b_0 0) (sub b_0 2 (IntKind.wrap .i64 (2 + (IntKind.wrap .i64 (ix b_0 1))))) x1100_0).1)) (v:=.bool (!((I9 (ix b_0 0) (sub b_0 2 (IntKind.wrap .i64 (2 + (IntKind.wrap .i64 (ix b_0 1))))) x1100_0).1))) rfl rfl rfl (gt (p:=.sc (.bool ((I9 (ix b_0 0) (sub b_0 2 (IntKind.wrap .i64 (2 + (IntKind.wrap .i64 (ix b_0 1))))) x1100_0).1))) (q:=.any) (hd 8 (by decide))) (fun _=>rfl)))
    obtain rfl:bD=fun _=>true:=funext hb
    refine F6 (b:=!((I9 (ix b_0 0) (sub b_0 2 (IntKind.wrap .i64 (2 + (IntKind.wrap .i64 (ix b_0 1))))) x1100_0).1)) rfl (fun k17=>?_) (fun k17=>?_)
    ·skip
     refine C6 ?_
     refine B8 ?_
     refine B4 rfl (C7 (p:=.sc (.bool false)) rfl rfl rfl rfl) ?_
     refine D4 ?_
     refine G2 ?_
     exact F7 (F:=(fun (z:Bool × B0)=>⟨[(1100,[.sc (.bool z.2.fFour),.sc (.int .i64 z.2.fAS4),.sc (.bool z.2.fGR),.sc (.bool z.2.fRestarting),.sc (.int .i64 z.2.fTime),.sc (.bool z.2.fFamily),.sc (.bool z.2.fForward),.sc (.bool z.2.fLL),.sc (.int .i64 z.2.fLLTime)])],[],.sc (.bool z.1)⟩)) (z:=(I3 b c)) (v:=(false,((I9 (ix b_0 0) (sub b_0 2 (IntKind.wrap .i64 (2 + (IntKind.wrap .i64 (ix b_0 1))))) x1100_0).2))) (mL (hJ0.symm.trans (bT k4 (bF k14 (bT k17 rfl)))) rfl) rfl (.one (.tmp 4 (.sc (.bool false)) rfl) (.one (.rfl _)) rfl) ⟨⟨[.sc (.bool (((I9 (ix b_0 0) (sub b_0 2 (IntKind.wrap .i64 (2 + (IntKind.wrap .i64 (ix b_0 1))))) x1100_0).2).fFour)),.sc (.int .i64 (((I9 (ix b_0 0) (sub b_0 2 (IntKind.wrap .i64 (2 + (IntKind.wrap .i64 (ix b_0 1))))) x1100_0).2).fAS4)),.sc (.bool (((I9 (ix b_0 0) (sub b_0 2 (IntKind.wrap .i64 (2 + (IntKind.wrap .i64 (ix b_0 1))))) x1100_0).2).fGR)),.sc (.bool (((I9 (ix b_0 0) (sub b_0 2 (IntKind.wrap .i64 (2 + (IntKind.wrap .i64 (ix b_0 1))))) x1100_0).2).fRestarting)),.sc (.int .i64 (((I9 (ix b_0 0) (sub b_0 2 (IntKind.wrap .i64 (2 + (IntKind.wrap .i64 (ix b_0 1))))) x1100_0).2).fTime)),.sc (.bool (((I9 (ix b_0 0) (sub b_0 2 (IntKind.wrap .i64 (2 + (IntKind.wrap .i64 (ix b_0 1))))) x1100_0).2).fFamily)),.sc (.bool (((I9 (ix b_0 0) (sub b_0 2 (IntKind.wrap .i64 (2 + (IntKind.wrap .i64 (ix b_0 1))))) x1100_0).2).fForward)),.sc (.bool (((I9 (ix b_0 0) (sub b_0 2 (IntKind.wrap .i64 (2 + (IntKind.wrap .i64 (ix b_0 1))))) x1100_0).2).fLL)),.sc (.int .i64 (((I9 (ix b_0 0) (sub b_0 2 (IntKind.wrap .i64 (2 + (IntKind.wrap .i64 (ix b_0 1))))) x1100_0).2).fLLTime))],rfl,(.cons (.rfl _) (.cons (.rfl _) (.cons (.rfl _) (.cons (.rfl _) (.cons (.rfl _) (.cons (.rfl _) (.cons (.rfl _) (.cons (.rfl _) (.cons (.rfl _) .nil)))))))))⟩,trivial⟩ trivial
    ·skip
     refine F9 ?_
     refine B8 ?_
     refine B4 rfl (C2 (p:=.sem (SL (eI .u8) b_0)) rfl rfl rfl rfl) ?_
     refine B4 rfl (C2 (p:=.sc (.int .i64 (IntKind.wrap .i64 (ix b_0 1)))) rfl rfl rfl rfl) ?_
     refine B4 rfl (E6 (u1:=.int .i64 2) (u2:=.int .i64 (IntKind.wrap .i64 (ix b_0 1))) (v:=.int .i64 (IntKind.wrap .i64 (2 + (IntKind.wrap .i64 (ix b_0 1))))) rfl rfl rfl rfl rfl (fun _=>rfl)) ?_
     refine B4 rfl (K0 (E:=(eI .u8)) (l:=b_0) (i:=(IntKind.wrap .i64 (2 + (IntKind.wrap .i64 (ix b_0 1))))) (j:=(b_0.length:Int)) rfl rfl rfl Tryz.underlying22 ty5 (E3 rfl) (I0 rfl) (L3 rfl) (show 0 ≤ (IntKind.wrap .i64 (2 + (IntKind.wrap .i64 (ix b_0 1)))) ∧ (IntKind.wrap .i64 (2 + (IntKind.wrap .i64 (ix b_0 1)))) ≤ (b_0.length:Int) ∧ (b_0.length:Int) ≤ (b_0.length:Int) from (by first | omega | ((try simp only [z1,z2,z3,z4,z5,z6,z7,z8,z9,zA,zB,zC,zD,D2,C9,C4,C3,C5,B5,B6,B7,A7,A6] at *); omega) | ((try simp only [z1,z2,z3,z4,z5,z6,z7,z8,z9,zA,B5,B6,B7,A7,A6] at *); (try simp (disch:=omega) only [C8]); (try simp only [z1,z2,z3,z4,z5,z6,z7,z8,z9,zA,zB,zC,zD,D2,C9,C4,C3,C5,B5,B6,B7] at *); omega)))) ?_
     refine B4 rfl (C7 (p:=.sem (SL (eI .u8) (sub b_0 (IntKind.wrap .i64 (2 + (IntKind.wrap .i64 (ix b_0 1)))) (b_0.length:Int)))) rfl rfl rfl rfl) ?_
     refine D4 ?_
     exact ⟨(n0,((I9 (ix b_0 0) (sub b_0 2 (IntKind.wrap .i64 (2 + (IntKind.wrap .i64 (ix b_0 1))))) x1100_0).2),(sub b_0 (IntKind.wrap .i64 (2 + (IntKind.wrap .i64 (ix b_0 1)))) (b_0.length:Int))),(G9 rfl ⟨⟨rfl,(.one (.rfl _))⟩,⟨⟨rfl,(.one (.rfl _))⟩,⟨⟨rfl,(.one (.rfl _))⟩,trivial⟩⟩⟩ ⟨⟨[.sc (.bool (((I9 (ix b_0 0) (sub b_0 2 (IntKind.wrap .i64 (2 + (IntKind.wrap .i64 (ix b_0 1))))) x1100_0).2).fFour)),.sc (.int .i64 (((I9 (ix b_0 0) (sub b_0 2 (IntKind.wrap .i64 (2 + (IntKind.wrap .i64 (ix b_0 1))))) x1100_0).2).fAS4)),.sc (.bool (((I9 (ix b_0 0) (sub b_0 2 (IntKind.wrap .i64 (2 + (IntKind.wrap .i64 (ix b_0 1))))) x1100_0).2).fGR)),.sc (.bool (((I9 (ix b_0 0) (sub b_0 2 (IntKind.wrap .i64 (2 + (IntKind.wrap .i64 (ix b_0 1))))) x1100_0).2).fRestarting)),.sc (.int .i64 (((I9 (ix b_0 0) (sub b_0 2 (IntKind.wrap .i64 (2 + (IntKind.wrap .i64 (ix b_0 1))))) x1100_0).2).fTime)),.sc (.bool (((I9 (ix b_0 0) (sub b_0 2 (IntKind.wrap .i64 (2 + (IntKind.wrap .i64 (ix b_0 1))))) x1100_0).2).fFamily)),.sc (.bool (((I9 (ix b_0 0) (sub b_0 2 (IntKind.wrap .i64 (2 + (IntKind.wrap .i64 (ix b_0 1))))) x1100_0).2).fForward)),.sc (.bool (((I9 (ix b_0 0) (sub b_0 2 (IntKind.wrap .i64 (2 + (IntKind.wrap .i64 (ix b_0 1))))) x1100_0).2).fLL)),.sc (.int .i64 (((I9 (ix b_0 0) (sub b_0 2 (IntKind.wrap .i64 (2 + (IntKind.wrap .i64 (ix b_0 1))))) x1100_0).2).fLLTime))],rfl,(.cons (.rfl _) (.cons (.rfl _) (.cons (.rfl _) (.cons (.rfl _) (.cons (.rfl _) (.cons (.rfl _) (.cons (.rfl _) (.cons (.rfl _) (.cons (.rfl _) .nil)))))))))⟩,trivial⟩ trivial),⟨Eq.trans (Eq.symm (bT k4 (bF k14 (bF k17 rfl)))) hJ0,(by first | omega | ((try simp only [z1,z2,z3,z4,z5,z6,z7,z8,z9,zA,zB,zC,zD,D2,C9,C4,C3,C5,B5,B6,B7,A7,A6] at *); omega) | ((try simp only [z1,z2,z3,z4,z5,z6,z7,z8,z9,zA,B5,B6,B7,A7,A6] at *); (try simp (disch:=omega) only [C8]); (try simp only [z1,z2,z3,z4,z5,z6,z7,z8,z9,zA,zB,zC,zD,D2,C9,C4,C3,C5,B5,B6,B7] at *); omega)),(S4 ok_b_0)⟩,Nat.lt_succ_self _⟩
  ·skip
   refine S8 ?_
   exact ⟨(x1100_0,b_0),hJ0.symm.trans (bF k4 rfl),(G9 rfl ⟨⟨rfl,(.one (.rfl _))⟩,⟨⟨rfl,(.one (.rfl _))⟩,⟨⟨rfl,(.one (.rfl _))⟩,trivial⟩⟩⟩ ⟨⟨[.sc (.bool x1100_0.fFour),.sc (.int .i64 x1100_0.fAS4),.sc (.bool x1100_0.fGR),.sc (.bool x1100_0.fRestarting),.sc (.int .i64 x1100_0.fTime),.sc (.bool x1100_0.fFamily),.sc (.bool x1100_0.fForward),.sc (.bool x1100_0.fLL),.sc (.int .i64 x1100_0.fLLTime)],rfl,(.cons (.rfl _) (.cons (.rfl _) (.cons (.rfl _) (.cons (.rfl _) (.cons (.rfl _) (.cons (.rfl _) (.cons (.rfl _) (.cons (.rfl _) (.cons (.rfl _) .nil)))))))))⟩,trivial⟩ trivial)⟩
 ·skip
  refine H5 0 rfl (fun hl18=>?_)
  refine C6 ?_
  refine B8 ?_
  refine B4 rfl (C7 (p:=.sc (.bool true)) rfl rfl rfl rfl) ?_
  refine D4 ?_
  refine G2 ?_
  exact F7 (F:=(fun (z:Bool × B0)=>⟨[(1100,[.sc (.bool z.2.fFour),.sc (.int .i64 z.2.fAS4),.sc (.bool z.2.fGR),.sc (.bool z.2.fRestarting),.sc (.int .i64 z.2.fTime),.sc (.bool z.2.fFamily),.sc (.bool z.2.fForward),.sc (.bool z.2.fLL),.sc (.int .i64 z.2.fLLTime)])],[],.sc (.bool z.1)⟩)) (z:=(I3 b c)) (v:=(true,x_0.1)) (mR e2 rfl) rfl (.one (.tmp 4 (.sc (.bool true)) rfl) (.one (.rfl _)) rfl) ⟨⟨[.sc (.bool x_0.1.fFour),.sc (.int .i64 x_0.1.fAS4),.sc (.bool x_0.1.fGR),.sc (.bool x_0.1.fRestarting),.sc (.int .i64 x_0.1.fTime),.sc (.bool x_0.1.fFamily),.sc (.bool x_0.1.fForward),.sc (.bool x_0.1.fLL),.sc (.int .i64 x_0.1.fLLTime)],rfl,(.cons (.rfl _) (.cons (.rfl _) (.cons (.rfl _) (.cons (.rfl _) (.cons (.rfl _) (.cons (.rfl _) (.cons (.rfl _) (.cons (.rfl _) (.cons (.rfl _) .nil)))))))))⟩,trivial⟩ trivial
def J6 (typ:Int) (b:List Int) (c:B0):Bool × B0:=
 (bif decide ((typ:Int)=2) then
  ((I3 b c).1,((I3 b c).2))
 else
  (false,c))
set_option maxRecDepth 100000 in
set_option maxHeartbeats 4000000 in
theorem A5M (typ:Int) (b:List Int) (c:B0) (ok_b:gdL (okI .u8) b):PG Tryz.prog 70 [(1002,(B0.cells c))] [] [.sc (.int .u8 typ),.sem (SL (eI .u8) b),.loc 1002 0] (fun _:Unit=>True) (fun _=>(fun (z:Bool × B0)=>⟨[(1002,[.sc (.bool z.2.fFour),.sc (.int .i64 z.2.fAS4),.sc (.bool z.2.fGR),.sc (.bool z.2.fRestarting),.sc (.int .i64 z.2.fTime),.sc (.bool z.2.fFamily),.sc (.bool z.2.fForward),.sc (.bool z.2.fLL),.sc (.int .i64 z.2.fLLTime)])],[],.sc (.bool z.1)⟩) (J6 typ b c)):=by
 refine M4 (N:=13) (l:=[.tmp 5]) Tryz.func70 rfl rfl rfl (Nat.le_of_ble_eq_true rfl) fun w0 i0 F βs=>?_
 refine C6 ?_
 refine B8 ?_
 refine B4 rfl (C7 (p:=.sc (.bool false)) rfl rfl rfl rfl) ?_
 refine D4 ?_
 refine C6 ?_
 refine B8 ?_
 refine B4 rfl (C2 (p:=.sc (.int .u8 typ)) rfl rfl rfl rfl) ?_
 refine B4 rfl (E6 (u1:=.int .u8 typ) (u2:=.int .u8 2) (v:=.bool (decide ((typ:Int)=2))) rfl rfl rfl rfl rfl (fun _=>rfl)) ?_
 refine B4 rfl (C2 (p:=.sc (.bool (decide ((typ:Int)=2)))) rfl rfl rfl rfl) ?_
 refine E0 (C:=decide ((typ:Int)=2)) (p:=.sem (SL (eI .u8) b)) (G6 rfl rfl rfl rfl rfl) rfl rfl (fun g1=>C2 (p:=.sem (SL (eI .u8) b)) rfl rfl rfl rfl) ?_
 refine E0 (C:=decide ((typ:Int)=2)) (p:=.clo 71 [some 1002]) (G6 rfl rfl rfl rfl rfl) rfl rfl (fun g2=>A2Q (f:=71) (ls:=[some 1002]) rfl rfl rfl rfl) ?_
 refine A8u (decide ((typ:Int)=2)) (fun k3=>?_) (fun k3=>?_)
 ·skip
  refine A6r (d:=9) (p:=.sem (SL (eI .u8) b)) (gt (p:=.sem (SL (eI .u8) b)) (q:=.sc undef) k3) ?_
  refine A6r (d:=10) (p:=.clo 71 [some 1002]) (gt (p:=.clo 71 [some 1002]) (q:=.sc undef) k3) ?_
  refine A7k (b:=decide ((typ:Int)=2)) rfl rfl rfl rfl rfl k3 (j5 (fn:=Tryz.f69) (xs:=[.tmp 9,.tmp 10]) (bxs:=[(1100,1002,(B0.cells c),(B0.cells c))]) (tps:=[]) (newS:=[]) (newT:=[]) (ρ:=[(1100,1002)]) (τ:=[]) rfl rfl rfl Tryz.func69 rfl rfl (A2o b c ok_b) rfl rfl rfl rfl rfl rfl (by decide) (fc ⟨rfl,(.cons (.rfl _) (.cons (.rfl _) (.cons (.rfl _) (.cons (.rfl _) (.cons (.rfl _) (.cons (.rfl _) (.cons (.rfl _) (.cons (.rfl _) (.cons (.rfl _) .nil)))))))))⟩ fn') fn' ((.cons (.one (.rfl _)) (.cons (.one (.rfl _)) .nil))) rfl (fun _=>rfl) (fun _=>rfl) rfl) (fun _ _=>?_)
  refine B4 rfl (A4r (b:=decide ((typ:Int)=2)) (p:=.sc (.bool ((I3 b c).1))) rfl rfl rfl rfl k3 rfl) ?_
  refine B4 rfl (C7 (p:=.sc (.bool ((I3 b c).1))) rfl rfl rfl rfl) ?_
  refine D4 ?_
  refine G2 ?_
  exact F7 (F:=(fun (z:Bool × B0)=>⟨[(1002,[.sc (.bool z.2.fFour),.sc (.int .i64 z.2.fAS4),.sc (.bool z.2.fGR),.sc (.bool z.2.fRestarting),.sc (.int .i64 z.2.fTime),.sc (.bool z.2.fFamily),.sc (.bool z.2.fForward),.sc (.bool z.2.fLL),.sc (.int .i64 z.2.fLLTime)])],[],.sc (.bool z.1)⟩)) (z:=(J6 typ b c)) (v:=((I3 b c).1,((I3 b c).2))) (bT k3 rfl) rfl (.one (.tmp 5 (.sc (.bool ((I3 b c).1))) rfl) (.one (.rfl _)) rfl) ⟨⟨[.sc (.bool (((I3 b c).2).fFour)),.sc (.int .i64 (((I3 b c).2).fAS4)),.sc (.bool (((I3 b c).2).fGR)),.sc (.bool (((I3 b c).2).fRestarting)),.sc (.int .i64 (((I3 b c).2).fTime)),.sc (.bool (((I3 b c).2).fFamily)),.sc (.bool (((I3 b c).2).fForward)),.sc (.bool (((I3 b c).2).fLL)),.sc (.int .i64 (((I3 b c).2).fLLTime))],rfl,(.cons (.rfl _) (.cons (.rfl _) (.cons (.rfl _) (.cons (.rfl _) (.cons (.rfl _) (.cons (.rfl _) (.cons (.rfl _) (.cons (.rfl _) (.cons (.rfl _) .nil)))))))))⟩,trivial⟩ trivial
 ·skip
  refine A6n (v:=.bool (decide ((typ:Int)=2))) rfl rfl rfl rfl rfl (nbF k3) rfl rfl ?_
  refine B4 rfl (A4r (b:=decide ((typ:Int)=2)) (p:=.sc (.bool false)) rfl rfl rfl rfl k3 rfl) ?_
  refine B4 rfl (C7 (p:=.sc (.bool false)) rfl rfl rfl rfl) ?_
  refine D4 ?_
  refine G2 ?_
  exact F7 (F:=(fun (z:Bool × B0)=>⟨[(1002,[.sc (.bool z.2.fFour),.sc (.int .i64 z.2.fAS4),.sc (.bool z.2.fGR),.sc (.bool z.2.fRestarting),.sc (.int .i64 z.2.fTime),.sc (.bool z.2.fFamily),.sc (.bool z.2.fForward),.sc (.bool z.2.fLL),.sc (.int .i64 z.2.fLLTime)])],[],.sc (.bool z.1)⟩)) (z:=(J6 typ b c)) (v:=(false,c)) (bF k3 rfl) rfl (.one (.tmp 5 (.sc (.bool false)) rfl) (.one (.rfl _)) rfl) ⟨⟨(B0.cells c),rfl,(.cons (.rfl _) (.cons (.rfl _) (.cons (.rfl _) (.cons (.rfl _) (.cons (.rfl _) (.cons (.rfl _) (.cons (.rfl _) (.cons (.rfl _) (.cons (.rfl _) .nil)))))))))⟩,trivial⟩ trivial
def N7 (b:List Int) (c:B0):Nat → B0 → List Int → (Bool × B0) ⊕ (B0 × (List Int))
 | 0,_,_=>Sum.inr default
 | n0 + 1,x1100_0,b_0 =>
  (bif decide ((0:Int) < (b_0.length:Int)) then
   (bif (decide (((b_0.length:Int):Int) < 2)) || (decide (((IntKind.wrap .i64 ((b_0.length:Int) - 2)):Int) < (IntKind.wrap .i64 (ix b_0 1)))) then
    Sum.inl (false,x1100_0)
   else
    (bif !((J6 (ix b_0 0) (sub b_0 2 (IntKind.wrap .i64 (2 + (IntKind.wrap .i64 (ix b_0 1))))) x1100_0).1) then
     Sum.inl (false,((J6 (ix b_0 0) (sub b_0 2 (IntKind.wrap .i64 (2 + (IntKind.wrap .i64 (ix b_0 1))))) x1100_0).2))
    else
     N7 b c n0 ((J6 (ix b_0 0) (sub b_0 2 (IntKind.wrap .i64 (2 + (IntKind.wrap .i64 (ix b_0 1))))) x1100_0).2) (sub b_0 (IntKind.wrap .i64 (2 + (IntKind.wrap .i64 (ix b_0 1)))) (b_0.length:Int))))
  else
   Sum.inr (x1100_0,b_0))
def J4 (b:List Int) (c:B0):Bool × B0:=
 (Sum.elim (fun z=>z) (fun (x_0:B0 × (List Int)) =>
  (true,x_0.1)) (N7 b c (b.length + 1) c b))
set_option maxRecDepth 100000 in
set_option maxHeartbeats 4000000 in
theorem A3r (b:List Int) (c:B0) (ok_b:gdL (okI .u8) b):PG Tryz.prog 69 [(1100,(B0.cells c))] [] [.sem (SL (eI .u8) b),.clo 70 [some 1100]] (fun _:Unit=>True) (fun _=>(fun (z:Bool × B0)=>⟨[(1100,[.sc (.bool z.2.fFour),.sc (.int .i64 z.2.fAS4),.sc (.bool z.2.fGR),.sc (.bool z.2.fRestarting),.sc (.int .i64 z.2.fTime),.sc (.bool z.2.fFamily),.sc (.bool z.2.fForward),.sc (.bool z.2.fLL),.sc (.int .i64 z.2.fLLTime)])],[],.sc (.bool z.1)⟩) (J4 b c)):=by
 refine M4 (N:=40) (l:=[.tmp 4]) Tryz.func69 rfl rfl rfl (Nat.le_of_ble_eq_true rfl) fun w0 i0 F βs=>?_
 refine H5 0 rfl (fun hl1=>?_)
 refine C6 ?_
 refine B8 ?_
 refine B4 rfl (C7 (p:=.sc (.bool false)) rfl rfl rfl rfl) ?_
 refine D4 ?_
 refine N8 (ι:=B0 × (List Int)) (p:=fun x_0=>(N7 b c (b.length + 1) c b)=.inr x_0) (S:=fun x_0=>St.of 40 [(0,.sem (SL (eI .u8) x_0.2)),(1,.clo 70 [some 1100]),(4,.sc (.bool false))] [(1100,[.sc (.bool x_0.1.fFour),.sc (.int .i64 x_0.1.fAS4),.sc (.bool x_0.1.fGR),.sc (.bool x_0.1.fRestarting),.sc (.int .i64 x_0.1.fTime),.sc (.bool x_0.1.fFamily),.sc (.bool x_0.1.fForward),.sc (.bool x_0.1.fLL),.sc (.int .i64 x_0.1.fLLTime)])] []) ?_ (fun x_0 e2=>?_)
 ·skip
  refine H6 ?_
  refine R3 (ι:=Nat × B0 × (List Int)) (S:=fun i=>St.of 40 [(0,.sem (SL (eI .u8) i.2.2)),(1,.clo 70 [some 1100]),(4,.sc (.bool false))] [(1100,[.sc (.bool i.2.1.fFour),.sc (.int .i64 i.2.1.fAS4),.sc (.bool i.2.1.fGR),.sc (.bool i.2.1.fRestarting),.sc (.int .i64 i.2.1.fTime),.sc (.bool i.2.1.fFamily),.sc (.bool i.2.1.fForward),.sc (.bool i.2.1.fLL),.sc (.int .i64 i.2.1.fLLTime)])] []) (J:=fun i=>N7 b c i.1 i.2.1 i.2.2=(N7 b c (b.length + 1) c b) ∧ (i.2.2.length < i.1) ∧ (gdL (okI .u8) i.2.2)) (μ:=fun i=>i.1) (i₀:=((b.length + 1),c,b)) (G9 rfl ⟨⟨rfl,(.one (.rfl _))⟩,⟨⟨rfl,(.one (.rfl _))⟩,⟨⟨rfl,(.one (.rfl _))⟩,trivial⟩⟩⟩ ⟨⟨(B0.cells c),rfl,(.cons (.rfl _) (.cons (.rfl _) (.cons (.rfl _) (.cons (.rfl _) (.cons (.rfl _) (.cons (.rfl _) (.cons (.rfl _) (.cons (.rfl _) (.cons (.rfl _) .nil)))))))))⟩,trivial⟩ trivial) ⟨rfl,(by first | omega | ((try simp only [z1,z2,z3,z4,z5,z6,z7,z8,z9,zA,zB,zC,zD,D2,C9,C4,C3,C5,B5,B6,B7,A7,A6] at *); omega) | ((try simp only [z1,z2,z3,z4,z5,z6,z7,z8,z9,zA,B5,B6,B7,A7,A6] at *); (try simp (disch:=omega) only [C8]); (try simp only [z1,z2,z3,z4,z5,z6,z7,z8,z9,zA,zB,zC,zD,D2,C9,C4,C3,C5,B5,B6,B7] at *); omega)),ok_b⟩ ?_
  rintro ⟨n0,x1100_0,b_0⟩ ⟨hJ0,hm0_0,ok_b_0⟩
  obtain ⟨n0,rfl⟩:∃ m,n0=m + 1:=⟨n0 - 1,by have:0 < n0:=Nat.lt_of_le_of_lt (Nat.zero_le _) hm0_0; omega⟩
  replace hJ0:N7 b c (n0 + 1) x1100_0 b_0=(N7 b c (b.length + 1) c b):=hJ0
  replace hm0_0:b_0.length < n0 + 1:=hm0_0
  replace ok_b_0:gdL (okI .u8) b_0:=ok_b_0
  refine H5 0 rfl (fun hl3=>?_)
  refine C6 ?_
  refine C6 ?_
  refine B8 ?_
  refine B4 rfl (C2 (p:=.sem (SL (eI .u8) b_0)) rfl rfl rfl rfl) ?_
  refine B4 rfl (L6 rfl rfl rfl Tryz.underlying22 (E3 rfl)) ?_
  refine B4 rfl (E6 (u1:=.int .i64 (b_0.length:Int)) (u2:=.int .i64 0) (v:=.bool (decide ((0:Int) < (b_0.length:Int)))) rfl rfl rfl rfl rfl (fun _=>rfl)) ?_
  refine D4 ?_
  refine F6 (b:=decide ((0:Int) < (b_0.length:Int))) rfl (fun k4=>?_) (fun k4=>?_)
  ·skip
   refine F9 ?_
   refine H6 ?_
   refine C6 ?_
   refine C6 ?_
   refine B8 ?_
   refine B4 rfl (C2 (p:=.sem (SL (eI .u8) b_0)) rfl rfl rfl rfl) ?_
   refine B4 rfl (L6 rfl rfl rfl Tryz.underlying22 (E3 rfl)) ?_
   refine B4 rfl (E6 (u1:=.int .i64 (b_0.length:Int)) (u2:=.int .i64 2) (v:=.bool (decide (((b_0.length:Int):Int) < 2))) rfl rfl rfl rfl rfl (fun _=>rfl)) ?_
   refine B4 rfl (C2 (p:=.sc (.bool (decide (((b_0.length:Int):Int) < 2)))) rfl rfl rfl rfl) ?_
   refine E0 (C:=!(decide (((b_0.length:Int):Int) < 2))) (p:=.sem (SL (eI .u8) b_0)) (H8 (b:=decide (((b_0.length:Int):Int) < 2)) (c:=!(decide (((b_0.length:Int):Int) < 2))) rfl rfl rfl rfl rfl rfl) rfl rfl (fun g5=>C2 (p:=.sem (SL (eI .u8) b_0)) rfl rfl rfl rfl) ?_
   have hx7:=O5 ok_b_0 1
   refine E0 (C:=!(decide (((b_0.length:Int):Int) < 2))) (p:=.sem (PT [.sc (.int .u8 (ix b_0 1))])) (H8 (b:=decide (((b_0.length:Int):Int) < 2)) (c:=!(decide (((b_0.length:Int):Int) < 2))) rfl rfl rfl rfl rfl rfl) rfl rfl (fun g6=>N6 (E:=(eI .u8)) (l:=b_0) (n:=1) (ps:=[.sc (.int .u8 (ix b_0 1))]) rfl rfl rfl Tryz.underlying22 ty5 (by exact (E3 (by exact (gt (p:=.sem (SL (eI .u8) b_0)) (q:=.sc undef) g6)))) rfl (by first | omega | ((try simp only [z1,z2,z3,z4,z5,z6,z7,z8,z9,zA,zB,zC,zD,D2,C9,C4,C3,C5,B5,B6,B7,A7,A6] at *); omega) | ((try simp only [z1,z2,z3,z4,z5,z6,z7,z8,z9,zA,B5,B6,B7,A7,A6] at *); (try simp (disch:=omega) only [C8]); (try simp only [z1,z2,z3,z4,z5,z6,z7,z8,z9,zA,zB,zC,zD,D2,C9,C4,C3,C5,B5,B6,B7] at *); omega)) rfl) ?_
   refine E0 (C:=!(decide (((b_0.length:Int):Int) < 2))) (p:=.sc (.int .u8 (ix b_0 1))) (H8 (b:=decide (((b_0.length:Int):Int) < 2)) (c:=!(decide (((b_0.length:Int):Int) < 2))) rfl rfl rfl rfl rfl rfl) rfl rfl (fun g8=>G4 (ps:=[.sc (.int .u8 (ix b_0 1))]) (p:=.sc (.int .u8 (ix b_0 1))) rfl rfl rfl ty5 (gt (p:=.sem (PT [.sc (.int .u8 (ix b_0 1))])) (q:=.sc undef) g8) rfl rfl rfl rfl) ?_
   refine E0 (C:=!(decide (((b_0.length:Int):Int) < 2))) (p:=.sc (.int .i64 (IntKind.wrap .i64 (ix b_0 1)))) (H8 (b:=decide (((b_0.length:Int):Int) < 2)) (c:=!(decide (((b_0.length:Int):Int) < 2))) rfl rfl rfl rfl rfl rfl) rfl rfl (fun g9=>G8 (m:=(IntKind.wrap .i64 (ix b_0 1))) rfl rfl rfl Tryz.underlying5 Tryz.underlying3 (gt (p:=.sc (.int .u8 (ix b_0 1))) (q:=.sc undef) g9) rfl) ?_
   refine E0 (C:=!(decide (((b_0.length:Int):Int) < 2))) (p:=.sem (SL (eI .u8) b_0)) (H8 (b:=decide (((b_0.length:Int):Int) < 2)) (c:=!(decide (((b_0.length:Int):Int) < 2))) rfl rfl rfl rfl rfl rfl) rfl rfl (fun g10=>C2 (p:=.sem (SL (eI .u8) b_0)) rfl rfl rfl rfl) ?_
   refine E0 (C:=!(decide (((b_0.length:Int):Int) < 2))) (p:=.sc (.int .i64 (b_0.length:Int))) (H8 (b:=decide (((b_0.length:Int):Int) < 2)) (c:=!(decide (((b_0.length:Int):Int) < 2))) rfl rfl rfl rfl rfl rfl) rfl rfl (fun g11=>L6 rfl rfl rfl Tryz.underlying22 (by exact (E3 (by exact (gt (p:=.sem (SL (eI .u8) b_0)) (q:=.sc undef) g11))))) ?_
   refine E0 (C:=!(decide (((b_0.length:Int):Int) < 2))) (p:=.sc (.int .i64 (IntKind.wrap .i64 ((b_0.length:Int) - 2)))) (H8 (b:=decide (((b_0.length:Int):Int) < 2)) (c:=!(decide (((b_0.length:Int):Int) < 2))) rfl rfl rfl rfl rfl rfl) rfl rfl (fun g12=>E6 (u1:=.int .i64 (b_0.length:Int)) (u2:=.int .i64 2) (v:=.int .i64 (IntKind.wrap .i64 ((b_0.length:Int) - 2))) rfl rfl rfl (gt (p:=.sc (.int .i64 (b_0.length:Int))) (q:=.sc undef) g12) rfl (fun _=>rfl)) ?_
   refine E0 (C:=!(decide (((b_0.length:Int):Int) < 2))) (p:=.sc (.bool (decide (((IntKind.wrap .i64 ((b_0.length:Int) - 2)):Int) < (IntKind.wrap .i64 (ix b_0 1)))))) (H8 (b:=decide (((b_0.length:Int):Int) < 2)) (c:=!(decide (((b_0.length:Int):Int) < 2))) rfl rfl rfl rfl rfl rfl) rfl rfl (fun g13=>E6 (u1:=.int .i64 (IntKind.wrap .i64 (ix b_0 1))) (u2:=.int .i64 (IntKind.wrap .i64 ((b_0.length:Int) - 2))) (v:=.bool (decide (((IntKind.wrap .i64 ((b_0.length:Int) - 2)):Int) < (IntKind.wrap .i64 (ix b_0 1))))) rfl rfl rfl (gt (p:=.sc (.int .i64 (IntKind.wrap .i64 (ix b_0 1)))) (q:=.sc undef) g13) (gt (p:=.sc (.int .i64 (IntKind.wrap .i64 ((b_0.length:Int) - 2)))) (q:=.sc undef) g13) (fun _=>rfl)) ?_
   refine B4 rfl (N5 (b:=decide (((b_0.length:Int):Int) < 2)) (y:=decide (((IntKind.wrap .i64 ((b_0.length:Int) - 2)):Int) < (IntKind.wrap .i64 (ix b_0 1)))) rfl rfl rfl rfl rfl rfl) ?_
   refine D4 ?_
   refine F6 (b:=(decide (((b_0.length:Int):Int) < 2)) || (decide (((IntKind.wrap .i64 ((b_0.length:Int) - 2)):Int) < (IntKind.wrap .i64 (ix b_0 1))))) rfl (fun k14=>?_) (fun k14=>?_)
   ·skip
    refine C6 ?_
    refine B8 ?_
    refine B4 rfl (C7 (p:=.sc (.bool false)) rfl rfl rfl rfl) ?_
    refine D4 ?_
    refine G2 ?_
    exact F7 (F:=(fun (z:Bool × B0)=>⟨[(1100,[.sc (.bool z.2.fFour),.sc (.int .i64 z.2.fAS4),.sc (.bool z.2.fGR),.sc (.bool z.2.fRestarting),.sc (.int .i64 z.2.fTime),.sc (.bool z.2.fFamily),.sc (.bool z.2.fForward),.sc (.bool z.2.fLL),.sc (.int .i64 z.2.fLLTime)])],[],.sc (.bool z.1)⟩)) (z:=(J4 b c)) (v:=(false,x1100_0)) (mL (hJ0.symm.trans (bT k4 (bT k14 rfl))) rfl) rfl (.one (.tmp 4 (.sc (.bool false)) rfl) (.one (.rfl _)) rfl) ⟨⟨[.sc (.bool x1100_0.fFour),.sc (.int .i64 x1100_0.fAS4),.sc (.bool x1100_0.fGR),.sc (.bool x1100_0.fRestarting),.sc (.int .i64 x1100_0.fTime),.sc (.bool x1100_0.fFamily),.sc (.bool x1100_0.fForward),.sc (.bool x1100_0.fLL),.sc (.int .i64 x1100_0.fLLTime)],rfl,(.cons (.rfl _) (.cons (.rfl _) (.cons (.rfl _) (.cons (.rfl _) (.cons (.rfl _) (.cons (.rfl _) (.cons (.rfl _) (.cons (.rfl _) (.cons (.rfl _) .nil)))))))))⟩,trivial⟩ trivial
   ·skip
    refine F9 ?_
    refine C6 ?_
    refine B8 ?_
    refine B4 rfl (C2 (p:=.sem (SL (eI .u8) b_0)) rfl rfl rfl rfl) ?_
    have hx15:=O5 ok_b_0 1
    refine B4 rfl (N6 (E:=(eI .u8)) (l:=b_0) (n:=1) (ps:=[.sc (.int .u8 (ix b_0 1))]) rfl rfl rfl Tryz.underlying22 ty5 (E3 rfl) rfl (by first | omega | ((try simp only [z1,z2,z3,z4,z5,z6,z7,z8,z9,zA,zB,zC,zD,D2,C9,C4,C3,C5,B5,B6,B7,A7,A6] at *); omega) | ((try simp only [z1,z2,z3,z4,z5,z6,z7,z8,z9,zA,B5,B6,B7,A7,A6] at *); (try simp (disch:=omega) only [C8]); (try simp only [z1,z2,z3,z4,z5,z6,z7,z8,z9,zA,zB,zC,zD,D2,C9,C4,C3,C5,B5,B6,B7] at *); omega)) rfl) ?_
    refine B4 rfl (G4 (ps:=[.sc (.int .u8 (ix b_0 1))]) (p:=.sc (.int .u8 (ix b_0 1))) rfl rfl rfl ty5 rfl rfl rfl rfl rfl) ?_
    refine B4 rfl (G8 (m:=(IntKind.wrap .i64 (ix b_0 1))) rfl rfl rfl Tryz.underlying5 Tryz.underlying3 rfl rfl) ?_
    refine B4 rfl (C7 (p:=.sc (.int .i64 (IntKind.wrap .i64 (ix b_0 1)))) rfl rfl rfl rfl) ?_
    refine D4 ?_
    refine C6 ?_
    refine C6 ?_
    refine S9 (ds:=[some 26,some 27,some 28,some 29,some 30,some 31,some 32,some 33,some 34,some 35]) (ks:=[8]) (ps:=[.clo 70 [some 1100],.sem (SL (eI .u8) b_0),.sem (PT [.sc (.int .u8 (ix b_0 0))]),.sc (.int .u8 (ix b_0 0)),.sem (SL (eI .u8) b_0),.sc (.int .i64 (IntKind.wrap .i64 (ix b_0 1))),.sc (.int .i64 (IntKind.wrap .i64 (2 + (IntKind.wrap .i64 (ix b_0 1))))),.sem (SL (eI .u8) (sub b_0 2 (IntKind.wrap .i64 (2 + (IntKind.wrap .i64 (ix b_0 1)))))),.any,.any]) rfl (by kernel_rfl) rfl rfl ?_
    have hx16:=O5 ok_b_0 0
    refine f6 (k:=8) (qs:=[.clo 70 [some 1100],.sem (SL (eI .u8) b_0),.sem (PT [.sc (.int .u8 (ix b_0 0))]),.sc (.int .u8 (ix b_0 0)),.sem (SL (eI .u8) b_0),.sc (.int .i64 (IntKind.wrap .i64 (ix b_0 1))),.sc (.int .i64 (IntKind.wrap .i64 (2 + (IntKind.wrap .i64 (ix b_0 1))))),.sem (SL (eI .u8) (sub b_0 2 (IntKind.wrap .i64 (2 + (IntKind.wrap .i64 (ix b_0 1)))))),.sc (.bool ((J6 (ix b_0 0) (sub b_0 2 (IntKind.wrap .i64 (2 + (IntKind.wrap .i64 (ix b_0 1))))) x1100_0).1)),.sc (.bool (!((J6 (ix b_0 0) (sub b_0 2 (IntKind.wrap .i64 (2 + (IntKind.wrap .i64 (ix b_0 1))))) x1100_0).1)))]) [0,1,2,3,4,5,6,7] [true,true,true,true,true,true,true,true,false,false] (by kernel_rfl) (by kernel_rfl) rfl rfl rfl (fun bD hc hi hd=>A5c (vs:=[.sc (.int .u8 (ix b_0 0)),.sem (SL (eI .u8) (sub b_0 2 (IntKind.wrap .i64 (2 + (IntKind.wrap .i64 (ix b_0 1))))))]) (fn:=Tryz.f70) (xs:=[.tmp 29,.tmp 33]) (bxs:=[(1002,1100,[.sc (.bool x1100_0.fFour),.sc (.int .i64 x1100_0.fAS4),.sc (.bool x1100_0.fGR),.sc (.bool x1100_0.fRestarting),.sc (.int .i64 x1100_0.fTime),.sc (.bool x1100_0.fFamily),.sc (.bool x1100_0.fForward),.sc (.bool x1100_0.fLL),.sc (.int .i64 x1100_0.fLLTime)],[.sc (.bool x1100_0.fFour),.sc (.int .i64 x1100_0.fAS4),.sc (.bool x1100_0.fGR),.sc (.bool x1100_0.fRestarting),.sc (.int .i64 x1100_0.fTime),.sc (.bool x1100_0.fFamily),.sc (.bool x1100_0.fForward),.sc (.bool x1100_0.fLL),.sc (.int .i64 x1100_0.fLLTime)])]) (tps:=[]) (newS:=[]) (newT:=[]) (ρ:=[(1002,1100)]) (τ:=[]) (by exact (A4N (b0:=.sc (.int .u8 (ix b_0 0))) (b1:=.sem (SL (eI .u8) (sub b_0 2 (IntKind.wrap .i64 (2 + (IntKind.wrap .i64 (ix b_0 1))))))) (gt (p:=.sc (.int .u8 (ix b_0 0))) (q:=.any) (hd 3 (by decide))) (gt (p:=.sem (SL (eI .u8) (sub b_0 2 (IntKind.wrap .i64 (2 + (IntKind.wrap .i64 (ix b_0 1))))))) (q:=.any) (hd 7 (by decide))))) rfl rfl rfl (gt (p:=.clo 70 [some 1100]) (q:=.any) (hd 0 (by decide))) Tryz.func70 rfl rfl (A5M (ix b_0 0) (sub b_0 2 (IntKind.wrap .i64 (2 + (IntKind.wrap .i64 (ix b_0 1))))) x1100_0 (S4 ok_b_0)) rfl rfl rfl rfl rfl rfl (by decide) (fc ⟨rfl,(.cons (.rfl _) (.cons (.rfl _) (.cons (.rfl _) (.cons (.rfl _) (.cons (.rfl _) (.cons (.rfl _) (.cons (.rfl _) (.cons (.rfl _) (.cons (.rfl _) .nil)))))))))⟩ fn') fn' ((.cons (.one (.rfl _)) (.cons (.one (.rfl _)) (.cons (.one (.rfl _)) .nil)))) rfl (fun _=>rfl) (fun _=>rfl) rfl) (by kernel_rfl) rfl rfl rfl rfl rfl ?_ ?_
    ·refine fc ?_ (fc ?_ (fc ?_ (fc ?_ (fc ?_ (fc ?_ (fc ?_ (fc ?_ (fn'))))))))
     ·exact E7 (i:=0) (q:=.clo 70 [some 1100]) rfl rfl rfl (fun bD hc hi hd=>C1 rfl (C2 (p:=.clo 70 [some 1100]) rfl rfl rfl rfl))
     ·exact E7 (i:=1) (q:=.sem (SL (eI .u8) b_0)) rfl rfl rfl (fun bD hc hi hd=>C1 rfl (C2 (p:=.sem (SL (eI .u8) b_0)) rfl rfl rfl rfl))
     ·exact E7 (i:=2) (q:=.sem (PT [.sc (.int .u8 (ix b_0 0))])) rfl rfl rfl (fun bD hc hi hd=>C1 rfl (N6 (E:=(eI .u8)) (l:=b_0) (n:=0) (ps:=[.sc (.int .u8 (ix b_0 0))]) rfl rfl rfl Tryz.underlying22 ty5 (by exact (E3 (by exact (gt (p:=.sem (SL (eI .u8) b_0)) (q:=.any) (hd 1 (by decide)))))) rfl (by first | omega | ((try simp only [z1,z2,z3,z4,z5,z6,z7,z8,z9,zA,zB,zC,zD,D2,C9,C4,C3,C5,B5,B6,B7,A7,A6] at *); omega) | ((try simp only [z1,z2,z3,z4,z5,z6,z7,z8,z9,zA,B5,B6,B7,A7,A6] at *); (try simp (disch:=omega) only [C8]); (try simp only [z1,z2,z3,z4,z5,z6,z7,z8,z9,zA,zB,zC,zD,D2,C9,C4,C3,C5,B5,B6,B7] at *); omega)) rfl))
     ·exact E7 (i:=3) (q:=.sc (.int .u8 (ix b_0 0))) rfl rfl rfl (fun bD hc hi hd=>C1 rfl (G4 (ps:=[.sc (.int .u8 (ix b_0 0))]) (p:=.sc (.int .u8 (ix b_0 0))) rfl rfl rfl ty5 (gt (p:=.sem (PT [.sc (.int .u8 (ix b_0 0))])) (q:=.any) (hd 2 (by decide))) rfl rfl rfl rfl))
     ·exact E7 (i:=4) (q:=.sem (SL (eI .u8) b_0)) rfl rfl rfl (fun bD hc hi hd=>C1 rfl (C2 (p:=.sem (SL (eI .u8) b_0)) rfl rfl rfl rfl))
     ·exact E7 (i:=5) (q:=.sc (.int .i64 (IntKind.wrap .i64 (ix b_0 1)))) rfl rfl rfl (fun bD hc hi hd=>C1 rfl (C2 (p:=.sc (.int .i64 (IntKind.wrap .i64 (ix b_0 1)))) rfl rfl rfl rfl))
     ·exact E7 (i:=6) (q:=.sc (.int .i64 (IntKind.wrap .i64 (2 + (IntKind.wrap .i64 (ix b_0 1)))))) rfl rfl rfl (fun bD hc hi hd=>C1 rfl (E6 (u1:=.int .i64 2) (u2:=.int .i64 (IntKind.wrap .i64 (ix b_0 1))) (v:=.int .i64 (IntKind.wrap .i64 (2 + (IntKind.wrap .i64 (ix b_0 1))))) rfl rfl rfl rfl (gt (p:=.sc (.int .i64 (IntKind.wrap .i64 (ix b_0 1)))) (q:=.any) (hd 5 (by decide))) (fun _=>rfl)))
     ·exact E7 (i:=7) (q:=.sem (SL (eI .u8) (sub b_0 2 (IntKind.wrap .i64 (2 + (IntKind.wrap .i64 (ix b_0 1))))))) rfl rfl rfl (fun bD hc hi hd=>C1 rfl (K0 (E:=(eI .u8)) (l:=b_0) (i:=2) (j:=(IntKind.wrap .i64 (2 + (IntKind.wrap .i64 (ix b_0 1))))) rfl rfl rfl Tryz.underlying22 ty5 (by exact (E3 (by exact (gt (p:=.sem (SL (eI .u8) b_0)) (q:=.any) (hd 4 (by decide)))))) (I0 rfl) (I0 (gt (p:=.sc (.int .i64 (IntKind.wrap .i64 (2 + (IntKind.wrap .i64 (ix b_0 1)))))) (q:=.any) (hd 6 (by decide)))) (show 0 ≤ 2 ∧ 2 ≤ (IntKind.wrap .i64 (2 + (IntKind.wrap .i64 (ix b_0 1)))) ∧ (IntKind.wrap .i64 (2 + (IntKind.wrap .i64 (ix b_0 1)))) ≤ (b_0.length:Int) from (by first | omega | ((try simp only [z1,z2,z3,z4,z5,z6,z7,z8,z9,zA,zB,zC,zD,D2,C9,C4,C3,C5,B5,B6,B7,A7,A6] at *); omega) | ((try simp only [z1,z2,z3,z4,z5,z6,z7,z8,z9,zA,B5,B6,B7,A7,A6] at *); (try simp (disch:=omega) only [C8]); (try simp only [z1,z2,z3,z4,z5,z6,z7,z8,z9,zA,zB,zC,zD,D2,C9,C4,C3,C5,B5,B6,B7] at *); omega)))))
    refine P6 [9] (by kernel_rfl) ?_ (fun bD hb=>?_)
    ·refine fc ?_ (fn')
     ·exact E7 (i:=9) (q:=.sc (.bool (!((J6 (ix b_0 0) (sub b_0 2 (IntKind.wrap .i64 (2 + (IntKind.wrap .i64 (ix b_0 1))))) x1100_0).1)))) rfl rfl rfl (fun bD hc hi hd=>C1 rfl (X4 (u:=.bool ((J6 (ix b_0 0) (sub b_0 2 (IntKind.wrap .i64 (2 + (IntKind.wrap .i64 (ix b_0 1))))) x1100_0).1)) (v:=.bool (!((J6 (ix b_0 0) (sub b_0 2 (IntKind.wrap .i64 (2 + (IntKind.wrap .i64 (ix b_0 1))))) x1100_0).1))) rfl rfl rfl (gt (p:=.sc (.bool ((J6 (ix b_0 0) (sub b_0 2 (IntKind.wrap .i64 (2 + (IntKind.wrap .i64 (ix b_0 1))))) x1100_0).1))) (q:=.any) (hd 8 (by decide))) (fun _=>rfl)))
    obtain rfl:bD=fun _=>true:=funext hb
    refine F6 (b:=!((J6 (ix b_0 0) (sub b_0 2 (IntKind.wrap .i64 (2 + (IntKind.wrap .i64 (ix b_0 1))))) x1100_0).1)) rfl (fun k17=>?_) (fun k17=>?_)
    ·skip
     refine C6 ?_
     refine B8 ?_
     refine B4 rfl (C7 (p:=.sc (.bool false)) rfl rfl rfl rfl) ?_
     refine D4 ?_
     refine G2 ?_
     exact F7 (F:=(fun (z:Bool × B0)=>⟨[(1100,[.sc (.bool z.2.fFour),.sc (.int .i64 z.2.fAS4),.sc (.bool z.2.fGR),.sc (.bool z.2.fRestarting),.sc (.int .i64 z.2.fTime),.sc (.bool z.2.fFamily),.sc (.bool z.2.fForward),.sc (.bool z.2.fLL),.sc (.int .i64 z.2.fLLTime)])],[],.sc (.bool z.1)⟩)) (z:=(J4 b c)) (v:=(false,((J6 (ix b_0 0) (sub b_0 2 (IntKind.wrap .i64 (2 + (IntKind.wrap .i64 (ix b_0 1))))) x1100_0).2))) (mL (hJ0.symm.trans (bT k4 (bF k14 (bT k17 rfl)))) rfl) rfl (.one (.tmp 4 (.sc (.bool false)) rfl) (.one (.rfl _)) rfl) ⟨⟨[.sc (.bool (((J6 (ix b_0 0) (sub b_0 2 (IntKind.wrap .i64 (2 + (IntKind.wrap .i64 (ix b_0 1))))) x1100_0).2).fFour)),.sc (.int .i64 (((J6 (ix b_0 0) (sub b_0 2 (IntKind.wrap .i64 (2 + (IntKind.wrap .i64 (ix b_0 1))))) x1100_0).2).fAS4)),.sc (.bool (((J6 (ix b_0 0) (sub b_0 2 (IntKind.wrap .i64 (2 + (IntKind.wrap .i64 (ix b_0 1))))) x1100_0).2).fGR)),.sc (.bool (((J6 (ix b_0 0) (sub b_0 2 (IntKind.wrap .i64 (2 + (IntKind.wrap .i64 (ix b_0 1))))) x1100_0).2).fRestarting)),.sc (.int .i64 (((J6 (ix b_0 0) (sub b_0 2 (IntKind.wrap .i64 (2 + (IntKind.wrap .i64 (ix b_0 1))))) x1100_0).2).fTime)),.sc (.bool (((J6 (ix b_0 0) (sub b_0 2 (IntKind.wrap .i64 (2 + (IntKind.wrap .i64 (ix b_0 1))))) x1100_0).2).fFamily)),.sc (.bool (((J6 (ix b_0 0) (sub b_0 2 (IntKind.wrap .i64 (2 + (IntKind.wrap .i64 (ix b_0 1))))) x1100_0).2).fForward)),.sc (.bool (((J6 (ix b_0 0) (sub b_0 2 (IntKind.wrap .i64 (2 + (IntKind.wrap .i64 (ix b_0 1))))) x1100_0).2).fLL)),.sc (.int .i64 (((J6 (ix b_0 0) (sub b_0 2 (IntKind.wrap .i64 (2 + (IntKind.wrap .i64 (ix b_0 1))))) x1100_0).2).fLLTime))],rfl,(.cons (.rfl _) (.cons (.rfl _) (.cons (.rfl _) (.cons (.rfl _) (.cons (.rfl _) (.cons (.rfl _) (.cons (.rfl _) (.cons (.rfl _) (.cons (.rfl _) .nil)))))))))⟩,trivial⟩ trivial
    ·skip
     refine F9 ?_
     refine B8 ?_
     refine B4 rfl (C2 (p:=.sem (SL (eI .u8) b_0)) rfl rfl rfl rfl) ?_
     refine B4 rfl (C2 (p:=.sc (.int .i64 (IntKind.wrap .i64 (ix b_0 1)))) rfl rfl rfl rfl) ?_
     refine B4 rfl (E6 (u1:=.int .i64 2) (u2:=.int .i64 (IntKind.wrap .i64 (ix b_0 1))) (v:=.int .i64 (IntKind.wrap .i64 (2 + (IntKind.wrap .i64 (ix b_0 1))))) rfl rfl rfl rfl rfl (fun _=>rfl)) ?_
     refine B4 rfl (K0 (E:=(eI .u8)) (l:=b_0) (i:=(IntKind.wrap .i64 (2 + (IntKind.wrap .i64 (ix b_0 1))))) (j:=(b_0.length:Int)) rfl rfl rfl Tryz.underlying22 ty5 (E3 rfl) (I0 rfl) (L3 rfl) (show 0 ≤ (IntKind.wrap .i64 (2 + (IntKind.wrap .i64 (ix b_0 1)))) ∧ (IntKind.wrap .i64 (2 + (IntKind.wrap .i64 (ix b_0 1)))) ≤ (b_0.length:Int) ∧ (b_0.length:Int) ≤ (b_0.length:Int) from (by first | omega | ((try simp only [z1,z2,z3,z4,z5,z6,z7,z8,z9,zA,zB,zC,zD,D2,C9,C4,C3,C5,B5,B6,B7,A7,A6] at *); omega) | ((try simp only [z1,z2,z3,z4,z5,z6,z7,z8,z9,zA,B5,B6,B7,A7,A6] at *); (try simp (disch:=omega) only [C8]); (try simp only [z1,z2,z3,z4,z5,z6,z7,z8,z9,zA,zB,zC,zD,D2,C9,C4,C3,C5,B5,B6,B7] at *); omega)))) ?_
     refine B4 rfl (C7 (p:=.sem (SL (eI .u8) (sub b_0 (IntKind.wrap .i64 (2 + (IntKind.wrap .i64 (ix b_0 1)))) (b_0.length:Int)))) rfl rfl rfl rfl) ?_
     refine D4 ?_
     exact ⟨(n0,((J6 (ix b_0 0) (sub b_0 2 (IntKind.wrap .i64 (2 + (IntKind.wrap .i64 (ix b_0 1))))) x1100_0).2),(sub b_0 (IntKind.wrap .i64 (2 + (IntKind.wrap .i64 (ix b_0 1)))) (b_0.length:Int))),(G9 rfl ⟨⟨rfl,(.one (.rfl _))⟩,⟨⟨rfl,(.one (.rfl _))⟩,⟨⟨rfl,(.one (.rfl _))⟩,trivial⟩⟩⟩ ⟨⟨[.sc (.bool (((J6 (ix b_0 0) (sub b_0 2 (IntKind.wrap .i64 (2 + (IntKind.wrap .i64 (ix b_0 1))))) x1100_0).2).fFour)),.sc (.int .i64 (((J6 (ix b_0 0) (sub b_0 2 (IntKind.wrap .i64 (2 + (IntKind.wrap .i64 (ix b_0 1))))) x1100_0).2).fAS4)),.sc (.bool (((J6 (ix b_0 0) (sub b_0 2 (IntKind.wrap .i64 (2 + (IntKind.wrap .i64 (ix b_0 1))))) x1100_0).2).fGR)),.sc (.bool (((J6 (ix b_0 0) (sub b_0 2 (IntKind.wrap .i64 (2 + (IntKind.wrap .i64 (ix b_0 1))))) x1100_0).2).fRestarting)),.sc (.int .i64 (((J6 (ix b_0 0) (sub b_0 2 (IntKind.wrap .i64 (2 + (IntKind.wrap .i64 (ix b_0 1))))) x1100_0).2).fTime)),.sc (.bool (((J6 (ix b_0 0) (sub b_0 2 (IntKind.wrap .i64 (2 + (IntKind.wrap .i64 (ix b_0 1))))) x1100_0).2).fFamily)),.sc (.bool (((J6 (ix b_0 0) (sub b_0 2 (IntKind.wrap .i64 (2 + (IntKind.wrap .i64 (ix b_0 1))))) x1100_0).2).fForward)),.sc (.bool (((J6 (ix b_0 0) (sub b_0 2 (IntKind.wrap .i64 (2 + (IntKind.wrap .i64 (ix b_0 1))))) x1100_0).2).fLL)),.sc (.int .i64 (((J6 (ix b_0 0) (sub b_0 2 (IntKind.wrap .i64 (2 + (IntKind.wrap .i64 (ix b_0 1))))) x1100_0).2).fLLTime))],rfl,(.cons (.rfl _) (.cons (.rfl _) (.cons (.rfl _) (.cons (.rfl _) (.cons (.rfl _) (.cons (.rfl _) (.cons (.rfl _) (.cons (.rfl _) (.cons (.rfl _) .nil)))))))))⟩,trivial⟩ trivial),⟨Eq.trans (Eq.symm (bT k4 (bF k14 (bF k17 rfl)))) hJ0,(by first | omega | ((try simp only [z1,z2,z3,z4,z5,z6,z7,z8,z9,zA,zB,zC,zD,D2,C9,C4,C3,C5,B5,B6,B7,A7,A6] at *); omega) | ((try simp only [z1,z2,z3,z4,z5,z6,z7,z8,z9,zA,B5,B6,B7,A7,A6] at *); (try simp (disch:=omega) only [C8]); (try simp only [z1,z2,z3,z4,z5,z6,z7,z8,z9,zA,zB,zC,zD,D2,C9,C4,C3,C5,B5,B6,B7] at *); omega)),(S4 ok_b_0)⟩,Nat.lt_succ_self _⟩
  ·skip
   refine S8 ?_
   exact ⟨(x1100_0,b_0),hJ0.symm.trans (bF k4 rfl),(G9 rfl ⟨⟨rfl,(.one (.rfl _))⟩,⟨⟨rfl,(.one (.rfl _))⟩,⟨⟨rfl,(.one (.rfl _))⟩,trivial⟩⟩⟩ ⟨⟨[.sc (.bool x1100_0.fFour),.sc (.int .i64 x1100_0.fAS4),.sc (.bool x1100_0.fGR),.sc (.bool x1100_0.fRestarting),.sc (.int .i64 x1100_0.fTime),.sc (.bool x1100_0.fFamily),.sc (.bool x1100_0.fForward),.sc (.bool x1100_0.fLL),.sc (.int .i64 x1100_0.fLLTime)],rfl,(.cons (.rfl _) (.cons (.rfl _) (.cons (.rfl _) (.cons (.rfl _) (.cons (.rfl _) (.cons (.rfl _) (.cons (.rfl _) (.cons (.rfl _) (.cons (.rfl _) .nil)))))))))⟩,trivial⟩ trivial)⟩
 ·skip
  refine H5 0 rfl (fun hl18=>?_)
  refine C6 ?_
  refine B8 ?_
  refine B4 rfl (C7 (p:=.sc (.bool true)) rfl rfl rfl rfl) ?_
  refine D4 ?_
  refine G2 ?_
  exact F7 (F:=(fun (z:Bool × B0)=>⟨[(1100,[.sc (.bool z.2.fFour),.sc (.int .i64 z.2.fAS4),.sc (.bool z.2.fGR),.sc (.bool z.2.fRestarting),.sc (.int .i64 z.2.fTime),.sc (.bool z.2.fFamily),.sc (.bool z.2.fForward),.sc (.bool z.2.fLL),.sc (.int .i64 z.2.fLLTime)])],[],.sc (.bool z.1)⟩)) (z:=(J4 b c)) (v:=(true,x_0.1)) (mR e2 rfl) rfl (.one (.tmp 4 (.sc (.bool true)) rfl) (.one (.rfl _)) rfl) ⟨⟨[.sc (.bool x_0.1.fFour),.sc (.int .i64 x_0.1.fAS4),.sc (.bool x_0.1.fGR),.sc (.bool x_0.1.fRestarting),.sc (.int .i64 x_0.1.fTime),.sc (.bool x_0.1.fFamily),.sc (.bool x_0.1.fForward),.sc (.bool x_0.1.fLL),.sc (.int .i64 x_0.1.fLLTime)],rfl,(.cons (.rfl _) (.cons (.rfl _) (.cons (.rfl _) (.cons (.rfl _) (.cons (.rfl _) (.cons (.rfl _) (.cons (.rfl _) (.cons (.rfl _) (.cons (.rfl _) .nil)))))))))⟩,trivial⟩ trivial
def D0 (b:List Int):B0 × Bool:=
 (bif !((J4 b (⟨false,0,false,false,0,false,false,false,0⟩:B0)).1) then
  ((⟨false,0,false,false,0,false,false,false,0⟩:B0),false)
 else
  (((J4 b (⟨false,0,false,false,0,false,false,false,0⟩:B0)).2),true))
set_option maxRecDepth 100000 in
set_option maxHeartbeats 4000000 in
theorem A1M (b:List Int) (ok_b:gdL (okI .u8) b):PG Tryz.prog 48 [] [] [.sem (SL (eI .u8) b)] (fun _:Unit=>True) (fun _=>(fun (z:B0 × Bool)=>⟨[],[],.tup [.agg (B0.cells z.1),.sc (.bool z.2)]⟩) (D0 b)):=by
 refine M4 (N:=13) (l:=[.cell 2 29,.tmp 3]) Tryz.func48 rfl rfl rfl (Nat.le_of_ble_eq_true rfl) fun w0 i0 F βs=>?_
 refine C6 ?_
 refine B8 ?_
 refine B4 rfl (L2 (s:=2) (z:=A7j) (qs:=Q2) rfl rfl rfl rfl z29 rfl rfl) ?_
 refine B4 rfl (C7 (p:=.sc (.bool false)) rfl rfl rfl rfl) ?_
 refine D4 ?_
 refine C6 ?_
 refine B8 ?_
 refine B4 rfl (L2 (s:=4) (z:=A7j) (qs:=Q2) rfl rfl rfl rfl z29 rfl rfl) ?_
 refine D4 ?_
 refine C6 ?_
 refine B8 ?_
 refine B4 rfl (C2 (p:=.sem (SL (eI .u8) b)) rfl rfl rfl rfl) ?_
 refine B4 rfl (A2Q (f:=70) (ls:=[some 4]) rfl rfl rfl rfl) ?_
 refine j7 rfl (j5 (fn:=Tryz.f69) (xs:=[.tmp 6,.tmp 7]) (bxs:=[(1100,4,Q2,Q2)]) (tps:=[]) (newS:=[]) (newT:=[]) (ρ:=[(1100,4)]) (τ:=[]) rfl rfl rfl Tryz.func69 rfl rfl (A3r b (⟨false,0,false,false,0,false,false,false,0⟩:B0) ok_b) rfl rfl rfl rfl rfl rfl (by decide) (fc ⟨rfl,(.cons (.rfl _) (.cons (.rfl _) (.cons (.rfl _) (.cons (.rfl _) (.cons (.rfl _) (.cons (.rfl _) (.cons (.rfl _) (.cons (.rfl _) (.cons (.rfl _) .nil)))))))))⟩ fn') fn' ((.cons (.one (.rfl _)) (.cons (.one (.rfl _)) .nil))) rfl (fun _=>rfl) (fun _=>rfl) rfl) (fun _ _=>?_)
 refine B4 rfl (C7 (p:=.sc (.bool ((J4 b (⟨false,0,false,false,0,false,false,false,0⟩:B0)).1))) rfl rfl rfl rfl) ?_
 refine D4 ?_
 refine C6 ?_
 refine C6 ?_
 refine B8 ?_
 refine B4 rfl (C2 (p:=.sc (.bool ((J4 b (⟨false,0,false,false,0,false,false,false,0⟩:B0)).1))) rfl rfl rfl rfl) ?_
 refine B4 rfl (X4 (u:=.bool ((J4 b (⟨false,0,false,false,0,false,false,false,0⟩:B0)).1)) (v:=.bool (!((J4 b (⟨false,0,false,false,0,false,false,false,0⟩:B0)).1))) rfl rfl rfl rfl (fun _=>rfl)) ?_
 refine D4 ?_
 refine F6 (b:=!((J4 b (⟨false,0,false,false,0,false,false,false,0⟩:B0)).1)) rfl (fun k1=>?_) (fun k1=>?_)
 ·skip
  refine C6 ?_
  refine B8 ?_
  refine B4 rfl (M7 (parts:=[]) (pps:=[]) (qs:=Q2) rfl rfl rfl A6o rfl rfl (by kernel_rfl)) ?_
  refine B4 rfl (G5 (s:=2) (off:=0) (ps:=Q2) (p:=.agg Q2) (qs:=Q2) rfl rfl X9 rfl rfl rfl rfl rfl rfl rfl) ?_
  refine B4 rfl (C7 (p:=.sc (.bool false)) rfl rfl rfl rfl) ?_
  refine D4 ?_
  refine G2 ?_
  exact F7 (F:=(fun (z:B0 × Bool)=>⟨[],[],.tup [.agg (B0.cells z.1),.sc (.bool z.2)]⟩)) (z:=(D0 b)) (v:=((⟨false,0,false,false,0,false,false,false,0⟩:B0),false)) (bT k1 rfl) rfl (.two (.cell 2 29 2 9 true Q2 (.agg Q2) rfl rfl X9 rfl rfl rfl) (.one (.rfl _)) rfl (.tmp 3 (.sc (.bool false)) rfl) (.one (.rfl _)) rfl) trivial trivial
 ·skip
  refine F9 ?_
  refine C6 ?_
  refine B8 ?_
  refine B4 rfl (F4 (s:=4) (off:=0) (ps:=(B0.cells ((J4 b (⟨false,0,false,false,0,false,false,false,0⟩:B0)).2))) (p:=.agg (B0.cells ((J4 b (⟨false,0,false,false,0,false,false,false,0⟩:B0)).2))) rfl rfl rfl X9 rfl rfl rfl rfl rfl) ?_
  refine B4 rfl (G5 (s:=2) (off:=0) (ps:=Q2) (p:=.agg (B0.cells ((J4 b (⟨false,0,false,false,0,false,false,false,0⟩:B0)).2))) (qs:=(B0.cells ((J4 b (⟨false,0,false,false,0,false,false,false,0⟩:B0)).2))) rfl rfl X9 rfl rfl rfl rfl rfl rfl rfl) ?_
  refine B4 rfl (C7 (p:=.sc (.bool true)) rfl rfl rfl rfl) ?_
  refine D4 ?_
  refine G2 ?_
  exact F7 (F:=(fun (z:B0 × Bool)=>⟨[],[],.tup [.agg (B0.cells z.1),.sc (.bool z.2)]⟩)) (z:=(D0 b)) (v:=(((J4 b (⟨false,0,false,false,0,false,false,false,0⟩:B0)).2),true)) (bF k1 rfl) rfl (.two (.cell 2 29 2 9 true (B0.cells ((J4 b (⟨false,0,false,false,0,false,false,false,0⟩:B0)).2)) (.agg (B0.cells ((J4 b (⟨false,0,false,false,0,false,false,false,0⟩:B0)).2))) rfl rfl X9 rfl rfl rfl) (.one (.rfl _)) rfl (.tmp 3 (.sc (.bool true)) rfl) (.one (.rfl _)) rfl) trivial trivial
theorem A2J (b:List Int) (ok_b:gdL (okI .u8) b):PF Tryz.prog 48 [.sem (SL (eI .u8) b)] (.tup [.agg (B0.cells ((D0 b).1)),.sc (.bool ((D0 b).2))]):=M1 (A1M b ok_b) rfl
end Go.Proofs.YtadmpldpipagnaaGreatDoor
