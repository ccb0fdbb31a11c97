import Derived.Test.YtadmpldpipagnaaGreatDoorRzFnCapr
namespace Go.Proofs.YtadmpldpipagnaaGreatDoor
open Go.Ab
set_option linter.unusedSimpArgs false
set_option linter.unusedVariables false
def M0 (b:List Int):Nat → List Int → List Int → List (List Int) → ((List Int) × (List (List Int)) × Bool) ⊕ ((List Int) × (List Int) × (List (List Int)))
 | 0,_,_,_=>Sum.inr default
 | n0 + 1,b_0,t_0,v_0 =>
  (bif decide ((0:Int) < (b_0.length:Int)) then
   (bif (decide (((b_0.length:Int):Int) < 2)) || (decide (((b_0.length:Int):Int) < (IntKind.wrap .i64 (2 + (IntKind.wrap .i64 (ix b_0 1)))))) then
    Sum.inl ([],[],false)
   else
    M0 b n0 (sub b_0 (IntKind.wrap .i64 (2 + (IntKind.wrap .i64 (ix b_0 1)))) (b_0.length:Int)) (t_0 ++ [(IntKind.wrap .i64 (ix b_0 0))]) (v_0 ++ [(sub b_0 2 (IntKind.wrap .i64 (2 + (IntKind.wrap .i64 (ix b_0 1)))))]))
  else
   Sum.inr (b_0,t_0,v_0))
def B9 (b:List Int):(List Int) × (List (List Int)) × Bool:=
 (Sum.elim (fun z=>z) (fun (x_0:(List Int) × (List Int) × (List (List Int))) =>
  (x_0.2.1,x_0.2.2,true)) (M0 b (b.length + 1) b ([]:List Int) ([]:List (List Int))))
set_option maxRecDepth 100000 in
set_option maxHeartbeats 4000000 in
theorem A3j (b:List Int) (hb:b.length ≤ 1000000000000) (ok_b:gdL (okI .u8) b):PG Tryz.prog 38 [] [] [.sem (SL (eI .u8) b)] (fun _:Unit=>True) (fun _=>(fun (z:(List Int) × (List (List Int)) × Bool)=>⟨[],[],.tup [.sem (SL (eI .i64) z.1),.sem (SL (eL (eI .u8)) z.2.1),.sc (.bool z.2.2)]⟩) (B9 b)):=by
 refine M4 (N:=49) (l:=[.tmp 2,.tmp 3,.tmp 4]) Tryz.func38 rfl rfl rfl (Nat.le_of_ble_eq_true rfl) fun w0 i0 F βs=>?_
 refine H5 0 rfl (fun hl1=>?_)
 refine C6 ?_
 refine B8 ?_
 refine B4 rfl (C7 (p:=.sc (.slice none 0 0)) rfl rfl rfl rfl) ?_
 refine B4 rfl (C7 (p:=.sc (.slice none 0 0)) rfl rfl rfl rfl) ?_
 refine B4 rfl (C7 (p:=.sc (.bool false)) rfl rfl rfl rfl) ?_
 refine D4 ?_
 refine C6 ?_
 refine B8 ?_
 refine B4 rfl (C7 (p:=.sc (.slice none 0 0)) rfl rfl rfl rfl) ?_
 refine D4 ?_
 refine C6 ?_
 refine B8 ?_
 refine B4 rfl (C7 (p:=.sc (.slice none 0 0)) rfl rfl rfl rfl) ?_
 refine D4 ?_
 refine N8 (ι:=(List Int) × (List Int) × (List (List Int))) (p:=fun x_0=>(M0 b (b.length + 1) b ([]:List Int) ([]:List (List Int)))=.inr x_0) (S:=fun x_0=>St.of 49 [(0,.sem (SL (eI .u8) x_0.1)),(2,.own 4002 (List.length (α:=Int) ([]:List Int)) (SL (eI .i64) ([]:List Int))),(3,.own 4003 (List.length (α:=List Int) ([]:List (List Int))) (SL (eL (eI .u8)) ([]:List (List Int)))),(4,.sc (.bool false)),(5,.own 4005 x_0.2.1.length (SL (eI .i64) x_0.2.1)),(6,.own 4006 x_0.2.2.length (SL (eL (eI .u8)) x_0.2.2))] [] [(4002,(1,([]:List Int).length)),(4003,(1,([]:List (List Int)).length)),(4005,(1,x_0.2.1.length)),(4006,(1,x_0.2.2.length))]) ?_ (fun x_0 e2=>?_)
 ·skip
  refine H6 ?_
  refine W0 (E:=(eI .i64)) (d:=2) (tp:=4002) rfl ?_
  refine W0 (E:=(eL (eI .u8))) (d:=3) (tp:=4003) rfl ?_
  refine W0 (E:=(eI .i64)) (d:=5) (tp:=4005) rfl ?_
  refine W0 (E:=(eL (eI .u8))) (d:=6) (tp:=4006) rfl ?_
  refine R3 (ι:=Nat × (List Int) × (List Int) × (List (List Int))) (S:=fun i=>St.of 49 [(0,.sem (SL (eI .u8) i.2.1)),(2,.own 4002 (List.length (α:=Int) ([]:List Int)) (SL (eI .i64) ([]:List Int))),(3,.own 4003 (List.length (α:=List Int) ([]:List (List Int))) (SL (eL (eI .u8)) ([]:List (List Int)))),(4,.sc (.bool false)),(5,.own 4005 i.2.2.1.length (SL (eI .i64) i.2.2.1)),(6,.own 4006 i.2.2.2.length (SL (eL (eI .u8)) i.2.2.2))] [] [(4002,(1,([]:List Int).length)),(4003,(1,([]:List (List Int)).length)),(4005,(1,i.2.2.1.length)),(4006,(1,i.2.2.2.length))]) (J:=fun i=>M0 b i.1 i.2.1 i.2.2.1 i.2.2.2=(M0 b (b.length + 1) b ([]:List Int) ([]:List (List Int))) ∧ (i.2.1.length < i.1) ∧ (i.2.2.1.length + i.2.1.length ≤ b.length) ∧ (i.2.2.2.length + i.2.1.length ≤ b.length) ∧ (gdL (okI .u8) i.2.1)) (μ:=fun i=>i.1) (i₀:=((b.length + 1),b,([]:List Int),([]:List (List Int)))) (G9 rfl ⟨⟨rfl,(.one (.rfl _))⟩,⟨⟨rfl,(.one (.rfl _))⟩,⟨⟨rfl,(.one (.rfl _))⟩,⟨⟨rfl,(.one (.rfl _))⟩,⟨⟨rfl,(.one (.rfl _))⟩,⟨⟨rfl,(.one (.rfl _))⟩,trivial⟩⟩⟩⟩⟩⟩ trivial ⟨rfl,⟨rfl,⟨rfl,⟨rfl,trivial⟩⟩⟩⟩) ⟨rfl,(by first | omega | ((try simp only [z1,z2,z3,z4,z5,z6,z7,z8,z9,zA,zB,zC,zD,D2,C9,C4,C3,C5,B5,B6,B7,A7,A6] at *); omega) | ((try simp only [z1,z2,z3,z4,z5,z6,z7,z8,z9,zA,B5,B6,B7,A7,A6] at *); (try simp (disch:=omega) only [C8]); (try simp only [z1,z2,z3,z4,z5,z6,z7,z8,z9,zA,zB,zC,zD,D2,C9,C4,C3,C5,B5,B6,B7] at *); omega)),(by first | omega | ((try simp only [z1,z2,z3,z4,z5,z6,z7,z8,z9,zA,zB,zC,zD,D2,C9,C4,C3,C5,B5,B6,B7,A7,A6] at *); omega) | ((try simp only [z1,z2,z3,z4,z5,z6,z7,z8,z9,zA,B5,B6,B7,A7,A6] at *); (try simp (disch:=omega) only [C8]); (try simp only [z1,z2,z3,z4,z5,z6,z7,z8,z9,zA,zB,zC,zD,D2,C9,C4,C3,C5,B5,B6,B7] at *); omega)),(by first | omega | ((try simp only [z1,z2,z3,z4,z5,z6,z7,z8,z9,zA,zB,zC,zD,D2,C9,C4,C3,C5,B5,B6,B7,A7,A6] at *); omega) | ((try simp only [z1,z2,z3,z4,z5,z6,z7,z8,z9,zA,B5,B6,B7,A7,A6] at *); (try simp (disch:=omega) only [C8]); (try simp only [z1,z2,z3,z4,z5,z6,z7,z8,z9,zA,zB,zC,zD,D2,C9,C4,C3,C5,B5,B6,B7] at *); omega)),ok_b⟩ ?_
  rintro ⟨n0,b_0,t_0,v_0⟩ ⟨hJ0,hm0_0,hm0_1,hm0_2,ok_b_0⟩
  obtain ⟨n0,rfl⟩:∃ m,n0=m + 1:=⟨n0 - 1,by have:0 < n0:=Nat.lt_of_le_of_lt (Nat.zero_le _) hm0_0; omega⟩
  replace hJ0:M0 b (n0 + 1) b_0 t_0 v_0=(M0 b (b.length + 1) b ([]:List Int) ([]:List (List Int))):=hJ0
  replace hm0_0:b_0.length < n0 + 1:=hm0_0
  replace hm0_1:t_0.length + b_0.length ≤ b.length:=hm0_1
  replace hm0_2:v_0.length + b_0.length ≤ b.length:=hm0_2
  replace ok_b_0:gdL (okI .u8) b_0:=ok_b_0
  refine H5 0 rfl (fun hl3=>?_)
  refine P8 2 rfl (fun hl4=>?_)
  refine P8 3 rfl (fun hl5=>?_)
  refine P8 5 rfl (fun hl6=>?_)
  refine P8 6 rfl (fun hl7=>?_)
  refine C6 ?_
  refine C6 ?_
  refine B8 ?_
  refine B4 rfl (C2 (p:=.sem (SL (eI .u8) b_0)) rfl rfl rfl rfl) ?_
  refine B4 rfl (L6 rfl rfl rfl Tryz.underlying22 (E3 rfl)) ?_
  refine B4 rfl (E6 (u1:=.int .i64 (b_0.length:Int)) (u2:=.int .i64 0) (v:=.bool (decide ((0:Int) < (b_0.length:Int)))) rfl rfl rfl rfl rfl (fun _=>rfl)) ?_
  refine D4 ?_
  refine F6 (b:=decide ((0:Int) < (b_0.length:Int))) rfl (fun k8=>?_) (fun k8=>?_)
  ·skip
   refine F9 ?_
   refine H6 ?_
   refine C6 ?_
   refine C6 ?_
   refine B8 ?_
   refine B4 rfl (C2 (p:=.sem (SL (eI .u8) b_0)) rfl rfl rfl rfl) ?_
   refine B4 rfl (L6 rfl rfl rfl Tryz.underlying22 (E3 rfl)) ?_
   refine B4 rfl (E6 (u1:=.int .i64 (b_0.length:Int)) (u2:=.int .i64 2) (v:=.bool (decide (((b_0.length:Int):Int) < 2))) rfl rfl rfl rfl rfl (fun _=>rfl)) ?_
   refine B4 rfl (C2 (p:=.sc (.bool (decide (((b_0.length:Int):Int) < 2)))) rfl rfl rfl rfl) ?_
   refine E0 (C:=!(decide (((b_0.length:Int):Int) < 2))) (p:=.sem (SL (eI .u8) b_0)) (H8 (b:=decide (((b_0.length:Int):Int) < 2)) (c:=!(decide (((b_0.length:Int):Int) < 2))) rfl rfl rfl rfl rfl rfl) rfl rfl (fun g9=>C2 (p:=.sem (SL (eI .u8) b_0)) rfl rfl rfl rfl) ?_
   refine E0 (C:=!(decide (((b_0.length:Int):Int) < 2))) (p:=.sc (.int .i64 (b_0.length:Int))) (H8 (b:=decide (((b_0.length:Int):Int) < 2)) (c:=!(decide (((b_0.length:Int):Int) < 2))) rfl rfl rfl rfl rfl rfl) rfl rfl (fun g10=>L6 rfl rfl rfl Tryz.underlying22 (by exact (E3 (by exact (gt (p:=.sem (SL (eI .u8) b_0)) (q:=.sc undef) g10))))) ?_
   refine E0 (C:=!(decide (((b_0.length:Int):Int) < 2))) (p:=.sem (SL (eI .u8) b_0)) (H8 (b:=decide (((b_0.length:Int):Int) < 2)) (c:=!(decide (((b_0.length:Int):Int) < 2))) rfl rfl rfl rfl rfl rfl) rfl rfl (fun g11=>C2 (p:=.sem (SL (eI .u8) b_0)) rfl rfl rfl rfl) ?_
   have hx13:=O5 ok_b_0 1
   refine E0 (C:=!(decide (((b_0.length:Int):Int) < 2))) (p:=.sem (PT [.sc (.int .u8 (ix b_0 1))])) (H8 (b:=decide (((b_0.length:Int):Int) < 2)) (c:=!(decide (((b_0.length:Int):Int) < 2))) rfl rfl rfl rfl rfl rfl) rfl rfl (fun g12=>N6 (E:=(eI .u8)) (l:=b_0) (n:=1) (ps:=[.sc (.int .u8 (ix b_0 1))]) rfl rfl rfl Tryz.underlying22 ty5 (by exact (E3 (by exact (gt (p:=.sem (SL (eI .u8) b_0)) (q:=.sc undef) g12)))) rfl (by first | omega | ((try simp only [z1,z2,z3,z4,z5,z6,z7,z8,z9,zA,zB,zC,zD,D2,C9,C4,C3,C5,B5,B6,B7,A7,A6] at *); omega) | ((try simp only [z1,z2,z3,z4,z5,z6,z7,z8,z9,zA,B5,B6,B7,A7,A6] at *); (try simp (disch:=omega) only [C8]); (try simp only [z1,z2,z3,z4,z5,z6,z7,z8,z9,zA,zB,zC,zD,D2,C9,C4,C3,C5,B5,B6,B7] at *); omega)) rfl) ?_
   refine E0 (C:=!(decide (((b_0.length:Int):Int) < 2))) (p:=.sc (.int .u8 (ix b_0 1))) (H8 (b:=decide (((b_0.length:Int):Int) < 2)) (c:=!(decide (((b_0.length:Int):Int) < 2))) rfl rfl rfl rfl rfl rfl) rfl rfl (fun g14=>G4 (ps:=[.sc (.int .u8 (ix b_0 1))]) (p:=.sc (.int .u8 (ix b_0 1))) rfl rfl rfl ty5 (gt (p:=.sem (PT [.sc (.int .u8 (ix b_0 1))])) (q:=.sc undef) g14) rfl rfl rfl rfl) ?_
   refine E0 (C:=!(decide (((b_0.length:Int):Int) < 2))) (p:=.sc (.int .i64 (IntKind.wrap .i64 (ix b_0 1)))) (H8 (b:=decide (((b_0.length:Int):Int) < 2)) (c:=!(decide (((b_0.length:Int):Int) < 2))) rfl rfl rfl rfl rfl rfl) rfl rfl (fun g15=>G8 (m:=(IntKind.wrap .i64 (ix b_0 1))) rfl rfl rfl Tryz.underlying5 Tryz.underlying3 (gt (p:=.sc (.int .u8 (ix b_0 1))) (q:=.sc undef) g15) rfl) ?_
   refine E0 (C:=!(decide (((b_0.length:Int):Int) < 2))) (p:=.sc (.int .i64 (IntKind.wrap .i64 (2 + (IntKind.wrap .i64 (ix b_0 1)))))) (H8 (b:=decide (((b_0.length:Int):Int) < 2)) (c:=!(decide (((b_0.length:Int):Int) < 2))) rfl rfl rfl rfl rfl rfl) rfl rfl (fun g16=>E6 (u1:=.int .i64 2) (u2:=.int .i64 (IntKind.wrap .i64 (ix b_0 1))) (v:=.int .i64 (IntKind.wrap .i64 (2 + (IntKind.wrap .i64 (ix b_0 1))))) rfl rfl rfl rfl (gt (p:=.sc (.int .i64 (IntKind.wrap .i64 (ix b_0 1)))) (q:=.sc undef) g16) (fun _=>rfl)) ?_
   refine E0 (C:=!(decide (((b_0.length:Int):Int) < 2))) (p:=.sc (.bool (decide (((b_0.length:Int):Int) < (IntKind.wrap .i64 (2 + (IntKind.wrap .i64 (ix b_0 1)))))))) (H8 (b:=decide (((b_0.length:Int):Int) < 2)) (c:=!(decide (((b_0.length:Int):Int) < 2))) rfl rfl rfl rfl rfl rfl) rfl rfl (fun g17=>E6 (u1:=.int .i64 (b_0.length:Int)) (u2:=.int .i64 (IntKind.wrap .i64 (2 + (IntKind.wrap .i64 (ix b_0 1))))) (v:=.bool (decide (((b_0.length:Int):Int) < (IntKind.wrap .i64 (2 + (IntKind.wrap .i64 (ix b_0 1))))))) rfl rfl rfl (gt (p:=.sc (.int .i64 (b_0.length:Int))) (q:=.sc undef) g17) (gt (p:=.sc (.int .i64 (IntKind.wrap .i64 (2 + (IntKind.wrap .i64 (ix b_0 1)))))) (q:=.sc undef) g17) (fun _=>rfl)) ?_
   refine B4 rfl (N5 (b:=decide (((b_0.length:Int):Int) < 2)) (y:=decide (((b_0.length:Int):Int) < (IntKind.wrap .i64 (2 + (IntKind.wrap .i64 (ix b_0 1)))))) rfl rfl rfl rfl rfl rfl) ?_
   refine D4 ?_
   refine F6 (b:=(decide (((b_0.length:Int):Int) < 2)) || (decide (((b_0.length:Int):Int) < (IntKind.wrap .i64 (2 + (IntKind.wrap .i64 (ix b_0 1))))))) rfl (fun k18=>?_) (fun k18=>?_)
   ·skip
    refine C6 ?_
    refine B8 ?_
    refine B4 rfl (C7 (p:=.sc (.slice none 0 0)) rfl rfl rfl rfl) ?_
    refine B4 rfl (C7 (p:=.sc (.slice none 0 0)) rfl rfl rfl rfl) ?_
    refine B4 rfl (C7 (p:=.sc (.bool false)) rfl rfl rfl rfl) ?_
    refine D4 ?_
    refine G2 ?_
    exact F7 (F:=(fun (z:(List Int) × (List (List Int)) × Bool)=>⟨[],[],.tup [.sem (SL (eI .i64) z.1),.sem (SL (eL (eI .u8)) z.2.1),.sc (.bool z.2.2)]⟩)) (z:=(B9 b)) (v:=([],[],false)) (mL (hJ0.symm.trans (bT k8 (bT k18 rfl))) rfl) rfl (.three (.tmp 2 (.sc (.slice none 0 0)) rfl) (.one (.nil _)) rfl (.tmp 3 (.sc (.slice none 0 0)) rfl) (.one (.nil _)) rfl (.tmp 4 (.sc (.bool false)) rfl) (.one (.rfl _)) rfl) trivial trivial
   ·skip
    refine F9 ?_
    refine C6 ?_
    refine S9 (ds:=[some 23,some 24,some 25,some 26,some 27,some 28,some 29,some 30,some 31,some 32,some 33,some 34,some 35,some 36,some 37,some 38,some 39,some 5,some 6]) (ks:=[6,16]) (ps:=[.own 4005 t_0.length (SL (eI .i64) t_0),.sem (SL (eI .u8) b_0),.sem (PT [.sc (.int .u8 (ix b_0 0))]),.sc (.int .u8 (ix b_0 0)),.sc (.int .i64 (IntKind.wrap .i64 (ix b_0 0))),.sem (SL (eI .i64) [(IntKind.wrap .i64 (ix b_0 0))]),.any,.own 4006 v_0.length (SL (eL (eI .u8)) v_0),.sem (SL (eI .u8) b_0),.sem (SL (eI .u8) b_0),.sem (PT [.sc (.int .u8 (ix b_0 1))]),.sc (.int .u8 (ix b_0 1)),.sc (.int .i64 (IntKind.wrap .i64 (ix b_0 1))),.sc (.int .i64 (IntKind.wrap .i64 (2 + (IntKind.wrap .i64 (ix b_0 1))))),.sem (SL (eI .u8) (sub b_0 2 (IntKind.wrap .i64 (2 + (IntKind.wrap .i64 (ix b_0 1)))))),.sem (SL (eL (eI .u8)) [(sub b_0 2 (IntKind.wrap .i64 (2 + (IntKind.wrap .i64 (ix b_0 1)))))]),.any,.any,.any]) rfl (by kernel_rfl) rfl rfl ?_
    have hx19:=O5 ok_b_0 0
    have hx20:=O5 ok_b_0 1
    refine R4 (d:=29) (q:=.own 4005 (List.length (α:=Int) (t_0 ++ [(IntKind.wrap .i64 (ix b_0 0))])) (SL (eI .i64) (t_0 ++ [(IntKind.wrap .i64 (ix b_0 0))]))) (tp:=4005) (x:=some (1,(List.length (α:=Int) (t_0 ++ [(IntKind.wrap .i64 (ix b_0 0))])))) (k:=6) (qs:=[.own 4005 t_0.length (SL (eI .i64) t_0),.sem (SL (eI .u8) b_0),.sem (PT [.sc (.int .u8 (ix b_0 0))]),.sc (.int .u8 (ix b_0 0)),.sc (.int .i64 (IntKind.wrap .i64 (ix b_0 0))),.sem (SL (eI .i64) [(IntKind.wrap .i64 (ix b_0 0))]),.own 4005 (List.length (α:=Int) (t_0 ++ [(IntKind.wrap .i64 (ix b_0 0))])) (SL (eI .i64) (t_0 ++ [(IntKind.wrap .i64 (ix b_0 0))])),.own 4006 v_0.length (SL (eL (eI .u8)) v_0),.sem (SL (eI .u8) b_0),.sem (SL (eI .u8) b_0),.sem (PT [.sc (.int .u8 (ix b_0 1))]),.sc (.int .u8 (ix b_0 1)),.sc (.int .i64 (IntKind.wrap .i64 (ix b_0 1))),.sc (.int .i64 (IntKind.wrap .i64 (2 + (IntKind.wrap .i64 (ix b_0 1))))),.sem (SL (eI .u8) (sub b_0 2 (IntKind.wrap .i64 (2 + (IntKind.wrap .i64 (ix b_0 1)))))),.sem (SL (eL (eI .u8)) [(sub b_0 2 (IntKind.wrap .i64 (2 + (IntKind.wrap .i64 (ix b_0 1)))))]),.any,.any,.any]) [0,1,2,3,4,5,7,8,9,10,11,12,13,14,15] [true,true,true,true,true,true,false,true,true,true,true,true,true,true,true,true,false,false,false] (by kernel_rfl) (by kernel_rfl) rfl rfl rfl (by kernel_rfl) rfl rfl rfl rfl rfl ?_ (fun bD hc hi hd=>by exact K1 (E:=(eI .i64)) (l:=t_0) (ext:=[(IntKind.wrap .i64 (ix b_0 0))]) (tp:=4005) rfl rfl rfl A9n (gt (p:=.own 4005 t_0.length (SL (eI .i64) t_0)) (q:=.any) (hd 0 (by decide))) rfl (by exact (E3 (by exact (gt (p:=.sem (SL (eI .i64) [(IntKind.wrap .i64 (ix b_0 0))])) (q:=.any) (hd 5 (by decide)))))) (by first | ((try simp only [zB,zC,zD,B7,A7,A6]); omega) | ((try simp only [z1,z2,z3,z4,z5,z6,z7,z8,z9,zA,zB,zC,zD,D2,C9,C4,C3,C5,B5,B6,B7,A7,A6] at *); omega))) ?_
    ·refine fc ?_ (fc ?_ (fc ?_ (fc ?_ (fc ?_ (fc ?_ (fc ?_ (fc ?_ (fc ?_ (fc ?_ (fc ?_ (fc ?_ (fc ?_ (fc ?_ (fc ?_ (fn')))))))))))))))
     ·exact E7 (i:=0) (q:=.own 4005 t_0.length (SL (eI .i64) t_0)) rfl rfl rfl (fun bD hc hi hd=>C1 rfl (C2 (p:=.own 4005 t_0.length (SL (eI .i64) t_0)) rfl rfl rfl (gf (q:=.own 4005 t_0.length (SL (eI .i64) t_0)) (S5 (j:=17) hc hi (by kernel_rfl)))))
     ·exact E7 (i:=1) (q:=.sem (SL (eI .u8) b_0)) rfl rfl rfl (fun bD hc hi hd=>C1 rfl (C2 (p:=.sem (SL (eI .u8) b_0)) rfl rfl rfl rfl))
     ·exact E7 (i:=2) (q:=.sem (PT [.sc (.int .u8 (ix b_0 0))])) rfl rfl rfl (fun bD hc hi hd=>C1 rfl (N6 (E:=(eI .u8)) (l:=b_0) (n:=0) (ps:=[.sc (.int .u8 (ix b_0 0))]) rfl rfl rfl Tryz.underlying22 ty5 (by exact (E3 (by exact (gt (p:=.sem (SL (eI .u8) b_0)) (q:=.any) (hd 1 (by decide)))))) rfl (by first | omega | ((try simp only [z1,z2,z3,z4,z5,z6,z7,z8,z9,zA,zB,zC,zD,D2,C9,C4,C3,C5,B5,B6,B7,A7,A6] at *); omega) | ((try simp only [z1,z2,z3,z4,z5,z6,z7,z8,z9,zA,B5,B6,B7,A7,A6] at *); (try simp (disch:=omega) only [C8]); (try simp only [z1,z2,z3,z4,z5,z6,z7,z8,z9,zA,zB,zC,zD,D2,C9,C4,C3,C5,B5,B6,B7] at *); omega)) rfl))
     ·exact E7 (i:=3) (q:=.sc (.int .u8 (ix b_0 0))) rfl rfl rfl (fun bD hc hi hd=>C1 rfl (G4 (ps:=[.sc (.int .u8 (ix b_0 0))]) (p:=.sc (.int .u8 (ix b_0 0))) rfl rfl rfl ty5 (gt (p:=.sem (PT [.sc (.int .u8 (ix b_0 0))])) (q:=.any) (hd 2 (by decide))) rfl rfl rfl rfl))
     ·exact E7 (i:=4) (q:=.sc (.int .i64 (IntKind.wrap .i64 (ix b_0 0)))) rfl rfl rfl (fun bD hc hi hd=>C1 rfl (G8 (m:=(IntKind.wrap .i64 (ix b_0 0))) rfl rfl rfl Tryz.underlying5 Tryz.underlying3 (gt (p:=.sc (.int .u8 (ix b_0 0))) (q:=.any) (hd 3 (by decide))) rfl))
     ·exact E7 (i:=5) (q:=.sem (SL (eI .i64) [(IntKind.wrap .i64 (ix b_0 0))])) rfl rfl rfl (fun bD hc hi hd=>C1 rfl (l3 (E:=(eI .i64)) (l:=[(IntKind.wrap .i64 (ix b_0 0))]) (parts:=[(0,.tmp 27)]) (pps:=[(0,.sc (.int .i64 (IntKind.wrap .i64 (ix b_0 0))))]) (qs:=[.sc (.int .i64 (IntKind.wrap .i64 (ix b_0 0)))]) rfl rfl rfl A9n rfl rfl (A3y (b0:=.sc (.int .i64 (IntKind.wrap .i64 (ix b_0 0)))) (gt (p:=.sc (.int .i64 (IntKind.wrap .i64 (ix b_0 0)))) (q:=.any) (hd 4 (by decide)))) rfl rfl))
     ·exact E7 (i:=7) (q:=.own 4006 v_0.length (SL (eL (eI .u8)) v_0)) rfl rfl rfl (fun bD hc hi hd=>C1 rfl (C2 (p:=.own 4006 v_0.length (SL (eL (eI .u8)) v_0)) rfl rfl rfl (gf (q:=.own 4006 v_0.length (SL (eL (eI .u8)) v_0)) (S5 (j:=18) hc hi (by kernel_rfl)))))
     ·exact E7 (i:=8) (q:=.sem (SL (eI .u8) b_0)) rfl rfl rfl (fun bD hc hi hd=>C1 rfl (C2 (p:=.sem (SL (eI .u8) b_0)) rfl rfl rfl rfl))
     ·exact E7 (i:=9) (q:=.sem (SL (eI .u8) b_0)) rfl rfl rfl (fun bD hc hi hd=>C1 rfl (C2 (p:=.sem (SL (eI .u8) b_0)) rfl rfl rfl rfl))
     ·exact E7 (i:=10) (q:=.sem (PT [.sc (.int .u8 (ix b_0 1))])) rfl rfl rfl (fun bD hc hi hd=>C1 rfl (N6 (E:=(eI .u8)) (l:=b_0) (n:=1) (ps:=[.sc (.int .u8 (ix b_0 1))]) rfl rfl rfl Tryz.underlying22 ty5 (by exact (E3 (by exact (gt (p:=.sem (SL (eI .u8) b_0)) (q:=.any) (hd 9 (by decide)))))) rfl (by first | omega | ((try simp only [z1,z2,z3,z4,z5,z6,z7,z8,z9,zA,zB,zC,zD,D2,C9,C4,C3,C5,B5,B6,B7,A7,A6] at *); omega) | ((try simp only [z1,z2,z3,z4,z5,z6,z7,z8,z9,zA,B5,B6,B7,A7,A6] at *); (try simp (disch:=omega) only [C8]); (try simp only [z1,z2,z3,z4,z5,z6,z7,z8,z9,zA,zB,zC,zD,D2,C9,C4,C3,C5,B5,B6,B7] at *); omega)) rfl))
     ·exact E7 (i:=11) (q:=.sc (.int .u8 (ix b_0 1))) rfl rfl rfl (fun bD hc hi hd=>C1 rfl (G4 (ps:=[.sc (.int .u8 (ix b_0 1))]) (p:=.sc (.int .u8 (ix b_0 1))) rfl rfl rfl ty5 (gt (p:=.sem (PT [.sc (.int .u8 (ix b_0 1))])) (q:=.any) (hd 10 (by decide))) rfl rfl rfl rfl))
     ·exact E7 (i:=12) (q:=.sc (.int .i64 (IntKind.wrap .i64 (ix b_0 1)))) rfl rfl rfl (fun bD hc hi hd=>C1 rfl (G8 (m:=(IntKind.wrap .i64 (ix b_0 1))) rfl rfl rfl Tryz.underlying5 Tryz.underlying3 (gt (p:=.sc (.int .u8 (ix b_0 1))) (q:=.any) (hd 11 (by decide))) rfl))
     ·exact E7 (i:=13) (q:=.sc (.int .i64 (IntKind.wrap .i64 (2 + (IntKind.wrap .i64 (ix b_0 1)))))) rfl rfl rfl (fun bD hc hi hd=>C1 rfl (E6 (u1:=.int .i64 2) (u2:=.int .i64 (IntKind.wrap .i64 (ix b_0 1))) (v:=.int .i64 (IntKind.wrap .i64 (2 + (IntKind.wrap .i64 (ix b_0 1))))) rfl rfl rfl rfl (gt (p:=.sc (.int .i64 (IntKind.wrap .i64 (ix b_0 1)))) (q:=.any) (hd 12 (by decide))) (fun _=>rfl)))
     ·exact E7 (i:=14) (q:=.sem (SL (eI .u8) (sub b_0 2 (IntKind.wrap .i64 (2 + (IntKind.wrap .i64 (ix b_0 1))))))) rfl rfl rfl (fun bD hc hi hd=>C1 rfl (K0 (E:=(eI .u8)) (l:=b_0) (i:=2) (j:=(IntKind.wrap .i64 (2 + (IntKind.wrap .i64 (ix b_0 1))))) rfl rfl rfl Tryz.underlying22 ty5 (by exact (E3 (by exact (gt (p:=.sem (SL (eI .u8) b_0)) (q:=.any) (hd 8 (by decide)))))) (I0 rfl) (I0 (gt (p:=.sc (.int .i64 (IntKind.wrap .i64 (2 + (IntKind.wrap .i64 (ix b_0 1)))))) (q:=.any) (hd 13 (by decide)))) (show 0 ≤ 2 ∧ 2 ≤ (IntKind.wrap .i64 (2 + (IntKind.wrap .i64 (ix b_0 1)))) ∧ (IntKind.wrap .i64 (2 + (IntKind.wrap .i64 (ix b_0 1)))) ≤ (b_0.length:Int) from (by first | omega | ((try simp only [z1,z2,z3,z4,z5,z6,z7,z8,z9,zA,zB,zC,zD,D2,C9,C4,C3,C5,B5,B6,B7,A7,A6] at *); omega) | ((try simp only [z1,z2,z3,z4,z5,z6,z7,z8,z9,zA,B5,B6,B7,A7,A6] at *); (try simp (disch:=omega) only [C8]); (try simp only [z1,z2,z3,z4,z5,z6,z7,z8,z9,zA,zB,zC,zD,D2,C9,C4,C3,C5,B5,B6,B7] at *); omega)))))
     ·exact E7 (i:=15) (q:=.sem (SL (eL (eI .u8)) [(sub b_0 2 (IntKind.wrap .i64 (2 + (IntKind.wrap .i64 (ix b_0 1)))))])) rfl rfl rfl (fun bD hc hi hd=>C1 rfl (l3 (E:=(eL (eI .u8))) (l:=[(sub b_0 2 (IntKind.wrap .i64 (2 + (IntKind.wrap .i64 (ix b_0 1)))))]) (parts:=[(0,.tmp 37)]) (pps:=[(0,.sem (SL (eI .u8) (sub b_0 2 (IntKind.wrap .i64 (2 + (IntKind.wrap .i64 (ix b_0 1)))))))]) (qs:=[.sem (SL (eI .u8) (sub b_0 2 (IntKind.wrap .i64 (2 + (IntKind.wrap .i64 (ix b_0 1))))))]) rfl rfl rfl A9f rfl rfl (A3y (b0:=.sem (SL (eI .u8) (sub b_0 2 (IntKind.wrap .i64 (2 + (IntKind.wrap .i64 (ix b_0 1))))))) (gt (p:=.sem (SL (eI .u8) (sub b_0 2 (IntKind.wrap .i64 (2 + (IntKind.wrap .i64 (ix b_0 1))))))) (q:=.any) (hd 14 (by decide)))) rfl rfl))
    have hx21:=O5 ok_b_0 1
    refine R4 (d:=39) (q:=.own 4006 (List.length (α:=List Int) (v_0 ++ [(sub b_0 2 (IntKind.wrap .i64 (2 + (IntKind.wrap .i64 (ix b_0 1)))))])) (SL (eL (eI .u8)) (v_0 ++ [(sub b_0 2 (IntKind.wrap .i64 (2 + (IntKind.wrap .i64 (ix b_0 1)))))]))) (tp:=4006) (x:=some (1,(List.length (α:=List Int) (v_0 ++ [(sub b_0 2 (IntKind.wrap .i64 (2 + (IntKind.wrap .i64 (ix b_0 1)))))])))) (k:=16) (qs:=[.own 4005 t_0.length (SL (eI .i64) t_0),.sem (SL (eI .u8) b_0),.sem (PT [.sc (.int .u8 (ix b_0 0))]),.sc (.int .u8 (ix b_0 0)),.sc (.int .i64 (IntKind.wrap .i64 (ix b_0 0))),.sem (SL (eI .i64) [(IntKind.wrap .i64 (ix b_0 0))]),.own 4005 (List.length (α:=Int) (t_0 ++ [(IntKind.wrap .i64 (ix b_0 0))])) (SL (eI .i64) (t_0 ++ [(IntKind.wrap .i64 (ix b_0 0))])),.own 4006 v_0.length (SL (eL (eI .u8)) v_0),.sem (SL (eI .u8) b_0),.sem (SL (eI .u8) b_0),.sem (PT [.sc (.int .u8 (ix b_0 1))]),.sc (.int .u8 (ix b_0 1)),.sc (.int .i64 (IntKind.wrap .i64 (ix b_0 1))),.sc (.int .i64 (IntKind.wrap .i64 (2 + (IntKind.wrap .i64 (ix b_0 1))))),.sem (SL (eI .u8) (sub b_0 2 (IntKind.wrap .i64 (2 + (IntKind.wrap .i64 (ix b_0 1)))))),.sem (SL (eL (eI .u8)) [(sub b_0 2 (IntKind.wrap .i64 (2 + (IntKind.wrap .i64 (ix b_0 1)))))]),.own 4006 (List.length (α:=List Int) (v_0 ++ [(sub b_0 2 (IntKind.wrap .i64 (2 + (IntKind.wrap .i64 (ix b_0 1)))))])) (SL (eL (eI .u8)) (v_0 ++ [(sub b_0 2 (IntKind.wrap .i64 (2 + (IntKind.wrap .i64 (ix b_0 1)))))])),.own 4005 (List.length (α:=Int) (t_0 ++ [(IntKind.wrap .i64 (ix b_0 0))])) (SL (eI .i64) (t_0 ++ [(IntKind.wrap .i64 (ix b_0 0))])),.own 4006 (List.length (α:=List Int) (v_0 ++ [(sub b_0 2 (IntKind.wrap .i64 (2 + (IntKind.wrap .i64 (ix b_0 1)))))])) (SL (eL (eI .u8)) (v_0 ++ [(sub b_0 2 (IntKind.wrap .i64 (2 + (IntKind.wrap .i64 (ix b_0 1)))))]))]) [7,8,9,10,11,12,13,14,15] [true,true,true,true,true,true,true,true,true,true,true,true,true,true,true,true,false,false,false] (by kernel_rfl) (by kernel_rfl) rfl rfl rfl (by kernel_rfl) rfl rfl rfl rfl rfl ?_ (fun bD hc hi hd=>by exact K1 (E:=(eL (eI .u8))) (l:=v_0) (ext:=[(sub b_0 2 (IntKind.wrap .i64 (2 + (IntKind.wrap .i64 (ix b_0 1)))))]) (tp:=4006) rfl rfl rfl A9f (gt (p:=.own 4006 v_0.length (SL (eL (eI .u8)) v_0)) (q:=.any) (hd 7 (by decide))) rfl (by exact (E3 (by exact (gt (p:=.sem (SL (eL (eI .u8)) [(sub b_0 2 (IntKind.wrap .i64 (2 + (IntKind.wrap .i64 (ix b_0 1)))))])) (q:=.any) (hd 15 (by decide)))))) (by first | ((try simp only [zB,zC,zD,B7,A7,A6]); omega) | ((try simp only [z1,z2,z3,z4,z5,z6,z7,z8,z9,zA,zB,zC,zD,D2,C9,C4,C3,C5,B5,B6,B7,A7,A6] at *); omega))) ?_
    ·refine fc ?_ (fc ?_ (fc ?_ (fc ?_ (fc ?_ (fc ?_ (fc ?_ (fc ?_ (fc ?_ (fn')))))))))
     ·exact E7 (i:=7) (q:=.own 4006 v_0.length (SL (eL (eI .u8)) v_0)) rfl rfl rfl (fun bD hc hi hd=>C1 rfl (C2 (p:=.own 4006 v_0.length (SL (eL (eI .u8)) v_0)) rfl rfl rfl (gf (q:=.own 4006 v_0.length (SL (eL (eI .u8)) v_0)) (S5 (j:=18) hc hi (by kernel_rfl)))))
     ·exact E7 (i:=8) (q:=.sem (SL (eI .u8) b_0)) rfl rfl rfl (fun bD hc hi hd=>C1 rfl (C2 (p:=.sem (SL (eI .u8) b_0)) rfl rfl rfl rfl))
     ·exact E7 (i:=9) (q:=.sem (SL (eI .u8) b_0)) rfl rfl rfl (fun bD hc hi hd=>C1 rfl (C2 (p:=.sem (SL (eI .u8) b_0)) rfl rfl rfl rfl))
     ·exact E7 (i:=10) (q:=.sem (PT [.sc (.int .u8 (ix b_0 1))])) rfl rfl rfl (fun bD hc hi hd=>C1 rfl (N6 (E:=(eI .u8)) (l:=b_0) (n:=1) (ps:=[.sc (.int .u8 (ix b_0 1))]) rfl rfl rfl Tryz.underlying22 ty5 (by exact (E3 (by exact (gt (p:=.sem (SL (eI .u8) b_0)) (q:=.any) (hd 9 (by decide)))))) rfl (by first | omega | ((try simp only [z1,z2,z3,z4,z5,z6,z7,z8,z9,zA,zB,zC,zD,D2,C9,C4,C3,C5,B5,B6,B7,A7,A6] at *); omega) | ((try simp only [z1,z2,z3,z4,z5,z6,z7,z8,z9,zA,B5,B6,B7,A7,A6] at *); (try simp (disch:=omega) only [C8]); (try simp only [z1,z2,z3,z4,z5,z6,z7,z8,z9,zA,zB,zC,zD,D2,C9,C4,C3,C5,B5,B6,B7] at *); omega)) rfl))
     ·exact E7 (i:=11) (q:=.sc (.int .u8 (ix b_0 1))) rfl rfl rfl (fun bD hc hi hd=>C1 rfl (G4 (ps:=[.sc (.int .u8 (ix b_0 1))]) (p:=.sc (.int .u8 (ix b_0 1))) rfl rfl rfl ty5 (gt (p:=.sem (PT [.sc (.int .u8 (ix b_0 1))])) (q:=.any) (hd 10 (by decide))) rfl rfl rfl rfl))
     ·exact E7 (i:=12) (q:=.sc (.int .i64 (IntKind.wrap .i64 (ix b_0 1)))) rfl rfl rfl (fun bD hc hi hd=>C1 rfl (G8 (m:=(IntKind.wrap .i64 (ix b_0 1))) rfl rfl rfl Tryz.underlying5 Tryz.underlying3 (gt (p:=.sc (.int .u8 (ix b_0 1))) (q:=.any) (hd 11 (by decide))) rfl))
     ·exact E7 (i:=13) (q:=.sc (.int .i64 (IntKind.wrap .i64 (2 + (IntKind.wrap .i64 (ix b_0 1)))))) rfl rfl rfl (fun bD hc hi hd=>C1 rfl (E6 (u1:=.int .i64 2) (u2:=.int .i64 (IntKind.wrap .i64 (ix b_0 1))) (v:=.int .i64 (IntKind.wrap .i64 (2 + (IntKind.wrap .i64 (ix b_0 1))))) rfl rfl rfl rfl (gt (p:=.sc (.int .i64 (IntKind.wrap .i64 (ix b_0 1)))) (q:=.any) (hd 12 (by decide))) (fun _=>rfl)))
     ·exact E7 (i:=14) (q:=.sem (SL (eI .u8) (sub b_0 2 (IntKind.wrap .i64 (2 + (IntKind.wrap .i64 (ix b_0 1))))))) rfl rfl rfl (fun bD hc hi hd=>C1 rfl (K0 (E:=(eI .u8)) (l:=b_0) (i:=2) (j:=(IntKind.wrap .i64 (2 + (IntKind.wrap .i64 (ix b_0 1))))) rfl rfl rfl Tryz.underlying22 ty5 (by exact (E3 (by exact (gt (p:=.sem (SL (eI .u8) b_0)) (q:=.any) (hd 8 (by decide)))))) (I0 rfl) (I0 (gt (p:=.sc (.int .i64 (IntKind.wrap .i64 (2 + (IntKind.wrap .i64 (ix b_0 1)))))) (q:=.any) (hd 13 (by decide)))) (show 0 ≤ 2 ∧ 2 ≤ (IntKind.wrap .i64 (2 + (IntKind.wrap .i64 (ix b_0 1)))) ∧ (IntKind.wrap .i64 (2 + (IntKind.wrap .i64 (ix b_0 1)))) ≤ (b_0.length:Int) from (by first | omega | ((try simp only [z1,z2,z3,z4,z5,z6,z7,z8,z9,zA,zB,zC,zD,D2,C9,C4,C3,C5,B5,B6,B7,A7,A6] at *); omega) | ((try simp only [z1,z2,z3,z4,z5,z6,z7,z8,z9,zA,B5,B6,B7,A7,A6] at *); (try simp (disch:=omega) only [C8]); (try simp only [z1,z2,z3,z4,z5,z6,z7,z8,z9,zA,zB,zC,zD,D2,C9,C4,C3,C5,B5,B6,B7] at *); omega)))))
     ·exact E7 (i:=15) (q:=.sem (SL (eL (eI .u8)) [(sub b_0 2 (IntKind.wrap .i64 (2 + (IntKind.wrap .i64 (ix b_0 1)))))])) rfl rfl rfl (fun bD hc hi hd=>C1 rfl (l3 (E:=(eL (eI .u8))) (l:=[(sub b_0 2 (IntKind.wrap .i64 (2 + (IntKind.wrap .i64 (ix b_0 1)))))]) (parts:=[(0,.tmp 37)]) (pps:=[(0,.sem (SL (eI .u8) (sub b_0 2 (IntKind.wrap .i64 (2 + (IntKind.wrap .i64 (ix b_0 1)))))))]) (qs:=[.sem (SL (eI .u8) (sub b_0 2 (IntKind.wrap .i64 (2 + (IntKind.wrap .i64 (ix b_0 1))))))]) rfl rfl rfl A9f rfl rfl (A3y (b0:=.sem (SL (eI .u8) (sub b_0 2 (IntKind.wrap .i64 (2 + (IntKind.wrap .i64 (ix b_0 1))))))) (gt (p:=.sem (SL (eI .u8) (sub b_0 2 (IntKind.wrap .i64 (2 + (IntKind.wrap .i64 (ix b_0 1))))))) (q:=.any) (hd 14 (by decide)))) rfl rfl))
    refine P6 [17,18] (by kernel_rfl) ?_ (fun bD hb=>?_)
    ·refine fc ?_ (fc ?_ (fn'))
     ·exact E7 (i:=17) (q:=.own 4005 (List.length (α:=Int) (t_0 ++ [(IntKind.wrap .i64 (ix b_0 0))])) (SL (eI .i64) (t_0 ++ [(IntKind.wrap .i64 (ix b_0 0))]))) rfl rfl rfl (fun bD hc hi hd=>C1 rfl (C7 (p:=.own 4005 (List.length (α:=Int) (t_0 ++ [(IntKind.wrap .i64 (ix b_0 0))])) (SL (eI .i64) (t_0 ++ [(IntKind.wrap .i64 (ix b_0 0))]))) rfl rfl rfl (gt (p:=.own 4005 (List.length (α:=Int) (t_0 ++ [(IntKind.wrap .i64 (ix b_0 0))])) (SL (eI .i64) (t_0 ++ [(IntKind.wrap .i64 (ix b_0 0))]))) (q:=.any) (hd 6 (by decide)))))
     ·exact E7 (i:=18) (q:=.own 4006 (List.length (α:=List Int) (v_0 ++ [(sub b_0 2 (IntKind.wrap .i64 (2 + (IntKind.wrap .i64 (ix b_0 1)))))])) (SL (eL (eI .u8)) (v_0 ++ [(sub b_0 2 (IntKind.wrap .i64 (2 + (IntKind.wrap .i64 (ix b_0 1)))))]))) rfl rfl rfl (fun bD hc hi hd=>C1 rfl (C7 (p:=.own 4006 (List.length (α:=List Int) (v_0 ++ [(sub b_0 2 (IntKind.wrap .i64 (2 + (IntKind.wrap .i64 (ix b_0 1)))))])) (SL (eL (eI .u8)) (v_0 ++ [(sub b_0 2 (IntKind.wrap .i64 (2 + (IntKind.wrap .i64 (ix b_0 1)))))]))) rfl rfl rfl (gt (p:=.own 4006 (List.length (α:=List Int) (v_0 ++ [(sub b_0 2 (IntKind.wrap .i64 (2 + (IntKind.wrap .i64 (ix b_0 1)))))])) (SL (eL (eI .u8)) (v_0 ++ [(sub b_0 2 (IntKind.wrap .i64 (2 + (IntKind.wrap .i64 (ix b_0 1)))))]))) (q:=.any) (hd 16 (by decide)))))
    obtain rfl:bD=fun _=>true:=funext hb
    refine B8 ?_
    refine B4 rfl (C2 (p:=.sem (SL (eI .u8) b_0)) rfl rfl rfl rfl) ?_
    refine B4 rfl (C2 (p:=.sem (SL (eI .u8) b_0)) rfl rfl rfl rfl) ?_
    have hx22:=O5 ok_b_0 1
    refine B4 rfl (N6 (E:=(eI .u8)) (l:=b_0) (n:=1) (ps:=[.sc (.int .u8 (ix b_0 1))]) rfl rfl rfl Tryz.underlying22 ty5 (E3 rfl) rfl (by first | omega | ((try simp only [z1,z2,z3,z4,z5,z6,z7,z8,z9,zA,zB,zC,zD,D2,C9,C4,C3,C5,B5,B6,B7,A7,A6] at *); omega) | ((try simp only [z1,z2,z3,z4,z5,z6,z7,z8,z9,zA,B5,B6,B7,A7,A6] at *); (try simp (disch:=omega) only [C8]); (try simp only [z1,z2,z3,z4,z5,z6,z7,z8,z9,zA,zB,zC,zD,D2,C9,C4,C3,C5,B5,B6,B7] at *); omega)) rfl) ?_
    refine B4 rfl (G4 (ps:=[.sc (.int .u8 (ix b_0 1))]) (p:=.sc (.int .u8 (ix b_0 1))) rfl rfl rfl ty5 rfl rfl rfl rfl rfl) ?_
    refine B4 rfl (G8 (m:=(IntKind.wrap .i64 (ix b_0 1))) rfl rfl rfl Tryz.underlying5 Tryz.underlying3 rfl rfl) ?_
    refine B4 rfl (E6 (u1:=.int .i64 2) (u2:=.int .i64 (IntKind.wrap .i64 (ix b_0 1))) (v:=.int .i64 (IntKind.wrap .i64 (2 + (IntKind.wrap .i64 (ix b_0 1))))) rfl rfl rfl rfl rfl (fun _=>rfl)) ?_
    refine B4 rfl (K0 (E:=(eI .u8)) (l:=b_0) (i:=(IntKind.wrap .i64 (2 + (IntKind.wrap .i64 (ix b_0 1))))) (j:=(b_0.length:Int)) rfl rfl rfl Tryz.underlying22 ty5 (E3 rfl) (I0 rfl) (L3 rfl) (show 0 ≤ (IntKind.wrap .i64 (2 + (IntKind.wrap .i64 (ix b_0 1)))) ∧ (IntKind.wrap .i64 (2 + (IntKind.wrap .i64 (ix b_0 1)))) ≤ (b_0.length:Int) ∧ (b_0.length:Int) ≤ (b_0.length:Int) from (by first | omega | ((try simp only [z1,z2,z3,z4,z5,z6,z7,z8,z9,zA,zB,zC,zD,D2,C9,C4,C3,C5,B5,B6,B7,A7,A6] at *); omega) | ((try simp only [z1,z2,z3,z4,z5,z6,z7,z8,z9,zA,B5,B6,B7,A7,A6] at *); (try simp (disch:=omega) only [C8]); (try simp only [z1,z2,z3,z4,z5,z6,z7,z8,z9,zA,zB,zC,zD,D2,C9,C4,C3,C5,B5,B6,B7] at *); omega)))) ?_
    refine B4 rfl (C7 (p:=.sem (SL (eI .u8) (sub b_0 (IntKind.wrap .i64 (2 + (IntKind.wrap .i64 (ix b_0 1)))) (b_0.length:Int)))) rfl rfl rfl rfl) ?_
    refine D4 ?_
    exact ⟨(n0,(sub b_0 (IntKind.wrap .i64 (2 + (IntKind.wrap .i64 (ix b_0 1)))) (b_0.length:Int)),(t_0 ++ [(IntKind.wrap .i64 (ix b_0 0))]),(v_0 ++ [(sub b_0 2 (IntKind.wrap .i64 (2 + (IntKind.wrap .i64 (ix b_0 1)))))])),(G9 rfl ⟨⟨rfl,(.one (.rfl _))⟩,⟨⟨rfl,(.one (.rfl _))⟩,⟨⟨rfl,(.one (.rfl _))⟩,⟨⟨rfl,(.one (.rfl _))⟩,⟨⟨rfl,(.one (.rfl _))⟩,⟨⟨rfl,(.one (.rfl _))⟩,trivial⟩⟩⟩⟩⟩⟩ trivial ⟨rfl,⟨rfl,⟨rfl,⟨rfl,trivial⟩⟩⟩⟩),⟨Eq.trans (Eq.symm (bT k8 (bF k18 rfl))) hJ0,(by first | omega | ((try simp only [z1,z2,z3,z4,z5,z6,z7,z8,z9,zA,zB,zC,zD,D2,C9,C4,C3,C5,B5,B6,B7,A7,A6] at *); omega) | ((try simp only [z1,z2,z3,z4,z5,z6,z7,z8,z9,zA,B5,B6,B7,A7,A6] at *); (try simp (disch:=omega) only [C8]); (try simp only [z1,z2,z3,z4,z5,z6,z7,z8,z9,zA,zB,zC,zD,D2,C9,C4,C3,C5,B5,B6,B7] at *); omega)),(by first | omega | ((try simp only [z1,z2,z3,z4,z5,z6,z7,z8,z9,zA,zB,zC,zD,D2,C9,C4,C3,C5,B5,B6,B7,A7,A6] at *); omega) | ((try simp only [z1,z2,z3,z4,z5,z6,z7,z8,z9,zA,B5,B6,B7,A7,A6] at *); (try simp (disch:=omega) only [C8]); (try simp only [z1,z2,z3,z4,z5,z6,z7,z8,z9,zA,zB,zC,zD,D2,C9,C4,C3,C5,B5,B6,B7] at *); omega)),(by first | omega | ((try simp only [z1,z2,z3,z4,z5,z6,z7,z8,z9,zA,zB,zC,zD,D2,C9,C4,C3,C5,B5,B6,B7,A7,A6] at *); omega) | ((try simp only [z1,z2,z3,z4,z5,z6,z7,z8,z9,zA,B5,B6,B7,A7,A6] at *); (try simp (disch:=omega) only [C8]); (try simp only [z1,z2,z3,z4,z5,z6,z7,z8,z9,zA,zB,zC,zD,D2,C9,C4,C3,C5,B5,B6,B7] at *); omega)),(S4 ok_b_0)⟩,Nat.lt_succ_self _⟩
  ·skip
   refine S8 ?_
   exact ⟨(b_0,t_0,v_0),hJ0.symm.trans (bF k8 rfl),(G9 rfl ⟨⟨rfl,(.one (.rfl _))⟩,⟨⟨rfl,(.one (.rfl _))⟩,⟨⟨rfl,(.one (.rfl _))⟩,⟨⟨rfl,(.one (.rfl _))⟩,⟨⟨rfl,(.one (.rfl _))⟩,⟨⟨rfl,(.one (.rfl _))⟩,trivial⟩⟩⟩⟩⟩⟩ trivial ⟨rfl,⟨rfl,⟨rfl,⟨rfl,trivial⟩⟩⟩⟩)⟩
 ·skip
  refine H5 0 rfl (fun hl23=>?_)
  refine P8 2 rfl (fun hl24=>?_)
  refine P8 3 rfl (fun hl25=>?_)
  refine P8 5 rfl (fun hl26=>?_)
  refine P8 6 rfl (fun hl27=>?_)
  refine C6 ?_
  refine B8 ?_
  refine B4 rfl (C2 (p:=.own 4005 x_0.2.1.length (SL (eI .i64) x_0.2.1)) rfl rfl rfl rfl) ?_
  refine B4 rfl (C2 (p:=.own 4006 x_0.2.2.length (SL (eL (eI .u8)) x_0.2.2)) rfl rfl rfl rfl) ?_
  refine B4 rfl (C7 (p:=.own 4005 x_0.2.1.length (SL (eI .i64) x_0.2.1)) rfl rfl rfl rfl) ?_
  refine B4 rfl (C7 (p:=.own 4006 x_0.2.2.length (SL (eL (eI .u8)) x_0.2.2)) rfl rfl rfl rfl) ?_
  refine B4 rfl (C7 (p:=.sc (.bool true)) rfl rfl rfl rfl) ?_
  refine D4 ?_
  refine G2 ?_
  exact F7 (F:=(fun (z:(List Int) × (List (List Int)) × Bool)=>⟨[],[],.tup [.sem (SL (eI .i64) z.1),.sem (SL (eL (eI .u8)) z.2.1),.sc (.bool z.2.2)]⟩)) (z:=(B9 b)) (v:=(x_0.2.1,x_0.2.2,true)) (mR e2 rfl) rfl (.three (.tmp 2 (.sem (SL (eI .i64) x_0.2.1)) rfl) (.one (.rfl _)) rfl (.tmp 3 (.sem (SL (eL (eI .u8)) x_0.2.2)) rfl) (.one (.rfl _)) rfl (.tmp 4 (.sc (.bool true)) rfl) (.one (.rfl _)) rfl) trivial trivial
theorem A1k (b:List Int) (hb:b.length ≤ 1000000000000) (ok_b:gdL (okI .u8) b):PF Tryz.prog 38 [.sem (SL (eI .u8) b)] (.tup [.sem (SL (eI .i64) ((B9 b).1)),.sem (SL (eL (eI .u8)) ((B9 b).2.1)),.sc (.bool ((B9 b).2.2))]):=M1 (A3j b hb ok_b) rfl
def A8O (b:List Int):(List Int × List (List Int) × Bool) ⊕ (List Int × List Int × List (List Int)) → Prop
 | .inl z=>z=([],[],false)
 | .inr x=>x.2.2.length=x.2.1.length ∧ ∀ y ∈ x.2.2,y.length ≤ b.length ∧ (gdL (okI .u8) b → gdL (okI .u8) y)
theorem A4i (b:List Int):∀ (n:Nat) (b0 t0:List Int) (v0:List (List Int)),v0.length=t0.length → (∀ y ∈ v0,y.length ≤ b.length ∧ (gdL (okI .u8) b → gdL (okI .u8) y)) → b0.length ≤ b.length → (gdL (okI .u8) b → gdL (okI .u8) b0) → A8O b (M0 b n b0 t0 v0)
 | 0,_,_,_,_,_,_,_=>⟨rfl,fun _ h=>nomatch h⟩
 | n + 1,b0,t0,v0,h1,h2,h3,h4=>by
  simp only [M0]
  cases decide ((0:Int) < (b0.length:Int)) with
  | false=>exact ⟨h1,h2⟩
  | true =>
   simp only [cond_true]
   cases (decide ((b0.length:Int) < 2) || decide ((b0.length:Int) < IntKind.wrap .i64 (2 + IntKind.wrap .i64 (ix b0 1)))) with
   | true=>rfl
   | false =>
    simp only [cond_false]
    refine A4i b n _ _ _ (by simp [h1]) (fun y hy=>?_) (by rw [B7]; omega) (fun hb=>S4 (h4 hb))
    rcases List.mem_append.1 hy with hy | hy
    ·exact h2 y hy
    ·obtain rfl:=List.mem_singleton.1 hy
     exact ⟨by rw [B7]; omega,fun hb=>S4 (h4 hb)⟩
theorem A4x (b:List Int):(B9 b).2.1.length=(B9 b).1.length ∧ ∀ y ∈ (B9 b).2.1,y.length ≤ b.length ∧ (gdL (okI .u8) b → gdL (okI .u8) y):=by
 have h:=A4i b (b.length + 1) b [] [] rfl (fun _ h=>nomatch h) (Nat.le_refl _) id
 unfold B9
 cases hq:M0 b (b.length + 1) b [] [] with
 | inl z=>rw [hq] at h; obtain rfl:z=_:=h; exact ⟨rfl,fun _ h=>nomatch h⟩
 | inr x=>rw [hq] at h; exact h
theorem C0 (b:List Int):(B9 b).2.1.length=(B9 b).1.length:=(A4x b).1
theorem A4E (b:List Int) (h:gdL (okI .u8) b):gdL (gdL (okI .u8)) (B9 b).2.1:=fun y hy=>((A4x b).2 y hy).2 h
theorem U1 (b:List Int) (i:Int):(ix (B9 b).2.1 i).length ≤ b.length:=by
 unfold ix
 rw [List.getD_eq_getElem?_getD]
 cases hq:(B9 b).2.1[i.toNat]? with
 | none=>exact Nat.zero_le _
 | some x=>exact ((A4x b).2 x (List.mem_of_getElem? hq)).1
def P4 (c:B0) (code:Int) (b:List Int):Nat → B0 → Int → B0 × Int
 | 0,_,_=>default
 | n0 + 1,x1000_0,x7_0 =>
  (bif decide ((x7_0:Int) < (b.length:Int)) then
   (thn (bif (((decide (((ix b x7_0):Int)=0)) && (decide (((ix b (IntKind.wrap .i64 (x7_0 + 1))):Int)=1))) && (decide (((ix b (IntKind.wrap .i64 (x7_0 + 2))):Int)=1))) && !x1000_0.fFamily then (⟨x1000_0.fFour,x1000_0.fAS4,x1000_0.fGR,x1000_0.fRestarting,x1000_0.fTime,true,decide ((128:Int) ≤ (ix b (IntKind.wrap .i64 (x7_0 + 3)))),x1000_0.fLL,x1000_0.fLLTime⟩:B0) else x1000_0) fun (y_9:B0) =>
    P4 c code b n0 y_9 (IntKind.wrap .i64 (x7_0 + 4)))
  else
   (x1000_0,x7_0))
def O7 (c:B0) (code:Int) (b:List Int):Nat → B0 → Int → B0 × Int
 | 0,_,_=>default
 | n1 + 1,x1000_1,x8_1 =>
  (bif decide ((x8_1:Int) < (b.length:Int)) then
   (thn (bif (((decide (((ix b x8_1):Int)=0)) && (decide (((ix b (IntKind.wrap .i64 (x8_1 + 1))):Int)=1))) && (decide (((ix b (IntKind.wrap .i64 (x8_1 + 2))):Int)=1))) && !x1000_1.fLL then (⟨x1000_1.fFour,x1000_1.fAS4,x1000_1.fGR,x1000_1.fRestarting,x1000_1.fTime,x1000_1.fFamily,x1000_1.fForward,true,(IntKind.wrap .i64 ((IntKind.wrap .i64 ((IntKind.wrap .i64 (65536 * (IntKind.wrap .i64 (ix b (IntKind.wrap .i64 (x8_1 + 4)))))) + (IntKind.wrap .i64 (256 * (IntKind.wrap .i64 (ix b (IntKind.wrap .i64 (x8_1 + 5)))))))) + (IntKind.wrap .i64 (ix b (IntKind.wrap .i64 (x8_1 + 6))))))⟩:B0) else x1000_1) fun (y_35:B0) =>
    O7 c code b n1 y_35 (IntKind.wrap .i64 (x8_1 + 7)))
  else
   (x1000_1,x8_1))
def H1 (c:B0) (code:Int) (b:List Int):Bool × B0:=
 (bif decide ((code:Int)=65) then
  (bif !(decide (((b.length:Int):Int)=4)) then
   (false,c)
  else
   (!(decide (((M9 b):Int)=0)),(⟨true,(M9 b),c.fGR,c.fRestarting,c.fTime,c.fFamily,c.fForward,c.fLL,c.fLLTime⟩:B0)))
 else
  (bif decide ((code:Int)=64) then
   (bif !(decide (((Int.tmod (b.length:Int) 4):Int)=2)) then
    (false,c)
   else
    (thn (P4 c code b (((b.length:Int) - 2).toNat + 1) (⟨c.fFour,c.fAS4,true,decide ((128:Int) ≤ (ix b 0)),(IntKind.wrap .i64 ((IntKind.wrap .i64 (256 * (IntKind.wrap .i64 (Int.tmod (ix b 0) 16)))) + (IntKind.wrap .i64 (ix b 1)))),false,false,c.fLL,c.fLLTime⟩:B0) 2) fun (x_0:B0 × Int) =>
     (true,x_0.1)))
  else
   (bif decide ((code:Int)=71) then
    (bif !(decide (((Int.tmod (b.length:Int) 7):Int)=0)) then
     (false,c)
    else
     (thn (O7 c code b (((b.length:Int) - 0).toNat + 1) (⟨c.fFour,c.fAS4,c.fGR,c.fRestarting,c.fTime,c.fFamily,c.fForward,false,0⟩:B0) 0) fun (x_1:B0 × Int) =>
      (true,x_1.1)))
   else
    (true,c))))
set_option maxRecDepth 100000 in
set_option maxHeartbeats 4000000 in
theorem A3L (c:B0) (code:Int) (b:List Int) (hb:b.length ≤ 1000000000000):PG Tryz.prog 39 [(1000,(B0.cells c))] [] [.loc 1000 0,.sc (.int .i64 code),.sem (SL (eI .u8) b)] (fun _:Unit=>True) (fun _=>(fun (z:Bool × B0)=>⟨[(1000,[.sc (.bool z.2.fFour),.sc (.int .i64 z.2.fAS4),.sc (.bool z.2.fGR),.sc (.bool z.2.fRestarting),.sc (.int .i64 z.2.fTime),.sc (.bool z.2.fFamily),.sc (.bool z.2.fForward),.sc (.bool z.2.fLL),.sc (.int .i64 z.2.fLLTime)])],[],.sc (.bool z.1)⟩) (H1 c code b)):=by
 refine M4 (N:=184) (l:=[.tmp 6]) Tryz.func39 rfl rfl rfl (Nat.le_of_ble_eq_true rfl) fun w0 i0 F βs=>?_
 refine H5 2 rfl (fun hl1=>?_)
 refine C6 ?_
 refine B8 ?_
 refine B4 rfl (C7 (p:=.sc (.bool false)) rfl rfl rfl rfl) ?_
 refine D4 ?_
 refine C6 ?_
 refine C6 ?_
 refine B8 ?_
 refine B4 rfl (C2 (p:=.sc (.int .i64 code)) rfl rfl rfl rfl) ?_
 refine D4 ?_
 refine H6 ?_
 refine C6 ?_
 refine B8 ?_
 refine B4 rfl (E6 (u1:=.int .i64 code) (u2:=.int .i64 65) (v:=.bool (decide ((code:Int)=65))) rfl rfl rfl rfl rfl (fun _=>rfl)) ?_
 refine B4 rfl (C7 (p:=.sc (.bool (decide ((code:Int)=65)))) rfl rfl rfl rfl) ?_
 refine D4 ?_
 refine F6 (b:=decide ((code:Int)=65)) rfl (fun k2=>?_) (fun k2=>?_)
 ·skip
  refine C6 ?_
  refine C6 ?_
  refine B8 ?_
  refine B4 rfl (C2 (p:=.sem (SL (eI .u8) b)) rfl rfl rfl rfl) ?_
  refine B4 rfl (L6 rfl rfl rfl Tryz.underlying22 (E3 rfl)) ?_
  refine B4 rfl (E6 (u1:=.int .i64 (b.length:Int)) (u2:=.int .i64 4) (v:=.bool (!(decide (((b.length:Int):Int)=4)))) rfl rfl rfl rfl rfl (fun _=>rfl)) ?_
  refine D4 ?_
  refine F6 (b:=!(decide (((b.length:Int):Int)=4))) rfl (fun k3=>?_) (fun k3=>?_)
  ·skip
   refine C6 ?_
   refine B8 ?_
   refine B4 rfl (C7 (p:=.sc (.bool false)) rfl rfl rfl rfl) ?_
   refine D4 ?_
   refine G2 ?_
   exact F7 (F:=(fun (z:Bool × B0)=>⟨[(1000,[.sc (.bool z.2.fFour),.sc (.int .i64 z.2.fAS4),.sc (.bool z.2.fGR),.sc (.bool z.2.fRestarting),.sc (.int .i64 z.2.fTime),.sc (.bool z.2.fFamily),.sc (.bool z.2.fForward),.sc (.bool z.2.fLL),.sc (.int .i64 z.2.fLLTime)])],[],.sc (.bool z.1)⟩)) (z:=(H1 c code b)) (v:=(false,c)) (bT k2 (bT k3 rfl)) rfl (.one (.tmp 6 (.sc (.bool false)) rfl) (.one (.rfl _)) rfl) ⟨⟨(B0.cells c),rfl,(.cons (.rfl _) (.cons (.rfl _) (.cons (.rfl _) (.cons (.rfl _) (.cons (.rfl _) (.cons (.rfl _) (.cons (.rfl _) (.cons (.rfl _) (.cons (.rfl _) .nil)))))))))⟩,trivial⟩ trivial
  ·skip
   refine F9 ?_
   refine C6 ?_
   refine B8 ?_
   refine B4 rfl (C2 (p:=.loc 1000 0) rfl rfl rfl rfl) ?_
   refine B4 rfl (C2 (p:=.loc 1000 0) rfl rfl rfl rfl) ?_
   refine B4 rfl (C2 (p:=.sem (SL (eI .u8) b)) rfl rfl rfl rfl) ?_
   refine B4 rfl (I1 (fn:=Tryz.f24) (xs:=[.tmp 17]) (args:=[.sem (SL (eI .u8) b)]) (r:=.sc (.int .i64 (M9 b))) rfl rfl rfl Tryz.func24 rfl rfl rfl rfl rfl (A4M b (by first | omega | ((try simp only [z1,z2,z3,z4,z5,z6,z7,z8,z9,zA,zB,zC,zD,D2,C9,C4,C3,C5,B5,B6,B7,A7,A6,C0] at *); omega) | ((try simp only [z1,z2,z3,z4,z5,z6,z7,z8,z9,zA,B5,B6,B7,A7,A6,C0] at *); (try simp (disch:=omega) only [C8]); (try simp only [z1,z2,z3,z4,z5,z6,z7,z8,z9,zA,zB,zC,zD,D2,C9,C4,C3,C5,B5,B6,B7] at *); omega)))) ?_
   refine B4 rfl (H3 (s:=1000) (off:=0) rfl rfl rfl rfl) ?_
   refine B4 rfl (D3 (b:=1000) (k:=0) (m:=0) rfl rfl rfl U0 rfl rfl) ?_
   refine B4 rfl (G5 (s:=1000) (off:=0) (ps:=(B0.cells c)) (p:=.sc (.bool true)) (qs:=[.sc (.bool true),.sc (.int .i64 c.fAS4),.sc (.bool c.fGR),.sc (.bool c.fRestarting),.sc (.int .i64 c.fTime),.sc (.bool c.fFamily),.sc (.bool c.fForward),.sc (.bool c.fLL),.sc (.int .i64 c.fLLTime)]) rfl rfl ty4 rfl rfl rfl rfl rfl rfl rfl) ?_
   refine B4 rfl (H3 (s:=1000) (off:=0) rfl rfl rfl rfl) ?_
   refine B4 rfl (D3 (b:=1000) (k:=0) (m:=1) rfl rfl rfl Q6 rfl rfl) ?_
   refine B4 rfl (G5 (s:=1000) (off:=1) (ps:=[.sc (.bool true),.sc (.int .i64 c.fAS4),.sc (.bool c.fGR),.sc (.bool c.fRestarting),.sc (.int .i64 c.fTime),.sc (.bool c.fFamily),.sc (.bool c.fForward),.sc (.bool c.fLL),.sc (.int .i64 c.fLLTime)]) (p:=.sc (.int .i64 (M9 b))) (qs:=[.sc (.bool true),.sc (.int .i64 (M9 b)),.sc (.bool c.fGR),.sc (.bool c.fRestarting),.sc (.int .i64 c.fTime),.sc (.bool c.fFamily),.sc (.bool c.fForward),.sc (.bool c.fLL),.sc (.int .i64 c.fLLTime)]) rfl rfl ty3 rfl rfl rfl rfl rfl rfl rfl) ?_
   refine D4 ?_
   refine C6 ?_
   refine B8 ?_
   refine B4 rfl (C2 (p:=.loc 1000 0) rfl rfl rfl rfl) ?_
   refine B4 rfl (H3 (s:=1000) (off:=0) rfl rfl rfl rfl) ?_
   refine B4 rfl (D3 (b:=1000) (k:=0) (m:=1) rfl rfl rfl Q6 rfl rfl) ?_
   refine B4 rfl (F4 (s:=1000) (off:=1) (ps:=[.sc (.bool true),.sc (.int .i64 (M9 b)),.sc (.bool c.fGR),.sc (.bool c.fRestarting),.sc (.int .i64 c.fTime),.sc (.bool c.fFamily),.sc (.bool c.fForward),.sc (.bool c.fLL),.sc (.int .i64 c.fLLTime)]) (p:=.sc (.int .i64 (M9 b))) rfl rfl rfl ty3 rfl rfl rfl rfl rfl) ?_
   refine B4 rfl (E6 (u1:=.int .i64 (M9 b)) (u2:=.int .i64 0) (v:=.bool (!(decide (((M9 b):Int)=0)))) rfl rfl rfl rfl rfl (fun _=>rfl)) ?_
   refine B4 rfl (C7 (p:=.sc (.bool (!(decide (((M9 b):Int)=0))))) rfl rfl rfl rfl) ?_
   refine D4 ?_
   refine G2 ?_
   exact F7 (F:=(fun (z:Bool × B0)=>⟨[(1000,[.sc (.bool z.2.fFour),.sc (.int .i64 z.2.fAS4),.sc (.bool z.2.fGR),.sc (.bool z.2.fRestarting),.sc (.int .i64 z.2.fTime),.sc (.bool z.2.fFamily),.sc (.bool z.2.fForward),.sc (.bool z.2.fLL),.sc (.int .i64 z.2.fLLTime)])],[],.sc (.bool z.1)⟩)) (z:=(H1 c code b)) (v:=(!(decide (((M9 b):Int)=0)),(⟨true,(M9 b),c.fGR,c.fRestarting,c.fTime,c.fFamily,c.fForward,c.fLL,c.fLLTime⟩:B0))) (bT k2 (bF k3 rfl)) rfl (.one (.tmp 6 (.sc (.bool (!(decide (((M9 b):Int)=0))))) rfl) (.one (.rfl _)) rfl) ⟨⟨[.sc (.bool true),.sc (.int .i64 (M9 b)),.sc (.bool c.fGR),.sc (.bool c.fRestarting),.sc (.int .i64 c.fTime),.sc (.bool c.fFamily),.sc (.bool c.fForward),.sc (.bool c.fLL),.sc (.int .i64 c.fLLTime)],rfl,(.cons (.rfl _) (.cons (.rfl _) (.cons (.rfl _) (.cons (.rfl _) (.cons (.rfl _) (.cons (.rfl _) (.cons (.rfl _) (.cons (.rfl _) (.cons (.rfl _) .nil)))))))))⟩,trivial⟩ trivial
 ·skip
  refine C6 ?_
  refine B8 ?_
  refine B4 rfl (E6 (u1:=.int .i64 code) (u2:=.int .i64 64) (v:=.bool (decide ((code:Int)=64))) rfl rfl rfl rfl rfl (fun _=>rfl)) ?_
  refine B4 rfl (C7 (p:=.sc (.bool (decide ((code:Int)=64)))) rfl rfl rfl rfl) ?_
  refine D4 ?_
  refine F6 (b:=decide ((code:Int)=64)) rfl (fun k4=>?_) (fun k4=>?_)
  ·skip
   refine C6 ?_
   refine C6 ?_
   refine B8 ?_
   refine B4 rfl (C2 (p:=.sem (SL (eI .u8) b)) rfl rfl rfl rfl) ?_
   refine B4 rfl (L6 rfl rfl rfl Tryz.underlying22 (E3 rfl)) ?_
   refine B4 rfl (E6 (u1:=.int .i64 (b.length:Int)) (u2:=.int .i64 4) (v:=.int .i64 (Int.tmod (b.length:Int) 4)) rfl rfl rfl rfl rfl (fun _=>rfl)) ?_
   refine B4 rfl (E6 (u1:=.int .i64 (Int.tmod (b.length:Int) 4)) (u2:=.int .i64 2) (v:=.bool (!(decide (((Int.tmod (b.length:Int) 4):Int)=2)))) rfl rfl rfl rfl rfl (fun _=>rfl)) ?_
   refine D4 ?_
   refine F6 (b:=!(decide (((Int.tmod (b.length:Int) 4):Int)=2))) rfl (fun k5=>?_) (fun k5=>?_)
   ·skip
    refine C6 ?_
    refine B8 ?_
    refine B4 rfl (C7 (p:=.sc (.bool false)) rfl rfl rfl rfl) ?_
    refine D4 ?_
    refine G2 ?_
    exact F7 (F:=(fun (z:Bool × B0)=>⟨[(1000,[.sc (.bool z.2.fFour),.sc (.int .i64 z.2.fAS4),.sc (.bool z.2.fGR),.sc (.bool z.2.fRestarting),.sc (.int .i64 z.2.fTime),.sc (.bool z.2.fFamily),.sc (.bool z.2.fForward),.sc (.bool z.2.fLL),.sc (.int .i64 z.2.fLLTime)])],[],.sc (.bool z.1)⟩)) (z:=(H1 c code b)) (v:=(false,c)) (bF k2 (bT k4 (bT k5 rfl))) rfl (.one (.tmp 6 (.sc (.bool false)) rfl) (.one (.rfl _)) rfl) ⟨⟨(B0.cells c),rfl,(.cons (.rfl _) (.cons (.rfl _) (.cons (.rfl _) (.cons (.rfl _) (.cons (.rfl _) (.cons (.rfl _) (.cons (.rfl _) (.cons (.rfl _) (.cons (.rfl _) .nil)))))))))⟩,trivial⟩ trivial
   ·skip
    refine F9 ?_
    refine C6 ?_
    refine Q5 { ds:=[some 34,some 35,some 36,some 37,some 38,some 39,some 40,some 41,some 42,some 43,some 44,some 45,some 46,some 47,some 48,some 49,some 50,some 51,some 52,some 53,some 54,some 55,none,some 56,some 57,none,some 58,some 59,none,some 60,some 61,none,some 62,some 63,none],p:=fun i=>[.loc 1000 0,.loc 1000 0,.loc 1000 0,.loc 1000 0,.loc 1000 0,.sem (SL (eI .u8) b),.sem (PT [.sc (.int .u8 (ix b 0))]),.sc (.int .u8 (ix b 0)),.sc (.bool (decide ((128:Int) ≤ (ix b 0)))),.sem (SL (eI .u8) b),.sem (PT [.sc (.int .u8 (ix b 0))]),.sc (.int .u8 (ix b 0)),.sc (.int .u8 (Int.tmod (ix b 0) 16)),.sc (.int .i64 (IntKind.wrap .i64 (Int.tmod (ix b 0) 16))),.sc (.int .i64 (IntKind.wrap .i64 (256 * (IntKind.wrap .i64 (Int.tmod (ix b 0) 16))))),.sem (SL (eI .u8) b),.sem (PT [.sc (.int .u8 (ix b 1))]),.sc (.int .u8 (ix b 1)),.sc (.int .i64 (IntKind.wrap .i64 (ix b 1))),.sc (.int .i64 (IntKind.wrap .i64 ((IntKind.wrap .i64 (256 * (IntKind.wrap .i64 (Int.tmod (ix b 0) 16)))) + (IntKind.wrap .i64 (ix b 1))))),.loc 1000 0,.loc 1000 2,.any,.loc 1000 0,.loc 1000 3,.any,.loc 1000 0,.loc 1000 4,.any,.loc 1000 0,.loc 1000 5,.any,.loc 1000 0,.loc 1000 6,.any].getD i .any,al:=[],st:=[(22,1000,2,[.sc (.bool true)]),(25,1000,3,[.sc (.bool (decide ((128:Int) ≤ (ix b 0))))]),(28,1000,4,[.sc (.int .i64 (IntKind.wrap .i64 ((IntKind.wrap .i64 (256 * (IntKind.wrap .i64 (Int.tmod (ix b 0) 16)))) + (IntKind.wrap .i64 (ix b 1)))))]),(31,1000,5,[.sc (.bool false)]),(34,1000,6,[.sc (.bool false)])] } rfl (by kernel_rfl) rfl rfl ?_ (fun bD hb=>?_)
    ·refine ⟨fun bD hc hi hd=>?_,fun bD hc hi hd=>?_,fun bD hc hi hd=>?_,fun bD hc hi hd=>?_,fun bD hc hi hd=>?_,fun bD hc hi hd=>?_,fun bD hc hi hd=>?_,fun bD hc hi hd=>?_,fun bD hc hi hd=>?_,fun bD hc hi hd=>?_,fun bD hc hi hd=>?_,fun bD hc hi hd=>?_,fun bD hc hi hd=>?_,fun bD hc hi hd=>?_,fun bD hc hi hd=>?_,fun bD hc hi hd=>?_,fun bD hc hi hd=>?_,fun bD hc hi hd=>?_,fun bD hc hi hd=>?_,fun bD hc hi hd=>?_,fun bD hc hi hd=>?_,fun bD hc hi hd=>?_,fun bD hc hi hd=>?_,fun bD hc hi hd=>?_,fun bD hc hi hd=>?_,fun bD hc hi hd=>?_,fun bD hc hi hd=>?_,fun bD hc hi hd=>?_,fun bD hc hi hd=>?_,fun bD hc hi hd=>?_,fun bD hc hi hd=>?_,fun bD hc hi hd=>?_,fun bD hc hi hd=>?_,fun bD hc hi hd=>?_,fun bD hc hi hd=>?_,trivial⟩
     ·exact F3.putStep (i:=0) (q:=.loc 1000 0) rfl rfl rfl (C1 rfl (C2 (p:=.loc 1000 0) rfl rfl rfl rfl))
     ·exact F3.putStep (i:=1) (q:=.loc 1000 0) rfl rfl rfl (C1 rfl (C2 (p:=.loc 1000 0) rfl rfl rfl rfl))
     ·exact F3.putStep (i:=2) (q:=.loc 1000 0) rfl rfl rfl (C1 rfl (C2 (p:=.loc 1000 0) rfl rfl rfl rfl))
     ·exact F3.putStep (i:=3) (q:=.loc 1000 0) rfl rfl rfl (C1 rfl (C2 (p:=.loc 1000 0) rfl rfl rfl rfl))
     ·exact F3.putStep (i:=4) (q:=.loc 1000 0) rfl rfl rfl (C1 rfl (C2 (p:=.loc 1000 0) rfl rfl rfl rfl))
     ·exact F3.putStep (i:=5) (q:=.sem (SL (eI .u8) b)) rfl rfl rfl (C1 rfl (C2 (p:=.sem (SL (eI .u8) b)) rfl rfl rfl rfl))
     ·exact F3.putStep (i:=6) (q:=.sem (PT [.sc (.int .u8 (ix b 0))])) rfl rfl rfl (C1 rfl (N6 (E:=(eI .u8)) (l:=b) (n:=0) (ps:=[.sc (.int .u8 (ix b 0))]) rfl rfl rfl Tryz.underlying22 ty5 (by exact (E3 (by exact (gt (p:=.sem (SL (eI .u8) b)) (q:=.any) (hd 5 (by decide)))))) rfl (by first | omega | ((try simp only [z1,z2,z3,z4,z5,z6,z7,z8,z9,zA,zB,zC,zD,D2,C9,C4,C3,C5,B5,B6,B7,A7,A6,C0] at *); omega) | ((try simp only [z1,z2,z3,z4,z5,z6,z7,z8,z9,zA,B5,B6,B7,A7,A6,C0] at *); (try simp (disch:=omega) only [C8]); (try simp only [z1,z2,z3,z4,z5,z6,z7,z8,z9,zA,zB,zC,zD,D2,C9,C4,C3,C5,B5,B6,B7] at *); omega)) rfl))
     ·exact F3.putStep (i:=7) (q:=.sc (.int .u8 (ix b 0))) rfl rfl rfl (C1 rfl (G4 (ps:=[.sc (.int .u8 (ix b 0))]) (p:=.sc (.int .u8 (ix b 0))) rfl rfl rfl ty5 (gt (p:=.sem (PT [.sc (.int .u8 (ix b 0))])) (q:=.any) (hd 6 (by decide))) rfl rfl rfl rfl))
     ·exact F3.putStep (i:=8) (q:=.sc (.bool (decide ((128:Int) ≤ (ix b 0))))) rfl rfl rfl (C1 rfl (E6 (u1:=.int .u8 (ix b 0)) (u2:=.int .u8 128) (v:=.bool (decide ((128:Int) ≤ (ix b 0)))) rfl rfl rfl (gt (p:=.sc (.int .u8 (ix b 0))) (q:=.any) (hd 7 (by decide))) rfl (fun _=>rfl)))
     ·exact F3.putStep (i:=9) (q:=.sem (SL (eI .u8) b)) rfl rfl rfl (C1 rfl (C2 (p:=.sem (SL (eI .u8) b)) rfl rfl rfl rfl))
     ·exact F3.putStep (i:=10) (q:=.sem (PT [.sc (.int .u8 (ix b 0))])) rfl rfl rfl (C1 rfl (N6 (E:=(eI .u8)) (l:=b) (n:=0) (ps:=[.sc (.int .u8 (ix b 0))]) rfl rfl rfl Tryz.underlying22 ty5 (by exact (E3 (by exact (gt (p:=.sem (SL (eI .u8) b)) (q:=.any) (hd 9 (by decide)))))) rfl (by first | omega | ((try simp only [z1,z2,z3,z4,z5,z6,z7,z8,z9,zA,zB,zC,zD,D2,C9,C4,C3,C5,B5,B6,B7,A7,A6,C0] at *); omega) | ((try simp only [z1,z2,z3,z4,z5,z6,z7,z8,z9,zA,B5,B6,B7,A7,A6,C0] at *); (try simp (disch:=omega) only [C8]); (try simp only [z1,z2,z3,z4,z5,z6,z7,z8,z9,zA,zB,zC,zD,D2,C9,C4,C3,C5,B5,B6,B7] at *); omega)) rfl))
     ·exact F3.putStep (i:=11) (q:=.sc (.int .u8 (ix b 0))) rfl rfl rfl (C1 rfl (G4 (ps:=[.sc (.int .u8 (ix b 0))]) (p:=.sc (.int .u8 (ix b 0))) rfl rfl rfl ty5 (gt (p:=.sem (PT [.sc (.int .u8 (ix b 0))])) (q:=.any) (hd 10 (by decide))) rfl rfl rfl rfl))
     ·exact F3.putStep (i:=12) (q:=.sc (.int .u8 (Int.tmod (ix b 0) 16))) rfl rfl rfl (C1 rfl (E6 (u1:=.int .u8 (ix b 0)) (u2:=.int .u8 16) (v:=.int .u8 (Int.tmod (ix b 0) 16)) rfl rfl rfl (gt (p:=.sc (.int .u8 (ix b 0))) (q:=.any) (hd 11 (by decide))) rfl (fun _=>rfl)))
     ·exact F3.putStep (i:=13) (q:=.sc (.int .i64 (IntKind.wrap .i64 (Int.tmod (ix b 0) 16)))) rfl rfl rfl (C1 rfl (G8 (m:=(IntKind.wrap .i64 (Int.tmod (ix b 0) 16))) rfl rfl rfl Tryz.underlying5 Tryz.underlying3 (gt (p:=.sc (.int .u8 (Int.tmod (ix b 0) 16))) (q:=.any) (hd 12 (by decide))) rfl))
     ·exact F3.putStep (i:=14) (q:=.sc (.int .i64 (IntKind.wrap .i64 (256 * (IntKind.wrap .i64 (Int.tmod (ix b 0) 16)))))) rfl rfl rfl (C1 rfl (E6 (u1:=.int .i64 256) (u2:=.int .i64 (IntKind.wrap .i64 (Int.tmod (ix b 0) 16))) (v:=.int .i64 (IntKind.wrap .i64 (256 * (IntKind.wrap .i64 (Int.tmod (ix b 0) 16))))) rfl rfl rfl rfl (gt (p:=.sc (.int .i64 (IntKind.wrap .i64 (Int.tmod (ix b 0) 16)))) (q:=.any) (hd 13 (by decide))) (fun _=>rfl)))
     ·exact F3.putStep (i:=15) (q:=.sem (SL (eI .u8) b)) rfl rfl rfl (C1 rfl (C2 (p:=.sem (SL (eI .u8) b)) rfl rfl rfl rfl))
     ·exact F3.putStep (i:=16) (q:=.sem (PT [.sc (.int .u8 (ix b 1))])) rfl rfl rfl (C1 rfl (N6 (E:=(eI .u8)) (l:=b) (n:=1) (ps:=[.sc (.int .u8 (ix b 1))]) rfl rfl rfl Tryz.underlying22 ty5 (by exact (E3 (by exact (gt (p:=.sem (SL (eI .u8) b)) (q:=.any) (hd 15 (by decide)))))) rfl (by first | omega | ((try simp only [z1,z2,z3,z4,z5,z6,z7,z8,z9,zA,zB,zC,zD,D2,C9,C4,C3,C5,B5,B6,B7,A7,A6,C0] at *); omega) | ((try simp only [z1,z2,z3,z4,z5,z6,z7,z8,z9,zA,B5,B6,B7,A7,A6,C0] at *); (try simp (disch:=omega) only [C8]); (try simp only [z1,z2,z3,z4,z5,z6,z7,z8,z9,zA,zB,zC,zD,D2,C9,C4,C3,C5,B5,B6,B7] at *); omega)) rfl))
     ·exact F3.putStep (i:=17) (q:=.sc (.int .u8 (ix b 1))) rfl rfl rfl (C1 rfl (G4 (ps:=[.sc (.int .u8 (ix b 1))]) (p:=.sc (.int .u8 (ix b 1))) rfl rfl rfl ty5 (gt (p:=.sem (PT [.sc (.int .u8 (ix b 1))])) (q:=.any) (hd 16 (by decide))) rfl rfl rfl rfl))
     ·exact F3.putStep (i:=18) (q:=.sc (.int .i64 (IntKind.wrap .i64 (ix b 1)))) rfl rfl rfl (C1 rfl (G8 (m:=(IntKind.wrap .i64 (ix b 1))) rfl rfl rfl Tryz.underlying5 Tryz.underlying3 (gt (p:=.sc (.int .u8 (ix b 1))) (q:=.any) (hd 17 (by decide))) rfl))
     ·exact F3.putStep (i:=19) (q:=.sc (.int .i64 (IntKind.wrap .i64 ((IntKind.wrap .i64 (256 * (IntKind.wrap .i64 (Int.tmod (ix b 0) 16)))) + (IntKind.wrap .i64 (ix b 1)))))) rfl rfl rfl (C1 rfl (E6 (u1:=.int .i64 (IntKind.wrap .i64 (256 * (IntKind.wrap .i64 (Int.tmod (ix b 0) 16))))) (u2:=.int .i64 (IntKind.wrap .i64 (ix b 1))) (v:=.int .i64 (IntKind.wrap .i64 ((IntKind.wrap .i64 (256 * (IntKind.wrap .i64 (Int.tmod (ix b 0) 16)))) + (IntKind.wrap .i64 (ix b 1))))) rfl rfl rfl (gt (p:=.sc (.int .i64 (IntKind.wrap .i64 (256 * (IntKind.wrap .i64 (Int.tmod (ix b 0) 16)))))) (q:=.any) (hd 14 (by decide))) (gt (p:=.sc (.int .i64 (IntKind.wrap .i64 (ix b 1)))) (q:=.any) (hd 18 (by decide))) (fun _=>rfl)))
     ·exact F3.putStep (i:=20) (q:=.loc 1000 0) rfl rfl rfl (C1 rfl (H3 (s:=1000) (off:=0) rfl rfl rfl (gt (p:=.loc 1000 0) (q:=.any) (hd 0 (by decide)))))
     ·exact F3.putStep (i:=21) (q:=.loc 1000 2) rfl rfl rfl (C1 rfl (D3 (b:=1000) (k:=0) (m:=2) rfl rfl rfl A0e (gt (p:=.loc 1000 0) (q:=.any) (hd 20 (by decide))) rfl))
     ·exact L5 (i:=22) (s:=1000) (off:=2) (ps0:=(B0.cells c)) (ps:=(B0.cells c)) (qs:=[.sc (.bool true)]) (p:=.sc (.bool true)) 0 hc hd rfl rfl rfl ty4 (gt (p:=.loc 1000 2) (q:=.any) (hd 21 (by decide))) rfl (by exact K3 (ps:=(B0.cells c)) rfl rfl) rfl rfl rfl rfl rfl rfl rfl hi rfl rfl (by kernel_rfl) (by kernel_rfl)
     ·exact F3.putStep (i:=23) (q:=.loc 1000 0) rfl rfl rfl (C1 rfl (H3 (s:=1000) (off:=0) rfl rfl rfl (gt (p:=.loc 1000 0) (q:=.any) (hd 1 (by decide)))))
     ·exact F3.putStep (i:=24) (q:=.loc 1000 3) rfl rfl rfl (C1 rfl (D3 (b:=1000) (k:=0) (m:=3) rfl rfl rfl A0g (gt (p:=.loc 1000 0) (q:=.any) (hd 23 (by decide))) rfl))
     ·exact L5 (i:=25) (s:=1000) (off:=3) (ps0:=(B0.cells c)) (ps:=[.sc (.bool c.fFour),.sc (.int .i64 c.fAS4),.sc (.bool true),.sc (.bool c.fRestarting),.sc (.int .i64 c.fTime),.sc (.bool c.fFamily),.sc (.bool c.fForward),.sc (.bool c.fLL),.sc (.int .i64 c.fLLTime)]) (qs:=[.sc (.bool (decide ((128:Int) ≤ (ix b 0))))]) (p:=.sc (.bool (decide ((128:Int) ≤ (ix b 0))))) 1 hc hd rfl rfl rfl ty4 (gt (p:=.loc 1000 3) (q:=.any) (hd 24 (by decide))) (gt (p:=.sc (.bool (decide ((128:Int) ≤ (ix b 0))))) (q:=.any) (hd 8 (by decide))) (by exact K3 (ps:=(B0.cells c)) rfl rfl) rfl rfl rfl rfl rfl rfl rfl hi rfl rfl (by kernel_rfl) (by kernel_rfl)
     ·exact F3.putStep (i:=26) (q:=.loc 1000 0) rfl rfl rfl (C1 rfl (H3 (s:=1000) (off:=0) rfl rfl rfl (gt (p:=.loc 1000 0) (q:=.any) (hd 2 (by decide)))))
     ·exact F3.putStep (i:=27) (q:=.loc 1000 4) rfl rfl rfl (C1 rfl (D3 (b:=1000) (k:=0) (m:=4) rfl rfl rfl V2 (gt (p:=.loc 1000 0) (q:=.any) (hd 26 (by decide))) rfl))
     ·exact L5 (i:=28) (s:=1000) (off:=4) (ps0:=(B0.cells c)) (ps:=[.sc (.bool c.fFour),.sc (.int .i64 c.fAS4),.sc (.bool true),.sc (.bool (decide ((128:Int) ≤ (ix b 0)))),.sc (.int .i64 c.fTime),.sc (.bool c.fFamily),.sc (.bool c.fForward),.sc (.bool c.fLL),.sc (.int .i64 c.fLLTime)]) (qs:=[.sc (.int .i64 (IntKind.wrap .i64 ((IntKind.wrap .i64 (256 * (IntKind.wrap .i64 (Int.tmod (ix b 0) 16)))) + (IntKind.wrap .i64 (ix b 1)))))]) (p:=.sc (.int .i64 (IntKind.wrap .i64 ((IntKind.wrap .i64 (256 * (IntKind.wrap .i64 (Int.tmod (ix b 0) 16)))) + (IntKind.wrap .i64 (ix b 1)))))) 2 hc hd rfl rfl rfl ty3 (gt (p:=.loc 1000 4) (q:=.any) (hd 27 (by decide))) (gt (p:=.sc (.int .i64 (IntKind.wrap .i64 ((IntKind.wrap .i64 (256 * (IntKind.wrap .i64 (Int.tmod (ix b 0) 16)))) + (IntKind.wrap .i64 (ix b 1)))))) (q:=.any) (hd 19 (by decide))) (by exact K3 (ps:=(B0.cells c)) rfl rfl) rfl rfl rfl rfl rfl rfl rfl hi rfl rfl (by kernel_rfl) (by kernel_rfl)
     ·exact F3.putStep (i:=29) (q:=.loc 1000 0) rfl rfl rfl (C1 rfl (H3 (s:=1000) (off:=0) rfl rfl rfl (gt (p:=.loc 1000 0) (q:=.any) (hd 3 (by decide)))))
     ·exact F3.putStep (i:=30) (q:=.loc 1000 5) rfl rfl rfl (C1 rfl (D3 (b:=1000) (k:=0) (m:=5) rfl rfl rfl T8 (gt (p:=.loc 1000 0) (q:=.any) (hd 29 (by decide))) rfl))
     ·exact L5 (i:=31) (s:=1000) (off:=5) (ps0:=(B0.cells c)) (ps:=[.sc (.bool c.fFour),.sc (.int .i64 c.fAS4),.sc (.bool true),.sc (.bool (decide ((128:Int) ≤ (ix b 0)))),.sc (.int .i64 (IntKind.wrap .i64 ((IntKind.wrap .i64 (256 * (IntKind.wrap .i64 (Int.tmod (ix b 0) 16)))) + (IntKind.wrap .i64 (ix b 1))))),.sc (.bool c.fFamily),.sc (.bool c.fForward),.sc (.bool c.fLL),.sc (.int .i64 c.fLLTime)]) (qs:=[.sc (.bool false)]) (p:=.sc (.bool false)) 3 hc hd rfl rfl rfl ty4 (gt (p:=.loc 1000 5) (q:=.any) (hd 30 (by decide))) rfl (by exact K3 (ps:=(B0.cells c)) rfl rfl) rfl rfl rfl rfl rfl rfl rfl hi rfl rfl (by kernel_rfl) (by kernel_rfl)
     ·exact F3.putStep (i:=32) (q:=.loc 1000 0) rfl rfl rfl (C1 rfl (H3 (s:=1000) (off:=0) rfl rfl rfl (gt (p:=.loc 1000 0) (q:=.any) (hd 4 (by decide)))))
     ·exact F3.putStep (i:=33) (q:=.loc 1000 6) rfl rfl rfl (C1 rfl (D3 (b:=1000) (k:=0) (m:=6) rfl rfl rfl j3 (gt (p:=.loc 1000 0) (q:=.any) (hd 32 (by decide))) rfl))
     ·exact L5 (i:=34) (s:=1000) (off:=6) (ps0:=(B0.cells c)) (ps:=[.sc (.bool c.fFour),.sc (.int .i64 c.fAS4),.sc (.bool true),.sc (.bool (decide ((128:Int) ≤ (ix b 0)))),.sc (.int .i64 (IntKind.wrap .i64 ((IntKind.wrap .i64 (256 * (IntKind.wrap .i64 (Int.tmod (ix b 0) 16)))) + (IntKind.wrap .i64 (ix b 1))))),.sc (.bool false),.sc (.bool c.fForward),.sc (.bool c.fLL),.sc (.int .i64 c.fLLTime)]) (qs:=[.sc (.bool false)]) (p:=.sc (.bool false)) 4 hc hd rfl rfl rfl ty4 (gt (p:=.loc 1000 6) (q:=.any) (hd 33 (by decide))) rfl (by exact K3 (ps:=(B0.cells c)) rfl rfl) rfl rfl rfl rfl rfl rfl rfl hi rfl rfl (by kernel_rfl) (by kernel_rfl)
    obtain rfl:bD=fun _=>true:=funext hb
    refine C6 ?_
    refine B8 ?_
    refine B4 rfl (C7 (p:=.sc (.int .i64 2)) rfl rfl rfl rfl) ?_
    refine D4 ?_
    refine V4 (ι:=B0 × Int) (p:=fun x_0=>(P4 c code b (((b.length:Int) - 2).toNat + 1) (⟨c.fFour,c.fAS4,true,decide ((128:Int) ≤ (ix b 0)),(IntKind.wrap .i64 ((IntKind.wrap .i64 (256 * (IntKind.wrap .i64 (Int.tmod (ix b 0) 16)))) + (IntKind.wrap .i64 (ix b 1)))),false,false,c.fLL,c.fLLTime⟩:B0) 2)=x_0) (S:=fun x_0=>St.of 184 [(0,.loc 1000 0),(1,.sc (.int .i64 code)),(2,.sem (SL (eI .u8) b)),(6,.sc (.bool false)),(7,.sc (.int .i64 x_0.2)),(9,.sc (.int .i64 code))] [(1000,[.sc (.bool x_0.1.fFour),.sc (.int .i64 x_0.1.fAS4),.sc (.bool x_0.1.fGR),.sc (.bool x_0.1.fRestarting),.sc (.int .i64 x_0.1.fTime),.sc (.bool x_0.1.fFamily),.sc (.bool x_0.1.fForward),.sc (.bool x_0.1.fLL),.sc (.int .i64 x_0.1.fLLTime)])] []) (by first | exact V3 | exact X8 | exact Y3 | exact Y0) ?_ (fun x_0 e6=>?_)
    ·skip
     refine H6 ?_
     refine R3 (ι:=Nat × B0 × Int) (S:=fun i=>St.of 184 [(0,.loc 1000 0),(1,.sc (.int .i64 code)),(2,.sem (SL (eI .u8) b)),(6,.sc (.bool false)),(7,.sc (.int .i64 i.2.2)),(9,.sc (.int .i64 code))] [(1000,[.sc (.bool i.2.1.fFour),.sc (.int .i64 i.2.1.fAS4),.sc (.bool i.2.1.fGR),.sc (.bool i.2.1.fRestarting),.sc (.int .i64 i.2.1.fTime),.sc (.bool i.2.1.fFamily),.sc (.bool i.2.1.fForward),.sc (.bool i.2.1.fLL),.sc (.int .i64 i.2.1.fLLTime)])] []) (J:=fun i=>P4 c code b i.1 i.2.1 i.2.2=(P4 c code b (((b.length:Int) - 2).toNat + 1) (⟨c.fFour,c.fAS4,true,decide ((128:Int) ≤ (ix b 0)),(IntKind.wrap .i64 ((IntKind.wrap .i64 (256 * (IntKind.wrap .i64 (Int.tmod (ix b 0) 16)))) + (IntKind.wrap .i64 (ix b 1)))),false,false,c.fLL,c.fLLTime⟩:B0) 2) ∧ (((b.length:Int) - i.2.2).toNat < i.1) ∧ (i.2.2 % 4=2) ∧ (0 ≤ i.2.2)) (μ:=fun i=>i.1) (i₀:=((((b.length:Int) - 2).toNat + 1),(⟨c.fFour,c.fAS4,true,decide ((128:Int) ≤ (ix b 0)),(IntKind.wrap .i64 ((IntKind.wrap .i64 (256 * (IntKind.wrap .i64 (Int.tmod (ix b 0) 16)))) + (IntKind.wrap .i64 (ix b 1)))),false,false,c.fLL,c.fLLTime⟩:B0),2)) (G9 rfl ⟨⟨rfl,(.one (.rfl _))⟩,⟨⟨rfl,(.one (.rfl _))⟩,⟨⟨rfl,(.one (.rfl _))⟩,⟨⟨rfl,(.one (.rfl _))⟩,⟨⟨rfl,(.one (.rfl _))⟩,⟨⟨rfl,(.one (.rfl _))⟩,trivial⟩⟩⟩⟩⟩⟩ ⟨⟨[.sc (.bool c.fFour),.sc (.int .i64 c.fAS4),.sc (.bool true),.sc (.bool (decide ((128:Int) ≤ (ix b 0)))),.sc (.int .i64 (IntKind.wrap .i64 ((IntKind.wrap .i64 (256 * (IntKind.wrap .i64 (Int.tmod (ix b 0) 16)))) + (IntKind.wrap .i64 (ix b 1))))),.sc (.bool false),.sc (.bool false),.sc (.bool c.fLL),.sc (.int .i64 c.fLLTime)],rfl,(.cons (wkE (f:=(fun z=>.sc (.bool z))) rfl) (.cons (wkE (f:=(fun z=>.sc (.int .i64 z))) rfl) (.cons (wkE (f:=(fun z=>.sc (.bool z))) rfl) (.cons (wkE (f:=(fun z=>.sc (.bool z))) rfl) (.cons (wkE (f:=(fun z=>.sc (.int .i64 z))) rfl) (.cons (wkE (f:=(fun z=>.sc (.bool z))) rfl) (.cons (wkE (f:=(fun z=>.sc (.bool z))) rfl) (.cons (wkE (f:=(fun z=>.sc (.bool z))) rfl) (.cons (wkE (f:=(fun z=>.sc (.int .i64 z))) rfl) .nil)))))))))⟩,trivial⟩ trivial) ⟨rfl,(by first | omega | ((try simp only [z1,z2,z3,z4,z5,z6,z7,z8,z9,zA,zB,zC,zD,D2,C9,C4,C3,C5,B5,B6,B7,A7,A6,C0] at *); omega) | ((try simp only [z1,z2,z3,z4,z5,z6,z7,z8,z9,zA,B5,B6,B7,A7,A6,C0] at *); (try simp (disch:=omega) only [C8]); (try simp only [z1,z2,z3,z4,z5,z6,z7,z8,z9,zA,zB,zC,zD,D2,C9,C4,C3,C5,B5,B6,B7] at *); omega)),(by first | omega | ((try simp only [z1,z2,z3,z4,z5,z6,z7,z8,z9,zA,zB,zC,zD,D2,C9,C4,C3,C5,B5,B6,B7,A7,A6,C0] at *); omega) | ((try simp only [z1,z2,z3,z4,z5,z6,z7,z8,z9,zA,B5,B6,B7,A7,A6,C0] at *); (try simp (disch:=omega) only [C8]); (try simp only [z1,z2,z3,z4,z5,z6,z7,z8,z9,zA,zB,zC,zD,D2,C9,C4,C3,C5,B5,B6,B7] at *); omega)),(by first | omega | ((try simp only [z1,z2,z3,z4,z5,z6,z7,z8,z9,zA,zB,zC,zD,D2,C9,C4,C3,C5,B5,B6,B7,A7,A6,C0] at *); omega) | ((try simp only [z1,z2,z3,z4,z5,z6,z7,z8,z9,zA,B5,B6,B7,A7,A6,C0] at *); (try simp (disch:=omega) only [C8]); (try simp only [z1,z2,z3,z4,z5,z6,z7,z8,z9,zA,zB,zC,zD,D2,C9,C4,C3,C5,B5,B6,B7] at *); omega))⟩ ?_
     rintro ⟨n0,x1000_0,x7_0⟩ ⟨hJ0,hm0_0,hm0_1,hm0_2⟩
     obtain ⟨n0,rfl⟩:∃ m,n0=m + 1:=⟨n0 - 1,by have:0 < n0:=Nat.lt_of_le_of_lt (Nat.zero_le _) hm0_0; omega⟩
     replace hJ0:P4 c code b (n0 + 1) x1000_0 x7_0=(P4 c code b (((b.length:Int) - 2).toNat + 1) (⟨c.fFour,c.fAS4,true,decide ((128:Int) ≤ (ix b 0)),(IntKind.wrap .i64 ((IntKind.wrap .i64 (256 * (IntKind.wrap .i64 (Int.tmod (ix b 0) 16)))) + (IntKind.wrap .i64 (ix b 1)))),false,false,c.fLL,c.fLLTime⟩:B0) 2):=hJ0
     replace hm0_0:((b.length:Int) - x7_0).toNat < n0 + 1:=hm0_0
     replace hm0_1:x7_0 % 4=2:=hm0_1
     replace hm0_2:0 ≤ x7_0:=hm0_2
     refine H5 2 rfl (fun hl7=>?_)
     refine C6 ?_
     refine C6 ?_
     refine B8 ?_
     refine B4 rfl (C2 (p:=.sc (.int .i64 x7_0)) rfl rfl rfl rfl) ?_
     refine B4 rfl (C2 (p:=.sem (SL (eI .u8) b)) rfl rfl rfl rfl) ?_
     refine B4 rfl (L6 rfl rfl rfl Tryz.underlying22 (E3 rfl)) ?_
     refine B4 rfl (E6 (u1:=.int .i64 x7_0) (u2:=.int .i64 (b.length:Int)) (v:=.bool (decide ((x7_0:Int) < (b.length:Int)))) rfl rfl rfl rfl rfl (fun _=>rfl)) ?_
     refine D4 ?_
     refine F6 (b:=decide ((x7_0:Int) < (b.length:Int))) rfl (fun k8=>?_) (fun k8=>?_)
     ·skip
      refine F9 ?_
      refine N8 (ι:=B0) (p:=fun y_9=>((bif (((decide (((ix b x7_0):Int)=0)) && (decide (((ix b (IntKind.wrap .i64 (x7_0 + 1))):Int)=1))) && (decide (((ix b (IntKind.wrap .i64 (x7_0 + 2))):Int)=1))) && !x1000_0.fFamily then (⟨x1000_0.fFour,x1000_0.fAS4,x1000_0.fGR,x1000_0.fRestarting,x1000_0.fTime,true,decide ((128:Int) ≤ (ix b (IntKind.wrap .i64 (x7_0 + 3)))),x1000_0.fLL,x1000_0.fLLTime⟩:B0) else x1000_0))=y_9) (S:=fun y_9=>St.of 184 [(0,.loc 1000 0),(1,.sc (.int .i64 code)),(2,.sem (SL (eI .u8) b)),(6,.sc (.bool false)),(7,.sc (.int .i64 x7_0)),(9,.sc (.int .i64 code))] [(1000,[.sc (.bool y_9.fFour),.sc (.int .i64 y_9.fAS4),.sc (.bool y_9.fGR),.sc (.bool y_9.fRestarting),.sc (.int .i64 y_9.fTime),.sc (.bool y_9.fFamily),.sc (.bool y_9.fForward),.sc (.bool y_9.fLL),.sc (.int .i64 y_9.fLLTime)])] []) ?_ (fun y_9 e9=>?_)
      ·skip
       refine H6 ?_
       refine C6 ?_
       refine B8 ?_
       refine B4 rfl (C2 (p:=.sem (SL (eI .u8) b)) rfl rfl rfl rfl) ?_
       refine B4 rfl (C2 (p:=.sc (.int .i64 x7_0)) rfl rfl rfl rfl) ?_
       refine B4 rfl (N6 (E:=(eI .u8)) (l:=b) (n:=x7_0) (ps:=[.sc (.int .u8 (ix b x7_0))]) rfl rfl rfl Tryz.underlying22 ty5 (E3 rfl) rfl (by first | omega | ((try simp only [z1,z2,z3,z4,z5,z6,z7,z8,z9,zA,zB,zC,zD,D2,C9,C4,C3,C5,B5,B6,B7,A7,A6,C0] at *); omega) | ((try simp only [z1,z2,z3,z4,z5,z6,z7,z8,z9,zA,B5,B6,B7,A7,A6,C0] at *); (try simp (disch:=omega) only [C8]); (try simp only [z1,z2,z3,z4,z5,z6,z7,z8,z9,zA,zB,zC,zD,D2,C9,C4,C3,C5,B5,B6,B7] at *); omega)) rfl) ?_
       refine B4 rfl (G4 (ps:=[.sc (.int .u8 (ix b x7_0))]) (p:=.sc (.int .u8 (ix b x7_0))) rfl rfl rfl ty5 rfl rfl rfl rfl rfl) ?_
       refine B4 rfl (E6 (u1:=.int .u8 (ix b x7_0)) (u2:=.int .u8 0) (v:=.bool (decide (((ix b x7_0):Int)=0))) rfl rfl rfl rfl rfl (fun _=>rfl)) ?_
       refine B4 rfl (C2 (p:=.sc (.bool (decide (((ix b x7_0):Int)=0)))) rfl rfl rfl rfl) ?_
       refine E0 (C:=decide (((ix b x7_0):Int)=0)) (p:=.sem (SL (eI .u8) b)) (G6 rfl rfl rfl rfl rfl) rfl rfl (fun g10=>C2 (p:=.sem (SL (eI .u8) b)) rfl rfl rfl rfl) ?_
       refine E0 (C:=decide (((ix b x7_0):Int)=0)) (p:=.sc (.int .i64 x7_0)) (G6 rfl rfl rfl rfl rfl) rfl rfl (fun g11=>C2 (p:=.sc (.int .i64 x7_0)) rfl rfl rfl rfl) ?_
       refine E0 (C:=decide (((ix b x7_0):Int)=0)) (p:=.sc (.int .i64 (IntKind.wrap .i64 (x7_0 + 1)))) (G6 rfl rfl rfl rfl rfl) rfl rfl (fun g12=>E6 (u1:=.int .i64 x7_0) (u2:=.int .i64 1) (v:=.int .i64 (IntKind.wrap .i64 (x7_0 + 1))) rfl rfl rfl (gt (p:=.sc (.int .i64 x7_0)) (q:=.sc undef) g12) rfl (fun _=>rfl)) ?_
       refine E0 (C:=decide (((ix b x7_0):Int)=0)) (p:=.sem (PT [.sc (.int .u8 (ix b (IntKind.wrap .i64 (x7_0 + 1))))])) (G6 rfl rfl rfl rfl rfl) rfl rfl (fun g13=>N6 (E:=(eI .u8)) (l:=b) (n:=(IntKind.wrap .i64 (x7_0 + 1))) (ps:=[.sc (.int .u8 (ix b (IntKind.wrap .i64 (x7_0 + 1))))]) rfl rfl rfl Tryz.underlying22 ty5 (by exact (E3 (by exact (gt (p:=.sem (SL (eI .u8) b)) (q:=.sc undef) g13)))) (gt (p:=.sc (.int .i64 (IntKind.wrap .i64 (x7_0 + 1)))) (q:=.sc undef) g13) (by first | omega | ((try simp only [z1,z2,z3,z4,z5,z6,z7,z8,z9,zA,zB,zC,zD,D2,C9,C4,C3,C5,B5,B6,B7,A7,A6,C0] at *); omega) | ((try simp only [z1,z2,z3,z4,z5,z6,z7,z8,z9,zA,B5,B6,B7,A7,A6,C0] at *); (try simp (disch:=omega) only [C8]); (try simp only [z1,z2,z3,z4,z5,z6,z7,z8,z9,zA,zB,zC,zD,D2,C9,C4,C3,C5,B5,B6,B7] at *); omega)) rfl) ?_
       refine E0 (C:=decide (((ix b x7_0):Int)=0)) (p:=.sc (.int .u8 (ix b (IntKind.wrap .i64 (x7_0 + 1))))) (G6 rfl rfl rfl rfl rfl) rfl rfl (fun g14=>G4 (ps:=[.sc (.int .u8 (ix b (IntKind.wrap .i64 (x7_0 + 1))))]) (p:=.sc (.int .u8 (ix b (IntKind.wrap .i64 (x7_0 + 1))))) rfl rfl rfl ty5 (gt (p:=.sem (PT [.sc (.int .u8 (ix b (IntKind.wrap .i64 (x7_0 + 1))))])) (q:=.sc undef) g14) rfl rfl rfl rfl) ?_
       refine E0 (C:=decide (((ix b x7_0):Int)=0)) (p:=.sc (.bool (decide (((ix b (IntKind.wrap .i64 (x7_0 + 1))):Int)=1)))) (G6 rfl rfl rfl rfl rfl) rfl rfl (fun g15=>E6 (u1:=.int .u8 (ix b (IntKind.wrap .i64 (x7_0 + 1)))) (u2:=.int .u8 1) (v:=.bool (decide (((ix b (IntKind.wrap .i64 (x7_0 + 1))):Int)=1))) rfl rfl rfl (gt (p:=.sc (.int .u8 (ix b (IntKind.wrap .i64 (x7_0 + 1))))) (q:=.sc undef) g15) rfl (fun _=>rfl)) ?_
       refine B4 rfl (J1 (b:=decide (((ix b x7_0):Int)=0)) (y:=decide (((ix b (IntKind.wrap .i64 (x7_0 + 1))):Int)=1)) rfl rfl rfl rfl rfl) ?_
       refine B4 rfl (C2 (p:=.sc (.bool ((decide (((ix b x7_0):Int)=0)) && (decide (((ix b (IntKind.wrap .i64 (x7_0 + 1))):Int)=1))))) rfl rfl rfl rfl) ?_
       refine E0 (C:=(decide (((ix b x7_0):Int)=0)) && (decide (((ix b (IntKind.wrap .i64 (x7_0 + 1))):Int)=1))) (p:=.sem (SL (eI .u8) b)) (G6 rfl rfl rfl rfl rfl) rfl rfl (fun g16=>C2 (p:=.sem (SL (eI .u8) b)) rfl rfl rfl rfl) ?_
       refine E0 (C:=(decide (((ix b x7_0):Int)=0)) && (decide (((ix b (IntKind.wrap .i64 (x7_0 + 1))):Int)=1))) (p:=.sc (.int .i64 x7_0)) (G6 rfl rfl rfl rfl rfl) rfl rfl (fun g17=>C2 (p:=.sc (.int .i64 x7_0)) rfl rfl rfl rfl) ?_
       refine E0 (C:=(decide (((ix b x7_0):Int)=0)) && (decide (((ix b (IntKind.wrap .i64 (x7_0 + 1))):Int)=1))) (p:=.sc (.int .i64 (IntKind.wrap .i64 (x7_0 + 2)))) (G6 rfl rfl rfl rfl rfl) rfl rfl (fun g18=>E6 (u1:=.int .i64 x7_0) (u2:=.int .i64 2) (v:=.int .i64 (IntKind.wrap .i64 (x7_0 + 2))) rfl rfl rfl (gt (p:=.sc (.int .i64 x7_0)) (q:=.sc undef) g18) rfl (fun _=>rfl)) ?_
       refine E0 (C:=(decide (((ix b x7_0):Int)=0)) && (decide (((ix b (IntKind.wrap .i64 (x7_0 + 1))):Int)=1))) (p:=.sem (PT [.sc (.int .u8 (ix b (IntKind.wrap .i64 (x7_0 + 2))))])) (G6 rfl rfl rfl rfl rfl) rfl rfl (fun g19=>N6 (E:=(eI .u8)) (l:=b) (n:=(IntKind.wrap .i64 (x7_0 + 2))) (ps:=[.sc (.int .u8 (ix b (IntKind.wrap .i64 (x7_0 + 2))))]) rfl rfl rfl Tryz.underlying22 ty5 (by exact (E3 (by exact (gt (p:=.sem (SL (eI .u8) b)) (q:=.sc undef) g19)))) (gt (p:=.sc (.int .i64 (IntKind.wrap .i64 (x7_0 + 2)))) (q:=.sc undef) g19) (by first | omega | ((try simp only [z1,z2,z3,z4,z5,z6,z7,z8,z9,zA,zB,zC,zD,D2,C9,C4,C3,C5,B5,B6,B7,A7,A6,C0] at *); omega) | ((try simp only [z1,z2,z3,z4,z5,z6,z7,z8,z9,zA,B5,B6,B7,A7,A6,C0] at *); (try simp (disch:=omega) only [C8]); (try simp only [z1,z2,z3,z4,z5,z6,z7,z8,z9,zA,zB,zC,zD,D2,C9,C4,C3,C5,B5,B6,B7] at *); omega)) rfl) ?_
       refine E0 (C:=(decide (((ix b x7_0):Int)=0)) && (decide (((ix b (IntKind.wrap .i64 (x7_0 + 1))):Int)=1))) (p:=.sc (.int .u8 (ix b (IntKind.wrap .i64 (x7_0 + 2))))) (G6 rfl rfl rfl rfl rfl) rfl rfl (fun g20=>G4 (ps:=[.sc (.int .u8 (ix b (IntKind.wrap .i64 (x7_0 + 2))))]) (p:=.sc (.int .u8 (ix b (IntKind.wrap .i64 (x7_0 + 2))))) rfl rfl rfl ty5 (gt (p:=.sem (PT [.sc (.int .u8 (ix b (IntKind.wrap .i64 (x7_0 + 2))))])) (q:=.sc undef) g20) rfl rfl rfl rfl) ?_
       refine E0 (C:=(decide (((ix b x7_0):Int)=0)) && (decide (((ix b (IntKind.wrap .i64 (x7_0 + 1))):Int)=1))) (p:=.sc (.bool (decide (((ix b (IntKind.wrap .i64 (x7_0 + 2))):Int)=1)))) (G6 rfl rfl rfl rfl rfl) rfl rfl (fun g21=>E6 (u1:=.int .u8 (ix b (IntKind.wrap .i64 (x7_0 + 2)))) (u2:=.int .u8 1) (v:=.bool (decide (((ix b (IntKind.wrap .i64 (x7_0 + 2))):Int)=1))) rfl rfl rfl (gt (p:=.sc (.int .u8 (ix b (IntKind.wrap .i64 (x7_0 + 2))))) (q:=.sc undef) g21) rfl (fun _=>rfl)) ?_
       refine B4 rfl (J1 (b:=(decide (((ix b x7_0):Int)=0)) && (decide (((ix b (IntKind.wrap .i64 (x7_0 + 1))):Int)=1))) (y:=decide (((ix b (IntKind.wrap .i64 (x7_0 + 2))):Int)=1)) rfl rfl rfl rfl rfl) ?_
       refine B4 rfl (C2 (p:=.sc (.bool (((decide (((ix b x7_0):Int)=0)) && (decide (((ix b (IntKind.wrap .i64 (x7_0 + 1))):Int)=1))) && (decide (((ix b (IntKind.wrap .i64 (x7_0 + 2))):Int)=1))))) rfl rfl rfl rfl) ?_
       refine E0 (C:=((decide (((ix b x7_0):Int)=0)) && (decide (((ix b (IntKind.wrap .i64 (x7_0 + 1))):Int)=1))) && (decide (((ix b (IntKind.wrap .i64 (x7_0 + 2))):Int)=1))) (p:=.loc 1000 0) (G6 rfl rfl rfl rfl rfl) rfl rfl (fun g22=>C2 (p:=.loc 1000 0) rfl rfl rfl rfl) ?_
       refine E0 (C:=((decide (((ix b x7_0):Int)=0)) && (decide (((ix b (IntKind.wrap .i64 (x7_0 + 1))):Int)=1))) && (decide (((ix b (IntKind.wrap .i64 (x7_0 + 2))):Int)=1))) (p:=.loc 1000 0) (G6 rfl rfl rfl rfl rfl) rfl rfl (fun g23=>H3 (s:=1000) (off:=0) rfl rfl rfl (gt (p:=.loc 1000 0) (q:=.sc undef) g23)) ?_
       refine E0 (C:=((decide (((ix b x7_0):Int)=0)) && (decide (((ix b (IntKind.wrap .i64 (x7_0 + 1))):Int)=1))) && (decide (((ix b (IntKind.wrap .i64 (x7_0 + 2))):Int)=1))) (p:=.loc 1000 5) (G6 rfl rfl rfl rfl rfl) rfl rfl (fun g24=>D3 (b:=1000) (k:=0) (m:=5) rfl rfl rfl T8 (gt (p:=.loc 1000 0) (q:=.sc undef) g24) rfl) ?_
       refine E0 (C:=((decide (((ix b x7_0):Int)=0)) && (decide (((ix b (IntKind.wrap .i64 (x7_0 + 1))):Int)=1))) && (decide (((ix b (IntKind.wrap .i64 (x7_0 + 2))):Int)=1))) (p:=.sc (.bool x1000_0.fFamily)) (G6 rfl rfl rfl rfl rfl) rfl rfl (fun g25=>F4 (s:=1000) (off:=5) (ps:=[.sc (.bool x1000_0.fFour),.sc (.int .i64 x1000_0.fAS4),.sc (.bool x1000_0.fGR),.sc (.bool x1000_0.fRestarting),.sc (.int .i64 x1000_0.fTime),.sc (.bool x1000_0.fFamily),.sc (.bool x1000_0.fForward),.sc (.bool x1000_0.fLL),.sc (.int .i64 x1000_0.fLLTime)]) (p:=.sc (.bool x1000_0.fFamily)) rfl rfl rfl ty4 (gt (p:=.loc 1000 5) (q:=.sc undef) g25) rfl rfl rfl rfl) ?_
       refine E0 (C:=((decide (((ix b x7_0):Int)=0)) && (decide (((ix b (IntKind.wrap .i64 (x7_0 + 1))):Int)=1))) && (decide (((ix b (IntKind.wrap .i64 (x7_0 + 2))):Int)=1))) (p:=.sc (.bool !x1000_0.fFamily)) (G6 rfl rfl rfl rfl rfl) rfl rfl (fun g26=>X4 (u:=.bool x1000_0.fFamily) (v:=.bool (!x1000_0.fFamily)) rfl rfl rfl (gt (p:=.sc (.bool x1000_0.fFamily)) (q:=.sc undef) g26) (fun _=>rfl)) ?_
       refine B4 rfl (J1 (b:=((decide (((ix b x7_0):Int)=0)) && (decide (((ix b (IntKind.wrap .i64 (x7_0 + 1))):Int)=1))) && (decide (((ix b (IntKind.wrap .i64 (x7_0 + 2))):Int)=1))) (y:=!x1000_0.fFamily) rfl rfl rfl rfl rfl) ?_
       refine D4 ?_
       refine F6 (b:=(((decide (((ix b x7_0):Int)=0)) && (decide (((ix b (IntKind.wrap .i64 (x7_0 + 1))):Int)=1))) && (decide (((ix b (IntKind.wrap .i64 (x7_0 + 2))):Int)=1))) && !x1000_0.fFamily) rfl (fun k27=>?_) (fun k27=>?_)
       ·skip
        refine B8 ?_
        refine B4 rfl (C2 (p:=.loc 1000 0) rfl rfl rfl rfl) ?_
        refine B4 rfl (C2 (p:=.loc 1000 0) rfl rfl rfl rfl) ?_
        refine B4 rfl (C2 (p:=.sem (SL (eI .u8) b)) rfl rfl rfl rfl) ?_
        refine B4 rfl (C2 (p:=.sc (.int .i64 x7_0)) rfl rfl rfl rfl) ?_
        refine B4 rfl (E6 (u1:=.int .i64 x7_0) (u2:=.int .i64 3) (v:=.int .i64 (IntKind.wrap .i64 (x7_0 + 3))) rfl rfl rfl rfl rfl (fun _=>rfl)) ?_
        refine B4 rfl (N6 (E:=(eI .u8)) (l:=b) (n:=(IntKind.wrap .i64 (x7_0 + 3))) (ps:=[.sc (.int .u8 (ix b (IntKind.wrap .i64 (x7_0 + 3))))]) rfl rfl rfl Tryz.underlying22 ty5 (E3 rfl) rfl (by first | omega | ((try simp only [z1,z2,z3,z4,z5,z6,z7,z8,z9,zA,zB,zC,zD,D2,C9,C4,C3,C5,B5,B6,B7,A7,A6,C0] at *); omega) | ((try simp only [z1,z2,z3,z4,z5,z6,z7,z8,z9,zA,B5,B6,B7,A7,A6,C0] at *); (try simp (disch:=omega) only [C8]); (try simp only [z1,z2,z3,z4,z5,z6,z7,z8,z9,zA,zB,zC,zD,D2,C9,C4,C3,C5,B5,B6,B7] at *); omega)) rfl) ?_
        refine B4 rfl (G4 (ps:=[.sc (.int .u8 (ix b (IntKind.wrap .i64 (x7_0 + 3))))]) (p:=.sc (.int .u8 (ix b (IntKind.wrap .i64 (x7_0 + 3))))) rfl rfl rfl ty5 rfl rfl rfl rfl rfl) ?_
        refine B4 rfl (E6 (u1:=.int .u8 (ix b (IntKind.wrap .i64 (x7_0 + 3)))) (u2:=.int .u8 128) (v:=.bool (decide ((128:Int) ≤ (ix b (IntKind.wrap .i64 (x7_0 + 3)))))) rfl rfl rfl rfl rfl (fun _=>rfl)) ?_
        refine B4 rfl (H3 (s:=1000) (off:=0) rfl rfl rfl rfl) ?_
        refine B4 rfl (D3 (b:=1000) (k:=0) (m:=5) rfl rfl rfl T8 rfl rfl) ?_
        refine B4 rfl (G5 (s:=1000) (off:=5) (ps:=[.sc (.bool x1000_0.fFour),.sc (.int .i64 x1000_0.fAS4),.sc (.bool x1000_0.fGR),.sc (.bool x1000_0.fRestarting),.sc (.int .i64 x1000_0.fTime),.sc (.bool x1000_0.fFamily),.sc (.bool x1000_0.fForward),.sc (.bool x1000_0.fLL),.sc (.int .i64 x1000_0.fLLTime)]) (p:=.sc (.bool true)) (qs:=[.sc (.bool x1000_0.fFour),.sc (.int .i64 x1000_0.fAS4),.sc (.bool x1000_0.fGR),.sc (.bool x1000_0.fRestarting),.sc (.int .i64 x1000_0.fTime),.sc (.bool true),.sc (.bool x1000_0.fForward),.sc (.bool x1000_0.fLL),.sc (.int .i64 x1000_0.fLLTime)]) rfl rfl ty4 rfl rfl rfl rfl rfl rfl rfl) ?_
        refine B4 rfl (H3 (s:=1000) (off:=0) rfl rfl rfl rfl) ?_
        refine B4 rfl (D3 (b:=1000) (k:=0) (m:=6) rfl rfl rfl j3 rfl rfl) ?_
        refine B4 rfl (G5 (s:=1000) (off:=6) (ps:=[.sc (.bool x1000_0.fFour),.sc (.int .i64 x1000_0.fAS4),.sc (.bool x1000_0.fGR),.sc (.bool x1000_0.fRestarting),.sc (.int .i64 x1000_0.fTime),.sc (.bool true),.sc (.bool x1000_0.fForward),.sc (.bool x1000_0.fLL),.sc (.int .i64 x1000_0.fLLTime)]) (p:=.sc (.bool (decide ((128:Int) ≤ (ix b (IntKind.wrap .i64 (x7_0 + 3))))))) (qs:=[.sc (.bool x1000_0.fFour),.sc (.int .i64 x1000_0.fAS4),.sc (.bool x1000_0.fGR),.sc (.bool x1000_0.fRestarting),.sc (.int .i64 x1000_0.fTime),.sc (.bool true),.sc (.bool (decide ((128:Int) ≤ (ix b (IntKind.wrap .i64 (x7_0 + 3)))))),.sc (.bool x1000_0.fLL),.sc (.int .i64 x1000_0.fLLTime)]) rfl rfl ty4 rfl rfl rfl rfl rfl rfl rfl) ?_
        refine D4 ?_
        exact ⟨(⟨x1000_0.fFour,x1000_0.fAS4,x1000_0.fGR,x1000_0.fRestarting,x1000_0.fTime,true,decide ((128:Int) ≤ (ix b (IntKind.wrap .i64 (x7_0 + 3)))),x1000_0.fLL,x1000_0.fLLTime⟩:B0),(bT k27 rfl),(G9 rfl ⟨⟨rfl,(.one (.rfl _))⟩,⟨⟨rfl,(.one (.rfl _))⟩,⟨⟨rfl,(.one (.rfl _))⟩,⟨⟨rfl,(.one (.rfl _))⟩,⟨⟨rfl,(.one (.rfl _))⟩,⟨⟨rfl,(.one (.rfl _))⟩,trivial⟩⟩⟩⟩⟩⟩ ⟨⟨[.sc (.bool x1000_0.fFour),.sc (.int .i64 x1000_0.fAS4),.sc (.bool x1000_0.fGR),.sc (.bool x1000_0.fRestarting),.sc (.int .i64 x1000_0.fTime),.sc (.bool true),.sc (.bool (decide ((128:Int) ≤ (ix b (IntKind.wrap .i64 (x7_0 + 3)))))),.sc (.bool x1000_0.fLL),.sc (.int .i64 x1000_0.fLLTime)],rfl,(.cons (wkE (f:=(fun z=>.sc (.bool z))) rfl) (.cons (wkE (f:=(fun z=>.sc (.int .i64 z))) rfl) (.cons (wkE (f:=(fun z=>.sc (.bool z))) rfl) (.cons (wkE (f:=(fun z=>.sc (.bool z))) rfl) (.cons (wkE (f:=(fun z=>.sc (.int .i64 z))) rfl) (.cons (wkE (f:=(fun z=>.sc (.bool z))) rfl) (.cons (wkE (f:=(fun z=>.sc (.bool z))) rfl) (.cons (wkE (f:=(fun z=>.sc (.bool z))) rfl) (.cons (wkE (f:=(fun z=>.sc (.int .i64 z))) rfl) .nil)))))))))⟩,trivial⟩ trivial)⟩
       ·skip
        refine F9 ?_
        exact ⟨x1000_0,(bF k27 rfl),(G9 rfl ⟨⟨rfl,(.one (.rfl _))⟩,⟨⟨rfl,(.one (.rfl _))⟩,⟨⟨rfl,(.one (.rfl _))⟩,⟨⟨rfl,(.one (.rfl _))⟩,⟨⟨rfl,(.one (.rfl _))⟩,⟨⟨rfl,(.one (.rfl _))⟩,trivial⟩⟩⟩⟩⟩⟩ ⟨⟨[.sc (.bool x1000_0.fFour),.sc (.int .i64 x1000_0.fAS4),.sc (.bool x1000_0.fGR),.sc (.bool x1000_0.fRestarting),.sc (.int .i64 x1000_0.fTime),.sc (.bool x1000_0.fFamily),.sc (.bool x1000_0.fForward),.sc (.bool x1000_0.fLL),.sc (.int .i64 x1000_0.fLLTime)],rfl,(.cons (.rfl _) (.cons (.rfl _) (.cons (.rfl _) (.cons (.rfl _) (.cons (.rfl _) (.cons (.rfl _) (.cons (.rfl _) (.cons (.rfl _) (.cons (.rfl _) .nil)))))))))⟩,trivial⟩ trivial)⟩
      ·skip
       refine H5 2 rfl (fun hl28=>?_)
       refine B8 ?_
       refine B4 rfl (C2 (p:=.sc (.int .i64 x7_0)) rfl rfl rfl rfl) ?_
       refine B4 rfl (E6 (u1:=.int .i64 x7_0) (u2:=.int .i64 4) (v:=.int .i64 (IntKind.wrap .i64 (x7_0 + 4))) rfl rfl rfl rfl rfl (fun _=>rfl)) ?_
       refine B4 rfl (C7 (p:=.sc (.int .i64 (IntKind.wrap .i64 (x7_0 + 4)))) rfl rfl rfl rfl) ?_
       refine D4 ?_
       exact ⟨(n0,y_9,(IntKind.wrap .i64 (x7_0 + 4))),(G9 rfl ⟨⟨rfl,(.one (.rfl _))⟩,⟨⟨rfl,(.one (.rfl _))⟩,⟨⟨rfl,(.one (.rfl _))⟩,⟨⟨rfl,(.one (.rfl _))⟩,⟨⟨rfl,(.one (.rfl _))⟩,⟨⟨rfl,(.one (.rfl _))⟩,trivial⟩⟩⟩⟩⟩⟩ ⟨⟨[.sc (.bool y_9.fFour),.sc (.int .i64 y_9.fAS4),.sc (.bool y_9.fGR),.sc (.bool y_9.fRestarting),.sc (.int .i64 y_9.fTime),.sc (.bool y_9.fFamily),.sc (.bool y_9.fForward),.sc (.bool y_9.fLL),.sc (.int .i64 y_9.fLLTime)],rfl,(.cons (.rfl _) (.cons (.rfl _) (.cons (.rfl _) (.cons (.rfl _) (.cons (.rfl _) (.cons (.rfl _) (.cons (.rfl _) (.cons (.rfl _) (.cons (.rfl _) .nil)))))))))⟩,trivial⟩ trivial),⟨Eq.trans (Eq.symm (bT k8 (mB e9 rfl))) hJ0,(by first | omega | ((try simp only [z1,z2,z3,z4,z5,z6,z7,z8,z9,zA,zB,zC,zD,D2,C9,C4,C3,C5,B5,B6,B7,A7,A6,C0] at *); omega) | ((try simp only [z1,z2,z3,z4,z5,z6,z7,z8,z9,zA,B5,B6,B7,A7,A6,C0] at *); (try simp (disch:=omega) only [C8]); (try simp only [z1,z2,z3,z4,z5,z6,z7,z8,z9,zA,zB,zC,zD,D2,C9,C4,C3,C5,B5,B6,B7] at *); omega)),(by first | omega | ((try simp only [z1,z2,z3,z4,z5,z6,z7,z8,z9,zA,zB,zC,zD,D2,C9,C4,C3,C5,B5,B6,B7,A7,A6,C0] at *); omega) | ((try simp only [z1,z2,z3,z4,z5,z6,z7,z8,z9,zA,B5,B6,B7,A7,A6,C0] at *); (try simp (disch:=omega) only [C8]); (try simp only [z1,z2,z3,z4,z5,z6,z7,z8,z9,zA,zB,zC,zD,D2,C9,C4,C3,C5,B5,B6,B7] at *); omega)),(by first | omega | ((try simp only [z1,z2,z3,z4,z5,z6,z7,z8,z9,zA,zB,zC,zD,D2,C9,C4,C3,C5,B5,B6,B7,A7,A6,C0] at *); omega) | ((try simp only [z1,z2,z3,z4,z5,z6,z7,z8,z9,zA,B5,B6,B7,A7,A6,C0] at *); (try simp (disch:=omega) only [C8]); (try simp only [z1,z2,z3,z4,z5,z6,z7,z8,z9,zA,zB,zC,zD,D2,C9,C4,C3,C5,B5,B6,B7] at *); omega))⟩,Nat.lt_succ_self _⟩
     ·skip
      refine S8 ?_
      exact ⟨(x1000_0,x7_0),hJ0.symm.trans (bF k8 rfl),(G9 rfl ⟨⟨rfl,(.one (.rfl _))⟩,⟨⟨rfl,(.one (.rfl _))⟩,⟨⟨rfl,(.one (.rfl _))⟩,⟨⟨rfl,(.one (.rfl _))⟩,⟨⟨rfl,(.one (.rfl _))⟩,⟨⟨rfl,(.one (.rfl _))⟩,trivial⟩⟩⟩⟩⟩⟩ ⟨⟨[.sc (.bool x1000_0.fFour),.sc (.int .i64 x1000_0.fAS4),.sc (.bool x1000_0.fGR),.sc (.bool x1000_0.fRestarting),.sc (.int .i64 x1000_0.fTime),.sc (.bool x1000_0.fFamily),.sc (.bool x1000_0.fForward),.sc (.bool x1000_0.fLL),.sc (.int .i64 x1000_0.fLLTime)],rfl,(.cons (.rfl _) (.cons (.rfl _) (.cons (.rfl _) (.cons (.rfl _) (.cons (.rfl _) (.cons (.rfl _) (.cons (.rfl _) (.cons (.rfl _) (.cons (.rfl _) .nil)))))))))⟩,trivial⟩ trivial)⟩
    ·skip
     refine H5 2 rfl (fun hl29=>?_)
     refine C6 ?_
     refine B8 ?_
     refine B4 rfl (C7 (p:=.sc (.bool true)) rfl rfl rfl rfl) ?_
     refine D4 ?_
     refine G2 ?_
     exact F7 (F:=(fun (z:Bool × B0)=>⟨[(1000,[.sc (.bool z.2.fFour),.sc (.int .i64 z.2.fAS4),.sc (.bool z.2.fGR),.sc (.bool z.2.fRestarting),.sc (.int .i64 z.2.fTime),.sc (.bool z.2.fFamily),.sc (.bool z.2.fForward),.sc (.bool z.2.fLL),.sc (.int .i64 z.2.fLLTime)])],[],.sc (.bool z.1)⟩)) (z:=(H1 c code b)) (v:=(true,x_0.1)) (bF k2 (bT k4 (bF k5 (mB e6 rfl)))) rfl (.one (.tmp 6 (.sc (.bool true)) rfl) (.one (.rfl _)) rfl) ⟨⟨[.sc (.bool x_0.1.fFour),.sc (.int .i64 x_0.1.fAS4),.sc (.bool x_0.1.fGR),.sc (.bool x_0.1.fRestarting),.sc (.int .i64 x_0.1.fTime),.sc (.bool x_0.1.fFamily),.sc (.bool x_0.1.fForward),.sc (.bool x_0.1.fLL),.sc (.int .i64 x_0.1.fLLTime)],rfl,(.cons (.rfl _) (.cons (.rfl _) (.cons (.rfl _) (.cons (.rfl _) (.cons (.rfl _) (.cons (.rfl _) (.cons (.rfl _) (.cons (.rfl _) (.cons (.rfl _) .nil)))))))))⟩,trivial⟩ trivial
  ·skip
   refine C6 ?_
   refine B8 ?_
   refine B4 rfl (E6 (u1:=.int .i64 code) (u2:=.int .i64 71) (v:=.bool (decide ((code:Int)=71))) rfl rfl rfl rfl rfl (fun _=>rfl)) ?_
   refine B4 rfl (C7 (p:=.sc (.bool (decide ((code:Int)=71)))) rfl rfl rfl rfl) ?_
   refine D4 ?_
   refine F6 (b:=decide ((code:Int)=71)) rfl (fun k30=>?_) (fun k30=>?_)
   ·skip
    refine C6 ?_
    refine C6 ?_
    refine B8 ?_
    refine B4 rfl (C2 (p:=.sem (SL (eI .u8) b)) rfl rfl rfl rfl) ?_
    refine B4 rfl (L6 rfl rfl rfl Tryz.underlying22 (E3 rfl)) ?_
    refine B4 rfl (E6 (u1:=.int .i64 (b.length:Int)) (u2:=.int .i64 7) (v:=.int .i64 (Int.tmod (b.length:Int) 7)) rfl rfl rfl rfl rfl (fun _=>rfl)) ?_
    refine B4 rfl (E6 (u1:=.int .i64 (Int.tmod (b.length:Int) 7)) (u2:=.int .i64 0) (v:=.bool (!(decide (((Int.tmod (b.length:Int) 7):Int)=0)))) rfl rfl rfl rfl rfl (fun _=>rfl)) ?_
    refine D4 ?_
    refine F6 (b:=!(decide (((Int.tmod (b.length:Int) 7):Int)=0))) rfl (fun k31=>?_) (fun k31=>?_)
    ·skip
     refine C6 ?_
     refine B8 ?_
     refine B4 rfl (C7 (p:=.sc (.bool false)) rfl rfl rfl rfl) ?_
     refine D4 ?_
     refine G2 ?_
     exact F7 (F:=(fun (z:Bool × B0)=>⟨[(1000,[.sc (.bool z.2.fFour),.sc (.int .i64 z.2.fAS4),.sc (.bool z.2.fGR),.sc (.bool z.2.fRestarting),.sc (.int .i64 z.2.fTime),.sc (.bool z.2.fFamily),.sc (.bool z.2.fForward),.sc (.bool z.2.fLL),.sc (.int .i64 z.2.fLLTime)])],[],.sc (.bool z.1)⟩)) (z:=(H1 c code b)) (v:=(false,c)) (bF k2 (bF k4 (bT k30 (bT k31 rfl)))) rfl (.one (.tmp 6 (.sc (.bool false)) rfl) (.one (.rfl _)) rfl) ⟨⟨(B0.cells c),rfl,(.cons (.rfl _) (.cons (.rfl _) (.cons (.rfl _) (.cons (.rfl _) (.cons (.rfl _) (.cons (.rfl _) (.cons (.rfl _) (.cons (.rfl _) (.cons (.rfl _) .nil)))))))))⟩,trivial⟩ trivial
    ·skip
     refine F9 ?_
     refine C6 ?_
     refine B8 ?_
     refine B4 rfl (C2 (p:=.loc 1000 0) rfl rfl rfl rfl) ?_
     refine B4 rfl (C2 (p:=.loc 1000 0) rfl rfl rfl rfl) ?_
     refine B4 rfl (H3 (s:=1000) (off:=0) rfl rfl rfl rfl) ?_
     refine B4 rfl (D3 (b:=1000) (k:=0) (m:=7) rfl rfl rfl W6 rfl rfl) ?_
     refine B4 rfl (G5 (s:=1000) (off:=7) (ps:=(B0.cells c)) (p:=.sc (.bool false)) (qs:=[.sc (.bool c.fFour),.sc (.int .i64 c.fAS4),.sc (.bool c.fGR),.sc (.bool c.fRestarting),.sc (.int .i64 c.fTime),.sc (.bool c.fFamily),.sc (.bool c.fForward),.sc (.bool false),.sc (.int .i64 c.fLLTime)]) rfl rfl ty4 rfl rfl rfl rfl rfl rfl rfl) ?_
     refine B4 rfl (H3 (s:=1000) (off:=0) rfl rfl rfl rfl) ?_
     refine B4 rfl (D3 (b:=1000) (k:=0) (m:=8) rfl rfl rfl S3 rfl rfl) ?_
     refine B4 rfl (G5 (s:=1000) (off:=8) (ps:=[.sc (.bool c.fFour),.sc (.int .i64 c.fAS4),.sc (.bool c.fGR),.sc (.bool c.fRestarting),.sc (.int .i64 c.fTime),.sc (.bool c.fFamily),.sc (.bool c.fForward),.sc (.bool false),.sc (.int .i64 c.fLLTime)]) (p:=.sc (.int .i64 0)) (qs:=[.sc (.bool c.fFour),.sc (.int .i64 c.fAS4),.sc (.bool c.fGR),.sc (.bool c.fRestarting),.sc (.int .i64 c.fTime),.sc (.bool c.fFamily),.sc (.bool c.fForward),.sc (.bool false),.sc (.int .i64 0)]) rfl rfl ty3 rfl rfl rfl rfl rfl rfl rfl) ?_
     refine D4 ?_
     refine C6 ?_
     refine B8 ?_
     refine B4 rfl (C7 (p:=.sc (.int .i64 0)) rfl rfl rfl rfl) ?_
     refine D4 ?_
     refine V4 (ι:=B0 × Int) (p:=fun x_1=>(O7 c code b (((b.length:Int) - 0).toNat + 1) (⟨c.fFour,c.fAS4,c.fGR,c.fRestarting,c.fTime,c.fFamily,c.fForward,false,0⟩:B0) 0)=x_1) (S:=fun x_1=>St.of 184 [(0,.loc 1000 0),(1,.sc (.int .i64 code)),(2,.sem (SL (eI .u8) b)),(6,.sc (.bool false)),(8,.sc (.int .i64 x_1.2)),(9,.sc (.int .i64 code))] [(1000,[.sc (.bool x_1.1.fFour),.sc (.int .i64 x_1.1.fAS4),.sc (.bool x_1.1.fGR),.sc (.bool x_1.1.fRestarting),.sc (.int .i64 x_1.1.fTime),.sc (.bool x_1.1.fFamily),.sc (.bool x_1.1.fForward),.sc (.bool x_1.1.fLL),.sc (.int .i64 x_1.1.fLLTime)])] []) (by first | exact V3 | exact X8 | exact Y3 | exact Y0) ?_ (fun x_1 e32=>?_)
     ·skip
      refine H6 ?_
      refine R3 (ι:=Nat × B0 × Int) (S:=fun i=>St.of 184 [(0,.loc 1000 0),(1,.sc (.int .i64 code)),(2,.sem (SL (eI .u8) b)),(6,.sc (.bool false)),(8,.sc (.int .i64 i.2.2)),(9,.sc (.int .i64 code))] [(1000,[.sc (.bool i.2.1.fFour),.sc (.int .i64 i.2.1.fAS4),.sc (.bool i.2.1.fGR),.sc (.bool i.2.1.fRestarting),.sc (.int .i64 i.2.1.fTime),.sc (.bool i.2.1.fFamily),.sc (.bool i.2.1.fForward),.sc (.bool i.2.1.fLL),.sc (.int .i64 i.2.1.fLLTime)])] []) (J:=fun i=>O7 c code b i.1 i.2.1 i.2.2=(O7 c code b (((b.length:Int) - 0).toNat + 1) (⟨c.fFour,c.fAS4,c.fGR,c.fRestarting,c.fTime,c.fFamily,c.fForward,false,0⟩:B0) 0) ∧ (((b.length:Int) - i.2.2).toNat < i.1) ∧ (i.2.2 % 7=0) ∧ (0 ≤ i.2.2)) (μ:=fun i=>i.1) (i₀:=((((b.length:Int) - 0).toNat + 1),(⟨c.fFour,c.fAS4,c.fGR,c.fRestarting,c.fTime,c.fFamily,c.fForward,false,0⟩:B0),0)) (G9 rfl ⟨⟨rfl,(.one (.rfl _))⟩,⟨⟨rfl,(.one (.rfl _))⟩,⟨⟨rfl,(.one (.rfl _))⟩,⟨⟨rfl,(.one (.rfl _))⟩,⟨⟨rfl,(.one (.rfl _))⟩,⟨⟨rfl,(.one (.rfl _))⟩,trivial⟩⟩⟩⟩⟩⟩ ⟨⟨[.sc (.bool c.fFour),.sc (.int .i64 c.fAS4),.sc (.bool c.fGR),.sc (.bool c.fRestarting),.sc (.int .i64 c.fTime),.sc (.bool c.fFamily),.sc (.bool c.fForward),.sc (.bool false),.sc (.int .i64 0)],rfl,(.cons (wkE (f:=(fun z=>.sc (.bool z))) rfl) (.cons (wkE (f:=(fun z=>.sc (.int .i64 z))) rfl) (.cons (wkE (f:=(fun z=>.sc (.bool z))) rfl) (.cons (wkE (f:=(fun z=>.sc (.bool z))) rfl) (.cons (wkE (f:=(fun z=>.sc (.int .i64 z))) rfl) (.cons (wkE (f:=(fun z=>.sc (.bool z))) rfl) (.cons (wkE (f:=(fun z=>.sc (.bool z))) rfl) (.cons (wkE (f:=(fun z=>.sc (.bool z))) rfl) (.cons (wkE (f:=(fun z=>.sc (.int .i64 z))) rfl) .nil)))))))))⟩,trivial⟩ trivial) ⟨rfl,(by first | omega | ((try simp only [z1,z2,z3,z4,z5,z6,z7,z8,z9,zA,zB,zC,zD,D2,C9,C4,C3,C5,B5,B6,B7,A7,A6,C0] at *); omega) | ((try simp only [z1,z2,z3,z4,z5,z6,z7,z8,z9,zA,B5,B6,B7,A7,A6,C0] at *); (try simp (disch:=omega) only [C8]); (try simp only [z1,z2,z3,z4,z5,z6,z7,z8,z9,zA,zB,zC,zD,D2,C9,C4,C3,C5,B5,B6,B7] at *); omega)),(by first | omega | ((try simp only [z1,z2,z3,z4,z5,z6,z7,z8,z9,zA,zB,zC,zD,D2,C9,C4,C3,C5,B5,B6,B7,A7,A6,C0] at *); omega) | ((try simp only [z1,z2,z3,z4,z5,z6,z7,z8,z9,zA,B5,B6,B7,A7,A6,C0] at *); (try simp (disch:=omega) only [C8]); (try simp only [z1,z2,z3,z4,z5,z6,z7,z8,z9,zA,zB,zC,zD,D2,C9,C4,C3,C5,B5,B6,B7] at *); omega)),(by first | omega | ((try simp only [z1,z2,z3,z4,z5,z6,z7,z8,z9,zA,zB,zC,zD,D2,C9,C4,C3,C5,B5,B6,B7,A7,A6,C0] at *); omega) | ((try simp only [z1,z2,z3,z4,z5,z6,z7,z8,z9,zA,B5,B6,B7,A7,A6,C0] at *); (try simp (disch:=omega) only [C8]); (try simp only [z1,z2,z3,z4,z5,z6,z7,z8,z9,zA,zB,zC,zD,D2,C9,C4,C3,C5,B5,B6,B7] at *); omega))⟩ ?_
      rintro ⟨n1,x1000_1,x8_1⟩ ⟨hJ1,hm1_0,hm1_1,hm1_2⟩
      obtain ⟨n1,rfl⟩:∃ m,n1=m + 1:=⟨n1 - 1,by have:0 < n1:=Nat.lt_of_le_of_lt (Nat.zero_le _) hm1_0; omega⟩
      replace hJ1:O7 c code b (n1 + 1) x1000_1 x8_1=(O7 c code b (((b.length:Int) - 0).toNat + 1) (⟨c.fFour,c.fAS4,c.fGR,c.fRestarting,c.fTime,c.fFamily,c.fForward,false,0⟩:B0) 0):=hJ1
      replace hm1_0:((b.length:Int) - x8_1).toNat < n1 + 1:=hm1_0
      replace hm1_1:x8_1 % 7=0:=hm1_1
      replace hm1_2:0 ≤ x8_1:=hm1_2
      refine H5 2 rfl (fun hl33=>?_)
      refine C6 ?_
      refine C6 ?_
      refine B8 ?_
      refine B4 rfl (C2 (p:=.sc (.int .i64 x8_1)) rfl rfl rfl rfl) ?_
      refine B4 rfl (C2 (p:=.sem (SL (eI .u8) b)) rfl rfl rfl rfl) ?_
      refine B4 rfl (L6 rfl rfl rfl Tryz.underlying22 (E3 rfl)) ?_
      refine B4 rfl (E6 (u1:=.int .i64 x8_1) (u2:=.int .i64 (b.length:Int)) (v:=.bool (decide ((x8_1:Int) < (b.length:Int)))) rfl rfl rfl rfl rfl (fun _=>rfl)) ?_
      refine D4 ?_
      refine F6 (b:=decide ((x8_1:Int) < (b.length:Int))) rfl (fun k34=>?_) (fun k34=>?_)
      ·skip
       refine F9 ?_
       refine N8 (ι:=B0) (p:=fun y_35=>((bif (((decide (((ix b x8_1):Int)=0)) && (decide (((ix b (IntKind.wrap .i64 (x8_1 + 1))):Int)=1))) && (decide (((ix b (IntKind.wrap .i64 (x8_1 + 2))):Int)=1))) && !x1000_1.fLL then (⟨x1000_1.fFour,x1000_1.fAS4,x1000_1.fGR,x1000_1.fRestarting,x1000_1.fTime,x1000_1.fFamily,x1000_1.fForward,true,(IntKind.wrap .i64 ((IntKind.wrap .i64 ((IntKind.wrap .i64 (65536 * (IntKind.wrap .i64 (ix b (IntKind.wrap .i64 (x8_1 + 4)))))) + (IntKind.wrap .i64 (256 * (IntKind.wrap .i64 (ix b (IntKind.wrap .i64 (x8_1 + 5)))))))) + (IntKind.wrap .i64 (ix b (IntKind.wrap .i64 (x8_1 + 6))))))⟩:B0) else x1000_1))=y_35) (S:=fun y_35=>St.of 184 [(0,.loc 1000 0),(1,.sc (.int .i64 code)),(2,.sem (SL (eI .u8) b)),(6,.sc (.bool false)),(8,.sc (.int .i64 x8_1)),(9,.sc (.int .i64 code))] [(1000,[.sc (.bool y_35.fFour),.sc (.int .i64 y_35.fAS4),.sc (.bool y_35.fGR),.sc (.bool y_35.fRestarting),.sc (.int .i64 y_35.fTime),.sc (.bool y_35.fFamily),.sc (.bool y_35.fForward),.sc (.bool y_35.fLL),.sc (.int .i64 y_35.fLLTime)])] []) ?_ (fun y_35 e35=>?_)
       ·skip
        refine H6 ?_
        refine C6 ?_
        refine B8 ?_
        refine B4 rfl (C2 (p:=.sem (SL (eI .u8) b)) rfl rfl rfl rfl) ?_
        refine B4 rfl (C2 (p:=.sc (.int .i64 x8_1)) rfl rfl rfl rfl) ?_
        refine B4 rfl (N6 (E:=(eI .u8)) (l:=b) (n:=x8_1) (ps:=[.sc (.int .u8 (ix b x8_1))]) rfl rfl rfl Tryz.underlying22 ty5 (E3 rfl) rfl (by first | omega | ((try simp only [z1,z2,z3,z4,z5,z6,z7,z8,z9,zA,zB,zC,zD,D2,C9,C4,C3,C5,B5,B6,B7,A7,A6,C0] at *); omega) | ((try simp only [z1,z2,z3,z4,z5,z6,z7,z8,z9,zA,B5,B6,B7,A7,A6,C0] at *); (try simp (disch:=omega) only [C8]); (try simp only [z1,z2,z3,z4,z5,z6,z7,z8,z9,zA,zB,zC,zD,D2,C9,C4,C3,C5,B5,B6,B7] at *); omega)) rfl) ?_
        refine B4 rfl (G4 (ps:=[.sc (.int .u8 (ix b x8_1))]) (p:=.sc (.int .u8 (ix b x8_1))) rfl rfl rfl ty5 rfl rfl rfl rfl rfl) ?_
        refine B4 rfl (E6 (u1:=.int .u8 (ix b x8_1)) (u2:=.int .u8 0) (v:=.bool (decide (((ix b x8_1):Int)=0))) rfl rfl rfl rfl rfl (fun _=>rfl)) ?_
        refine B4 rfl (C2 (p:=.sc (.bool (decide (((ix b x8_1):Int)=0)))) rfl rfl rfl rfl) ?_
        refine E0 (C:=decide (((ix b x8_1):Int)=0)) (p:=.sem (SL (eI .u8) b)) (G6 rfl rfl rfl rfl rfl) rfl rfl (fun g36=>C2 (p:=.sem (SL (eI .u8) b)) rfl rfl rfl rfl) ?_
        refine E0 (C:=decide (((ix b x8_1):Int)=0)) (p:=.sc (.int .i64 x8_1)) (G6 rfl rfl rfl rfl rfl) rfl rfl (fun g37=>C2 (p:=.sc (.int .i64 x8_1)) rfl rfl rfl rfl) ?_
        refine E0 (C:=decide (((ix b x8_1):Int)=0)) (p:=.sc (.int .i64 (IntKind.wrap .i64 (x8_1 + 1)))) (G6 rfl rfl rfl rfl rfl) rfl rfl (fun g38=>E6 (u1:=.int .i64 x8_1) (u2:=.int .i64 1) (v:=.int .i64 (IntKind.wrap .i64 (x8_1 + 1))) rfl rfl rfl (gt (p:=.sc (.int .i64 x8_1)) (q:=.sc undef) g38) rfl (fun _=>rfl)) ?_
        refine E0 (C:=decide (((ix b x8_1):Int)=0)) (p:=.sem (PT [.sc (.int .u8 (ix b (IntKind.wrap .i64 (x8_1 + 1))))])) (G6 rfl rfl rfl rfl rfl) rfl rfl (fun g39=>N6 (E:=(eI .u8)) (l:=b) (n:=(IntKind.wrap .i64 (x8_1 + 1))) (ps:=[.sc (.int .u8 (ix b (IntKind.wrap .i64 (x8_1 + 1))))]) rfl rfl rfl Tryz.underlying22 ty5 (by exact (E3 (by exact (gt (p:=.sem (SL (eI .u8) b)) (q:=.sc undef) g39)))) (gt (p:=.sc (.int .i64 (IntKind.wrap .i64 (x8_1 + 1)))) (q:=.sc undef) g39) (by first | omega | ((try simp only [z1,z2,z3,z4,z5,z6,z7,z8,z9,zA,zB,zC,zD,D2,C9,C4,C3,C5,B5,B6,B7,A7,A6,C0] at *); omega) | ((try simp only [z1,z2,z3,z4,z5,z6,z7,z8,z9,zA,B5,B6,B7,A7,A6,C0] at *); (try simp (disch:=omega) only [C8]); (try simp only [z1,z2,z3,z4,z5,z6,z7,z8,z9,zA,zB,zC,zD,D2,C9,C4,C3,C5,B5,B6,B7] at *); omega)) rfl) ?_
        refine E0 (C:=decide (((ix b x8_1):Int)=0)) (p:=.sc (.int .u8 (ix b (IntKind.wrap .i64 (x8_1 + 1))))) (G6 rfl rfl rfl rfl rfl) rfl rfl (fun g40=>G4 (ps:=[.sc (.int .u8 (ix b (IntKind.wrap .i64 (x8_1 + 1))))]) (p:=.sc (.int .u8 (ix b (IntKind.wrap .i64 (x8_1 + 1))))) rfl rfl rfl ty5 (gt (p:=.sem (PT [.sc (.int .u8 (ix b (IntKind.wrap .i64 (x8_1 + 1))))])) (q:=.sc undef) g40) rfl rfl rfl rfl) ?_
        refine E0 (C:=decide (((ix b x8_1):Int)=0)) (p:=.sc (.bool (decide (((ix b (IntKind.wrap .i64 (x8_1 + 1))):Int)=1)))) (G6 rfl rfl rfl rfl rfl) rfl rfl (fun g41=>E6 (u1:=.int .u8 (ix b (IntKind.wrap .i64 (x8_1 + 1)))) (u2:=.int .u8 1) (v:=.bool (decide (((ix b (IntKind.wrap .i64 (x8_1 + 1))):Int)=1))) rfl rfl rfl (gt (p:=.sc (.int .u8 (ix b (IntKind.wrap .i64 (x8_1 + 1))))) (q:=.sc undef) g41) rfl (fun _=>rfl)) ?_
        refine B4 rfl (J1 (b:=decide (((ix b x8_1):Int)=0)) (y:=decide (((ix b (IntKind.wrap .i64 (x8_1 + 1))):Int)=1)) rfl rfl rfl rfl rfl) ?_
        refine B4 rfl (C2 (p:=.sc (.bool ((decide (((ix b x8_1):Int)=0)) && (decide (((ix b (IntKind.wrap .i64 (x8_1 + 1))):Int)=1))))) rfl rfl rfl rfl) ?_
        refine E0 (C:=(decide (((ix b x8_1):Int)=0)) && (decide (((ix b (IntKind.wrap .i64 (x8_1 + 1))):Int)=1))) (p:=.sem (SL (eI .u8) b)) (G6 rfl rfl rfl rfl rfl) rfl rfl (fun g42=>C2 (p:=.sem (SL (eI .u8) b)) rfl rfl rfl rfl) ?_
        refine E0 (C:=(decide (((ix b x8_1):Int)=0)) && (decide (((ix b (IntKind.wrap .i64 (x8_1 + 1))):Int)=1))) (p:=.sc (.int .i64 x8_1)) (G6 rfl rfl rfl rfl rfl) rfl rfl (fun g43=>C2 (p:=.sc (.int .i64 x8_1)) rfl rfl rfl rfl) ?_
        refine E0 (C:=(decide (((ix b x8_1):Int)=0)) && (decide (((ix b (IntKind.wrap .i64 (x8_1 + 1))):Int)=1))) (p:=.sc (.int .i64 (IntKind.wrap .i64 (x8_1 + 2)))) (G6 rfl rfl rfl rfl rfl) rfl rfl (fun g44=>E6 (u1:=.int .i64 x8_1) (u2:=.int .i64 2) (v:=.int .i64 (IntKind.wrap .i64 (x8_1 + 2))) rfl rfl rfl (gt (p:=.sc (.int .i64 x8_1)) (q:=.sc undef) g44) rfl (fun _=>rfl)) ?_
        refine E0 (C:=(decide (((ix b x8_1):Int)=0)) && (decide (((ix b (IntKind.wrap .i64 (x8_1 + 1))):Int)=1))) (p:=.sem (PT [.sc (.int .u8 (ix b (IntKind.wrap .i64 (x8_1 + 2))))])) (G6 rfl rfl rfl rfl rfl) rfl rfl (fun g45=>N6 (E:=(eI .u8)) (l:=b) (n:=(IntKind.wrap .i64 (x8_1 + 2))) (ps:=[.sc (.int .u8 (ix b (IntKind.wrap .i64 (x8_1 + 2))))]) rfl rfl rfl Tryz.underlying22 ty5 (by exact (E3 (by exact (gt (p:=.sem (SL (eI .u8) b)) (q:=.sc undef) g45)))) (gt (p:=.sc (.int .i64 (IntKind.wrap .i64 (x8_1 + 2)))) (q:=.sc undef) g45) (by first | omega | ((try simp only [z1,z2,z3,z4,z5,z6,z7,z8,z9,zA,zB,zC,zD,D2,C9,C4,C3,C5,B5,B6,B7,A7,A6,C0] at *); omega) | ((try simp only [z1,z2,z3,z4,z5,z6,z7,z8,z9,zA,B5,B6,B7,A7,A6,C0] at *); (try simp (disch:=omega) only [C8]); (try simp only [z1,z2,z3,z4,z5,z6,z7,z8,z9,zA,zB,zC,zD,D2,C9,C4,C3,C5,B5,B6,B7] at *); omega)) rfl) ?_
        refine E0 (C:=(decide (((ix b x8_1):Int)=0)) && (decide (((ix b (IntKind.wrap .i64 (x8_1 + 1))):Int)=1))) (p:=.sc (.int .u8 (ix b (IntKind.wrap .i64 (x8_1 + 2))))) (G6 rfl rfl rfl rfl rfl) rfl rfl (fun g46=>G4 (ps:=[.sc (.int .u8 (ix b (IntKind.wrap .i64 (x8_1 + 2))))]) (p:=.sc (.int .u8 (ix b (IntKind.wrap .i64 (x8_1 + 2))))) rfl rfl rfl ty5 (gt (p:=.sem (PT [.sc (.int .u8 (ix b (IntKind.wrap .i64 (x8_1 + 2))))])) (q:=.sc undef) g46) rfl rfl rfl rfl) ?_
        refine E0 (C:=(decide (((ix b x8_1):Int)=0)) && (decide (((ix b (IntKind.wrap .i64 (x8_1 + 1))):Int)=1))) (p:=.sc (.bool (decide (((ix b (IntKind.wrap .i64 (x8_1 + 2))):Int)=1)))) (G6 rfl rfl rfl rfl rfl) rfl rfl (fun g47=>E6 (u1:=.int .u8 (ix b (IntKind.wrap .i64 (x8_1 + 2)))) (u2:=.int .u8 1) (v:=.bool (decide (((ix b (IntKind.wrap .i64 (x8_1 + 2))):Int)=1))) rfl rfl rfl (gt (p:=.sc (.int .u8 (ix b (IntKind.wrap .i64 (x8_1 + 2))))) (q:=.sc undef) g47) rfl (fun _=>rfl)) ?_
        refine B4 rfl (J1 (b:=(decide (((ix b x8_1):Int)=0)) && (decide (((ix b (IntKind.wrap .i64 (x8_1 + 1))):Int)=1))) (y:=decide (((ix b (IntKind.wrap .i64 (x8_1 + 2))):Int)=1)) rfl rfl rfl rfl rfl) ?_
        refine B4 rfl (C2 (p:=.sc (.bool (((decide (((ix b x8_1):Int)=0)) && (decide (((ix b (IntKind.wrap .i64 (x8_1 + 1))):Int)=1))) && (decide (((ix b (IntKind.wrap .i64 (x8_1 + 2))):Int)=1))))) rfl rfl rfl rfl) ?_
        refine E0 (C:=((decide (((ix b x8_1):Int)=0)) && (decide (((ix b (IntKind.wrap .i64 (x8_1 + 1))):Int)=1))) && (decide (((ix b (IntKind.wrap .i64 (x8_1 + 2))):Int)=1))) (p:=.loc 1000 0) (G6 rfl rfl rfl rfl rfl) rfl rfl (fun g48=>C2 (p:=.loc 1000 0) rfl rfl rfl rfl) ?_
        refine E0 (C:=((decide (((ix b x8_1):Int)=0)) && (decide (((ix b (IntKind.wrap .i64 (x8_1 + 1))):Int)=1))) && (decide (((ix b (IntKind.wrap .i64 (x8_1 + 2))):Int)=1))) (p:=.loc 1000 0) (G6 rfl rfl rfl rfl rfl) rfl rfl (fun g49=>H3 (s:=1000) (off:=0) rfl rfl rfl (gt (p:=.loc 1000 0) (q:=.sc undef) g49)) ?_
        refine E0 (C:=((decide (((ix b x8_1):Int)=0)) && (decide (((ix b (IntKind.wrap .i64 (x8_1 + 1))):Int)=1))) && (decide (((ix b (IntKind.wrap .i64 (x8_1 + 2))):Int)=1))) (p:=.loc 1000 7) (G6 rfl rfl rfl rfl rfl) rfl rfl (fun g50=>D3 (b:=1000) (k:=0) (m:=7) rfl rfl rfl W6 (gt (p:=.loc 1000 0) (q:=.sc undef) g50) rfl) ?_
        refine E0 (C:=((decide (((ix b x8_1):Int)=0)) && (decide (((ix b (IntKind.wrap .i64 (x8_1 + 1))):Int)=1))) && (decide (((ix b (IntKind.wrap .i64 (x8_1 + 2))):Int)=1))) (p:=.sc (.bool x1000_1.fLL)) (G6 rfl rfl rfl rfl rfl) rfl rfl (fun g51=>F4 (s:=1000) (off:=7) (ps:=[.sc (.bool x1000_1.fFour),.sc (.int .i64 x1000_1.fAS4),.sc (.bool x1000_1.fGR),.sc (.bool x1000_1.fRestarting),.sc (.int .i64 x1000_1.fTime),.sc (.bool x1000_1.fFamily),.sc (.bool x1000_1.fForward),.sc (.bool x1000_1.fLL),.sc (.int .i64 x1000_1.fLLTime)]) (p:=.sc (.bool x1000_1.fLL)) rfl rfl rfl ty4 (gt (p:=.loc 1000 7) (q:=.sc undef) g51) rfl rfl rfl rfl) ?_
        refine E0 (C:=((decide (((ix b x8_1):Int)=0)) && (decide (((ix b (IntKind.wrap .i64 (x8_1 + 1))):Int)=1))) && (decide (((ix b (IntKind.wrap .i64 (x8_1 + 2))):Int)=1))) (p:=.sc (.bool !x1000_1.fLL)) (G6 rfl rfl rfl rfl rfl) rfl rfl (fun g52=>X4 (u:=.bool x1000_1.fLL) (v:=.bool (!x1000_1.fLL)) rfl rfl rfl (gt (p:=.sc (.bool x1000_1.fLL)) (q:=.sc undef) g52) (fun _=>rfl)) ?_
        refine B4 rfl (J1 (b:=((decide (((ix b x8_1):Int)=0)) && (decide (((ix b (IntKind.wrap .i64 (x8_1 + 1))):Int)=1))) && (decide (((ix b (IntKind.wrap .i64 (x8_1 + 2))):Int)=1))) (y:=!x1000_1.fLL) rfl rfl rfl rfl rfl) ?_
        refine D4 ?_
        refine F6 (b:=(((decide (((ix b x8_1):Int)=0)) && (decide (((ix b (IntKind.wrap .i64 (x8_1 + 1))):Int)=1))) && (decide (((ix b (IntKind.wrap .i64 (x8_1 + 2))):Int)=1))) && !x1000_1.fLL) rfl (fun k53=>?_) (fun k53=>?_)
        ·skip
         refine Q5 { ds:=[some 156,some 157,some 158,some 159,some 160,some 161,some 162,some 163,some 164,some 165,some 166,some 167,some 168,some 169,some 170,some 171,some 172,some 173,some 174,some 175,some 176,some 177,some 178,some 179,some 180,some 181,none,some 182,some 183,none],p:=fun i=>[.loc 1000 0,.loc 1000 0,.sem (SL (eI .u8) b),.sc (.int .i64 x8_1),.sc (.int .i64 (IntKind.wrap .i64 (x8_1 + 4))),.sem (PT [.sc (.int .u8 (ix b (IntKind.wrap .i64 (x8_1 + 4))))]),.sc (.int .u8 (ix b (IntKind.wrap .i64 (x8_1 + 4)))),.sc (.int .i64 (IntKind.wrap .i64 (ix b (IntKind.wrap .i64 (x8_1 + 4))))),.sc (.int .i64 (IntKind.wrap .i64 (65536 * (IntKind.wrap .i64 (ix b (IntKind.wrap .i64 (x8_1 + 4))))))),.sem (SL (eI .u8) b),.sc (.int .i64 x8_1),.sc (.int .i64 (IntKind.wrap .i64 (x8_1 + 5))),.sem (PT [.sc (.int .u8 (ix b (IntKind.wrap .i64 (x8_1 + 5))))]),.sc (.int .u8 (ix b (IntKind.wrap .i64 (x8_1 + 5)))),.sc (.int .i64 (IntKind.wrap .i64 (ix b (IntKind.wrap .i64 (x8_1 + 5))))),.sc (.int .i64 (IntKind.wrap .i64 (256 * (IntKind.wrap .i64 (ix b (IntKind.wrap .i64 (x8_1 + 5))))))),.sc (.int .i64 (IntKind.wrap .i64 ((IntKind.wrap .i64 (65536 * (IntKind.wrap .i64 (ix b (IntKind.wrap .i64 (x8_1 + 4)))))) + (IntKind.wrap .i64 (256 * (IntKind.wrap .i64 (ix b (IntKind.wrap .i64 (x8_1 + 5))))))))),.sem (SL (eI .u8) b),.sc (.int .i64 x8_1),.sc (.int .i64 (IntKind.wrap .i64 (x8_1 + 6))),.sem (PT [.sc (.int .u8 (ix b (IntKind.wrap .i64 (x8_1 + 6))))]),.sc (.int .u8 (ix b (IntKind.wrap .i64 (x8_1 + 6)))),.sc (.int .i64 (IntKind.wrap .i64 (ix b (IntKind.wrap .i64 (x8_1 + 6))))),.sc (.int .i64 (IntKind.wrap .i64 ((IntKind.wrap .i64 ((IntKind.wrap .i64 (65536 * (IntKind.wrap .i64 (ix b (IntKind.wrap .i64 (x8_1 + 4)))))) + (IntKind.wrap .i64 (256 * (IntKind.wrap .i64 (ix b (IntKind.wrap .i64 (x8_1 + 5)))))))) + (IntKind.wrap .i64 (ix b (IntKind.wrap .i64 (x8_1 + 6))))))),.loc 1000 0,.loc 1000 7,.any,.loc 1000 0,.loc 1000 8,.any].getD i .any,al:=[],st:=[(26,1000,7,[.sc (.bool true)]),(29,1000,8,[.sc (.int .i64 (IntKind.wrap .i64 ((IntKind.wrap .i64 ((IntKind.wrap .i64 (65536 * (IntKind.wrap .i64 (ix b (IntKind.wrap .i64 (x8_1 + 4)))))) + (IntKind.wrap .i64 (256 * (IntKind.wrap .i64 (ix b (IntKind.wrap .i64 (x8_1 + 5)))))))) + (IntKind.wrap .i64 (ix b (IntKind.wrap .i64 (x8_1 + 6)))))))])] } rfl (by kernel_rfl) rfl rfl ?_ (fun bD hb=>?_)
         ·refine ⟨fun bD hc hi hd=>?_,fun bD hc hi hd=>?_,fun bD hc hi hd=>?_,fun bD hc hi hd=>?_,fun bD hc hi hd=>?_,fun bD hc hi hd=>?_,fun bD hc hi hd=>?_,fun bD hc hi hd=>?_,fun bD hc hi hd=>?_,fun bD hc hi hd=>?_,fun bD hc hi hd=>?_,fun bD hc hi hd=>?_,fun bD hc hi hd=>?_,fun bD hc hi hd=>?_,fun bD hc hi hd=>?_,fun bD hc hi hd=>?_,fun bD hc hi hd=>?_,fun bD hc hi hd=>?_,fun bD hc hi hd=>?_,fun bD hc hi hd=>?_,fun bD hc hi hd=>?_,fun bD hc hi hd=>?_,fun bD hc hi hd=>?_,fun bD hc hi hd=>?_,fun bD hc hi hd=>?_,fun bD hc hi hd=>?_,fun bD hc hi hd=>?_,fun bD hc hi hd=>?_,fun bD hc hi hd=>?_,fun bD hc hi hd=>?_,trivial⟩
          ·exact F3.putStep (i:=0) (q:=.loc 1000 0) rfl rfl rfl (C1 rfl (C2 (p:=.loc 1000 0) rfl rfl rfl rfl))
          ·exact F3.putStep (i:=1) (q:=.loc 1000 0) rfl rfl rfl (C1 rfl (C2 (p:=.loc 1000 0) rfl rfl rfl rfl))
          ·exact F3.putStep (i:=2) (q:=.sem (SL (eI .u8) b)) rfl rfl rfl (C1 rfl (C2 (p:=.sem (SL (eI .u8) b)) rfl rfl rfl rfl))
          ·exact F3.putStep (i:=3) (q:=.sc (.int .i64 x8_1)) rfl rfl rfl (C1 rfl (C2 (p:=.sc (.int .i64 x8_1)) rfl rfl rfl rfl))
          ·exact F3.putStep (i:=4) (q:=.sc (.int .i64 (IntKind.wrap .i64 (x8_1 + 4)))) rfl rfl rfl (C1 rfl (E6 (u1:=.int .i64 x8_1) (u2:=.int .i64 4) (v:=.int .i64 (IntKind.wrap .i64 (x8_1 + 4))) rfl rfl rfl (gt (p:=.sc (.int .i64 x8_1)) (q:=.any) (hd 3 (by decide))) rfl (fun _=>rfl)))
          ·exact F3.putStep (i:=5) (q:=.sem (PT [.sc (.int .u8 (ix b (IntKind.wrap .i64 (x8_1 + 4))))])) rfl rfl rfl (C1 rfl (N6 (E:=(eI .u8)) (l:=b) (n:=(IntKind.wrap .i64 (x8_1 + 4))) (ps:=[.sc (.int .u8 (ix b (IntKind.wrap .i64 (x8_1 + 4))))]) rfl rfl rfl Tryz.underlying22 ty5 (by exact (E3 (by exact (gt (p:=.sem (SL (eI .u8) b)) (q:=.any) (hd 2 (by decide)))))) (gt (p:=.sc (.int .i64 (IntKind.wrap .i64 (x8_1 + 4)))) (q:=.any) (hd 4 (by decide))) (by first | omega | ((try simp only [z1,z2,z3,z4,z5,z6,z7,z8,z9,zA,zB,zC,zD,D2,C9,C4,C3,C5,B5,B6,B7,A7,A6,C0] at *); omega) | ((try simp only [z1,z2,z3,z4,z5,z6,z7,z8,z9,zA,B5,B6,B7,A7,A6,C0] at *); (try simp (disch:=omega) only [C8]); (try simp only [z1,z2,z3,z4,z5,z6,z7,z8,z9,zA,zB,zC,zD,D2,C9,C4,C3,C5,B5,B6,B7] at *); omega)) rfl))
          ·exact F3.putStep (i:=6) (q:=.sc (.int .u8 (ix b (IntKind.wrap .i64 (x8_1 + 4))))) rfl rfl rfl (C1 rfl (G4 (ps:=[.sc (.int .u8 (ix b (IntKind.wrap .i64 (x8_1 + 4))))]) (p:=.sc (.int .u8 (ix b (IntKind.wrap .i64 (x8_1 + 4))))) rfl rfl rfl ty5 (gt (p:=.sem (PT [.sc (.int .u8 (ix b (IntKind.wrap .i64 (x8_1 + 4))))])) (q:=.any) (hd 5 (by decide))) rfl rfl rfl rfl))
          ·exact F3.putStep (i:=7) (q:=.sc (.int .i64 (IntKind.wrap .i64 (ix b (IntKind.wrap .i64 (x8_1 + 4)))))) rfl rfl rfl (C1 rfl (G8 (m:=(IntKind.wrap .i64 (ix b (IntKind.wrap .i64 (x8_1 + 4))))) rfl rfl rfl Tryz.underlying5 Tryz.underlying3 (gt (p:=.sc (.int .u8 (ix b (IntKind.wrap .i64 (x8_1 + 4))))) (q:=.any) (hd 6 (by decide))) rfl))
          ·exact F3.putStep (i:=8) (q:=.sc (.int .i64 (IntKind.wrap .i64 (65536 * (IntKind.wrap .i64 (ix b (IntKind.wrap .i64 (x8_1 + 4)))))))) rfl rfl rfl (C1 rfl (E6 (u1:=.int .i64 65536) (u2:=.int .i64 (IntKind.wrap .i64 (ix b (IntKind.wrap .i64 (x8_1 + 4))))) (v:=.int .i64 (IntKind.wrap .i64 (65536 * (IntKind.wrap .i64 (ix b (IntKind.wrap .i64 (x8_1 + 4))))))) rfl rfl rfl rfl (gt (p:=.sc (.int .i64 (IntKind.wrap .i64 (ix b (IntKind.wrap .i64 (x8_1 + 4)))))) (q:=.any) (hd 7 (by decide))) (fun _=>rfl)))
          ·exact F3.putStep (i:=9) (q:=.sem (SL (eI .u8) b)) rfl rfl rfl (C1 rfl (C2 (p:=.sem (SL (eI .u8) b)) rfl rfl rfl rfl))
          ·exact F3.putStep (i:=10) (q:=.sc (.int .i64 x8_1)) rfl rfl rfl (C1 rfl (C2 (p:=.sc (.int .i64 x8_1)) rfl rfl rfl rfl))
          ·exact F3.putStep (i:=11) (q:=.sc (.int .i64 (IntKind.wrap .i64 (x8_1 + 5)))) rfl rfl rfl (C1 rfl (E6 (u1:=.int .i64 x8_1) (u2:=.int .i64 5) (v:=.int .i64 (IntKind.wrap .i64 (x8_1 + 5))) rfl rfl rfl (gt (p:=.sc (.int .i64 x8_1)) (q:=.any) (hd 10 (by decide))) rfl (fun _=>rfl)))
          ·exact F3.putStep (i:=12) (q:=.sem (PT [.sc (.int .u8 (ix b (IntKind.wrap .i64 (x8_1 + 5))))])) rfl rfl rfl (C1 rfl (N6 (E:=(eI .u8)) (l:=b) (n:=(IntKind.wrap .i64 (x8_1 + 5))) (ps:=[.sc (.int .u8 (ix b (IntKind.wrap .i64 (x8_1 + 5))))]) rfl rfl rfl Tryz.underlying22 ty5 (by exact (E3 (by exact (gt (p:=.sem (SL (eI .u8) b)) (q:=.any) (hd 9 (by decide)))))) (gt (p:=.sc (.int .i64 (IntKind.wrap .i64 (x8_1 + 5)))) (q:=.any) (hd 11 (by decide))) (by first | omega | ((try simp only [z1,z2,z3,z4,z5,z6,z7,z8,z9,zA,zB,zC,zD,D2,C9,C4,C3,C5,B5,B6,B7,A7,A6,C0] at *); omega) | ((try simp only [z1,z2,z3,z4,z5,z6,z7,z8,z9,zA,B5,B6,B7,A7,A6,C0] at *); (try simp (disch:=omega) only [C8]); (try simp only [z1,z2,z3,z4,z5,z6,z7,z8,z9,zA,zB,zC,zD,D2,C9,C4,C3,C5,B5,B6,B7] at *); omega)) rfl))
          ·exact F3.putStep (i:=13) (q:=.sc (.int .u8 (ix b (IntKind.wrap .i64 (x8_1 + 5))))) rfl rfl rfl (C1 rfl (G4 (ps:=[.sc (.int .u8 (ix b (IntKind.wrap .i64 (x8_1 + 5))))]) (p:=.sc (.int .u8 (ix b (IntKind.wrap .i64 (x8_1 + 5))))) rfl rfl rfl ty5 (gt (p:=.sem (PT [.sc (.int .u8 (ix b (IntKind.wrap .i64 (x8_1 + 5))))])) (q:=.any) (hd 12 (by decide))) rfl rfl rfl rfl))
          ·exact F3.putStep (i:=14) (q:=.sc (.int .i64 (IntKind.wrap .i64 (ix b (IntKind.wrap .i64 (x8_1 + 5)))))) rfl rfl rfl (C1 rfl (G8 (m:=(IntKind.wrap .i64 (ix b (IntKind.wrap .i64 (x8_1 + 5))))) rfl rfl rfl Tryz.underlying5 Tryz.underlying3 (gt (p:=.sc (.int .u8 (ix b (IntKind.wrap .i64 (x8_1 + 5))))) (q:=.any) (hd 13 (by decide))) rfl))
          ·exact F3.putStep (i:=15) (q:=.sc (.int .i64 (IntKind.wrap .i64 (256 * (IntKind.wrap .i64 (ix b (IntKind.wrap .i64 (x8_1 + 5)))))))) rfl rfl rfl (C1 rfl (E6 (u1:=.int .i64 256) (u2:=.int .i64 (IntKind.wrap .i64 (ix b (IntKind.wrap .i64 (x8_1 + 5))))) (v:=.int .i64 (IntKind.wrap .i64 (256 * (IntKind.wrap .i64 (ix b (IntKind.wrap .i64 (x8_1 + 5))))))) rfl rfl rfl rfl (gt (p:=.sc (.int .i64 (IntKind.wrap .i64 (ix b (IntKind.wrap .i64 (x8_1 + 5)))))) (q:=.any) (hd 14 (by decide))) (fun _=>rfl)))
          ·exact F3.putStep (i:=16) (q:=.sc (.int .i64 (IntKind.wrap .i64 ((IntKind.wrap .i64 (65536 * (IntKind.wrap .i64 (ix b (IntKind.wrap .i64 (x8_1 + 4)))))) + (IntKind.wrap .i64 (256 * (IntKind.wrap .i64 (ix b (IntKind.wrap .i64 (x8_1 + 5)))))))))) rfl rfl rfl (C1 rfl (E6 (u1:=.int .i64 (IntKind.wrap .i64 (65536 * (IntKind.wrap .i64 (ix b (IntKind.wrap .i64 (x8_1 + 4))))))) (u2:=.int .i64 (IntKind.wrap .i64 (256 * (IntKind.wrap .i64 (ix b (IntKind.wrap .i64 (x8_1 + 5))))))) (v:=.int .i64 (IntKind.wrap .i64 ((IntKind.wrap .i64 (65536 * (IntKind.wrap .i64 (ix b (IntKind.wrap .i64 (x8_1 + 4)))))) + (IntKind.wrap .i64 (256 * (IntKind.wrap .i64 (ix b (IntKind.wrap .i64 (x8_1 + 5))))))))) rfl rfl rfl (gt (p:=.sc (.int .i64 (IntKind.wrap .i64 (65536 * (IntKind.wrap .i64 (ix b (IntKind.wrap .i64 (x8_1 + 4)))))))) (q:=.any) (hd 8 (by decide))) (gt (p:=.sc (.int .i64 (IntKind.wrap .i64 (256 * (IntKind.wrap .i64 (ix b (IntKind.wrap .i64 (x8_1 + 5)))))))) (q:=.any) (hd 15 (by decide))) (fun _=>rfl)))
          ·exact F3.putStep (i:=17) (q:=.sem (SL (eI .u8) b)) rfl rfl rfl (C1 rfl (C2 (p:=.sem (SL (eI .u8) b)) rfl rfl rfl rfl))
          ·exact F3.putStep (i:=18) (q:=.sc (.int .i64 x8_1)) rfl rfl rfl (C1 rfl (C2 (p:=.sc (.int .i64 x8_1)) rfl rfl rfl rfl))
          ·exact F3.putStep (i:=19) (q:=.sc (.int .i64 (IntKind.wrap .i64 (x8_1 + 6)))) rfl rfl rfl (C1 rfl (E6 (u1:=.int .i64 x8_1) (u2:=.int .i64 6) (v:=.int .i64 (IntKind.wrap .i64 (x8_1 + 6))) rfl rfl rfl (gt (p:=.sc (.int .i64 x8_1)) (q:=.any) (hd 18 (by decide))) rfl (fun _=>rfl)))
          ·exact F3.putStep (i:=20) (q:=.sem (PT [.sc (.int .u8 (ix b (IntKind.wrap .i64 (x8_1 + 6))))])) rfl rfl rfl (C1 rfl (N6 (E:=(eI .u8)) (l:=b) (n:=(IntKind.wrap .i64 (x8_1 + 6))) (ps:=[.sc (.int .u8 (ix b (IntKind.wrap .i64 (x8_1 + 6))))]) rfl rfl rfl Tryz.underlying22 ty5 (by exact (E3 (by exact (gt (p:=.sem (SL (eI .u8) b)) (q:=.any) (hd 17 (by decide)))))) (gt (p:=.sc (.int .i64 (IntKind.wrap .i64 (x8_1 + 6)))) (q:=.any) (hd 19 (by decide))) (by first | omega | ((try simp only [z1,z2,z3,z4,z5,z6,z7,z8,z9,zA,zB,zC,zD,D2,C9,C4,C3,C5,B5,B6,B7,A7,A6,C0] at *); omega) | ((try simp only [z1,z2,z3,z4,z5,z6,z7,z8,z9,zA,B5,B6,B7,A7,A6,C0] at *); (try simp (disch:=omega) only [C8]); (try simp only [z1,z2,z3,z4,z5,z6,z7,z8,z9,zA,zB,zC,zD,D2,C9,C4,C3,C5,B5,B6,B7] at *); omega)) rfl))
          ·exact F3.putStep (i:=21) (q:=.sc (.int .u8 (ix b (IntKind.wrap .i64 (x8_1 + 6))))) rfl rfl rfl (C1 rfl (G4 (ps:=[.sc (.int .u8 (ix b (IntKind.wrap .i64 (x8_1 + 6))))]) (p:=.sc (.int .u8 (ix b (IntKind.wrap .i64 (x8_1 + 6))))) rfl rfl rfl ty5 (gt (p:=.sem (PT [.sc (.int .u8 (ix b (IntKind.wrap .i64 (x8_1 + 6))))])) (q:=.any) (hd 20 (by decide))) rfl rfl rfl rfl))
          ·exact F3.putStep (i:=22) (q:=.sc (.int .i64 (IntKind.wrap .i64 (ix b (IntKind.wrap .i64 (x8_1 + 6)))))) rfl rfl rfl (C1 rfl (G8 (m:=(IntKind.wrap .i64 (ix b (IntKind.wrap .i64 (x8_1 + 6))))) rfl rfl rfl Tryz.underlying5 Tryz.underlying3 (gt (p:=.sc (.int .u8 (ix b (IntKind.wrap .i64 (x8_1 + 6))))) (q:=.any) (hd 21 (by decide))) rfl))
          ·exact F3.putStep (i:=23) (q:=.sc (.int .i64 (IntKind.wrap .i64 ((IntKind.wrap .i64 ((IntKind.wrap .i64 (65536 * (IntKind.wrap .i64 (ix b (IntKind.wrap .i64 (x8_1 + 4)))))) + (IntKind.wrap .i64 (256 * (IntKind.wrap .i64 (ix b (IntKind.wrap .i64 (x8_1 + 5)))))))) + (IntKind.wrap .i64 (ix b (IntKind.wrap .i64 (x8_1 + 6)))))))) rfl rfl rfl (C1 rfl (E6 (u1:=.int .i64 (IntKind.wrap .i64 ((IntKind.wrap .i64 (65536 * (IntKind.wrap .i64 (ix b (IntKind.wrap .i64 (x8_1 + 4)))))) + (IntKind.wrap .i64 (256 * (IntKind.wrap .i64 (ix b (IntKind.wrap .i64 (x8_1 + 5))))))))) (u2:=.int .i64 (IntKind.wrap .i64 (ix b (IntKind.wrap .i64 (x8_1 + 6))))) (v:=.int .i64 (IntKind.wrap .i64 ((IntKind.wrap .i64 ((IntKind.wrap .i64 (65536 * (IntKind.wrap .i64 (ix b (IntKind.wrap .i64 (x8_1 + 4)))))) + (IntKind.wrap .i64 (256 * (IntKind.wrap .i64 (ix b (IntKind.wrap .i64 (x8_1 + 5)))))))) + (IntKind.wrap .i64 (ix b (IntKind.wrap .i64 (x8_1 + 6))))))) rfl rfl rfl (gt (p:=.sc (.int .i64 (IntKind.wrap .i64 ((IntKind.wrap .i64 (65536 * (IntKind.wrap .i64 (ix b (IntKind.wrap .i64 (x8_1 + 4)))))) + (IntKind.wrap .i64 (256 * (IntKind.wrap .i64 (ix b (IntKind.wrap .i64 (x8_1 + 5)))))))))) (q:=.any) (hd 16 (by decide))) (gt (p:=.sc (.int .i64 (IntKind.wrap .i64 (ix b (IntKind.wrap .i64 (x8_1 + 6)))))) (q:=.any) (hd 22 (by decide))) (fun _=>rfl)))
          ·exact F3.putStep (i:=24) (q:=.loc 1000 0) rfl rfl rfl (C1 rfl (H3 (s:=1000) (off:=0) rfl rfl rfl (gt (p:=.loc 1000 0) (q:=.any) (hd 0 (by decide)))))
          ·exact F3.putStep (i:=25) (q:=.loc 1000 7) rfl rfl rfl (C1 rfl (D3 (b:=1000) (k:=0) (m:=7) rfl rfl rfl W6 (gt (p:=.loc 1000 0) (q:=.any) (hd 24 (by decide))) rfl))
          ·exact L5 (i:=26) (s:=1000) (off:=7) (ps0:=[.sc (.bool x1000_1.fFour),.sc (.int .i64 x1000_1.fAS4),.sc (.bool x1000_1.fGR),.sc (.bool x1000_1.fRestarting),.sc (.int .i64 x1000_1.fTime),.sc (.bool x1000_1.fFamily),.sc (.bool x1000_1.fForward),.sc (.bool x1000_1.fLL),.sc (.int .i64 x1000_1.fLLTime)]) (ps:=[.sc (.bool x1000_1.fFour),.sc (.int .i64 x1000_1.fAS4),.sc (.bool x1000_1.fGR),.sc (.bool x1000_1.fRestarting),.sc (.int .i64 x1000_1.fTime),.sc (.bool x1000_1.fFamily),.sc (.bool x1000_1.fForward),.sc (.bool x1000_1.fLL),.sc (.int .i64 x1000_1.fLLTime)]) (qs:=[.sc (.bool true)]) (p:=.sc (.bool true)) 0 hc hd rfl rfl rfl ty4 (gt (p:=.loc 1000 7) (q:=.any) (hd 25 (by decide))) rfl (by exact K3 (ps:=[.sc (.bool x1000_1.fFour),.sc (.int .i64 x1000_1.fAS4),.sc (.bool x1000_1.fGR),.sc (.bool x1000_1.fRestarting),.sc (.int .i64 x1000_1.fTime),.sc (.bool x1000_1.fFamily),.sc (.bool x1000_1.fForward),.sc (.bool x1000_1.fLL),.sc (.int .i64 x1000_1.fLLTime)]) rfl rfl) rfl rfl rfl rfl rfl rfl rfl hi rfl rfl (by kernel_rfl) (by kernel_rfl)
          ·exact F3.putStep (i:=27) (q:=.loc 1000 0) rfl rfl rfl (C1 rfl (H3 (s:=1000) (off:=0) rfl rfl rfl (gt (p:=.loc 1000 0) (q:=.any) (hd 1 (by decide)))))
          ·exact F3.putStep (i:=28) (q:=.loc 1000 8) rfl rfl rfl (C1 rfl (D3 (b:=1000) (k:=0) (m:=8) rfl rfl rfl S3 (gt (p:=.loc 1000 0) (q:=.any) (hd 27 (by decide))) rfl))
          ·exact L5 (i:=29) (s:=1000) (off:=8) (ps0:=[.sc (.bool x1000_1.fFour),.sc (.int .i64 x1000_1.fAS4),.sc (.bool x1000_1.fGR),.sc (.bool x1000_1.fRestarting),.sc (.int .i64 x1000_1.fTime),.sc (.bool x1000_1.fFamily),.sc (.bool x1000_1.fForward),.sc (.bool x1000_1.fLL),.sc (.int .i64 x1000_1.fLLTime)]) (ps:=[.sc (.bool x1000_1.fFour),.sc (.int .i64 x1000_1.fAS4),.sc (.bool x1000_1.fGR),.sc (.bool x1000_1.fRestarting),.sc (.int .i64 x1000_1.fTime),.sc (.bool x1000_1.fFamily),.sc (.bool x1000_1.fForward),.sc (.bool true),.sc (.int .i64 x1000_1.fLLTime)]) (qs:=[.sc (.int .i64 (IntKind.wrap .i64 ((IntKind.wrap .i64 ((IntKind.wrap .i64 (65536 * (IntKind.wrap .i64 (ix b (IntKind.wrap .i64 (x8_1 + 4)))))) + (IntKind.wrap .i64 (256 * (IntKind.wrap .i64 (ix b (IntKind.wrap .i64 (x8_1 + 5)))))))) + (IntKind.wrap .i64 (ix b (IntKind.wrap .i64 (x8_1 + 6)))))))]) (p:=.sc (.int .i64 (IntKind.wrap .i64 ((IntKind.wrap .i64 ((IntKind.wrap .i64 (65536 * (IntKind.wrap .i64 (ix b (IntKind.wrap .i64 (x8_1 + 4)))))) + (IntKind.wrap .i64 (256 * (IntKind.wrap .i64 (ix b (IntKind.wrap .i64 (x8_1 + 5)))))))) + (IntKind.wrap .i64 (ix b (IntKind.wrap .i64 (x8_1 + 6)))))))) 1 hc hd rfl rfl rfl ty3 (gt (p:=.loc 1000 8) (q:=.any) (hd 28 (by decide))) (gt (p:=.sc (.int .i64 (IntKind.wrap .i64 ((IntKind.wrap .i64 ((IntKind.wrap .i64 (65536 * (IntKind.wrap .i64 (ix b (IntKind.wrap .i64 (x8_1 + 4)))))) + (IntKind.wrap .i64 (256 * (IntKind.wrap .i64 (ix b (IntKind.wrap .i64 (x8_1 + 5)))))))) + (IntKind.wrap .i64 (ix b (IntKind.wrap .i64 (x8_1 + 6)))))))) (q:=.any) (hd 23 (by decide))) (by exact K3 (ps:=[.sc (.bool x1000_1.fFour),.sc (.int .i64 x1000_1.fAS4),.sc (.bool x1000_1.fGR),.sc (.bool x1000_1.fRestarting),.sc (.int .i64 x1000_1.fTime),.sc (.bool x1000_1.fFamily),.sc (.bool x1000_1.fForward),.sc (.bool x1000_1.fLL),.sc (.int .i64 x1000_1.fLLTime)]) rfl rfl) rfl rfl rfl rfl rfl rfl rfl hi rfl rfl (by kernel_rfl) (by kernel_rfl)
         obtain rfl:bD=fun _=>true:=funext hb
         exact ⟨(⟨x1000_1.fFour,x1000_1.fAS4,x1000_1.fGR,x1000_1.fRestarting,x1000_1.fTime,x1000_1.fFamily,x1000_1.fForward,true,(IntKind.wrap .i64 ((IntKind.wrap .i64 ((IntKind.wrap .i64 (65536 * (IntKind.wrap .i64 (ix b (IntKind.wrap .i64 (x8_1 + 4)))))) + (IntKind.wrap .i64 (256 * (IntKind.wrap .i64 (ix b (IntKind.wrap .i64 (x8_1 + 5)))))))) + (IntKind.wrap .i64 (ix b (IntKind.wrap .i64 (x8_1 + 6))))))⟩:B0),(bT k53 rfl),(G9 rfl ⟨⟨rfl,(.one (.rfl _))⟩,⟨⟨rfl,(.one (.rfl _))⟩,⟨⟨rfl,(.one (.rfl _))⟩,⟨⟨rfl,(.one (.rfl _))⟩,⟨⟨rfl,(.one (.rfl _))⟩,⟨⟨rfl,(.one (.rfl _))⟩,trivial⟩⟩⟩⟩⟩⟩ ⟨⟨[.sc (.bool x1000_1.fFour),.sc (.int .i64 x1000_1.fAS4),.sc (.bool x1000_1.fGR),.sc (.bool x1000_1.fRestarting),.sc (.int .i64 x1000_1.fTime),.sc (.bool x1000_1.fFamily),.sc (.bool x1000_1.fForward),.sc (.bool true),.sc (.int .i64 (IntKind.wrap .i64 ((IntKind.wrap .i64 ((IntKind.wrap .i64 (65536 * (IntKind.wrap .i64 (ix b (IntKind.wrap .i64 (x8_1 + 4)))))) + (IntKind.wrap .i64 (256 * (IntKind.wrap .i64 (ix b (IntKind.wrap .i64 (x8_1 + 5)))))))) + (IntKind.wrap .i64 (ix b (IntKind.wrap .i64 (x8_1 + 6)))))))],rfl,(.cons (wkE (f:=(fun z=>.sc (.bool z))) rfl) (.cons (wkE (f:=(fun z=>.sc (.int .i64 z))) rfl) (.cons (wkE (f:=(fun z=>.sc (.bool z))) rfl) (.cons (wkE (f:=(fun z=>.sc (.bool z))) rfl) (.cons (wkE (f:=(fun z=>.sc (.int .i64 z))) rfl) (.cons (wkE (f:=(fun z=>.sc (.bool z))) rfl) (.cons (wkE (f:=(fun z=>.sc (.bool z))) rfl) (.cons (wkE (f:=(fun z=>.sc (.bool z))) rfl) (.cons (wkE (f:=(fun z=>.sc (.int .i64 z))) rfl) .nil)))))))))⟩,trivial⟩ trivial)⟩
        ·skip
         refine F9 ?_
         exact ⟨x1000_1,(bF k53 rfl),(G9 rfl ⟨⟨rfl,(.one (.rfl _))⟩,⟨⟨rfl,(.one (.rfl _))⟩,⟨⟨rfl,(.one (.rfl _))⟩,⟨⟨rfl,(.one (.rfl _))⟩,⟨⟨rfl,(.one (.rfl _))⟩,⟨⟨rfl,(.one (.rfl _))⟩,trivial⟩⟩⟩⟩⟩⟩ ⟨⟨[.sc (.bool x1000_1.fFour),.sc (.int .i64 x1000_1.fAS4),.sc (.bool x1000_1.fGR),.sc (.bool x1000_1.fRestarting),.sc (.int .i64 x1000_1.fTime),.sc (.bool x1000_1.fFamily),.sc (.bool x1000_1.fForward),.sc (.bool x1000_1.fLL),.sc (.int .i64 x1000_1.fLLTime)],rfl,(.cons (.rfl _) (.cons (.rfl _) (.cons (.rfl _) (.cons (.rfl _) (.cons (.rfl _) (.cons (.rfl _) (.cons (.rfl _) (.cons (.rfl _) (.cons (.rfl _) .nil)))))))))⟩,trivial⟩ trivial)⟩
       ·skip
        refine H5 2 rfl (fun hl54=>?_)
        refine B8 ?_
        refine B4 rfl (C2 (p:=.sc (.int .i64 x8_1)) rfl rfl rfl rfl) ?_
        refine B4 rfl (E6 (u1:=.int .i64 x8_1) (u2:=.int .i64 7) (v:=.int .i64 (IntKind.wrap .i64 (x8_1 + 7))) rfl rfl rfl rfl rfl (fun _=>rfl)) ?_
        refine B4 rfl (C7 (p:=.sc (.int .i64 (IntKind.wrap .i64 (x8_1 + 7)))) rfl rfl rfl rfl) ?_
        refine D4 ?_
        exact ⟨(n1,y_35,(IntKind.wrap .i64 (x8_1 + 7))),(G9 rfl ⟨⟨rfl,(.one (.rfl _))⟩,⟨⟨rfl,(.one (.rfl _))⟩,⟨⟨rfl,(.one (.rfl _))⟩,⟨⟨rfl,(.one (.rfl _))⟩,⟨⟨rfl,(.one (.rfl _))⟩,⟨⟨rfl,(.one (.rfl _))⟩,trivial⟩⟩⟩⟩⟩⟩ ⟨⟨[.sc (.bool y_35.fFour),.sc (.int .i64 y_35.fAS4),.sc (.bool y_35.fGR),.sc (.bool y_35.fRestarting),.sc (.int .i64 y_35.fTime),.sc (.bool y_35.fFamily),.sc (.bool y_35.fForward),.sc (.bool y_35.fLL),.sc (.int .i64 y_35.fLLTime)],rfl,(.cons (.rfl _) (.cons (.rfl _) (.cons (.rfl _) (.cons (.rfl _) (.cons (.rfl _) (.cons (.rfl _) (.cons (.rfl _) (.cons (.rfl _) (.cons (.rfl _) .nil)))))))))⟩,trivial⟩ trivial),⟨Eq.trans (Eq.symm (bT k34 (mB e35 rfl))) hJ1,(by first | omega | ((try simp only [z1,z2,z3,z4,z5,z6,z7,z8,z9,zA,zB,zC,zD,D2,C9,C4,C3,C5,B5,B6,B7,A7,A6,C0] at *); omega) | ((try simp only [z1,z2,z3,z4,z5,z6,z7,z8,z9,zA,B5,B6,B7,A7,A6,C0] at *); (try simp (disch:=omega) only [C8]); (try simp only [z1,z2,z3,z4,z5,z6,z7,z8,z9,zA,zB,zC,zD,D2,C9,C4,C3,C5,B5,B6,B7] at *); omega)),(by first | omega | ((try simp only [z1,z2,z3,z4,z5,z6,z7,z8,z9,zA,zB,zC,zD,D2,C9,C4,C3,C5,B5,B6,B7,A7,A6,C0] at *); omega) | ((try simp only [z1,z2,z3,z4,z5,z6,z7,z8,z9,zA,B5,B6,B7,A7,A6,C0] at *); (try simp (disch:=omega) only [C8]); (try simp only [z1,z2,z3,z4,z5,z6,z7,z8,z9,zA,zB,zC,zD,D2,C9,C4,C3,C5,B5,B6,B7] at *); omega)),(by first | omega | ((try simp only [z1,z2,z3,z4,z5,z6,z7,z8,z9,zA,zB,zC,zD,D2,C9,C4,C3,C5,B5,B6,B7,A7,A6,C0] at *); omega) | ((try simp only [z1,z2,z3,z4,z5,z6,z7,z8,z9,zA,B5,B6,B7,A7,A6,C0] at *); (try simp (disch:=omega) only [C8]); (try simp only [z1,z2,z3,z4,z5,z6,z7,z8,z9,zA,zB,zC,zD,D2,C9,C4,C3,C5,B5,B6,B7] at *); omega))⟩,Nat.lt_succ_self _⟩
      ·skip
       refine S8 ?_
       exact ⟨(x1000_1,x8_1),hJ1.symm.trans (bF k34 rfl),(G9 rfl ⟨⟨rfl,(.one (.rfl _))⟩,⟨⟨rfl,(.one (.rfl _))⟩,⟨⟨rfl,(.one (.rfl _))⟩,⟨⟨rfl,(.one (.rfl _))⟩,⟨⟨rfl,(.one (.rfl _))⟩,⟨⟨rfl,(.one (.rfl _))⟩,trivial⟩⟩⟩⟩⟩⟩ ⟨⟨[.sc (.bool x1000_1.fFour),.sc (.int .i64 x1000_1.fAS4),.sc (.bool x1000_1.fGR),.sc (.bool x1000_1.fRestarting),.sc (.int .i64 x1000_1.fTime),.sc (.bool x1000_1.fFamily),.sc (.bool x1000_1.fForward),.sc (.bool x1000_1.fLL),.sc (.int .i64 x1000_1.fLLTime)],rfl,(.cons (.rfl _) (.cons (.rfl _) (.cons (.rfl _) (.cons (.rfl _) (.cons (.rfl _) (.cons (.rfl _) (.cons (.rfl _) (.cons (.rfl _) (.cons (.rfl _) .nil)))))))))⟩,trivial⟩ trivial)⟩
     ·skip
      refine H5 2 rfl (fun hl55=>?_)
      refine C6 ?_
      refine B8 ?_
      refine B4 rfl (C7 (p:=.sc (.bool true)) rfl rfl rfl rfl) ?_
      refine D4 ?_
      refine G2 ?_
      exact F7 (F:=(fun (z:Bool × B0)=>⟨[(1000,[.sc (.bool z.2.fFour),.sc (.int .i64 z.2.fAS4),.sc (.bool z.2.fGR),.sc (.bool z.2.fRestarting),.sc (.int .i64 z.2.fTime),.sc (.bool z.2.fFamily),.sc (.bool z.2.fForward),.sc (.bool z.2.fLL),.sc (.int .i64 z.2.fLLTime)])],[],.sc (.bool z.1)⟩)) (z:=(H1 c code b)) (v:=(true,x_1.1)) (bF k2 (bF k4 (bT k30 (bF k31 (mB e32 rfl))))) rfl (.one (.tmp 6 (.sc (.bool true)) rfl) (.one (.rfl _)) rfl) ⟨⟨[.sc (.bool x_1.1.fFour),.sc (.int .i64 x_1.1.fAS4),.sc (.bool x_1.1.fGR),.sc (.bool x_1.1.fRestarting),.sc (.int .i64 x_1.1.fTime),.sc (.bool x_1.1.fFamily),.sc (.bool x_1.1.fForward),.sc (.bool x_1.1.fLL),.sc (.int .i64 x_1.1.fLLTime)],rfl,(.cons (.rfl _) (.cons (.rfl _) (.cons (.rfl _) (.cons (.rfl _) (.cons (.rfl _) (.cons (.rfl _) (.cons (.rfl _) (.cons (.rfl _) (.cons (.rfl _) .nil)))))))))⟩,trivial⟩ trivial
   ·skip
    refine F9 ?_
    refine C6 ?_
    refine B8 ?_
    refine B4 rfl (C7 (p:=.sc (.bool true)) rfl rfl rfl rfl) ?_
    refine D4 ?_
    refine G2 ?_
    exact F7 (F:=(fun (z:Bool × B0)=>⟨[(1000,[.sc (.bool z.2.fFour),.sc (.int .i64 z.2.fAS4),.sc (.bool z.2.fGR),.sc (.bool z.2.fRestarting),.sc (.int .i64 z.2.fTime),.sc (.bool z.2.fFamily),.sc (.bool z.2.fForward),.sc (.bool z.2.fLL),.sc (.int .i64 z.2.fLLTime)])],[],.sc (.bool z.1)⟩)) (z:=(H1 c code b)) (v:=(true,c)) (bF k2 (bF k4 (bF k30 rfl))) rfl (.one (.tmp 6 (.sc (.bool true)) rfl) (.one (.rfl _)) rfl) ⟨⟨(B0.cells c),rfl,(.cons (.rfl _) (.cons (.rfl _) (.cons (.rfl _) (.cons (.rfl _) (.cons (.rfl _) (.cons (.rfl _) (.cons (.rfl _) (.cons (.rfl _) (.cons (.rfl _) .nil)))))))))⟩,trivial⟩ trivial
def K8 (b:List Int) (x4_0:B0) (x8_0:Int):Nat → B0 → Int → (B0 × Bool) ⊕ (B0 × Int)
 | 0,_,_=>Sum.inr default
 | n1 + 1,x4_1,x12_1 =>
  (bif decide ((x12_1:Int) < (((B9 (ix ((B9 b).2.1) x8_0)).1).length:Int)) then
   (bif !((H1 x4_1 (ix ((B9 (ix ((B9 b).2.1) x8_0)).1) x12_1) (ix ((B9 (ix ((B9 b).2.1) x8_0)).2.1) x12_1)).1) then
    Sum.inl ((⟨false,0,false,false,0,false,false,false,0⟩:B0),false)
   else
    K8 b x4_0 x8_0 n1 ((H1 x4_1 (ix ((B9 (ix ((B9 b).2.1) x8_0)).1) x12_1) (ix ((B9 (ix ((B9 b).2.1) x8_0)).2.1) x12_1)).2) (IntKind.wrap .i64 (x12_1 + 1)))
  else
   Sum.inr (x4_1,x12_1))
def K9 (b:List Int):Nat → B0 → Int → (B0 × Bool) ⊕ (B0 × Int)
 | 0,_,_=>Sum.inr default
 | n0 + 1,x4_0,x8_0 =>
  (bif decide ((x8_0:Int) < (((B9 b).1).length:Int)) then
   (bif (!(decide (((ix ((B9 b).1) x8_0):Int)=2))) || (!((B9 (ix ((B9 b).2.1) x8_0)).2.2)) then
    Sum.inl ((⟨false,0,false,false,0,false,false,false,0⟩:B0),false)
   else
    (Sum.elim (fun z=>Sum.inl z) (fun (x_1:B0 × Int) =>
     K9 b n0 x_1.1 (IntKind.wrap .i64 (x8_0 + 1))) (K8 b x4_0 x8_0 (((((B9 (ix ((B9 b).2.1) x8_0)).1).length:Int) - 0).toNat + 1) x4_0 0)))
  else
   Sum.inr (x4_0,x8_0))
def N0 (b:List Int):B0 × Bool:=
 (bif !((B9 b).2.2) then
  ((⟨false,0,false,false,0,false,false,false,0⟩:B0),false)
 else
  (Sum.elim (fun z=>z) (fun (x_0:B0 × Int) =>
   (x_0.1,true)) (K9 b (((((B9 b).1).length:Int) - 0).toNat + 1) (⟨false,0,false,false,0,false,false,false,0⟩:B0) 0)))
set_option maxRecDepth 100000 in
set_option maxHeartbeats 4000000 in
theorem A0q (b:List Int) (hb:b.length ≤ 1000000000000) (ok_b:gdL (okI .u8) b):PG Tryz.prog 23 [] [] [.sem (SL (eI .u8) b)] (fun _:Unit=>True) (fun _=>(fun (z:B0 × Bool)=>⟨[],[],.tup [.agg (B0.cells z.1),.sc (.bool z.2)]⟩) (N0 b)):=by
 refine M4 (N:=65) (l:=[.cell 2 29,.tmp 3]) Tryz.func23 rfl rfl rfl (Nat.le_of_ble_eq_true rfl) fun w0 i0 F βs=>?_
 refine H5 0 rfl (fun hl1=>?_)
 refine C6 ?_
 refine B8 ?_
 refine B4 rfl (L2 (s:=2) (z:=A7j) (qs:=Q2) rfl rfl rfl rfl z29 rfl rfl) ?_
 refine B4 rfl (C7 (p:=.sc (.bool false)) rfl rfl rfl rfl) ?_
 refine D4 ?_
 refine C6 ?_
 refine B8 ?_
 refine B4 rfl (L2 (s:=4) (z:=A7j) (qs:=Q2) rfl rfl rfl rfl z29 rfl rfl) ?_
 refine D4 ?_
 refine C6 ?_
 refine B8 ?_
 refine B4 rfl (C2 (p:=.sem (SL (eI .u8) b)) rfl rfl rfl rfl) ?_
 refine B4 rfl (I1 (fn:=Tryz.f38) (xs:=[.tmp 14]) (args:=[.sem (SL (eI .u8) b)]) (r:=.tup [.sem (SL (eI .i64) ((B9 b).1)),.sem (SL (eL (eI .u8)) ((B9 b).2.1)),.sc (.bool ((B9 b).2.2))]) rfl rfl rfl Tryz.func38 rfl rfl rfl rfl rfl (A1k b (by first | omega | exact Nat.le_trans (U1 _ _) (by assumption)) ok_b)) ?_
 refine B4 rfl (C2 (p:=.tup [.sem (SL (eI .i64) ((B9 b).1)),.sem (SL (eL (eI .u8)) ((B9 b).2.1)),.sc (.bool ((B9 b).2.2))]) rfl rfl rfl rfl) ?_
 refine B4 rfl (I2 (ps:=[.sem (SL (eI .i64) ((B9 b).1)),.sem (SL (eL (eI .u8)) ((B9 b).2.1)),.sc (.bool ((B9 b).2.2))]) (p:=.sem (SL (eI .i64) ((B9 b).1))) rfl rfl rfl rfl rfl) ?_
 refine B4 rfl (I2 (ps:=[.sem (SL (eI .i64) ((B9 b).1)),.sem (SL (eL (eI .u8)) ((B9 b).2.1)),.sc (.bool ((B9 b).2.2))]) (p:=.sem (SL (eL (eI .u8)) ((B9 b).2.1))) rfl rfl rfl rfl rfl) ?_
 refine B4 rfl (I2 (ps:=[.sem (SL (eI .i64) ((B9 b).1)),.sem (SL (eL (eI .u8)) ((B9 b).2.1)),.sc (.bool ((B9 b).2.2))]) (p:=.sc (.bool ((B9 b).2.2))) rfl rfl rfl rfl rfl) ?_
 refine B4 rfl (C7 (p:=.sem (SL (eI .i64) ((B9 b).1))) rfl rfl rfl rfl) ?_
 refine B4 rfl (C7 (p:=.sem (SL (eL (eI .u8)) ((B9 b).2.1))) rfl rfl rfl rfl) ?_
 refine B4 rfl (C7 (p:=.sc (.bool ((B9 b).2.2))) rfl rfl rfl rfl) ?_
 refine D4 ?_
 refine C6 ?_
 refine C6 ?_
 refine B8 ?_
 refine B4 rfl (C2 (p:=.sc (.bool ((B9 b).2.2))) rfl rfl rfl rfl) ?_
 refine B4 rfl (X4 (u:=.bool ((B9 b).2.2)) (v:=.bool (!((B9 b).2.2))) rfl rfl rfl rfl (fun _=>rfl)) ?_
 refine D4 ?_
 refine F6 (b:=!((B9 b).2.2)) rfl (fun k2=>?_) (fun k2=>?_)
 ·skip
  refine C6 ?_
  refine B8 ?_
  refine B4 rfl (M7 (parts:=[]) (pps:=[]) (qs:=Q2) rfl rfl rfl A6o rfl rfl (by kernel_rfl)) ?_
  refine B4 rfl (G5 (s:=2) (off:=0) (ps:=Q2) (p:=.agg Q2) (qs:=Q2) rfl rfl X9 rfl rfl rfl rfl rfl rfl rfl) ?_
  refine B4 rfl (C7 (p:=.sc (.bool false)) rfl rfl rfl rfl) ?_
  refine D4 ?_
  refine G2 ?_
  exact F7 (F:=(fun (z:B0 × Bool)=>⟨[],[],.tup [.agg (B0.cells z.1),.sc (.bool z.2)]⟩)) (z:=(N0 b)) (v:=((⟨false,0,false,false,0,false,false,false,0⟩:B0),false)) (bT k2 rfl) rfl (.two (.cell 2 29 2 9 true Q2 (.agg Q2) rfl rfl X9 rfl rfl rfl) (.one (.rfl _)) rfl (.tmp 3 (.sc (.bool false)) rfl) (.one (.rfl _)) rfl) trivial trivial
 ·skip
  refine F9 ?_
  refine C6 ?_
  refine C6 ?_
  refine B8 ?_
  refine B4 rfl (C7 (p:=.sc (.int .i64 0)) rfl rfl rfl rfl) ?_
  refine D4 ?_
  refine V4 (ι:=B0 × Int) (p:=fun x_0=>(K9 b (((((B9 b).1).length:Int) - 0).toNat + 1) (⟨false,0,false,false,0,false,false,false,0⟩:B0) 0)=.inr x_0) (S:=fun x_0=>St.of 65 [(0,.sem (SL (eI .u8) b)),(2,.loc 2 0),(3,.sc (.bool false)),(4,.loc 4 0),(5,.sem (SL (eI .i64) ((B9 b).1))),(6,.sem (SL (eL (eI .u8)) ((B9 b).2.1))),(7,.sc (.bool ((B9 b).2.2))),(8,.sc (.int .i64 x_0.2))] [(2,Q2),(4,(B0.cells x_0.1))] []) (by first | exact V3 | exact X8 | exact Y3 | exact Y0) ?_ (fun x_0 e3=>?_)
  ·skip
   refine H6 ?_
   refine R3 (ι:=Nat × B0 × Int) (S:=fun i=>St.of 65 [(0,.sem (SL (eI .u8) b)),(2,.loc 2 0),(3,.sc (.bool false)),(4,.loc 4 0),(5,.sem (SL (eI .i64) ((B9 b).1))),(6,.sem (SL (eL (eI .u8)) ((B9 b).2.1))),(7,.sc (.bool ((B9 b).2.2))),(8,.sc (.int .i64 i.2.2))] [(2,Q2),(4,[.sc (.bool i.2.1.fFour),.sc (.int .i64 i.2.1.fAS4),.sc (.bool i.2.1.fGR),.sc (.bool i.2.1.fRestarting),.sc (.int .i64 i.2.1.fTime),.sc (.bool i.2.1.fFamily),.sc (.bool i.2.1.fForward),.sc (.bool i.2.1.fLL),.sc (.int .i64 i.2.1.fLLTime)])] []) (J:=fun i=>K9 b i.1 i.2.1 i.2.2=(K9 b (((((B9 b).1).length:Int) - 0).toNat + 1) (⟨false,0,false,false,0,false,false,false,0⟩:B0) 0) ∧ (((((B9 b).1).length:Int) - i.2.2).toNat < i.1) ∧ (0 ≤ i.2.2)) (μ:=fun i=>i.1) (i₀:=((((((B9 b).1).length:Int) - 0).toNat + 1),(⟨false,0,false,false,0,false,false,false,0⟩:B0),0)) (G9 rfl ⟨⟨rfl,(.one (.rfl _))⟩,⟨⟨rfl,(.one (.rfl _))⟩,⟨⟨rfl,(.one (.rfl _))⟩,⟨⟨rfl,(.one (.rfl _))⟩,⟨⟨rfl,(.one (.rfl _))⟩,⟨⟨rfl,(.one (.rfl _))⟩,⟨⟨rfl,(.one (.rfl _))⟩,⟨⟨rfl,(.one (.rfl _))⟩,trivial⟩⟩⟩⟩⟩⟩⟩⟩ ⟨⟨Q2,rfl,(.cons (.rfl _) (.cons (.rfl _) (.cons (.rfl _) (.cons (.rfl _) (.cons (.rfl _) (.cons (.rfl _) (.cons (.rfl _) (.cons (.rfl _) (.cons (.rfl _) .nil)))))))))⟩,⟨⟨Q2,rfl,(.cons (wkE (f:=(fun z=>.sc (.bool z))) rfl) (.cons (wkE (f:=(fun z=>.sc (.int .i64 z))) rfl) (.cons (wkE (f:=(fun z=>.sc (.bool z))) rfl) (.cons (wkE (f:=(fun z=>.sc (.bool z))) rfl) (.cons (wkE (f:=(fun z=>.sc (.int .i64 z))) rfl) (.cons (wkE (f:=(fun z=>.sc (.bool z))) rfl) (.cons (wkE (f:=(fun z=>.sc (.bool z))) rfl) (.cons (wkE (f:=(fun z=>.sc (.bool z))) rfl) (.cons (wkE (f:=(fun z=>.sc (.int .i64 z))) rfl) .nil)))))))))⟩,trivial⟩⟩ trivial) ⟨rfl,(by first | omega | ((try simp only [z1,z2,z3,z4,z5,z6,z7,z8,z9,zA,zB,zC,zD,D2,C9,C4,C3,C5,B5,B6,B7,A7,A6,C0] at *); omega) | ((try simp only [z1,z2,z3,z4,z5,z6,z7,z8,z9,zA,B5,B6,B7,A7,A6,C0] at *); (try simp (disch:=omega) only [C8]); (try simp only [z1,z2,z3,z4,z5,z6,z7,z8,z9,zA,zB,zC,zD,D2,C9,C4,C3,C5,B5,B6,B7] at *); omega)),(by first | omega | ((try simp only [z1,z2,z3,z4,z5,z6,z7,z8,z9,zA,zB,zC,zD,D2,C9,C4,C3,C5,B5,B6,B7,A7,A6,C0] at *); omega) | ((try simp only [z1,z2,z3,z4,z5,z6,z7,z8,z9,zA,B5,B6,B7,A7,A6,C0] at *); (try simp (disch:=omega) only [C8]); (try simp only [z1,z2,z3,z4,z5,z6,z7,z8,z9,zA,zB,zC,zD,D2,C9,C4,C3,C5,B5,B6,B7] at *); omega))⟩ ?_
   rintro ⟨n0,x4_0,x8_0⟩ ⟨hJ0,hm0_0,hm0_1⟩
   obtain ⟨n0,rfl⟩:∃ m,n0=m + 1:=⟨n0 - 1,by have:0 < n0:=Nat.lt_of_le_of_lt (Nat.zero_le _) hm0_0; omega⟩
   replace hJ0:K9 b (n0 + 1) x4_0 x8_0=(K9 b (((((B9 b).1).length:Int) - 0).toNat + 1) (⟨false,0,false,false,0,false,false,false,0⟩:B0) 0):=hJ0
   replace hm0_0:((((B9 b).1).length:Int) - x8_0).toNat < n0 + 1:=hm0_0
   replace hm0_1:0 ≤ x8_0:=hm0_1
   refine H5 0 rfl (fun hl4=>?_)
   refine H5 5 rfl (fun hl5=>?_)
   refine H5 6 rfl (fun hl6=>?_)
   refine C6 ?_
   refine C6 ?_
   refine B8 ?_
   refine B4 rfl (C2 (p:=.sc (.int .i64 x8_0)) rfl rfl rfl rfl) ?_
   refine B4 rfl (C2 (p:=.sem (SL (eI .i64) ((B9 b).1))) rfl rfl rfl rfl) ?_
   refine B4 rfl (L6 rfl rfl rfl Tryz.underlying82 (E3 rfl)) ?_
   refine B4 rfl (E6 (u1:=.int .i64 x8_0) (u2:=.int .i64 (((B9 b).1).length:Int)) (v:=.bool (decide ((x8_0:Int) < (((B9 b).1).length:Int)))) rfl rfl rfl rfl rfl (fun _=>rfl)) ?_
   refine D4 ?_
   refine F6 (b:=decide ((x8_0:Int) < (((B9 b).1).length:Int))) rfl (fun k7=>?_) (fun k7=>?_)
   ·skip
    refine F9 ?_
    refine C6 ?_
    refine H6 ?_
    refine C6 ?_
    refine B8 ?_
    refine B4 rfl (C2 (p:=.sem (SL (eL (eI .u8)) ((B9 b).2.1))) rfl rfl rfl rfl) ?_
    refine B4 rfl (C2 (p:=.sc (.int .i64 x8_0)) rfl rfl rfl rfl) ?_
    refine B4 rfl (N6 (E:=(eL (eI .u8))) (l:=(B9 b).2.1) (n:=x8_0) (ps:=[.sem (SL (eI .u8) (ix ((B9 b).2.1) x8_0))]) rfl rfl rfl Tryz.underlying83 A3N (E3 rfl) rfl (by first | omega | ((try simp only [z1,z2,z3,z4,z5,z6,z7,z8,z9,zA,zB,zC,zD,D2,C9,C4,C3,C5,B5,B6,B7,A7,A6,C0] at *); omega) | ((try simp only [z1,z2,z3,z4,z5,z6,z7,z8,z9,zA,B5,B6,B7,A7,A6,C0] at *); (try simp (disch:=omega) only [C8]); (try simp only [z1,z2,z3,z4,z5,z6,z7,z8,z9,zA,zB,zC,zD,D2,C9,C4,C3,C5,B5,B6,B7] at *); omega)) rfl) ?_
    refine B4 rfl (G4 (ps:=[.sem (SL (eI .u8) (ix ((B9 b).2.1) x8_0))]) (p:=.sem (SL (eI .u8) (ix ((B9 b).2.1) x8_0))) rfl rfl rfl A3N rfl rfl rfl rfl rfl) ?_
    refine B4 rfl (I1 (fn:=Tryz.f38) (xs:=[.tmp 32]) (args:=[.sem (SL (eI .u8) (ix ((B9 b).2.1) x8_0))]) (r:=.tup [.sem (SL (eI .i64) ((B9 (ix ((B9 b).2.1) x8_0)).1)),.sem (SL (eL (eI .u8)) ((B9 (ix ((B9 b).2.1) x8_0)).2.1)),.sc (.bool ((B9 (ix ((B9 b).2.1) x8_0)).2.2))]) rfl rfl rfl Tryz.func38 rfl rfl rfl rfl rfl (A1k (ix ((B9 b).2.1) x8_0) (by first | omega | exact Nat.le_trans (U1 _ _) (by assumption)) (A8p (A4E b ok_b) x8_0))) ?_
    refine B4 rfl (C2 (p:=.tup [.sem (SL (eI .i64) ((B9 (ix ((B9 b).2.1) x8_0)).1)),.sem (SL (eL (eI .u8)) ((B9 (ix ((B9 b).2.1) x8_0)).2.1)),.sc (.bool ((B9 (ix ((B9 b).2.1) x8_0)).2.2))]) rfl rfl rfl rfl) ?_
    refine B4 rfl (I2 (ps:=[.sem (SL (eI .i64) ((B9 (ix ((B9 b).2.1) x8_0)).1)),.sem (SL (eL (eI .u8)) ((B9 (ix ((B9 b).2.1) x8_0)).2.1)),.sc (.bool ((B9 (ix ((B9 b).2.1) x8_0)).2.2))]) (p:=.sem (SL (eI .i64) ((B9 (ix ((B9 b).2.1) x8_0)).1))) rfl rfl rfl rfl rfl) ?_
    refine B4 rfl (I2 (ps:=[.sem (SL (eI .i64) ((B9 (ix ((B9 b).2.1) x8_0)).1)),.sem (SL (eL (eI .u8)) ((B9 (ix ((B9 b).2.1) x8_0)).2.1)),.sc (.bool ((B9 (ix ((B9 b).2.1) x8_0)).2.2))]) (p:=.sem (SL (eL (eI .u8)) ((B9 (ix ((B9 b).2.1) x8_0)).2.1))) rfl rfl rfl rfl rfl) ?_
    refine B4 rfl (I2 (ps:=[.sem (SL (eI .i64) ((B9 (ix ((B9 b).2.1) x8_0)).1)),.sem (SL (eL (eI .u8)) ((B9 (ix ((B9 b).2.1) x8_0)).2.1)),.sc (.bool ((B9 (ix ((B9 b).2.1) x8_0)).2.2))]) (p:=.sc (.bool ((B9 (ix ((B9 b).2.1) x8_0)).2.2))) rfl rfl rfl rfl rfl) ?_
    refine B4 rfl (C7 (p:=.sem (SL (eI .i64) ((B9 (ix ((B9 b).2.1) x8_0)).1))) rfl rfl rfl rfl) ?_
    refine B4 rfl (C7 (p:=.sem (SL (eL (eI .u8)) ((B9 (ix ((B9 b).2.1) x8_0)).2.1))) rfl rfl rfl rfl) ?_
    refine B4 rfl (C7 (p:=.sc (.bool ((B9 (ix ((B9 b).2.1) x8_0)).2.2))) rfl rfl rfl rfl) ?_
    refine D4 ?_
    refine C6 ?_
    refine C6 ?_
    refine B8 ?_
    refine B4 rfl (C2 (p:=.sem (SL (eI .i64) ((B9 b).1))) rfl rfl rfl rfl) ?_
    refine B4 rfl (C2 (p:=.sc (.int .i64 x8_0)) rfl rfl rfl rfl) ?_
    refine B4 rfl (N6 (E:=(eI .i64)) (l:=(B9 b).1) (n:=x8_0) (ps:=[.sc (.int .i64 (ix ((B9 b).1) x8_0))]) rfl rfl rfl Tryz.underlying82 ty3 (E3 rfl) rfl (by first | omega | ((try simp only [z1,z2,z3,z4,z5,z6,z7,z8,z9,zA,zB,zC,zD,D2,C9,C4,C3,C5,B5,B6,B7,A7,A6,C0] at *); omega) | ((try simp only [z1,z2,z3,z4,z5,z6,z7,z8,z9,zA,B5,B6,B7,A7,A6,C0] at *); (try simp (disch:=omega) only [C8]); (try simp only [z1,z2,z3,z4,z5,z6,z7,z8,z9,zA,zB,zC,zD,D2,C9,C4,C3,C5,B5,B6,B7] at *); omega)) rfl) ?_
    refine B4 rfl (G4 (ps:=[.sc (.int .i64 (ix ((B9 b).1) x8_0))]) (p:=.sc (.int .i64 (ix ((B9 b).1) x8_0))) rfl rfl rfl ty3 rfl rfl rfl rfl rfl) ?_
    refine B4 rfl (E6 (u1:=.int .i64 (ix ((B9 b).1) x8_0)) (u2:=.int .i64 2) (v:=.bool (!(decide (((ix ((B9 b).1) x8_0):Int)=2)))) rfl rfl rfl rfl rfl (fun _=>rfl)) ?_
    refine B4 rfl (C2 (p:=.sc (.bool (!(decide (((ix ((B9 b).1) x8_0):Int)=2))))) rfl rfl rfl rfl) ?_
    refine E0 (C:=decide (((ix ((B9 b).1) x8_0):Int)=2)) (p:=.sc (.bool ((B9 (ix ((B9 b).2.1) x8_0)).2.2))) (H8 (b:=!(decide (((ix ((B9 b).1) x8_0):Int)=2))) (c:=decide (((ix ((B9 b).1) x8_0):Int)=2)) rfl rfl rfl rfl rfl (Bool.not_not _)) rfl rfl (fun g8=>C2 (p:=.sc (.bool ((B9 (ix ((B9 b).2.1) x8_0)).2.2))) rfl rfl rfl rfl) ?_
    refine E0 (C:=decide (((ix ((B9 b).1) x8_0):Int)=2)) (p:=.sc (.bool (!((B9 (ix ((B9 b).2.1) x8_0)).2.2)))) (H8 (b:=!(decide (((ix ((B9 b).1) x8_0):Int)=2))) (c:=decide (((ix ((B9 b).1) x8_0):Int)=2)) rfl rfl rfl rfl rfl (Bool.not_not _)) rfl rfl (fun g9=>X4 (u:=.bool ((B9 (ix ((B9 b).2.1) x8_0)).2.2)) (v:=.bool (!((B9 (ix ((B9 b).2.1) x8_0)).2.2))) rfl rfl rfl (gt (p:=.sc (.bool ((B9 (ix ((B9 b).2.1) x8_0)).2.2))) (q:=.sc undef) g9) (fun _=>rfl)) ?_
    refine B4 rfl (N5 (b:=!(decide (((ix ((B9 b).1) x8_0):Int)=2))) (y:=!((B9 (ix ((B9 b).2.1) x8_0)).2.2)) rfl rfl rfl rfl rfl (Bool.not_not _)) ?_
    refine D4 ?_
    refine F6 (b:=(!(decide (((ix ((B9 b).1) x8_0):Int)=2))) || (!((B9 (ix ((B9 b).2.1) x8_0)).2.2))) rfl (fun k10=>?_) (fun k10=>?_)
    ·skip
     refine C6 ?_
     refine B8 ?_
     refine B4 rfl (M7 (parts:=[]) (pps:=[]) (qs:=Q2) rfl rfl rfl A6o rfl rfl (by kernel_rfl)) ?_
     refine B4 rfl (G5 (s:=2) (off:=0) (ps:=Q2) (p:=.agg Q2) (qs:=Q2) rfl rfl X9 rfl rfl rfl rfl rfl rfl rfl) ?_
     refine B4 rfl (C7 (p:=.sc (.bool false)) rfl rfl rfl rfl) ?_
     refine D4 ?_
     refine G2 ?_
     exact F7 (F:=(fun (z:B0 × Bool)=>⟨[],[],.tup [.agg (B0.cells z.1),.sc (.bool z.2)]⟩)) (z:=(N0 b)) (v:=((⟨false,0,false,false,0,false,false,false,0⟩:B0),false)) (bF k2 (mL (hJ0.symm.trans (bT k7 (bT k10 rfl))) rfl)) rfl (.two (.cell 2 29 2 9 true Q2 (.agg Q2) rfl rfl X9 rfl rfl rfl) (.one (.rfl _)) rfl (.tmp 3 (.sc (.bool false)) rfl) (.one (.rfl _)) rfl) trivial trivial
    ·skip
     refine F9 ?_
     refine C6 ?_
     refine B8 ?_
     refine B4 rfl (C7 (p:=.sc (.int .i64 0)) rfl rfl rfl rfl) ?_
     refine D4 ?_
     refine V4 (ι:=B0 × Int) (p:=fun x_1=>(K8 b x4_0 x8_0 (((((B9 (ix ((B9 b).2.1) x8_0)).1).length:Int) - 0).toNat + 1) x4_0 0)=.inr x_1) (S:=fun x_1=>St.of 65 [(0,.sem (SL (eI .u8) b)),(2,.loc 2 0),(3,.sc (.bool false)),(4,.loc 4 0),(5,.sem (SL (eI .i64) ((B9 b).1))),(6,.sem (SL (eL (eI .u8)) ((B9 b).2.1))),(7,.sc (.bool ((B9 b).2.2))),(8,.sc (.int .i64 x8_0)),(9,.sem (SL (eI .i64) ((B9 (ix ((B9 b).2.1) x8_0)).1))),(10,.sem (SL (eL (eI .u8)) ((B9 (ix ((B9 b).2.1) x8_0)).2.1))),(11,.sc (.bool ((B9 (ix ((B9 b).2.1) x8_0)).2.2))),(12,.sc (.int .i64 x_1.2))] [(2,Q2),(4,[.sc (.bool x_1.1.fFour),.sc (.int .i64 x_1.1.fAS4),.sc (.bool x_1.1.fGR),.sc (.bool x_1.1.fRestarting),.sc (.int .i64 x_1.1.fTime),.sc (.bool x_1.1.fFamily),.sc (.bool x_1.1.fForward),.sc (.bool x_1.1.fLL),.sc (.int .i64 x_1.1.fLLTime)])] []) (by first | exact V3 | exact X8 | exact Y3 | exact Y0) ?_ (fun x_1 e11=>?_)
     ·skip
      refine H6 ?_
      refine R3 (ι:=Nat × B0 × Int) (S:=fun i=>St.of 65 [(0,.sem (SL (eI .u8) b)),(2,.loc 2 0),(3,.sc (.bool false)),(4,.loc 4 0),(5,.sem (SL (eI .i64) ((B9 b).1))),(6,.sem (SL (eL (eI .u8)) ((B9 b).2.1))),(7,.sc (.bool ((B9 b).2.2))),(8,.sc (.int .i64 x8_0)),(9,.sem (SL (eI .i64) ((B9 (ix ((B9 b).2.1) x8_0)).1))),(10,.sem (SL (eL (eI .u8)) ((B9 (ix ((B9 b).2.1) x8_0)).2.1))),(11,.sc (.bool ((B9 (ix ((B9 b).2.1) x8_0)).2.2))),(12,.sc (.int .i64 i.2.2))] [(2,Q2),(4,[.sc (.bool i.2.1.fFour),.sc (.int .i64 i.2.1.fAS4),.sc (.bool i.2.1.fGR),.sc (.bool i.2.1.fRestarting),.sc (.int .i64 i.2.1.fTime),.sc (.bool i.2.1.fFamily),.sc (.bool i.2.1.fForward),.sc (.bool i.2.1.fLL),.sc (.int .i64 i.2.1.fLLTime)])] []) (J:=fun i=>K8 b x4_0 x8_0 i.1 i.2.1 i.2.2=(K8 b x4_0 x8_0 (((((B9 (ix ((B9 b).2.1) x8_0)).1).length:Int) - 0).toNat + 1) x4_0 0) ∧ (((((B9 (ix ((B9 b).2.1) x8_0)).1).length:Int) - i.2.2).toNat < i.1) ∧ (0 ≤ i.2.2)) (μ:=fun i=>i.1) (i₀:=((((((B9 (ix ((B9 b).2.1) x8_0)).1).length:Int) - 0).toNat + 1),x4_0,0)) (G9 rfl ⟨⟨rfl,(.one (.rfl _))⟩,⟨⟨rfl,(.one (.rfl _))⟩,⟨⟨rfl,(.one (.rfl _))⟩,⟨⟨rfl,(.one (.rfl _))⟩,⟨⟨rfl,(.one (.rfl _))⟩,⟨⟨rfl,(.one (.rfl _))⟩,⟨⟨rfl,(.one (.rfl _))⟩,⟨⟨rfl,(.one (.rfl _))⟩,⟨⟨rfl,(.one (.rfl _))⟩,⟨⟨rfl,(.one (.rfl _))⟩,⟨⟨rfl,(.one (.rfl _))⟩,⟨⟨rfl,(.one (.rfl _))⟩,trivial⟩⟩⟩⟩⟩⟩⟩⟩⟩⟩⟩⟩ ⟨⟨Q2,rfl,(.cons (.rfl _) (.cons (.rfl _) (.cons (.rfl _) (.cons (.rfl _) (.cons (.rfl _) (.cons (.rfl _) (.cons (.rfl _) (.cons (.rfl _) (.cons (.rfl _) .nil)))))))))⟩,⟨⟨[.sc (.bool x4_0.fFour),.sc (.int .i64 x4_0.fAS4),.sc (.bool x4_0.fGR),.sc (.bool x4_0.fRestarting),.sc (.int .i64 x4_0.fTime),.sc (.bool x4_0.fFamily),.sc (.bool x4_0.fForward),.sc (.bool x4_0.fLL),.sc (.int .i64 x4_0.fLLTime)],rfl,(.cons (.rfl _) (.cons (.rfl _) (.cons (.rfl _) (.cons (.rfl _) (.cons (.rfl _) (.cons (.rfl _) (.cons (.rfl _) (.cons (.rfl _) (.cons (.rfl _) .nil)))))))))⟩,trivial⟩⟩ trivial) ⟨rfl,(by first | omega | ((try simp only [z1,z2,z3,z4,z5,z6,z7,z8,z9,zA,zB,zC,zD,D2,C9,C4,C3,C5,B5,B6,B7,A7,A6,C0] at *); omega) | ((try simp only [z1,z2,z3,z4,z5,z6,z7,z8,z9,zA,B5,B6,B7,A7,A6,C0] at *); (try simp (disch:=omega) only [C8]); (try simp only [z1,z2,z3,z4,z5,z6,z7,z8,z9,zA,zB,zC,zD,D2,C9,C4,C3,C5,B5,B6,B7] at *); omega)),(by first | omega | ((try simp only [z1,z2,z3,z4,z5,z6,z7,z8,z9,zA,zB,zC,zD,D2,C9,C4,C3,C5,B5,B6,B7,A7,A6,C0] at *); omega) | ((try simp only [z1,z2,z3,z4,z5,z6,z7,z8,z9,zA,B5,B6,B7,A7,A6,C0] at *); (try simp (disch:=omega) only [C8]); (try simp only [z1,z2,z3,z4,z5,z6,z7,z8,z9,zA,zB,zC,zD,D2,C9,C4,C3,C5,B5,B6,B7] at *); omega))⟩ ?_
      rintro ⟨n1,x4_1,x12_1⟩ ⟨hJ1,hm1_0,hm1_1⟩
      obtain ⟨n1,rfl⟩:∃ m,n1=m + 1:=⟨n1 - 1,by have:0 < n1:=Nat.lt_of_le_of_lt (Nat.zero_le _) hm1_0; omega⟩
      replace hJ1:K8 b x4_0 x8_0 (n1 + 1) x4_1 x12_1=(K8 b x4_0 x8_0 (((((B9 (ix ((B9 b).2.1) x8_0)).1).length:Int) - 0).toNat + 1) x4_0 0):=hJ1
      replace hm1_0:((((B9 (ix ((B9 b).2.1) x8_0)).1).length:Int) - x12_1).toNat < n1 + 1:=hm1_0
      replace hm1_1:0 ≤ x12_1:=hm1_1
      refine H5 0 rfl (fun hl12=>?_)
      refine H5 5 rfl (fun hl13=>?_)
      refine H5 6 rfl (fun hl14=>?_)
      refine H5 9 rfl (fun hl15=>?_)
      refine H5 10 rfl (fun hl16=>?_)
      refine C6 ?_
      refine C6 ?_
      refine B8 ?_
      refine B4 rfl (C2 (p:=.sc (.int .i64 x12_1)) rfl rfl rfl rfl) ?_
      refine B4 rfl (C2 (p:=.sem (SL (eI .i64) ((B9 (ix ((B9 b).2.1) x8_0)).1))) rfl rfl rfl rfl) ?_
      refine B4 rfl (L6 rfl rfl rfl Tryz.underlying82 (E3 rfl)) ?_
      refine B4 rfl (E6 (u1:=.int .i64 x12_1) (u2:=.int .i64 (((B9 (ix ((B9 b).2.1) x8_0)).1).length:Int)) (v:=.bool (decide ((x12_1:Int) < (((B9 (ix ((B9 b).2.1) x8_0)).1).length:Int)))) rfl rfl rfl rfl rfl (fun _=>rfl)) ?_
      refine D4 ?_
      refine F6 (b:=decide ((x12_1:Int) < (((B9 (ix ((B9 b).2.1) x8_0)).1).length:Int))) rfl (fun k17=>?_) (fun k17=>?_)
      ·skip
       refine F9 ?_
       refine C6 ?_
       refine H6 ?_
       refine C6 ?_
       refine S9 (ds:=[some 53,some 54,some 55,some 56,some 57,some 58,some 59,some 60,some 61,some 62]) (ks:=[8]) (ps:=[.sem (SL (eI .i64) ((B9 (ix ((B9 b).2.1) x8_0)).1)),.sc (.int .i64 x12_1),.sem (PT [.sc (.int .i64 (ix ((B9 (ix ((B9 b).2.1) x8_0)).1) x12_1))]),.sc (.int .i64 (ix ((B9 (ix ((B9 b).2.1) x8_0)).1) x12_1)),.sem (SL (eL (eI .u8)) ((B9 (ix ((B9 b).2.1) x8_0)).2.1)),.sc (.int .i64 x12_1),.sem (PT [.sem (SL (eI .u8) (ix ((B9 (ix ((B9 b).2.1) x8_0)).2.1) x12_1))]),.sem (SL (eI .u8) (ix ((B9 (ix ((B9 b).2.1) x8_0)).2.1) x12_1)),.any,.any]) rfl (by kernel_rfl) rfl rfl ?_
       refine f6 (k:=8) (qs:=[.sem (SL (eI .i64) ((B9 (ix ((B9 b).2.1) x8_0)).1)),.sc (.int .i64 x12_1),.sem (PT [.sc (.int .i64 (ix ((B9 (ix ((B9 b).2.1) x8_0)).1) x12_1))]),.sc (.int .i64 (ix ((B9 (ix ((B9 b).2.1) x8_0)).1) x12_1)),.sem (SL (eL (eI .u8)) ((B9 (ix ((B9 b).2.1) x8_0)).2.1)),.sc (.int .i64 x12_1),.sem (PT [.sem (SL (eI .u8) (ix ((B9 (ix ((B9 b).2.1) x8_0)).2.1) x12_1))]),.sem (SL (eI .u8) (ix ((B9 (ix ((B9 b).2.1) x8_0)).2.1) x12_1)),.sc (.bool ((H1 x4_1 (ix ((B9 (ix ((B9 b).2.1) x8_0)).1) x12_1) (ix ((B9 (ix ((B9 b).2.1) x8_0)).2.1) x12_1)).1)),.sc (.bool (!((H1 x4_1 (ix ((B9 (ix ((B9 b).2.1) x8_0)).1) x12_1) (ix ((B9 (ix ((B9 b).2.1) x8_0)).2.1) x12_1)).1)))]) [0,1,2,3,4,5,6,7] [true,true,true,true,true,true,true,true,false,false] (by kernel_rfl) (by kernel_rfl) rfl rfl rfl (fun bD hc hi hd=>A5w (vs:=[.loc 4 0,.sc (.int .i64 (ix ((B9 (ix ((B9 b).2.1) x8_0)).1) x12_1)),.sem (SL (eI .u8) (ix ((B9 (ix ((B9 b).2.1) x8_0)).2.1) x12_1))]) (fn:=Tryz.f39) (xs:=[.tmp 4,.tmp 56,.tmp 60]) (bxs:=[(1000,4,[.sc (.bool x4_1.fFour),.sc (.int .i64 x4_1.fAS4),.sc (.bool x4_1.fGR),.sc (.bool x4_1.fRestarting),.sc (.int .i64 x4_1.fTime),.sc (.bool x4_1.fFamily),.sc (.bool x4_1.fForward),.sc (.bool x4_1.fLL),.sc (.int .i64 x4_1.fLLTime)],[.sc (.bool x4_1.fFour),.sc (.int .i64 x4_1.fAS4),.sc (.bool x4_1.fGR),.sc (.bool x4_1.fRestarting),.sc (.int .i64 x4_1.fTime),.sc (.bool x4_1.fFamily),.sc (.bool x4_1.fForward),.sc (.bool x4_1.fLL),.sc (.int .i64 x4_1.fLLTime)])]) (tps:=[]) (newS:=[]) (newT:=[]) (ρ:=[(1000,4)]) (τ:=[]) (by exact (A8q (b0:=.loc 4 0) (b1:=.sc (.int .i64 (ix ((B9 (ix ((B9 b).2.1) x8_0)).1) x12_1))) (b2:=.sem (SL (eI .u8) (ix ((B9 (ix ((B9 b).2.1) x8_0)).2.1) x12_1))) rfl (gt (p:=.sc (.int .i64 (ix ((B9 (ix ((B9 b).2.1) x8_0)).1) x12_1))) (q:=.any) (hd 3 (by decide))) (gt (p:=.sem (SL (eI .u8) (ix ((B9 (ix ((B9 b).2.1) x8_0)).2.1) x12_1))) (q:=.any) (hd 7 (by decide))))) rfl rfl rfl Tryz.func39 rfl rfl (A3L x4_1 (ix ((B9 (ix ((B9 b).2.1) x8_0)).1) x12_1) (ix ((B9 (ix ((B9 b).2.1) x8_0)).2.1) x12_1) (by first | omega | exact Nat.le_trans (U1 _ _) (Nat.le_trans (U1 _ _) (by assumption)))) rfl rfl rfl rfl rfl rfl (by decide) (fc ⟨rfl,(.cons (.rfl _) (.cons (.rfl _) (.cons (.rfl _) (.cons (.rfl _) (.cons (.rfl _) (.cons (.rfl _) (.cons (.rfl _) (.cons (.rfl _) (.cons (.rfl _) .nil)))))))))⟩ fn') fn' ((.cons (.one (.rfl _)) (.cons (.one (.rfl _)) (.cons (.one (.rfl _)) .nil)))) rfl (fun _=>rfl) (fun _=>rfl) rfl) (by kernel_rfl) rfl rfl rfl rfl rfl ?_ ?_
       ·refine fc ?_ (fc ?_ (fc ?_ (fc ?_ (fc ?_ (fc ?_ (fc ?_ (fc ?_ (fn'))))))))
        ·exact E7 (i:=0) (q:=.sem (SL (eI .i64) ((B9 (ix ((B9 b).2.1) x8_0)).1))) rfl rfl rfl (fun bD hc hi hd=>C1 rfl (C2 (p:=.sem (SL (eI .i64) ((B9 (ix ((B9 b).2.1) x8_0)).1))) rfl rfl rfl rfl))
        ·exact E7 (i:=1) (q:=.sc (.int .i64 x12_1)) rfl rfl rfl (fun bD hc hi hd=>C1 rfl (C2 (p:=.sc (.int .i64 x12_1)) rfl rfl rfl rfl))
        ·exact E7 (i:=2) (q:=.sem (PT [.sc (.int .i64 (ix ((B9 (ix ((B9 b).2.1) x8_0)).1) x12_1))])) rfl rfl rfl (fun bD hc hi hd=>C1 rfl (N6 (E:=(eI .i64)) (l:=(B9 (ix ((B9 b).2.1) x8_0)).1) (n:=x12_1) (ps:=[.sc (.int .i64 (ix ((B9 (ix ((B9 b).2.1) x8_0)).1) x12_1))]) rfl rfl rfl Tryz.underlying82 ty3 (by exact (E3 (by exact (gt (p:=.sem (SL (eI .i64) ((B9 (ix ((B9 b).2.1) x8_0)).1))) (q:=.any) (hd 0 (by decide)))))) (gt (p:=.sc (.int .i64 x12_1)) (q:=.any) (hd 1 (by decide))) (by first | omega | ((try simp only [z1,z2,z3,z4,z5,z6,z7,z8,z9,zA,zB,zC,zD,D2,C9,C4,C3,C5,B5,B6,B7,A7,A6,C0] at *); omega) | ((try simp only [z1,z2,z3,z4,z5,z6,z7,z8,z9,zA,B5,B6,B7,A7,A6,C0] at *); (try simp (disch:=omega) only [C8]); (try simp only [z1,z2,z3,z4,z5,z6,z7,z8,z9,zA,zB,zC,zD,D2,C9,C4,C3,C5,B5,B6,B7] at *); omega)) rfl))
        ·exact E7 (i:=3) (q:=.sc (.int .i64 (ix ((B9 (ix ((B9 b).2.1) x8_0)).1) x12_1))) rfl rfl rfl (fun bD hc hi hd=>C1 rfl (G4 (ps:=[.sc (.int .i64 (ix ((B9 (ix ((B9 b).2.1) x8_0)).1) x12_1))]) (p:=.sc (.int .i64 (ix ((B9 (ix ((B9 b).2.1) x8_0)).1) x12_1))) rfl rfl rfl ty3 (gt (p:=.sem (PT [.sc (.int .i64 (ix ((B9 (ix ((B9 b).2.1) x8_0)).1) x12_1))])) (q:=.any) (hd 2 (by decide))) rfl rfl rfl rfl))
        ·exact E7 (i:=4) (q:=.sem (SL (eL (eI .u8)) ((B9 (ix ((B9 b).2.1) x8_0)).2.1))) rfl rfl rfl (fun bD hc hi hd=>C1 rfl (C2 (p:=.sem (SL (eL (eI .u8)) ((B9 (ix ((B9 b).2.1) x8_0)).2.1))) rfl rfl rfl rfl))
        ·exact E7 (i:=5) (q:=.sc (.int .i64 x12_1)) rfl rfl rfl (fun bD hc hi hd=>C1 rfl (C2 (p:=.sc (.int .i64 x12_1)) rfl rfl rfl rfl))
        ·exact E7 (i:=6) (q:=.sem (PT [.sem (SL (eI .u8) (ix ((B9 (ix ((B9 b).2.1) x8_0)).2.1) x12_1))])) rfl rfl rfl (fun bD hc hi hd=>C1 rfl (N6 (E:=(eL (eI .u8))) (l:=(B9 (ix ((B9 b).2.1) x8_0)).2.1) (n:=x12_1) (ps:=[.sem (SL (eI .u8) (ix ((B9 (ix ((B9 b).2.1) x8_0)).2.1) x12_1))]) rfl rfl rfl Tryz.underlying83 A3N (by exact (E3 (by exact (gt (p:=.sem (SL (eL (eI .u8)) ((B9 (ix ((B9 b).2.1) x8_0)).2.1))) (q:=.any) (hd 4 (by decide)))))) (gt (p:=.sc (.int .i64 x12_1)) (q:=.any) (hd 5 (by decide))) (by first | omega | ((try simp only [z1,z2,z3,z4,z5,z6,z7,z8,z9,zA,zB,zC,zD,D2,C9,C4,C3,C5,B5,B6,B7,A7,A6,C0] at *); omega) | ((try simp only [z1,z2,z3,z4,z5,z6,z7,z8,z9,zA,B5,B6,B7,A7,A6,C0] at *); (try simp (disch:=omega) only [C8]); (try simp only [z1,z2,z3,z4,z5,z6,z7,z8,z9,zA,zB,zC,zD,D2,C9,C4,C3,C5,B5,B6,B7] at *); omega)) rfl))
        ·exact E7 (i:=7) (q:=.sem (SL (eI .u8) (ix ((B9 (ix ((B9 b).2.1) x8_0)).2.1) x12_1))) rfl rfl rfl (fun bD hc hi hd=>C1 rfl (G4 (ps:=[.sem (SL (eI .u8) (ix ((B9 (ix ((B9 b).2.1) x8_0)).2.1) x12_1))]) (p:=.sem (SL (eI .u8) (ix ((B9 (ix ((B9 b).2.1) x8_0)).2.1) x12_1))) rfl rfl rfl A3N (gt (p:=.sem (PT [.sem (SL (eI .u8) (ix ((B9 (ix ((B9 b).2.1) x8_0)).2.1) x12_1))])) (q:=.any) (hd 6 (by decide))) rfl rfl rfl rfl))
       refine P6 [9] (by kernel_rfl) ?_ (fun bD hb=>?_)
       ·refine fc ?_ (fn')
        ·exact E7 (i:=9) (q:=.sc (.bool (!((H1 x4_1 (ix ((B9 (ix ((B9 b).2.1) x8_0)).1) x12_1) (ix ((B9 (ix ((B9 b).2.1) x8_0)).2.1) x12_1)).1)))) rfl rfl rfl (fun bD hc hi hd=>C1 rfl (X4 (u:=.bool ((H1 x4_1 (ix ((B9 (ix ((B9 b).2.1) x8_0)).1) x12_1) (ix ((B9 (ix ((B9 b).2.1) x8_0)).2.1) x12_1)).1)) (v:=.bool (!((H1 x4_1 (ix ((B9 (ix ((B9 b).2.1) x8_0)).1) x12_1) (ix ((B9 (ix ((B9 b).2.1) x8_0)).2.1) x12_1)).1))) rfl rfl rfl (gt (p:=.sc (.bool ((H1 x4_1 (ix ((B9 (ix ((B9 b).2.1) x8_0)).1) x12_1) (ix ((B9 (ix ((B9 b).2.1) x8_0)).2.1) x12_1)).1))) (q:=.any) (hd 8 (by decide))) (fun _=>rfl)))
       obtain rfl:bD=fun _=>true:=funext hb
       refine F6 (b:=!((H1 x4_1 (ix ((B9 (ix ((B9 b).2.1) x8_0)).1) x12_1) (ix ((B9 (ix ((B9 b).2.1) x8_0)).2.1) x12_1)).1)) rfl (fun k18=>?_) (fun k18=>?_)
       ·skip
        refine C6 ?_
        refine B8 ?_
        refine B4 rfl (M7 (parts:=[]) (pps:=[]) (qs:=Q2) rfl rfl rfl A6o rfl rfl (by kernel_rfl)) ?_
        refine B4 rfl (G5 (s:=2) (off:=0) (ps:=Q2) (p:=.agg Q2) (qs:=Q2) rfl rfl X9 rfl rfl rfl rfl rfl rfl rfl) ?_
        refine B4 rfl (C7 (p:=.sc (.bool false)) rfl rfl rfl rfl) ?_
        refine D4 ?_
        refine G2 ?_
        exact F7 (F:=(fun (z:B0 × Bool)=>⟨[],[],.tup [.agg (B0.cells z.1),.sc (.bool z.2)]⟩)) (z:=(N0 b)) (v:=((⟨false,0,false,false,0,false,false,false,0⟩:B0),false)) (bF k2 (mL (hJ0.symm.trans (bT k7 (bF k10 (mL (hJ1.symm.trans (bT k17 (bT k18 rfl))) rfl)))) rfl)) rfl (.two (.cell 2 29 2 9 true Q2 (.agg Q2) rfl rfl X9 rfl rfl rfl) (.one (.rfl _)) rfl (.tmp 3 (.sc (.bool false)) rfl) (.one (.rfl _)) rfl) trivial trivial
       ·skip
        refine F9 ?_
        refine B8 ?_
        refine B4 rfl (C2 (p:=.sc (.int .i64 x12_1)) rfl rfl rfl rfl) ?_
        refine B4 rfl (E6 (u1:=.int .i64 x12_1) (u2:=.int .i64 1) (v:=.int .i64 (IntKind.wrap .i64 (x12_1 + 1))) rfl rfl rfl rfl rfl (fun _=>rfl)) ?_
        refine B4 rfl (C7 (p:=.sc (.int .i64 (IntKind.wrap .i64 (x12_1 + 1)))) rfl rfl rfl rfl) ?_
        refine D4 ?_
        exact ⟨(n1,((H1 x4_1 (ix ((B9 (ix ((B9 b).2.1) x8_0)).1) x12_1) (ix ((B9 (ix ((B9 b).2.1) x8_0)).2.1) x12_1)).2),(IntKind.wrap .i64 (x12_1 + 1))),(G9 rfl ⟨⟨rfl,(.one (.rfl _))⟩,⟨⟨rfl,(.one (.rfl _))⟩,⟨⟨rfl,(.one (.rfl _))⟩,⟨⟨rfl,(.one (.rfl _))⟩,⟨⟨rfl,(.one (.rfl _))⟩,⟨⟨rfl,(.one (.rfl _))⟩,⟨⟨rfl,(.one (.rfl _))⟩,⟨⟨rfl,(.one (.rfl _))⟩,⟨⟨rfl,(.one (.rfl _))⟩,⟨⟨rfl,(.one (.rfl _))⟩,⟨⟨rfl,(.one (.rfl _))⟩,⟨⟨rfl,(.one (.rfl _))⟩,trivial⟩⟩⟩⟩⟩⟩⟩⟩⟩⟩⟩⟩ ⟨⟨Q2,rfl,(.cons (.rfl _) (.cons (.rfl _) (.cons (.rfl _) (.cons (.rfl _) (.cons (.rfl _) (.cons (.rfl _) (.cons (.rfl _) (.cons (.rfl _) (.cons (.rfl _) .nil)))))))))⟩,⟨⟨[.sc (.bool (((H1 x4_1 (ix ((B9 (ix ((B9 b).2.1) x8_0)).1) x12_1) (ix ((B9 (ix ((B9 b).2.1) x8_0)).2.1) x12_1)).2).fFour)),.sc (.int .i64 (((H1 x4_1 (ix ((B9 (ix ((B9 b).2.1) x8_0)).1) x12_1) (ix ((B9 (ix ((B9 b).2.1) x8_0)).2.1) x12_1)).2).fAS4)),.sc (.bool (((H1 x4_1 (ix ((B9 (ix ((B9 b).2.1) x8_0)).1) x12_1) (ix ((B9 (ix ((B9 b).2.1) x8_0)).2.1) x12_1)).2).fGR)),.sc (.bool (((H1 x4_1 (ix ((B9 (ix ((B9 b).2.1) x8_0)).1) x12_1) (ix ((B9 (ix ((B9 b).2.1) x8_0)).2.1) x12_1)).2).fRestarting)),.sc (.int .i64 (((H1 x4_1 (ix ((B9 (ix ((B9 b).2.1) x8_0)).1) x12_1) (ix ((B9 (ix ((B9 b).2.1) x8_0)).2.1) x12_1)).2).fTime)),.sc (.bool (((H1 x4_1 (ix ((B9 (ix ((B9 b).2.1) x8_0)).1) x12_1) (ix ((B9 (ix ((B9 b).2.1) x8_0)).2.1) x12_1)).2).fFamily)),.sc (.bool (((H1 x4_1 (ix ((B9 (ix ((B9 b).2.1) x8_0)).1) x12_1) (ix ((B9 (ix ((B9 b).2.1) x8_0)).2.1) x12_1)).2).fForward)),.sc (.bool (((H1 x4_1 (ix ((B9 (ix ((B9 b).2.1) x8_0)).1) x12_1) (ix ((B9 (ix ((B9 b).2.1) x8_0)).2.1) x12_1)).2).fLL)),.sc (.int .i64 (((H1 x4_1 (ix ((B9 (ix ((B9 b).2.1) x8_0)).1) x12_1) (ix ((B9 (ix ((B9 b).2.1) x8_0)).2.1) x12_1)).2).fLLTime))],rfl,(.cons (.rfl _) (.cons (.rfl _) (.cons (.rfl _) (.cons (.rfl _) (.cons (.rfl _) (.cons (.rfl _) (.cons (.rfl _) (.cons (.rfl _) (.cons (.rfl _) .nil)))))))))⟩,trivial⟩⟩ trivial),⟨Eq.trans (Eq.symm (bT k17 (bF k18 rfl))) hJ1,(by first | omega | ((try simp only [z1,z2,z3,z4,z5,z6,z7,z8,z9,zA,zB,zC,zD,D2,C9,C4,C3,C5,B5,B6,B7,A7,A6,C0] at *); omega) | ((try simp only [z1,z2,z3,z4,z5,z6,z7,z8,z9,zA,B5,B6,B7,A7,A6,C0] at *); (try simp (disch:=omega) only [C8]); (try simp only [z1,z2,z3,z4,z5,z6,z7,z8,z9,zA,zB,zC,zD,D2,C9,C4,C3,C5,B5,B6,B7] at *); omega)),(by first | omega | ((try simp only [z1,z2,z3,z4,z5,z6,z7,z8,z9,zA,zB,zC,zD,D2,C9,C4,C3,C5,B5,B6,B7,A7,A6,C0] at *); omega) | ((try simp only [z1,z2,z3,z4,z5,z6,z7,z8,z9,zA,B5,B6,B7,A7,A6,C0] at *); (try simp (disch:=omega) only [C8]); (try simp only [z1,z2,z3,z4,z5,z6,z7,z8,z9,zA,zB,zC,zD,D2,C9,C4,C3,C5,B5,B6,B7] at *); omega))⟩,Nat.lt_succ_self _⟩
      ·skip
       refine S8 ?_
       exact ⟨(x4_1,x12_1),hJ1.symm.trans (bF k17 rfl),(G9 rfl ⟨⟨rfl,(.one (.rfl _))⟩,⟨⟨rfl,(.one (.rfl _))⟩,⟨⟨rfl,(.one (.rfl _))⟩,⟨⟨rfl,(.one (.rfl _))⟩,⟨⟨rfl,(.one (.rfl _))⟩,⟨⟨rfl,(.one (.rfl _))⟩,⟨⟨rfl,(.one (.rfl _))⟩,⟨⟨rfl,(.one (.rfl _))⟩,⟨⟨rfl,(.one (.rfl _))⟩,⟨⟨rfl,(.one (.rfl _))⟩,⟨⟨rfl,(.one (.rfl _))⟩,⟨⟨rfl,(.one (.rfl _))⟩,trivial⟩⟩⟩⟩⟩⟩⟩⟩⟩⟩⟩⟩ ⟨⟨Q2,rfl,(.cons (.rfl _) (.cons (.rfl _) (.cons (.rfl _) (.cons (.rfl _) (.cons (.rfl _) (.cons (.rfl _) (.cons (.rfl _) (.cons (.rfl _) (.cons (.rfl _) .nil)))))))))⟩,⟨⟨[.sc (.bool x4_1.fFour),.sc (.int .i64 x4_1.fAS4),.sc (.bool x4_1.fGR),.sc (.bool x4_1.fRestarting),.sc (.int .i64 x4_1.fTime),.sc (.bool x4_1.fFamily),.sc (.bool x4_1.fForward),.sc (.bool x4_1.fLL),.sc (.int .i64 x4_1.fLLTime)],rfl,(.cons (.rfl _) (.cons (.rfl _) (.cons (.rfl _) (.cons (.rfl _) (.cons (.rfl _) (.cons (.rfl _) (.cons (.rfl _) (.cons (.rfl _) (.cons (.rfl _) .nil)))))))))⟩,trivial⟩⟩ trivial)⟩
     ·skip
      refine H5 0 rfl (fun hl19=>?_)
      refine H5 5 rfl (fun hl20=>?_)
      refine H5 6 rfl (fun hl21=>?_)
      refine H5 9 rfl (fun hl22=>?_)
      refine H5 10 rfl (fun hl23=>?_)
      refine B8 ?_
      refine B4 rfl (C2 (p:=.sc (.int .i64 x8_0)) rfl rfl rfl rfl) ?_
      refine B4 rfl (E6 (u1:=.int .i64 x8_0) (u2:=.int .i64 1) (v:=.int .i64 (IntKind.wrap .i64 (x8_0 + 1))) rfl rfl rfl rfl rfl (fun _=>rfl)) ?_
      refine B4 rfl (C7 (p:=.sc (.int .i64 (IntKind.wrap .i64 (x8_0 + 1)))) rfl rfl rfl rfl) ?_
      refine D4 ?_
      exact ⟨(n0,x_1.1,(IntKind.wrap .i64 (x8_0 + 1))),(G9 rfl ⟨⟨rfl,(.one (.rfl _))⟩,⟨⟨rfl,(.one (.rfl _))⟩,⟨⟨rfl,(.one (.rfl _))⟩,⟨⟨rfl,(.one (.rfl _))⟩,⟨⟨rfl,(.one (.rfl _))⟩,⟨⟨rfl,(.one (.rfl _))⟩,⟨⟨rfl,(.one (.rfl _))⟩,⟨⟨rfl,(.one (.rfl _))⟩,trivial⟩⟩⟩⟩⟩⟩⟩⟩ ⟨⟨Q2,rfl,(.cons (.rfl _) (.cons (.rfl _) (.cons (.rfl _) (.cons (.rfl _) (.cons (.rfl _) (.cons (.rfl _) (.cons (.rfl _) (.cons (.rfl _) (.cons (.rfl _) .nil)))))))))⟩,⟨⟨[.sc (.bool x_1.1.fFour),.sc (.int .i64 x_1.1.fAS4),.sc (.bool x_1.1.fGR),.sc (.bool x_1.1.fRestarting),.sc (.int .i64 x_1.1.fTime),.sc (.bool x_1.1.fFamily),.sc (.bool x_1.1.fForward),.sc (.bool x_1.1.fLL),.sc (.int .i64 x_1.1.fLLTime)],rfl,(.cons (.rfl _) (.cons (.rfl _) (.cons (.rfl _) (.cons (.rfl _) (.cons (.rfl _) (.cons (.rfl _) (.cons (.rfl _) (.cons (.rfl _) (.cons (.rfl _) .nil)))))))))⟩,trivial⟩⟩ trivial),⟨Eq.trans (Eq.symm (bT k7 (bF k10 (mR e11 rfl)))) hJ0,(by first | omega | ((try simp only [z1,z2,z3,z4,z5,z6,z7,z8,z9,zA,zB,zC,zD,D2,C9,C4,C3,C5,B5,B6,B7,A7,A6,C0] at *); omega) | ((try simp only [z1,z2,z3,z4,z5,z6,z7,z8,z9,zA,B5,B6,B7,A7,A6,C0] at *); (try simp (disch:=omega) only [C8]); (try simp only [z1,z2,z3,z4,z5,z6,z7,z8,z9,zA,zB,zC,zD,D2,C9,C4,C3,C5,B5,B6,B7] at *); omega)),(by first | omega | ((try simp only [z1,z2,z3,z4,z5,z6,z7,z8,z9,zA,zB,zC,zD,D2,C9,C4,C3,C5,B5,B6,B7,A7,A6,C0] at *); omega) | ((try simp only [z1,z2,z3,z4,z5,z6,z7,z8,z9,zA,B5,B6,B7,A7,A6,C0] at *); (try simp (disch:=omega) only [C8]); (try simp only [z1,z2,z3,z4,z5,z6,z7,z8,z9,zA,zB,zC,zD,D2,C9,C4,C3,C5,B5,B6,B7] at *); omega))⟩,Nat.lt_succ_self _⟩
   ·skip
    refine S8 ?_
    exact ⟨(x4_0,x8_0),hJ0.symm.trans (bF k7 rfl),(G9 rfl ⟨⟨rfl,(.one (.rfl _))⟩,⟨⟨rfl,(.one (.rfl _))⟩,⟨⟨rfl,(.one (.rfl _))⟩,⟨⟨rfl,(.one (.rfl _))⟩,⟨⟨rfl,(.one (.rfl _))⟩,⟨⟨rfl,(.one (.rfl _))⟩,⟨⟨rfl,(.one (.rfl _))⟩,⟨⟨rfl,(.one (.rfl _))⟩,trivial⟩⟩⟩⟩⟩⟩⟩⟩ ⟨⟨Q2,rfl,(.cons (.rfl _) (.cons (.rfl _) (.cons (.rfl _) (.cons (.rfl _) (.cons (.rfl _) (.cons (.rfl _) (.cons (.rfl _) (.cons (.rfl _) (.cons (.rfl _) .nil)))))))))⟩,⟨⟨[.sc (.bool x4_0.fFour),.sc (.int .i64 x4_0.fAS4),.sc (.bool x4_0.fGR),.sc (.bool x4_0.fRestarting),.sc (.int .i64 x4_0.fTime),.sc (.bool x4_0.fFamily),.sc (.bool x4_0.fForward),.sc (.bool x4_0.fLL),.sc (.int .i64 x4_0.fLLTime)],rfl,(.cons (.rfl _) (.cons (.rfl _) (.cons (.rfl _) (.cons (.rfl _) (.cons (.rfl _) (.cons (.rfl _) (.cons (.rfl _) (.cons (.rfl _) (.cons (.rfl _) .nil)))))))))⟩,trivial⟩⟩ trivial)⟩
  ·skip
   refine H5 0 rfl (fun hl24=>?_)
   refine H5 5 rfl (fun hl25=>?_)
   refine H5 6 rfl (fun hl26=>?_)
   refine C6 ?_
   refine B8 ?_
   refine B4 rfl (F4 (s:=4) (off:=0) (ps:=(B0.cells x_0.1)) (p:=.agg (B0.cells x_0.1)) rfl rfl rfl X9 rfl rfl rfl rfl rfl) ?_
   refine B4 rfl (G5 (s:=2) (off:=0) (ps:=Q2) (p:=.agg (B0.cells x_0.1)) (qs:=(B0.cells x_0.1)) rfl rfl X9 rfl rfl rfl rfl rfl rfl rfl) ?_
   refine B4 rfl (C7 (p:=.sc (.bool true)) rfl rfl rfl rfl) ?_
   refine D4 ?_
   refine G2 ?_
   exact F7 (F:=(fun (z:B0 × Bool)=>⟨[],[],.tup [.agg (B0.cells z.1),.sc (.bool z.2)]⟩)) (z:=(N0 b)) (v:=(x_0.1,true)) (bF k2 (mR e3 rfl)) rfl (.two (.cell 2 29 2 9 true (B0.cells x_0.1) (.agg (B0.cells x_0.1)) rfl rfl X9 rfl rfl rfl) (.one (.rfl _)) rfl (.tmp 3 (.sc (.bool true)) rfl) (.one (.rfl _)) rfl) trivial trivial
theorem ref05_ReadCaps_pf (b:List Int) (hb:b.length ≤ 1000000000000) (ok_b:gdL (okI .u8) b):PF Tryz.prog 23 [.sem (SL (eI .u8) b)] (.tup [.agg (B0.cells ((N0 b).1)),.sc (.bool ((N0 b).2))]):=M1 (A0q b hb ok_b) rfl
end Go.Proofs.YtadmpldpipagnaaGreatDoor
