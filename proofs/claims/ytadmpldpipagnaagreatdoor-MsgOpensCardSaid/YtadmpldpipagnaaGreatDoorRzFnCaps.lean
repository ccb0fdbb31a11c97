import Derived.Test.YtadmpldpipagnaaGreatDoorRzFacts
namespace Go.Proofs.YtadmpldpipagnaaGreatDoor
open Go.Ab
set_option linter.unusedSimpArgs false
set_option linter.unusedVariables false
def J9 (b:List Int) (v:Int):List Int:=
 (b ++ [(IntKind.wrap .u8 (Int.fdiv v (2 ^ 24))),(IntKind.wrap .u8 (Int.fdiv v (2 ^ 16))),(IntKind.wrap .u8 (Int.fdiv v (2 ^ 8))),(IntKind.wrap .u8 v)])
set_option maxRecDepth 100000 in
set_option maxHeartbeats 4000000 in
theorem A3F (b:List Int) (v:Int) (hl0:b.length ≤ 70368744177664):PG Tryz.prog 87 [] [(1000,(1,b.length))] [.own 1000 b.length (SL (eI .u8) b),.sc (.int .u32 v)] (fun _:Unit=>True) (fun _=>(fun (z:List Int)=>⟨[],[(1000,(1,z.length))],.own 1000 z.length (SL (eI .u8) z)⟩) (J9 b v)):=by
 refine M4 (N:=19) (l:=[.tmp 4]) Tryz.func87 rfl rfl rfl (Nat.le_of_ble_eq_true rfl) fun w0 i0 F βs=>?_
 refine C6 ?_
 refine B8 ?_
 refine B4 rfl (C7 (p:=.sc (.slice none 0 0)) rfl rfl rfl rfl) ?_
 refine D4 ?_
 refine C6 ?_
 refine B8 ?_
 refine B4 rfl (C2 (p:=.own 1000 b.length (SL (eI .u8) b)) rfl rfl rfl rfl) ?_
 refine B4 rfl (C2 (p:=.sc (.int .u32 v)) rfl rfl rfl rfl) ?_
 refine B4 rfl (E6 (u1:=.int .u32 v) (u2:=.int .u64 24) (v:=.int .u32 (Int.fdiv v (2 ^ 24))) rfl rfl rfl rfl rfl (fun _=>rfl)) ?_
 refine B4 rfl (G8 (m:=(IntKind.wrap .u8 (Int.fdiv v (2 ^ 24)))) rfl rfl rfl Tryz.underlying27 Tryz.underlying5 rfl rfl) ?_
 refine B4 rfl (C2 (p:=.sc (.int .u32 v)) rfl rfl rfl rfl) ?_
 refine B4 rfl (E6 (u1:=.int .u32 v) (u2:=.int .u64 16) (v:=.int .u32 (Int.fdiv v (2 ^ 16))) rfl rfl rfl rfl rfl (fun _=>rfl)) ?_
 refine B4 rfl (G8 (m:=(IntKind.wrap .u8 (Int.fdiv v (2 ^ 16)))) rfl rfl rfl Tryz.underlying27 Tryz.underlying5 rfl rfl) ?_
 refine B4 rfl (C2 (p:=.sc (.int .u32 v)) rfl rfl rfl rfl) ?_
 refine B4 rfl (E6 (u1:=.int .u32 v) (u2:=.int .u64 8) (v:=.int .u32 (Int.fdiv v (2 ^ 8))) rfl rfl rfl rfl rfl (fun _=>rfl)) ?_
 refine B4 rfl (G8 (m:=(IntKind.wrap .u8 (Int.fdiv v (2 ^ 8)))) rfl rfl rfl Tryz.underlying27 Tryz.underlying5 rfl rfl) ?_
 refine B4 rfl (C2 (p:=.sc (.int .u32 v)) rfl rfl rfl rfl) ?_
 refine B4 rfl (G8 (m:=(IntKind.wrap .u8 v)) rfl rfl rfl Tryz.underlying27 Tryz.underlying5 rfl rfl) ?_
 refine B4 rfl (I4 (E:=(eI .u8)) (l:=[(IntKind.wrap .u8 (Int.fdiv v (2 ^ 24))),(IntKind.wrap .u8 (Int.fdiv v (2 ^ 16))),(IntKind.wrap .u8 (Int.fdiv v (2 ^ 8))),(IntKind.wrap .u8 v)]) (tp:=17) (parts:=[(0,.tmp 8),(1,.tmp 11),(2,.tmp 14),(3,.tmp 16)]) (qs:=[.sc (.int .u8 (IntKind.wrap .u8 (Int.fdiv v (2 ^ 24)))),.sc (.int .u8 (IntKind.wrap .u8 (Int.fdiv v (2 ^ 16)))),.sc (.int .u8 (IntKind.wrap .u8 (Int.fdiv v (2 ^ 8)))),.sc (.int .u8 (IntKind.wrap .u8 v))]) rfl rfl rfl N3 rfl rfl rfl rfl) ?_
 refine B4 rfl (K1 (E:=(eI .u8)) (l:=b) (ext:=[(IntKind.wrap .u8 (Int.fdiv v (2 ^ 24))),(IntKind.wrap .u8 (Int.fdiv v (2 ^ 16))),(IntKind.wrap .u8 (Int.fdiv v (2 ^ 8))),(IntKind.wrap .u8 v)]) (tp:=1000) rfl rfl rfl N3 rfl rfl (Q1 rfl) (by first | ((try simp only [zB,zC,zD,B7]); omega) | ((try simp only [z1,z2,z3,z4,z5,z6,z7,z8,z9,zA,zB,zC,zD,D2,C9,C4,C3,C5,B5,B6,B7] at *); omega))) ?_
 refine B4 rfl (C7 (p:=.own 1000 (List.length (α:=Int) (b ++ [(IntKind.wrap .u8 (Int.fdiv v (2 ^ 24))),(IntKind.wrap .u8 (Int.fdiv v (2 ^ 16))),(IntKind.wrap .u8 (Int.fdiv v (2 ^ 8))),(IntKind.wrap .u8 v)])) (SL (eI .u8) (b ++ [(IntKind.wrap .u8 (Int.fdiv v (2 ^ 24))),(IntKind.wrap .u8 (Int.fdiv v (2 ^ 16))),(IntKind.wrap .u8 (Int.fdiv v (2 ^ 8))),(IntKind.wrap .u8 v)]))) rfl rfl rfl rfl) ?_
 refine D4 ?_
 refine G2 ?_
 exact F7 (F:=(fun (z:List Int)=>⟨[],[(1000,(1,z.length))],.own 1000 z.length (SL (eI .u8) z)⟩)) (z:=(J9 b v)) (v:=(b ++ [(IntKind.wrap .u8 (Int.fdiv v (2 ^ 24))),(IntKind.wrap .u8 (Int.fdiv v (2 ^ 16))),(IntKind.wrap .u8 (Int.fdiv v (2 ^ 8))),(IntKind.wrap .u8 v)])) rfl rfl (.one (.tmp 4 (.own 1000 (List.length (α:=Int) (b ++ [(IntKind.wrap .u8 (Int.fdiv v (2 ^ 24))),(IntKind.wrap .u8 (Int.fdiv v (2 ^ 16))),(IntKind.wrap .u8 (Int.fdiv v (2 ^ 8))),(IntKind.wrap .u8 v)])) (SL (eI .u8) (b ++ [(IntKind.wrap .u8 (Int.fdiv v (2 ^ 24))),(IntKind.wrap .u8 (Int.fdiv v (2 ^ 16))),(IntKind.wrap .u8 (Int.fdiv v (2 ^ 8))),(IntKind.wrap .u8 v)]))) rfl) (.one (.rfl _)) rfl) trivial ⟨rfl,trivial⟩
theorem A7 (b:List Int) (v:Int):(J9 b v).length=b.length + 4:=by simp [J9]
def E5 (a0:Int):List Int:=
 [(IntKind.wrap .u8 (Int.fdiv a0 (2 ^ 24))),(IntKind.wrap .u8 (Int.fdiv a0 (2 ^ 16))),(IntKind.wrap .u8 (Int.fdiv a0 (2 ^ 8))),(IntKind.wrap .u8 a0)]
set_option maxRecDepth 100000 in
set_option maxHeartbeats 4000000 in
theorem A2q (a0:Int):PG Tryz.prog 53 [] [] [.sc (.int .i64 a0)] (fun _:Unit=>True) (fun _=>(fun (z:List Int)=>⟨[],[],.sem (SL (eI .u8) z)⟩) (E5 a0)):=by
 refine M4 (N:=15) (l:=[.tmp 2]) Tryz.func53 rfl rfl rfl (Nat.le_of_ble_eq_true rfl) fun w0 i0 F βs=>?_
 refine C6 ?_
 refine B8 ?_
 refine B4 rfl (C7 (p:=.sc (.slice none 0 0)) rfl rfl rfl rfl) ?_
 refine D4 ?_
 refine C6 ?_
 refine B8 ?_
 refine B4 rfl (C2 (p:=.sc (.int .i64 a0)) rfl rfl rfl rfl) ?_
 refine B4 rfl (E6 (u1:=.int .i64 a0) (u2:=.int .u64 24) (v:=.int .i64 (Int.fdiv a0 (2 ^ 24))) rfl rfl rfl rfl rfl (fun _=>rfl)) ?_
 refine B4 rfl (G8 (m:=(IntKind.wrap .u8 (Int.fdiv a0 (2 ^ 24)))) rfl rfl rfl Tryz.underlying3 Tryz.underlying5 rfl rfl) ?_
 refine B4 rfl (C2 (p:=.sc (.int .i64 a0)) rfl rfl rfl rfl) ?_
 refine B4 rfl (E6 (u1:=.int .i64 a0) (u2:=.int .u64 16) (v:=.int .i64 (Int.fdiv a0 (2 ^ 16))) rfl rfl rfl rfl rfl (fun _=>rfl)) ?_
 refine B4 rfl (G8 (m:=(IntKind.wrap .u8 (Int.fdiv a0 (2 ^ 16)))) rfl rfl rfl Tryz.underlying3 Tryz.underlying5 rfl rfl) ?_
 refine B4 rfl (C2 (p:=.sc (.int .i64 a0)) rfl rfl rfl rfl) ?_
 refine B4 rfl (E6 (u1:=.int .i64 a0) (u2:=.int .u64 8) (v:=.int .i64 (Int.fdiv a0 (2 ^ 8))) rfl rfl rfl rfl rfl (fun _=>rfl)) ?_
 refine B4 rfl (G8 (m:=(IntKind.wrap .u8 (Int.fdiv a0 (2 ^ 8)))) rfl rfl rfl Tryz.underlying3 Tryz.underlying5 rfl rfl) ?_
 refine B4 rfl (C2 (p:=.sc (.int .i64 a0)) rfl rfl rfl rfl) ?_
 refine B4 rfl (G8 (m:=(IntKind.wrap .u8 a0)) rfl rfl rfl Tryz.underlying3 Tryz.underlying5 rfl rfl) ?_
 refine B4 rfl (I4 (E:=(eI .u8)) (l:=[(IntKind.wrap .u8 (Int.fdiv a0 (2 ^ 24))),(IntKind.wrap .u8 (Int.fdiv a0 (2 ^ 16))),(IntKind.wrap .u8 (Int.fdiv a0 (2 ^ 8))),(IntKind.wrap .u8 a0)]) (tp:=14) (parts:=[(0,.tmp 5),(1,.tmp 8),(2,.tmp 11),(3,.tmp 13)]) (qs:=[.sc (.int .u8 (IntKind.wrap .u8 (Int.fdiv a0 (2 ^ 24)))),.sc (.int .u8 (IntKind.wrap .u8 (Int.fdiv a0 (2 ^ 16)))),.sc (.int .u8 (IntKind.wrap .u8 (Int.fdiv a0 (2 ^ 8)))),.sc (.int .u8 (IntKind.wrap .u8 a0))]) rfl rfl rfl N3 rfl rfl rfl rfl) ?_
 refine B4 rfl (C7 (p:=.own 14 (List.length (α:=Int) [(IntKind.wrap .u8 (Int.fdiv a0 (2 ^ 24))),(IntKind.wrap .u8 (Int.fdiv a0 (2 ^ 16))),(IntKind.wrap .u8 (Int.fdiv a0 (2 ^ 8))),(IntKind.wrap .u8 a0)]) (SL (eI .u8) [(IntKind.wrap .u8 (Int.fdiv a0 (2 ^ 24))),(IntKind.wrap .u8 (Int.fdiv a0 (2 ^ 16))),(IntKind.wrap .u8 (Int.fdiv a0 (2 ^ 8))),(IntKind.wrap .u8 a0)])) rfl rfl rfl rfl) ?_
 refine D4 ?_
 refine G2 ?_
 exact F7 (F:=(fun (z:List Int)=>⟨[],[],.sem (SL (eI .u8) z)⟩)) (z:=(E5 a0)) (v:=[(IntKind.wrap .u8 (Int.fdiv a0 (2 ^ 24))),(IntKind.wrap .u8 (Int.fdiv a0 (2 ^ 16))),(IntKind.wrap .u8 (Int.fdiv a0 (2 ^ 8))),(IntKind.wrap .u8 a0)]) rfl rfl (.one (.tmp 2 (.sem (SL (eI .u8) [(IntKind.wrap .u8 (Int.fdiv a0 (2 ^ 24))),(IntKind.wrap .u8 (Int.fdiv a0 (2 ^ 16))),(IntKind.wrap .u8 (Int.fdiv a0 (2 ^ 8))),(IntKind.wrap .u8 a0)])) rfl) (.one (.rfl _)) rfl) trivial trivial
theorem j6 (a0:Int):PF Tryz.prog 53 [.sc (.int .i64 a0)] (.sem (SL (eI .u8) (E5 a0))):=M1 (A2q a0) rfl
theorem A6 (a:Int):(E5 a).length=4:=rfl
def O9 (b:List Int):Nat → Int → Int → Int × Int
 | 0,_,_=>default
 | n0 + 1,v_0,x12_0 =>
  (bif decide ((x12_0:Int) < ((sub b 0 (if (4:Int) < (b.length:Int) then 4 else (b.length:Int))).length:Int)) then
   O9 b n0 (ior .u32 (IntKind.wrap .u32 (v_0 * 2 ^ 8)) (IntKind.wrap .u32 (ix (sub b 0 (if (4:Int) < (b.length:Int) then 4 else (b.length:Int))) x12_0))) (IntKind.wrap .i64 (x12_0 + 1))
  else
   (v_0,x12_0))
def G1 (b:List Int):Int:=
 (thn (O9 b ((((sub b 0 (if (4:Int) < (b.length:Int) then 4 else (b.length:Int))).length:Int) - 0).toNat + 1) 0 0) fun (x_0:Int × Int) =>
  x_0.1)
set_option maxRecDepth 100000 in
set_option maxHeartbeats 4000000 in
theorem A2s (b:List Int):PG Tryz.prog 47 [] [] [.sem (SL (eI .u8) b)] (fun _:Unit=>True) (fun _=>(fun (z:Int)=>⟨[],[],.sc (.int .u32 z)⟩) (G1 b)):=by
 refine M4 (N:=23) (l:=[.tmp 2]) Tryz.func47 rfl rfl rfl (Nat.le_of_ble_eq_true rfl) fun w0 i0 F βs=>?_
 refine H5 0 rfl (fun hl1=>?_)
 refine C6 ?_
 refine B8 ?_
 refine B4 rfl (C7 (p:=.sc (.int .u32 0)) rfl rfl rfl rfl) ?_
 refine D4 ?_
 refine C6 ?_
 refine B8 ?_
 refine B4 rfl (C7 (p:=.sc (.int .u32 0)) rfl rfl rfl rfl) ?_
 refine D4 ?_
 refine C6 ?_
 refine C6 ?_
 refine B8 ?_
 refine B4 rfl (C2 (p:=.sem (SL (eI .u8) b)) rfl rfl rfl rfl) ?_
 refine B4 rfl (C2 (p:=.sem (SL (eI .u8) b)) rfl rfl rfl rfl) ?_
 refine B4 rfl (L6 rfl rfl rfl Tryz.underlying22 (E3 rfl)) ?_
 refine B4 rfl (l0 (xs:=[.tmp 8,.const (.int .i64 4)]) (us:=[.int .i64 (b.length:Int),.int .i64 4]) (v:=.int .i64 (if (4:Int) < (b.length:Int) then 4 else (b.length:Int))) rfl rfl rfl rfl (fun _ _=>rfl)) ?_
 refine B4 rfl (K0 (E:=(eI .u8)) (l:=b) (i:=0) (j:=(if (4:Int) < (b.length:Int) then 4 else (b.length:Int))) rfl rfl rfl Tryz.underlying22 ty5 (E3 rfl) (L3 rfl) (I0 rfl) (show 0 ≤ 0 ∧ 0 ≤ (if (4:Int) < (b.length:Int) then 4 else (b.length:Int)) ∧ (if (4:Int) < (b.length:Int) then 4 else (b.length:Int)) ≤ (b.length:Int) from (by first | omega | ((try simp only [z1,z2,z3,z4,z5,z6,z7,z8,z9,zA,zB,zC,zD,D2,C9,C4,C3,C5,B5,B6,B7,A7,A6] at *); omega) | ((try simp only [z1,z2,z3,z4,z5,z6,z7,z8,z9,zA,B5,B6,B7,A7,A6] at *); (try simp (disch:=omega) only [C8]); (try simp only [z1,z2,z3,z4,z5,z6,z7,z8,z9,zA,zB,zC,zD,D2,C9,C4,C3,C5,B5,B6,B7] at *); omega)))) ?_
 refine B4 rfl (L6 rfl rfl rfl Tryz.underlying22 (E3 rfl)) ?_
 refine B4 rfl (C2 (p:=.sc (.int .i64 0)) rfl rfl rfl rfl) ?_
 refine D4 ?_
 refine V4 (ι:=Int × Int) (p:=fun x_0=>(O9 b ((((sub b 0 (if (4:Int) < (b.length:Int) then 4 else (b.length:Int))).length:Int) - 0).toNat + 1) 0 0)=x_0) (S:=fun x_0=>St.of 23 [(0,.sem (SL (eI .u8) b)),(2,.sc (.int .u32 0)),(3,.sc (.int .u32 x_0.1)),(10,.sem (SL (eI .u8) (sub b 0 (if (4:Int) < (b.length:Int) then 4 else (b.length:Int))))),(11,.sc (.int .i64 ((sub b 0 (if (4:Int) < (b.length:Int) then 4 else (b.length:Int))).length:Int))),(12,.sc (.int .i64 x_0.2))] [] []) (by first | exact V3 | exact X8 | exact Y3 | exact Y0) ?_ (fun x_0 e2=>?_)
 ·skip
  refine H6 ?_
  refine R3 (ι:=Nat × Int × Int) (S:=fun i=>St.of 23 [(0,.sem (SL (eI .u8) b)),(2,.sc (.int .u32 0)),(3,.sc (.int .u32 i.2.1)),(10,.sem (SL (eI .u8) (sub b 0 (if (4:Int) < (b.length:Int) then 4 else (b.length:Int))))),(11,.sc (.int .i64 ((sub b 0 (if (4:Int) < (b.length:Int) then 4 else (b.length:Int))).length:Int))),(12,.sc (.int .i64 i.2.2))] [] []) (J:=fun i=>O9 b i.1 i.2.1 i.2.2=(O9 b ((((sub b 0 (if (4:Int) < (b.length:Int) then 4 else (b.length:Int))).length:Int) - 0).toNat + 1) 0 0) ∧ ((((sub b 0 (if (4:Int) < (b.length:Int) then 4 else (b.length:Int))).length:Int) - i.2.2).toNat < i.1) ∧ (0 ≤ i.2.2)) (μ:=fun i=>i.1) (i₀:=(((((sub b 0 (if (4:Int) < (b.length:Int) then 4 else (b.length:Int))).length:Int) - 0).toNat + 1),0,0)) (G9 rfl ⟨⟨rfl,(.one (.rfl _))⟩,⟨⟨rfl,(.one (.rfl _))⟩,⟨⟨rfl,(.one (.rfl _))⟩,⟨⟨rfl,(.one (.rfl _))⟩,⟨⟨rfl,(.one (.rfl _))⟩,⟨⟨rfl,(.one (.rfl _))⟩,trivial⟩⟩⟩⟩⟩⟩ trivial trivial) ⟨rfl,(by first | omega | ((try simp only [z1,z2,z3,z4,z5,z6,z7,z8,z9,zA,zB,zC,zD,D2,C9,C4,C3,C5,B5,B6,B7,A7,A6] at *); omega) | ((try simp only [z1,z2,z3,z4,z5,z6,z7,z8,z9,zA,B5,B6,B7,A7,A6] at *); (try simp (disch:=omega) only [C8]); (try simp only [z1,z2,z3,z4,z5,z6,z7,z8,z9,zA,zB,zC,zD,D2,C9,C4,C3,C5,B5,B6,B7] at *); omega)),(by first | omega | ((try simp only [z1,z2,z3,z4,z5,z6,z7,z8,z9,zA,zB,zC,zD,D2,C9,C4,C3,C5,B5,B6,B7,A7,A6] at *); omega) | ((try simp only [z1,z2,z3,z4,z5,z6,z7,z8,z9,zA,B5,B6,B7,A7,A6] at *); (try simp (disch:=omega) only [C8]); (try simp only [z1,z2,z3,z4,z5,z6,z7,z8,z9,zA,zB,zC,zD,D2,C9,C4,C3,C5,B5,B6,B7] at *); omega))⟩ ?_
  rintro ⟨n0,v_0,x12_0⟩ ⟨hJ0,hm0_0,hm0_1⟩
  obtain ⟨n0,rfl⟩:∃ m,n0=m + 1:=⟨n0 - 1,by have:0 < n0:=Nat.lt_of_le_of_lt (Nat.zero_le _) hm0_0; omega⟩
  replace hJ0:O9 b (n0 + 1) v_0 x12_0=(O9 b ((((sub b 0 (if (4:Int) < (b.length:Int) then 4 else (b.length:Int))).length:Int) - 0).toNat + 1) 0 0):=hJ0
  replace hm0_0:(((sub b 0 (if (4:Int) < (b.length:Int) then 4 else (b.length:Int))).length:Int) - x12_0).toNat < n0 + 1:=hm0_0
  replace hm0_1:0 ≤ x12_0:=hm0_1
  refine H5 0 rfl (fun hl3=>?_)
  refine H5 10 rfl (fun hl4=>?_)
  refine C6 ?_
  refine B8 ?_
  refine B4 rfl (E6 (u1:=.int .i64 x12_0) (u2:=.int .i64 ((sub b 0 (if (4:Int) < (b.length:Int) then 4 else (b.length:Int))).length:Int)) (v:=.bool (decide ((x12_0:Int) < ((sub b 0 (if (4:Int) < (b.length:Int) then 4 else (b.length:Int))).length:Int)))) rfl rfl rfl rfl rfl (fun _=>rfl)) ?_
  refine D4 ?_
  refine C6 ?_
  refine F6 (b:=decide ((x12_0:Int) < ((sub b 0 (if (4:Int) < (b.length:Int) then 4 else (b.length:Int))).length:Int))) rfl (fun k5=>?_) (fun k5=>?_)
  ·skip
   refine F9 ?_
   refine C6 ?_
   refine H6 ?_
   refine C6 ?_
   refine B8 ?_
   refine B4 rfl (N6 (E:=(eI .u8)) (l:=(sub b 0 (if (4:Int) < (b.length:Int) then 4 else (b.length:Int)))) (n:=x12_0) (ps:=[.sc (.int .u8 (ix (sub b 0 (if (4:Int) < (b.length:Int) then 4 else (b.length:Int))) x12_0))]) rfl rfl rfl Tryz.underlying22 ty5 (E3 rfl) rfl (by first | omega | ((try simp only [z1,z2,z3,z4,z5,z6,z7,z8,z9,zA,zB,zC,zD,D2,C9,C4,C3,C5,B5,B6,B7,A7,A6] at *); omega) | ((try simp only [z1,z2,z3,z4,z5,z6,z7,z8,z9,zA,B5,B6,B7,A7,A6] at *); (try simp (disch:=omega) only [C8]); (try simp only [z1,z2,z3,z4,z5,z6,z7,z8,z9,zA,zB,zC,zD,D2,C9,C4,C3,C5,B5,B6,B7] at *); omega)) rfl) ?_
   refine B4 rfl (G4 (ps:=[.sc (.int .u8 (ix (sub b 0 (if (4:Int) < (b.length:Int) then 4 else (b.length:Int))) x12_0))]) (p:=.sc (.int .u8 (ix (sub b 0 (if (4:Int) < (b.length:Int) then 4 else (b.length:Int))) x12_0))) rfl rfl rfl ty5 rfl rfl rfl rfl rfl) ?_
   refine B4 rfl (C7 (p:=.sc (.int .u8 (ix (sub b 0 (if (4:Int) < (b.length:Int) then 4 else (b.length:Int))) x12_0))) rfl rfl rfl rfl) ?_
   refine D4 ?_
   refine B8 ?_
   refine B4 rfl (C2 (p:=.sc (.int .u32 v_0)) rfl rfl rfl rfl) ?_
   refine B4 rfl (E6 (u1:=.int .u32 v_0) (u2:=.int .u64 8) (v:=.int .u32 (IntKind.wrap .u32 (v_0 * 2 ^ 8))) rfl rfl rfl rfl rfl (fun _=>rfl)) ?_
   refine B4 rfl (C2 (p:=.sc (.int .u8 (ix (sub b 0 (if (4:Int) < (b.length:Int) then 4 else (b.length:Int))) x12_0))) rfl rfl rfl rfl) ?_
   refine B4 rfl (G8 (m:=(IntKind.wrap .u32 (ix (sub b 0 (if (4:Int) < (b.length:Int) then 4 else (b.length:Int))) x12_0))) rfl rfl rfl Tryz.underlying5 Tryz.underlying27 rfl rfl) ?_
   refine B4 rfl (E6 (u1:=.int .u32 (IntKind.wrap .u32 (v_0 * 2 ^ 8))) (u2:=.int .u32 (IntKind.wrap .u32 (ix (sub b 0 (if (4:Int) < (b.length:Int) then 4 else (b.length:Int))) x12_0))) (v:=.int .u32 (ior .u32 (IntKind.wrap .u32 (v_0 * 2 ^ 8)) (IntKind.wrap .u32 (ix (sub b 0 (if (4:Int) < (b.length:Int) then 4 else (b.length:Int))) x12_0)))) rfl rfl rfl rfl rfl (fun _=>rfl)) ?_
   refine B4 rfl (C7 (p:=.sc (.int .u32 (ior .u32 (IntKind.wrap .u32 (v_0 * 2 ^ 8)) (IntKind.wrap .u32 (ix (sub b 0 (if (4:Int) < (b.length:Int) then 4 else (b.length:Int))) x12_0))))) rfl rfl rfl rfl) ?_
   refine D4 ?_
   refine B8 ?_
   refine B4 rfl (E6 (u1:=.int .i64 x12_0) (u2:=.int .i64 1) (v:=.int .i64 (IntKind.wrap .i64 (x12_0 + 1))) rfl rfl rfl rfl rfl (fun _=>rfl)) ?_
   refine B4 rfl (C2 (p:=.sc (.int .i64 (IntKind.wrap .i64 (x12_0 + 1)))) rfl rfl rfl rfl) ?_
   refine D4 ?_
   exact ⟨(n0,(ior .u32 (IntKind.wrap .u32 (v_0 * 2 ^ 8)) (IntKind.wrap .u32 (ix (sub b 0 (if (4:Int) < (b.length:Int) then 4 else (b.length:Int))) x12_0))),(IntKind.wrap .i64 (x12_0 + 1))),(G9 rfl ⟨⟨rfl,(.one (.rfl _))⟩,⟨⟨rfl,(.one (.rfl _))⟩,⟨⟨rfl,(.one (.rfl _))⟩,⟨⟨rfl,(.one (.rfl _))⟩,⟨⟨rfl,(.one (.rfl _))⟩,⟨⟨rfl,(.one (.rfl _))⟩,trivial⟩⟩⟩⟩⟩⟩ trivial trivial),⟨Eq.trans (Eq.symm (bT k5 rfl)) hJ0,(by first | omega | ((try simp only [z1,z2,z3,z4,z5,z6,z7,z8,z9,zA,zB,zC,zD,D2,C9,C4,C3,C5,B5,B6,B7,A7,A6] at *); omega) | ((try simp only [z1,z2,z3,z4,z5,z6,z7,z8,z9,zA,B5,B6,B7,A7,A6] at *); (try simp (disch:=omega) only [C8]); (try simp only [z1,z2,z3,z4,z5,z6,z7,z8,z9,zA,zB,zC,zD,D2,C9,C4,C3,C5,B5,B6,B7] at *); omega)),(by first | omega | ((try simp only [z1,z2,z3,z4,z5,z6,z7,z8,z9,zA,zB,zC,zD,D2,C9,C4,C3,C5,B5,B6,B7,A7,A6] at *); omega) | ((try simp only [z1,z2,z3,z4,z5,z6,z7,z8,z9,zA,B5,B6,B7,A7,A6] at *); (try simp (disch:=omega) only [C8]); (try simp only [z1,z2,z3,z4,z5,z6,z7,z8,z9,zA,zB,zC,zD,D2,C9,C4,C3,C5,B5,B6,B7] at *); omega))⟩,Nat.lt_succ_self _⟩
  ·skip
   refine S8 ?_
   exact ⟨(v_0,x12_0),hJ0.symm.trans (bF k5 rfl),(G9 rfl ⟨⟨rfl,(.one (.rfl _))⟩,⟨⟨rfl,(.one (.rfl _))⟩,⟨⟨rfl,(.one (.rfl _))⟩,⟨⟨rfl,(.one (.rfl _))⟩,⟨⟨rfl,(.one (.rfl _))⟩,⟨⟨rfl,(.one (.rfl _))⟩,trivial⟩⟩⟩⟩⟩⟩ trivial trivial)⟩
 ·skip
  refine H5 0 rfl (fun hl6=>?_)
  refine H5 10 rfl (fun hl7=>?_)
  refine C6 ?_
  refine B8 ?_
  refine B4 rfl (C2 (p:=.sc (.int .u32 x_0.1)) rfl rfl rfl rfl) ?_
  refine B4 rfl (C7 (p:=.sc (.int .u32 x_0.1)) rfl rfl rfl rfl) ?_
  refine D4 ?_
  refine G2 ?_
  exact F7 (F:=(fun (z:Int)=>⟨[],[],.sc (.int .u32 z)⟩)) (z:=(G1 b)) (v:=x_0.1) (mB e2 rfl) rfl (.one (.tmp 2 (.sc (.int .u32 x_0.1)) rfl) (.one (.rfl _)) rfl) trivial trivial
theorem A0w (b:List Int):PF Tryz.prog 47 [.sem (SL (eI .u8) b)] (.sc (.int .u32 (G1 b))):=M1 (A2s b) rfl
def J5 (c:B0):Bool:=
 (((((!c.fFour && (decide ((c.fAS4:Int)=0))) || ((c.fFour && (decide ((1:Int) ≤ c.fAS4))) && (decide ((c.fAS4:Int) ≤ 4294967295)))) && ((((decide ((0:Int) ≤ c.fTime)) && (decide ((c.fTime:Int) ≤ 4095))) && (c.fGR || ((!c.fRestarting && (decide ((c.fTime:Int)=0))) && !c.fFamily))) && (c.fFamily || !c.fForward))) && (decide ((0:Int) ≤ c.fLLTime))) && (decide ((c.fLLTime:Int) ≤ 16777215))) && (c.fLL || (decide ((c.fLLTime:Int)=0)))
set_option maxRecDepth 100000 in
set_option maxHeartbeats 4000000 in
theorem A2X (c:B0):PG Tryz.prog 85 [] [] [.agg (B0.cells c)] (fun _:Unit=>True) (fun _=>(fun (z:Bool)=>⟨[],[],.sc (.bool z)⟩) (J5 c)):=by
 refine M4 (N:=86) (l:=[.tmp 2]) Tryz.func85 rfl rfl rfl (Nat.le_of_ble_eq_true rfl) fun w0 i0 F βs=>?_
 refine C6 ?_
 refine B8 ?_
 refine B4 rfl (q9 (s:=1) (p:=.agg (B0.cells c)) (qs:=(B0.cells c)) rfl rfl rfl rfl rfl rfl rfl) ?_
 refine B4 rfl (C7 (p:=.sc (.bool false)) rfl rfl rfl rfl) ?_
 refine D4 ?_
 refine C6 ?_
 refine B8 ?_
 refine B4 rfl (D3 (b:=1) (k:=0) (m:=0) rfl rfl rfl U0 rfl rfl) ?_
 refine B4 rfl (F4 (s:=1) (off:=0) (ps:=(B0.cells c)) (p:=.sc (.bool c.fFour)) rfl rfl rfl ty4 rfl rfl rfl rfl rfl) ?_
 refine B4 rfl (X4 (u:=.bool c.fFour) (v:=.bool (!c.fFour)) rfl rfl rfl rfl (fun _=>rfl)) ?_
 refine B4 rfl (C2 (p:=.sc (.bool !c.fFour)) rfl rfl rfl rfl) ?_
 refine E0 (C:=!c.fFour) (p:=.loc 1 1) (G6 rfl rfl rfl rfl rfl) rfl rfl (fun g1=>D3 (b:=1) (k:=0) (m:=1) rfl rfl rfl Q6 rfl rfl) ?_
 refine E0 (C:=!c.fFour) (p:=.sc (.int .i64 c.fAS4)) (G6 rfl rfl rfl rfl rfl) rfl rfl (fun g2=>F4 (s:=1) (off:=1) (ps:=(B0.cells c)) (p:=.sc (.int .i64 c.fAS4)) rfl rfl rfl ty3 (gt (p:=.loc 1 1) (q:=.sc undef) g2) rfl rfl rfl rfl) ?_
 refine E0 (C:=!c.fFour) (p:=.sc (.bool (decide ((c.fAS4:Int)=0)))) (G6 rfl rfl rfl rfl rfl) rfl rfl (fun g3=>E6 (u1:=.int .i64 c.fAS4) (u2:=.int .i64 0) (v:=.bool (decide ((c.fAS4:Int)=0))) rfl rfl rfl (gt (p:=.sc (.int .i64 c.fAS4)) (q:=.sc undef) g3) rfl (fun _=>rfl)) ?_
 refine B4 rfl (J1 (b:=!c.fFour) (y:=decide ((c.fAS4:Int)=0)) rfl rfl rfl rfl rfl) ?_
 refine B4 rfl (C2 (p:=.sc (.bool (!c.fFour && (decide ((c.fAS4:Int)=0))))) rfl rfl rfl rfl) ?_
 refine E0 (C:=!(!c.fFour && (decide ((c.fAS4:Int)=0)))) (p:=.loc 1 0) (H8 (b:=!c.fFour && (decide ((c.fAS4:Int)=0))) (c:=!(!c.fFour && (decide ((c.fAS4:Int)=0)))) rfl rfl rfl rfl rfl rfl) rfl rfl (fun g4=>D3 (b:=1) (k:=0) (m:=0) rfl rfl rfl U0 rfl rfl) ?_
 refine E0 (C:=!(!c.fFour && (decide ((c.fAS4:Int)=0)))) (p:=.sc (.bool c.fFour)) (H8 (b:=!c.fFour && (decide ((c.fAS4:Int)=0))) (c:=!(!c.fFour && (decide ((c.fAS4:Int)=0)))) rfl rfl rfl rfl rfl rfl) rfl rfl (fun g5=>F4 (s:=1) (off:=0) (ps:=(B0.cells c)) (p:=.sc (.bool c.fFour)) rfl rfl rfl ty4 (gt (p:=.loc 1 0) (q:=.sc undef) g5) rfl rfl rfl rfl) ?_
 refine E0 (C:=!(!c.fFour && (decide ((c.fAS4:Int)=0)))) (p:=.sc (.bool c.fFour)) (H8 (b:=!c.fFour && (decide ((c.fAS4:Int)=0))) (c:=!(!c.fFour && (decide ((c.fAS4:Int)=0)))) rfl rfl rfl rfl rfl rfl) rfl rfl (fun g6=>C2 (p:=.sc (.bool c.fFour)) rfl rfl rfl (gt (p:=.sc (.bool c.fFour)) (q:=.sc undef) g6)) ?_
 refine E0 (C:=(!(!c.fFour && (decide ((c.fAS4:Int)=0)))) && c.fFour) (p:=.loc 1 1) (M3 (E:=!(!c.fFour && (decide ((c.fAS4:Int)=0)))) (y:=c.fFour) rfl rfl rfl rfl rfl) rfl rfl (fun g7=>D3 (b:=1) (k:=0) (m:=1) rfl rfl rfl Q6 rfl rfl) ?_
 refine E0 (C:=(!(!c.fFour && (decide ((c.fAS4:Int)=0)))) && c.fFour) (p:=.sc (.int .i64 c.fAS4)) (M3 (E:=!(!c.fFour && (decide ((c.fAS4:Int)=0)))) (y:=c.fFour) rfl rfl rfl rfl rfl) rfl rfl (fun g8=>F4 (s:=1) (off:=1) (ps:=(B0.cells c)) (p:=.sc (.int .i64 c.fAS4)) rfl rfl rfl ty3 (gt (p:=.loc 1 1) (q:=.sc undef) g8) rfl rfl rfl rfl) ?_
 refine E0 (C:=(!(!c.fFour && (decide ((c.fAS4:Int)=0)))) && c.fFour) (p:=.sc (.bool (decide ((1:Int) ≤ c.fAS4)))) (M3 (E:=!(!c.fFour && (decide ((c.fAS4:Int)=0)))) (y:=c.fFour) rfl rfl rfl rfl rfl) rfl rfl (fun g9=>E6 (u1:=.int .i64 c.fAS4) (u2:=.int .i64 1) (v:=.bool (decide ((1:Int) ≤ c.fAS4))) rfl rfl rfl (gt (p:=.sc (.int .i64 c.fAS4)) (q:=.sc undef) g9) rfl (fun _=>rfl)) ?_
 refine E0 (C:=!(!c.fFour && (decide ((c.fAS4:Int)=0)))) (p:=.sc (.bool (c.fFour && (decide ((1:Int) ≤ c.fAS4))))) (H8 (b:=!c.fFour && (decide ((c.fAS4:Int)=0))) (c:=!(!c.fFour && (decide ((c.fAS4:Int)=0)))) rfl rfl rfl rfl rfl rfl) rfl rfl (fun g10=>J1 (b:=c.fFour) (y:=decide ((1:Int) ≤ c.fAS4)) rfl rfl rfl (gt (p:=.sc (.bool c.fFour)) (q:=.sc undef) g10) (gA (p:=.sc (.bool (decide ((1:Int) ≤ c.fAS4)))) (q:=.sc undef) g10)) ?_
 refine E0 (C:=!(!c.fFour && (decide ((c.fAS4:Int)=0)))) (p:=.sc (.bool (c.fFour && (decide ((1:Int) ≤ c.fAS4))))) (H8 (b:=!c.fFour && (decide ((c.fAS4:Int)=0))) (c:=!(!c.fFour && (decide ((c.fAS4:Int)=0)))) rfl rfl rfl rfl rfl rfl) rfl rfl (fun g11=>C2 (p:=.sc (.bool (c.fFour && (decide ((1:Int) ≤ c.fAS4))))) rfl rfl rfl (gt (p:=.sc (.bool (c.fFour && (decide ((1:Int) ≤ c.fAS4))))) (q:=.sc undef) g11)) ?_
 refine E0 (C:=(!(!c.fFour && (decide ((c.fAS4:Int)=0)))) && (c.fFour && (decide ((1:Int) ≤ c.fAS4)))) (p:=.loc 1 1) (M3 (E:=!(!c.fFour && (decide ((c.fAS4:Int)=0)))) (y:=c.fFour && (decide ((1:Int) ≤ c.fAS4))) rfl rfl rfl rfl rfl) rfl rfl (fun g12=>D3 (b:=1) (k:=0) (m:=1) rfl rfl rfl Q6 rfl rfl) ?_
 refine E0 (C:=(!(!c.fFour && (decide ((c.fAS4:Int)=0)))) && (c.fFour && (decide ((1:Int) ≤ c.fAS4)))) (p:=.sc (.int .i64 c.fAS4)) (M3 (E:=!(!c.fFour && (decide ((c.fAS4:Int)=0)))) (y:=c.fFour && (decide ((1:Int) ≤ c.fAS4))) rfl rfl rfl rfl rfl) rfl rfl (fun g13=>F4 (s:=1) (off:=1) (ps:=(B0.cells c)) (p:=.sc (.int .i64 c.fAS4)) rfl rfl rfl ty3 (gt (p:=.loc 1 1) (q:=.sc undef) g13) rfl rfl rfl rfl) ?_
 refine E0 (C:=(!(!c.fFour && (decide ((c.fAS4:Int)=0)))) && (c.fFour && (decide ((1:Int) ≤ c.fAS4)))) (p:=.sc (.bool (decide ((c.fAS4:Int) ≤ 4294967295)))) (M3 (E:=!(!c.fFour && (decide ((c.fAS4:Int)=0)))) (y:=c.fFour && (decide ((1:Int) ≤ c.fAS4))) rfl rfl rfl rfl rfl) rfl rfl (fun g14=>E6 (u1:=.int .i64 c.fAS4) (u2:=.int .i64 4294967295) (v:=.bool (decide ((c.fAS4:Int) ≤ 4294967295))) rfl rfl rfl (gt (p:=.sc (.int .i64 c.fAS4)) (q:=.sc undef) g14) rfl (fun _=>rfl)) ?_
 refine E0 (C:=!(!c.fFour && (decide ((c.fAS4:Int)=0)))) (p:=.sc (.bool ((c.fFour && (decide ((1:Int) ≤ c.fAS4))) && (decide ((c.fAS4:Int) ≤ 4294967295))))) (H8 (b:=!c.fFour && (decide ((c.fAS4:Int)=0))) (c:=!(!c.fFour && (decide ((c.fAS4:Int)=0)))) rfl rfl rfl rfl rfl rfl) rfl rfl (fun g15=>J1 (b:=c.fFour && (decide ((1:Int) ≤ c.fAS4))) (y:=decide ((c.fAS4:Int) ≤ 4294967295)) rfl rfl rfl (gt (p:=.sc (.bool (c.fFour && (decide ((1:Int) ≤ c.fAS4))))) (q:=.sc undef) g15) (gA (p:=.sc (.bool (decide ((c.fAS4:Int) ≤ 4294967295)))) (q:=.sc undef) g15)) ?_
 refine B4 rfl (N5 (b:=!c.fFour && (decide ((c.fAS4:Int)=0))) (y:=(c.fFour && (decide ((1:Int) ≤ c.fAS4))) && (decide ((c.fAS4:Int) ≤ 4294967295))) rfl rfl rfl rfl rfl rfl) ?_
 refine B4 rfl (C7 (p:=.sc (.bool ((!c.fFour && (decide ((c.fAS4:Int)=0))) || ((c.fFour && (decide ((1:Int) ≤ c.fAS4))) && (decide ((c.fAS4:Int) ≤ 4294967295)))))) rfl rfl rfl rfl) ?_
 refine D4 ?_
 refine C6 ?_
 refine B8 ?_
 refine B4 rfl (D3 (b:=1) (k:=0) (m:=4) rfl rfl rfl V2 rfl rfl) ?_
 refine B4 rfl (F4 (s:=1) (off:=4) (ps:=(B0.cells c)) (p:=.sc (.int .i64 c.fTime)) rfl rfl rfl ty3 rfl rfl rfl rfl rfl) ?_
 refine B4 rfl (E6 (u1:=.int .i64 c.fTime) (u2:=.int .i64 0) (v:=.bool (decide ((0:Int) ≤ c.fTime))) rfl rfl rfl rfl rfl (fun _=>rfl)) ?_
 refine B4 rfl (C2 (p:=.sc (.bool (decide ((0:Int) ≤ c.fTime)))) rfl rfl rfl rfl) ?_
 refine E0 (C:=decide ((0:Int) ≤ c.fTime)) (p:=.loc 1 4) (G6 rfl rfl rfl rfl rfl) rfl rfl (fun g16=>D3 (b:=1) (k:=0) (m:=4) rfl rfl rfl V2 rfl rfl) ?_
 refine E0 (C:=decide ((0:Int) ≤ c.fTime)) (p:=.sc (.int .i64 c.fTime)) (G6 rfl rfl rfl rfl rfl) rfl rfl (fun g17=>F4 (s:=1) (off:=4) (ps:=(B0.cells c)) (p:=.sc (.int .i64 c.fTime)) rfl rfl rfl ty3 (gt (p:=.loc 1 4) (q:=.sc undef) g17) rfl rfl rfl rfl) ?_
 refine E0 (C:=decide ((0:Int) ≤ c.fTime)) (p:=.sc (.bool (decide ((c.fTime:Int) ≤ 4095)))) (G6 rfl rfl rfl rfl rfl) rfl rfl (fun g18=>E6 (u1:=.int .i64 c.fTime) (u2:=.int .i64 4095) (v:=.bool (decide ((c.fTime:Int) ≤ 4095))) rfl rfl rfl (gt (p:=.sc (.int .i64 c.fTime)) (q:=.sc undef) g18) rfl (fun _=>rfl)) ?_
 refine B4 rfl (J1 (b:=decide ((0:Int) ≤ c.fTime)) (y:=decide ((c.fTime:Int) ≤ 4095)) rfl rfl rfl rfl rfl) ?_
 refine B4 rfl (C2 (p:=.sc (.bool ((decide ((0:Int) ≤ c.fTime)) && (decide ((c.fTime:Int) ≤ 4095))))) rfl rfl rfl rfl) ?_
 refine E0 (C:=(decide ((0:Int) ≤ c.fTime)) && (decide ((c.fTime:Int) ≤ 4095))) (p:=.loc 1 2) (G6 rfl rfl rfl rfl rfl) rfl rfl (fun g19=>D3 (b:=1) (k:=0) (m:=2) rfl rfl rfl A0e rfl rfl) ?_
 refine E0 (C:=(decide ((0:Int) ≤ c.fTime)) && (decide ((c.fTime:Int) ≤ 4095))) (p:=.sc (.bool c.fGR)) (G6 rfl rfl rfl rfl rfl) rfl rfl (fun g20=>F4 (s:=1) (off:=2) (ps:=(B0.cells c)) (p:=.sc (.bool c.fGR)) rfl rfl rfl ty4 (gt (p:=.loc 1 2) (q:=.sc undef) g20) rfl rfl rfl rfl) ?_
 refine E0 (C:=(decide ((0:Int) ≤ c.fTime)) && (decide ((c.fTime:Int) ≤ 4095))) (p:=.sc (.bool c.fGR)) (G6 rfl rfl rfl rfl rfl) rfl rfl (fun g21=>C2 (p:=.sc (.bool c.fGR)) rfl rfl rfl (gt (p:=.sc (.bool c.fGR)) (q:=.sc undef) g21)) ?_
 refine E0 (C:=((decide ((0:Int) ≤ c.fTime)) && (decide ((c.fTime:Int) ≤ 4095))) && !c.fGR) (p:=.loc 1 3) (O6 (E:=(decide ((0:Int) ≤ c.fTime)) && (decide ((c.fTime:Int) ≤ 4095))) (y:=c.fGR) (c:=!c.fGR) rfl rfl rfl rfl rfl rfl) rfl rfl (fun g22=>D3 (b:=1) (k:=0) (m:=3) rfl rfl rfl A0g rfl rfl) ?_
 refine E0 (C:=((decide ((0:Int) ≤ c.fTime)) && (decide ((c.fTime:Int) ≤ 4095))) && !c.fGR) (p:=.sc (.bool c.fRestarting)) (O6 (E:=(decide ((0:Int) ≤ c.fTime)) && (decide ((c.fTime:Int) ≤ 4095))) (y:=c.fGR) (c:=!c.fGR) rfl rfl rfl rfl rfl rfl) rfl rfl (fun g23=>F4 (s:=1) (off:=3) (ps:=(B0.cells c)) (p:=.sc (.bool c.fRestarting)) rfl rfl rfl ty4 (gt (p:=.loc 1 3) (q:=.sc undef) g23) rfl rfl rfl rfl) ?_
 refine E0 (C:=((decide ((0:Int) ≤ c.fTime)) && (decide ((c.fTime:Int) ≤ 4095))) && !c.fGR) (p:=.sc (.bool !c.fRestarting)) (O6 (E:=(decide ((0:Int) ≤ c.fTime)) && (decide ((c.fTime:Int) ≤ 4095))) (y:=c.fGR) (c:=!c.fGR) rfl rfl rfl rfl rfl rfl) rfl rfl (fun g24=>X4 (u:=.bool c.fRestarting) (v:=.bool (!c.fRestarting)) rfl rfl rfl (gt (p:=.sc (.bool c.fRestarting)) (q:=.sc undef) g24) (fun _=>rfl)) ?_
 refine E0 (C:=((decide ((0:Int) ≤ c.fTime)) && (decide ((c.fTime:Int) ≤ 4095))) && !c.fGR) (p:=.sc (.bool !c.fRestarting)) (O6 (E:=(decide ((0:Int) ≤ c.fTime)) && (decide ((c.fTime:Int) ≤ 4095))) (y:=c.fGR) (c:=!c.fGR) rfl rfl rfl rfl rfl rfl) rfl rfl (fun g25=>C2 (p:=.sc (.bool !c.fRestarting)) rfl rfl rfl (gt (p:=.sc (.bool !c.fRestarting)) (q:=.sc undef) g25)) ?_
 refine E0 (C:=(((decide ((0:Int) ≤ c.fTime)) && (decide ((c.fTime:Int) ≤ 4095))) && !c.fGR) && !c.fRestarting) (p:=.loc 1 4) (M3 (E:=((decide ((0:Int) ≤ c.fTime)) && (decide ((c.fTime:Int) ≤ 4095))) && !c.fGR) (y:=!c.fRestarting) rfl rfl rfl rfl rfl) rfl rfl (fun g26=>D3 (b:=1) (k:=0) (m:=4) rfl rfl rfl V2 rfl rfl) ?_
 refine E0 (C:=(((decide ((0:Int) ≤ c.fTime)) && (decide ((c.fTime:Int) ≤ 4095))) && !c.fGR) && !c.fRestarting) (p:=.sc (.int .i64 c.fTime)) (M3 (E:=((decide ((0:Int) ≤ c.fTime)) && (decide ((c.fTime:Int) ≤ 4095))) && !c.fGR) (y:=!c.fRestarting) rfl rfl rfl rfl rfl) rfl rfl (fun g27=>F4 (s:=1) (off:=4) (ps:=(B0.cells c)) (p:=.sc (.int .i64 c.fTime)) rfl rfl rfl ty3 (gt (p:=.loc 1 4) (q:=.sc undef) g27) rfl rfl rfl rfl) ?_
 refine E0 (C:=(((decide ((0:Int) ≤ c.fTime)) && (decide ((c.fTime:Int) ≤ 4095))) && !c.fGR) && !c.fRestarting) (p:=.sc (.bool (decide ((c.fTime:Int)=0)))) (M3 (E:=((decide ((0:Int) ≤ c.fTime)) && (decide ((c.fTime:Int) ≤ 4095))) && !c.fGR) (y:=!c.fRestarting) rfl rfl rfl rfl rfl) rfl rfl (fun g28=>E6 (u1:=.int .i64 c.fTime) (u2:=.int .i64 0) (v:=.bool (decide ((c.fTime:Int)=0))) rfl rfl rfl (gt (p:=.sc (.int .i64 c.fTime)) (q:=.sc undef) g28) rfl (fun _=>rfl)) ?_
 refine E0 (C:=((decide ((0:Int) ≤ c.fTime)) && (decide ((c.fTime:Int) ≤ 4095))) && !c.fGR) (p:=.sc (.bool (!c.fRestarting && (decide ((c.fTime:Int)=0))))) (O6 (E:=(decide ((0:Int) ≤ c.fTime)) && (decide ((c.fTime:Int) ≤ 4095))) (y:=c.fGR) (c:=!c.fGR) rfl rfl rfl rfl rfl rfl) rfl rfl (fun g29=>J1 (b:=!c.fRestarting) (y:=decide ((c.fTime:Int)=0)) rfl rfl rfl (gt (p:=.sc (.bool !c.fRestarting)) (q:=.sc undef) g29) (gA (p:=.sc (.bool (decide ((c.fTime:Int)=0)))) (q:=.sc undef) g29)) ?_
 refine E0 (C:=((decide ((0:Int) ≤ c.fTime)) && (decide ((c.fTime:Int) ≤ 4095))) && !c.fGR) (p:=.sc (.bool (!c.fRestarting && (decide ((c.fTime:Int)=0))))) (O6 (E:=(decide ((0:Int) ≤ c.fTime)) && (decide ((c.fTime:Int) ≤ 4095))) (y:=c.fGR) (c:=!c.fGR) rfl rfl rfl rfl rfl rfl) rfl rfl (fun g30=>C2 (p:=.sc (.bool (!c.fRestarting && (decide ((c.fTime:Int)=0))))) rfl rfl rfl (gt (p:=.sc (.bool (!c.fRestarting && (decide ((c.fTime:Int)=0))))) (q:=.sc undef) g30)) ?_
 refine E0 (C:=(((decide ((0:Int) ≤ c.fTime)) && (decide ((c.fTime:Int) ≤ 4095))) && !c.fGR) && (!c.fRestarting && (decide ((c.fTime:Int)=0)))) (p:=.loc 1 5) (M3 (E:=((decide ((0:Int) ≤ c.fTime)) && (decide ((c.fTime:Int) ≤ 4095))) && !c.fGR) (y:=!c.fRestarting && (decide ((c.fTime:Int)=0))) rfl rfl rfl rfl rfl) rfl rfl (fun g31=>D3 (b:=1) (k:=0) (m:=5) rfl rfl rfl T8 rfl rfl) ?_
 refine E0 (C:=(((decide ((0:Int) ≤ c.fTime)) && (decide ((c.fTime:Int) ≤ 4095))) && !c.fGR) && (!c.fRestarting && (decide ((c.fTime:Int)=0)))) (p:=.sc (.bool c.fFamily)) (M3 (E:=((decide ((0:Int) ≤ c.fTime)) && (decide ((c.fTime:Int) ≤ 4095))) && !c.fGR) (y:=!c.fRestarting && (decide ((c.fTime:Int)=0))) rfl rfl rfl rfl rfl) rfl rfl (fun g32=>F4 (s:=1) (off:=5) (ps:=(B0.cells c)) (p:=.sc (.bool c.fFamily)) rfl rfl rfl ty4 (gt (p:=.loc 1 5) (q:=.sc undef) g32) rfl rfl rfl rfl) ?_
 refine E0 (C:=(((decide ((0:Int) ≤ c.fTime)) && (decide ((c.fTime:Int) ≤ 4095))) && !c.fGR) && (!c.fRestarting && (decide ((c.fTime:Int)=0)))) (p:=.sc (.bool !c.fFamily)) (M3 (E:=((decide ((0:Int) ≤ c.fTime)) && (decide ((c.fTime:Int) ≤ 4095))) && !c.fGR) (y:=!c.fRestarting && (decide ((c.fTime:Int)=0))) rfl rfl rfl rfl rfl) rfl rfl (fun g33=>X4 (u:=.bool c.fFamily) (v:=.bool (!c.fFamily)) rfl rfl rfl (gt (p:=.sc (.bool c.fFamily)) (q:=.sc undef) g33) (fun _=>rfl)) ?_
 refine E0 (C:=((decide ((0:Int) ≤ c.fTime)) && (decide ((c.fTime:Int) ≤ 4095))) && !c.fGR) (p:=.sc (.bool ((!c.fRestarting && (decide ((c.fTime:Int)=0))) && !c.fFamily))) (O6 (E:=(decide ((0:Int) ≤ c.fTime)) && (decide ((c.fTime:Int) ≤ 4095))) (y:=c.fGR) (c:=!c.fGR) rfl rfl rfl rfl rfl rfl) rfl rfl (fun g34=>J1 (b:=!c.fRestarting && (decide ((c.fTime:Int)=0))) (y:=!c.fFamily) rfl rfl rfl (gt (p:=.sc (.bool (!c.fRestarting && (decide ((c.fTime:Int)=0))))) (q:=.sc undef) g34) (gA (p:=.sc (.bool !c.fFamily)) (q:=.sc undef) g34)) ?_
 refine E0 (C:=(decide ((0:Int) ≤ c.fTime)) && (decide ((c.fTime:Int) ≤ 4095))) (p:=.sc (.bool (c.fGR || ((!c.fRestarting && (decide ((c.fTime:Int)=0))) && !c.fFamily)))) (G6 rfl rfl rfl rfl rfl) rfl rfl (fun g35=>N5 (b:=c.fGR) (y:=(!c.fRestarting && (decide ((c.fTime:Int)=0))) && !c.fFamily) rfl rfl rfl (gt (p:=.sc (.bool c.fGR)) (q:=.sc undef) g35) (gA (p:=.sc (.bool ((!c.fRestarting && (decide ((c.fTime:Int)=0))) && !c.fFamily))) (q:=.sc undef) g35) rfl) ?_
 refine B4 rfl (J1 (b:=(decide ((0:Int) ≤ c.fTime)) && (decide ((c.fTime:Int) ≤ 4095))) (y:=c.fGR || ((!c.fRestarting && (decide ((c.fTime:Int)=0))) && !c.fFamily)) rfl rfl rfl rfl rfl) ?_
 refine B4 rfl (C2 (p:=.sc (.bool (((decide ((0:Int) ≤ c.fTime)) && (decide ((c.fTime:Int) ≤ 4095))) && (c.fGR || ((!c.fRestarting && (decide ((c.fTime:Int)=0))) && !c.fFamily))))) rfl rfl rfl rfl) ?_
 refine E0 (C:=((decide ((0:Int) ≤ c.fTime)) && (decide ((c.fTime:Int) ≤ 4095))) && (c.fGR || ((!c.fRestarting && (decide ((c.fTime:Int)=0))) && !c.fFamily))) (p:=.loc 1 5) (G6 rfl rfl rfl rfl rfl) rfl rfl (fun g36=>D3 (b:=1) (k:=0) (m:=5) rfl rfl rfl T8 rfl rfl) ?_
 refine E0 (C:=((decide ((0:Int) ≤ c.fTime)) && (decide ((c.fTime:Int) ≤ 4095))) && (c.fGR || ((!c.fRestarting && (decide ((c.fTime:Int)=0))) && !c.fFamily))) (p:=.sc (.bool c.fFamily)) (G6 rfl rfl rfl rfl rfl) rfl rfl (fun g37=>F4 (s:=1) (off:=5) (ps:=(B0.cells c)) (p:=.sc (.bool c.fFamily)) rfl rfl rfl ty4 (gt (p:=.loc 1 5) (q:=.sc undef) g37) rfl rfl rfl rfl) ?_
 refine E0 (C:=((decide ((0:Int) ≤ c.fTime)) && (decide ((c.fTime:Int) ≤ 4095))) && (c.fGR || ((!c.fRestarting && (decide ((c.fTime:Int)=0))) && !c.fFamily))) (p:=.sc (.bool c.fFamily)) (G6 rfl rfl rfl rfl rfl) rfl rfl (fun g38=>C2 (p:=.sc (.bool c.fFamily)) rfl rfl rfl (gt (p:=.sc (.bool c.fFamily)) (q:=.sc undef) g38)) ?_
 refine E0 (C:=(((decide ((0:Int) ≤ c.fTime)) && (decide ((c.fTime:Int) ≤ 4095))) && (c.fGR || ((!c.fRestarting && (decide ((c.fTime:Int)=0))) && !c.fFamily))) && !c.fFamily) (p:=.loc 1 6) (O6 (E:=((decide ((0:Int) ≤ c.fTime)) && (decide ((c.fTime:Int) ≤ 4095))) && (c.fGR || ((!c.fRestarting && (decide ((c.fTime:Int)=0))) && !c.fFamily))) (y:=c.fFamily) (c:=!c.fFamily) rfl rfl rfl rfl rfl rfl) rfl rfl (fun g39=>D3 (b:=1) (k:=0) (m:=6) rfl rfl rfl j3 rfl rfl) ?_
 refine E0 (C:=(((decide ((0:Int) ≤ c.fTime)) && (decide ((c.fTime:Int) ≤ 4095))) && (c.fGR || ((!c.fRestarting && (decide ((c.fTime:Int)=0))) && !c.fFamily))) && !c.fFamily) (p:=.sc (.bool c.fForward)) (O6 (E:=((decide ((0:Int) ≤ c.fTime)) && (decide ((c.fTime:Int) ≤ 4095))) && (c.fGR || ((!c.fRestarting && (decide ((c.fTime:Int)=0))) && !c.fFamily))) (y:=c.fFamily) (c:=!c.fFamily) rfl rfl rfl rfl rfl rfl) rfl rfl (fun g40=>F4 (s:=1) (off:=6) (ps:=(B0.cells c)) (p:=.sc (.bool c.fForward)) rfl rfl rfl ty4 (gt (p:=.loc 1 6) (q:=.sc undef) g40) rfl rfl rfl rfl) ?_
 refine E0 (C:=(((decide ((0:Int) ≤ c.fTime)) && (decide ((c.fTime:Int) ≤ 4095))) && (c.fGR || ((!c.fRestarting && (decide ((c.fTime:Int)=0))) && !c.fFamily))) && !c.fFamily) (p:=.sc (.bool !c.fForward)) (O6 (E:=((decide ((0:Int) ≤ c.fTime)) && (decide ((c.fTime:Int) ≤ 4095))) && (c.fGR || ((!c.fRestarting && (decide ((c.fTime:Int)=0))) && !c.fFamily))) (y:=c.fFamily) (c:=!c.fFamily) rfl rfl rfl rfl rfl rfl) rfl rfl (fun g41=>X4 (u:=.bool c.fForward) (v:=.bool (!c.fForward)) rfl rfl rfl (gt (p:=.sc (.bool c.fForward)) (q:=.sc undef) g41) (fun _=>rfl)) ?_
 refine E0 (C:=((decide ((0:Int) ≤ c.fTime)) && (decide ((c.fTime:Int) ≤ 4095))) && (c.fGR || ((!c.fRestarting && (decide ((c.fTime:Int)=0))) && !c.fFamily))) (p:=.sc (.bool (c.fFamily || !c.fForward))) (G6 rfl rfl rfl rfl rfl) rfl rfl (fun g42=>N5 (b:=c.fFamily) (y:=!c.fForward) rfl rfl rfl (gt (p:=.sc (.bool c.fFamily)) (q:=.sc undef) g42) (gA (p:=.sc (.bool !c.fForward)) (q:=.sc undef) g42) rfl) ?_
 refine B4 rfl (J1 (b:=((decide ((0:Int) ≤ c.fTime)) && (decide ((c.fTime:Int) ≤ 4095))) && (c.fGR || ((!c.fRestarting && (decide ((c.fTime:Int)=0))) && !c.fFamily))) (y:=c.fFamily || !c.fForward) rfl rfl rfl rfl rfl) ?_
 refine B4 rfl (C7 (p:=.sc (.bool ((((decide ((0:Int) ≤ c.fTime)) && (decide ((c.fTime:Int) ≤ 4095))) && (c.fGR || ((!c.fRestarting && (decide ((c.fTime:Int)=0))) && !c.fFamily))) && (c.fFamily || !c.fForward)))) rfl rfl rfl rfl) ?_
 refine D4 ?_
 refine C6 ?_
 refine B8 ?_
 refine B4 rfl (C2 (p:=.sc (.bool ((!c.fFour && (decide ((c.fAS4:Int)=0))) || ((c.fFour && (decide ((1:Int) ≤ c.fAS4))) && (decide ((c.fAS4:Int) ≤ 4294967295)))))) rfl rfl rfl rfl) ?_
 refine B4 rfl (C2 (p:=.sc (.bool ((!c.fFour && (decide ((c.fAS4:Int)=0))) || ((c.fFour && (decide ((1:Int) ≤ c.fAS4))) && (decide ((c.fAS4:Int) ≤ 4294967295)))))) rfl rfl rfl rfl) ?_
 refine E0 (C:=(!c.fFour && (decide ((c.fAS4:Int)=0))) || ((c.fFour && (decide ((1:Int) ≤ c.fAS4))) && (decide ((c.fAS4:Int) ≤ 4294967295)))) (p:=.sc (.bool ((((decide ((0:Int) ≤ c.fTime)) && (decide ((c.fTime:Int) ≤ 4095))) && (c.fGR || ((!c.fRestarting && (decide ((c.fTime:Int)=0))) && !c.fFamily))) && (c.fFamily || !c.fForward)))) (G6 rfl rfl rfl rfl rfl) rfl rfl (fun g43=>C2 (p:=.sc (.bool ((((decide ((0:Int) ≤ c.fTime)) && (decide ((c.fTime:Int) ≤ 4095))) && (c.fGR || ((!c.fRestarting && (decide ((c.fTime:Int)=0))) && !c.fFamily))) && (c.fFamily || !c.fForward)))) rfl rfl rfl rfl) ?_
 refine B4 rfl (J1 (b:=(!c.fFour && (decide ((c.fAS4:Int)=0))) || ((c.fFour && (decide ((1:Int) ≤ c.fAS4))) && (decide ((c.fAS4:Int) ≤ 4294967295)))) (y:=(((decide ((0:Int) ≤ c.fTime)) && (decide ((c.fTime:Int) ≤ 4095))) && (c.fGR || ((!c.fRestarting && (decide ((c.fTime:Int)=0))) && !c.fFamily))) && (c.fFamily || !c.fForward)) rfl rfl rfl rfl rfl) ?_
 refine B4 rfl (C2 (p:=.sc (.bool (((!c.fFour && (decide ((c.fAS4:Int)=0))) || ((c.fFour && (decide ((1:Int) ≤ c.fAS4))) && (decide ((c.fAS4:Int) ≤ 4294967295)))) && ((((decide ((0:Int) ≤ c.fTime)) && (decide ((c.fTime:Int) ≤ 4095))) && (c.fGR || ((!c.fRestarting && (decide ((c.fTime:Int)=0))) && !c.fFamily))) && (c.fFamily || !c.fForward))))) rfl rfl rfl rfl) ?_
 refine E0 (C:=((!c.fFour && (decide ((c.fAS4:Int)=0))) || ((c.fFour && (decide ((1:Int) ≤ c.fAS4))) && (decide ((c.fAS4:Int) ≤ 4294967295)))) && ((((decide ((0:Int) ≤ c.fTime)) && (decide ((c.fTime:Int) ≤ 4095))) && (c.fGR || ((!c.fRestarting && (decide ((c.fTime:Int)=0))) && !c.fFamily))) && (c.fFamily || !c.fForward))) (p:=.loc 1 8) (G6 rfl rfl rfl rfl rfl) rfl rfl (fun g44=>D3 (b:=1) (k:=0) (m:=8) rfl rfl rfl S3 rfl rfl) ?_
 refine E0 (C:=((!c.fFour && (decide ((c.fAS4:Int)=0))) || ((c.fFour && (decide ((1:Int) ≤ c.fAS4))) && (decide ((c.fAS4:Int) ≤ 4294967295)))) && ((((decide ((0:Int) ≤ c.fTime)) && (decide ((c.fTime:Int) ≤ 4095))) && (c.fGR || ((!c.fRestarting && (decide ((c.fTime:Int)=0))) && !c.fFamily))) && (c.fFamily || !c.fForward))) (p:=.sc (.int .i64 c.fLLTime)) (G6 rfl rfl rfl rfl rfl) rfl rfl (fun g45=>F4 (s:=1) (off:=8) (ps:=(B0.cells c)) (p:=.sc (.int .i64 c.fLLTime)) rfl rfl rfl ty3 (gt (p:=.loc 1 8) (q:=.sc undef) g45) rfl rfl rfl rfl) ?_
 refine E0 (C:=((!c.fFour && (decide ((c.fAS4:Int)=0))) || ((c.fFour && (decide ((1:Int) ≤ c.fAS4))) && (decide ((c.fAS4:Int) ≤ 4294967295)))) && ((((decide ((0:Int) ≤ c.fTime)) && (decide ((c.fTime:Int) ≤ 4095))) && (c.fGR || ((!c.fRestarting && (decide ((c.fTime:Int)=0))) && !c.fFamily))) && (c.fFamily || !c.fForward))) (p:=.sc (.bool (decide ((0:Int) ≤ c.fLLTime)))) (G6 rfl rfl rfl rfl rfl) rfl rfl (fun g46=>E6 (u1:=.int .i64 c.fLLTime) (u2:=.int .i64 0) (v:=.bool (decide ((0:Int) ≤ c.fLLTime))) rfl rfl rfl (gt (p:=.sc (.int .i64 c.fLLTime)) (q:=.sc undef) g46) rfl (fun _=>rfl)) ?_
 refine B4 rfl (J1 (b:=((!c.fFour && (decide ((c.fAS4:Int)=0))) || ((c.fFour && (decide ((1:Int) ≤ c.fAS4))) && (decide ((c.fAS4:Int) ≤ 4294967295)))) && ((((decide ((0:Int) ≤ c.fTime)) && (decide ((c.fTime:Int) ≤ 4095))) && (c.fGR || ((!c.fRestarting && (decide ((c.fTime:Int)=0))) && !c.fFamily))) && (c.fFamily || !c.fForward))) (y:=decide ((0:Int) ≤ c.fLLTime)) rfl rfl rfl rfl rfl) ?_
 refine B4 rfl (C2 (p:=.sc (.bool ((((!c.fFour && (decide ((c.fAS4:Int)=0))) || ((c.fFour && (decide ((1:Int) ≤ c.fAS4))) && (decide ((c.fAS4:Int) ≤ 4294967295)))) && ((((decide ((0:Int) ≤ c.fTime)) && (decide ((c.fTime:Int) ≤ 4095))) && (c.fGR || ((!c.fRestarting && (decide ((c.fTime:Int)=0))) && !c.fFamily))) && (c.fFamily || !c.fForward))) && (decide ((0:Int) ≤ c.fLLTime))))) rfl rfl rfl rfl) ?_
 refine E0 (C:=(((!c.fFour && (decide ((c.fAS4:Int)=0))) || ((c.fFour && (decide ((1:Int) ≤ c.fAS4))) && (decide ((c.fAS4:Int) ≤ 4294967295)))) && ((((decide ((0:Int) ≤ c.fTime)) && (decide ((c.fTime:Int) ≤ 4095))) && (c.fGR || ((!c.fRestarting && (decide ((c.fTime:Int)=0))) && !c.fFamily))) && (c.fFamily || !c.fForward))) && (decide ((0:Int) ≤ c.fLLTime))) (p:=.loc 1 8) (G6 rfl rfl rfl rfl rfl) rfl rfl (fun g47=>D3 (b:=1) (k:=0) (m:=8) rfl rfl rfl S3 rfl rfl) ?_
 refine E0 (C:=(((!c.fFour && (decide ((c.fAS4:Int)=0))) || ((c.fFour && (decide ((1:Int) ≤ c.fAS4))) && (decide ((c.fAS4:Int) ≤ 4294967295)))) && ((((decide ((0:Int) ≤ c.fTime)) && (decide ((c.fTime:Int) ≤ 4095))) && (c.fGR || ((!c.fRestarting && (decide ((c.fTime:Int)=0))) && !c.fFamily))) && (c.fFamily || !c.fForward))) && (decide ((0:Int) ≤ c.fLLTime))) (p:=.sc (.int .i64 c.fLLTime)) (G6 rfl rfl rfl rfl rfl) rfl rfl (fun g48=>F4 (s:=1) (off:=8) (ps:=(B0.cells c)) (p:=.sc (.int .i64 c.fLLTime)) rfl rfl rfl ty3 (gt (p:=.loc 1 8) (q:=.sc undef) g48) rfl rfl rfl rfl) ?_
 refine E0 (C:=(((!c.fFour && (decide ((c.fAS4:Int)=0))) || ((c.fFour && (decide ((1:Int) ≤ c.fAS4))) && (decide ((c.fAS4:Int) ≤ 4294967295)))) && ((((decide ((0:Int) ≤ c.fTime)) && (decide ((c.fTime:Int) ≤ 4095))) && (c.fGR || ((!c.fRestarting && (decide ((c.fTime:Int)=0))) && !c.fFamily))) && (c.fFamily || !c.fForward))) && (decide ((0:Int) ≤ c.fLLTime))) (p:=.sc (.bool (decide ((c.fLLTime:Int) ≤ 16777215)))) (G6 rfl rfl rfl rfl rfl) rfl rfl (fun g49=>E6 (u1:=.int .i64 c.fLLTime) (u2:=.int .i64 16777215) (v:=.bool (decide ((c.fLLTime:Int) ≤ 16777215))) rfl rfl rfl (gt (p:=.sc (.int .i64 c.fLLTime)) (q:=.sc undef) g49) rfl (fun _=>rfl)) ?_
 refine B4 rfl (J1 (b:=(((!c.fFour && (decide ((c.fAS4:Int)=0))) || ((c.fFour && (decide ((1:Int) ≤ c.fAS4))) && (decide ((c.fAS4:Int) ≤ 4294967295)))) && ((((decide ((0:Int) ≤ c.fTime)) && (decide ((c.fTime:Int) ≤ 4095))) && (c.fGR || ((!c.fRestarting && (decide ((c.fTime:Int)=0))) && !c.fFamily))) && (c.fFamily || !c.fForward))) && (decide ((0:Int) ≤ c.fLLTime))) (y:=decide ((c.fLLTime:Int) ≤ 16777215)) rfl rfl rfl rfl rfl) ?_
 refine B4 rfl (C2 (p:=.sc (.bool (((((!c.fFour && (decide ((c.fAS4:Int)=0))) || ((c.fFour && (decide ((1:Int) ≤ c.fAS4))) && (decide ((c.fAS4:Int) ≤ 4294967295)))) && ((((decide ((0:Int) ≤ c.fTime)) && (decide ((c.fTime:Int) ≤ 4095))) && (c.fGR || ((!c.fRestarting && (decide ((c.fTime:Int)=0))) && !c.fFamily))) && (c.fFamily || !c.fForward))) && (decide ((0:Int) ≤ c.fLLTime))) && (decide ((c.fLLTime:Int) ≤ 16777215))))) rfl rfl rfl rfl) ?_
 refine E0 (C:=((((!c.fFour && (decide ((c.fAS4:Int)=0))) || ((c.fFour && (decide ((1:Int) ≤ c.fAS4))) && (decide ((c.fAS4:Int) ≤ 4294967295)))) && ((((decide ((0:Int) ≤ c.fTime)) && (decide ((c.fTime:Int) ≤ 4095))) && (c.fGR || ((!c.fRestarting && (decide ((c.fTime:Int)=0))) && !c.fFamily))) && (c.fFamily || !c.fForward))) && (decide ((0:Int) ≤ c.fLLTime))) && (decide ((c.fLLTime:Int) ≤ 16777215))) (p:=.loc 1 7) (G6 rfl rfl rfl rfl rfl) rfl rfl (fun g50=>D3 (b:=1) (k:=0) (m:=7) rfl rfl rfl W6 rfl rfl) ?_
 refine E0 (C:=((((!c.fFour && (decide ((c.fAS4:Int)=0))) || ((c.fFour && (decide ((1:Int) ≤ c.fAS4))) && (decide ((c.fAS4:Int) ≤ 4294967295)))) && ((((decide ((0:Int) ≤ c.fTime)) && (decide ((c.fTime:Int) ≤ 4095))) && (c.fGR || ((!c.fRestarting && (decide ((c.fTime:Int)=0))) && !c.fFamily))) && (c.fFamily || !c.fForward))) && (decide ((0:Int) ≤ c.fLLTime))) && (decide ((c.fLLTime:Int) ≤ 16777215))) (p:=.sc (.bool c.fLL)) (G6 rfl rfl rfl rfl rfl) rfl rfl (fun g51=>F4 (s:=1) (off:=7) (ps:=(B0.cells c)) (p:=.sc (.bool c.fLL)) rfl rfl rfl ty4 (gt (p:=.loc 1 7) (q:=.sc undef) g51) rfl rfl rfl rfl) ?_
 refine E0 (C:=((((!c.fFour && (decide ((c.fAS4:Int)=0))) || ((c.fFour && (decide ((1:Int) ≤ c.fAS4))) && (decide ((c.fAS4:Int) ≤ 4294967295)))) && ((((decide ((0:Int) ≤ c.fTime)) && (decide ((c.fTime:Int) ≤ 4095))) && (c.fGR || ((!c.fRestarting && (decide ((c.fTime:Int)=0))) && !c.fFamily))) && (c.fFamily || !c.fForward))) && (decide ((0:Int) ≤ c.fLLTime))) && (decide ((c.fLLTime:Int) ≤ 16777215))) (p:=.sc (.bool c.fLL)) (G6 rfl rfl rfl rfl rfl) rfl rfl (fun g52=>C2 (p:=.sc (.bool c.fLL)) rfl rfl rfl (gt (p:=.sc (.bool c.fLL)) (q:=.sc undef) g52)) ?_
 refine E0 (C:=(((((!c.fFour && (decide ((c.fAS4:Int)=0))) || ((c.fFour && (decide ((1:Int) ≤ c.fAS4))) && (decide ((c.fAS4:Int) ≤ 4294967295)))) && ((((decide ((0:Int) ≤ c.fTime)) && (decide ((c.fTime:Int) ≤ 4095))) && (c.fGR || ((!c.fRestarting && (decide ((c.fTime:Int)=0))) && !c.fFamily))) && (c.fFamily || !c.fForward))) && (decide ((0:Int) ≤ c.fLLTime))) && (decide ((c.fLLTime:Int) ≤ 16777215))) && !c.fLL) (p:=.loc 1 8) (O6 (E:=((((!c.fFour && (decide ((c.fAS4:Int)=0))) || ((c.fFour && (decide ((1:Int) ≤ c.fAS4))) && (decide ((c.fAS4:Int) ≤ 4294967295)))) && ((((decide ((0:Int) ≤ c.fTime)) && (decide ((c.fTime:Int) ≤ 4095))) && (c.fGR || ((!c.fRestarting && (decide ((c.fTime:Int)=0))) && !c.fFamily))) && (c.fFamily || !c.fForward))) && (decide ((0:Int) ≤ c.fLLTime))) && (decide ((c.fLLTime:Int) ≤ 16777215))) (y:=c.fLL) (c:=!c.fLL) rfl rfl rfl rfl rfl rfl) rfl rfl (fun g53=>D3 (b:=1) (k:=0) (m:=8) rfl rfl rfl S3 rfl rfl) ?_
 refine E0 (C:=(((((!c.fFour && (decide ((c.fAS4:Int)=0))) || ((c.fFour && (decide ((1:Int) ≤ c.fAS4))) && (decide ((c.fAS4:Int) ≤ 4294967295)))) && ((((decide ((0:Int) ≤ c.fTime)) && (decide ((c.fTime:Int) ≤ 4095))) && (c.fGR || ((!c.fRestarting && (decide ((c.fTime:Int)=0))) && !c.fFamily))) && (c.fFamily || !c.fForward))) && (decide ((0:Int) ≤ c.fLLTime))) && (decide ((c.fLLTime:Int) ≤ 16777215))) && !c.fLL) (p:=.sc (.int .i64 c.fLLTime)) (O6 (E:=((((!c.fFour && (decide ((c.fAS4:Int)=0))) || ((c.fFour && (decide ((1:Int) ≤ c.fAS4))) && (decide ((c.fAS4:Int) ≤ 4294967295)))) && ((((decide ((0:Int) ≤ c.fTime)) && (decide ((c.fTime:Int) ≤ 4095))) && (c.fGR || ((!c.fRestarting && (decide ((c.fTime:Int)=0))) && !c.fFamily))) && (c.fFamily || !c.fForward))) && (decide ((0:Int) ≤ c.fLLTime))) && (decide ((c.fLLTime:Int) ≤ 16777215))) (y:=c.fLL) (c:=!c.fLL) rfl rfl rfl rfl rfl rfl) rfl rfl (fun g54=>F4 (s:=1) (off:=8) (ps:=(B0.cells c)) (p:=.sc (.int .i64 c.fLLTime)) rfl rfl rfl ty3 (gt (p:=.loc 1 8) (q:=.sc undef) g54) rfl rfl rfl rfl) ?_
 refine E0 (C:=(((((!c.fFour && (decide ((c.fAS4:Int)=0))) || ((c.fFour && (decide ((1:Int) ≤ c.fAS4))) && (decide ((c.fAS4:Int) ≤ 4294967295)))) && ((((decide ((0:Int) ≤ c.fTime)) && (decide ((c.fTime:Int) ≤ 4095))) && (c.fGR || ((!c.fRestarting && (decide ((c.fTime:Int)=0))) && !c.fFamily))) && (c.fFamily || !c.fForward))) && (decide ((0:Int) ≤ c.fLLTime))) && (decide ((c.fLLTime:Int) ≤ 16777215))) && !c.fLL) (p:=.sc (.bool (decide ((c.fLLTime:Int)=0)))) (O6 (E:=((((!c.fFour && (decide ((c.fAS4:Int)=0))) || ((c.fFour && (decide ((1:Int) ≤ c.fAS4))) && (decide ((c.fAS4:Int) ≤ 4294967295)))) && ((((decide ((0:Int) ≤ c.fTime)) && (decide ((c.fTime:Int) ≤ 4095))) && (c.fGR || ((!c.fRestarting && (decide ((c.fTime:Int)=0))) && !c.fFamily))) && (c.fFamily || !c.fForward))) && (decide ((0:Int) ≤ c.fLLTime))) && (decide ((c.fLLTime:Int) ≤ 16777215))) (y:=c.fLL) (c:=!c.fLL) rfl rfl rfl rfl rfl rfl) rfl rfl (fun g55=>E6 (u1:=.int .i64 c.fLLTime) (u2:=.int .i64 0) (v:=.bool (decide ((c.fLLTime:Int)=0))) rfl rfl rfl (gt (p:=.sc (.int .i64 c.fLLTime)) (q:=.sc undef) g55) rfl (fun _=>rfl)) ?_
 refine E0 (C:=((((!c.fFour && (decide ((c.fAS4:Int)=0))) || ((c.fFour && (decide ((1:Int) ≤ c.fAS4))) && (decide ((c.fAS4:Int) ≤ 4294967295)))) && ((((decide ((0:Int) ≤ c.fTime)) && (decide ((c.fTime:Int) ≤ 4095))) && (c.fGR || ((!c.fRestarting && (decide ((c.fTime:Int)=0))) && !c.fFamily))) && (c.fFamily || !c.fForward))) && (decide ((0:Int) ≤ c.fLLTime))) && (decide ((c.fLLTime:Int) ≤ 16777215))) (p:=.sc (.bool (c.fLL || (decide ((c.fLLTime:Int)=0))))) (G6 rfl rfl rfl rfl rfl) rfl rfl (fun g56=>N5 (b:=c.fLL) (y:=decide ((c.fLLTime:Int)=0)) rfl rfl rfl (gt (p:=.sc (.bool c.fLL)) (q:=.sc undef) g56) (gA (p:=.sc (.bool (decide ((c.fLLTime:Int)=0)))) (q:=.sc undef) g56) rfl) ?_
 refine B4 rfl (J1 (b:=((((!c.fFour && (decide ((c.fAS4:Int)=0))) || ((c.fFour && (decide ((1:Int) ≤ c.fAS4))) && (decide ((c.fAS4:Int) ≤ 4294967295)))) && ((((decide ((0:Int) ≤ c.fTime)) && (decide ((c.fTime:Int) ≤ 4095))) && (c.fGR || ((!c.fRestarting && (decide ((c.fTime:Int)=0))) && !c.fFamily))) && (c.fFamily || !c.fForward))) && (decide ((0:Int) ≤ c.fLLTime))) && (decide ((c.fLLTime:Int) ≤ 16777215))) (y:=c.fLL || (decide ((c.fLLTime:Int)=0))) rfl rfl rfl rfl rfl) ?_
 refine B4 rfl (C7 (p:=.sc (.bool ((((((!c.fFour && (decide ((c.fAS4:Int)=0))) || ((c.fFour && (decide ((1:Int) ≤ c.fAS4))) && (decide ((c.fAS4:Int) ≤ 4294967295)))) && ((((decide ((0:Int) ≤ c.fTime)) && (decide ((c.fTime:Int) ≤ 4095))) && (c.fGR || ((!c.fRestarting && (decide ((c.fTime:Int)=0))) && !c.fFamily))) && (c.fFamily || !c.fForward))) && (decide ((0:Int) ≤ c.fLLTime))) && (decide ((c.fLLTime:Int) ≤ 16777215))) && (c.fLL || (decide ((c.fLLTime:Int)=0)))))) rfl rfl rfl rfl) ?_
 refine D4 ?_
 refine G2 ?_
 exact F7 (F:=(fun (z:Bool)=>⟨[],[],.sc (.bool z)⟩)) (z:=(J5 c)) (v:=(((((!c.fFour && (decide ((c.fAS4:Int)=0))) || ((c.fFour && (decide ((1:Int) ≤ c.fAS4))) && (decide ((c.fAS4:Int) ≤ 4294967295)))) && ((((decide ((0:Int) ≤ c.fTime)) && (decide ((c.fTime:Int) ≤ 4095))) && (c.fGR || ((!c.fRestarting && (decide ((c.fTime:Int)=0))) && !c.fFamily))) && (c.fFamily || !c.fForward))) && (decide ((0:Int) ≤ c.fLLTime))) && (decide ((c.fLLTime:Int) ≤ 16777215))) && (c.fLL || (decide ((c.fLLTime:Int)=0)))) rfl rfl (.one (.tmp 2 (.sc (.bool ((((((!c.fFour && (decide ((c.fAS4:Int)=0))) || ((c.fFour && (decide ((1:Int) ≤ c.fAS4))) && (decide ((c.fAS4:Int) ≤ 4294967295)))) && ((((decide ((0:Int) ≤ c.fTime)) && (decide ((c.fTime:Int) ≤ 4095))) && (c.fGR || ((!c.fRestarting && (decide ((c.fTime:Int)=0))) && !c.fFamily))) && (c.fFamily || !c.fForward))) && (decide ((0:Int) ≤ c.fLLTime))) && (decide ((c.fLLTime:Int) ≤ 16777215))) && (c.fLL || (decide ((c.fLLTime:Int)=0)))))) rfl) (.one (.rfl _)) rfl) trivial trivial
theorem A4J (c:B0):PF Tryz.prog 85 [.agg (B0.cells c)] (.sc (.bool (J5 c))):=M1 (A2X c) rfl
def F8 (y:Bool):Int:=
 (bif y then
  128
 else
  0)
set_option maxRecDepth 100000 in
set_option maxHeartbeats 4000000 in
theorem A3i (y:Bool):PG Tryz.prog 120 [] [] [.sc (.bool y)] (fun _:Unit=>True) (fun _=>(fun (z:Int)=>⟨[],[],.sc (.int .u8 z)⟩) (F8 y)):=by
 refine M4 (N:=4) (l:=[.tmp 2]) Tryz.func120 rfl rfl rfl (Nat.le_of_ble_eq_true rfl) fun w0 i0 F βs=>?_
 refine C6 ?_
 refine B8 ?_
 refine B4 rfl (C7 (p:=.sc (.int .u8 0)) rfl rfl rfl rfl) ?_
 refine D4 ?_
 refine C6 ?_
 refine C6 ?_
 refine B8 ?_
 refine B4 rfl (C2 (p:=.sc (.bool y)) rfl rfl rfl rfl) ?_
 refine D4 ?_
 refine F6 (b:=y) rfl (fun k1=>?_) (fun k1=>?_)
 ·skip
  refine C6 ?_
  refine B8 ?_
  refine B4 rfl (C7 (p:=.sc (.int .u8 128)) rfl rfl rfl rfl) ?_
  refine D4 ?_
  refine G2 ?_
  exact F7 (F:=(fun (z:Int)=>⟨[],[],.sc (.int .u8 z)⟩)) (z:=(F8 y)) (v:=128) (bT k1 rfl) rfl (.one (.tmp 2 (.sc (.int .u8 128)) rfl) (.one (.rfl _)) rfl) trivial trivial
 ·skip
  refine F9 ?_
  refine C6 ?_
  refine B8 ?_
  refine B4 rfl (C7 (p:=.sc (.int .u8 0)) rfl rfl rfl rfl) ?_
  refine D4 ?_
  refine G2 ?_
  exact F7 (F:=(fun (z:Int)=>⟨[],[],.sc (.int .u8 z)⟩)) (z:=(F8 y)) (v:=0) (bF k1 rfl) rfl (.one (.tmp 2 (.sc (.int .u8 0)) rfl) (.one (.rfl _)) rfl) trivial trivial
theorem A1n (y:Bool):PF Tryz.prog 120 [.sc (.bool y)] (.sc (.int .u8 (F8 y))):=M1 (A3i y) rfl
def H0 (c:B0):List Int:=
 (thn (bif c.fFour then (J9 (([]:List Int) ++ [65,4]) (IntKind.wrap .u32 c.fAS4)) else ([]:List Int)) fun (y_1:List Int) =>
  (thn (bif c.fGR then (thn ((bif c.fFamily then ([(ior .u8 (F8 c.fRestarting) (IntKind.wrap .u8 (Int.fdiv c.fTime (2 ^ 8)))),(IntKind.wrap .u8 c.fTime)] ++ [0,1,1,(F8 c.fForward)]) else [(ior .u8 (F8 c.fRestarting) (IntKind.wrap .u8 (Int.fdiv c.fTime (2 ^ 8)))),(IntKind.wrap .u8 c.fTime)])) fun (y_6:List Int)=>((y_1 ++ [64,(IntKind.wrap .u8 (y_6.length:Int))]) ++ y_6)) else y_1) fun (y_5:List Int) =>
   (thn (bif c.fLL then (y_5 ++ [71,7,0,1,1,0,(IntKind.wrap .u8 (Int.fdiv c.fLLTime (2 ^ 16))),(IntKind.wrap .u8 (Int.fdiv c.fLLTime (2 ^ 8))),(IntKind.wrap .u8 c.fLLTime)]) else y_5) fun (y_14:List Int) =>
    y_14)))
set_option maxRecDepth 100000 in
set_option maxHeartbeats 4000000 in
theorem A2B (c:B0):PG Tryz.prog 105 [] [] [.agg (B0.cells c)] (fun _:Unit=>True) (fun _=>(fun (z:List Int)=>⟨[],[],.sem (SL (eI .u8) z)⟩) (H0 c)):=by
 refine M4 (N:=61) (l:=[.tmp 2]) Tryz.func105 rfl rfl rfl (Nat.le_of_ble_eq_true rfl) fun w0 i0 F βs=>?_
 refine C6 ?_
 refine B8 ?_
 refine B4 rfl (q9 (s:=1) (p:=.agg (B0.cells c)) (qs:=(B0.cells c)) rfl rfl rfl rfl rfl rfl rfl) ?_
 refine B4 rfl (C7 (p:=.sc (.slice none 0 0)) rfl rfl rfl rfl) ?_
 refine D4 ?_
 refine C6 ?_
 refine B8 ?_
 refine B4 rfl (C7 (p:=.sc (.slice none 0 0)) rfl rfl rfl rfl) ?_
 refine D4 ?_
 refine W0 (E:=(eI .u8)) (d:=3) (tp:=4003) rfl ?_
 refine N8 (ι:=List Int) (p:=fun y_1=>((bif c.fFour then (J9 (([]:List Int) ++ [65,4]) (IntKind.wrap .u32 c.fAS4)) else ([]:List Int)))=y_1 ∧ y_1.length ≤ 6) (S:=fun y_1=>St.of 61 [(0,.agg (B0.cells c)),(1,.loc 1 0),(2,.sc (.slice none 0 0)),(3,.own 4003 y_1.length (SL (eI .u8) y_1))] [(1,(B0.cells c))] [(4003,(1,y_1.length))]) ?_ (fun y_1 e1=>?_)
 ·skip
  refine C6 ?_
  refine B8 ?_
  refine B4 rfl (D3 (b:=1) (k:=0) (m:=0) rfl rfl rfl U0 rfl rfl) ?_
  refine B4 rfl (F4 (s:=1) (off:=0) (ps:=(B0.cells c)) (p:=.sc (.bool c.fFour)) rfl rfl rfl ty4 rfl rfl rfl rfl rfl) ?_
  refine D4 ?_
  refine F6 (b:=c.fFour) rfl (fun k2=>?_) (fun k2=>?_)
  ·skip
   refine S9 (ds:=[some 7,some 8,some 9,some 10,some 11,some 12,some 13,some 3]) (ks:=[2,6]) (ps:=[.own 4003 (List.length (α:=Int) ([]:List Int)) (SL (eI .u8) ([]:List Int)),.sem (SL (eI .u8) [65,4]),.any,.loc 1 1,.sc (.int .i64 c.fAS4),.sc (.int .u32 (IntKind.wrap .u32 c.fAS4)),.any,.any]) rfl (by kernel_rfl) rfl rfl ?_
   refine R4 (d:=9) (q:=.own 4003 (List.length (α:=Int) (([]:List Int) ++ [65,4])) (SL (eI .u8) (([]:List Int) ++ [65,4]))) (tp:=4003) (x:=some (1,(List.length (α:=Int) (([]:List Int) ++ [65,4])))) (k:=2) (qs:=[.own 4003 (List.length (α:=Int) ([]:List Int)) (SL (eI .u8) ([]:List Int)),.sem (SL (eI .u8) [65,4]),.own 4003 (List.length (α:=Int) (([]:List Int) ++ [65,4])) (SL (eI .u8) (([]:List Int) ++ [65,4])),.loc 1 1,.sc (.int .i64 c.fAS4),.sc (.int .u32 (IntKind.wrap .u32 c.fAS4)),.any,.any]) [0,1,3,4,5] [true,true,false,true,true,true,false,false] (by kernel_rfl) (by kernel_rfl) rfl rfl rfl (by kernel_rfl) rfl rfl rfl rfl rfl ?_ (fun bD hc hi hd=>by exact K1 (E:=(eI .u8)) (l:=([]:List Int)) (ext:=[65,4]) (tp:=4003) rfl rfl rfl N3 (gt (p:=.own 4003 (List.length (α:=Int) ([]:List Int)) (SL (eI .u8) ([]:List Int))) (q:=.any) (hd 0 (by decide))) rfl (by exact (E3 (by exact (gt (p:=.sem (SL (eI .u8) [65,4])) (q:=.any) (hd 1 (by decide)))))) (by first | ((try simp only [zB,zC,zD,B7,A7,A6]); omega) | ((try simp only [z1,z2,z3,z4,z5,z6,z7,z8,z9,zA,zB,zC,zD,D2,C9,C4,C3,C5,B5,B6,B7,A7,A6] at *); omega))) ?_
   ·refine fc ?_ (fc ?_ (fc ?_ (fc ?_ (fc ?_ (fn')))))
    ·exact E7 (i:=0) (q:=.own 4003 (List.length (α:=Int) ([]:List Int)) (SL (eI .u8) ([]:List Int))) rfl rfl rfl (fun bD hc hi hd=>C1 rfl (C2 (p:=.own 4003 (List.length (α:=Int) ([]:List Int)) (SL (eI .u8) ([]:List Int))) rfl rfl rfl (gf (q:=.own 4003 (List.length (α:=Int) ([]:List Int)) (SL (eI .u8) ([]:List Int))) (S5 (j:=7) hc hi (by kernel_rfl)))))
    ·exact E7 (i:=1) (q:=.sem (SL (eI .u8) [65,4])) rfl rfl rfl (fun bD hc hi hd=>C1 rfl (A1d (E:=(eI .u8)) (l:=[65,4]) (parts:=[(0,.const (.int .u8 65)),(1,.const (.int .u8 4))]) (qs:=[.sc (.int .u8 65),.sc (.int .u8 4)]) rfl rfl rfl N3 rfl rfl rfl rfl))
    ·exact E7 (i:=3) (q:=.loc 1 1) rfl rfl rfl (fun bD hc hi hd=>C1 rfl (D3 (b:=1) (k:=0) (m:=1) rfl rfl rfl Q6 rfl rfl))
    ·exact E7 (i:=4) (q:=.sc (.int .i64 c.fAS4)) rfl rfl rfl (fun bD hc hi hd=>C1 rfl (F4 (s:=1) (off:=1) (ps:=(B0.cells c)) (p:=.sc (.int .i64 c.fAS4)) rfl rfl rfl ty3 (gt (p:=.loc 1 1) (q:=.any) (hd 3 (by decide))) rfl rfl rfl rfl))
    ·exact E7 (i:=5) (q:=.sc (.int .u32 (IntKind.wrap .u32 c.fAS4))) rfl rfl rfl (fun bD hc hi hd=>C1 rfl (G8 (m:=(IntKind.wrap .u32 c.fAS4)) rfl rfl rfl Tryz.underlying3 Tryz.underlying27 (gt (p:=.sc (.int .i64 c.fAS4)) (q:=.any) (hd 4 (by decide))) rfl))
   refine f6 (k:=6) (qs:=[.sem (SL (eI .u8) ([]:List Int)),.sem (SL (eI .u8) [65,4]),.sem (SL (eI .u8) (([]:List Int) ++ [65,4])),.loc 1 1,.sc (.int .i64 c.fAS4),.sc (.int .u32 (IntKind.wrap .u32 c.fAS4)),.own 4003 (List.length (α:=Int) (J9 (([]:List Int) ++ [65,4]) (IntKind.wrap .u32 c.fAS4))) (SL (eI .u8) (J9 (([]:List Int) ++ [65,4]) (IntKind.wrap .u32 c.fAS4))),.own 4003 (List.length (α:=Int) (J9 (([]:List Int) ++ [65,4]) (IntKind.wrap .u32 c.fAS4))) (SL (eI .u8) (J9 (([]:List Int) ++ [65,4]) (IntKind.wrap .u32 c.fAS4)))]) [3,4,5] [true,true,true,true,true,true,false,false] (by kernel_rfl) (by kernel_rfl) rfl rfl rfl (fun bD hc hi hd=>A5w (vs:=[.own 4003 (List.length (α:=Int) (([]:List Int) ++ [65,4])) (SL (eI .u8) (([]:List Int) ++ [65,4])),.sc (.int .u32 (IntKind.wrap .u32 c.fAS4))]) (fn:=Tryz.f87) (xs:=[.tmp 9,.tmp 12]) (bxs:=[]) (tps:=[(1000,4003,(1,(([]:List Int) ++ [65,4]).length))]) (newS:=[]) (newT:=[]) (ρ:=[]) (τ:=[(1000,4003)]) (by exact (A4N (b0:=.own 4003 (List.length (α:=Int) (([]:List Int) ++ [65,4])) (SL (eI .u8) (([]:List Int) ++ [65,4]))) (b1:=.sc (.int .u32 (IntKind.wrap .u32 c.fAS4))) (gt (p:=.own 4003 (List.length (α:=Int) (([]:List Int) ++ [65,4])) (SL (eI .u8) (([]:List Int) ++ [65,4]))) (q:=.any) (hd 2 (by decide))) (gt (p:=.sc (.int .u32 (IntKind.wrap .u32 c.fAS4))) (q:=.any) (hd 5 (by decide))))) rfl rfl rfl Tryz.func87 rfl rfl (A3F (([]:List Int) ++ [65,4]) (IntKind.wrap .u32 c.fAS4) (by first | ((try simp only [zB,zC,zD,B7,A7,A6]); omega) | ((try simp only [z1,z2,z3,z4,z5,z6,z7,z8,z9,zA,zB,zC,zD,D2,C9,C4,C3,C5,B5,B6,B7,A7,A6] at *); omega))) rfl rfl rfl rfl rfl rfl (by decide) fn' (fc rfl fn') ((.cons (.one (.rfl _)) (.cons (.one (.rfl _)) .nil))) rfl (fun _=>rfl) (fun _=>rfl) rfl) (by kernel_rfl) rfl rfl rfl rfl rfl ?_ ?_
   ·refine fc ?_ (fc ?_ (fc ?_ (fn')))
    ·exact E7 (i:=3) (q:=.loc 1 1) rfl rfl rfl (fun bD hc hi hd=>C1 rfl (D3 (b:=1) (k:=0) (m:=1) rfl rfl rfl Q6 rfl rfl))
    ·exact E7 (i:=4) (q:=.sc (.int .i64 c.fAS4)) rfl rfl rfl (fun bD hc hi hd=>C1 rfl (F4 (s:=1) (off:=1) (ps:=(B0.cells c)) (p:=.sc (.int .i64 c.fAS4)) rfl rfl rfl ty3 (gt (p:=.loc 1 1) (q:=.any) (hd 3 (by decide))) rfl rfl rfl rfl))
    ·exact E7 (i:=5) (q:=.sc (.int .u32 (IntKind.wrap .u32 c.fAS4))) rfl rfl rfl (fun bD hc hi hd=>C1 rfl (G8 (m:=(IntKind.wrap .u32 c.fAS4)) rfl rfl rfl Tryz.underlying3 Tryz.underlying27 (gt (p:=.sc (.int .i64 c.fAS4)) (q:=.any) (hd 4 (by decide))) rfl))
   refine P6 [7] (by kernel_rfl) ?_ (fun bD hb=>?_)
   ·refine fc ?_ (fn')
    ·exact E7 (i:=7) (q:=.own 4003 (List.length (α:=Int) (J9 (([]:List Int) ++ [65,4]) (IntKind.wrap .u32 c.fAS4))) (SL (eI .u8) (J9 (([]:List Int) ++ [65,4]) (IntKind.wrap .u32 c.fAS4)))) rfl rfl rfl (fun bD hc hi hd=>C1 rfl (C7 (p:=.own 4003 (List.length (α:=Int) (J9 (([]:List Int) ++ [65,4]) (IntKind.wrap .u32 c.fAS4))) (SL (eI .u8) (J9 (([]:List Int) ++ [65,4]) (IntKind.wrap .u32 c.fAS4)))) rfl rfl rfl (gt (p:=.own 4003 (List.length (α:=Int) (J9 (([]:List Int) ++ [65,4]) (IntKind.wrap .u32 c.fAS4))) (SL (eI .u8) (J9 (([]:List Int) ++ [65,4]) (IntKind.wrap .u32 c.fAS4)))) (q:=.any) (hd 6 (by decide)))))
   obtain rfl:bD=fun _=>true:=funext hb
   exact ⟨(J9 (([]:List Int) ++ [65,4]) (IntKind.wrap .u32 c.fAS4)),⟨(bT k2 rfl),(show (J9 (([]:List Int) ++ [65,4]) (IntKind.wrap .u32 c.fAS4)).length ≤ 6 from (by first | ((try simp only [zB,zC,zD,B7,A7,A6]); omega) | ((try simp only [z1,z2,z3,z4,z5,z6,z7,z8,z9,zA,zB,zC,zD,D2,C9,C4,C3,C5,B5,B6,B7,A7,A6] at *); omega)))⟩,(G9 rfl ⟨⟨rfl,(.agg (.cons (.rfl _) (.cons (.rfl _) (.cons (.rfl _) (.cons (.rfl _) (.cons (.rfl _) (.cons (.rfl _) (.cons (.rfl _) (.cons (.rfl _) (.cons (.rfl _) .nil))))))))))⟩,⟨⟨rfl,(.one (.rfl _))⟩,⟨⟨rfl,(.one (.rfl _))⟩,⟨⟨rfl,(.one (.rfl _))⟩,trivial⟩⟩⟩⟩ ⟨⟨(B0.cells c),rfl,(.cons (.rfl _) (.cons (.rfl _) (.cons (.rfl _) (.cons (.rfl _) (.cons (.rfl _) (.cons (.rfl _) (.cons (.rfl _) (.cons (.rfl _) (.cons (.rfl _) .nil)))))))))⟩,trivial⟩ ⟨rfl,trivial⟩)⟩
  ·skip
   refine F9 ?_
   exact ⟨([]:List Int),⟨(bF k2 rfl),(show ([]:List Int).length ≤ 6 from (by first | ((try simp only [zB,zC,zD,B7,A7,A6]); omega) | ((try simp only [z1,z2,z3,z4,z5,z6,z7,z8,z9,zA,zB,zC,zD,D2,C9,C4,C3,C5,B5,B6,B7,A7,A6] at *); omega)))⟩,(G9 rfl ⟨⟨rfl,(.agg (.cons (.rfl _) (.cons (.rfl _) (.cons (.rfl _) (.cons (.rfl _) (.cons (.rfl _) (.cons (.rfl _) (.cons (.rfl _) (.cons (.rfl _) (.cons (.rfl _) .nil))))))))))⟩,⟨⟨rfl,(.one (.rfl _))⟩,⟨⟨rfl,(.one (.rfl _))⟩,⟨⟨rfl,(.one (.rfl _))⟩,trivial⟩⟩⟩⟩ ⟨⟨(B0.cells c),rfl,(.cons (.rfl _) (.cons (.rfl _) (.cons (.rfl _) (.cons (.rfl _) (.cons (.rfl _) (.cons (.rfl _) (.cons (.rfl _) (.cons (.rfl _) (.cons (.rfl _) .nil)))))))))⟩,trivial⟩ ⟨rfl,trivial⟩)⟩
 ·skip
  obtain ⟨e1,hb3⟩:=e1
  refine P8 3 rfl (fun hl4=>?_)
  refine N8 (ι:=List Int) (p:=fun y_5=>((bif c.fGR then (thn ((bif c.fFamily then ([(ior .u8 (F8 c.fRestarting) (IntKind.wrap .u8 (Int.fdiv c.fTime (2 ^ 8)))),(IntKind.wrap .u8 c.fTime)] ++ [0,1,1,(F8 c.fForward)]) else [(ior .u8 (F8 c.fRestarting) (IntKind.wrap .u8 (Int.fdiv c.fTime (2 ^ 8)))),(IntKind.wrap .u8 c.fTime)])) fun (y_6:List Int)=>((y_1 ++ [64,(IntKind.wrap .u8 (y_6.length:Int))]) ++ y_6)) else y_1))=y_5 ∧ y_5.length ≤ 14) (S:=fun y_5=>St.of 61 [(0,.agg (B0.cells c)),(1,.loc 1 0),(2,.sc (.slice none 0 0)),(3,.own 4003 y_5.length (SL (eI .u8) y_5))] [(1,(B0.cells c))] [(4003,(1,y_5.length))]) ?_ (fun y_5 e5=>?_)
  ·skip
   refine C6 ?_
   refine B8 ?_
   refine B4 rfl (D3 (b:=1) (k:=0) (m:=2) rfl rfl rfl A0e rfl rfl) ?_
   refine B4 rfl (F4 (s:=1) (off:=2) (ps:=(B0.cells c)) (p:=.sc (.bool c.fGR)) rfl rfl rfl ty4 rfl rfl rfl rfl rfl) ?_
   refine D4 ?_
   refine F6 (b:=c.fGR) rfl (fun k6=>?_) (fun k6=>?_)
   ·skip
    refine C6 ?_
    refine S9 (ds:=[some 16,some 17,some 18,some 19,some 20,some 21,some 22,some 23,some 24,some 25,some 26,some 27,some 4]) (ks:=[11]) (ps:=[.loc 1 3,.sc (.bool c.fRestarting),.sc (.int .u8 (F8 c.fRestarting)),.loc 1 4,.sc (.int .i64 c.fTime),.sc (.int .i64 (Int.fdiv c.fTime (2 ^ 8))),.sc (.int .u8 (IntKind.wrap .u8 (Int.fdiv c.fTime (2 ^ 8)))),.sc (.int .u8 (ior .u8 (F8 c.fRestarting) (IntKind.wrap .u8 (Int.fdiv c.fTime (2 ^ 8))))),.loc 1 4,.sc (.int .i64 c.fTime),.sc (.int .u8 (IntKind.wrap .u8 c.fTime)),.any,.any]) rfl (by kernel_rfl) rfl rfl ?_
    refine A4h (d:=27) (q:=.own 27 (List.length (α:=Int) [(ior .u8 (F8 c.fRestarting) (IntKind.wrap .u8 (Int.fdiv c.fTime (2 ^ 8)))),(IntKind.wrap .u8 c.fTime)]) (SL (eI .u8) [(ior .u8 (F8 c.fRestarting) (IntKind.wrap .u8 (Int.fdiv c.fTime (2 ^ 8)))),(IntKind.wrap .u8 c.fTime)])) (tp:=27) (x:=some (1,(List.length (α:=Int) [(ior .u8 (F8 c.fRestarting) (IntKind.wrap .u8 (Int.fdiv c.fTime (2 ^ 8)))),(IntKind.wrap .u8 c.fTime)]))) (k:=11) (qs:=[.loc 1 3,.sc (.bool c.fRestarting),.sc (.int .u8 (F8 c.fRestarting)),.loc 1 4,.sc (.int .i64 c.fTime),.sc (.int .i64 (Int.fdiv c.fTime (2 ^ 8))),.sc (.int .u8 (IntKind.wrap .u8 (Int.fdiv c.fTime (2 ^ 8)))),.sc (.int .u8 (ior .u8 (F8 c.fRestarting) (IntKind.wrap .u8 (Int.fdiv c.fTime (2 ^ 8))))),.loc 1 4,.sc (.int .i64 c.fTime),.sc (.int .u8 (IntKind.wrap .u8 c.fTime)),.own 27 (List.length (α:=Int) [(ior .u8 (F8 c.fRestarting) (IntKind.wrap .u8 (Int.fdiv c.fTime (2 ^ 8)))),(IntKind.wrap .u8 c.fTime)]) (SL (eI .u8) [(ior .u8 (F8 c.fRestarting) (IntKind.wrap .u8 (Int.fdiv c.fTime (2 ^ 8)))),(IntKind.wrap .u8 c.fTime)]),.own 27 (List.length (α:=Int) [(ior .u8 (F8 c.fRestarting) (IntKind.wrap .u8 (Int.fdiv c.fTime (2 ^ 8)))),(IntKind.wrap .u8 c.fTime)]) (SL (eI .u8) [(ior .u8 (F8 c.fRestarting) (IntKind.wrap .u8 (Int.fdiv c.fTime (2 ^ 8)))),(IntKind.wrap .u8 c.fTime)])]) [0,1,2,3,4,5,6,7,8,9,10] [true,true,true,true,true,true,true,true,true,true,true,false,false] (by kernel_rfl) (by kernel_rfl) rfl rfl rfl (by kernel_rfl) rfl rfl rfl rfl rfl ?_ (fun bD hc hi hd=>by exact A3Y (E:=(eI .u8)) (l:=[(ior .u8 (F8 c.fRestarting) (IntKind.wrap .u8 (Int.fdiv c.fTime (2 ^ 8)))),(IntKind.wrap .u8 c.fTime)]) (tp:=27) (parts:=[(0,.tmp 23),(1,.tmp 26)]) (pps:=[(0,.sc (.int .u8 (ior .u8 (F8 c.fRestarting) (IntKind.wrap .u8 (Int.fdiv c.fTime (2 ^ 8)))))),(1,.sc (.int .u8 (IntKind.wrap .u8 c.fTime)))]) (qs:=[.sc (.int .u8 (ior .u8 (F8 c.fRestarting) (IntKind.wrap .u8 (Int.fdiv c.fTime (2 ^ 8))))),.sc (.int .u8 (IntKind.wrap .u8 c.fTime))]) rfl rfl rfl N3 rfl rfl (A7G (b0:=.sc (.int .u8 (ior .u8 (F8 c.fRestarting) (IntKind.wrap .u8 (Int.fdiv c.fTime (2 ^ 8)))))) (b1:=.sc (.int .u8 (IntKind.wrap .u8 c.fTime))) (gt (p:=.sc (.int .u8 (ior .u8 (F8 c.fRestarting) (IntKind.wrap .u8 (Int.fdiv c.fTime (2 ^ 8)))))) (q:=.any) (hd 7 (by decide))) (gt (p:=.sc (.int .u8 (IntKind.wrap .u8 c.fTime))) (q:=.any) (hd 10 (by decide)))) rfl rfl) ?_
    ·refine fc ?_ (fc ?_ (fc ?_ (fc ?_ (fc ?_ (fc ?_ (fc ?_ (fc ?_ (fc ?_ (fc ?_ (fc ?_ (fn')))))))))))
     ·exact E7 (i:=0) (q:=.loc 1 3) rfl rfl rfl (fun bD hc hi hd=>C1 rfl (D3 (b:=1) (k:=0) (m:=3) rfl rfl rfl A0g rfl rfl))
     ·exact E7 (i:=1) (q:=.sc (.bool c.fRestarting)) rfl rfl rfl (fun bD hc hi hd=>C1 rfl (F4 (s:=1) (off:=3) (ps:=(B0.cells c)) (p:=.sc (.bool c.fRestarting)) rfl rfl rfl ty4 (gt (p:=.loc 1 3) (q:=.any) (hd 0 (by decide))) rfl rfl rfl rfl))
     ·exact E7 (i:=2) (q:=.sc (.int .u8 (F8 c.fRestarting))) rfl rfl rfl (fun bD hc hi hd=>C1 rfl (I1 (fn:=Tryz.f120) (xs:=[.tmp 17]) (args:=[.sc (.bool c.fRestarting)]) (r:=.sc (.int .u8 (F8 c.fRestarting))) rfl rfl rfl Tryz.func120 rfl rfl (T9 (b0:=.sc (.bool c.fRestarting)) (gt (p:=.sc (.bool c.fRestarting)) (q:=.any) (hd 1 (by decide)))) rfl rfl (A1n c.fRestarting)))
     ·exact E7 (i:=3) (q:=.loc 1 4) rfl rfl rfl (fun bD hc hi hd=>C1 rfl (D3 (b:=1) (k:=0) (m:=4) rfl rfl rfl V2 rfl rfl))
     ·exact E7 (i:=4) (q:=.sc (.int .i64 c.fTime)) rfl rfl rfl (fun bD hc hi hd=>C1 rfl (F4 (s:=1) (off:=4) (ps:=(B0.cells c)) (p:=.sc (.int .i64 c.fTime)) rfl rfl rfl ty3 (gt (p:=.loc 1 4) (q:=.any) (hd 3 (by decide))) rfl rfl rfl rfl))
     ·exact E7 (i:=5) (q:=.sc (.int .i64 (Int.fdiv c.fTime (2 ^ 8)))) rfl rfl rfl (fun bD hc hi hd=>C1 rfl (E6 (u1:=.int .i64 c.fTime) (u2:=.int .u64 8) (v:=.int .i64 (Int.fdiv c.fTime (2 ^ 8))) rfl rfl rfl (gt (p:=.sc (.int .i64 c.fTime)) (q:=.any) (hd 4 (by decide))) rfl (fun _=>rfl)))
     ·exact E7 (i:=6) (q:=.sc (.int .u8 (IntKind.wrap .u8 (Int.fdiv c.fTime (2 ^ 8))))) rfl rfl rfl (fun bD hc hi hd=>C1 rfl (G8 (m:=(IntKind.wrap .u8 (Int.fdiv c.fTime (2 ^ 8)))) rfl rfl rfl Tryz.underlying3 Tryz.underlying5 (gt (p:=.sc (.int .i64 (Int.fdiv c.fTime (2 ^ 8)))) (q:=.any) (hd 5 (by decide))) rfl))
     ·exact E7 (i:=7) (q:=.sc (.int .u8 (ior .u8 (F8 c.fRestarting) (IntKind.wrap .u8 (Int.fdiv c.fTime (2 ^ 8)))))) rfl rfl rfl (fun bD hc hi hd=>C1 rfl (E6 (u1:=.int .u8 (F8 c.fRestarting)) (u2:=.int .u8 (IntKind.wrap .u8 (Int.fdiv c.fTime (2 ^ 8)))) (v:=.int .u8 (ior .u8 (F8 c.fRestarting) (IntKind.wrap .u8 (Int.fdiv c.fTime (2 ^ 8))))) rfl rfl rfl (gt (p:=.sc (.int .u8 (F8 c.fRestarting))) (q:=.any) (hd 2 (by decide))) (gt (p:=.sc (.int .u8 (IntKind.wrap .u8 (Int.fdiv c.fTime (2 ^ 8))))) (q:=.any) (hd 6 (by decide))) (fun _=>rfl)))
     ·exact E7 (i:=8) (q:=.loc 1 4) rfl rfl rfl (fun bD hc hi hd=>C1 rfl (D3 (b:=1) (k:=0) (m:=4) rfl rfl rfl V2 rfl rfl))
     ·exact E7 (i:=9) (q:=.sc (.int .i64 c.fTime)) rfl rfl rfl (fun bD hc hi hd=>C1 rfl (F4 (s:=1) (off:=4) (ps:=(B0.cells c)) (p:=.sc (.int .i64 c.fTime)) rfl rfl rfl ty3 (gt (p:=.loc 1 4) (q:=.any) (hd 8 (by decide))) rfl rfl rfl rfl))
     ·exact E7 (i:=10) (q:=.sc (.int .u8 (IntKind.wrap .u8 c.fTime))) rfl rfl rfl (fun bD hc hi hd=>C1 rfl (G8 (m:=(IntKind.wrap .u8 c.fTime)) rfl rfl rfl Tryz.underlying3 Tryz.underlying5 (gt (p:=.sc (.int .i64 c.fTime)) (q:=.any) (hd 9 (by decide))) rfl))
    refine P6 [12] (by kernel_rfl) ?_ (fun bD hb=>?_)
    ·refine fc ?_ (fn')
     ·exact E7 (i:=12) (q:=.own 27 (List.length (α:=Int) [(ior .u8 (F8 c.fRestarting) (IntKind.wrap .u8 (Int.fdiv c.fTime (2 ^ 8)))),(IntKind.wrap .u8 c.fTime)]) (SL (eI .u8) [(ior .u8 (F8 c.fRestarting) (IntKind.wrap .u8 (Int.fdiv c.fTime (2 ^ 8)))),(IntKind.wrap .u8 c.fTime)])) rfl rfl rfl (fun bD hc hi hd=>C1 rfl (C7 (p:=.own 27 (List.length (α:=Int) [(ior .u8 (F8 c.fRestarting) (IntKind.wrap .u8 (Int.fdiv c.fTime (2 ^ 8)))),(IntKind.wrap .u8 c.fTime)]) (SL (eI .u8) [(ior .u8 (F8 c.fRestarting) (IntKind.wrap .u8 (Int.fdiv c.fTime (2 ^ 8)))),(IntKind.wrap .u8 c.fTime)])) rfl rfl rfl (gt (p:=.own 27 (List.length (α:=Int) [(ior .u8 (F8 c.fRestarting) (IntKind.wrap .u8 (Int.fdiv c.fTime (2 ^ 8)))),(IntKind.wrap .u8 c.fTime)]) (SL (eI .u8) [(ior .u8 (F8 c.fRestarting) (IntKind.wrap .u8 (Int.fdiv c.fTime (2 ^ 8)))),(IntKind.wrap .u8 c.fTime)])) (q:=.any) (hd 11 (by decide)))))
    obtain rfl:bD=fun _=>true:=funext hb
    refine N8 (ι:=List Int) (p:=fun y_7=>((bif c.fFamily then ([(ior .u8 (F8 c.fRestarting) (IntKind.wrap .u8 (Int.fdiv c.fTime (2 ^ 8)))),(IntKind.wrap .u8 c.fTime)] ++ [0,1,1,(F8 c.fForward)]) else [(ior .u8 (F8 c.fRestarting) (IntKind.wrap .u8 (Int.fdiv c.fTime (2 ^ 8)))),(IntKind.wrap .u8 c.fTime)]))=y_7 ∧ y_7.length ≤ 6) (S:=fun y_7=>St.of 61 [(0,.agg (B0.cells c)),(1,.loc 1 0),(2,.sc (.slice none 0 0)),(3,.own 4003 y_1.length (SL (eI .u8) y_1)),(4,.own 27 y_7.length (SL (eI .u8) y_7))] [(1,(B0.cells c))] [(27,(1,y_7.length)),(4003,(1,y_1.length))]) ?_ (fun y_7 e7=>?_)
    ·skip
     refine C6 ?_
     refine B8 ?_
     refine B4 rfl (D3 (b:=1) (k:=0) (m:=5) rfl rfl rfl T8 rfl rfl) ?_
     refine B4 rfl (F4 (s:=1) (off:=5) (ps:=(B0.cells c)) (p:=.sc (.bool c.fFamily)) rfl rfl rfl ty4 rfl rfl rfl rfl rfl) ?_
     refine D4 ?_
     refine F6 (b:=c.fFamily) rfl (fun k8=>?_) (fun k8=>?_)
     ·skip
      refine B8 ?_
      refine B4 rfl (C2 (p:=.own 27 (List.length (α:=Int) [(ior .u8 (F8 c.fRestarting) (IntKind.wrap .u8 (Int.fdiv c.fTime (2 ^ 8)))),(IntKind.wrap .u8 c.fTime)]) (SL (eI .u8) [(ior .u8 (F8 c.fRestarting) (IntKind.wrap .u8 (Int.fdiv c.fTime (2 ^ 8)))),(IntKind.wrap .u8 c.fTime)])) rfl rfl rfl rfl) ?_
      refine B4 rfl (D3 (b:=1) (k:=0) (m:=6) rfl rfl rfl j3 rfl rfl) ?_
      refine B4 rfl (F4 (s:=1) (off:=6) (ps:=(B0.cells c)) (p:=.sc (.bool c.fForward)) rfl rfl rfl ty4 rfl rfl rfl rfl rfl) ?_
      refine B4 rfl (I1 (fn:=Tryz.f120) (xs:=[.tmp 32]) (args:=[.sc (.bool c.fForward)]) (r:=.sc (.int .u8 (F8 c.fForward))) rfl rfl rfl Tryz.func120 rfl rfl rfl rfl rfl (A1n c.fForward)) ?_
      refine B4 rfl (I4 (E:=(eI .u8)) (l:=[0,1,1,(F8 c.fForward)]) (tp:=34) (parts:=[(0,.const (.int .u8 0)),(1,.const (.int .u8 1)),(2,.const (.int .u8 1)),(3,.tmp 33)]) (qs:=[.sc (.int .u8 0),.sc (.int .u8 1),.sc (.int .u8 1),.sc (.int .u8 (F8 c.fForward))]) rfl rfl rfl N3 rfl rfl rfl rfl) ?_
      refine B4 rfl (K1 (E:=(eI .u8)) (l:=[(ior .u8 (F8 c.fRestarting) (IntKind.wrap .u8 (Int.fdiv c.fTime (2 ^ 8)))),(IntKind.wrap .u8 c.fTime)]) (ext:=[0,1,1,(F8 c.fForward)]) (tp:=27) rfl rfl rfl N3 rfl rfl (Q1 rfl) (by first | ((try simp only [zB,zC,zD,B7,A7,A6]); omega) | ((try simp only [z1,z2,z3,z4,z5,z6,z7,z8,z9,zA,zB,zC,zD,D2,C9,C4,C3,C5,B5,B6,B7,A7,A6] at *); omega))) ?_
      refine B4 rfl (C7 (p:=.own 27 (List.length (α:=Int) ([(ior .u8 (F8 c.fRestarting) (IntKind.wrap .u8 (Int.fdiv c.fTime (2 ^ 8)))),(IntKind.wrap .u8 c.fTime)] ++ [0,1,1,(F8 c.fForward)])) (SL (eI .u8) ([(ior .u8 (F8 c.fRestarting) (IntKind.wrap .u8 (Int.fdiv c.fTime (2 ^ 8)))),(IntKind.wrap .u8 c.fTime)] ++ [0,1,1,(F8 c.fForward)]))) rfl rfl rfl rfl) ?_
      refine D4 ?_
      exact ⟨([(ior .u8 (F8 c.fRestarting) (IntKind.wrap .u8 (Int.fdiv c.fTime (2 ^ 8)))),(IntKind.wrap .u8 c.fTime)] ++ [0,1,1,(F8 c.fForward)]),⟨(bT k8 rfl),(show ([(ior .u8 (F8 c.fRestarting) (IntKind.wrap .u8 (Int.fdiv c.fTime (2 ^ 8)))),(IntKind.wrap .u8 c.fTime)] ++ [0,1,1,(F8 c.fForward)]).length ≤ 6 from (by first | ((try simp only [zB,zC,zD,B7,A7,A6]); omega) | ((try simp only [z1,z2,z3,z4,z5,z6,z7,z8,z9,zA,zB,zC,zD,D2,C9,C4,C3,C5,B5,B6,B7,A7,A6] at *); omega)))⟩,(G9 rfl ⟨⟨rfl,(.agg (.cons (.rfl _) (.cons (.rfl _) (.cons (.rfl _) (.cons (.rfl _) (.cons (.rfl _) (.cons (.rfl _) (.cons (.rfl _) (.cons (.rfl _) (.cons (.rfl _) .nil))))))))))⟩,⟨⟨rfl,(.one (.rfl _))⟩,⟨⟨rfl,(.one (.rfl _))⟩,⟨⟨rfl,(.one (.rfl _))⟩,⟨⟨rfl,(.one (.rfl _))⟩,trivial⟩⟩⟩⟩⟩ ⟨⟨(B0.cells c),rfl,(.cons (.rfl _) (.cons (.rfl _) (.cons (.rfl _) (.cons (.rfl _) (.cons (.rfl _) (.cons (.rfl _) (.cons (.rfl _) (.cons (.rfl _) (.cons (.rfl _) .nil)))))))))⟩,trivial⟩ ⟨rfl,⟨rfl,trivial⟩⟩)⟩
     ·skip
      refine F9 ?_
      exact ⟨[(ior .u8 (F8 c.fRestarting) (IntKind.wrap .u8 (Int.fdiv c.fTime (2 ^ 8)))),(IntKind.wrap .u8 c.fTime)],⟨(bF k8 rfl),(show [(ior .u8 (F8 c.fRestarting) (IntKind.wrap .u8 (Int.fdiv c.fTime (2 ^ 8)))),(IntKind.wrap .u8 c.fTime)].length ≤ 6 from (by first | ((try simp only [zB,zC,zD,B7,A7,A6]); omega) | ((try simp only [z1,z2,z3,z4,z5,z6,z7,z8,z9,zA,zB,zC,zD,D2,C9,C4,C3,C5,B5,B6,B7,A7,A6] at *); omega)))⟩,(G9 rfl ⟨⟨rfl,(.agg (.cons (.rfl _) (.cons (.rfl _) (.cons (.rfl _) (.cons (.rfl _) (.cons (.rfl _) (.cons (.rfl _) (.cons (.rfl _) (.cons (.rfl _) (.cons (.rfl _) .nil))))))))))⟩,⟨⟨rfl,(.one (.rfl _))⟩,⟨⟨rfl,(.one (.rfl _))⟩,⟨⟨rfl,(.one (.rfl _))⟩,⟨⟨rfl,(.one (.rfl _))⟩,trivial⟩⟩⟩⟩⟩ ⟨⟨(B0.cells c),rfl,(.cons (.rfl _) (.cons (.rfl _) (.cons (.rfl _) (.cons (.rfl _) (.cons (.rfl _) (.cons (.rfl _) (.cons (.rfl _) (.cons (.rfl _) (.cons (.rfl _) .nil)))))))))⟩,trivial⟩ ⟨rfl,⟨rfl,trivial⟩⟩)⟩
    ·skip
     obtain ⟨e7,hb9⟩:=e7
     refine P8 3 rfl (fun hl10=>?_)
     refine P8 4 rfl (fun hl11=>?_)
     refine B8 ?_
     refine B4 rfl (C2 (p:=.own 4003 y_1.length (SL (eI .u8) y_1)) rfl rfl rfl rfl) ?_
     refine B4 rfl (C2 (p:=.own 27 y_7.length (SL (eI .u8) y_7)) rfl rfl rfl rfl) ?_
     refine B4 rfl (L6 rfl rfl rfl Tryz.underlying22 (Q1 rfl)) ?_
     refine B4 rfl (G8 (m:=(IntKind.wrap .u8 (y_7.length:Int))) rfl rfl rfl Tryz.underlying3 Tryz.underlying5 rfl rfl) ?_
     refine B4 rfl (I4 (E:=(eI .u8)) (l:=[64,(IntKind.wrap .u8 (y_7.length:Int))]) (tp:=40) (parts:=[(0,.const (.int .u8 64)),(1,.tmp 39)]) (qs:=[.sc (.int .u8 64),.sc (.int .u8 (IntKind.wrap .u8 (y_7.length:Int)))]) rfl rfl rfl N3 rfl rfl rfl rfl) ?_
     refine B4 rfl (K1 (E:=(eI .u8)) (l:=y_1) (ext:=[64,(IntKind.wrap .u8 (y_7.length:Int))]) (tp:=4003) rfl rfl rfl N3 rfl rfl (Q1 rfl) (by first | ((try simp only [zB,zC,zD,B7,A7,A6]); omega) | ((try simp only [z1,z2,z3,z4,z5,z6,z7,z8,z9,zA,zB,zC,zD,D2,C9,C4,C3,C5,B5,B6,B7,A7,A6] at *); omega))) ?_
     refine B4 rfl (C2 (p:=.own 27 y_7.length (SL (eI .u8) y_7)) rfl rfl rfl rfl) ?_
     refine B4 rfl (K1 (E:=(eI .u8)) (l:=(y_1 ++ [64,(IntKind.wrap .u8 (y_7.length:Int))])) (ext:=y_7) (tp:=4003) rfl rfl rfl N3 rfl rfl (Q1 rfl) (by first | ((try simp only [zB,zC,zD,B7,A7,A6]); omega) | ((try simp only [z1,z2,z3,z4,z5,z6,z7,z8,z9,zA,zB,zC,zD,D2,C9,C4,C3,C5,B5,B6,B7,A7,A6] at *); omega))) ?_
     refine B4 rfl (C7 (p:=.own 4003 (List.length (α:=Int) ((y_1 ++ [64,(IntKind.wrap .u8 (y_7.length:Int))]) ++ y_7)) (SL (eI .u8) ((y_1 ++ [64,(IntKind.wrap .u8 (y_7.length:Int))]) ++ y_7))) rfl rfl rfl rfl) ?_
     refine D4 ?_
     exact ⟨((y_1 ++ [64,(IntKind.wrap .u8 (y_7.length:Int))]) ++ y_7),⟨(bT k6 (mB e7 rfl)),(show ((y_1 ++ [64,(IntKind.wrap .u8 (y_7.length:Int))]) ++ y_7).length ≤ 14 from (by first | ((try simp only [zB,zC,zD,B7,A7,A6]); omega) | ((try simp only [z1,z2,z3,z4,z5,z6,z7,z8,z9,zA,zB,zC,zD,D2,C9,C4,C3,C5,B5,B6,B7,A7,A6] at *); omega)))⟩,(G9 rfl ⟨⟨rfl,(.agg (.cons (.rfl _) (.cons (.rfl _) (.cons (.rfl _) (.cons (.rfl _) (.cons (.rfl _) (.cons (.rfl _) (.cons (.rfl _) (.cons (.rfl _) (.cons (.rfl _) .nil))))))))))⟩,⟨⟨rfl,(.one (.rfl _))⟩,⟨⟨rfl,(.one (.rfl _))⟩,⟨⟨rfl,(.one (.rfl _))⟩,trivial⟩⟩⟩⟩ ⟨⟨(B0.cells c),rfl,(.cons (.rfl _) (.cons (.rfl _) (.cons (.rfl _) (.cons (.rfl _) (.cons (.rfl _) (.cons (.rfl _) (.cons (.rfl _) (.cons (.rfl _) (.cons (.rfl _) .nil)))))))))⟩,trivial⟩ ⟨rfl,trivial⟩)⟩
   ·skip
    refine F9 ?_
    exact ⟨y_1,⟨(bF k6 rfl),(show y_1.length ≤ 14 from (by first | ((try simp only [zB,zC,zD,B7,A7,A6]); omega) | ((try simp only [z1,z2,z3,z4,z5,z6,z7,z8,z9,zA,zB,zC,zD,D2,C9,C4,C3,C5,B5,B6,B7,A7,A6] at *); omega)))⟩,(G9 rfl ⟨⟨rfl,(.agg (.cons (.rfl _) (.cons (.rfl _) (.cons (.rfl _) (.cons (.rfl _) (.cons (.rfl _) (.cons (.rfl _) (.cons (.rfl _) (.cons (.rfl _) (.cons (.rfl _) .nil))))))))))⟩,⟨⟨rfl,(.one (.rfl _))⟩,⟨⟨rfl,(.one (.rfl _))⟩,⟨⟨rfl,(.one (.rfl _))⟩,trivial⟩⟩⟩⟩ ⟨⟨(B0.cells c),rfl,(.cons (.rfl _) (.cons (.rfl _) (.cons (.rfl _) (.cons (.rfl _) (.cons (.rfl _) (.cons (.rfl _) (.cons (.rfl _) (.cons (.rfl _) (.cons (.rfl _) .nil)))))))))⟩,trivial⟩ ⟨rfl,trivial⟩)⟩
  ·skip
   obtain ⟨e5,hb12⟩:=e5
   refine P8 3 rfl (fun hl13=>?_)
   refine N8 (ι:=List Int) (p:=fun y_14=>((bif c.fLL then (y_5 ++ [71,7,0,1,1,0,(IntKind.wrap .u8 (Int.fdiv c.fLLTime (2 ^ 16))),(IntKind.wrap .u8 (Int.fdiv c.fLLTime (2 ^ 8))),(IntKind.wrap .u8 c.fLLTime)]) else y_5))=y_14 ∧ y_14.length ≤ 23) (S:=fun y_14=>St.of 61 [(0,.agg (B0.cells c)),(1,.loc 1 0),(2,.sc (.slice none 0 0)),(3,.own 4003 y_14.length (SL (eI .u8) y_14))] [(1,(B0.cells c))] [(4003,(1,y_14.length))]) ?_ (fun y_14 e14=>?_)
   ·skip
    refine C6 ?_
    refine B8 ?_
    refine B4 rfl (D3 (b:=1) (k:=0) (m:=7) rfl rfl rfl W6 rfl rfl) ?_
    refine B4 rfl (F4 (s:=1) (off:=7) (ps:=(B0.cells c)) (p:=.sc (.bool c.fLL)) rfl rfl rfl ty4 rfl rfl rfl rfl rfl) ?_
    refine D4 ?_
    refine F6 (b:=c.fLL) rfl (fun k15=>?_) (fun k15=>?_)
    ·skip
     refine B8 ?_
     refine B4 rfl (C2 (p:=.own 4003 y_5.length (SL (eI .u8) y_5)) rfl rfl rfl rfl) ?_
     refine B4 rfl (D3 (b:=1) (k:=0) (m:=8) rfl rfl rfl S3 rfl rfl) ?_
     refine B4 rfl (F4 (s:=1) (off:=8) (ps:=(B0.cells c)) (p:=.sc (.int .i64 c.fLLTime)) rfl rfl rfl ty3 rfl rfl rfl rfl rfl) ?_
     refine B4 rfl (E6 (u1:=.int .i64 c.fLLTime) (u2:=.int .u64 16) (v:=.int .i64 (Int.fdiv c.fLLTime (2 ^ 16))) rfl rfl rfl rfl rfl (fun _=>rfl)) ?_
     refine B4 rfl (G8 (m:=(IntKind.wrap .u8 (Int.fdiv c.fLLTime (2 ^ 16)))) rfl rfl rfl Tryz.underlying3 Tryz.underlying5 rfl rfl) ?_
     refine B4 rfl (D3 (b:=1) (k:=0) (m:=8) rfl rfl rfl S3 rfl rfl) ?_
     refine B4 rfl (F4 (s:=1) (off:=8) (ps:=(B0.cells c)) (p:=.sc (.int .i64 c.fLLTime)) rfl rfl rfl ty3 rfl rfl rfl rfl rfl) ?_
     refine B4 rfl (E6 (u1:=.int .i64 c.fLLTime) (u2:=.int .u64 8) (v:=.int .i64 (Int.fdiv c.fLLTime (2 ^ 8))) rfl rfl rfl rfl rfl (fun _=>rfl)) ?_
     refine B4 rfl (G8 (m:=(IntKind.wrap .u8 (Int.fdiv c.fLLTime (2 ^ 8)))) rfl rfl rfl Tryz.underlying3 Tryz.underlying5 rfl rfl) ?_
     refine B4 rfl (D3 (b:=1) (k:=0) (m:=8) rfl rfl rfl S3 rfl rfl) ?_
     refine B4 rfl (F4 (s:=1) (off:=8) (ps:=(B0.cells c)) (p:=.sc (.int .i64 c.fLLTime)) rfl rfl rfl ty3 rfl rfl rfl rfl rfl) ?_
     refine B4 rfl (G8 (m:=(IntKind.wrap .u8 c.fLLTime)) rfl rfl rfl Tryz.underlying3 Tryz.underlying5 rfl rfl) ?_
     refine B4 rfl (I4 (E:=(eI .u8)) (l:=[71,7,0,1,1,0,(IntKind.wrap .u8 (Int.fdiv c.fLLTime (2 ^ 16))),(IntKind.wrap .u8 (Int.fdiv c.fLLTime (2 ^ 8))),(IntKind.wrap .u8 c.fLLTime)]) (tp:=58) (parts:=[(0,.const (.int .u8 71)),(1,.const (.int .u8 7)),(2,.const (.int .u8 0)),(3,.const (.int .u8 1)),(4,.const (.int .u8 1)),(5,.const (.int .u8 0)),(6,.tmp 50),(7,.tmp 54),(8,.tmp 57)]) (qs:=[.sc (.int .u8 71),.sc (.int .u8 7),.sc (.int .u8 0),.sc (.int .u8 1),.sc (.int .u8 1),.sc (.int .u8 0),.sc (.int .u8 (IntKind.wrap .u8 (Int.fdiv c.fLLTime (2 ^ 16)))),.sc (.int .u8 (IntKind.wrap .u8 (Int.fdiv c.fLLTime (2 ^ 8)))),.sc (.int .u8 (IntKind.wrap .u8 c.fLLTime))]) rfl rfl rfl N3 rfl rfl rfl rfl) ?_
     refine B4 rfl (K1 (E:=(eI .u8)) (l:=y_5) (ext:=[71,7,0,1,1,0,(IntKind.wrap .u8 (Int.fdiv c.fLLTime (2 ^ 16))),(IntKind.wrap .u8 (Int.fdiv c.fLLTime (2 ^ 8))),(IntKind.wrap .u8 c.fLLTime)]) (tp:=4003) rfl rfl rfl N3 rfl rfl (Q1 rfl) (by first | ((try simp only [zB,zC,zD,B7,A7,A6]); omega) | ((try simp only [z1,z2,z3,z4,z5,z6,z7,z8,z9,zA,zB,zC,zD,D2,C9,C4,C3,C5,B5,B6,B7,A7,A6] at *); omega))) ?_
     refine B4 rfl (C7 (p:=.own 4003 (List.length (α:=Int) (y_5 ++ [71,7,0,1,1,0,(IntKind.wrap .u8 (Int.fdiv c.fLLTime (2 ^ 16))),(IntKind.wrap .u8 (Int.fdiv c.fLLTime (2 ^ 8))),(IntKind.wrap .u8 c.fLLTime)])) (SL (eI .u8) (y_5 ++ [71,7,0,1,1,0,(IntKind.wrap .u8 (Int.fdiv c.fLLTime (2 ^ 16))),(IntKind.wrap .u8 (Int.fdiv c.fLLTime (2 ^ 8))),(IntKind.wrap .u8 c.fLLTime)]))) rfl rfl rfl rfl) ?_
     refine D4 ?_
     exact ⟨(y_5 ++ [71,7,0,1,1,0,(IntKind.wrap .u8 (Int.fdiv c.fLLTime (2 ^ 16))),(IntKind.wrap .u8 (Int.fdiv c.fLLTime (2 ^ 8))),(IntKind.wrap .u8 c.fLLTime)]),⟨(bT k15 rfl),(show (y_5 ++ [71,7,0,1,1,0,(IntKind.wrap .u8 (Int.fdiv c.fLLTime (2 ^ 16))),(IntKind.wrap .u8 (Int.fdiv c.fLLTime (2 ^ 8))),(IntKind.wrap .u8 c.fLLTime)]).length ≤ 23 from (by first | ((try simp only [zB,zC,zD,B7,A7,A6]); omega) | ((try simp only [z1,z2,z3,z4,z5,z6,z7,z8,z9,zA,zB,zC,zD,D2,C9,C4,C3,C5,B5,B6,B7,A7,A6] at *); omega)))⟩,(G9 rfl ⟨⟨rfl,(.agg (.cons (.rfl _) (.cons (.rfl _) (.cons (.rfl _) (.cons (.rfl _) (.cons (.rfl _) (.cons (.rfl _) (.cons (.rfl _) (.cons (.rfl _) (.cons (.rfl _) .nil))))))))))⟩,⟨⟨rfl,(.one (.rfl _))⟩,⟨⟨rfl,(.one (.rfl _))⟩,⟨⟨rfl,(.one (.rfl _))⟩,trivial⟩⟩⟩⟩ ⟨⟨(B0.cells c),rfl,(.cons (.rfl _) (.cons (.rfl _) (.cons (.rfl _) (.cons (.rfl _) (.cons (.rfl _) (.cons (.rfl _) (.cons (.rfl _) (.cons (.rfl _) (.cons (.rfl _) .nil)))))))))⟩,trivial⟩ ⟨rfl,trivial⟩)⟩
    ·skip
     refine F9 ?_
     exact ⟨y_5,⟨(bF k15 rfl),(show y_5.length ≤ 23 from (by first | ((try simp only [zB,zC,zD,B7,A7,A6]); omega) | ((try simp only [z1,z2,z3,z4,z5,z6,z7,z8,z9,zA,zB,zC,zD,D2,C9,C4,C3,C5,B5,B6,B7,A7,A6] at *); omega)))⟩,(G9 rfl ⟨⟨rfl,(.agg (.cons (.rfl _) (.cons (.rfl _) (.cons (.rfl _) (.cons (.rfl _) (.cons (.rfl _) (.cons (.rfl _) (.cons (.rfl _) (.cons (.rfl _) (.cons (.rfl _) .nil))))))))))⟩,⟨⟨rfl,(.one (.rfl _))⟩,⟨⟨rfl,(.one (.rfl _))⟩,⟨⟨rfl,(.one (.rfl _))⟩,trivial⟩⟩⟩⟩ ⟨⟨(B0.cells c),rfl,(.cons (.rfl _) (.cons (.rfl _) (.cons (.rfl _) (.cons (.rfl _) (.cons (.rfl _) (.cons (.rfl _) (.cons (.rfl _) (.cons (.rfl _) (.cons (.rfl _) .nil)))))))))⟩,trivial⟩ ⟨rfl,trivial⟩)⟩
   ·skip
    obtain ⟨e14,hb16⟩:=e14
    refine P8 3 rfl (fun hl17=>?_)
    refine C6 ?_
    refine B8 ?_
    refine B4 rfl (C2 (p:=.own 4003 y_14.length (SL (eI .u8) y_14)) rfl rfl rfl rfl) ?_
    refine B4 rfl (C7 (p:=.own 4003 y_14.length (SL (eI .u8) y_14)) rfl rfl rfl rfl) ?_
    refine D4 ?_
    refine G2 ?_
    exact F7 (F:=(fun (z:List Int)=>⟨[],[],.sem (SL (eI .u8) z)⟩)) (z:=(H0 c)) (v:=y_14) (mB e1 (mB e5 (mB e14 rfl))) rfl (.one (.tmp 2 (.sem (SL (eI .u8) y_14)) rfl) (.one (.rfl _)) rfl) trivial trivial
theorem A4w (c:B0):PF Tryz.prog 105 [.agg (B0.cells c)] (.sem (SL (eI .u8) (H0 c))):=M1 (A2B c) rfl
theorem A3Q (c:B0):(H0 c).length ≤ 40:=by
 simp only [H0,thn]
 cases c.fFour <;> cases c.fGR <;> cases c.fFamily <;> cases c.fLL <;> simp [J9]
def J7 (c:B0):List Int:=
 (bif (!(J5 c)) || (decide ((((H0 c).length:Int):Int)=0)) then
  []
 else
  ([2,(IntKind.wrap .u8 ((H0 c).length:Int))] ++ (H0 c)))
set_option maxRecDepth 100000 in
set_option maxHeartbeats 4000000 in
theorem A1G (c:B0):PG Tryz.prog 86 [] [] [.agg (B0.cells c)] (fun _:Unit=>True) (fun _=>(fun (z:List Int)=>⟨[],[],.sem (SL (eI .u8) z)⟩) (J7 c)):=by
 refine M4 (N:=20) (l:=[.tmp 2]) Tryz.func86 rfl rfl rfl (Nat.le_of_ble_eq_true rfl) fun w0 i0 F βs=>?_
 refine C6 ?_
 refine B8 ?_
 refine B4 rfl (q9 (s:=1) (p:=.agg (B0.cells c)) (qs:=(B0.cells c)) rfl rfl rfl rfl rfl rfl rfl) ?_
 refine B4 rfl (C7 (p:=.sc (.slice none 0 0)) rfl rfl rfl rfl) ?_
 refine D4 ?_
 refine C6 ?_
 refine B8 ?_
 refine B4 rfl (F4 (s:=1) (off:=0) (ps:=(B0.cells c)) (p:=.agg (B0.cells c)) rfl rfl rfl X9 rfl rfl rfl rfl rfl) ?_
 have hm1:=A3Q c
 refine B4 rfl (I1 (fn:=Tryz.f105) (xs:=[.tmp 4]) (args:=[.agg (B0.cells c)]) (r:=.sem (SL (eI .u8) (H0 c))) rfl rfl rfl Tryz.func105 rfl rfl rfl rfl rfl (A4w c)) ?_
 refine B4 rfl (C7 (p:=.sem (SL (eI .u8) (H0 c))) rfl rfl rfl rfl) ?_
 refine D4 ?_
 refine C6 ?_
 refine C6 ?_
 refine B8 ?_
 refine B4 rfl (F4 (s:=1) (off:=0) (ps:=(B0.cells c)) (p:=.agg (B0.cells c)) rfl rfl rfl X9 rfl rfl rfl rfl rfl) ?_
 refine B4 rfl (I1 (fn:=Tryz.f85) (xs:=[.tmp 6]) (args:=[.agg (B0.cells c)]) (r:=.sc (.bool (J5 c))) rfl rfl rfl Tryz.func85 rfl rfl rfl rfl rfl (A4J c)) ?_
 refine B4 rfl (X4 (u:=.bool (J5 c)) (v:=.bool (!(J5 c))) rfl rfl rfl rfl (fun _=>rfl)) ?_
 refine B4 rfl (C2 (p:=.sc (.bool (!(J5 c)))) rfl rfl rfl rfl) ?_
 refine E0 (C:=(J5 c)) (p:=.sem (SL (eI .u8) (H0 c))) (H8 (b:=!(J5 c)) (c:=(J5 c)) rfl rfl rfl rfl rfl (Bool.not_not _)) rfl rfl (fun g2=>C2 (p:=.sem (SL (eI .u8) (H0 c))) rfl rfl rfl rfl) ?_
 refine E0 (C:=(J5 c)) (p:=.sc (.int .i64 ((H0 c).length:Int))) (H8 (b:=!(J5 c)) (c:=(J5 c)) rfl rfl rfl rfl rfl (Bool.not_not _)) rfl rfl (fun g3=>L6 rfl rfl rfl Tryz.underlying22 (by exact (E3 (by exact (gt (p:=.sem (SL (eI .u8) (H0 c))) (q:=.sc undef) g3))))) ?_
 refine E0 (C:=(J5 c)) (p:=.sc (.bool (decide ((((H0 c).length:Int):Int)=0)))) (H8 (b:=!(J5 c)) (c:=(J5 c)) rfl rfl rfl rfl rfl (Bool.not_not _)) rfl rfl (fun g4=>E6 (u1:=.int .i64 ((H0 c).length:Int)) (u2:=.int .i64 0) (v:=.bool (decide ((((H0 c).length:Int):Int)=0))) rfl rfl rfl (gt (p:=.sc (.int .i64 ((H0 c).length:Int))) (q:=.sc undef) g4) rfl (fun _=>rfl)) ?_
 refine B4 rfl (N5 (b:=!(J5 c)) (y:=decide ((((H0 c).length:Int):Int)=0)) rfl rfl rfl rfl rfl (Bool.not_not _)) ?_
 refine D4 ?_
 refine F6 (b:=(!(J5 c)) || (decide ((((H0 c).length:Int):Int)=0))) rfl (fun k5=>?_) (fun k5=>?_)
 ·skip
  refine C6 ?_
  refine B8 ?_
  refine B4 rfl (C7 (p:=.sc (.slice none 0 0)) rfl rfl rfl rfl) ?_
  refine D4 ?_
  refine G2 ?_
  exact F7 (F:=(fun (z:List Int)=>⟨[],[],.sem (SL (eI .u8) z)⟩)) (z:=(J7 c)) (v:=[]) (bT k5 rfl) rfl (.one (.tmp 2 (.sc (.slice none 0 0)) rfl) (.one (.nil _)) rfl) trivial trivial
 ·skip
  refine F9 ?_
  refine C6 ?_
  refine B8 ?_
  refine B4 rfl (C2 (p:=.sem (SL (eI .u8) (H0 c))) rfl rfl rfl rfl) ?_
  refine B4 rfl (L6 rfl rfl rfl Tryz.underlying22 (E3 rfl)) ?_
  refine B4 rfl (G8 (m:=(IntKind.wrap .u8 ((H0 c).length:Int))) rfl rfl rfl Tryz.underlying3 Tryz.underlying5 rfl rfl) ?_
  refine B4 rfl (I4 (E:=(eI .u8)) (l:=[2,(IntKind.wrap .u8 ((H0 c).length:Int))]) (tp:=17) (parts:=[(0,.const (.int .u8 2)),(1,.tmp 16)]) (qs:=[.sc (.int .u8 2),.sc (.int .u8 (IntKind.wrap .u8 ((H0 c).length:Int)))]) rfl rfl rfl N3 rfl rfl rfl rfl) ?_
  refine B4 rfl (C2 (p:=.sem (SL (eI .u8) (H0 c))) rfl rfl rfl rfl) ?_
  refine B4 rfl (K1 (E:=(eI .u8)) (l:=[2,(IntKind.wrap .u8 ((H0 c).length:Int))]) (ext:=(H0 c)) (tp:=17) rfl rfl rfl N3 rfl rfl (E3 rfl) (by first | ((try simp only [zB,zC,zD,B7,A7,A6]); omega) | ((try simp only [z1,z2,z3,z4,z5,z6,z7,z8,z9,zA,zB,zC,zD,D2,C9,C4,C3,C5,B5,B6,B7,A7,A6] at *); omega))) ?_
  refine B4 rfl (C7 (p:=.own 17 (List.length (α:=Int) ([2,(IntKind.wrap .u8 ((H0 c).length:Int))] ++ (H0 c))) (SL (eI .u8) ([2,(IntKind.wrap .u8 ((H0 c).length:Int))] ++ (H0 c)))) rfl rfl rfl rfl) ?_
  refine D4 ?_
  refine G2 ?_
  exact F7 (F:=(fun (z:List Int)=>⟨[],[],.sem (SL (eI .u8) z)⟩)) (z:=(J7 c)) (v:=([2,(IntKind.wrap .u8 ((H0 c).length:Int))] ++ (H0 c))) (bF k5 rfl) rfl (.one (.tmp 2 (.sem (SL (eI .u8) ([2,(IntKind.wrap .u8 ((H0 c).length:Int))] ++ (H0 c)))) rfl) (.one (.rfl _)) rfl) trivial trivial
theorem caps_Encode_pf (c:B0):PF Tryz.prog 86 [.agg (B0.cells c)] (.sem (SL (eI .u8) (J7 c))):=M1 (A1G c) rfl
theorem p9 (y:Bool):okI .u8 (F8 y):=by cases y <;> exact A0o.2 (by decide)
theorem A1q (a:Int):gdL (okI .u8) (E5 a):=by
 unfold E5
 repeat (first | exact R9 | refine T4 ?_ ?_ | refine S6 ?_ ?_ | exact R2 _ | exact p9 _ | exact A0o.2 (by decide) | exact S4 (A1q _))
theorem A4K (c:B0):gdL (okI .u8) (H0 c):=by
 simp only [H0,thn,J9]
 cases c.fFour <;> cases c.fGR <;> cases c.fFamily <;> cases c.fLL <;> simp only [cond_true,cond_false] <;> repeat (first | exact R9 | refine T4 ?_ ?_ | refine S6 ?_ ?_ | exact R2 _ | exact p9 _ | exact A0o.2 (by decide) | exact S4 (A1q _))
theorem A2E (c:B0):gdL (okI .u8) (J7 c):=by
 unfold J7
 cases (!(J5 c)) || (decide ((((H0 c).length:Int):Int)=0)) with
 | true=>exact R9
 | false=>exact T4 (S6 (A0o.2 (by decide)) (S6 (R2 _) R9)) (A4K c)
def I7 (b:List Int):Bool:=
 ((decide (((ix b 0):Int)=0)) && (decide (((ix b 1):Int)=1))) && (decide (((ix b 2):Int)=1))
set_option maxRecDepth 100000 in
set_option maxHeartbeats 4000000 in
theorem A3g (b:List Int) (h:3 ≤ b.length):PG Tryz.prog 114 [] [] [.sem (SL (eI .u8) b)] (fun _:Unit=>True) (fun _=>(fun (z:Bool)=>⟨[],[],.sc (.bool z)⟩) (I7 b)):=by
 refine M4 (N:=19) (l:=[.tmp 2]) Tryz.func114 rfl rfl rfl (Nat.le_of_ble_eq_true rfl) fun w0 i0 F βs=>?_
 refine C6 ?_
 refine B8 ?_
 refine B4 rfl (C7 (p:=.sc (.bool false)) rfl rfl rfl rfl) ?_
 refine D4 ?_
 refine C6 ?_
 refine B8 ?_
 refine B4 rfl (C2 (p:=.sem (SL (eI .u8) b)) rfl rfl rfl rfl) ?_
 refine B4 rfl (N6 (E:=(eI .u8)) (l:=b) (n:=0) (ps:=[.sc (.int .u8 (ix b 0))]) rfl rfl rfl Tryz.underlying22 ty5 (E3 rfl) rfl (by first | omega | ((try simp only [z1,z2,z3,z4,z5,z6,z7,z8,z9,zA,zB,zC,zD,D2,C9,C4,C3,C5,B5,B6,B7,A7,A6] at *); omega) | ((try simp only [z1,z2,z3,z4,z5,z6,z7,z8,z9,zA,B5,B6,B7,A7,A6] at *); (try simp (disch:=omega) only [C8]); (try simp only [z1,z2,z3,z4,z5,z6,z7,z8,z9,zA,zB,zC,zD,D2,C9,C4,C3,C5,B5,B6,B7] at *); omega)) rfl) ?_
 refine B4 rfl (G4 (ps:=[.sc (.int .u8 (ix b 0))]) (p:=.sc (.int .u8 (ix b 0))) rfl rfl rfl ty5 rfl rfl rfl rfl rfl) ?_
 refine B4 rfl (E6 (u1:=.int .u8 (ix b 0)) (u2:=.int .u8 0) (v:=.bool (decide (((ix b 0):Int)=0))) rfl rfl rfl rfl rfl (fun _=>rfl)) ?_
 refine B4 rfl (C2 (p:=.sc (.bool (decide (((ix b 0):Int)=0)))) rfl rfl rfl rfl) ?_
 refine E0 (C:=decide (((ix b 0):Int)=0)) (p:=.sem (SL (eI .u8) b)) (G6 rfl rfl rfl rfl rfl) rfl rfl (fun g1=>C2 (p:=.sem (SL (eI .u8) b)) rfl rfl rfl rfl) ?_
 refine E0 (C:=decide (((ix b 0):Int)=0)) (p:=.sem (PT [.sc (.int .u8 (ix b 1))])) (G6 rfl rfl rfl rfl rfl) rfl rfl (fun g2=>N6 (E:=(eI .u8)) (l:=b) (n:=1) (ps:=[.sc (.int .u8 (ix b 1))]) rfl rfl rfl Tryz.underlying22 ty5 (by exact (E3 (by exact (gt (p:=.sem (SL (eI .u8) b)) (q:=.sc undef) g2)))) rfl (by first | omega | ((try simp only [z1,z2,z3,z4,z5,z6,z7,z8,z9,zA,zB,zC,zD,D2,C9,C4,C3,C5,B5,B6,B7,A7,A6] at *); omega) | ((try simp only [z1,z2,z3,z4,z5,z6,z7,z8,z9,zA,B5,B6,B7,A7,A6] at *); (try simp (disch:=omega) only [C8]); (try simp only [z1,z2,z3,z4,z5,z6,z7,z8,z9,zA,zB,zC,zD,D2,C9,C4,C3,C5,B5,B6,B7] at *); omega)) rfl) ?_
 refine E0 (C:=decide (((ix b 0):Int)=0)) (p:=.sc (.int .u8 (ix b 1))) (G6 rfl rfl rfl rfl rfl) rfl rfl (fun g3=>G4 (ps:=[.sc (.int .u8 (ix b 1))]) (p:=.sc (.int .u8 (ix b 1))) rfl rfl rfl ty5 (gt (p:=.sem (PT [.sc (.int .u8 (ix b 1))])) (q:=.sc undef) g3) rfl rfl rfl rfl) ?_
 refine E0 (C:=decide (((ix b 0):Int)=0)) (p:=.sc (.bool (decide (((ix b 1):Int)=1)))) (G6 rfl rfl rfl rfl rfl) rfl rfl (fun g4=>E6 (u1:=.int .u8 (ix b 1)) (u2:=.int .u8 1) (v:=.bool (decide (((ix b 1):Int)=1))) rfl rfl rfl (gt (p:=.sc (.int .u8 (ix b 1))) (q:=.sc undef) g4) rfl (fun _=>rfl)) ?_
 refine B4 rfl (J1 (b:=decide (((ix b 0):Int)=0)) (y:=decide (((ix b 1):Int)=1)) rfl rfl rfl rfl rfl) ?_
 refine B4 rfl (C2 (p:=.sc (.bool ((decide (((ix b 0):Int)=0)) && (decide (((ix b 1):Int)=1))))) rfl rfl rfl rfl) ?_
 refine E0 (C:=(decide (((ix b 0):Int)=0)) && (decide (((ix b 1):Int)=1))) (p:=.sem (SL (eI .u8) b)) (G6 rfl rfl rfl rfl rfl) rfl rfl (fun g5=>C2 (p:=.sem (SL (eI .u8) b)) rfl rfl rfl rfl) ?_
 refine E0 (C:=(decide (((ix b 0):Int)=0)) && (decide (((ix b 1):Int)=1))) (p:=.sem (PT [.sc (.int .u8 (ix b 2))])) (G6 rfl rfl rfl rfl rfl) rfl rfl (fun g6=>N6 (E:=(eI .u8)) (l:=b) (n:=2) (ps:=[.sc (.int .u8 (ix b 2))]) rfl rfl rfl Tryz.underlying22 ty5 (by exact (E3 (by exact (gt (p:=.sem (SL (eI .u8) b)) (q:=.sc undef) g6)))) rfl (by first | omega | ((try simp only [z1,z2,z3,z4,z5,z6,z7,z8,z9,zA,zB,zC,zD,D2,C9,C4,C3,C5,B5,B6,B7,A7,A6] at *); omega) | ((try simp only [z1,z2,z3,z4,z5,z6,z7,z8,z9,zA,B5,B6,B7,A7,A6] at *); (try simp (disch:=omega) only [C8]); (try simp only [z1,z2,z3,z4,z5,z6,z7,z8,z9,zA,zB,zC,zD,D2,C9,C4,C3,C5,B5,B6,B7] at *); omega)) rfl) ?_
 refine E0 (C:=(decide (((ix b 0):Int)=0)) && (decide (((ix b 1):Int)=1))) (p:=.sc (.int .u8 (ix b 2))) (G6 rfl rfl rfl rfl rfl) rfl rfl (fun g7=>G4 (ps:=[.sc (.int .u8 (ix b 2))]) (p:=.sc (.int .u8 (ix b 2))) rfl rfl rfl ty5 (gt (p:=.sem (PT [.sc (.int .u8 (ix b 2))])) (q:=.sc undef) g7) rfl rfl rfl rfl) ?_
 refine E0 (C:=(decide (((ix b 0):Int)=0)) && (decide (((ix b 1):Int)=1))) (p:=.sc (.bool (decide (((ix b 2):Int)=1)))) (G6 rfl rfl rfl rfl rfl) rfl rfl (fun g8=>E6 (u1:=.int .u8 (ix b 2)) (u2:=.int .u8 1) (v:=.bool (decide (((ix b 2):Int)=1))) rfl rfl rfl (gt (p:=.sc (.int .u8 (ix b 2))) (q:=.sc undef) g8) rfl (fun _=>rfl)) ?_
 refine B4 rfl (J1 (b:=(decide (((ix b 0):Int)=0)) && (decide (((ix b 1):Int)=1))) (y:=decide (((ix b 2):Int)=1)) rfl rfl rfl rfl rfl) ?_
 refine B4 rfl (C7 (p:=.sc (.bool (((decide (((ix b 0):Int)=0)) && (decide (((ix b 1):Int)=1))) && (decide (((ix b 2):Int)=1))))) rfl rfl rfl rfl) ?_
 refine D4 ?_
 refine G2 ?_
 exact F7 (F:=(fun (z:Bool)=>⟨[],[],.sc (.bool z)⟩)) (z:=(I7 b)) (v:=((decide (((ix b 0):Int)=0)) && (decide (((ix b 1):Int)=1))) && (decide (((ix b 2):Int)=1))) rfl rfl (.one (.tmp 2 (.sc (.bool (((decide (((ix b 0):Int)=0)) && (decide (((ix b 1):Int)=1))) && (decide (((ix b 2):Int)=1))))) rfl) (.one (.rfl _)) rfl) trivial trivial
theorem A1l (b:List Int) (h:3 ≤ b.length):PF Tryz.prog 114 [.sem (SL (eI .u8) b)] (.sc (.bool (I7 b))):=M1 (A3g b h) rfl
end Go.Proofs.YtadmpldpipagnaaGreatDoor
