import Derived.Test.YtadmpldpipagnaaGreatDoorRzTy
import Derived.Test.YtadmpldpipagnaaGreatDoorProg
import Derived.KernelRfl
namespace Go.Proofs.YtadmpldpipagnaaGreatDoor
open Go.Ab
set_option linter.unusedSimpArgs false
set_option linter.unusedVariables false
theorem ty3:Ty Tryz.prog 3 false 1:=⟨by kernel_rfl,by kernel_rfl⟩
theorem ty4:Ty Tryz.prog 4 false 1:=⟨by kernel_rfl,by kernel_rfl⟩
theorem ty5:Ty Tryz.prog 5 false 1:=⟨by kernel_rfl,by kernel_rfl⟩
theorem A3N:Ty Tryz.prog 22 false 1:=⟨by kernel_rfl,by kernel_rfl⟩
theorem A9e:Ty Tryz.prog 27 false 1:=⟨by kernel_rfl,by kernel_rfl⟩
theorem X9:Ty Tryz.prog 29 true 9:=⟨by kernel_rfl,by kernel_rfl⟩
theorem A0u:Ty Tryz.prog 31 true 12:=⟨by kernel_rfl,by kernel_rfl⟩
theorem B0r:Ty Tryz.prog 39 true 9:=⟨by kernel_rfl,by kernel_rfl⟩
theorem M5:Ty Tryz.prog 41 true 3:=⟨by kernel_rfl,by kernel_rfl⟩
theorem X7:Ty Tryz.prog 43 true 25:=⟨by kernel_rfl,by kernel_rfl⟩
theorem U0:Fld Tryz.prog 29 0 0 false 1:=S2 Tryz.underlying29 rfl rfl ty4 (by decide)
theorem Q6:Fld Tryz.prog 29 1 1 false 1:=S2 Tryz.underlying29 rfl rfl ty3 (by decide)
theorem A0e:Fld Tryz.prog 29 2 2 false 1:=S2 Tryz.underlying29 rfl rfl ty4 (by decide)
theorem A0g:Fld Tryz.prog 29 3 3 false 1:=S2 Tryz.underlying29 rfl rfl ty4 (by decide)
theorem V2:Fld Tryz.prog 29 4 4 false 1:=S2 Tryz.underlying29 rfl rfl ty3 (by decide)
theorem T8:Fld Tryz.prog 29 5 5 false 1:=S2 Tryz.underlying29 rfl rfl ty4 (by decide)
theorem j3:Fld Tryz.prog 29 6 6 false 1:=S2 Tryz.underlying29 rfl rfl ty4 (by decide)
theorem W6:Fld Tryz.prog 29 7 7 false 1:=S2 Tryz.underlying29 rfl rfl ty4 (by decide)
theorem S3:Fld Tryz.prog 29 8 8 false 1:=S2 Tryz.underlying29 rfl rfl ty3 (by decide)
theorem Y4:Fld Tryz.prog 31 0 0 false 1:=S2 Tryz.underlying31 rfl rfl ty3 (by decide)
theorem A1f:Fld Tryz.prog 31 1 1 false 1:=S2 Tryz.underlying31 rfl rfl ty3 (by decide)
theorem A8m:Fld Tryz.prog 31 2 2 false 1:=S2 Tryz.underlying31 rfl rfl A9e (by decide)
theorem A0d:Fld Tryz.prog 31 3 3 true 9:=S2 Tryz.underlying31 rfl rfl X9 (by decide)
theorem Q9:Fld Tryz.prog 41 0 0 false 1:=S2 Tryz.underlying41 rfl rfl ty3 (by decide)
theorem f8:Fld Tryz.prog 41 1 1 false 1:=S2 Tryz.underlying41 rfl rfl ty3 (by decide)
theorem A2x:Fld Tryz.prog 41 2 2 false 1:=S2 Tryz.underlying41 rfl rfl A3N (by decide)
theorem X5:Fld Tryz.prog 43 0 0 false 1:=S2 Tryz.underlying43 rfl rfl ty3 (by decide)
theorem A6F:Fld Tryz.prog 43 1 1 true 12:=S2 Tryz.underlying43 rfl rfl A0u (by decide)
theorem A8x:Fld Tryz.prog 43 3 22 true 3:=S2 Tryz.underlying43 rfl rfl M5 (by decide)
theorem A6o:Bld Tryz.prog 29 [(0,1),(1,1),(2,1),(3,1),(4,1),(5,1),(6,1),(7,1),(8,1)] [.bool false,.int .i64 0,.bool false,.bool false,.int .i64 0,.bool false,.bool false,.bool false,.int .i64 0]:=A4R Tryz.underlying29 (z:=.agg #[.bool false,.int .i64 0,.bool false,.bool false,.int .i64 0,.bool false,.bool false,.bool false,.int .i64 0]) (by kernel_rfl) (.cons rfl ty4 (.cons rfl ty3 (.cons rfl ty4 (.cons rfl ty4 (.cons rfl ty3 (.cons rfl ty4 (.cons rfl ty4 (.cons rfl ty4 (.cons rfl ty3 (.nil))))))))))
theorem A6w:Bld Tryz.prog 31 [(0,1),(1,1),(2,1),(3,9)] [.int .i64 0,.int .i64 0,.int .u32 0,.bool false,.int .i64 0,.bool false,.bool false,.int .i64 0,.bool false,.bool false,.bool false,.int .i64 0]:=A4R Tryz.underlying31 (z:=.agg #[.int .i64 0,.int .i64 0,.int .u32 0,.bool false,.int .i64 0,.bool false,.bool false,.int .i64 0,.bool false,.bool false,.bool false,.int .i64 0]) (by kernel_rfl) (.cons rfl ty3 (.cons rfl ty3 (.cons rfl A9e (.cons rfl X9 (.nil)))))
theorem A1o:Bld Tryz.prog 41 [(0,1),(1,1),(2,1)] [.int .i64 0,.int .i64 0,.slice none 0 0]:=A4R Tryz.underlying41 (z:=.agg #[.int .i64 0,.int .i64 0,.slice none 0 0]) (by kernel_rfl) (.cons rfl ty3 (.cons rfl ty3 (.cons rfl A3N (.nil))))
theorem A1g:Bld Tryz.prog 43 [(0,1),(1,12),(13,9),(22,3)] [.int .i64 0,.int .i64 0,.int .i64 0,.int .u32 0,.bool false,.int .i64 0,.bool false,.bool false,.int .i64 0,.bool false,.bool false,.bool false,.int .i64 0,.slice none 0 0,.int .i64 0,.slice none 0 0,.int .u32 0,.int .i64 0,.int .i64 0,.slice none 0 0,.slice none 0 0,.slice none 0 0,.int .i64 0,.int .i64 0,.slice none 0 0]:=A4R Tryz.underlying43 (z:=.agg #[.int .i64 0,.int .i64 0,.int .i64 0,.int .u32 0,.bool false,.int .i64 0,.bool false,.bool false,.int .i64 0,.bool false,.bool false,.bool false,.int .i64 0,.slice none 0 0,.int .i64 0,.slice none 0 0,.int .u32 0,.int .i64 0,.int .i64 0,.slice none 0 0,.slice none 0 0,.slice none 0 0,.int .i64 0,.int .i64 0,.slice none 0 0]) (by kernel_rfl) (.cons rfl ty3 (.cons rfl A0u (.cons rfl B0r (.cons rfl M5 (.nil)))))
def A7j:Value:=.agg #[.bool false,.int .i64 0,.bool false,.bool false,.int .i64 0,.bool false,.bool false,.bool false,.int .i64 0]
def Q2:List PV:=[.sc (.bool false),.sc (.int .i64 0),.sc (.bool false),.sc (.bool false),.sc (.int .i64 0),.sc (.bool false),.sc (.bool false),.sc (.bool false),.sc (.int .i64 0)]
theorem z29:(Tryz.prog.info? 29).map (·.zero)=some (some (.agg #[.bool false,.int .i64 0,.bool false,.bool false,.int .i64 0,.bool false,.bool false,.bool false,.int .i64 0])):=by kernel_rfl
def A9b:Value:=.agg #[.int .i64 0,.int .i64 0,.int .u32 0,.bool false,.int .i64 0,.bool false,.bool false,.int .i64 0,.bool false,.bool false,.bool false,.int .i64 0]
def V0:List PV:=[.sc (.int .i64 0),.sc (.int .i64 0),.sc (.int .u32 0),.sc (.bool false),.sc (.int .i64 0),.sc (.bool false),.sc (.bool false),.sc (.int .i64 0),.sc (.bool false),.sc (.bool false),.sc (.bool false),.sc (.int .i64 0)]
theorem z31:(Tryz.prog.info? 31).map (·.zero)=some (some (.agg #[.int .i64 0,.int .i64 0,.int .u32 0,.bool false,.int .i64 0,.bool false,.bool false,.int .i64 0,.bool false,.bool false,.bool false,.int .i64 0])):=by kernel_rfl
def A0r:Value:=.agg #[.int .i64 0,.int .i64 0,.slice none 0 0]
def J3:List PV:=[.sc (.int .i64 0),.sc (.int .i64 0),.sc (.slice none 0 0)]
theorem z41:(Tryz.prog.info? 41).map (·.zero)=some (some (.agg #[.int .i64 0,.int .i64 0,.slice none 0 0])):=by kernel_rfl
def A5B:Value:=.agg #[.int .i64 0,.int .i64 0,.int .i64 0,.int .u32 0,.bool false,.int .i64 0,.bool false,.bool false,.int .i64 0,.bool false,.bool false,.bool false,.int .i64 0,.slice none 0 0,.int .i64 0,.slice none 0 0,.int .u32 0,.int .i64 0,.int .i64 0,.slice none 0 0,.slice none 0 0,.slice none 0 0,.int .i64 0,.int .i64 0,.slice none 0 0]
def N1:List PV:=[.sc (.int .i64 0),.sc (.int .i64 0),.sc (.int .i64 0),.sc (.int .u32 0),.sc (.bool false),.sc (.int .i64 0),.sc (.bool false),.sc (.bool false),.sc (.int .i64 0),.sc (.bool false),.sc (.bool false),.sc (.bool false),.sc (.int .i64 0),.sc (.slice none 0 0),.sc (.int .i64 0),.sc (.slice none 0 0),.sc (.int .u32 0),.sc (.int .i64 0),.sc (.int .i64 0),.sc (.slice none 0 0),.sc (.slice none 0 0),.sc (.slice none 0 0),.sc (.int .i64 0),.sc (.int .i64 0),.sc (.slice none 0 0)]
theorem z43:(Tryz.prog.info? 43).map (·.zero)=some (some (.agg #[.int .i64 0,.int .i64 0,.int .i64 0,.int .u32 0,.bool false,.int .i64 0,.bool false,.bool false,.int .i64 0,.bool false,.bool false,.bool false,.int .i64 0,.slice none 0 0,.int .i64 0,.slice none 0 0,.int .u32 0,.int .i64 0,.int .i64 0,.slice none 0 0,.slice none 0 0,.slice none 0 0,.int .i64 0,.int .i64 0,.slice none 0 0])):=by kernel_rfl
theorem N3:Elt Tryz.prog 22 5 1 1:=⟨Tryz.underlying22,by kernel_rfl,by decide⟩
theorem A9n:Elt Tryz.prog 82 3 1 8:=⟨Tryz.underlying82,by kernel_rfl,by decide⟩
theorem A9f:Elt Tryz.prog 83 22 1 24:=⟨Tryz.underlying83,by kernel_rfl,by decide⟩
theorem rd5:q8 Tryz.prog 5 (eI .u8).pv (okI .u8):=A0i Tryz.underlying5
theorem rd3:q8 Tryz.prog 3 (eI .i64).pv (okI .i64):=A0i Tryz.underlying3
theorem B0l:q8 Tryz.prog 27 (eI .u32).pv (okI .u32):=A0i Tryz.underlying27
theorem rd4:q8 Tryz.prog 4 eB.pv okB:=A5Z Tryz.underlying4
theorem A1N:Program.cellsOf Tryz.prog 4=1:=by kernel_rfl
theorem A2M:Program.cellsOf Tryz.prog 3=1:=by kernel_rfl
theorem A6m:Program.cellsOf Tryz.prog 29=9:=by kernel_rfl
theorem B0y:q8 Tryz.prog 29 B0.cells B0.ok:=by
 intro H enc w fuel cs d p h hw
 obtain ⟨hl,n,hf⟩:=A2h Tryz.underlying29 h hw
 rw [A6m] at hl
 obtain ⟨d0,p0,t0,w0⟩:=hf 0 _ rfl
 obtain ⟨x0,r0,k0⟩:=rd4 H enc w n _ d0 p0 t0 w0
 change H9 noT (gh (X2 w)) _ (List.take (Program.cellsOf Tryz.prog 4) (List.drop 0 cs)) at r0
 rw [A1N] at r0
 obtain ⟨d1,p1,t1,w1⟩:=hf 1 _ rfl
 obtain ⟨x1,r1,k1⟩:=rd3 H enc w n _ d1 p1 t1 w1
 change H9 noT (gh (X2 w)) _ (List.take (Program.cellsOf Tryz.prog 3) (List.drop 1 cs)) at r1
 rw [A2M] at r1
 obtain ⟨d2,p2,t2,w2⟩:=hf 2 _ rfl
 obtain ⟨x2,r2,k2⟩:=rd4 H enc w n _ d2 p2 t2 w2
 change H9 noT (gh (X2 w)) _ (List.take (Program.cellsOf Tryz.prog 4) (List.drop 2 cs)) at r2
 rw [A1N] at r2
 obtain ⟨d3,p3,t3,w3⟩:=hf 3 _ rfl
 obtain ⟨x3,r3,k3⟩:=rd4 H enc w n _ d3 p3 t3 w3
 change H9 noT (gh (X2 w)) _ (List.take (Program.cellsOf Tryz.prog 4) (List.drop 3 cs)) at r3
 rw [A1N] at r3
 obtain ⟨d4,p4,t4,w4⟩:=hf 4 _ rfl
 obtain ⟨x4,r4,k4⟩:=rd3 H enc w n _ d4 p4 t4 w4
 change H9 noT (gh (X2 w)) _ (List.take (Program.cellsOf Tryz.prog 3) (List.drop 4 cs)) at r4
 rw [A2M] at r4
 obtain ⟨d5,p5,t5,w5⟩:=hf 5 _ rfl
 obtain ⟨x5,r5,k5⟩:=rd4 H enc w n _ d5 p5 t5 w5
 change H9 noT (gh (X2 w)) _ (List.take (Program.cellsOf Tryz.prog 4) (List.drop 5 cs)) at r5
 rw [A1N] at r5
 obtain ⟨d6,p6,t6,w6⟩:=hf 6 _ rfl
 obtain ⟨x6,r6,k6⟩:=rd4 H enc w n _ d6 p6 t6 w6
 change H9 noT (gh (X2 w)) _ (List.take (Program.cellsOf Tryz.prog 4) (List.drop 6 cs)) at r6
 rw [A1N] at r6
 obtain ⟨d7,p7,t7,w7⟩:=hf 7 _ rfl
 obtain ⟨x7,r7,k7⟩:=rd4 H enc w n _ d7 p7 t7 w7
 change H9 noT (gh (X2 w)) _ (List.take (Program.cellsOf Tryz.prog 4) (List.drop 7 cs)) at r7
 rw [A1N] at r7
 obtain ⟨d8,p8,t8,w8⟩:=hf 8 _ rfl
 obtain ⟨x8,r8,k8⟩:=rd3 H enc w n _ d8 p8 t8 w8
 change H9 noT (gh (X2 w)) _ (List.take (Program.cellsOf Tryz.prog 3) (List.drop 8 cs)) at r8
 rw [A2M] at r8
 exact ⟨⟨x0,x1,x2,x3,x4,x5,x6,x7,x8⟩,(O3 (o:=0) (n:=1) (m:=1) r0 (O3 (o:=1) (n:=1) (m:=2) r1 (O3 (o:=2) (n:=1) (m:=3) r2 (O3 (o:=3) (n:=1) (m:=4) r3 (O3 (o:=4) (n:=1) (m:=5) r4 (O3 (o:=5) (n:=1) (m:=6) r5 (O3 (o:=6) (n:=1) (m:=7) r6 (O3 (o:=7) (n:=1) (m:=8) r7 (O3 (o:=8) (n:=1) (m:=9) r8 (A5m hl) rfl) rfl) rfl) rfl) rfl) rfl) rfl) rfl) rfl),k0,k1,k2,k3,k4,k5,k6,k7,k8⟩
theorem A7X:Program.cellsOf Tryz.prog 27=1:=by kernel_rfl
theorem A8w:Program.cellsOf Tryz.prog 31=12:=by kernel_rfl
theorem B0k:q8 Tryz.prog 31 D1.cells D1.ok:=by
 intro H enc w fuel cs d p h hw
 obtain ⟨hl,n,hf⟩:=A2h Tryz.underlying31 h hw
 rw [A8w] at hl
 obtain ⟨d0,p0,t0,w0⟩:=hf 0 _ rfl
 obtain ⟨x0,r0,k0⟩:=rd3 H enc w n _ d0 p0 t0 w0
 change H9 noT (gh (X2 w)) _ (List.take (Program.cellsOf Tryz.prog 3) (List.drop 0 cs)) at r0
 rw [A2M] at r0
 obtain ⟨d1,p1,t1,w1⟩:=hf 1 _ rfl
 obtain ⟨x1,r1,k1⟩:=rd3 H enc w n _ d1 p1 t1 w1
 change H9 noT (gh (X2 w)) _ (List.take (Program.cellsOf Tryz.prog 3) (List.drop 1 cs)) at r1
 rw [A2M] at r1
 obtain ⟨d2,p2,t2,w2⟩:=hf 2 _ rfl
 obtain ⟨x2,r2,k2⟩:=B0l H enc w n _ d2 p2 t2 w2
 change H9 noT (gh (X2 w)) _ (List.take (Program.cellsOf Tryz.prog 27) (List.drop 2 cs)) at r2
 rw [A7X] at r2
 obtain ⟨d3,p3,t3,w3⟩:=hf 3 _ rfl
 obtain ⟨x3,r3,k3⟩:=B0y H enc w n _ d3 p3 t3 w3
 change H9 noT (gh (X2 w)) _ (List.take (Program.cellsOf Tryz.prog 29) (List.drop 3 cs)) at r3
 rw [A6m] at r3
 exact ⟨⟨x0,x1,x2,x3⟩,(O3 (o:=0) (n:=1) (m:=1) r0 (O3 (o:=1) (n:=1) (m:=2) r1 (O3 (o:=2) (n:=1) (m:=3) r2 (O3 (o:=3) (n:=9) (m:=12) r3 (A5m hl) rfl) rfl) rfl) rfl),k0,k1,k2,k3⟩
theorem rd55:q8 Tryz.prog 55 (eI .u16).pv (okI .u16):=A0i Tryz.underlying55
end Go.Proofs.YtadmpldpipagnaaGreatDoor
