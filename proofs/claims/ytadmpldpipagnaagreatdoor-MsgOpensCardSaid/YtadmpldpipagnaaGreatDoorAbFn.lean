import Derived.Test.YtadmpldpipagnaaGreatDoorAbMem
namespace Go.Ab
open Go.RowKit
set_option linter.unusedVariables false
set_option linter.unusedSimpArgs false
def noT:Nat → Option (Nat × Nat):=fun _=>none
def gh (imm:Imm):Gh:={ imm,β:=fun _=>0,τ:=fun _=>none }
def A5b (imm:Imm) (w:World):Prop:=∀ b o v,imm b o=some v → w.cell? ⟨b,o,none⟩=some v
def PV.strip1:PV → PV
  | .loc _ _=>.any
  | .clo _ _=>.any
  | .arr _ _ _ _=>.any
  | .own _ _ S=>.sem S
  | p=>p
def PV.strip2:PV → PV
  | .agg cs=>.agg (cs.map PV.strip1)
  | p=>p.strip1
def PV.strip:PV → PV
  | .tup vs=>.tup (vs.map PV.strip2)
  | p=>p.strip2
theorem A4O:∀ p:PV,(∀ cs,p ≠ .agg cs) → p.strip2=p.strip1:=by
  intro p h
  cases p <;> first | rfl | exact absurd rfl (h _)
theorem A4V:∀ p:PV,(∀ cs,p ≠ .tup cs) → p.strip=p.strip2:=by
  intro p h
  cases p <;> first | rfl | exact absurd rfl (h _)
theorem A2L {T:Nat → Option (Nat × Nat)} {g:Gh} {imm:Imm} (hi:Imm.le g.imm imm) (p:PV) (v:Value) (h:K2 T g p v):K2 noT (gh imm) p.strip1 v:=by
  cases p with
  | any=>trivial
  | sc u=>exact h
  | loc s off=>trivial
  | clo f ls=>trivial
  | arr s o n c=>trivial
  | sem S=>exact S.mono hi h
  | own t n S=>exact S.mono hi h.1
  | agg cs=>exact h.elim
  | tup vs=>exact h.elim
theorem A6i {T:Nat → Option (Nat × Nat)} {g:Gh} {imm:Imm} (hi:Imm.le g.imm imm) {p:PV} {v:Value} (h:X6 T g p v):X6 noT (gh imm) p.strip2 v:=
  V6 (f:=PV.strip1) (f2:=PV.strip2) (A2L hi) (fun _=>rfl) A4O h
theorem A0l {T:Nat → Option (Nat × Nat)} {g:Gh} {imm:Imm} (hi:Imm.le g.imm imm) {p:PV} {v:Value} (h:Rep T g p v):Rep noT (gh imm) p.strip v:=
  j1 (f2:=PV.strip2) (f3:=PV.strip) (fun p v h=>A6i hi h) (fun _=>rfl) A4V h
def PV.clean1:PV → Bool
  | .loc _ _=>false
  | .clo _ _=>false
  | .arr _ _ _ _=>false
  | .own _ _ _=>false
  | _=>true
def PV.clean2:PV → Bool
  | .agg cs=>cs.all PV.clean1
  | p=>p.clean1
def PV.clean:PV → Bool
  | .tup vs=>vs.all PV.clean2
  | p=>p.clean2
theorem R8 {T:Nat → Option (Nat × Nat)} {g:Gh} {imm:Imm} (hi:Imm.le imm g.imm) {p:PV} (hc:p.clean1=true) {v:Value} (h:K2 noT (gh imm) p v):K2 T g p v:=by
  cases p with
  | any=>trivial
  | sc u=>exact h
  | loc s off=>cases hc
  | clo f ls=>cases hc
  | arr s o n c=>cases hc
  | sem S=>exact S.mono hi h
  | own t n S=>cases hc
  | agg cs=>exact h.elim
  | tup vs=>exact h.elim
theorem W3 {T:Nat → Option (Nat × Nat)} {g:Gh} {imm:Imm} (hi:Imm.le imm g.imm):∀ {ps:List PV} (hc:ps.all PV.clean1=true) {vs:List Value} (h:H9 noT (gh imm) ps vs),H9 T g ps vs
  | [],_,vs,h=>h
  | p :: ps,hc,vs,⟨v,vs',e,h1,h2,h3⟩=>by
    simp only [List.all_cons,Bool.and_eq_true] at hc
    exact ⟨v,vs',e,R8 hi hc.1 h1,h2,W3 hi hc.2 h3⟩
theorem S0 {T:Nat → Option (Nat × Nat)} {g:Gh} {imm:Imm} (hi:Imm.le imm g.imm) {p:PV} (hc:p.clean2=true) {v:Value} (h:X6 noT (gh imm) p v):X6 T g p v:=by
  cases p with
  | agg cs=>obtain ⟨vs,e,h⟩:=h; exact ⟨vs,e,W3 hi hc h⟩
  | any=>exact S7 (R8 (p:=.any) hi hc h)
  | sc u=>exact S7 (R8 (p:=.sc u) hi hc h)
  | loc s o=>exact S7 (R8 (p:=.loc s o) hi hc h)
  | clo f ls=>exact S7 (R8 (p:=.clo f ls) hi hc h)
  | arr s o n c=>exact S7 (R8 (p:=.arr s o n c) hi hc h)
  | sem S=>exact S7 (R8 (p:=.sem S) hi hc h)
  | own t n S=>exact S7 (R8 (p:=.own t n S) hi hc h)
  | tup vs=>exact S7 (R8 (p:=.tup vs) hi hc h)
theorem A2Y {T:Nat → Option (Nat × Nat)} {g:Gh} {imm:Imm} (hi:Imm.le imm g.imm):∀ {ps:List PV} (hc:ps.all PV.clean2=true) {vs:List Value} (h:m4 noT (gh imm) ps vs),m4 T g ps vs
  | [],_,vs,h=>h
  | p :: ps,hc,vs,⟨v,vs',e,h1,h3⟩=>by
    simp only [List.all_cons,Bool.and_eq_true] at hc
    exact ⟨v,vs',e,S0 hi hc.1 h1,A2Y hi hc.2 h3⟩
theorem A7d {T:Nat → Option (Nat × Nat)} {g:Gh} {imm:Imm} (hi:Imm.le imm g.imm) {p:PV} (hc:p.clean=true) {v:Value} (h:Rep noT (gh imm) p v):Rep T g p v:=by
  cases p with
  | tup vs=>obtain ⟨us,e,h⟩:=h; exact ⟨us,e,A2Y hi hc h⟩
  | any=>exact T0 (S0 (p:=.any) hi hc h)
  | sc u=>exact T0 (S0 (p:=.sc u) hi hc h)
  | loc s o=>exact T0 (S0 (p:=.loc s o) hi hc h)
  | clo f ls=>exact T0 (S0 (p:=.clo f ls) hi hc h)
  | arr s o n c=>exact T0 (S0 (p:=.arr s o n c) hi hc h)
  | sem S=>exact T0 (S0 (p:=.sem S) hi hc h)
  | own t n S=>exact T0 (S0 (p:=.own t n S) hi hc h)
  | agg cs=>exact T0 (S0 (p:=.agg cs) hi hc h)
def PF (P:Program) (f:FuncId) (args:List PV) (r:PV):Prop:=
  ∀ (imm:Imm) (w:World) (vs:List Value),A5b imm w → m4 noT (gh imm) args vs → Calls P f vs.toArray w fun e w' =>
    ∃ v imm',e=.returned v ∧ Imm.le imm imm' ∧ A5b imm' w' ∧ (∀ b o u,imm' b o=some u → imm b o=some u ∨ w.heap.size ≤ b) ∧ Rep noT (gh imm') r v ∧ Below w.heap.size w w'
theorem PF.conv {P:Program} {f:FuncId} {args:List PV} {r r':PV} (h:PF P f args r) (e:r=r'):PF P f args r':=e ▸ h
theorem Z8 {T:Nat → Option (Nat × Nat)} {g:Gh} {p:PV} {v:Value} (hn:∀ vs,p ≠ .tup vs) (h:Rep T g p v):X6 T g p v:=by
  cases p with
  | tup us=>exact absurd rfl (hn us)
  | any=>exact h
  | sc u=>exact h
  | loc s o=>exact h
  | clo f ls=>exact h
  | arr s o n c=>exact h
  | sem S=>exact h
  | own t n S=>exact h
  | agg cs=>exact h
section call
variable {P:Program} {B:Base} {σ:St} {g:Gh} {a:Act} {w:World}
theorem A2f (hr:Rel B σ g a w):∀ (xs:List Operand) (args:List PV),xs.map (fun x=>(σ.ev x).strip)=args → (∀ p ∈ args,∀ vs,p ≠ .tup vs) → m4 noT (gh g.imm) args (xs.map a.eval)
  | [],args,e,_=>by subst e; rfl
  | x :: xs,args,e,ht=>by
    subst e
    refine ⟨a.eval x,xs.map a.eval,rfl,?_,A2f hr xs _ rfl (fun p hp=>ht p (by simp at hp ⊢; exact .inr hp))⟩
    exact Z8 (ht ((σ.ev x).strip) (by simp)) (A0l (Imm.le_refl _) (hr.ev x))
theorem Rel.called (hr:Rel B σ g a w) {w':World} {imm':Imm} (hi:Imm.le g.imm imm') (hok:A5b imm' w') (hnew:∀ b o u,imm' b o=some u → g.imm b o=some u ∨ w.heap.size ≤ b) (hb:Below w.heap.size w w') :
    Rel B σ { g with imm:=imm' } a w':=by
  have lt:∀ {b:Nat} {o:Obj},w.heap[b]? = some o → b < w.heap.size:=fun h=>(Array.getElem?_eq_some_iff.1 h).1
  have m1:∀ p v,K2 σ.T g p v → K2 σ.T { g with imm:=imm' } p v:=fun p v h=>K2.mono hi (fun _ _ _=>rfl) (fun _ _ _ _ _=>rfl) (fun _ _ _ _=>rfl) (fun _ _ _ _ _=>rfl) h
  refine { hr with env:=?_,imm:=hok,box:=?_,tip:=?_,below:=?_,immle:=Imm.le_trans hr.immle hi,immnew:=?_ }
  · exact fun t=>Rep.carry m1 (hr.env t)
  · intro s ps hL
    obtain ⟨cs,ty,h1,h2,h3,h4⟩:=hr.box s ps hL
    refine ⟨cs,ty,by rw [hb.block _ (lt h1)]; exact h1,H9.carry m1 h2,fun o=>?_,h4⟩
    cases hq:imm' (g.β s) o with
    | none=>exact hq
    | some u =>
      rcases hnew _ _ _ hq with h | h
      · rw [h3] at h; cases h
      · have:=lt h1; omega
  · intro t sz m b c h1 h2
    obtain ⟨cs,ty,h3,h4,h5,h6,h7⟩:=hr.tip t sz m b c h1 h2
    refine ⟨cs,ty,by rw [hb.block _ (lt h3)]; exact h3,h4,h5,fun o ho=>?_,h7⟩
    cases hq:imm' b o with
    | none=>exact hq
    | some u =>
      rcases hnew _ _ _ hq with h | h
      · rw [h6 o ho] at h; cases h
      · have:=lt h3; omega
  · obtain ⟨h1,h2,h3,h4,h5⟩:=hr.below
    exact ⟨hb.os.trans h1,hb.tape.trans h2,hb.output.trans h3,by have:=hb.size; omega,fun b hb' hn=>by rw [hb.block b (by omega)]; exact h5 b hb' hn⟩
  · intro b o u h
    rcases hnew _ _ _ h with h | h
    · exact hr.immnew b o u h
    · exact .inr (.inl (by have:=hr.below.2.2.2.1; omega))
theorem l9 {f:FuncId} {fn:Func} (hf:P.funcs[f]? = some fn) (hn:(fn.name == "runtime.NumGoroutine")=false) (hb:fn.body.isNone=false) (args:Array Value) (w:World):(callFunc f args).run P w=.ok (.enter f args) w:=by
  simp only [callFunc,program,bind,Sem.bind,Sem.run,hf,hn,hb,Bool.false_eq_true,if_false,pure]
theorem A7c {o:Oper} {d:Nat} {f:FuncId} {fn:Func} {xs:List Operand} {ts:Array TypeId} {args:List PV} {r:PV} (hd:o.dst=some d) (hN:d < σ.N) (ho:o.op=.call { callee:=.value (.func f),args:=xs.toArray,argTypes:=ts })
    (hf:P.funcs[f]? = some fn) (hn:(fn.name == "runtime.NumGoroutine")=false) (hbd:fn.body.isNone=false) (ha:xs.map (fun x=>(σ.ev x).strip)=args) (ht:∀ p ∈ args,∀ vs,p ≠ .tup vs) (hc:r.clean=true) (h:PF P f args r):OpStep P B o σ (σ.put d r):=by
  intro g a w hr K Q hK
  unfold Oper.wp
  have hrun:(execOp a.eval o).run P w=.ok (.enter f (xs.map a.eval).toArray) w:=by
    simp only [execOp,ho,resolve,Act.eval,Deferred.ofValue]
    rw [F0,H7]
    simp only [invoke,Array.append_empty]
    rw [l9 hf hn hbd]
    simp
  rw [hrun]
  show Calls P f _ w _
  refine (h g.imm w _ hr.imm (A2f hr xs args ha ht)).mono ?_
  rintro e w' ⟨v,imm',rfl,hi,hok,hnew,hv,hb⟩
  show K (a.put o.dst v) w'
  rw [hd]
  have hr':=hr.called hi hok hnew hb
  exact hK _ _ _ (hr'.put hN (A7d (Imm.le_refl _) hc hv))
end call
def A0b (tmps:Array Value):ResultVar → Sem Value
  | .tmp t=>pure (tmps.getD t undef)
  | .cell a t=>do loadVar t (← asAddr (tmps.getD a undef))
theorem Q7 (fn:Func) (tmps:Array Value):results fn tmps=(do
  let vs ← fn.results.mapM (A0b tmps)
  pure (if h:vs.size=1 then vs[0] else .tuple vs)):=by
  rfl
inductive T6 (P:Program) (σ:St):ResultVar → PV → Prop
  | tmp (t:Tmp) (p:PV) (h:(σ.env t).strip=p):T6 P σ (.tmp t) p
  | cell (x:Tmp) (t:TypeId) (s n:Nat) (ag:Bool) (ps:List PV) (p:PV) (hx:σ.env x=.loc s 0) (hL:σ.L s=some ps) (ht:Ty P t ag n) (hn:ps.length=n) (h1:ag=false → n=1) (hp:(PV.ofCells ag ps).strip=p):T6 P σ (.cell x t) p
theorem Z7 {T:Nat → Option (Nat × Nat)} {g:Gh} {ag:Bool} {ps:List PV} {vs:List Value} (h:H9 T g ps vs) (h1:ag=false → vs.length=1):Rep T g (PV.ofCells ag ps) (if ag then .agg vs.toArray else vs.headD undef):=by
  cases ag with
  | true=>exact ⟨_,rfl,h⟩
  | false =>
    have:=h1 rfl
    match vs,this with
    | [u],_ =>
      match ps,h with
      | [q],⟨v,vs',e,h2,_,_⟩ =>
        simp at e
        obtain ⟨rfl,_⟩:=e
        exact T0 (S7 h2)
theorem T6.run {P:Program} {B:Base} {σ:St} {g:Gh} {a:Act} {w:World} (hr:Rel B σ g a w) {r:ResultVar} {p:PV} (h:T6 P σ r p):∃ v,(A0b a.tmps r).run P w=.ok v w ∧ Rep noT (gh g.imm) p v:=by
  cases h with
  | tmp t p h=>exact ⟨_,rfl,h ▸ A0l (Imm.le_refl _) (hr.env t)⟩
  | cell x t s n ag ps p hx hL ht hn h1 hp =>
    have hv:a.tmps.getD x undef=.pointer (some ⟨g.β s,0,none⟩):=by have:=hr.env x; rw [hx] at this; exact this
    obtain ⟨cs,ty,hb,hps,_,_⟩:=hr.box s ps hL
    have hl:=I6 hps
    have hrun:=Z4 (P:=P) ht (b:=g.β s) (o:=0) (w:=w) (vs:=cs.toList) (by omega) h1 (fun j v hj=>by
      rw [T1 hb]
      simpa using hj)
    refine ⟨_,by
      simp only [A0b,hv,asAddr]
      rw [F0]
      simp only [H7]
      rw [hrun],?_⟩
    rw [← hp]
    exact A0l (Imm.le_refl _) (Z7 hps (fun e=>by rw [hl,hn]; exact h1 e))
inductive Ret (P:Program) (σ:St):List ResultVar → PV → Prop
  | zero:Ret P σ [] (.tup [])
  | one (r:ResultVar) (p:PV) (h:T6 P σ r p):Ret P σ [r] p
  | two (r1 r2:ResultVar) (p1 p2:PV) (h1:T6 P σ r1 p1) (h2:T6 P σ r2 p2):Ret P σ [r1,r2] (.tup [p1,p2])
  | three (r1 r2 r3:ResultVar) (p1 p2 p3:PV) (h1:T6 P σ r1 p1) (h2:T6 P σ r2 p2) (h3:T6 P σ r3 p3):Ret P σ [r1,r2,r3] (.tup [p1,p2,p3])
  | four (r1 r2 r3 r4:ResultVar) (p1 p2 p3 p4:PV) (h1:T6 P σ r1 p1) (h2:T6 P σ r2 p2) (h3:T6 P σ r3 p3) (h4:T6 P σ r4 p4):Ret P σ [r1,r2,r3,r4] (.tup [p1,p2,p3,p4])
theorem A5a (ag:Bool) (ps:List PV) (vs:List PV) (h:PV.ofCells ag ps=.tup vs):∃ q ∈ ps,q=.tup vs:=by
  cases ag with
  | true=>cases h
  | false =>
    match ps,h with
    | [],h=>cases h
    | q :: qs,h=>exact ⟨q,by simp,h⟩
theorem A3f {T:Nat → Option (Nat × Nat)} {g:Gh}:∀ {ps:List PV} {vs:List Value},H9 T g ps vs → ∀ q ∈ ps,∀ us,q ≠ .tup us
  | [],vs,h,q,hq,us=>by cases hq
  | p :: ps,vs,⟨v,vs',e,h1,h2,h3⟩,q,hq,us=>by
    rcases List.mem_cons.1 hq with rfl | hq
    · intro e; subst e; exact h1
    · exact A3f h3 q hq us
theorem Ret.run {P:Program} {B:Base} {σ:St} {g:Gh} {a:Act} {w:World} (hr:Rel B σ g a w) {fn:Func} {l:List ResultVar} {p:PV} (hl:fn.results=l.toArray) (h:Ret P σ l p) (hn:∀ t,l.length ≠ 1 → .tmp t ∈ l → ∀ vs,(σ.env t).strip ≠ .tup vs):∃ v,(results fn a.tmps).run P w=.ok v w ∧ Rep noT (gh g.imm) p v:=by
  have notup:∀ {r:ResultVar} {q:PV},l.length ≠ 1 → r ∈ l → T6 P σ r q → ∀ vs,q ≠ .tup vs:=by
    intro r q h1 h2 h3 vs e
    cases h3 with
    | tmp t p h=>exact hn t h1 h2 vs (h.trans e)
    | cell x t s n ag ps p hx hL ht hn' h1' hp =>
      subst e
      obtain ⟨cs,ty,hb,hps,_,_⟩:=hr.box s ps hL
      have:∃ us,PV.ofCells ag ps=.tup us:=by
        revert hp
        generalize PV.ofCells ag ps=q
        intro hp
        cases q with
        | tup us=>exact ⟨us,rfl⟩
        | _=>simp [PV.strip,PV.strip2,PV.strip1] at hp
      obtain ⟨us,hu⟩:=this
      obtain ⟨q,hq,he⟩:=A5a ag ps us hu
      exact A3f hps q hq us he
  cases h with
  | zero=>exact ⟨.tuple #[],by rw [Q7,hl]; simp [F0,H7],[],rfl,rfl⟩
  | one r p h =>
    obtain ⟨v,h1,h2⟩:=h.run hr
    refine ⟨v,?_,h2⟩
    rw [Q7,hl]
    simp [F0,H7,h1]
  | two r1 r2 p1 p2 h1 h2 =>
    obtain ⟨v1,e1,q1⟩:=h1.run hr
    obtain ⟨v2,e2,q2⟩:=h2.run hr
    refine ⟨.tuple #[v1,v2],?_,[v1,v2],rfl,v1,_,rfl,Z8 (notup (by simp) (by simp) h1) q1,v2,_,rfl,Z8 (notup (by simp) (by simp) h2) q2,rfl⟩
    rw [Q7,hl]
    simp [F0,H7,e1,e2]
  | three r1 r2 r3 p1 p2 p3 h1 h2 h3 =>
    obtain ⟨v1,e1,q1⟩:=h1.run hr
    obtain ⟨v2,e2,q2⟩:=h2.run hr
    obtain ⟨v3,e3,q3⟩:=h3.run hr
    refine ⟨.tuple #[v1,v2,v3],?_,[v1,v2,v3],rfl,v1,_,rfl,Z8 (notup (by simp) (by simp) h1) q1,v2,_,rfl,Z8 (notup (by simp) (by simp) h2) q2,v3,_,rfl,Z8 (notup (by simp) (by simp) h3) q3,rfl⟩
    rw [Q7,hl]
    simp [F0,H7,e1,e2,e3]
  | four r1 r2 r3 r4 p1 p2 p3 p4 h1 h2 h3 h4 =>
    obtain ⟨v1,e1,q1⟩:=h1.run hr
    obtain ⟨v2,e2,q2⟩:=h2.run hr
    obtain ⟨v3,e3,q3⟩:=h3.run hr
    obtain ⟨v4,e4,q4⟩:=h4.run hr
    refine ⟨.tuple #[v1,v2,v3,v4],?_,[v1,v2,v3,v4],rfl,v1,_,rfl,Z8 (notup (by simp) (by simp) h1) q1,v2,_,rfl,Z8 (notup (by simp) (by simp) h2) q2,v3,_,rfl,Z8 (notup (by simp) (by simp) h3) q3,v4,_,rfl,Z8 (notup (by simp) (by simp) h4) q4,rfl⟩
    rw [Q7,hl]
    simp [F0,H7,e1,e2,e3,e4]
def St.start (N:Nat) (args:List PV):St:={ N,env:=fun k=>args.getD k .any,L:=fun _=>none,T:=fun _=>none }
def noF:Nat → Prop:=fun _=>False
def A8E:Nat → Option Nat:=fun _=>none
theorem A0W {T:Nat → Option (Nat × Nat)} {g:Gh}:∀ {ps:List PV} {vs:List Value} (h:m4 T g ps vs) (i:Nat) (d:Value),Rep T g (ps.getD i .any) (vs.getD i d)
  | [],vs,h,i,d=>by simp; trivial
  | p :: ps,vs,⟨v,vs',e,h1,h2⟩,0,d=>by subst e; exact T0 h1
  | p :: ps,vs,⟨v,vs',e,h1,h2⟩,i + 1,d=>by subst e; simpa using A0W h2 i d
theorem Z6 {T:Nat → Option (Nat × Nat)} {g:Gh}:∀ {ps:List PV} {vs:List Value},m4 T g ps vs → vs.length=ps.length
  | [],vs,h=>by rw [show vs=[] from h]; rfl
  | p :: ps,vs,⟨v,vs',e,_,h⟩=>by rw [e]; simp [Z6 h]
def A7W (P:Program) (l:List ResultVar) (r:PV):Exit → St → Prop
  | .normal,σ | .ret,σ=>Ret P σ l r ∧ ∀ t,l.length ≠ 1 → .tmp t ∈ l → ∀ vs,(σ.env t).strip ≠ .tup vs
  | _,_=>False
theorem pf_of {P:Program} {f:FuncId} {fn:Func} {c:Code} {args:List PV} {r:PV} {l:List ResultVar} {N:Nat} (hf:P.funcs[f]? = some fn) (hb:fn.body=some c) (hN:fn.ntmps=N) (hl:fn.results=l.toArray) (hle:args.length ≤ N)
    (h:∀ (w0:World) (i0:Imm),AW P ⟨w0,i0,noF,A8E⟩ c (A7W P l r) (St.start N args)):PF P f args r:=by
  intro imm w vs hok hargs
  have hlen:=Z6 hargs
  refine calls_of_wp hf hb ?_
  have hr:Rel ⟨w,imm,noF,A8E⟩ (St.start N args) (gh imm) { tmps:=vs.toArray ++ Array.replicate (fn.ntmps - vs.toArray.size) undef,defers:=[] } w:=by
    refine { size:=?_,env:=?_,defers:=rfl,imm:=hok,box:=?_,apart:=?_,tip:=?_,tips:=?_,boxtip:=?_,below:=⟨rfl,rfl,rfl,Nat.le_refl _,fun _ _ _=>rfl⟩,immle:=Imm.le_refl _,immnew:=fun _ _ _ h=>.inl h,pin:=?_ }
    · simp [St.start,hN]; omega
    · intro t
      have h1:=A0W hargs t undef
      show Rep noT (gh imm) (args.getD t .any) _
      have:(vs.toArray ++ Array.replicate (fn.ntmps - vs.toArray.size) undef).getD t undef=vs.getD t undef:=by
        rw [Array.getD_eq_getD_getElem?,List.getD_eq_getElem?_getD]
        by_cases ht:t < vs.length
        · rw [Array.getElem?_append_left (by simpa using ht)]; simp
        · rw [Array.getElem?_append_right (by simpa using ht),List.getElem?_eq_none (by omega),Array.getElem?_replicate]
          split <;> rfl
      rw [this]
      exact h1
    · intro s ps h; cases h
    · intro s s' ps ps' h; cases h
    · intro t sz m b c h; cases h
    · intro t t' x x' b b' c c' h; cases h
    · intro s ps t x b c h; cases h
    · intro s b h; cases h
  refine wp_mono (h w imm _ _ _ hr) ?_
  rintro e a' w' ⟨σ',g',hr',hq⟩
  have key:(Ret P σ' l r ∧ ∀ t,l.length ≠ 1 → .tmp t ∈ l → ∀ vs,(σ'.env t).strip ≠ .tup vs) → a'.defers=[] ∧ ∃ v,(results fn a'.tmps).run P w'=.ok v w' ∧ ∃ v_1 imm',Ending.returned v=.returned v_1 ∧ Imm.le imm imm' ∧ A5b imm' w' ∧ (∀ b o u,imm' b o=some u → imm b o=some u ∨ w.heap.size ≤ b) ∧ Rep noT (gh imm') r v_1 ∧ Below w.heap.size w w':=by
    rintro ⟨h1,h2⟩
    obtain ⟨v,h3,h4⟩:=h1.run hr' hl h2
    refine ⟨hr'.defers,v,h3,v,g'.imm,rfl,hr'.immle,hr'.imm,fun b o u hu=>?_,h4,?_⟩
    · rcases hr'.immnew b o u hu with h | h | h
      · exact .inl h
      · exact .inr h
      · exact h.elim
    · obtain ⟨k1,k2,k3,k4,k5⟩:=hr'.below
      exact ⟨k1,k2,k3,k4,fun k hk=>k5 k hk (fun h=>h)⟩
  cases e with
  | normal=>exact key hq
  | ret=>exact key hq
  | _=>exact hq.elim
end Go.Ab
