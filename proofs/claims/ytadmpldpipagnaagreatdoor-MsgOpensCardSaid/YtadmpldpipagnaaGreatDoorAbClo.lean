import Derived.Test.YtadmpldpipagnaaGreatDoorAbCut
namespace Go.Ab
open Go.RowKit
set_option linter.unusedVariables false
set_option linter.unusedSimpArgs false
def A2e:Option Nat → PV
  | some s=>.loc s 0
  | none=>.sc (.pointer none)
theorem A6M {T:Nat → Option (Nat × Nat)} {g:Gh} (x:Option Nat):Rep T g (A2e x) (cap g.β x):=by
  cases x <;> exact rfl
theorem A6b {ρ τ:Nat → Option Nat} (x:Option Nat):N9 ((A2e x).via ρ τ)=true:=by
  cases x with
  | none=>rfl
  | some s =>
    show N9 ((PV.loc s 0).via1 ρ τ)=true
    simp only [PV.via1]
    cases ρ s <;> rfl
section
variable {P:Program} {B:Base} {σ:St} {Φ:Exit → St → Prop}
theorem A6z {g:Gh} {a:Act} {w:World} (hr:Rel B σ g a w):∀ {xs:List Operand} {ls:List (Option Nat)},xs.map σ.ev=ls.map A2e → xs.map a.eval=ls.map (cap g.β)
  | [],[],_=>rfl
  | [],_ :: _,h=>by cases h
  | _ :: _,[],h=>by cases h
  | x :: xs,l :: ls,h=>by
    simp only [List.map_cons,List.cons.injEq] at h ⊢
    refine ⟨?_,A6z hr h.2⟩
    have:=hr.ev x
    rw [h.1] at this
    cases l <;> exact this
theorem A2Q {o:Oper} {d f:Nat} {xs:List Operand} {ls:List (Option Nat)} (hd:o.dst=some d) (hN:Nat.blt d σ.N=true) (ho:o.op=.makeFunc (.func f) #[] xs.toArray) (hx:xs.map σ.ev=ls.map A2e):OpStep P B o σ (σ.put d (.clo f ls)):=
  K4 hd (blt hN) fun g a w hr=>by
    refine ⟨.func (.func f) #[] (ls.map (cap g.β)).toArray,?_,rfl⟩
    have:=A6z hr hx
    simp [execOp,ho,Instr.makeFunc,pure,bind,Sem.bind,← this]
theorem A7N {T':Nat → Option (Nat × Nat)} {g g':Gh} {ρ τ:Nat → Option Nat} (hf:∀ p v,K2 σ.T g p v → K2 T' g' (p.via1 ρ τ) v):∀ (ls:List (Option Nat)),m4 T' g' (ls.map fun x=>(A2e x).via ρ τ) (ls.map (cap g.β))
  | []=>rfl
  | x :: ls=>⟨_,_,rfl,Z8 (A1K (A6b x)) (Z5 hf (A6M x)),A7N hf ls⟩
theorem A5q {T:Nat → Option (Nat × Nat)} {g:Gh}:∀ {ps qs:List PV} {vs us:List Value},m4 T g ps vs → m4 T g qs us → m4 T g (ps ++ qs) (vs ++ us)
  | [],_,_,_,h,h'=>by obtain rfl:=h; exact h'
  | p :: ps,_,_,_,⟨v,vs',e,h1,h2⟩,h'=>by subst e; exact ⟨v,_,rfl,h1,A5q h2 h'⟩
theorem A5J {o:Oper} {d c:Nat} {f:FuncId} {fn:Func} {xs:List Operand} {ls:List (Option Nat)} {ts:Array TypeId} {args:List PV} {L:Bx} {T:Tp} {ι:Type} {Qx:ι → Prop} {out:ι → s9} {ρi τi ρ τ:List (Nat × Nat)} (hd:o.dst=some d) (hN:Nat.blt d σ.N=true) (ho:o.op=.call { callee:=.value (.tmp c),args:=xs.toArray,argTypes:=ts })
    (hc:σ.env c=.clo f ls)
    (hf:P.funcs[f]? = some fn) (hn:(fn.name == "runtime.NumGoroutine")=false) (hbd:fn.body.isNone=false)
    (k:A6H L T ρi τi ρ τ) (hT:∀ x ∈ τi,G3 T x.2=σ.T x.1) (hL:∀ x ∈ L,∀ s',(s',x.1) ∈ ρi → ∃ ps,σ.L s'=some ps ∧ WkL (ps.map (PV.via1 (G3 ρi) (G3 τi))) x.2)
    (ha:WkT ((xs.map fun x=>(σ.ev x).via (G3 ρi) (G3 τi)) ++ ls.map fun x=>(A2e x).via (G3 ρi) (G3 τi)) args) (ht:(xs.map fun x=>(σ.ev x).via (G3 ρi) (G3 τi)).all N9=true)
    (hko:∀ x,(out x).L.map (·.1)=ρ.map (·.1)) (hkt:∀ x,(out x).T.map (·.1)=τ.map (·.1)) (hpin:∀ x ∈ ρ,G3 L x.1=none → B.pin x.2=none)
    (h:PG P f L T args Qx out):OpStepX P B o σ Qx (fun x=>(σ.behind L ρ τ (out x)).put d ((out x).r.via (G3 ρ) (G3 τ))):=by
  intro g a w hr K Q hK
  have hcv:a.tmps.getD c undef=.func (.func f) #[] (ls.map (cap g.β)).toArray:=by have:=hr.env c; rw [hc] at this; exact this
  unfold Oper.wp
  have hrun:(execOp a.eval o).run P w=.ok (.enter f (xs.map a.eval ++ ls.map (cap g.β)).toArray) w:=by
    simp only [execOp,ho,resolve,Act.eval,hcv,Deferred.ofValue]
    rw [F0,H7]
    simp only [invoke]
    rw [l9 hf hn hbd]
    simp
  rw [hrun]
  show Calls P f _ w _
  have f1:=A4z (g:=g) k hT
  refine (h (Z3 g ρ τ) w _ (hr.handed k hT hL) (A4s ha (A5q (A5Q hr f1 xs (A0N ht)) (A7N f1 ls)))).mono ?_
  rintro e w' ⟨x,hx,v,g',rfl,hb,hv⟩
  show K (a.put o.dst v) w'
  rw [hd]
  obtain ⟨h1,h2⟩:=hr.back k hT hL hb (hko x) (hkt x) hpin
  exact hK x hx _ _ _ (h1.put (blt hN) (Z5 h2 hv))
theorem A8r {o:Oper} {d c:Nat} {f:FuncId} {fn:Func} {xs:List Operand} {ls:List (Option Nat)} {ts:Array TypeId} {args:List PV} {ι:Type} {Qx:ι → Prop} {out:ι → s9} {bxs:List (Nat × Nat × List PV × List PV)} {tps:List (Nat × Nat × (Nat × Nat))} {newS newT:List (Nat × Nat)} {L:Bx} {T:Tp} {ρi τi ρ τ:List (Nat × Nat)}
    (hd:o.dst=some d) (hN:Nat.blt d σ.N=true) (ho:o.op=.call { callee:=.value (.tmp c),args:=xs.toArray,argTypes:=ts }) (hc:σ.env c=.clo f ls)
    (hf:P.funcs[f]? = some fn) (hn:(fn.name == "runtime.NumGoroutine")=false) (hbd:fn.body.isNone=false)
    (h:PG P f L T args Qx out)
    (hL:bxs.map (fun b=>(b.1,b.2.2.2))=L) (hT:tps.map (fun t=>(t.1,t.2.2))=T) (hρi:bxs.map (fun b=>(b.2.1,b.1))=ρi) (hτi:tps.map (fun t=>(t.2.1,t.1))=τi)
    (hρ:bxs.map (fun b=>(b.1,b.2.1)) ++ newS=ρ) (hτ:tps.map (fun t=>(t.1,t.2.1)) ++ newT=τ)
    (nd:(ρ.map (·.1)).Nodup ∧ (ρ.map (·.2)).Nodup ∧ (τ.map (·.1)).Nodup ∧ (τ.map (·.2)).Nodup)
    (hb:∀ b ∈ bxs,σ.L b.2.1=some b.2.2.1 ∧ WkL (b.2.2.1.map (PV.via1 (G3 ρi) (G3 τi))) b.2.2.2)
    (htp:∀ t ∈ tps,σ.T t.2.1=some t.2.2)
    (ha:WkT ((xs.map fun x=>(σ.ev x).via (G3 ρi) (G3 τi)) ++ ls.map fun x=>(A2e x).via (G3 ρi) (G3 τi)) args) (ht:(xs.map fun x=>(σ.ev x).via (G3 ρi) (G3 τi)).all N9=true)
    (hko:∀ x,(out x).L.map (·.1)=ρ.map (·.1)) (hkt:∀ x,(out x).T.map (·.1)=τ.map (·.1)) (hpin:newS.all (fun x=>(B.pin x.2).isNone)=true) :
    OpStepX P B o σ Qx (fun x=>(σ.behind L ρ τ (out x)).put d ((out x).r.via (G3 ρ) (G3 τ))):=by
  obtain ⟨k,hT',hL',hp⟩:=A6D hL hT hρi hτi hρ hτ nd hb htp hpin (σ:=σ) (B:=B)
  exact A5J hd hN ho hc hf hn hbd k hT' hL' ha ht hko hkt hp h
end
end Go.Ab
