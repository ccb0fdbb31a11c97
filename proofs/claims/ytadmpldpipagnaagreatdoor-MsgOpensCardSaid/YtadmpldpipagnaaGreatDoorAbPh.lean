import Derived.Test.YtadmpldpipagnaaGreatDoorAbPg
namespace Go.Ab
open Go.RowKit
set_option linter.unusedVariables false
set_option linter.unusedSimpArgs false
section
variable {P:Program} {B:Base} {σ:St} {Φ:Exit → St → Prop}
def OpStepX (P:Program) (B:Base) (o:Oper) (σ:St) {ι:Type} (Qx:ι → Prop) (σ':ι → St):Prop:=
  ∀ g a w,Rel B σ g a w → ∀ (K:Act → World → Prop) (Q:Exit → Act → World → Prop),(∀ x,Qx x → ∀ g' a' w',Rel B (σ' x) g' a' w' → K a' w') → o.wp P a w K Q
theorem j7 {ops:Array Oper} {o:Oper} {l:List Oper} {ι:Type} {Qx:ι → Prop} {σ':ι → St} (hg:o.guard=none) (h:OpStepX P B o σ Qx σ') (hk:∀ x,Qx x → AL P B ops Φ l (σ' x)):AL P B ops Φ (o :: l) σ:=
  fun g a w hr=>wpList_plain hg fun _ hK=>h g a w hr _ _ fun x hx g' a' w' hr'=>hK _ _ (hk x hx g' a' w' hr')
theorem A7k {ops:Array Oper} {o og:Oper} {l:List Oper} {j d:Nat} {want b:Bool} {ι:Type} {Qx:ι → Prop} {σ':ι → St} (hg:o.guard=some (j,want)) (hj:ops[j]? = some og) (hd:og.dst=some d) (hb:σ.env d=.sc (.bool b)) (hdn:Nat.blt d σ.N=true) (hw:b=want)
    (h:OpStepX P B o σ Qx σ') (hk:∀ x,Qx x → AL P B ops Φ l (σ' x)):AL P B ops Φ (o :: l) σ:=by
  intro g a w hr
  have hy:yielded ops a.tmps j=some b:=by
    have h1:=hr.env d
    rw [hb] at h1
    have h1:a.tmps.getD d undef=.bool b:=h1
    have h2:d < a.tmps.size:=by rw [hr.size]; exact blt hdn
    simp only [yielded,hj,Option.bind_some,hd]
    have h3:a.tmps[d]? = some (.bool b):=by
      rw [Array.getD_eq_getD_getElem?,Array.getElem?_eq_getElem h2] at h1
      rw [Array.getElem?_eq_getElem h2]
      simpa using h1
    rw [h3]
  refine wpList_step fun K hK=>?_
  have hw':Region.wanted o (yielded ops a.tmps)=true:=by simp [Region.wanted,hg,hy,hw]
  rw [if_pos hw']
  exact h g a w hr _ _ fun x hx g' a' w' hr'=>hK _ _ (hk x hx g' a' w' hr')
theorem A5P {ops:Array Oper} {o og:Oper} {l:List Oper} {j d:Nat} {want b:Bool} {σ':St} (hg:o.guard=some (j,want)) (hj:ops[j]? = some og) (hd:og.dst=some d) (hb:σ.env d=.sc (.bool b)) (hdn:Nat.blt d σ.N=true) (hw:b=want)
    (h:OpStep P B o σ σ') (hk:AL P B ops Φ l σ'):AL P B ops Φ (o :: l) σ:=
  A7k (ι:=Unit) (Qx:=fun _=>True) (σ':=fun _=>σ') hg hj hd hb hdn hw (fun g a w hr K Q hK=>h g a w hr K Q (hK () trivial)) (fun _ _=>hk)
theorem A8u {ops:Array Oper} {l:List Oper} (b:Bool) (ht:b=true → AL P B ops Φ l σ) (hf:b=false → AL P B ops Φ l σ):AL P B ops Φ l σ:=by
  cases b
  · exact hf rfl
  · exact ht rfl
theorem A5Q {g:Gh} {a:Act} {w:World} (hr:Rel B σ g a w) {T':Nat → Option (Nat × Nat)} {g':Gh} {ρ τ:Nat → Option Nat} (hf:∀ p v,K2 σ.T g p v → K2 T' g' (p.via1 ρ τ) v) :
    ∀ (xs:List Operand),(∀ p ∈ xs.map (fun x=>(σ.ev x).via ρ τ),∀ vs,p ≠ .tup vs) → m4 T' g' (xs.map fun x=>(σ.ev x).via ρ τ) (xs.map a.eval)
  | [],_=>rfl
  | x :: xs,ht=>⟨a.eval x,xs.map a.eval,rfl,Z8 (ht _ (by simp)) (Z5 hf (hr.ev x)),A5Q hr hf xs fun p hp=>ht p (List.mem_cons_of_mem _ hp)⟩
theorem A6k {o:Oper} {d:Nat} {f:FuncId} {fn:Func} {xs:List Operand} {ts:Array TypeId} {args:List PV} {L:Bx} {T:Tp} {ι:Type} {Qx:ι → Prop} {out:ι → s9} {ρi τi ρ τ:List (Nat × Nat)} (hd:o.dst=some d) (hN:Nat.blt d σ.N=true) (ho:o.op=.call { callee:=.value (.func f),args:=xs.toArray,argTypes:=ts })
    (hf:P.funcs[f]? = some fn) (hn:(fn.name == "runtime.NumGoroutine")=false) (hbd:fn.body.isNone=false)
    (k:A6H L T ρi τi ρ τ) (hT:∀ x ∈ τi,G3 T x.2=σ.T x.1) (hL:∀ x ∈ L,∀ s',(s',x.1) ∈ ρi → ∃ ps,σ.L s'=some ps ∧ WkL (ps.map (PV.via1 (G3 ρi) (G3 τi))) x.2)
    (ha:WkT (xs.map fun x=>(σ.ev x).via (G3 ρi) (G3 τi)) args) (ht:(xs.map fun x=>(σ.ev x).via (G3 ρi) (G3 τi)).all N9=true)
    (hko:∀ x,(out x).L.map (·.1)=ρ.map (·.1)) (hkt:∀ x,(out x).T.map (·.1)=τ.map (·.1)) (hpin:∀ x ∈ ρ,G3 L x.1=none → B.pin x.2=none)
    (h:PG P f L T args Qx out):OpStepX P B o σ Qx (fun x=>(σ.behind L ρ τ (out x)).put d ((out x).r.via (G3 ρ) (G3 τ))):=by
  intro g a w hr K Q hK
  unfold Oper.wp
  have hrun:(execOp a.eval o).run P w=.ok (.enter f (xs.map a.eval).toArray) w:=by
    simp only [execOp,ho,resolve,Act.eval,Deferred.ofValue]
    rw [F0,H7]
    simp only [invoke,Array.append_empty]
    rw [l9 hf hn hbd]
    simp
  rw [hrun]
  show Calls P f _ w _
  refine (h (Z3 g ρ τ) w _ (hr.handed k hT hL) (A4s ha (A5Q hr (A4z k hT) xs (A0N ht)))).mono ?_
  rintro e w' ⟨x,hx,v,g',rfl,hb,hv⟩
  show K (a.put o.dst v) w'
  rw [hd]
  obtain ⟨h1,h2⟩:=hr.back k hT hL hb (hko x) (hkt x) hpin
  exact hK x hx _ _ _ (h1.put (blt hN) (Z5 h2 hv))
end
def idm {β:Type} (l:List (Nat × β)):Nat → Option Nat:=G3 (l.map fun x=>(x.1,x.1))
theorem A6d {β:Type} {l:List (Nat × β)} {s s':Nat} (h:idm l s=some s'):s'=s:=by
  have:=O2 h
  simp only [List.mem_map,Prod.mk.injEq] at this
  obtain ⟨x,_,h1,h2⟩:=this
  rw [← h1,← h2]
theorem A4y {β:Type}:∀ {l:List (Nat × β)} {s s':Nat},idm l s=some s' → ∃ x,G3 l s=some x
  | [],_,_,h=>by cases h
  | (k,y) :: r,s,s',h=>by
    simp only [idm,List.map_cons,G3] at h ⊢
    cases hq:Nat.beq s k with
    | true=>exact ⟨y,rfl⟩
    | false=>rw [hq] at h; exact A4y (l:=r) h
inductive A0G (P:Program) (σ:St) (ρ τ:Nat → Option Nat):ResultVar → PV → Prop
  | tmp (t:Tmp) (p:PV) (h:(σ.env t).via ρ τ=p):A0G P σ ρ τ (.tmp t) p
  | cell (x:Tmp) (t:TypeId) (s n:Nat) (ag:Bool) (ps:List PV) (p:PV) (hx:σ.env x=.loc s 0) (hL:σ.L s=some ps) (ht:Ty P t ag n) (hn:ps.length=n) (h1:(ag || Nat.beq n 1)=true) (hp:(PV.ofCells ag ps).via ρ τ=p):A0G P σ ρ τ (.cell x t) p
theorem A0G.run {P:Program} {B:Base} {σ:St} {g:Gh} {a:Act} {w:World} {ρ τ:Nat → Option Nat} {T':Nat → Option (Nat × Nat)} {g':Gh} (hf:∀ p v,K2 σ.T g p v → K2 T' g' (p.via1 ρ τ) v) (hr:Rel B σ g a w) {r:ResultVar} {p:PV} (h:A0G P σ ρ τ r p):∃ v,(A0b a.tmps r).run P w=.ok v w ∧ Rep T' g' p v:=by
  cases h with
  | tmp t p h=>exact ⟨_,rfl,h ▸ Z5 hf (hr.env t)⟩
  | cell x t s n ag ps p hx hL ht hn h1 hp =>
    have hv:a.tmps.getD x undef=.pointer (some ⟨g.β s,0,none⟩):=by have:=hr.env x; rw [hx] at this; exact this
    obtain ⟨cs,ty,hb,hps,_,_⟩:=hr.box s ps hL
    have hl:=I6 hps
    have hrun:=Z4 (P:=P) ht (b:=g.β s) (o:=0) (w:=w) (vs:=cs.toList) (by omega) (or1 h1) (fun j v hj=>by
      rw [T1 hb]
      simpa using hj)
    refine ⟨_,by
      simp only [A0b,hv,asAddr]
      rw [F0]
      simp only [H7]
      rw [hrun],?_⟩
    rw [← hp]
    exact Z5 hf (Z7 hps (fun e=>by rw [hl,hn]; exact or1 h1 e))
inductive A3u (P:Program) (σ:St) (ρ τ:Nat → Option Nat):List ResultVar → PV → Prop
  | zero:A3u P σ ρ τ [] (.tup [])
  | one {r:ResultVar} {p q:PV} (h:A0G P σ ρ τ r p) (hw:WkA p q) (hn:N9 p=true):A3u P σ ρ τ [r] q
  | two {r1 r2:ResultVar} {p1 p2 q1 q2:PV} (h1:A0G P σ ρ τ r1 p1) (w1:WkA p1 q1) (n1:N9 p1=true) (h2:A0G P σ ρ τ r2 p2) (w2:WkA p2 q2) (n2:N9 p2=true):A3u P σ ρ τ [r1,r2] (.tup [q1,q2])
  | three {r1 r2 r3:ResultVar} {p1 p2 p3 q1 q2 q3:PV} (h1:A0G P σ ρ τ r1 p1) (w1:WkA p1 q1) (n1:N9 p1=true) (h2:A0G P σ ρ τ r2 p2) (w2:WkA p2 q2) (n2:N9 p2=true) (h3:A0G P σ ρ τ r3 p3) (w3:WkA p3 q3) (n3:N9 p3=true):A3u P σ ρ τ [r1,r2,r3] (.tup [q1,q2,q3])
  | four {r1 r2 r3 r4:ResultVar} {p1 p2 p3 p4 q1 q2 q3 q4:PV} (h1:A0G P σ ρ τ r1 p1) (w1:WkA p1 q1) (n1:N9 p1=true) (h2:A0G P σ ρ τ r2 p2) (w2:WkA p2 q2) (n2:N9 p2=true) (h3:A0G P σ ρ τ r3 p3) (w3:WkA p3 q3) (n3:N9 p3=true) (h4:A0G P σ ρ τ r4 p4) (w4:WkA p4 q4) (n4:N9 p4=true):A3u P σ ρ τ [r1,r2,r3,r4] (.tup [q1,q2,q3,q4])
theorem A1K {p:PV} (h:N9 p=true):∀ vs,p ≠ .tup vs:=by
  intro vs e; subst e; cases h
theorem A3u.run {P:Program} {B:Base} {σ:St} {g:Gh} {a:Act} {w:World} {ρ τ:Nat → Option Nat} {T':Nat → Option (Nat × Nat)} {g':Gh} (hf:∀ p v,K2 σ.T g p v → K2 T' g' (p.via1 ρ τ) v) (hr:Rel B σ g a w) {fn:Func} {l:List ResultVar} {p:PV} (hl:fn.results=l.toArray) (h:A3u P σ ρ τ l p) :
    ∃ v,(results fn a.tmps).run P w=.ok v w ∧ Rep T' g' p v:=by
  have one:∀ {r:ResultVar} {p q:PV},A0G P σ ρ τ r p → WkA p q → N9 p=true → ∃ v,(A0b a.tmps r).run P w=.ok v w ∧ X6 T' g' q v:=by
    intro r p q h hw hn
    obtain ⟨v,h1,h2⟩:=h.run hf hr
    exact ⟨v,h1,A4q hw (Z8 (A1K hn) h2)⟩
  cases h with
  | zero=>exact ⟨.tuple #[],by rw [Q7,hl]; simp [F0,H7],[],rfl,rfl⟩
  | one h hw hn =>
    obtain ⟨v,h1,h2⟩:=one h hw hn
    refine ⟨v,?_,T0 h2⟩
    rw [Q7,hl]
    simp [F0,H7,h1]
  | two h1 w1 n1 h2 w2 n2 =>
    obtain ⟨v1,e1,q1⟩:=one h1 w1 n1
    obtain ⟨v2,e2,q2⟩:=one h2 w2 n2
    refine ⟨.tuple #[v1,v2],?_,[v1,v2],rfl,v1,_,rfl,q1,v2,_,rfl,q2,rfl⟩
    rw [Q7,hl]
    simp [F0,H7,e1,e2]
  | three h1 w1 n1 h2 w2 n2 h3 w3 n3 =>
    obtain ⟨v1,e1,q1⟩:=one h1 w1 n1
    obtain ⟨v2,e2,q2⟩:=one h2 w2 n2
    obtain ⟨v3,e3,q3⟩:=one h3 w3 n3
    refine ⟨.tuple #[v1,v2,v3],?_,[v1,v2,v3],rfl,v1,_,rfl,q1,v2,_,rfl,q2,v3,_,rfl,q3,rfl⟩
    rw [Q7,hl]
    simp [F0,H7,e1,e2,e3]
  | four h1 w1 n1 h2 w2 n2 h3 w3 n3 h4 w4 n4 =>
    obtain ⟨v1,e1,q1⟩:=one h1 w1 n1
    obtain ⟨v2,e2,q2⟩:=one h2 w2 n2
    obtain ⟨v3,e3,q3⟩:=one h3 w3 n3
    obtain ⟨v4,e4,q4⟩:=one h4 w4 n4
    refine ⟨.tuple #[v1,v2,v3,v4],?_,[v1,v2,v3,v4],rfl,v1,_,rfl,q1,v2,_,rfl,q2,v3,_,rfl,q3,v4,_,rfl,q4,rfl⟩
    rw [Q7,hl]
    simp [F0,H7,e1,e2,e3,e4]
def m9 (σ:St) (ρ τ:Nat → Option Nat):Bx → Prop
  | []=>True
  | (s,qs) :: r=>(∃ ps,σ.L s=some ps ∧ WkL (ps.map (PV.via1 ρ τ)) qs) ∧ m9 σ ρ τ r
def A0F (σ:St):Tp → Prop
  | []=>True
  | (t,x) :: r=>σ.T t=some x ∧ A0F σ r
theorem u7 {σ:St} {ρ τ:Nat → Option Nat}:∀ {l:Bx},m9 σ ρ τ l → ∀ x ∈ l,∃ ps,σ.L x.1=some ps ∧ WkL (ps.map (PV.via1 ρ τ)) x.2
  | (s,qs) :: r,⟨h1,h2⟩,x,hx=>by
    rcases List.mem_cons.1 hx with rfl | hx
    · exact h1
    · exact u7 h2 x hx
theorem A0J {σ:St}:∀ {l:Tp},A0F σ l → ∀ x ∈ l,σ.T x.1=some x.2
  | (s,qs) :: r,⟨h1,h2⟩,x,hx=>by
    rcases List.mem_cons.1 hx with rfl | hx
    · exact h1
    · exact A0J h2 x hx
def A8X (P:Program) (l:List ResultVar) {ι:Type} (Q:ι → Prop) (out:ι → s9):Exit → St → Prop
  | .normal,σ | .ret,σ=>∃ x,Q x ∧ A3u P σ (idm (out x).L) (idm (out x).T) l (out x).r ∧ m9 σ (idm (out x).L) (idm (out x).T) (out x).L ∧ A0F σ (out x).T
  | _,_=>False
def St.startG (N:Nat) (args:List PV) (L:Bx) (T:Tp):St:={ N,env:=fun k=>args.getD k .any,L:=G3 L,T:=G3 T }
theorem M4 {P:Program} {f:FuncId} {fn:Func} {c:Code} {args:List PV} {l:List ResultVar} {N:Nat} {L:Bx} {T:Tp} {ι:Type} {Q:ι → Prop} {out:ι → s9} (hf:P.funcs[f]? = some fn) (hb:fn.body=some c) (hN:fn.ntmps=N) (hl:fn.results=l.toArray) (hle:args.length ≤ N)
    (h:∀ (w0:World) (i0:Imm) (F:Nat → Prop) (βs:Nat → Nat),AW P ⟨w0,i0,F,fun s=>(G3 L s).map fun _=>βs s⟩ c (A8X P l Q out) (St.startG N args L T)):PG P f L T args Q out:=by
  intro g w vs hr0 hargs
  have hlen:=Z6 hargs
  refine calls_of_wp hf hb ?_
  have hr:Rel (A3v L T g w) (St.startG N args L T) g { tmps:=vs.toArray ++ Array.replicate (fn.ntmps - vs.toArray.size) undef,defers:=[] } w:=by
    refine { size:=?_,env:=?_,defers:=rfl,imm:=hr0.imm,box:=hr0.box,apart:=hr0.apart,tip:=hr0.tip,tips:=hr0.tips,boxtip:=hr0.boxtip,below:=hr0.below,immle:=hr0.immle,immnew:=hr0.immnew,pin:=hr0.pin }
    · simp [St.startG,hN]; omega
    · intro t
      have h1:=A0W hargs t undef
      show Rep (G3 T) g (args.getD t .any) _
      have:(vs.toArray ++ Array.replicate (fn.ntmps - vs.toArray.size) undef).getD t undef=vs.getD t undef:=by
        rw [Array.getD_eq_getD_getElem?,List.getD_eq_getElem?_getD]
        by_cases ht:t < vs.length
        · rw [Array.getElem?_append_left (by simpa using ht)]; simp
        · rw [Array.getElem?_append_right (by simpa using ht),List.getElem?_eq_none (by omega),Array.getElem?_replicate]
          split <;> rfl
      rw [this]
      exact h1
  refine wp_mono (h w g.imm _ g.β _ _ _ hr) ?_
  rintro e a' w' ⟨σ',g',hr',hq⟩
  have key:(∃ x,Q x ∧ A3u P σ' (idm (out x).L) (idm (out x).T) l (out x).r ∧ m9 σ' (idm (out x).L) (idm (out x).T) (out x).L ∧ A0F σ' (out x).T) → a'.defers=[] ∧ ∃ v,(results fn a'.tmps).run P w'=.ok v w' ∧ ∃ x,Q x ∧ ∃ v_1 g',Ending.returned v=.returned v_1 ∧ Rel (A3v L T g w) (st0 (out x).L (out x).T) g' A6L w' ∧ Rep (G3 (out x).T) g' (out x).r v_1:=by
    rintro ⟨x,hx,h1,h2,h3⟩
    have tk:∀ t y,G3 (out x).T t=some y → σ'.T t=some y:=fun t y h=>A0J h3 _ (O2 h)
    have f1:∀ p v,K2 σ'.T g' p v → K2 (G3 (out x).T) g' (p.via1 (idm (out x).L) (idm (out x).T)) v:=
      r9 (Imm.le_refl _) (fun s s' e=>by rw [A6d e]) (fun t t' e=>by
        obtain rfl:=A6d e
        obtain ⟨y,hy⟩:=A4y e
        exact ⟨rfl,hy.trans (tk _ _ hy).symm⟩)
    obtain ⟨v,h4,h5⟩:=h1.run f1 hr' hl
    have bx:∀ s qs,G3 (out x).L s=some qs → ∃ ps,σ'.L s=some ps ∧ WkL (ps.map (PV.via1 (idm (out x).L) (idm (out x).T))) qs:=fun s qs h=>u7 h2 _ (O2 h)
    refine ⟨hr'.defers,v,h4,x,hx,v,g',rfl,{ size:=rfl,env:=fun _=>trivial,defers:=rfl,imm:=hr'.imm,box:=?_,apart:=?_,tip:=?_,tips:=?_,boxtip:=?_,below:=hr'.below,immle:=hr'.immle,immnew:=hr'.immnew,pin:=hr'.pin },h5⟩
    · intro s qs h
      obtain ⟨ps,h6,h7⟩:=bx s qs h
      obtain ⟨cs,ty,h8,h9,h10⟩:=hr'.box s ps h6
      exact ⟨cs,ty,h8,A1w h7 (P7 f1 h9),h10⟩
    · intro s s' qs qs' h h' hne
      obtain ⟨ps,h6,_⟩:=bx s qs h
      obtain ⟨ps',h7,_⟩:=bx s' qs' h'
      exact hr'.apart s s' _ _ h6 h7 hne
    · intro t sz m b c h1 h2
      exact hr'.tip t sz m b c (tk _ _ h1) h2
    · intro t t' y y' b b' c c' h1 h2 h3 h4 hne
      exact hr'.tips t t' _ _ _ _ _ _ (tk _ _ h1) (tk _ _ h2) h3 h4 hne
    · intro s qs t y b c h h2 h3
      obtain ⟨ps,h6,_⟩:=bx s qs h
      exact hr'.boxtip s ps t y b c h6 (tk _ _ h2) h3
  cases e with
  | normal=>exact key hq
  | ret=>exact key hq
  | _=>exact hq.elim
theorem M1 {P:Program} {f:FuncId} {args:List PV} {r:PV} (h:PG P f [] [] args (fun _:Unit=>True) (fun _=>⟨[],[],r⟩)) (hs:r.strip=r):PF P f args r:=by
  intro imm w vs hok hargs
  have hr:Rel (A3v [] [] (gh imm) w) (st0 [] []) (gh imm) A6L w:=
    { size:=rfl,env:=fun _=>trivial,defers:=rfl,imm:=hok,box:=(fun _ _ h=>nomatch h),apart:=(fun _ _ _ _ h=>nomatch h),tip:=(fun _ _ _ _ _ h=>nomatch h),tips:=(fun _ _ _ _ _ _ _ _ h=>nomatch h),boxtip:=(fun _ _ _ _ _ _ h=>nomatch h),below:=⟨rfl,rfl,rfl,Nat.le_refl _,fun _ _ _=>rfl⟩,immle:=Imm.le_refl _,immnew:=fun _ _ _ h=>.inl h,pin:=(fun _ _ h=>nomatch h) }
  have hT:(G3 []:Nat → Option (Nat × Nat))=noT:=rfl
  refine (h (gh imm) w vs hr hargs).mono ?_
  rintro e w' ⟨_,_,v,g',rfl,hb,hv⟩
  have no:∀ b,¬ A0x [] [] (gh imm) b:=by rintro b (⟨_,_,h,_⟩ | ⟨_,_,_,h,_⟩) <;> cases h
  obtain ⟨k1,k2,k3,k4,k5⟩:=hb.below
  refine ⟨v,g'.imm,rfl,hb.immle,hb.imm,fun b o u hu=>?_,?_,k1,k2,k3,k4,fun k hk=>k5 k hk (no k)⟩
  · rcases hb.immnew b o u hu with h | h | h
    · exact .inl h
    · exact .inr h
    · exact absurd h (no b)
  · rw [← hs]; exact A0l (Imm.le_refl _) hv
end Go.Ab
