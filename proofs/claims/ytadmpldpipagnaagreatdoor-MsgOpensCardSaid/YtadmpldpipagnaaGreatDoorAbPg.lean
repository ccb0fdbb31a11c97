import Derived.Test.YtadmpldpipagnaaGreatDoorAbTip
namespace Go.Ab
open Go.RowKit
set_option linter.unusedVariables false
set_option linter.unusedSimpArgs false
def G3 {β:Type}:List (Nat × β) → Nat → Option β
  | [],_=>none
  | (k,x) :: r,s=>cond (Nat.beq s k) (some x) (G3 r s)
theorem O2 {β:Type}:∀ {l:List (Nat × β)} {s:Nat} {x:β},G3 l s=some x → (s,x) ∈ l
  | [],_,_,h=>by cases h
  | (k,y) :: r,s,x,h=>by
    simp only [G3] at h
    cases hq:Nat.beq s k with
    | true =>
      rw [hq] at h
      obtain rfl:=Nat.eq_of_beq_eq_true hq
      obtain rfl:y=x:=Option.some.inj h
      exact List.mem_cons_self
    | false=>rw [hq] at h; exact List.mem_cons_of_mem _ (O2 h)
theorem W5 {β:Type}:∀ {l:List (Nat × β)} {s:Nat} {x:β},(l.map (·.1)).Nodup → (s,x) ∈ l → G3 l s=some x
  | [],_,_,_,h=>by cases h
  | (k,y) :: r,s,x,hn,h=>by
    simp only [List.map_cons,List.nodup_cons] at hn
    simp only [G3]
    rcases List.mem_cons.1 h with e | h'
    · cases e; rw [Nat.beq_refl]; rfl
    · have:s ≠ k:=fun e=>by subst e; exact hn.1 (List.mem_map.2 ⟨(s,x),h',rfl⟩)
      rw [t9 this]
      exact W5 hn.2 h'
theorem look_key {β:Type} {l:List (Nat × β)} {s:Nat} (h:s ∈ l.map (·.1)) (hn:(l.map (·.1)).Nodup):∃ x,G3 l s=some x:=by
  obtain ⟨⟨k,x⟩,h1,rfl⟩:=List.mem_map.1 h
  exact ⟨x,W5 hn h1⟩
theorem look_keys {β:Type} {l:List (Nat × β)} {s:Nat} {x:β} (h:G3 l s=some x):s ∈ l.map (·.1):=List.mem_map.2 ⟨_,O2 h,rfl⟩
def A8Y (ρ:Nat → Option Nat):Option Nat → Option (Option Nat)
  | none=>some none
  | some s=>(ρ s).map some
def A6S (ρ:Nat → Option Nat):List (Option Nat) → Option (List (Option Nat))
  | []=>some []
  | x :: xs=>match A8Y ρ x,A6S ρ xs with
    | some y,some ys=>some (y :: ys)
    | _,_=>none
theorem A5s {ρ:Nat → Option Nat} {β β':Nat → Nat} (hb:∀ s s',ρ s=some s' → β' s'=β s):∀ {ls ls':List (Option Nat)},A6S ρ ls=some ls' → ls'.map (cap β')=ls.map (cap β)
  | [],ls',h=>by cases h; rfl
  | x :: xs,ls',h=>by
    simp only [A6S] at h
    cases h1:A8Y ρ x with
    | none=>rw [h1] at h; cases h
    | some y =>
      cases h2:A6S ρ xs with
      | none=>rw [h1,h2] at h; cases h
      | some ys =>
        rw [h1,h2] at h
        cases h
        rw [List.map_cons,List.map_cons,A5s hb h2]
        congr 1
        cases x with
        | none=>cases h1; rfl
        | some s =>
          simp only [A8Y] at h1
          cases h3:ρ s with
          | none=>rw [h3] at h1; cases h1
          | some s'=>rw [h3] at h1; cases h1; simp only [cap]; rw [hb s s' h3]
def PV.via1 (ρ ρt:Nat → Option Nat):PV → PV
  | .loc s off=>match ρ s with | some s'=>.loc s' off | none=>.any
  | .clo f ls=>match A6S ρ ls with | some ls'=>.clo f ls' | none=>.any
  | .arr s o n c=>match ρ s with | some s'=>.arr s' o n c | none=>.any
  | .own t n S=>match ρt t with | some t'=>.own t' n S | none=>.sem S
  | p=>p
def PV.via2 (ρ ρt:Nat → Option Nat):PV → PV
  | .agg cs=>.agg (cs.map (PV.via1 ρ ρt))
  | p=>p.via1 ρ ρt
def PV.via (ρ ρt:Nat → Option Nat):PV → PV
  | .tup vs=>.tup (vs.map (PV.via2 ρ ρt))
  | p=>p.via2 ρ ρt
section via
variable {T T':Nat → Option (Nat × Nat)} {g g':Gh} {ρ ρt:Nat → Option Nat}
theorem A5S:∀ p:PV,(∀ cs,p ≠ .agg cs) → p.via2 ρ ρt=p.via1 ρ ρt:=by
  intro p h
  cases p <;> first | rfl | exact absurd rfl (h _)
theorem A6Z:∀ p:PV,(∀ cs,p ≠ .tup cs) → p.via ρ ρt=p.via2 ρ ρt:=by
  intro p h
  cases p <;> first | rfl | exact absurd rfl (h _)
theorem r9 (hi:Imm.le g.imm g'.imm) (hb:∀ s s',ρ s=some s' → g'.β s'=g.β s) (ht:∀ t t',ρt t=some t' → g'.τ t'=g.τ t ∧ T' t'=T t) (p:PV) (v:Value) (h:K2 T g p v):K2 T' g' (p.via1 ρ ρt) v:=by
  cases p with
  | any=>trivial
  | sc u=>exact h
  | loc s off =>
    simp only [PV.via1]
    cases hq:ρ s with
    | none=>trivial
    | some s'=>simp only [K2] at h ⊢; rw [hb s s' hq]; exact h
  | clo f ls =>
    simp only [PV.via1]
    cases hq:A6S ρ ls with
    | none=>trivial
    | some ls'=>simp only [K2] at h ⊢; rw [A5s hb hq]; exact h
  | arr s o n c =>
    simp only [PV.via1]
    cases hq:ρ s with
    | none=>trivial
    | some s'=>simp only [K2] at h ⊢; rw [hb s s' hq]; exact h
  | sem S=>exact S.mono hi h
  | own t n S =>
    obtain ⟨h1,sz,m,h2,h3,h4⟩:=h
    simp only [PV.via1]
    cases hq:ρt t with
    | none=>exact S.mono hi h1
    | some t' =>
      obtain ⟨e1,e2⟩:=ht t t' hq
      refine ⟨S.mono hi h1,sz,m,by rw [e2]; exact h2,h3,fun e=>?_⟩
      rw [e1]
      exact h4 e
  | agg cs=>exact h.elim
  | tup vs=>exact h.elim
theorem A7i (hf:∀ p v,K2 T g p v → K2 T' g' (p.via1 ρ ρt) v) {p:PV} {v:Value} (h:X6 T g p v):X6 T' g' (p.via2 ρ ρt) v:=
  V6 (f:=PV.via1 ρ ρt) (f2:=PV.via2 ρ ρt) hf (fun _=>rfl) A5S h
theorem Z5 (hf:∀ p v,K2 T g p v → K2 T' g' (p.via1 ρ ρt) v) {p:PV} {v:Value} (h:Rep T g p v):Rep T' g' (p.via ρ ρt) v:=
  j1 (f2:=PV.via2 ρ ρt) (f3:=PV.via ρ ρt) (fun p v h=>A7i hf h) (fun _=>rfl) A6Z h
end via
abbrev Bx:=List (Nat × List PV)
abbrev Tp:=List (Nat × (Nat × Nat))
def A6L:Act:={ tmps:=#[],defers:=[] }
def st0 (L:Bx) (T:Tp):St:={ N:=0,env:=fun _=>.any,L:=G3 L,T:=G3 T }
def A0x (L:Bx) (T:Tp) (g:Gh):Nat → Prop:=fun b=>(∃ s ps,G3 L s=some ps ∧ g.β s=b) ∨ ∃ t x c,G3 T t=some x ∧ g.τ t=some (b,c)
def B0A (L:Bx) (g:Gh):Nat → Option Nat:=fun s=>(G3 L s).map fun _=>g.β s
def A3v (L:Bx) (T:Tp) (g:Gh) (w:World):Base:=⟨w,g.imm,A0x L T g,B0A L g⟩
structure s9 where
  L:Bx
  T:Tp
  r:PV
def PG (P:Program) (f:FuncId) (L:Bx) (T:Tp) (args:List PV) {ι:Type} (Q:ι → Prop) (out:ι → s9):Prop:=
  ∀ (g:Gh) (w:World) (vs:List Value),Rel (A3v L T g w) (st0 L T) g A6L w → m4 (G3 T) g args vs → Calls P f vs.toArray w fun e w' =>
    ∃ x,Q x ∧ ∃ v g',e=.returned v ∧ Rel (A3v L T g w) (st0 (out x).L (out x).T) g' A6L w' ∧ Rep (G3 (out x).T) g' (out x).r v
def P9 (ρ:List (Nat × Nat)):List (Nat × Nat):=ρ.map fun x=>(x.2,x.1)
structure A6H (L:Bx) (T:Tp) (ρi τi ρ τ:List (Nat × Nat)):Prop where
  n1:(ρ.map (·.1)).Nodup
  n2:(ρ.map (·.2)).Nodup
  m1:(τ.map (·.1)).Nodup
  m2:(τ.map (·.2)).Nodup
  ii:∀ x ∈ ρi,G3 ρ x.2=some x.1
  it:∀ x ∈ τi,G3 τ x.2=some x.1
  li:∀ x ∈ L,∃ s',(s',x.1) ∈ ρi
  ti:∀ x ∈ T,∃ t',(t',x.1) ∈ τi
theorem V9 {ρ:List (Nat × Nat)} (h2:(ρ.map (·.2)).Nodup) {s s':Nat} (h:G3 ρ s=some s'):G3 (P9 ρ) s'=some s:=
  W5 (by simpa [P9,Function.comp_def] using h2) (List.mem_map.2 ⟨_,O2 h,rfl⟩)
theorem l7 {ρ:List (Nat × Nat)} (h1:(ρ.map (·.1)).Nodup) {s s':Nat} (h:G3 (P9 ρ) s'=some s):G3 ρ s=some s':=by
  have:=O2 h
  simp only [P9,List.mem_map,Prod.mk.injEq,Prod.exists] at this
  obtain ⟨a,b,h3,rfl,rfl⟩:=this
  exact W5 h1 h3
def A3a (L:Bx) (ρ:List (Nat × Nat)) (s':Nat):Option Nat:=match G3 (P9 ρ) s' with
  | none=>some s'
  | some s=>match G3 L s with | some _=>some s' | none=>none
def A3t (τ:List (Nat × Nat)) (t':Nat):Option Nat:=match G3 (P9 τ) t' with
  | none=>some t'
  | some _=>none
def St.behind (σ:St) (L:Bx) (ρ τ:List (Nat × Nat)) (o:s9):St where
  N:=σ.N
  env:=fun k=>(σ.env k).via (A3a L ρ) (A3t τ)
  L:=fun s'=>match G3 (P9 ρ) s' with
    | some s=>(G3 o.L s).map fun ps=>ps.map (PV.via1 (G3 ρ) (G3 τ))
    | none=>(σ.L s').map fun ps=>ps.map (PV.via1 (A3a L ρ) (A3t τ))
  T:=fun t'=>match G3 (P9 τ) t' with
    | some t=>G3 o.T t
    | none=>σ.T t'
section call
variable {P:Program} {B:Base} {σ:St} {g:Gh} {a:Act} {w:World}
def Z3 (g:Gh) (ρ τ:List (Nat × Nat)):Gh:={ imm:=g.imm,β:=fun s=>g.β ((G3 ρ s).getD 0),τ:=fun t=>g.τ ((G3 τ t).getD 0) }
def j9 (g g':Gh) (ρ τ:List (Nat × Nat)):Gh:={ imm:=g'.imm,β:=fun s'=>match G3 (P9 ρ) s' with | some s=>g'.β s | none=>g.β s',τ:=fun t'=>match G3 (P9 τ) t' with | some t=>g'.τ t | none=>g.τ t' }
theorem A4z {L:Bx} {T:Tp} {ρi τi ρ τ:List (Nat × Nat)} (k:A6H L T ρi τi ρ τ) (hT:∀ x ∈ τi,G3 T x.2=σ.T x.1) (p:PV) (v:Value) (h:K2 σ.T g p v):K2 (G3 T) (Z3 g ρ τ) (p.via1 (G3 ρi) (G3 τi)) v:=
  r9 (g:=g) (g':=Z3 g ρ τ) (T:=σ.T) (T':=G3 T) (Imm.le_refl _) (fun s s' e=>by show g.β ((G3 ρ s').getD 0)=_; rw [k.ii _ (O2 e)]; rfl)
    (fun t t' e=>⟨by show g.τ ((G3 τ t').getD 0)=_; rw [k.it _ (O2 e)]; rfl,hT _ (O2 e)⟩) p v h
theorem Rel.handed (hr:Rel B σ g a w) {L:Bx} {T:Tp} {ρi τi ρ τ:List (Nat × Nat)} (k:A6H L T ρi τi ρ τ) (hT:∀ x ∈ τi,G3 T x.2=σ.T x.1)
    (hL:∀ x ∈ L,∀ s',(s',x.1) ∈ ρi → ∃ ps,σ.L s'=some ps ∧ WkL (ps.map (PV.via1 (G3 ρi) (G3 τi))) x.2) :
    Rel (A3v L T (Z3 g ρ τ) w) (st0 L T) (Z3 g ρ τ) A6L w:=by
  have bx:∀ s ps,G3 L s=some ps → ∃ s',G3 ρ s=some s' ∧ ∃ ps0,σ.L s'=some ps0 ∧ WkL (ps0.map (PV.via1 (G3 ρi) (G3 τi))) ps:=by
    intro s ps h
    have hm:=O2 h
    obtain ⟨s',h1⟩:=k.li _ hm
    exact ⟨s',k.ii _ h1,hL _ hm s' h1⟩
  have tp:∀ t x,G3 T t=some x → ∃ t',G3 τ t=some t' ∧ σ.T t'=some x:=by
    intro t x h
    obtain ⟨t',h1⟩:=k.ti _ (O2 h)
    exact ⟨t',k.it _ h1,by rw [← hT _ h1]; exact h⟩
  have βe:∀ s s',G3 ρ s=some s' → (Z3 g ρ τ).β s=g.β s':=fun s s' h=>by show g.β ((G3 ρ s).getD 0)=_; rw [h]; rfl
  have τe:∀ t t',G3 τ t=some t' → (Z3 g ρ τ).τ t=g.τ t':=fun t t' h=>by show g.τ ((G3 τ t).getD 0)=_; rw [h]; rfl
  have inj:∀ {ρ:List (Nat × Nat)} {s1 s2 x:Nat},(ρ.map (·.2)).Nodup → G3 ρ s1=some x → G3 ρ s2=some x → s1=s2:=by
    intro ρ s1 s2 x hn h1 h2
    have:=V9 hn h1
    rw [V9 hn h2] at this
    exact (Option.some.inj this).symm
  refine { size:=rfl,env:=fun _=>trivial,defers:=rfl,imm:=hr.imm,box:=?_,apart:=?_,tip:=?_,tips:=?_,boxtip:=?_,below:=⟨rfl,rfl,rfl,Nat.le_refl _,fun _ _ _=>rfl⟩,immle:=Imm.le_refl _,immnew:=fun _ _ _ h=>.inl h,pin:=?_ }
  · intro s ps h
    obtain ⟨s',h1,ps0,h2,h3⟩:=bx s ps h
    obtain ⟨cs,ty,h4,h5,h6,h7⟩:=hr.box s' ps0 h2
    exact ⟨cs,ty,by rw [βe s s' h1]; exact h4,A1w h3 (P7 (A4z k hT) h5),fun o=>by rw [βe s s' h1]; exact h6 o,.inr (.inl ⟨s,ps,h,rfl⟩)⟩
  · intro s1 s2 p1 p2 h1 h2 hne
    obtain ⟨s1',e1,q1,f1,_⟩:=bx s1 p1 h1
    obtain ⟨s2',e2,q2,f2,_⟩:=bx s2 p2 h2
    rw [βe _ _ e1,βe _ _ e2]
    exact hr.apart s1' s2' q1 q2 f1 f2 (fun e=>hne (inj k.n2 e1 (e ▸ e2)))
  · intro t sz m b c h1 h2
    obtain ⟨t',e1,f1⟩:=tp t _ h1
    have h2':=h2
    rw [τe _ _ e1] at h2'
    obtain ⟨cs,ty,h4,h5,h6,h7,h8⟩:=hr.tip t' sz m b c f1 h2'
    exact ⟨cs,ty,h4,h5,h6,h7,.inr (.inr ⟨t,_,c,h1,h2⟩)⟩
  · intro t1 t2 x1 x2 b1 b2 c1 c2 h1 h2 h3 h4 hne
    obtain ⟨t1',e1,f1⟩:=tp t1 _ h1
    obtain ⟨t2',e2,f2⟩:=tp t2 _ h2
    rw [τe _ _ e1] at h3
    rw [τe _ _ e2] at h4
    exact hr.tips t1' t2' _ _ _ _ _ _ f1 f2 h3 h4 (fun e=>hne (inj k.m2 e1 (e ▸ e2)))
  · intro s ps t x b c h1 h2 h3
    obtain ⟨s',e1,q1,f1,_⟩:=bx s ps h1
    obtain ⟨t',e2,f2⟩:=tp t _ h2
    rw [τe _ _ e2] at h3
    rw [βe _ _ e1]
    exact hr.boxtip s' q1 t' x b c f1 f2 h3
  · intro s b h
    have h:(G3 L s).map (fun _=>(Z3 g ρ τ).β s)=some b:=h
    cases hl:G3 L s with
    | none=>rw [hl] at h; cases h
    | some ps=>rw [hl] at h; simpa using h
theorem Rel.back (hr:Rel B σ g a w) {L:Bx} {T:Tp} {ρi τi ρ τ:List (Nat × Nat)} (k:A6H L T ρi τi ρ τ) (hT:∀ x ∈ τi,G3 T x.2=σ.T x.1)
    (hL:∀ x ∈ L,∀ s',(s',x.1) ∈ ρi → ∃ ps,σ.L s'=some ps ∧ WkL (ps.map (PV.via1 (G3 ρi) (G3 τi))) x.2)
    {o:s9} {g':Gh} {w':World} (hb:Rel (A3v L T (Z3 g ρ τ) w) (st0 o.L o.T) g' A6L w')
    (ho:o.L.map (·.1)=ρ.map (·.1)) (hot:o.T.map (·.1)=τ.map (·.1)) (hpin:∀ x ∈ ρ,G3 L x.1=none → B.pin x.2=none) :
    Rel B (σ.behind L ρ τ o) (j9 g g' ρ τ) a w' ∧ ∀ p v,K2 (G3 o.T) g' p v → K2 (σ.behind L ρ τ o).T (j9 g g' ρ τ) (p.via1 (G3 ρ) (G3 τ)) v:=by
  have lt:∀ {k:Nat} {o:Obj},w.heap[k]? = some o → k < w.heap.size:=fun h=>(Array.getElem?_eq_some_iff.1 h).1
  have bx:∀ s ps,G3 L s=some ps → ∃ s',G3 ρ s=some s' ∧ ∃ ps0,σ.L s'=some ps0:=by
    intro s ps h
    have hm:=O2 h
    obtain ⟨s',h1⟩:=k.li _ hm
    obtain ⟨ps0,h2,_⟩:=hL _ hm s' h1
    exact ⟨s',k.ii _ h1,ps0,h2⟩
  have tp:∀ t x,G3 T t=some x → ∃ t',G3 τ t=some t' ∧ σ.T t'=some x:=by
    intro t x h
    obtain ⟨t',h1⟩:=k.ti _ (O2 h)
    exact ⟨t',k.it _ h1,by rw [← hT _ h1]; exact h⟩
  have βe:∀ s s',G3 ρ s=some s' → (Z3 g ρ τ).β s=g.β s':=fun s s' h=>by show g.β ((G3 ρ s).getD 0)=_; rw [h]; rfl
  have τe:∀ t t',G3 τ t=some t' → (Z3 g ρ τ).τ t=g.τ t':=fun t t' h=>by show g.τ ((G3 τ t).getD 0)=_; rw [h]; rfl
  have βo:∀ s s',G3 (P9 ρ) s'=some s → (j9 g g' ρ τ).β s'=g'.β s:=fun s s' h=>by simp only [j9]; rw [h]
  have βn:∀ s',G3 (P9 ρ) s'=none → (j9 g g' ρ τ).β s'=g.β s':=fun s' h=>by simp only [j9]; rw [h]
  have τo:∀ t t',G3 (P9 τ) t'=some t → (j9 g g' ρ τ).τ t'=g'.τ t:=fun t t' h=>by simp only [j9]; rw [h]
  have τn:∀ t',G3 (P9 τ) t'=none → (j9 g g' ρ τ).τ t'=g.τ t':=fun t' h=>by simp only [j9]; rw [h]
  have To:∀ t t',G3 (P9 τ) t'=some t → (σ.behind L ρ τ o).T t'=G3 o.T t:=fun t t' h=>by simp only [St.behind]; rw [h]
  have Tn:∀ t',G3 (P9 τ) t'=none → (σ.behind L ρ τ o).T t'=σ.T t':=fun t' h=>by simp only [St.behind]; rw [h]
  have hile:Imm.le g.imm g'.imm:=hb.immle
  have ownF:∀ b,A0x L T (Z3 g ρ τ) b → (B.w0.heap.size ≤ b ∨ B.F b) ∧ (∀ s' ps,G3 (P9 ρ) s'=none → σ.L s'=some ps → g.β s' ≠ b) ∧ (∀ t' x b' c',G3 (P9 τ) t'=none → σ.T t'=some x → g.τ t'=some (b',c') → b' ≠ b):=by
    rintro b (⟨s,ps,h1,rfl⟩ | ⟨t,x,c,h1,h2⟩)
    · obtain ⟨s',e1,ps0,h2⟩:=bx s ps h1
      rw [βe _ _ e1]
      obtain ⟨_,_,_,_,_,h3⟩:=hr.box s' ps0 h2
      refine ⟨h3,fun s2 p2 n2 l2=>hr.apart s2 s' p2 ps0 l2 h2 (fun e=>?_),fun t' x b' c' _ q1 q2 e=>hr.boxtip s' ps0 t' x b' c' h2 q1 q2 e.symm⟩
      subst e
      rw [V9 k.n2 e1] at n2
      cases n2
    · obtain ⟨t',e1,f1⟩:=tp t x h1
      obtain ⟨sz,m⟩:=x
      rw [τe _ _ e1] at h2
      obtain ⟨_,_,_,_,_,_,h3⟩:=hr.tip t' sz m b c f1 h2
      refine ⟨h3,fun s2 p2 n2 l2=>hr.boxtip s2 p2 t' _ b c l2 f1 h2,fun t2 x2 b2 c2 n2 q1 q2=>hr.tips t2 t' _ _ _ _ _ _ q1 f1 q2 h2 (fun e=>?_)⟩
      subst e
      rw [V9 k.m2 e1] at n2
      cases n2
  have newF:∀ b,(w.heap.size ≤ b ∨ A0x L T (Z3 g ρ τ) b) → (B.w0.heap.size ≤ b ∨ B.F b):=by
    rintro b (h | h)
    · exact .inl (by have:=hr.below.2.2.2.1; omega)
    · exact (ownF b h).1
  have boxN:∀ s' ps,G3 (P9 ρ) s'=none → σ.L s'=some ps → ¬ (w.heap.size ≤ g.β s' ∨ A0x L T (Z3 g ρ τ) (g.β s')):=by
    rintro s' ps h1 h2 (h | h)
    · obtain ⟨_,_,h3,_⟩:=hr.box s' ps h2
      have:=lt h3
      omega
    · exact (ownF _ h).2.1 s' ps h1 h2 rfl
  have tipN:∀ t' x b c,G3 (P9 τ) t'=none → σ.T t'=some x → g.τ t'=some (b,c) → ¬ (w.heap.size ≤ b ∨ A0x L T (Z3 g ρ τ) b):=by
    rintro t' ⟨sz,m⟩ b c h1 h2 h3 (h | h)
    · obtain ⟨_,_,h4,_⟩:=hr.tip t' sz m b c h2 h3
      have:=lt h4
      omega
    · exact (ownF _ h).2.2 t' _ b c h1 h2 h3 rfl
  obtain ⟨b1,b2,b3,b4,b5⟩:=hb.below
  have same:∀ b,¬ (w.heap.size ≤ b ∨ A0x L T (Z3 g ρ τ) b) → w'.heap[b]? = w.heap[b]?:=fun b h=>b5 b (Nat.lt_of_not_le fun e=>h (.inl e)) (fun e=>h (.inr e))
  have immSame:∀ b o,¬ (w.heap.size ≤ b ∨ A0x L T (Z3 g ρ τ) b) → g.imm b o=none → g'.imm b o=none:=by
    intro b o h hn
    cases hq:g'.imm b o with
    | none=>rfl
    | some u =>
      rcases hb.immnew b o u hq with h' | h' | h'
      · have h':g.imm b o=some u:=h'
        rw [hn] at h'; cases h'
      · exact absurd (Or.inl h') h
      · exact absurd (Or.inr h') h
  have f1:∀ p v,K2 σ.T g p v → K2 (σ.behind L ρ τ o).T (j9 g g' ρ τ) (p.via1 (A3a L ρ) (A3t τ)) v:=by
    refine r9 hile (fun s s' e=>?_) (fun t t' e=>?_)
    · simp only [A3a] at e
      cases hq:G3 (P9 ρ) s with
      | none =>
        rw [hq] at e
        obtain rfl:s=s':=by simpa using e
        exact βn s hq
      | some s0 =>
        rw [hq] at e
        simp only at e
        cases hl:G3 L s0 with
        | none=>rw [hl] at e; cases e
        | some ps =>
          rw [hl] at e
          obtain rfl:s=s':=by simpa using e
          rw [βo s0 s hq]
          have hp:=hb.pin s0 ((Z3 g ρ τ).β s0) (by show (G3 L s0).map _=_; rw [hl]; rfl)
          rw [hp]
          exact βe s0 s (l7 k.n1 hq)
    · simp only [A3t] at e
      cases hq:G3 (P9 τ) t with
      | none =>
        rw [hq] at e
        obtain rfl:t=t':=by simpa using e
        exact ⟨τn t hq,Tn t hq⟩
      | some t0=>rw [hq] at e; cases e
  have f2:∀ p v,K2 (G3 o.T) g' p v → K2 (σ.behind L ρ τ o).T (j9 g g' ρ τ) (p.via1 (G3 ρ) (G3 τ)) v:=
    r9 (Imm.le_refl _) (fun s s' e=>βo s s' (V9 k.n2 e)) (fun t t' e=>⟨τo t t' (V9 k.m2 e),To t t' (V9 k.m2 e)⟩)
  have Lo:∀ s' ps',(σ.behind L ρ τ o).L s'=some ps' → (∃ s ps,G3 (P9 ρ) s'=some s ∧ G3 o.L s=some ps ∧ ps'=ps.map (PV.via1 (G3 ρ) (G3 τ))) ∨ (G3 (P9 ρ) s'=none ∧ ∃ ps,σ.L s'=some ps ∧ ps'=ps.map (PV.via1 (A3a L ρ) (A3t τ))):=by
    intro s' ps' h
    simp only [St.behind] at h
    cases hq:G3 (P9 ρ) s' with
    | none =>
      rw [hq] at h
      cases hl:σ.L s' with
      | none=>rw [hl] at h; cases h
      | some ps=>rw [hl] at h; exact .inr ⟨rfl,ps,rfl,by simpa using h.symm⟩
    | some s =>
      rw [hq] at h
      simp only at h
      cases hl:G3 o.L s with
      | none=>rw [hl] at h; cases h
      | some ps=>rw [hl] at h; exact .inl ⟨s,ps,rfl,hl,by simpa using h.symm⟩
  have To2:∀ t' x b c,(σ.behind L ρ τ o).T t'=some x → (j9 g g' ρ τ).τ t'=some (b,c) → (∃ t,G3 (P9 τ) t'=some t ∧ G3 o.T t=some x ∧ g'.τ t=some (b,c)) ∨ (G3 (P9 τ) t'=none ∧ σ.T t'=some x ∧ g.τ t'=some (b,c)):=by
    intro t' x b c h1 h2
    cases hq:G3 (P9 τ) t' with
    | none=>rw [Tn t' hq] at h1; rw [τn t' hq] at h2; exact .inr ⟨rfl,h1,h2⟩
    | some t=>rw [To t t' hq] at h1; rw [τo t t' hq] at h2; exact .inl ⟨t,rfl,h1,h2⟩
  have nb:∀ s ps,G3 o.L s=some ps → (w.heap.size ≤ g'.β s ∨ A0x L T (Z3 g ρ τ) (g'.β s)):=fun s ps h=>by obtain ⟨_,_,_,_,_,h5⟩:=hb.box s ps h; exact h5
  have nt:∀ t x b c,G3 o.T t=some x → g'.τ t=some (b,c) → (w.heap.size ≤ b ∨ A0x L T (Z3 g ρ τ) b):=fun t x b c h h2=>by obtain ⟨sz,m⟩:=x; obtain ⟨_,_,_,_,_,_,h5⟩:=hb.tip t sz m b c h h2; exact h5
  have inj:∀ {ρ:List (Nat × Nat)} {s1 s2 x:Nat},(ρ.map (·.1)).Nodup → G3 (P9 ρ) s1=some x → G3 (P9 ρ) s2=some x → s1=s2:=by
    intro ρ s1 s2 x hn h1 h2
    have:=l7 hn h1
    rw [l7 hn h2] at this
    exact (Option.some.inj this).symm
  refine ⟨{ size:=hr.size,env:=fun t=>Z5 f1 (hr.env t),defers:=hr.defers,imm:=hb.imm,box:=?_,apart:=?_,tip:=?_,tips:=?_,boxtip:=?_,below:=?_,immle:=Imm.le_trans hr.immle hile,immnew:=?_,pin:=?_ },f2⟩
  · intro s' ps' h
    rcases Lo s' ps' h with ⟨s,ps,h1,h2,rfl⟩ | ⟨h1,ps,h2,rfl⟩
    · obtain ⟨cs,ty,h3,h4,h5,h6⟩:=hb.box s ps h2
      exact ⟨cs,ty,by rw [βo s s' h1]; exact h3,P7 f2 h4,fun o'=>by rw [βo s s' h1]; exact h5 o',by rw [βo s s' h1]; exact newF _ h6⟩
    · obtain ⟨cs,ty,h3,h4,h5,h6⟩:=hr.box s' ps h2
      have hn:=boxN s' ps h1 h2
      exact ⟨cs,ty,by rw [βn s' h1,same _ hn]; exact h3,P7 f1 h4,fun o'=>by rw [βn s' h1]; exact immSame _ _ hn (h5 o'),by rw [βn s' h1]; exact h6⟩
  · intro s1 s2 p1 p2 h1 h2 hne
    rcases Lo s1 p1 h1 with ⟨a1,q1,e1,l1,_⟩ | ⟨e1,q1,l1,_⟩ <;> rcases Lo s2 p2 h2 with ⟨a2,q2,e2,l2,_⟩ | ⟨e2,q2,l2,_⟩
    · rw [βo _ _ e1,βo _ _ e2]; exact hb.apart a1 a2 q1 q2 l1 l2 (fun e=>hne (inj k.n1 e1 (e ▸ e2)))
    · rw [βo _ _ e1,βn _ e2]; intro e; have:=nb a1 q1 l1; rw [e] at this; exact boxN s2 q2 e2 l2 this
    · rw [βn _ e1,βo _ _ e2]; intro e; have:=nb a2 q2 l2; rw [← e] at this; exact boxN s1 q1 e1 l1 this
    · rw [βn _ e1,βn _ e2]; exact hr.apart s1 s2 q1 q2 l1 l2 hne
  · intro t' sz m b c h1 h2
    rcases To2 t' _ b c h1 h2 with ⟨t,e,l,q⟩ | ⟨e,l,q⟩
    · obtain ⟨cs,ty,h3,h4,h5,h6,h7⟩:=hb.tip t sz m b c l q
      exact ⟨cs,ty,h3,h4,h5,h6,newF _ h7⟩
    · obtain ⟨cs,ty,h3,h4,h5,h6,h7⟩:=hr.tip t' sz m b c l q
      have hn:=tipN t' _ b c e l q
      exact ⟨cs,ty,by rw [same _ hn]; exact h3,h4,h5,fun o' ho'=>immSame _ _ hn (h6 o' ho'),h7⟩
  · intro t1 t2 x1 x2 b1 b2 c1 c2 h1 h2 h3 h4 hne
    rcases To2 t1 _ b1 c1 h1 h3 with ⟨a1,e1,l1,q1⟩ | ⟨e1,l1,q1⟩ <;> rcases To2 t2 _ b2 c2 h2 h4 with ⟨a2,e2,l2,q2⟩ | ⟨e2,l2,q2⟩
    · exact hb.tips a1 a2 _ _ _ _ _ _ l1 l2 q1 q2 (fun e=>hne (inj k.m1 e1 (e ▸ e2)))
    · intro e; have:=nt a1 _ _ _ l1 q1; rw [e] at this; exact tipN t2 _ b2 c2 e2 l2 q2 this
    · intro e; have:=nt a2 _ _ _ l2 q2; rw [← e] at this; exact tipN t1 _ b1 c1 e1 l1 q1 this
    · exact hr.tips t1 t2 _ _ _ _ _ _ l1 l2 q1 q2 hne
  · intro s ps t x b c h1 h2 h3
    rcases Lo s ps h1 with ⟨a1,q1,e1,l1,_⟩ | ⟨e1,q1,l1,_⟩ <;> rcases To2 t _ b c h2 h3 with ⟨a2,e2,l2,q2⟩ | ⟨e2,l2,q2⟩
    · rw [βo _ _ e1]; exact hb.boxtip a1 q1 a2 _ b c l1 l2 q2
    · rw [βo _ _ e1]; intro e; have:=nb a1 q1 l1; rw [e] at this; exact tipN t _ b c e2 l2 q2 this
    · rw [βn _ e1]; intro e; have:=nt a2 _ _ _ l2 q2; rw [← e] at this; exact boxN s q1 e1 l1 this
    · rw [βn _ e1]; exact hr.boxtip s q1 t _ b c l1 l2 q2
  · obtain ⟨h1,h2,h3,h4,h5⟩:=hr.below
    have b4':w.heap.size ≤ w'.heap.size:=b4
    refine ⟨b1.trans h1,b2.trans h2,b3.trans h3,by omega,fun b hlt hn=>?_⟩
    rw [same b (fun h=>?_)]
    · exact h5 b hlt hn
    · rcases newF b h with h' | h'
      · omega
      · exact hn h'
  · intro b o' u h
    rcases hb.immnew b o' u h with h' | h'
    · exact hr.immnew b o' u h'
    · exact .inr (newF b h')
  · intro s' b h
    cases hq:G3 (P9 ρ) s' with
    | none=>rw [βn s' hq]; exact hr.pin s' b h
    | some s =>
      cases hl:G3 L s with
      | none =>
        have:=hpin (s,s') (O2 (l7 k.n1 hq)) hl
        rw [this] at h
        cases h
      | some ps =>
        rw [βo s s' hq,hb.pin s ((Z3 g ρ τ).β s) (by show (G3 L s).map _=_; rw [hl]; rfl),βe s s' (l7 k.n1 hq)]
        exact hr.pin s' b h
end call
end Go.Ab
