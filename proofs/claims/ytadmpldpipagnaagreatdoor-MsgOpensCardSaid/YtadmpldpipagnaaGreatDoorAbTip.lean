import Derived.Test.YtadmpldpipagnaaGreatDoorAbPq
import Derived.Laws.AppendOwn
import Derived.Great.BuildSlice
namespace Go.Ab
open Go.RowKit
set_option linter.unusedVariables false
set_option linter.unusedSimpArgs false
theorem t9 {a b:Nat} (h:a ≠ b):Nat.beq a b=false:=by
  cases h':Nat.beq a b with
  | false=>rfl
  | true=>exact absurd (Nat.eq_of_beq_eq_true h') h
theorem A0m {T T':Nat → Option (Nat × Nat)} {g g':Gh} {t:Nat} (hi:Imm.le g.imm g'.imm) (hb:g'.β=g.β) (ht:∀ t',t' ≠ t → g'.τ t'=g.τ t') (hT:∀ t',t' ≠ t → T' t'=T t') (p:PV) (v:Value) (h:K2 T g p v):K2 T' g' (p.drop1 t) v:=by
  cases p with
  | own t' n S =>
    simp only [PV.drop1]
    cases hq:Nat.beq t' t with
    | true=>exact S.mono hi h.1
    | false =>
      have hne:t' ≠ t:=fun e=>by subst e; simp at hq
      obtain ⟨h1,sz,m,h2,h3,h4⟩:=h
      refine ⟨S.mono hi h1,sz,m,by rw [hT _ hne]; exact h2,h3,fun e=>?_⟩
      rw [ht _ hne]
      exact h4 e
  | any=>trivial
  | sc u=>exact h
  | sem S=>exact S.mono hi h
  | loc s off=>simp only [PV.drop1,K2] at h ⊢; rw [hb]; exact h
  | clo f ls=>simp only [PV.drop1,K2] at h ⊢; rw [hb]; exact h
  | arr s o n c=>simp only [PV.drop1,K2] at h ⊢; rw [hb]; exact h
  | agg cs=>exact h.elim
  | tup vs=>exact h.elim
theorem rep_drop {T T':Nat → Option (Nat × Nat)} {g g':Gh} {t:Nat} (hi:Imm.le g.imm g'.imm) (hb:g'.β=g.β) (ht:∀ t',t' ≠ t → g'.τ t'=g.τ t') (hT:∀ t',t' ≠ t → T' t'=T t') {p:PV} {v:Value} (h:Rep T g p v):Rep T' g' (p.dropT t) v:=
  j1 (f2:=PV.drop2 t) (f3:=PV.dropT t) (fun p v h=>V6 (f:=PV.drop1 t) (f2:=PV.drop2 t) (A0m hi hb ht hT) (fun cs=>rfl) (f4 t) h) (fun cs=>rfl) (q6 t) h
def K5 (imm:Imm) (b lo:Nat) (vs:List Value):Imm:=fun b' o=>if b'=b ∧ lo ≤ o ∧ o < lo + vs.length then vs[o - lo]? else imm b' o
theorem U7 {imm:Imm} {b lo:Nat} {vs:List Value} (h:∀ o,lo ≤ o → imm b o=none):Imm.le imm (K5 imm b lo vs):=by
  intro b' o v hv
  unfold K5
  split
  · rename_i hc
    obtain ⟨rfl,h1,_⟩:=hc
    rw [h o h1] at hv
    cases hv
  · exact hv
theorem W4 {imm:Imm} {b lo:Nat} {vs:List Value} {j:Nat} {u:Value} (h:vs[j]? = some u):K5 imm b lo vs b (lo + j)=some u:=by
  have hj:=(List.getElem?_eq_some_iff.1 h).1
  unfold K5
  rw [if_pos ⟨rfl,by omega,by omega⟩,← h]
  congr 1
  omega
section rel
variable {P:Program} {B:Base} {σ σ':St} {g:Gh} {a:Act} {w w':World}
theorem Rel.tipTo (hr:Rel B σ g a w) {t sz n c b lo:Nat} {cs:Array Value} {ty:TypeId} {vs:List Value} {g':Gh}
    (hg':g'={ g with imm:=K5 g.imm b lo vs,τ:=fun k=>cond (Nat.beq k t) (some (b,c)) (g.τ k) })
    (hN:σ'.N=σ.N) (henv:∀ k v,Rep σ.T g (σ.env k) v → Rep σ'.T g' (σ'.env k) v)
    (hL:∀ s ps',σ'.L s=some ps' → ∃ ps,σ.L s=some ps ∧ ∀ vs,H9 σ.T g ps vs → H9 σ'.T g' ps' vs)
    (hT:∀ k,σ'.T k=cond (Nat.beq k t) (some (sz,n)) (σ.T k))
    (hw:w'.os=w.os ∧ w'.tape=w.tape ∧ w'.output=w.output ∧ w.heap.size ≤ w'.heap.size) (hother:∀ k,k < w.heap.size → k ≠ b → w'.heap[k]? = w.heap[k]?)
    (hb:w'.heap[b]? = some (.cells cs ty (0,0))) (hold:∀ o v,g.imm b o=some v → cs[o]? = some v) (hnone:∀ o,lo ≤ o → g.imm b o=none)
    (hnew:∀ j u,vs[j]? = some u → cs[lo + j]? = some u) (hlen:lo + vs.length=n * sz) (hnc:n ≤ c) (hcs:c * sz ≤ cs.size)
    (hbx:∀ s ps,σ.L s=some ps → g.β s ≠ b) (htp:∀ t' x b' c',t' ≠ t → σ.T t'=some x → g.τ t'=some (b',c') → b' ≠ b)
    (hbF:B.w0.heap.size ≤ b ∨ B.F b):Rel B σ' g' a w':=by
  subst hg'
  have lt:∀ {k:Nat} {o:Obj},w.heap[k]? = some o → k < w.heap.size:=fun h=>(Array.getElem?_eq_some_iff.1 h).1
  have hile:=U7 (vs:=vs) hnone
  have Tx:∀ t' x,t' ≠ t → σ'.T t'=some x → σ.T t'=some x:=fun t' x hne h=>by rw [hT,t9 hne] at h; exact h
  have τx:∀ t',t' ≠ t → (fun k=>cond (Nat.beq k t) (some (b,c)) (g.τ k)) t'=g.τ t':=fun t' hne=>by simp [t9 hne]
  refine { size:=hr.size.trans hN.symm,env:=fun k=>henv k _ (hr.env k),defers:=hr.defers,imm:=?_,box:=?_,apart:=?_,tip:=?_,tips:=?_,boxtip:=?_,below:=?_,immle:=Imm.le_trans hr.immle hile,immnew:=?_,pin:=hr.pin }
  · intro b' o v hv
    simp only [K5] at hv
    split at hv
    · rename_i hc
      obtain ⟨rfl,h1,h2⟩:=hc
      rw [T1 hb]
      have:=hnew _ _ hv
      rw [show lo + (o - lo)=o by omega] at this
      exact this
    · by_cases e:b'=b
      · subst e; rw [T1 hb]; exact hold o v hv
      · rw [A1m (hother b' (hr.lt_imm hv) e)]; exact hr.imm b' o v hv
  · intro s ps' h
    obtain ⟨ps,h1,h2⟩:=hL s ps' h
    obtain ⟨c1,t1,h3,h4,h5,h6⟩:=hr.box s ps h1
    have hne:=hbx s ps h1
    refine ⟨c1,t1,by rw [hother _ (lt h3) hne]; exact h3,h2 _ h4,fun o=>?_,h6⟩
    show K5 g.imm b lo vs (g.β s) o=none
    unfold K5
    rw [if_neg (fun hc=>hne hc.1)]
    exact h5 o
  · intro s s' ps ps' h h' hne
    obtain ⟨_,h1,_⟩:=hL s ps h
    obtain ⟨_,h2,_⟩:=hL s' ps' h'
    exact hr.apart s s' _ _ h1 h2 hne
  · intro t' sz' m b' c' h1 h2
    by_cases e:t'=t
    · subst e
      rw [hT] at h1
      simp only [Nat.beq_refl,cond_true,Option.some.injEq,Prod.mk.injEq] at h1 h2
      obtain ⟨rfl,rfl⟩:=h1
      obtain ⟨rfl,rfl⟩:=h2
      refine ⟨cs,ty,hb,hcs,hnc,fun o ho=>?_,hbF⟩
      show K5 g.imm b lo vs b o=none
      unfold K5
      rw [if_neg (by omega)]
      exact hnone o (by omega)
    · have h2:g.τ t'=some (b',c'):=by rw [← τx t' e]; exact h2
      obtain ⟨c1,t1,h3,h4,h5,h6,h7⟩:=hr.tip t' sz' m b' c' (Tx t' _ e h1) h2
      have hne:=htp t' _ b' c' e (Tx t' _ e h1) h2
      refine ⟨c1,t1,by rw [hother _ (lt h3) hne]; exact h3,h4,h5,fun o ho=>?_,h7⟩
      show K5 g.imm b lo vs b' o=none
      unfold K5
      rw [if_neg (fun hc=>hne hc.1)]
      exact h6 o ho
  · intro t1 t2 x1 x2 b1 b2 c1 c2 h1 h2 h3 h4 hne
    by_cases e1:t1=t
    · subst e1
      have e2:t2 ≠ t1:=fun e=>hne e.symm
      have h4':g.τ t2=some (b2,c2):=by rw [← τx t2 e2]; exact h4
      simp only [Nat.beq_refl,cond_true,Option.some.injEq,Prod.mk.injEq] at h3
      rw [← h3.1]
      exact (htp t2 _ _ _ e2 (Tx t2 _ e2 h2) h4').symm
    · have h3':g.τ t1=some (b1,c1):=by rw [← τx t1 e1]; exact h3
      by_cases e2:t2=t
      · subst e2
        simp only [Nat.beq_refl,cond_true,Option.some.injEq,Prod.mk.injEq] at h4
        rw [← h4.1]
        exact htp t1 _ _ _ e1 (Tx t1 _ e1 h1) h3'
      · have h4':g.τ t2=some (b2,c2):=by rw [← τx t2 e2]; exact h4
        exact hr.tips t1 t2 _ _ _ _ _ _ (Tx t1 _ e1 h1) (Tx t2 _ e2 h2) h3' h4' hne
  · intro s ps t' x b' c' h1 h2 h3
    obtain ⟨ps0,h1,_⟩:=hL s ps h1
    by_cases e:t'=t
    · subst e
      simp only [Nat.beq_refl,cond_true,Option.some.injEq,Prod.mk.injEq] at h3
      rw [← h3.1]
      exact hbx s ps0 h1
    · have h3':g.τ t'=some (b',c'):=by rw [← τx t' e]; exact h3
      exact hr.boxtip s ps0 t' x b' c' h1 (Tx t' _ e h2) h3'
  · obtain ⟨h1,h2,h3,h4,h5⟩:=hr.below
    refine ⟨hw.1.trans h1,hw.2.1.trans h2,hw.2.2.1.trans h3,by omega,fun k hk hn=>?_⟩
    rw [hother k (by omega) (fun e=>by
      subst e
      rcases hbF with h | h
      · omega
      · exact hn h)]
    exact h5 k hk hn
  · intro b' o v hv
    simp only [K5] at hv
    split at hv
    · rename_i hc
      rw [hc.1]
      exact .inr hbF
    · exact hr.immnew b' o v hv
theorem A4a {T T':Nat → Option (Nat × Nat)} {g g':Gh} {t sz n n':Nat} (hi:Imm.le g.imm g'.imm) (hb:g'.β=g.β) (ht:∀ t',t' ≠ t → g'.τ t'=g.τ t') (hT:∀ t',t' ≠ t → T' t'=T t')
    (h0:T t=some (sz,n)) (h1:T' t=some (sz,n')) (hn:n ≤ n') (hs:n=n' → g'.τ t=g.τ t) (p:PV) (v:Value) (h:K2 T g p v):K2 T' g' p v:=by
  cases p with
  | own t' k S =>
    obtain ⟨h2,sz',m,h3,h4,h5⟩:=h
    by_cases e:t'=t
    · subst e
      rw [h0] at h3
      simp only [Option.some.injEq,Prod.mk.injEq] at h3
      obtain ⟨rfl,rfl⟩:=h3
      refine ⟨S.mono hi h2,sz,n',h1,by omega,fun e=>?_⟩
      rw [hs (by omega)]
      exact h5 (by omega)
    · refine ⟨S.mono hi h2,sz',m,by rw [hT _ e]; exact h3,h4,fun e'=>?_⟩
      rw [ht _ e]
      exact h5 e'
  | any=>trivial
  | sc u=>exact h
  | sem S=>exact S.mono hi h
  | loc s off=>simp only [K2] at h ⊢; rw [hb]; exact h
  | clo f ls=>simp only [K2] at h ⊢; rw [hb]; exact h
  | arr s o n c=>simp only [K2] at h ⊢; rw [hb]; exact h
  | agg cs=>exact h.elim
  | tup vs=>exact h.elim
theorem Rel.drew (hr:Rel B σ g a w):Rel B σ g a w.drew:={ hr with }
end rel
theorem A3G {α:Type} {E:Enc α} {T:Nat → Option (Nat × Nat)} {g:Gh}:∀ {l:List α} {vs:List Value},H9 T g (l.flatMap E.pv) vs → ∀ i x,l[i]? = some x → H9 T g (E.pv x) ((vs.drop (i * E.sz)).take E.sz):=by
  intro l
  induction l with
  | nil=>intro vs _ i x hx; simp at hx
  | cons y l ih =>
    intro vs h i x hx
    rw [List.flatMap_cons] at h
    cases i with
    | zero =>
      simp at hx
      subst hx
      have:=R5 E.sz h
      rw [show (E.pv y ++ l.flatMap E.pv).take E.sz=E.pv y by rw [← E.len y]; simp] at this
      simpa using this
    | succ i =>
      have:=U3 E.sz h
      rw [show (E.pv y ++ l.flatMap E.pv).drop E.sz=l.flatMap E.pv by rw [← E.len y]; simp] at this
      have:=ih this i x (by simpa using hx)
      rw [List.drop_drop] at this
      rw [show (i + 1) * E.sz=E.sz + i * E.sz by rw [Nat.add_mul]; omega]
      exact this
theorem U6 {α:Type} (E:Enc α) (l:List α):(l.flatMap E.pv).length=l.length * E.sz:=by
  induction l with
  | nil=>simp
  | cons x l ih=>simp [ih,E.len,Nat.add_mul]; omega
theorem U9 {α:Type} {E:Enc α} {l:List α} {imm:Imm} {b o c:Nat} {vs:List Value} (h:H9 noT (gh imm) (l.flatMap E.pv) vs) (hi:∀ j u,vs[j]? = some u → imm b (o + j)=some u) (hc:l.length ≤ c) (hc2:c ≤ 9223372036854775807) :
    m5 E l imm (.slice (some ⟨b,o,none⟩) l.length c):=by
  refine ⟨_,_,rfl,hc,hc2,(fun e=>nomatch e),fun _=>⟨b,o,rfl,fun i x hx=>⟨_,A3G h i x hx,fun j u hu=>?_⟩⟩⟩
  rw [List.getElem?_take] at hu
  split at hu
  · rw [List.getElem?_drop] at hu
    rw [Nat.add_assoc]
    exact hi _ _ hu
  · cases hu
theorem A6V {α:Type} {E:Enc α} {imm:Imm} {b o:Nat}:∀ (l:List α) (k:Nat),(∀ i x,l[i]? = some x → ∃ vs,H9 noT (gh imm) (E.pv x) vs ∧ ∀ j u,vs[j]? = some u → imm b (o + (k + i) * E.sz + j)=some u) →
    ∃ vs,H9 noT (gh imm) (l.flatMap E.pv) vs ∧ ∀ j u,vs[j]? = some u → imm b (o + k * E.sz + j)=some u:=by
  intro l
  induction l with
  | nil=>intro k h; exact ⟨[],rfl,fun j u h=>by simp at h⟩
  | cons x l ih =>
    intro k h
    obtain ⟨vs,h1,h2⟩:=h 0 x rfl
    obtain ⟨us,h3,h4⟩:=ih (k + 1) (fun i y hy=>by
      obtain ⟨vs,h5,h6⟩:=h (i + 1) y (by simpa using hy)
      exact ⟨vs,h5,fun j u hu=>by rw [show k + 1 + i=k + (i + 1) by omega]; exact h6 j u hu⟩)
    have hl:=I6 h1
    rw [E.len] at hl
    refine ⟨vs ++ us,by rw [List.flatMap_cons]; exact R6 h1 h3,fun j u hu=>?_⟩
    by_cases hj:j < vs.length
    · rw [List.getElem?_append_left hj] at hu
      exact h2 j u hu
    · rw [List.getElem?_append_right (by omega)] at hu
      have:=h4 _ _ hu
      rw [show o + (k + 1) * E.sz + (j - vs.length)=o + k * E.sz + j by rw [Nat.add_mul]; omega] at this
      exact this
theorem V1 {α:Type} {E:Enc α} {l:List α} {imm:Imm} {v:Value} (h:m5 E l imm v) :
    (l=[] ∧ ∃ A c,v=.slice A 0 c ∧ (A=none → c=0)) ∨ ∃ b o c vs,v=.slice (some ⟨b,o,none⟩) l.length c ∧ l.length ≤ c ∧ c ≤ 9223372036854775807 ∧ H9 noT (gh imm) (l.flatMap E.pv) vs ∧ ∀ j u,vs[j]? = some u → imm b (o + j)=some u:=by
  obtain ⟨A,c,rfl,h1,h2,h3,h4⟩:=h
  by_cases e:l=[]
  · subst e
    exact .inl ⟨rfl,A,c,rfl,h3⟩
  · obtain ⟨b,o,rfl,h5⟩:=h4 e
    obtain ⟨vs,h6,h7⟩:=A6V (b:=b) (o:=o) l 0 (fun i x hx=>by
      obtain ⟨vs,h8,h9⟩:=h5 i x hx
      exact ⟨vs,h8,fun j u hu=>by rw [Nat.zero_add]; exact h9 j u hu⟩)
    exact .inr ⟨b,o,c,vs,rfl,h1,h2,h6,fun j u hu=>by have:=h7 j u hu; rw [show o + 0 * E.sz + j=o + j by omega] at this; exact this⟩
theorem A0h {T:Nat → Option (Nat × Nat)} {g:Gh}:∀ {ps:List PV} {vs:List Value},H9 T g ps vs → ∀ u ∈ vs,u.oneCell'=true
  | [],vs,h=>by obtain rfl:vs=[]:=h; simp
  | p :: ps,vs,⟨v,vs',e,h1,h2,h3⟩=>by
    subst e
    intro u hu
    rcases List.mem_cons.1 hu with rfl | hu
    · exact h2
    · exact A0h h3 u hu
structure Elt (P:Program) (t e:TypeId) (sz bytes:Nat):Prop where
  und:P.underlying t=some (.slice e)
  info:((P.info? e).map fun i=>(i.size,i.bytes,i.zero.map fun z=>(z.cells.size,z.cells.toList.all (·.oneCell'))))=some (sz,bytes,some (sz,true))
  pos:0 < sz ∧ 0 < bytes
theorem Elt.get {P:Program} {t e:TypeId} {sz bytes:Nat} (h:Elt P t e sz bytes):∃ i z,P.info? e=some i ∧ i.zero=some z ∧ i.size=sz ∧ i.bytes=bytes ∧ z.cells.size=sz ∧ z.cells.toList.all (·.oneCell')=true:=by
  have:=h.info
  cases hi:P.info? e with
  | none=>rw [hi] at this; cases this
  | some i =>
    rw [hi] at this
    simp only [Option.map_some,Option.some.injEq,Prod.mk.injEq,Option.map_eq_some_iff] at this
    obtain ⟨h1,h2,z,h3,h4,h5⟩:=this
    exact ⟨i,z,rfl,h3,h1,h2,h4,h5⟩
section append
variable {P:Program} {B:Base} {σ:St}
theorem q7 {t ty e:TypeId} {i:TypeInfo} (w:World) (ht:P.underlying t=some (.slice e)) (hi:P.info? e=some i) (A A':Option Addr) (n c c':Nat) (hn:n ≤ c) :
    (Builtin.append_ #[t,t] ty #[.slice A n c,.slice A' 0 c']).run P w=.ok (.slice A n c) w:=by
  cases A <;> cases A' <;> simp [Builtin.append_,run_underlying ht,sizeOf,typeInfo,hi,Builtin.lenOf,Builtin.firstCells,hn,loadCells,loadCellsFrom,storeCells]
theorem A3J {t ty e:TypeId} {i:TypeInfo} (w:World) (ht:P.underlying t=some (.slice e)) (hi:P.info? e=some i) {g n c:Nat} {cur:Array Value} {tb:TypeId} (hg:w.heap[g]? = some (.cells cur tb (0,0)))
    {a:Addr} {m c':Nat} {news:List Value} (hl:news.length=m * i.size) (hnews:∀ j u,news[j]? = some u → w.cell? (a.add j)=some u) (h1:∀ u ∈ news,u.oneCell'=true) (hroom:n + m ≤ c) (hfit:n * i.size + news.length ≤ cur.size) :
    (Builtin.append_ #[t,t] ty #[.slice (some ⟨g,0,none⟩) n c,.slice (some a) m c']).run P w =
      .ok (.slice (some ⟨g,0,none⟩) (n + m) c) (w.setRow g (cur.toList.take (n * i.size) ++ news ++ cur.toList.drop (n * i.size + news.length)).toArray):=by
  have hf:=run_firstCells_some (P:=P) w i.size m a m c' news hl hnews
  have hst:=run_storeCells_at P g (n * i.size) tb news 0 cur w hg (by simpa using hfit) h1
  simp only [Nat.add_zero] at hst
  simp [Builtin.append_,run_underlying ht,sizeOf,typeInfo,hi,Builtin.lenOf,hroom,hf,Addr.add_lit,hst]
theorem m8 {T:Nat → Option (Nat × Nat)} {i:Imm} {ps:List PV} {vs:List Value} {j:Imm} (hi:Imm.le i j) (h:H9 noT (gh i) ps vs):H9 noT (gh j) ps vs:=H9.carry (A4H hi) h
theorem U8 {o:Oper} {a:Act} {w w':World} {x y:Operand} {t:TypeId} {v:Value} (ho:o.op=.call { callee:=.builtin .append,args:=#[x,y],argTypes:=#[t,t] })
    (h:(Builtin.append_ #[t,t] o.type #[a.eval x,a.eval y]).run P w=.ok v w'):(execOp a.eval o).run P w=.ok (.value v) w':=by
  simp only [execOp,ho,resolve]
  rw [F0,H7]
  simp only [invoke,builtin,List.map_toArray,List.map_cons,List.map_nil]
  rw [F0,h]
  rfl
theorem A5l {α:Type} {E:Enc α} {l ext:List α} {o:Oper} {d tp bytes:Nat} {x y:Operand} {t e:TypeId} (hd:o.dst=some d) (hN:d < σ.N) (ho:o.op=.call { callee:=.builtin .append,args:=#[x,y],argTypes:=#[t,t] })
    (hel:Elt P t e E.sz bytes) (hx:σ.ev x=.own tp l.length (SL E l)) (hT:σ.T tp=some (E.sz,l.length)) (hy:A0Q σ y E ext) (hby:(l ++ ext).length * bytes ≤ 140737488355328) :
    OpStep P B o σ ((σ.setT tp (some (E.sz,(l ++ ext).length))).put d (.own tp (l ++ ext).length (SL E (l ++ ext)))):=by
  intro g a w hr K Q hK
  obtain ⟨i,z,hi,hz,hsz,hbyt,hzs,_⟩:=hel.get
  obtain ⟨hpos,hbp⟩:=hel.pos
  have hmax:(l ++ ext).length ≤ 140737488355328:=Nat.le_trans (Nat.le_mul_of_pos_right _ hbp) hby
  have hlen:(l ++ ext).length=l.length + ext.length:=List.length_append
  have hTk:∀ k,(σ.setT tp (some (E.sz,(l ++ ext).length))).T k=cond (Nat.beq k tp) (some (E.sz,(l ++ ext).length)) (σ.T k):=fun _=>rfl
  have hTne:∀ k,k ≠ tp → (σ.setT tp (some (E.sz,(l ++ ext).length))).T k=σ.T k:=fun k hk=>by rw [hTk,t9 hk]; rfl
  have hTeq:(σ.setT tp (some (E.sz,(l ++ ext).length))).T tp=some (E.sz,(l ++ ext).length):=by rw [hTk,Nat.beq_refl]; rfl
  have fin:∀ v' w' g',(execOp a.eval o).run P w=.ok (.value v') w' → Rel B (σ.setT tp (some (E.sz,(l ++ ext).length))) g' a w' → Rep (σ.setT tp (some (E.sz,(l ++ ext).length))).T g' (.own tp (l ++ ext).length (SL E (l ++ ext))) v' → o.wp P a w K Q:=by
    intro v' w' g' h1 h2 h3
    unfold Oper.wp
    rw [h1]
    show K (a.put o.dst v') w'
    rw [hd]
    exact hK g' _ w' (h2.put hN h3)
  have hv:=hr.ev x
  rw [hx] at hv
  obtain ⟨hsl,sz',m',hT',hle,hown⟩:(SL E l).holds g.imm (a.eval x) ∧ _:=hv
  rw [hT] at hT'
  simp only [Option.some.injEq,Prod.mk.injEq] at hT'
  obtain ⟨rfl,rfl⟩:=hT'
  have hown:=hown rfl
  have hext:=hy _ _ _ (hr.ev y)
  rcases V1 hext with ⟨rfl,A,c0,hyv,_⟩ | ⟨b2,o2,c2,news,hyv,hc2,_,hnews,hni⟩
  ·
    have same:∀ A n c,a.eval x=.slice A n c → n ≤ c → (execOp a.eval o).run P w=.ok (.value (a.eval x)) w:=fun A n c he hn=>U8 ho (by rw [he,hyv]; exact q7 w hel.und hi _ _ _ _ _ hn)
    obtain ⟨A0,c1,he,hn,_⟩:=hsl
    refine fin (a.eval x) w g (same _ _ _ he hn) ?_ ?_
    · have:(l ++ ([]:List α)).length=l.length:=by simp
      have hst:σ.setT tp (some (E.sz,(l ++ ([]:List α)).length))=σ:=by
        have:(fun k=>cond (Nat.beq k tp) (some (E.sz,(l ++ ([]:List α)).length)) (σ.T k))=σ.T:=by
          funext k
          by_cases e:k=tp
          · subst e; rw [Nat.beq_refl,this,hT]; rfl
          · rw [t9 e]; rfl
        unfold St.setT
        rw [this]
      rw [hst]; exact hr
    · refine ⟨by rw [List.append_nil]; exact ⟨A0,c1,he,hn,by assumption⟩,E.sz,_,hTeq,Nat.le_refl _,fun _=>?_⟩
      rw [List.append_nil]
      exact hown
  · have hm:news.length=ext.length * i.size:=by rw [I6 hnews,U6,hsz]
    have hcell:∀ j u,news[j]? = some u → w.cell? ((⟨b2,o2,none⟩:Addr).add j)=some u:=fun j u hu=>by rw [Addr.add_lit]; exact hr.imm _ _ _ (hni j u hu)
    have hone:∀ u ∈ news,u.oneCell'=true:=A0h hnews
    by_cases hz0:ext=[]
    · subst hz0
      have same:∀ A n c,a.eval x=.slice A n c → n ≤ c → (execOp a.eval o).run P w=.ok (.value (a.eval x)) w:=fun A n c he hn=>U8 ho (by rw [he,hyv]; exact q7 w hel.und hi _ _ _ _ _ hn)
      obtain ⟨A0,c1,he,hn,hrest⟩:=hsl
      refine fin (a.eval x) w g (same _ _ _ he hn) ?_ ?_
      · have:(l ++ ([]:List α)).length=l.length:=by simp
        have hst:σ.setT tp (some (E.sz,(l ++ ([]:List α)).length))=σ:=by
          have:(fun k=>cond (Nat.beq k tp) (some (E.sz,(l ++ ([]:List α)).length)) (σ.T k))=σ.T:=by
            funext k
            by_cases e:k=tp
            · subst e; rw [Nat.beq_refl,this,hT]; rfl
            · rw [t9 e]; rfl
          unfold St.setT
          rw [this]
        rw [hst]; exact hr
      · refine ⟨by rw [List.append_nil]; exact ⟨A0,c1,he,hn,hrest⟩,E.sz,_,hTeq,Nat.le_refl _,fun _=>?_⟩
        rw [List.append_nil]
        exact hown
    have hp:0 < ext.length:=List.length_pos_iff.2 hz0
    have anew:∀ (olds:List Value) (old:Nat),H9 noT (gh g.imm) (l.flatMap E.pv) olds → old < l.length + ext.length →
        (execOp a.eval o).run P w=.ok (.value (.slice (some ⟨w.heap.size,0,none⟩) (l.length + ext.length) (grownCap w (l.length + ext.length) old e))) (w.drew.alloc (.cells (olds.toArray ++ news.toArray ++ Builtin.zeroCells z.cells (grownCap w (l.length + ext.length) old e - (l.length + ext.length))) e)) → o.wp P a w K Q:=by
      intro olds old ho1 hold hrun
      have hge:=grownCap_ge w (l.length + ext.length) old e
      have hcm:grownCap w (l.length + ext.length) old e ≤ maxLen:=grownCap_le_maxLen w _ old e (by simp only [maxLen]; omega)
      have hol:olds.length=l.length * E.sz:=by rw [I6 ho1,U6]
      have hnone:∀ o,g.imm w.heap.size o=none:=fun o=>by
        cases hq:g.imm w.heap.size o with
        | none=>rfl
        | some u=>have:=hr.lt_imm hq; omega
      have hi1:Imm.le g.imm (K5 g.imm w.heap.size 0 (olds ++ news)):=U7 fun o _=>hnone o
      have hR:H9 noT (gh (K5 g.imm w.heap.size 0 (olds ++ news))) ((l ++ ext).flatMap E.pv) (olds ++ news):=by
        rw [List.flatMap_append]
        exact R6 (m8 (T:=noT) hi1 ho1) (m8 (T:=noT) hi1 hnews)
      refine fin _ _ { g with imm:=K5 g.imm w.heap.size 0 (olds ++ news),τ:=fun k=>cond (Nat.beq k tp) (some (w.heap.size,grownCap w (l.length + ext.length) old e)) (g.τ k) } hrun ?_ ?_
      · have grow:∀ p v,K2 σ.T g p v → K2 (σ.setT tp (some (E.sz,(l ++ ext).length))).T { g with imm:=K5 g.imm w.heap.size 0 (olds ++ news),τ:=fun k=>cond (Nat.beq k tp) (some (w.heap.size,grownCap w (l.length + ext.length) old e)) (g.τ k) } p v:=
          fun p v h=>A4a (g:=g) (t:=tp) (sz:=E.sz) (n:=l.length) (n':=(l ++ ext).length) hi1 (by rfl) (fun t' ht'=>by simp [t9 ht']) hTne hT hTeq (by omega) (fun e=>by omega) p v h
        refine Rel.tipTo hr rfl rfl (fun k v h=>Rep.carry grow h) (fun s ps' h=>⟨ps',h,fun vs hvs=>H9.carry grow hvs⟩) hTk ⟨rfl,rfl,rfl,by simp⟩ (fun k hk _=>Below.heap_alloc w.drew _ k hk) (by
            show (w.drew.alloc _).heap[w.heap.size]? = _
            exact heap_alloc_new w.drew _) (fun o v h=>by rw [hnone] at h; cases h) (fun o _=>hnone o) ?_ ?_ ?_ ?_ ?_ ?_ (.inl hr.below.2.2.2.1)
        · intro j u hu
          rw [Nat.zero_add]
          have hj:=(List.getElem?_eq_some_iff.1 hu).1
          rw [Array.getElem?_append_left (by simpa using hj)]
          simpa using hu
        · rw [Nat.zero_add,List.length_append,hol,hm,hsz,hlen,Nat.add_mul]
        · rw [hlen]; exact hge
        · simp only [Array.size_append,List.size_toArray,size_zeroCells,hzs,hol,hm,hsz,← Nat.add_mul]
          exact Nat.mul_le_mul_right _ (by omega)
        · intro s ps hL
          obtain ⟨cs1,_,hb1,_⟩:=hr.box s ps hL
          have:=(Array.getElem?_eq_some_iff.1 hb1).1
          omega
        · intro t' xx b' c' _ h1 h2
          obtain ⟨sz1,m1⟩:=xx
          obtain ⟨cs1,_,hb1,_⟩:=hr.tip t' sz1 m1 b' c' h1 h2
          have:=(Array.getElem?_eq_some_iff.1 hb1).1
          omega
      · refine ⟨?_,E.sz,_,hTeq,Nat.le_refl _,fun _=>.inl ⟨w.heap.size,grownCap w (l.length + ext.length) old e,by simp,by rw [hlen]⟩⟩
        have:=U9 (o:=0) hR (fun j u hu=>W4 hu) (c:=grownCap w (l.length + ext.length) old e) (by omega) (by simpa [maxLen] using hcm)
        rw [hlen] at this
        exact this
    rcases hown with ⟨b,c,hτ,hxv⟩ | ⟨hτ,hl0,hxv⟩
    ·
      have holds:∃ olds,H9 noT (gh g.imm) (l.flatMap E.pv) olds ∧ ∀ j u,olds[j]? = some u → g.imm b j=some u:=by
        rcases V1 hsl with ⟨rfl,_⟩ | ⟨b',o',c',olds,h1,_,_,h2,h3⟩
        · exact ⟨[],rfl,fun j u h=>by simp at h⟩
        · rw [hxv] at h1
          simp only [Value.slice.injEq,Option.some.injEq,Addr.mk.injEq] at h1
          obtain ⟨⟨rfl,rfl,_⟩,_,_⟩:=h1
          exact ⟨olds,h2,fun j u hu=>by have:=h3 j u hu; rw [Nat.zero_add] at this; exact this⟩
      obtain ⟨olds,ho1,ho2⟩:=holds
      have hol:olds.length=l.length * E.sz:=by rw [I6 ho1,U6]
      obtain ⟨cs,ty0,hcs,hcsz,hmc,hfree,hF⟩:=hr.tip tp E.sz l.length b c hT hτ
      by_cases hroom:l.length + ext.length ≤ c
      · have hfit:l.length * i.size + news.length ≤ cs.size:=by
          rw [hm,← Nat.add_mul,hsz]
          exact Nat.le_trans (Nat.mul_le_mul_right _ hroom) hcsz
        have hrun:=U8 ho (P:=P) (w:=w) (a:=a) (by rw [hxv,hyv]; exact A3J w hel.und hi hcs hm hcell hone hroom hfit)
        have hi1:Imm.le g.imm (K5 g.imm b (l.length * E.sz) news):=U7 hfree
        have hnr:(cs.toList.take (l.length * i.size) ++ news ++ cs.toList.drop (l.length * i.size + news.length)).toArray.toList=cs.toList.take (l.length * i.size) ++ news ++ cs.toList.drop (l.length * i.size + news.length):=by simp
        have htl:(cs.toList.take (l.length * i.size)).length=l.length * E.sz:=by
          rw [hsz] at hfit
          have h9:cs.toList.length=cs.size:=Array.length_toList
          rw [List.length_take,h9,hsz]
          exact Nat.min_eq_left (by omega)
        refine fin _ _ { g with imm:=K5 g.imm b (l.length * E.sz) news,τ:=fun k=>cond (Nat.beq k tp) (some (b,c)) (g.τ k) } hrun ?_ ?_
        · have grow:∀ p v,K2 σ.T g p v → K2 (σ.setT tp (some (E.sz,(l ++ ext).length))).T { g with imm:=K5 g.imm b (l.length * E.sz) news,τ:=fun k=>cond (Nat.beq k tp) (some (b,c)) (g.τ k) } p v:=
            fun p v h=>A4a (g:=g) (t:=tp) (sz:=E.sz) (n:=l.length) (n':=(l ++ ext).length) hi1 (by rfl) (fun t' ht'=>by simp [t9 ht']) hTne hT hTeq (by omega) (fun e=>by omega) p v h
          refine Rel.tipTo hr rfl rfl (fun k v h=>Rep.carry grow h) (fun s ps' h=>⟨ps',h,fun vs hvs=>H9.carry grow hvs⟩) hTk ⟨rfl,rfl,rfl,by simp [World.setRow]⟩ (fun k _ hk=>setRow_other w b k _ hk) (setRow_heap w b cs _ ty0 _ hcs) ?_ hfree ?_ ?_ (by omega) ?_ ?_ ?_ hF
          · intro o v h
            have hlt:o < l.length * E.sz:=by
              rcases Nat.lt_or_ge o (l.length * E.sz) with h' | h'
              · exact h'
              · rw [hfree o h'] at h; cases h
            have:=hr.imm b o v h
            rw [T1 hcs] at this
            rw [← Array.getElem?_toList,hnr,List.append_assoc,List.getElem?_append_left (by omega),List.getElem?_take,if_pos (by rw [hsz]; exact hlt)]
            simpa using this
          · intro j u hu
            have hj:=(List.getElem?_eq_some_iff.1 hu).1
            rw [← Array.getElem?_toList,hnr,List.append_assoc,List.getElem?_append_right (by omega),htl,List.getElem?_append_left (by omega),← hu]
            congr 1; omega
          · rw [hm,hsz,hlen,Nat.add_mul]
          · simp only [List.size_toArray,List.length_append,List.length_take,List.length_drop,Array.length_toList]
            have:l.length * i.size + news.length ≤ cs.size:=hfit
            omega
          · intro s ps hL
            exact hr.boxtip s ps tp _ b c hL hT hτ
          · intro t' xx b' c' hne h1 h2
            exact (hr.tips t' tp _ _ _ _ _ _ h1 hT h2 hτ hne)
        · refine ⟨?_,E.sz,_,hTeq,Nat.le_refl _,fun _=>.inl ⟨b,c,by simp,by rw [hlen]⟩⟩
          have hR:H9 noT (gh (K5 g.imm b (l.length * E.sz) news)) ((l ++ ext).flatMap E.pv) (olds ++ news):=by
            rw [List.flatMap_append]
            exact R6 (m8 (T:=noT) hi1 ho1) (m8 (T:=noT) hi1 hnews)
          have hc9:c ≤ 9223372036854775807:=by
            obtain ⟨A1,c1,h1,_,h2,_⟩:=hsl
            rw [hxv] at h1
            simp only [Value.slice.injEq] at h1
            rw [h1.2.2]; exact h2
          have:=U9 (o:=0) hR (fun j u hu=>by
            rw [Nat.zero_add]
            by_cases hj:j < olds.length
            · rw [List.getElem?_append_left hj] at hu
              exact hi1 _ _ _ (ho2 j u hu)
            · rw [List.getElem?_append_right (by omega)] at hu
              have:=W4 (imm:=g.imm) (b:=b) (lo:=l.length * E.sz) hu
              rw [show l.length * E.sz + (j - olds.length)=j by omega] at this
              exact this) (c:=c) (by omega) hc9
          rw [hlen] at this
          exact this
      · refine anew olds c ho1 (by omega) (U8 ho ?_)
        rw [hxv,hyv]
        have:=run_append_grow (P:=P) w t o.type e i z hel.und hi hz ⟨b,0,none⟩ l.length c olds (by rw [hol,hsz]) (fun j v hv=>by rw [Addr.add_lit,Nat.zero_add]; exact hr.imm _ _ _ (ho2 j v hv)) ⟨b2,o2,none⟩ ext.length c2 news hm hcell (by omega) (by omega) (growslice_fits (by omega) (by rw [hbyt,← hlen]; exact hby))
        exact this
    · obtain rfl:l=[]:=List.eq_nil_of_length_eq_zero hl0
      refine anew [] 0 rfl (by simpa using hp) (U8 ho ?_)
      rw [hxv,hyv]
      have:=run_append_nil (P:=P) w t o.type e i z hel.und hi hz ⟨b2,o2,none⟩ ext.length c2 news hm hcell hp (by omega) (by rw [hbyt]; have:=hby; simp only [List.nil_append] at this; omega)
      simpa using this
theorem Rel.nilTip {g:Gh} {a:Act} {w:World} (hr:Rel B σ g a w) (tp sz:Nat):Rel B ((σ.dropT tp).setT tp (some (sz,0))) { g with τ:=fun k=>cond (Nat.beq k tp) none (g.τ k) } a w:=by
  have hd:∀ p v,K2 σ.T g p v → K2 ((σ.dropT tp).setT tp (some (sz,0))).T { g with τ:=fun k=>cond (Nat.beq k tp) none (g.τ k) } (p.drop1 tp) v:=
    A0m (Imm.le_refl _) rfl (fun t' h=>by simp [t9 h]) (fun t' h=>by show cond (Nat.beq t' tp) _ (σ.T t')=_; rw [t9 h]; rfl)
  have live:∀ s ps',((σ.dropT tp).setT tp (some (sz,0))).L s=some ps' → ∃ ps,σ.L s=some ps ∧ ps'=ps.map (PV.drop1 tp):=by
    intro s ps' h
    have h:(σ.L s).map (fun ps=>ps.map (PV.drop1 tp))=some ps':=h
    cases hl:σ.L s with
    | none=>rw [hl] at h; cases h
    | some ps=>rw [hl] at h; exact ⟨ps,rfl,by simpa using h.symm⟩
  have Tx:∀ t x b c,((σ.dropT tp).setT tp (some (sz,0))).T t=some x → (fun k=>cond (Nat.beq k tp) none (g.τ k)) t=some (b,c) → t ≠ tp ∧ σ.T t=some x ∧ g.τ t=some (b,c):=by
    intro t x b c h1 h2
    have h1:cond (Nat.beq t tp) (some (sz,0)) (σ.T t)=some x:=h1
    by_cases e:t=tp
    · subst e; simp at h2
    · rw [t9 e] at h1; simp only [t9 e] at h2; exact ⟨e,h1,h2⟩
  refine { hr with env:=fun k=>?_,box:=?_,apart:=?_,tip:=?_,tips:=?_,boxtip:=?_ }
  · exact j1 (f2:=PV.drop2 tp) (f3:=PV.dropT tp) (fun p v h=>V6 (f:=PV.drop1 tp) (f2:=PV.drop2 tp) hd (fun cs=>rfl) (f4 tp) h) (fun cs=>rfl) (q6 tp) (hr.env k)
  · intro s ps' h
    obtain ⟨ps,h1,rfl⟩:=live s ps' h
    obtain ⟨cs,ty,h2,h3,h4⟩:=hr.box s ps h1
    exact ⟨cs,ty,h2,P7 hd h3,h4⟩
  · intro s s' ps ps' h h' hne
    obtain ⟨_,h1,_⟩:=live s ps h
    obtain ⟨_,h2,_⟩:=live s' ps' h'
    exact hr.apart s s' _ _ h1 h2 hne
  · intro t sz' m b c h1 h2
    obtain ⟨_,h3,h4⟩:=Tx t _ b c h1 h2
    exact hr.tip t sz' m b c h3 h4
  · intro t t' x x' b b' c c' h1 h2 h3 h4 hne
    obtain ⟨_,h5,h6⟩:=Tx t _ b c h1 h3
    obtain ⟨_,h7,h8⟩:=Tx t' _ b' c' h2 h4
    exact hr.tips t t' _ _ _ _ _ _ h5 h7 h6 h8 hne
  · intro s ps t x b c h1 h2 h3
    obtain ⟨_,h4,_⟩:=live s ps h1
    obtain ⟨_,h5,h6⟩:=Tx t _ b c h2 h3
    exact hr.boxtip s _ t _ b c h4 h5 h6
theorem A5R {α:Type} (E:Enc α) (T:Nat → Option (Nat × Nat)) (g:Gh) (tp sz:Nat) (hT:T tp=some (sz,0)) (hτ:g.τ tp=none):Rep T g (.own tp 0 (SL E [])) (.slice none 0 0):=
  ⟨m6 E g.imm,sz,0,hT,Nat.le_refl _,fun _=>.inr ⟨hτ,rfl,rfl⟩⟩
def St.nilTip (σ:St) (d tp sz:Nat) (p:PV):St:=((σ.dropT tp).setT tp (some (sz,0))).put d p
theorem Rel.toNil {α:Type} {E:Enc α} {g:Gh} {a:Act} {w:World} (hr:Rel B σ g a w) {d tp:Nat} (hd:σ.env d=.sc (.slice none 0 0)):∃ g',Rel B (σ.nilTip d tp E.sz (.own tp 0 (SL E []))) g' a w:=by
  have h1:=hr.nilTip tp E.sz
  refine ⟨_,{ h1 with env:=fun k=>?_ }⟩
  show Rep _ _ (cond (Nat.beq k d) _ _) _
  by_cases e:k=d
  · subst e
    rw [Nat.beq_refl]
    have hv:=hr.env k
    rw [hd] at hv
    have hv:a.tmps.getD k undef=.slice none 0 0:=hv
    rw [hv]
    exact A5R E _ _ tp E.sz (by show cond (Nat.beq tp tp) _ _=_; rw [Nat.beq_refl]; rfl) (by simp)
  · rw [t9 e]; exact h1.env k
theorem al_nilTip {α:Type} {E:Enc α} {Φ:Exit → St → Prop} {ops:Array Oper} {l:List Oper} {d tp:Nat} (hd:σ.env d=.sc (.slice none 0 0)) (h:AL P B ops Φ l (σ.nilTip d tp E.sz (.own tp 0 (SL E [])))):AL P B ops Φ l σ:=by
  intro g a w hr
  obtain ⟨g',hr'⟩:=hr.toNil (E:=E) (tp:=tp) hd
  exact h g' a w hr'
theorem W0 {α:Type} {E:Enc α} {Φ:Exit → St → Prop} {c:Code} {d tp:Nat} (hd:σ.env d=.sc (.slice none 0 0)) (h:AW P B c Φ (σ.nilTip d tp E.sz (.own tp 0 (SL E [])))):AW P B c Φ σ:=by
  intro g a w hr
  obtain ⟨g',hr'⟩:=hr.toNil (E:=E) (tp:=tp) hd
  exact h g' a w hr'
theorem A2a {f:Nat → Option (Nat × Nat)} {places:List (Nat × Nat)} (hf:∀ i x,places[i]? = some x → f i=some x):∀ (pps:List (Nat × PV)) (pvs:List (Nat × Value)) (ps qs:List PV) (cs:Array Value),pps.map (·.1)=pvs.map (·.1) → V8 places ps pps=some qs →
    Instr.fill f cs pvs=Instr.fill (fun i=>places[i]?) cs pvs
  | [],pvs,ps,qs,cs,hl,_=>by cases pvs with | nil=>rfl | cons y ys=>simp at hl
  | (i,p) :: pps,pvs,ps,qs,cs,hl,h2=>by
    cases pvs with
    | nil=>simp at hl
    | cons y pvs =>
      obtain ⟨j,v⟩:=y
      simp only [List.map_cons,List.cons.injEq] at hl
      obtain ⟨rfl,hl⟩:=hl
      simp only [V8] at h2
      simp only [Instr.fill]
      cases hp:places[i]? with
      | none=>rw [hp] at h2; cases h2
      | some os =>
        obtain ⟨off,size⟩:=os
        rw [hp] at h2
        rw [hf i _ hp]
        simp only at h2 ⊢
        cases hc:(Nat.beq p.cellsP.length size && (Nat.ble (off + size) ps.length && p.okCells)) with
        | true =>
          rw [hc] at h2
          split
          · rfl
          · exact A2a hf pps pvs _ qs _ hl h2
        | false=>rw [hc] at h2; cases h2
theorem A4Z {T:Nat → Option (Nat × Nat)} {g:Gh}:∀ (vs:List Value),(∀ v ∈ vs,v.oneCell'=true) → H9 T g (List.replicate vs.length .any) vs
  | [],_=>rfl
  | v :: vs,h=>⟨v,vs,rfl,trivial,h v (by simp),A4Z vs fun u hu=>h u (by simp [hu])⟩
theorem A0R {T:Nat → Option (Nat × Nat)} {g:Gh} {imm:Imm} (hi:Imm.le g.imm imm) {ps:List PV} {vs:List Value} (h:H9 T g ps vs):H9 noT (gh imm) (ps.map PV.strip1) vs:=P7 (A2L hi) h
theorem Rel.freshTip {α:Type} {E:Enc α} {l:List α} {g:Gh} {a:Act} {w:World} (hr:Rel B σ g a w) {tp c:Nat} {cs:Array Value} (ty:TypeId) {vs:List Value} (hpre:∀ (j:Nat) (u:Value),vs[j]? = some u → cs[j]? = some u) (hR:H9 noT (gh g.imm) (l.flatMap E.pv) vs) (hc:l.length ≤ c) (hcs:c * E.sz ≤ cs.size) (hc9:c ≤ 9223372036854775807) :
    ∃ g',Rel B ((σ.dropT tp).setT tp (some (E.sz,l.length))) g' a (w.alloc (.cells cs ty)) ∧ Rep ((σ.dropT tp).setT tp (some (E.sz,l.length))).T g' (.own tp l.length (SL E l)) (.slice (some ⟨w.heap.size,0,none⟩) l.length c):=by
  have hnone:∀ o,g.imm w.heap.size o=none:=fun o=>by
    cases hq:g.imm w.heap.size o with
    | none=>rfl
    | some u=>have:=hr.lt_imm hq; omega
  have hi1:Imm.le g.imm (K5 g.imm w.heap.size 0 vs):=U7 fun o _=>hnone o
  have hTk:∀ k,((σ.dropT tp).setT tp (some (E.sz,l.length))).T k=cond (Nat.beq k tp) (some (E.sz,l.length)) (σ.T k):=fun _=>rfl
  have hd:∀ p v,K2 σ.T g p v → K2 ((σ.dropT tp).setT tp (some (E.sz,l.length))).T { g with imm:=K5 g.imm w.heap.size 0 vs,τ:=fun k=>cond (Nat.beq k tp) (some (w.heap.size,c)) (g.τ k) } (p.drop1 tp) v:=
    A0m hi1 rfl (fun t' h=>by simp [t9 h]) (fun t' h=>by rw [hTk,t9 h]; rfl)
  refine ⟨_,Rel.tipTo hr (lo:=0) (n:=l.length) (vs:=vs) rfl rfl (fun k v h=>?_) (fun s ps' h=>?_) hTk ⟨rfl,rfl,rfl,by simp⟩ (fun k hk _=>Below.heap_alloc w _ k hk) (b:=w.heap.size) (c:=c) (cs:=cs) (ty:=ty) (by show (w.alloc _).heap[w.heap.size]? = _; exact heap_alloc_new w _) (fun o v h=>by rw [hnone] at h; cases h) (fun o _=>hnone o) ?_ ?_ hc hcs ?_ ?_ (.inl hr.below.2.2.2.1),?_⟩
  · exact j1 (f2:=PV.drop2 tp) (f3:=PV.dropT tp) (fun p v h=>V6 (f:=PV.drop1 tp) (f2:=PV.drop2 tp) hd (fun cs=>rfl) (f4 tp) h) (fun cs=>rfl) (q6 tp) h
  · have h:(σ.L s).map (fun ps=>ps.map (PV.drop1 tp))=some ps':=h
    cases hl:σ.L s with
    | none=>rw [hl] at h; cases h
    | some ps =>
      rw [hl] at h
      obtain rfl:ps.map (PV.drop1 tp)=ps':=by simpa using h
      exact ⟨ps,rfl,fun us hus=>P7 hd hus⟩
  · intro j u hu; rw [Nat.zero_add]; exact hpre j u hu
  · rw [Nat.zero_add,I6 hR,U6]
  · intro s ps hL
    obtain ⟨cs1,_,hb1,_⟩:=hr.box s ps hL
    have:=(Array.getElem?_eq_some_iff.1 hb1).1
    omega
  · intro t' xx b' c' _ h1 h2
    obtain ⟨sz1,m1⟩:=xx
    obtain ⟨cs1,_,hb1,_⟩:=hr.tip t' sz1 m1 b' c' h1 h2
    have:=(Array.getElem?_eq_some_iff.1 hb1).1
    omega
  · refine ⟨U9 (m8 (T:=noT) hi1 hR) (fun j u hu=>W4 hu) hc hc9,E.sz,l.length,by rw [hTk,Nat.beq_refl]; rfl,Nat.le_refl _,fun _=>.inl ⟨w.heap.size,c,by simp,rfl⟩⟩
theorem Y8 {α:Type} {E:Enc α} {l:List α} {o:Oper} {bytes len:Nat} {t e:TypeId} {parts:List (Nat × Operand)} {qs:List PV} (ho:o.op=.buildSlice t len parts.toArray) (hel:Elt P t e E.sz bytes)
    (hll:l.length=len) (hsmall:len * E.sz ≤ 16777216) (hq:V8 ((List.range len).map fun i=>(i * E.sz,E.sz)) (List.replicate (len * E.sz) .any) (parts.map fun p=>(p.1,σ.ev p.2))=some qs) (hs:qs.map PV.strip1=l.flatMap E.pv)
    {g:Gh} {a:Act} {w:World} (hr:Rel B σ g a w) :
    ∃ cells:Array Value,(execOp a.eval o).run P w=.ok (.value (.slice (some ⟨w.heap.size,0,none⟩) len len)) (w.alloc (.cells cells e)) ∧ H9 noT (gh g.imm) (l.flatMap E.pv) cells.toList ∧ cells.size=len * E.sz ∧ 0 < E.sz:=by
  obtain ⟨i,z,hi,hz,hsz,hbyt,hzs,hz1⟩:=hel.get
  obtain ⟨hpos,hbp⟩:=hel.pos
  have key:∃ cells:Array Value,(Instr.buildSlice t len (parts.map fun p=>(p.1,a.eval p.2)).toArray).run P w=.ok (.slice (some ⟨w.heap.size,0,none⟩) len len) (w.alloc (.cells cells e)) ∧ H9 σ.T g qs cells.toList:=by
    by_cases h0:len=0
    · subst h0
      cases parts with
      | nil =>
        simp [V8] at hq
        subst hq
        refine ⟨#[],?_,rfl⟩
        simp [Instr.buildSlice,run_underlying hel.und,sizeOf,typeInfo,hi,Instr.fill,newRow]
        have h9:∀ f:Nat → Value,(Array.range 0).map f = #[]:=fun f=>by apply Array.ext'; simp
        rw [h9]
      | cons p ps=>simp [V8] at hq
    · have hzl:∀ v ∈ ((Array.range (len * i.size)).map (z.cells[· % z.cells.size]!)).toList,v.oneCell'=true:=by
        intro v hv
        simp only [Array.toList_map,List.mem_map,Array.toList_range,List.mem_range] at hv
        obtain ⟨k,_,rfl⟩:=hv
        rw [List.all_eq_true] at hz1
        have hk:k % z.cells.size < z.cells.size:=Nat.mod_lt _ (by omega)
        refine hz1 _ ?_
        rw [getElem!_pos z.cells _ hk]
        exact Array.mem_toList_iff.2 (Array.getElem_mem hk)
      have hR0:H9 σ.T g (List.replicate (len * E.sz) .any) ((Array.range (len * i.size)).map (z.cells[· % z.cells.size]!)).toList:=by
        have:=A4Z (T:=σ.T) (g:=g) _ hzl
        simpa [hsz] using this
      obtain ⟨cells,h1,h2⟩:=A3b (places:=(List.range len).map fun i=>(i * E.sz,E.sz)) (parts.map fun p=>(p.1,σ.ev p.2)) (parts.map fun p=>(p.1,a.eval p.2)) _ qs _ (by simp) (A4f hr parts) hR0 hq
      refine ⟨cells,?_,h2⟩
      refine run_buildSlice w t e len _ cells i z hel.und hi hz (by rw [hsz]; omega) (by rw [hsz]; exact Nat.mul_ne_zero h0 (by omega)) ?_
      rw [← h1]
      refine A2a (fun k x hx=>?_) _ _ _ qs _ (by simp) hq
      rw [List.getElem?_map] at hx
      cases hk:(List.range len)[k]? with
      | none=>rw [hk] at hx; cases hx
      | some k' =>
        rw [hk] at hx
        have:k'=k:=by
          have:=List.getElem?_eq_some_iff.1 hk
          obtain ⟨h3,h4⟩:=this
          simpa using h4.symm
        subst this
        simp only [Option.map_some,Option.some.injEq] at hx
        rw [← hx,hsz]
  obtain ⟨cells,h1,h2⟩:=key
  have hR:H9 noT (gh g.imm) (l.flatMap E.pv) cells.toList:=by
    rw [← hs]; exact A0R (Imm.le_refl _) h2
  have hcl:cells.size=len * E.sz:=by have:=I6 hR; rw [U6,hll] at this; simpa using this
  have hrun:(execOp a.eval o).run P w=.ok (.value (.slice (some ⟨w.heap.size,0,none⟩) len len)) (w.alloc (.cells cells e)):=by
    simp only [execOp,ho]
    rw [F0,List.map_toArray,h1]
    rfl
  exact ⟨cells,hrun,hR,hcl,hpos⟩
theorem A2m {α:Type} {E:Enc α} {l:List α} {o:Oper} {d tp bytes len:Nat} {t e:TypeId} {parts:List (Nat × Operand)} {qs:List PV} (hd:o.dst=some d) (hN:d < σ.N) (ho:o.op=.buildSlice t len parts.toArray) (hel:Elt P t e E.sz bytes)
    (hll:l.length=len) (hsmall:len * E.sz ≤ 16777216) (hq:V8 ((List.range len).map fun i=>(i * E.sz,E.sz)) (List.replicate (len * E.sz) .any) (parts.map fun p=>(p.1,σ.ev p.2))=some qs) (hs:qs.map PV.strip1=l.flatMap E.pv) :
    OpStep P B o σ (((σ.dropT tp).setT tp (some (E.sz,l.length))).put d (.own tp l.length (SL E l))):=by
  intro g a w hr K Q hK
  obtain ⟨cells,hrun,hR,hcl,hpos⟩:=Y8 ho hel hll hsmall hq hs hr
  obtain ⟨g',h3,h4⟩:=hr.freshTip (E:=E) (l:=l) (tp:=tp) (c:=len) (cs:=cells) e (vs:=cells.toList) (fun j u hu=>by simpa using hu) hR (by omega) (by rw [hcl]; exact Nat.le_refl _) (by have:len ≤ len * E.sz:=Nat.le_mul_of_pos_right _ hpos; omega)
  unfold Oper.wp
  rw [hrun]
  show K (a.put o.dst _) _
  rw [hd]
  refine hK g' _ _ (h3.put hN ?_)
  rw [← hll]
  rw [← hll] at h4
  exact h4
theorem A5O {α:Type} {E:Enc α} {l:List α} {o:Oper} {d bytes len:Nat} {t e:TypeId} {parts:List (Nat × Operand)} {qs:List PV} (hd:o.dst=some d) (hN:d < σ.N) (ho:o.op=.buildSlice t len parts.toArray) (hel:Elt P t e E.sz bytes)
    (hll:l.length=len) (hsmall:len * E.sz ≤ 16777216) (hq:V8 ((List.range len).map fun i=>(i * E.sz,E.sz)) (List.replicate (len * E.sz) .any) (parts.map fun p=>(p.1,σ.ev p.2))=some qs) (hs:qs.map PV.strip1=l.flatMap E.pv) :
    OpStep P B o σ (σ.put d (.sem (SL E l))):=by
  intro g a w hr K Q hK
  obtain ⟨cells,hrun,hR,hcl,hpos⟩:=Y8 ho hel hll hsmall hq hs hr
  have hnone:∀ o,g.imm w.heap.size o=none:=fun o=>by
    cases hq:g.imm w.heap.size o with
    | none=>rfl
    | some u=>have:=hr.lt_imm hq; omega
  have hi1:Imm.le g.imm (K5 g.imm w.heap.size 0 cells.toList):=U7 fun o _=>hnone o
  have hr':=hr.called (w':=w.alloc (.cells cells e)) hi1 (by
    intro b' o' v hv
    simp only [K5] at hv
    split at hv
    · rename_i hc
      obtain ⟨rfl,h1,h2⟩:=hc
      rw [T1 (heap_alloc_new w _)]
      simpa using hv
    · rw [A1m (Below.heap_alloc w _ b' (hr.lt_imm hv))]; exact hr.imm b' o' v hv) (by
    intro b' o' v hv
    simp only [K5] at hv
    split at hv
    · rename_i hc; exact .inr (by omega)
    · exact .inl hv) (Below.alloc (Below.refl _ _) (Nat.le_refl _) _)
  unfold Oper.wp
  rw [hrun]
  show K (a.put o.dst _) _
  rw [hd]
  refine hK _ _ _ (hr'.put hN ?_)
  have h5:len ≤ len * E.sz:=Nat.le_mul_of_pos_right _ hpos
  have:=U9 (E:=E) (l:=l) (b:=w.heap.size) (o:=0) (c:=len) (m8 (T:=noT) hi1 hR) (fun j u hu=>W4 hu) (by omega) (by omega)
  rw [hll] at this
  exact this
end append
section g
variable {P:Program} {B:Base} {σ:St}
theorem K1 {α:Type} {E:Enc α} {l ext:List α} {o:Oper} {d tp bytes:Nat} {x y:Operand} {t e:TypeId} (hd:o.dst=some d) (hN:Nat.blt d σ.N=true) (ho:o.op=.call { callee:=.builtin .append,args:=#[x,y],argTypes:=#[t,t] })
    (hel:Elt P t e E.sz bytes) (hx:σ.ev x=.own tp l.length (SL E l)) (hT:σ.T tp=some (E.sz,l.length)) (hy:A0Q σ y E ext) (hby:(l ++ ext).length * bytes ≤ 140737488355328) :
    OpStep P B o σ ((σ.setT tp (some (E.sz,(l ++ ext).length))).put d (.own tp (l ++ ext).length (SL E (l ++ ext)))):=A5l hd (blt hN) ho hel hx hT hy hby
theorem I4 {α:Type} {E:Enc α} {l:List α} {o:Oper} {d tp bytes len:Nat} {t e:TypeId} {parts:List (Nat × Operand)} {qs:List PV} (hd:o.dst=some d) (hN:Nat.blt d σ.N=true) (ho:o.op=.buildSlice t len parts.toArray) (hel:Elt P t e E.sz bytes)
    (hll:l.length=len) (hsmall:Nat.ble (len * E.sz) 16777216=true) (hq:V8 ((List.range len).map fun i=>(i * E.sz,E.sz)) (List.replicate (len * E.sz) .any) (parts.map fun p=>(p.1,σ.ev p.2))=some qs) (hs:qs.map PV.strip1=l.flatMap E.pv) :
    OpStep P B o σ (((σ.dropT tp).setT tp (some (E.sz,l.length))).put d (.own tp l.length (SL E l))):=A2m hd (blt hN) ho hel hll (Nat.le_of_ble_eq_true hsmall) hq hs
theorem A1d {α:Type} {E:Enc α} {l:List α} {o:Oper} {d bytes len:Nat} {t e:TypeId} {parts:List (Nat × Operand)} {qs:List PV} (hd:o.dst=some d) (hN:Nat.blt d σ.N=true) (ho:o.op=.buildSlice t len parts.toArray) (hel:Elt P t e E.sz bytes)
    (hll:l.length=len) (hsmall:Nat.ble (len * E.sz) 16777216=true) (hq:V8 ((List.range len).map fun i=>(i * E.sz,E.sz)) (List.replicate (len * E.sz) .any) (parts.map fun p=>(p.1,σ.ev p.2))=some qs) (hs:qs.map PV.strip1=l.flatMap E.pv) :
    OpStep P B o σ (σ.put d (.sem (SL E l))):=A5O hd (blt hN) ho hel hll (Nat.le_of_ble_eq_true hsmall) hq hs
end g
end Go.Ab
