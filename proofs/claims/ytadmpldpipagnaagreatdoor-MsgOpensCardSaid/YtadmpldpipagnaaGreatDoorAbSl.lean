import Derived.Test.YtadmpldpipagnaaGreatDoorAbFn
namespace Go.Ab
open Go.RowKit
set_option linter.unusedVariables false
set_option linter.unusedSimpArgs false
section ops
variable {P:Program} {B:Base} {σ:St}
theorem A7x {o:Oper} {d:Nat} {op:BinOp} {t t':TypeId} {x y:Operand} {u1 u2 v:Value} (hd:o.dst=some d) (hN:d < σ.N) (ho:o.op=.binOp op t x y t') (hx:σ.ev x=.sc u1) (hy:σ.ev y=.sc u2)
    (h:∀ w,(do eqGuard op t x y u1 u2; binOp op t u1 u2:Sem Value).run P w=.ok v w):OpStep P B o σ (σ.put d (.sc v)):=
  K4 hd hN fun g a w hr=>⟨v,by
    simp only [execOp,ho,hr.ev_sc hx,hr.ev_sc hy]
    rw [F0,h]
    rfl,rfl⟩
theorem A8z {o:Oper} {d:Nat} {op:UnOp} {t:TypeId} {x:Operand} {u v:Value} (hd:o.dst=some d) (hN:d < σ.N) (ho:o.op=.unOp op t x) (hx:σ.ev x=.sc u)
    (h:∀ w,(Op.unary op u).run P w=.ok v w):OpStep P B o σ (σ.put d (.sc v)):=
  K4 hd hN fun g a w hr=>⟨v,by
    simp only [execOp,ho,hr.ev_sc hx]
    rw [F0,h]
    rfl,rfl⟩
theorem A3E {o:Oper} {d:Nat} {t t':TypeId} {x:Operand} {k k1 k2:IntKind} {n:Int} (hd:o.dst=some d) (hN:d < σ.N) (ho:o.op=.convert t t' x) (h1:P.underlying t=some (.int k1)) (h2:P.underlying t'=some (.int k2)) (hx:σ.ev x=.sc (.int k n)) :
    OpStep P B o σ (σ.put d (.sc (.int k2 (k2.wrap n)))):=
  K4 hd hN fun g a w hr=>⟨_,by
    simp only [execOp,ho,hr.ev_sc hx]
    rw [F0]
    have:(convert t t' (.int k n)).run P w=.ok (.int k2 (k2.wrap n)) w:=by
      simp [convert,underlying,program,bind,Sem.bind,Sem.run,h1,h2,Conv.intToInt,pure]
    rw [this]
    rfl,rfl⟩
theorem A4C {o:Oper} {d:Nat} {b:Builtin} {xs:List Operand} {ts:Array TypeId} {v:Value} {us:List Value} (hd:o.dst=some d) (hN:d < σ.N) (ho:o.op=.call { callee:=.builtin b,args:=xs.toArray,argTypes:=ts })
    (hx:xs.map σ.ev=us.map .sc) (h:∀ cs w,(builtin b ts o.type cs us.toArray).run P w=.ok (.value v) w):OpStep P B o σ (σ.put d (.sc v)):=
  K4 hd hN fun g a w hr=>⟨v,by
    have he:∀ (xs:List Operand) (us:List Value),xs.map σ.ev=us.map .sc → xs.map a.eval=us:=by
      intro xs
      induction xs with
      | nil=>intro us h; cases us <;> simp at h; rfl
      | cons x xs ih =>
        intro us h
        cases us with
        | nil=>simp at h
        | cons u us=>simp at h; simp [hr.ev_sc h.1,ih us (by simpa using h.2)]
    have:=he xs us hx
    simp only [execOp,ho,resolve]
    rw [F0,H7]
    simp only [invoke,List.map_toArray,this]
    exact h _ w,rfl⟩
structure Fld (P:Program) (s f off:Nat) (ag:Bool) (n:Nat):Prop where
  h:∃ fs x,P.underlying s=some (.struct fs) ∧ fs[f]? = some x ∧ x.offset=off ∧ Ty P x.type ag n
  n0:n ≠ 0
theorem S2 {P:Program} {s f off:Nat} {ag:Bool} {n:Nat} {fs:Array Field} {x:Field} (h:P.underlying s=some (.struct fs)) (hx:fs[f]? = some x) (ho:x.offset=off) (ht:Ty P x.type ag n) (hn:n ≠ 0):Fld P s f off ag n:=⟨⟨fs,x,h,hx,ho,ht⟩,hn⟩
theorem A2g {s f off n:Nat} {ag:Bool} (h:Fld P s f off ag n) (b o:Nat) (w:World):(Instr.fieldAt s (.pointer (some ⟨b,o,none⟩)) f).run P w=.ok (.pointer (some ⟨b,o + off,none⟩)) w:=by
  obtain ⟨⟨fs,x,h1,h2,h3,h4⟩,h5⟩:=h
  unfold Instr.fieldAt
  simp only [underlying,program,Instr.sureAddr]
  rw [F0]
  simp only [bind,Sem.bind,Sem.run,h1,pure,h2]
  show (Sem.bind (fieldPlace ⟨b,o,none⟩ x) _).run P w=_
  have:(fieldPlace ⟨b,o,none⟩ x).run P w=.ok ⟨b,o + off,none⟩ w:=by
    unfold fieldPlace
    rw [F0,O4 h4]
    simp only [h5,if_false,Y6,h3]
    rfl
  have h6:=F0 (P:=P) (fieldPlace ⟨b,o,none⟩ x) (fun a=>(pure (.pointer (some a)):Sem Value)) w
  rw [this] at h6
  exact h6
theorem A3q {o:Oper} {d s f off b k n:Nat} {ag:Bool} {x:Operand} (hd:o.dst=some d) (hN:d < σ.N) (ho:o.op=.fieldAddr s x f) (hf:Fld P s f off ag n) (hx:σ.ev x=.loc b k):OpStep P B o σ (σ.put d (.loc b (k + off))):=
  K4 hd hN fun g a w hr=>by
    have hv:a.eval x=.pointer (some ⟨g.β b,k,none⟩):=by have:=hr.ev x; rw [hx] at this; exact this
    refine ⟨_,by
      simp only [execOp,ho,hv]
      rw [F0,A2g hf]
      rfl,rfl⟩
theorem A0a {T:Nat → Option (Nat × Nat)} {g:Gh} {ps:List PV} {v:Value} (h:Rep T g (.agg ps) v):∃ vs:List Value,v=.agg vs.toArray ∧ H9 T g ps vs:=h
theorem A7a {s f off n:Nat} {ag:Bool} (h:Fld P s f off ag n) (vs:List Value) (hle:off + n ≤ vs.length) (h1:ag=false → n=1) (w:World):(Instr.field s (.agg vs.toArray) f).run P w=.ok (if ag then .agg ((vs.drop off).take n).toArray else ((vs.drop off).take n).headD undef) w:=by
  obtain ⟨⟨fs,x,h1',h2,h3,h4⟩,h5⟩:=h
  unfold Instr.field
  simp only [underlying,program,asAgg]
  rw [F0]
  simp only [bind,Sem.bind,Sem.run,h1',pure,h2]
  have:(part x.type vs.toArray x.offset).run P w=.ok (if ag then .agg ((vs.drop off).take n).toArray else ((vs.drop off).take n).headD undef) w:=by
    unfold part
    rw [F0,A1T h4]
    cases ag with
    | true =>
      simp only [if_true]
      rw [F0,O4 h4,h3]
      simp only [H7]
      congr 2
      apply Array.ext'
      simp
    | false =>
      obtain rfl:=h1 rfl
      simp only [Bool.false_eq_true,if_false,h3]
      have hlt:off < vs.length:=by omega
      simp only [List.getElem?_toArray,List.getElem?_eq_getElem hlt]
      rw [H7,List.drop_eq_getElem_cons hlt]
      rfl
  exact this
theorem A5H {o:Oper} {d s f off n:Nat} {ag:Bool} {x:Operand} {ps:List PV} {p:PV} (hd:o.dst=some d) (hN:d < σ.N) (ho:o.op=.field s x f) (hf:Fld P s f off ag n) (hx:σ.ev x=.agg ps) (hle:off + n ≤ ps.length) (h1:ag=false → n=1) (hp:PV.ofCells ag ((ps.drop off).take n)=p):OpStep P B o σ (σ.put d p):=
  K4 hd hN fun g a w hr=>by
    have hv:=hr.ev x
    rw [hx] at hv
    obtain ⟨vs,he,hl⟩:=A0a hv
    have hlen:=I6 hl
    refine ⟨_,by
      simp only [execOp,ho,he]
      rw [F0,A7a hf vs (by omega) h1]
      rfl,?_⟩
    rw [← hp]
    have hR:=R5 n (U3 off hl)
    refine Z7 hR (fun e=>?_)
    have:=h1 e
    simp
    omega
theorem A4t {o:Oper} {d i:Nat} {x:Operand} {ps:List PV} {p:PV} (hd:o.dst=some d) (hN:d < σ.N) (ho:o.op=.extract x i) (hx:σ.ev x=.tup ps) (hp:ps[i]? = some p):OpStep P B o σ (σ.put d p):=
  K4 hd hN fun g a w hr=>by
    have hv:=hr.ev x
    rw [hx] at hv
    obtain ⟨vs,he,hl⟩:∃ vs:List Value,a.eval x=.tuple vs.toArray ∧ m4 σ.T g ps vs:=hv
    have hlt:i < ps.length:=(List.getElem?_eq_some_iff.1 hp).1
    have hlen:=Z6 hl
    have h1:=A0W hl i undef
    have h2:ps.getD i .any=p:=by simp [List.getD_eq_getElem?_getD,hp]
    rw [h2] at h1
    refine ⟨vs.getD i undef,?_,h1⟩
    have h3:vs[i]? = some (vs.getD i undef):=by rw [List.getD_eq_getElem?_getD,List.getElem?_eq_getElem (by omega)]; rfl
    simp only [execOp,ho,he,Instr.extract,List.getElem?_toArray,h3]
    rfl
def A8R (places:List (Nat × Nat)) (zs:List Value) (parts:Array (Nat × Value)):Sem Value:=
  match Instr.fill (fun i=>places[i]?) zs.toArray parts.toList with
  | some cells=>pure (.agg cells)
  | none=>stuck "build: no such field, or a part of the wrong size"
def Bld (P:Program) (t:TypeId) (places:List (Nat × Nat)) (zs:List Value):Prop:=∀ (parts:Array (Nat × Value)) (w:World),(Instr.build t parts).run P w=(A8R places zs parts).run P w
theorem A6Y {v:List Value}:∀ (cs:Array Value) (off k:Nat),off + k + v.length ≤ cs.size → ((v.zipIdx k).foldl (fun cs (p:Value × Nat)=>cs.setIfInBounds (off + p.2) p.1) cs).toList=J8 cs.toList (off + k) v:=by
  induction v with
  | nil=>intro cs off k _; simp [J8]
  | cons x v ih =>
    intro cs off k h
    simp only [List.length_cons] at h
    rw [List.zipIdx_cons,List.foldl_cons,ih _ _ _ (by simp; omega)]
    rw [Array.toList_setIfInBounds,show off + (k + 1)=off + k + 1 by omega]
    exact A0y x v (by simp; omega)
def V8 (places:List (Nat × Nat)) (cells:List PV):List (Nat × PV) → Option (List PV)
  | []=>some cells
  | (i,p) :: rest=>match places[i]? with
    | none=>none
    | some (off,size)=>cond (Nat.beq p.cellsP.length size && (Nat.ble (off + size) cells.length && p.okCells)) (V8 places (J8 cells off p.cellsP) rest) none
theorem A3b {T:Nat → Option (Nat × Nat)} {g:Gh} {places:List (Nat × Nat)}:∀ (pps:List (Nat × PV)) (pvs:List (Nat × Value)) (ps qs:List PV) (cs:Array Value),pps.length=pvs.length → (∀ (i:Nat) (x:Nat × PV) (y:Nat × Value),pps[i]? = some x → pvs[i]? = some y → x.1=y.1 ∧ Rep T g x.2 y.2) →
    H9 T g ps cs.toList → V8 places ps pps=some qs → ∃ cs',Instr.fill (fun i=>places[i]?) cs pvs=some cs' ∧ H9 T g qs cs'.toList
  | [],pvs,ps,qs,cs,hl,_,h1,h2=>by
    cases pvs with
    | nil=>simp [V8] at h2; subst h2; exact ⟨cs,rfl,h1⟩
    | cons y ys=>simp at hl
  | (i,p) :: pps,pvs,ps,qs,cs,hl,hR,h1,h2=>by
    cases pvs with
    | nil=>simp at hl
    | cons y pvs =>
      obtain ⟨j,v⟩:=y
      have h0:=hR 0 (i,p) (j,v) rfl rfl
      obtain rfl:i=j:=h0.1
      simp only [V8] at h2
      simp only [Instr.fill]
      cases hp:places[i]? with
      | none=>rw [hp] at h2; cases h2
      | some os =>
        obtain ⟨off,size⟩:=os
        rw [hp] at h2
        simp only at h2 ⊢
        cases hc:(Nat.beq p.cellsP.length size && (Nat.ble (off + size) ps.length && p.okCells)) with
        | true =>
          rw [hc] at h2
          simp only [cond_true] at h2
          simp only [Bool.and_eq_true] at hc
          have c1:=Nat.eq_of_beq_eq_true hc.1
          have c2:=Nat.le_of_ble_eq_true hc.2.1
          have c3:=hc.2.2
          have hcells:=A0E c3 h0.2
          have hlen:=I6 hcells
          have hlen2:=I6 h1
          have e1:v.cells.size=size:=by simpa [c1] using hlen
          have e2:cs.size=ps.length:=by simpa using hlen2
          rw [if_neg (by simp [e1,e2]; omega)]
          refine A3b pps pvs _ qs _ (by simpa using hl) (fun k x y hx hy=>hR (k + 1) x y (by simpa using hx) (by simpa using hy)) ?_ h2
          have e3:v.cells.zipIdx.foldl (fun cs (x:Value × Nat)=>cs.setIfInBounds (off + x.2) x.1) cs=(v.cells.toList.zipIdx 0).foldl (fun cs (x:Value × Nat)=>cs.setIfInBounds (off + x.2) x.1) cs:=by
            rw [← Array.foldl_toList,Array.toList_zipIdx]
          have e4:=A6Y (v:=v.cells.toList) cs off 0 (by simp [e1,e2]; omega)
          have e5:(v.cells.zipIdx.foldl (fun cs (x:Value × Nat)=>cs.setIfInBounds (off + x.2) x.1) cs).toList=J8 cs.toList off v.cells.toList:=by rw [e3,e4]; rfl
          show H9 T g (J8 ps off p.cellsP) (v.cells.zipIdx.foldl (fun cs (x:Value × Nat)=>cs.setIfInBounds (off + x.2) x.1) cs).toList
          rw [e5]
          exact W7 off h1 hcells
        | false=>rw [hc] at h2; cases h2
theorem A6E {T:Nat → Option (Nat × Nat)} {g:Gh}:∀ (vs:List Value),vs.all (·.oneCell')=true → H9 T g (vs.map PV.sc) vs
  | [],_=>rfl
  | v :: vs,h=>by
    simp only [List.all_cons,Bool.and_eq_true] at h
    exact ⟨v,vs,rfl,rfl,h.1,A6E vs h.2⟩
theorem A4f {g:Gh} {a:Act} {w:World} (hr:Rel B σ g a w) (parts:List (Nat × Operand)):∀ (i:Nat) (x:Nat × PV) (y:Nat × Value),(parts.map fun p=>(p.1,σ.ev p.2))[i]? = some x → (parts.map fun p=>(p.1,a.eval p.2))[i]? = some y → x.1=y.1 ∧ Rep σ.T g x.2 y.2:=by
  intro i x y hx hy
  rw [List.getElem?_map] at hx hy
  cases hp:parts[i]? with
  | none=>rw [hp] at hx; simp at hx
  | some q =>
    rw [hp] at hx hy
    simp at hx hy
    subst hx hy
    exact ⟨rfl,hr.ev q.2⟩
theorem A5K {o:Oper} {d:Nat} {t:TypeId} {parts:List (Nat × Operand)} {places:List (Nat × Nat)} {zs:List Value} {qs:List PV} (hd:o.dst=some d) (hN:d < σ.N) (ho:o.op=.build t parts.toArray) (hb:Bld P t places zs) (hz:zs.all (·.oneCell')=true)
    (hq:V8 places (zs.map PV.sc) (parts.map fun p=>(p.1,σ.ev p.2))=some qs):OpStep P B o σ (σ.put d (.agg qs)):=
  K4 hd hN fun g a w hr=>by
    obtain ⟨cs',h1,h2⟩:=A3b (places:=places) (parts.map fun p=>(p.1,σ.ev p.2)) (parts.map fun p=>(p.1,a.eval p.2)) _ qs zs.toArray (by simp) (A4f hr parts) (A6E zs hz) hq
    refine ⟨.agg cs',?_,cs'.toList,by simp,h2⟩
    simp only [execOp,ho]
    rw [F0,List.map_toArray,hb]
    simp only [A8R]
    rw [h1]
    rfl
end ops
structure Enc (α:Type) where
  sz:Nat
  pv:α → List PV
  len:∀ x,(pv x).length=sz
def m5 {α:Type} (E:Enc α) (l:List α) (imm:Imm) (v:Value):Prop:=
  ∃ A c,v=.slice A l.length c ∧ l.length ≤ c ∧ c ≤ 9223372036854775807 ∧ (A=none → c=0) ∧ (l ≠ [] → ∃ b o,A=some ⟨b,o,none⟩ ∧ ∀ i x,l[i]? = some x → ∃ vs,H9 noT (gh imm) (E.pv x) vs ∧ ∀ j u,vs[j]? = some u → imm b (o + i * E.sz + j)=some u)
theorem A4H {i j:Imm} (h:Imm.le i j) (p:PV) (v:Value) (hr:K2 noT (gh i) p v):K2 noT (gh j) p v:=
  K2.mono (g:=gh i) (g':=gh j) h (fun _ _ _=>rfl) (fun _ _ _ _ _=>rfl) (fun _ _ _ _=>rfl) (fun _ _ _ _ _=>rfl) hr
def SL {α:Type} (E:Enc α) (l:List α):A8o where
  holds:=m5 E l
  mono:=by
    rintro i j v h ⟨A,c,h1,h2,h3,h5,h4⟩
    refine ⟨A,c,h1,h2,h3,h5,fun hl=>?_⟩
    obtain ⟨b,o,e,h6⟩:=h4 hl
    refine ⟨b,o,e,fun k x hx=>?_⟩
    obtain ⟨vs,h7,h8⟩:=h6 k x hx
    exact ⟨vs,H9.carry (A4H h) h7,fun q u hu=>h _ _ _ (h8 q u hu)⟩
  one:=by
    rintro i v ⟨A,c,rfl,_⟩
    rfl
def PT (ps:List PV):A8o where
  holds:=fun imm v=>∃ b o vs,v=.pointer (some ⟨b,o,none⟩) ∧ H9 noT (gh imm) ps vs ∧ ∀ j u,vs[j]? = some u → imm b (o + j)=some u
  mono:=by
    rintro i j v h ⟨b,o,vs,h1,h2,h3⟩
    exact ⟨b,o,vs,h1,H9.carry (A4H h) h2,fun q u hu=>h _ _ _ (h3 q u hu)⟩
  one:=by
    rintro i v ⟨b,o,vs,rfl,_⟩
    rfl
section sl
variable {P:Program} {B:Base} {σ:St}
def A0Q {α:Type} (σ:St) (x:Operand) (E:Enc α) (l:List α):Prop:=∀ (T:Nat → Option (Nat × Nat)) (g:Gh) (v:Value),Rep T g (σ.ev x) v → m5 E l g.imm v
theorem E3 {α:Type} {E:Enc α} {l:List α} {x:Operand} (h:σ.ev x=.sem (SL E l)):A0Q σ x E l:=fun T g v hv=>by rw [h] at hv; exact hv
theorem Q1 {α:Type} {E:Enc α} {l:List α} {x:Operand} {t n:Nat} (h:σ.ev x=.own t n (SL E l)):A0Q σ x E l:=fun T g v hv=>by rw [h] at hv; exact hv.1
theorem m6 {α:Type} (E:Enc α) (imm:Imm):m5 E [] imm (.slice none 0 0):=⟨none,0,rfl,by simp,by omega,fun _=>rfl,fun h=>absurd rfl h⟩
theorem isSl_nil {α:Type} {E:Enc α} {x:Operand} (h:σ.ev x=.sc (.slice none 0 0)):A0Q σ x E []:=fun T g v hv=>by
  rw [h] at hv
  obtain rfl:v=.slice none 0 0:=hv
  exact m6 E g.imm
theorem A7D {α:Type} {E:Enc α} {l:List α} {o:Oper} {d:Nat} {x:Operand} {t e:TypeId} (hd:o.dst=some d) (hN:d < σ.N) (ho:o.op=.call { callee:=.builtin .len,args:=#[x],argTypes:=#[t] }) (ht:P.underlying t=some (.slice e)) (hx:A0Q σ x E l) :
    OpStep P B o σ (σ.put d (.sc (.int .i64 (l.length:Int)))):=
  K4 hd hN fun g a w hr=>⟨_,by
    obtain ⟨A,c,h1,_⟩:=hx _ _ _ (hr.ev x)
    simp only [execOp,ho,resolve]
    rw [F0,H7]
    simp only [invoke,builtin,List.map_toArray,List.map_cons,List.map_nil,h1]
    rw [F0]
    have:(Builtin.len_ #[t] o.type #[Value.slice A l.length c]).run P w=.ok (.int .i64 (l.length:Int)) w:=by
      simp [Builtin.len_,underlying,program,bind,Sem.bind,Sem.run,ht,pure,goInt]
    rw [this]
    rfl,rfl⟩
theorem A3m {α:Type} {E:Enc α} {l:List α} {y:α} {o:Oper} {d:Nat} {x ix:Operand} {t e:TypeId} {ag:Bool} {n:Int} {k:IntKind} (hd:o.dst=some d) (hN:d < σ.N) (ho:o.op=.indexAddr t x ix) (ht:P.underlying t=some (.slice e)) (hte:Ty P e ag E.sz) (hx:A0Q σ x E l)
    (hi:σ.ev ix=.sc (.int k n)) (h0:0 ≤ n) (hy:l[n.toNat]? = some y):OpStep P B o σ (σ.put d (.sem (PT (E.pv y)))):=
  K4 hd hN fun g a w hr=>by
    obtain ⟨A,c,h1,h2,h3,h5,h4⟩:=hx _ _ _ (hr.ev x)
    have hlt:n.toNat < l.length:=(List.getElem?_eq_some_iff.1 hy).1
    obtain ⟨b,off,rfl,h6⟩:=h4 (fun h=>by rw [h] at hlt; simp at hlt)
    obtain ⟨vs,h7,h8⟩:=h6 _ _ hy
    refine ⟨.pointer (some ⟨b,off + n.toNat * E.sz,none⟩),?_,b,off + n.toNat * E.sz,vs,rfl,h7,h8⟩
    simp only [execOp,ho,h1,hr.ev_sc hi]
    rw [F0]
    have:(Instr.indexAt t (.slice (some ⟨b,off,none⟩) l.length c) (.int k n)).run P w=.ok (.pointer (some ⟨b,off + n.toNat * E.sz,none⟩)) w:=by
      have hc:(0 ≤ n ∧ n < (l.length:Int)):=⟨h0,by omega⟩
      simp only [Instr.indexAt,asIntOf,underlying,program]
      simp only [bind,Sem.bind,Sem.run,pure,ht,hc,and_self,if_true]
      have h9:=O4 (P:=P) hte w
      have h10:=F0 (P:=P) (sizeOf e) (fun s=>(pure (.pointer (some ((⟨b,off,none⟩:Addr).add (n.toNat * s)))):Sem Value)) w
      rw [h9] at h10
      refine Eq.trans h10 ?_
      show Result.ok (Value.pointer (some ((⟨b,off,none⟩:Addr).add (n.toNat * E.sz)))) w=_
      rw [Y6]
    rw [this]
    rfl
theorem A4Y {o:Oper} {d n:Nat} {t:TypeId} {x:Operand} {ag:Bool} {ps:List PV} {p:PV} (hd:o.dst=some d) (hN:d < σ.N) (ho:o.op=.load t x) (ht:Ty P t ag n) (hx:σ.ev x=.sem (PT ps)) (hn:(ps.take n).length=n) (h1:ag=false → n=1) (hc:ps.all PV.clean1=true)
    (hp:PV.ofCells ag (ps.take n)=p):OpStep P B o σ (σ.put d p):=by
  refine K4 hd hN fun g a w hr=>?_
  have hv:=hr.ev x
  rw [hx] at hv
  obtain ⟨b,off,vs,hv,hps,himm⟩:(PT ps).holds g.imm (a.eval x):=hv
  have hR:=R5 n hps
  have hl:=I6 hR
  rw [hn] at hl
  have hrun:=Z4 (P:=P) ht (b:=b) (o:=off) (w:=w) hl h1 (fun j v hj=>by
    rw [List.getElem?_take] at hj
    split at hj
    · exact hr.imm _ _ _ (himm j v hj)
    · cases hj)
  refine ⟨_,by
    simp only [execOp,ho,Instr.loadAt,Instr.sureAddr,hv]
    rw [F0,F0]
    simp only [H7]
    rw [hrun],?_⟩
  rw [← hp]
  refine Z7 (W3 (Imm.le_refl _) ?_ hR) (fun e=>by rw [hl]; exact h1 e)
  rw [List.all_eq_true] at hc ⊢
  exact fun q hq=>hc q (List.mem_of_mem_take hq)
theorem A1H {o:Oper} {d s f off n:Nat} {ag:Bool} {x:Operand} {ps:List PV} (hd:o.dst=some d) (hN:d < σ.N) (ho:o.op=.fieldAddr s x f) (hf:Fld P s f off ag n) (hx:σ.ev x=.sem (PT ps)):OpStep P B o σ (σ.put d (.sem (PT (ps.drop off)))):=
  K4 hd hN fun g a w hr=>by
    have hv:=hr.ev x
    rw [hx] at hv
    obtain ⟨b,k,vs,hv,hps,himm⟩:(PT ps).holds g.imm (a.eval x):=hv
    refine ⟨.pointer (some ⟨b,k + off,none⟩),by
      simp only [execOp,ho,hv]
      rw [F0,A2g hf]
      rfl,b,k + off,vs.drop off,rfl,U3 off hps,fun j u hu=>?_⟩
    rw [List.getElem?_drop] at hu
    rw [← himm _ _ hu]
    congr 1
    omega
end sl
end Go.Ab
