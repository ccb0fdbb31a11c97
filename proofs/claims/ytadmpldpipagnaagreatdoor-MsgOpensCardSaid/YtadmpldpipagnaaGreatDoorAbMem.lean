import Derived.Test.YtadmpldpipagnaaGreatDoorAbCore
namespace Go.Ab
open Go.RowKit
set_option linter.unusedVariables false
set_option linter.unusedSimpArgs false
section mono
variable {T:Nat → Option (Nat × Nat)} {g g':Gh}
theorem K2.mono {p:PV} {v:Value} (hi:Imm.le g.imm g'.imm) (hb:∀ s off,p=.loc s off → g'.β s=g.β s) (ha:∀ s o n c,p=.arr s o n c → g'.β s=g.β s) (ht:∀ t n S,p=.own t n S → g'.τ t=g.τ t) (hc:∀ f ls s,p=.clo f ls → some s ∈ ls → g'.β s=g.β s) (h:K2 T g p v):K2 T g' p v:=by
  cases p with
  | any=>trivial
  | sc u=>exact h
  | loc s off=>simp only [K2] at h ⊢; rw [hb s off rfl]; exact h
  | arr s o n c=>simp only [K2] at h ⊢; rw [ha s o n c rfl]; exact h
  | clo f ls=>simp only [K2] at h ⊢; rw [A6J (fun s hs=>hc f ls s rfl hs)]; exact h
  | sem S=>exact S.mono hi h
  | own t n S =>
    obtain ⟨h1,sz,m,h2,h3,h4⟩:=h
    refine ⟨S.mono hi h1,sz,m,h2,h3,fun e=>?_⟩
    rw [ht t n S rfl]
    exact h4 e
  | agg cs=>exact h.elim
  | tup vs=>exact h.elim
theorem H9.mono' {ps:List PV}:∀ {vs:List Value},(∀ p ∈ ps,∀ v,K2 T g p v → K2 T g' p v) → H9 T g ps vs → H9 T g' ps vs:=by
  induction ps with
  | nil=>intro vs _ h; exact h
  | cons p ps ih =>
    rintro vs hm ⟨v,vs',rfl,h1,h2,h3⟩
    exact ⟨v,vs',rfl,hm p (by simp) v h1,h2,ih (fun q hq=>hm q (by simp [hq])) h3⟩
end mono
def A3W (s:Nat):Option Nat → Bool
  | some s'=>Nat.beq s' s
  | none=>false
theorem A8s {s:Nat} {ls:List (Option Nat)} (h:ls.any (A3W s)=false):∀ s',some s' ∈ ls → s' ≠ s:=by
  intro s' hs e
  subst e
  rw [List.any_eq_false] at h
  exact h _ hs (Nat.beq_refl s')
def PV.kill1 (s:Nat):PV → PV
  | .loc s' off=>cond (Nat.beq s' s) .any (.loc s' off)
  | .arr s' o n c=>cond (Nat.beq s' s) .any (.arr s' o n c)
  | .clo f ls=>cond (ls.any (A3W s)) .any (.clo f ls)
  | p=>p
def PV.kill2 (s:Nat):PV → PV
  | .agg cs=>.agg (cs.map (PV.kill1 s))
  | p=>p.kill1 s
def PV.kill (s:Nat):PV → PV
  | .tup vs=>.tup (vs.map (PV.kill2 s))
  | p=>p.kill2 s
def PV.drop1 (t:Nat):PV → PV
  | .own t' n S=>cond (Nat.beq t' t) (.sem S) (.own t' n S)
  | p=>p
def PV.drop2 (t:Nat):PV → PV
  | .agg cs=>.agg (cs.map (PV.drop1 t))
  | p=>p.drop1 t
def PV.dropT (t:Nat):PV → PV
  | .tup vs=>.tup (vs.map (PV.drop2 t))
  | p=>p.drop2 t
def St.kill (σ:St) (s:Nat):St:={ σ with env:=fun k=>(σ.env k).kill s,L:=fun k=>(σ.L k).map fun ps=>ps.map (PV.kill1 s) }
def St.setL (σ:St) (s:Nat) (ps:Option (List PV)):St:={ σ with L:=fun k=>cond (Nat.beq k s) ps (σ.L k) }
def St.dropT (σ:St) (t:Nat):St:={ σ with env:=fun k=>(σ.env k).dropT t,L:=fun k=>(σ.L k).map fun ps=>ps.map (PV.drop1 t) }
def St.setT (σ:St) (t:Nat) (x:Option (Nat × Nat)):St:={ σ with T:=fun k=>cond (Nat.beq k t) x (σ.T k) }
theorem P7 {T T':Nat → Option (Nat × Nat)} {g g':Gh} {f:PV → PV} (hf:∀ p v,K2 T g p v → K2 T' g' (f p) v):∀ {ps:List PV} {vs:List Value},H9 T g ps vs → H9 T' g' (ps.map f) vs
  | [],vs,h=>h
  | p :: ps,vs,⟨v,vs',e,h1,h2,h3⟩=>⟨v,vs',e,hf p v h1,h2,P7 hf h3⟩
theorem S7 {T:Nat → Option (Nat × Nat)} {g:Gh} {p:PV} {v:Value} (h:K2 T g p v):X6 T g p v:=by
  cases p <;> first | exact h | exact h.elim
theorem T0 {T:Nat → Option (Nat × Nat)} {g:Gh} {p:PV} {v:Value} (h:X6 T g p v):Rep T g p v:=by
  cases p <;> first | exact h | exact (show False from h).elim
theorem V6 {T T':Nat → Option (Nat × Nat)} {g g':Gh} {f f2:PV → PV} (hf:∀ p v,K2 T g p v → K2 T' g' (f p) v)
    (h2:∀ cs,f2 (.agg cs)=.agg (cs.map f)) (h1:∀ p,(∀ cs,p ≠ .agg cs) → f2 p=f p) {p:PV} {v:Value} (h:X6 T g p v):X6 T' g' (f2 p) v:=by
  cases p with
  | agg cs =>
    obtain ⟨vs,e,hl⟩:=h
    rw [h2]
    exact ⟨vs,e,P7 hf hl⟩
  | _=>rw [h1 _ (by intro cs e; cases e)]; exact S7 (hf _ _ h)
theorem A5o {T T':Nat → Option (Nat × Nat)} {g g':Gh} {f2:PV → PV} (hf:∀ p v,X6 T g p v → X6 T' g' (f2 p) v):∀ {ps:List PV} {vs:List Value},m4 T g ps vs → m4 T' g' (ps.map f2) vs
  | [],vs,h=>h
  | p :: ps,vs,⟨v,vs',e,h1,h3⟩=>⟨v,vs',e,hf p v h1,A5o hf h3⟩
theorem j1 {T T':Nat → Option (Nat × Nat)} {g g':Gh} {f2 f3:PV → PV} (hf:∀ p v,X6 T g p v → X6 T' g' (f2 p) v)
    (h2:∀ cs,f3 (.tup cs)=.tup (cs.map f2)) (h1:∀ p,(∀ cs,p ≠ .tup cs) → f3 p=f2 p) {p:PV} {v:Value} (h:Rep T g p v):Rep T' g' (f3 p) v:=by
  cases p with
  | tup cs =>
    obtain ⟨vs,e,hl⟩:=h
    rw [h2]
    exact ⟨vs,e,A5o hf hl⟩
  | _=>rw [h1 _ (by intro cs e; cases e)]; exact T0 (hf _ _ h)
theorem List.map_id_pv {f:PV → PV} (hf:∀ p,f p=p) (ps:List PV):ps.map f=ps:=by
  induction ps with
  | nil=>rfl
  | cons p ps ih=>simp [hf,ih]
theorem Rep.carry {T T':Nat → Option (Nat × Nat)} {g g':Gh} (hf:∀ p v,K2 T g p v → K2 T' g' p v) {p:PV} {v:Value} (h:Rep T g p v):Rep T' g' p v:=
  j1 (f2:=id) (f3:=id) (fun p v h=>V6 (f:=id) (f2:=id) hf (fun cs=>by simp) (fun _ _=>rfl) h) (fun cs=>by simp) (fun _ _=>rfl) h
theorem X6.carry {T T':Nat → Option (Nat × Nat)} {g g':Gh} (hf:∀ p v,K2 T g p v → K2 T' g' p v) {p:PV} {v:Value} (h:X6 T g p v):X6 T' g' p v:=
  V6 (f:=id) (f2:=id) hf (fun cs=>by simp) (fun _ _=>rfl) h
theorem H9.carry {T T':Nat → Option (Nat × Nat)} {g g':Gh} (hf:∀ p v,K2 T g p v → K2 T' g' p v) {ps:List PV} {vs:List Value} (h:H9 T g ps vs):H9 T' g' ps vs:=by
  have:=P7 (f:=id) hf h
  simpa using this
theorem A5A (s:Nat):∀ p:PV,(∀ cs,p ≠ .agg cs) → p.kill2 s=p.kill1 s:=by
  intro p h
  cases p <;> first | rfl | exact absurd rfl (h _)
theorem A5Y (s:Nat):∀ p:PV,(∀ cs,p ≠ .tup cs) → p.kill s=p.kill2 s:=by
  intro p h
  cases p <;> first | rfl | exact absurd rfl (h _)
theorem f4 (s:Nat):∀ p:PV,(∀ cs,p ≠ .agg cs) → p.drop2 s=p.drop1 s:=by
  intro p h
  cases p <;> first | rfl | exact absurd rfl (h _)
theorem q6 (s:Nat):∀ p:PV,(∀ cs,p ≠ .tup cs) → p.dropT s=p.drop2 s:=by
  intro p h
  cases p <;> first | rfl | exact absurd rfl (h _)
theorem u9 {T:Nat → Option (Nat × Nat)} {g g':Gh} {s:Nat} (hi:Imm.le g.imm g'.imm) (hb:∀ s',s' ≠ s → g'.β s'=g.β s') (ht:g'.τ=g.τ) (p:PV) (v:Value) (h:K2 T g p v):K2 T g' (p.kill1 s) v:=by
  cases p with
  | loc s' off =>
    simp only [PV.kill1]
    cases hq:Nat.beq s' s with
    | true=>trivial
    | false=>exact K2.mono hi (fun s2 off2 e=>by cases e; exact hb _ (fun e=>by subst e; simp at hq)) (fun _ _ _ _ e=>by cases e) (fun _ _ _ e=>by cases e) (fun _ _ _ e=>by cases e) h
  | arr s' o n c =>
    simp only [PV.kill1]
    cases hq:Nat.beq s' s with
    | true=>trivial
    | false=>exact K2.mono hi (fun _ _ e=>by cases e) (fun s2 _ _ _ e=>by cases e; exact hb _ (fun e=>by subst e; simp at hq)) (fun _ _ _ e=>by cases e) (fun _ _ _ e=>by cases e) h
  | clo f ls =>
    simp only [PV.kill1]
    cases hq:ls.any (A3W s) with
    | true=>trivial
    | false=>exact K2.mono hi (fun _ _ e=>by cases e) (fun _ _ _ _ e=>by cases e) (fun _ _ _ e=>by cases e) (fun f2 l2 s2 e hs=>by cases e; exact hb _ (A8s hq _ hs)) h
  | any=>trivial
  | sc u=>exact h
  | sem S=>exact S.mono hi h
  | own t n S=>exact K2.mono hi (fun _ _ e=>by cases e) (fun _ _ _ _ e=>by cases e) (fun _ _ _ e=>by rw [ht]) (fun _ _ _ e=>by cases e) h
  | agg cs=>exact h.elim
  | tup vs=>exact h.elim
theorem A2T {T:Nat → Option (Nat × Nat)} {g g':Gh} {s:Nat} (hi:Imm.le g.imm g'.imm) (hb:∀ s',s' ≠ s → g'.β s'=g.β s') (ht:g'.τ=g.τ) {p:PV} {v:Value} (h:Rep T g p v):Rep T g' (p.kill s) v:=
  j1 (f2:=PV.kill2 s) (f3:=PV.kill s) (fun p v h=>V6 (f:=PV.kill1 s) (f2:=PV.kill2 s) (u9 hi hb ht) (fun cs=>rfl) (A5A s) h) (fun cs=>rfl) (A5Y s) h
def _root_.Go.World.setBlk (w:World) (b:Nat) (o:Obj):World:={ w with heap:=w.heap.setIfInBounds b o }
theorem A5d {w:World} {b k:Nat} {cs:Array Value} {ty:TypeId} {fr:Nat × Nat} (h:w.heap[b]? = some (.cells cs ty fr)) (v:Value):w.setCell ⟨b,k,none⟩ v=w.setBlk b (.cells (cs.setIfInBounds k v) ty fr):=by
  have hb:=(Array.getElem?_eq_some_iff.1 h).1
  have hv:=(Array.getElem?_eq_some_iff.1 h).2
  unfold World.setCell World.setBlk
  congr 1
  apply Array.ext_getElem?
  intro i
  rw [Array.getElem?_modify,Array.getElem?_setIfInBounds]
  by_cases e:b=i
  · subst e
    simp [hb,hv]
  · simp [e]
theorem A0K {w:World} {b i:Nat} {o:Obj} (hb:b < w.heap.size):(w.setBlk b o).heap[i]? = if b=i then some o else w.heap[i]?:=by
  show (w.heap.setIfInBounds b o)[i]? = _
  rw [Array.getElem?_setIfInBounds]
  by_cases e:b=i
  · subst e; simp [hb]
  · simp [e]
theorem A4W {w:World} {b:Nat} {o:Obj}:(w.setBlk b o).heap.size=w.heap.size:=by simp [World.setBlk]
theorem Y6 (b o n:Nat):(⟨b,o,none⟩:Addr).add n=⟨b,o + n,none⟩:=by
  unfold Addr.add
  split
  · rename_i h; subst h; rfl
  · rfl
theorem T1 {w:World} {b:Nat} {cs:Array Value} {ty:TypeId} {fr:Nat × Nat} (h:w.heap[b]? = some (.cells cs ty fr)) (o:Nat):w.cell? ⟨b,o,none⟩=cs[o]?:=by
  simp [World.cell?,h]
theorem A1m {w w':World} {b:Nat} (h:w'.heap[b]? = w.heap[b]?) (o:Nat):w'.cell? ⟨b,o,none⟩=w.cell? ⟨b,o,none⟩:=by
  simp [World.cell?,h]
def J8 {α:Type} (ps:List α) (off:Nat) (qs:List α):List α:=ps.take off ++ qs ++ ps.drop (off + qs.length)
theorem A0y {α:Type} {l:List α} {k:Nat} (v:α) (vs:List α) (h:k < l.length):J8 (l.set k v) (k + 1) vs=J8 l k (v :: vs):=by
  have hA:(l.take k).length=k:=by simp; omega
  have e0:l.set k v=l.take k ++ v :: l.drop (k + 1):=by rw [List.set_eq_take_append_cons_drop,if_pos h]
  have e1:(l.set k v).take (k + 1)=l.take k ++ [v]:=by
    rw [e0,List.take_append,hA,List.take_of_length_le (by omega),show k + 1 - k=1 by omega]
    rfl
  have e2:(l.set k v).drop (k + 1 + vs.length)=l.drop (k + (vs.length + 1)):=by
    rw [e0,List.drop_append,hA,List.drop_of_length_le (by omega),show k + 1 + vs.length - k=vs.length + 1 by omega,List.drop_succ_cons,List.drop_drop,List.nil_append]
    congr 1
    omega
  unfold J8
  rw [e1,e2,List.length_cons]
  simp
theorem I6 {T:Nat → Option (Nat × Nat)} {g:Gh}:∀ {ps:List PV} {vs:List Value},H9 T g ps vs → vs.length=ps.length
  | [],vs,h=>by rw [show vs=[] from h]; rfl
  | p :: ps,vs,⟨v,vs',e,_,_,h⟩=>by rw [e]; simp [I6 h]
theorem R6 {T:Nat → Option (Nat × Nat)} {g:Gh}:∀ {ps qs:List PV} {vs us:List Value},H9 T g ps vs → H9 T g qs us → H9 T g (ps ++ qs) (vs ++ us)
  | [],qs,vs,us,h,h'=>by rw [show vs=[] from h]; exact h'
  | p :: ps,qs,vs,us,⟨v,vs',e,h1,h2,h3⟩,h'=>⟨v,vs' ++ us,by rw [e]; rfl,h1,h2,R6 h3 h'⟩
theorem R5 {T:Nat → Option (Nat × Nat)} {g:Gh}:∀ {ps:List PV} {vs:List Value} (n:Nat),H9 T g ps vs → H9 T g (ps.take n) (vs.take n)
  | [],vs,n,h=>by rw [show vs=[] from h]; simp [H9]
  | p :: ps,vs,0,h=>by simp [H9]
  | p :: ps,vs,n + 1,⟨v,vs',e,h1,h2,h3⟩=>by rw [e]; exact ⟨v,vs'.take n,rfl,h1,h2,R5 n h3⟩
theorem U3 {T:Nat → Option (Nat × Nat)} {g:Gh}:∀ {ps:List PV} {vs:List Value} (n:Nat),H9 T g ps vs → H9 T g (ps.drop n) (vs.drop n)
  | [],vs,n,h=>by rw [show vs=[] from h]; simp [H9]
  | p :: ps,vs,0,h=>by simpa using h
  | p :: ps,vs,n + 1,⟨v,vs',e,h1,h2,h3⟩=>by rw [e]; exact U3 n h3
theorem W7 {T:Nat → Option (Nat × Nat)} {g:Gh} {ps qs:List PV} {vs us:List Value} (off:Nat) (h:H9 T g ps vs) (h':H9 T g qs us):H9 T g (J8 ps off qs) (J8 vs off us):=by
  unfold J8
  rw [I6 h']
  exact R6 (R6 (R5 off h) h') (U3 _ h)
theorem A3o {T:Nat → Option (Nat × Nat)} {g:Gh}:∀ {ps:List PV} {vs:List Value} (i:Nat) {p:PV},H9 T g ps vs → ps[i]? = some p → ∃ v,vs[i]? = some v ∧ K2 T g p v ∧ v.oneCell'=true
  | [],vs,i,p,h,hi=>by simp at hi
  | q :: ps,vs,0,p,⟨v,vs',e,h1,h2,h3⟩,hi=>by
    simp at hi; subst hi; exact ⟨v,by rw [e]; rfl,h1,h2⟩
  | q :: ps,vs,i + 1,p,⟨v,vs',e,h1,h2,h3⟩,hi=>by
    obtain ⟨u,hu,h4⟩:=A3o i h3 (by simpa using hi)
    exact ⟨u,by rw [e]; simpa using hu,h4⟩
def A9z:TypeDesc → Bool
  | .struct _ | .array _ _=>true
  | _=>false
structure Ty (P:Program) (t:TypeId) (ag:Bool) (n:Nat):Prop where
  u:(P.underlying t).map A9z=some ag
  s:(P.info? t).map (·.size)=some n
theorem O4 {P:Program} {t:TypeId} {ag:Bool} {n:Nat} (h:Ty P t ag n) (w:World):(sizeOf t).run P w=.ok n w:=by
  have:=h.s
  cases hi:P.info? t with
  | none=>rw [hi] at this; simp at this
  | some i =>
    rw [hi] at this
    simp at this
    simp [sizeOf,typeInfo,program,hi,bind,Sem.bind,pure,Sem.run,this]
theorem A1T {P:Program} {t:TypeId} {ag:Bool} {n:Nat} (h:Ty P t ag n) (w:World):(isAgg t).run P w=.ok ag w:=by
  have:=h.u
  cases hi:P.underlying t with
  | none=>rw [hi] at this; simp at this
  | some d =>
    rw [hi] at this
    simp at this
    simp only [isAgg,underlying,program,bind,Sem.bind,Sem.run,hi,pure]
    cases d <;> simp [A9z] at this <;> subst this <;> rfl
theorem F0 {α β:Type} {P:Program} (e:Sem α) (f:α → Sem β) (w:World):(e >>= f).run P w=(match e.run P w with | .ok a w'=>(f a).run P w' | .halt h w'=>.halt h w'):=by
  show (Sem.bind e f).run P w=_
  induction e generalizing w with
  | pure a=>rfl
  | load m a k ih =>
    simp only [Sem.bind,Sem.run]
    split
    · exact ih _ _
    · split
      · exact ih _ _
      · rfl
  | store m a v k ih =>
    cases v <;> simp only [Sem.bind,Sem.run] <;> first
      | rfl
      | (split
         · split
           · rfl
           · exact ih _
         · split
           · exact ih _
           · rfl)
  | new o k ih=>simp only [Sem.bind,Sem.run]; exact ih _ _
  | shape r k ih=>simp only [Sem.bind,Sem.run]; exact ih _ _
  | freeze a n k ih=>simp only [Sem.bind,Sem.run]; exact ih _
  | frozen a k ih=>simp only [Sem.bind,Sem.run]; exact ih _ _
  | getObj r k ih =>
    simp only [Sem.bind,Sem.run]
    split
    · rfl
    · exact ih _ _
    · rfl
  | setObj r o k ih =>
    simp only [Sem.bind,Sem.run]
    split
    · rfl
    · exact ih _
    · rfl
  | choose q k ih =>
    simp only [Sem.bind,Sem.run]
    split
    · exact ih _ _
    · exact ih _ _
  | sys c k ih=>simp only [Sem.bind,Sem.run]; exact ih _ _
  | program k ih=>simp only [Sem.bind,Sem.run]; exact ih _ _
  | mark m k ih=>simp only [Sem.bind,Sem.run]; exact ih _
  | halt h=>rfl
theorem H7 {α:Type} {P:Program} (a:α) (w:World):(pure a:Sem α).run P w=.ok a w:=rfl
theorem j2 {P:Program} {b o:Nat} {w:World}:∀ (vs:List Value) (i:Nat) (acc:Array Value),(∀ j v,vs[j]? = some v → w.cell? ⟨b,o + i + j,none⟩=some v) →
    (loadCellsFrom ⟨b,o,none⟩ i vs.length acc).run P w=.ok (acc ++ vs.toArray) w
  | [],i,acc,_=>by simp [loadCellsFrom,H7]
  | v :: vs,i,acc,h=>by
    have h0:=h 0 v rfl
    rw [List.length_cons,loadCellsFrom,F0]
    have:(load ((⟨b,o,none⟩:Addr).add i)).run P w=.ok v w:=by
      rw [Y6]
      simp only [Nat.add_zero] at h0
      simp [load,Sem.run,h0]
    rw [this]
    show (loadCellsFrom ⟨b,o,none⟩ (i + 1) vs.length (acc.push v)).run P w=_
    rw [j2 vs (i + 1) (acc.push v) (fun j u hj=>by have:=h (j + 1) u (by simpa using hj); rw [← this]; congr 2; omega)]
    simp
theorem A3D {P:Program} {b o:Nat} {w:World} {vs:List Value} (h:∀ j v,vs[j]? = some v → w.cell? ⟨b,o + j,none⟩=some v):(loadCells ⟨b,o,none⟩ vs.length).run P w=.ok vs.toArray w:=by
  unfold loadCells
  rw [j2 vs 0 #[] (fun j v hj=>by simpa using h j v hj)]
  simp
theorem Z4 {P:Program} {t:TypeId} {ag:Bool} {n:Nat} (h:Ty P t ag n) {b o:Nat} {w:World} {vs:List Value} (hn:vs.length=n) (h1:ag=false → n=1) (hv:∀ j v,vs[j]? = some v → w.cell? ⟨b,o + j,none⟩=some v) :
    (loadVar t ⟨b,o,none⟩).run P w=.ok (if ag then .agg vs.toArray else vs.headD undef) w:=by
  unfold loadVar
  rw [F0,A1T h]
  cases ag with
  | true =>
    simp only [if_true]
    rw [F0,O4 h]
    simp only []
    rw [← hn,F0,A3D hv]
    rfl
  | false =>
    simp only [Bool.false_eq_true,if_false]
    have:=h1 rfl
    match vs,hn.trans this with
    | [v],_ =>
      have h0:=hv 0 v rfl
      simp only [Nat.add_zero] at h0
      simp [load,Sem.run,h0]
theorem Z0 {P:Program} {b o:Nat} {ty:TypeId}:∀ (vs:List Value) (i:Nat) (w:World) (cs:Array Value),w.heap[b]? = some (.cells cs ty (0,0)) → o + i + vs.length ≤ cs.size → (∀ v ∈ vs,v.oneCell'=true) →
    ∃ cs':Array Value,(storeCells ⟨b,o,none⟩ vs i).run P w=.ok () (w.setBlk b (.cells cs' ty (0,0))) ∧ cs'.toList=J8 cs.toList (o + i) vs
  | [],i,w,cs,hb,hs,_=>by
    refine ⟨cs,?_,by simp [J8]⟩
    have:w.setBlk b (.cells cs ty (0,0))=w:=by
      unfold World.setBlk
      have hlt:=(Array.getElem?_eq_some_iff.1 hb).1
      have hv:=(Array.getElem?_eq_some_iff.1 hb).2
      congr 1
      apply Array.ext_getElem?
      intro j
      rw [Array.getElem?_setIfInBounds]
      by_cases e:b=j
      · subst e; simp [hlt,hv]
      · simp [e]
    rw [this]
    simp [storeCells,H7]
  | v :: vs,i,w,cs,hb,hs,h1=>by
    simp only [List.length_cons] at hs
    have hv:v.oneCell'=true:=h1 v (by simp)
    have hc:w.cell? ⟨b,o + i,none⟩=some (cs[o + i]'(by omega)):=by rw [T1 hb]; simp [show o + i < cs.size by omega]
    have hf:w.frozen? ⟨b,o + i,none⟩=false:=by simp [World.frozen?,hb]
    have hst:(store ((⟨b,o,none⟩:Addr).add i) v).run P w=.ok () (w.setBlk b (.cells (cs.setIfInBounds (o + i) v) ty (0,0))):=by
      rw [Y6,← A5d hb v]
      cases v <;> simp [Value.oneCell'] at hv <;> simp [store,Sem.run,hc,hf]
    have hlt:=(Array.getElem?_eq_some_iff.1 hb).1
    have hb':(w.setBlk b (.cells (cs.setIfInBounds (o + i) v) ty (0,0))).heap[b]? = some (.cells (cs.setIfInBounds (o + i) v) ty (0,0)):=by rw [A0K hlt]; simp
    obtain ⟨cs',h2,h3⟩:=Z0 (P:=P) (o:=o) vs (i + 1) _ _ hb' (by simp; omega) (fun u hu=>h1 u (by simp [hu]))
    refine ⟨cs',?_,?_⟩
    · rw [storeCells,F0,hst]
      simp only []
      rw [h2]
      congr 1
      unfold World.setBlk
      simp
    · rw [h3]
      have hl:o + i < cs.toList.length:=by simpa using (by omega:o + i < cs.size)
      have hcl:cs.toList.length=cs.size:=by simp
      simp only [Array.toList_setIfInBounds,J8,List.length_cons]
      have:=A0y (l:=cs.toList) (k:=o + i) v vs hl
      unfold J8 at this
      rw [List.length_cons] at this
      rw [← this]
      rfl
theorem A4v {P:Program} {t:TypeId} {ag:Bool} {n:Nat} (h:Ty P t ag n) {b o:Nat} {ty:TypeId} {w:World} {cs:Array Value} {v:Value} (hb:w.heap[b]? = some (.cells cs ty (0,0))) (hs:v.cells.size=n) (hle:o + n ≤ cs.size) (h1:∀ u ∈ v.cells.toList,u.oneCell'=true) :
    ∃ cs':Array Value,(storeVar t ⟨b,o,none⟩ v).run P w=.ok () (w.setBlk b (.cells cs' ty (0,0))) ∧ cs'.toList=J8 cs.toList o v.cells.toList:=by
  obtain ⟨cs',h2,h3⟩:=Z0 (P:=P) (o:=o) v.cells.toList 0 w cs hb (by simp; omega) h1
  refine ⟨cs',?_,by simpa using h3⟩
  unfold storeVar
  rw [F0,O4 h]
  simp only [hs,ne_eq,not_true_eq_false,if_false]
  exact h2
section rel
variable {P:Program} {B:Base} {σ:St} {g:Gh} {a:Act} {w:World}
theorem Rel.write (hr:Rel B σ g a w) {s:Nat} {ps qs:List PV} {cs':Array Value} {ty:TypeId} (hL:σ.L s=some ps) (hq:H9 σ.T g qs cs'.toList) :
    Rel B (σ.setL s (some qs)) g a (w.setBlk (g.β s) (.cells cs' ty (0,0))):=by
  obtain ⟨cs,ty0,hb,hps,himm,hF⟩:=hr.box s ps hL
  have hlt:=(Array.getElem?_eq_some_iff.1 hb).1
  have other:∀ b,g.β s ≠ b → (w.setBlk (g.β s) (.cells cs' ty (0,0))).heap[b]? = w.heap[b]?:=fun b hne=>by rw [A0K hlt,if_neg hne]
  have live:∀ s' ps',(σ.setL s (some qs)).L s'=some ps' → ∃ ps'',σ.L s'=some ps'':=by
    intro s' ps' h
    simp only [St.setL] at h
    cases hq:Nat.beq s' s with
    | true=>exact ⟨ps,by rw [Nat.eq_of_beq_eq_true hq]; exact hL⟩
    | false=>rw [hq] at h; exact ⟨ps',h⟩
  refine { hr with imm:=?_,box:=?_,apart:=?_,tip:=?_,boxtip:=?_,below:=?_ }
  · intro b o v hv
    have:g.β s ≠ b:=fun e=>by rw [← e,himm] at hv; cases hv
    rw [A1m (other b this)]
    exact hr.imm b o v hv
  · intro s' ps' h
    simp only [St.setL] at h
    cases he:Nat.beq s' s with
    | true =>
      obtain rfl:=Nat.eq_of_beq_eq_true he
      rw [he] at h
      obtain rfl:qs=ps':=by simpa using h
      exact ⟨cs',ty,by rw [A0K hlt]; simp,hq,himm,hF⟩
    | false =>
      rw [he] at h
      obtain ⟨c,t,h1,h2,h3,h4⟩:=hr.box s' ps' h
      exact ⟨c,t,by rw [other _ (hr.apart s s' ps ps' hL h (fun e=>by subst e; simp at he))]; exact h1,h2,h3,h4⟩
  · intro s1 s2 p1 p2 h1 h2 hne
    obtain ⟨q1,h1⟩:=live _ _ h1
    obtain ⟨q2,h2⟩:=live _ _ h2
    exact hr.apart s1 s2 q1 q2 h1 h2 hne
  · intro t sz m b c h1 h2
    obtain ⟨c1,t1,h3,h4⟩:=hr.tip t sz m b c h1 h2
    exact ⟨c1,t1,by rw [other _ (hr.boxtip s ps t _ b c hL h1 h2)]; exact h3,h4⟩
  · intro s1 p1 t x b c h1 h2 h3
    obtain ⟨q1,h1⟩:=live _ _ h1
    exact hr.boxtip s1 q1 t x b c h1 h2 h3
  · obtain ⟨h1,h2,h3,h4,h5⟩:=hr.below
    refine ⟨h1,h2,h3,by rw [A4W]; exact h4,fun b hb hn=>?_⟩
    rw [other b (fun e=>by
      subst e
      rcases hF with h | h
      · omega
      · exact hn h)]
    exact h5 b hb hn
theorem Rel.lt_imm (hr:Rel B σ g a w) {b o:Nat} {v:Value} (h:g.imm b o=some v):b < w.heap.size:=by
  have:=hr.imm b o v h
  rcases Nat.lt_or_ge b w.heap.size with h' | h'
  · exact h'
  · simp [World.cell?,Array.getElem?_eq_none h'] at this
theorem Rel.newBox (hr:Rel B σ g a w) {s:Nat} {ps:List PV} {cs:Array Value} (ty:TypeId) (hp:B.pin s=none) (hps:H9 σ.T g ps cs.toList) :
    Rel B ((σ.kill s).setL s (some (ps.map (PV.kill1 s)))) { g with β:=fun k=>cond (Nat.beq k s) w.heap.size (g.β k) } a (w.alloc (.cells cs ty)):=by
  have hβ:∀ s',s' ≠ s → (fun k=>cond (Nat.beq k s) w.heap.size (g.β k)) s'=g.β s':=by
    intro s' hne
    have:Nat.beq s' s=false:=by cases h':Nat.beq s' s with | false=>rfl | true=>exact absurd (Nat.eq_of_beq_eq_true h') hne
    simp [this]
  have old:∀ b,b < w.heap.size → (w.alloc (.cells cs ty)).heap[b]? = w.heap[b]?:=fun b h=>Below.heap_alloc w _ b h
  have lt:∀ {b:Nat} {o:Obj},w.heap[b]? = some o → b < w.heap.size:=fun h=>(Array.getElem?_eq_some_iff.1 h).1
  have k1:=@u9 σ.T g { g with β:=fun k=>cond (Nat.beq k s) w.heap.size (g.β k) } s (Imm.le_refl _) hβ rfl
  have live:∀ s' ps',((σ.kill s).setL s (some (ps.map (PV.kill1 s)))).L s'=some ps' → (s'=s ∧ ps'=ps.map (PV.kill1 s)) ∨ (s' ≠ s ∧ ∃ ps'',σ.L s'=some ps'' ∧ ps'=ps''.map (PV.kill1 s)):=by
    intro s' ps' h
    simp only [St.setL,St.kill] at h
    cases hq:Nat.beq s' s with
    | true=>rw [hq] at h; exact .inl ⟨Nat.eq_of_beq_eq_true hq,by simpa using h.symm⟩
    | false =>
      rw [hq] at h
      refine .inr ⟨fun e=>by subst e; simp at hq,?_⟩
      cases hl:σ.L s' with
      | none=>rw [hl] at h; simp at h
      | some x=>rw [hl] at h; exact ⟨x,rfl,by simpa using h.symm⟩
  refine { hr with env:=?_,imm:=?_,box:=?_,apart:=?_,tip:=?_,boxtip:=?_,below:=?_,pin:=?_ }
  · intro t
    exact @A2T σ.T g { g with β:=fun k=>cond (Nat.beq k s) w.heap.size (g.β k) } s (Imm.le_refl _) hβ rfl _ _ (hr.env t)
  · intro b o v hv
    rw [A1m (old b (hr.lt_imm hv))]
    exact hr.imm b o v hv
  · intro s' ps' h
    rcases live s' ps' h with ⟨rfl,rfl⟩ | ⟨hne,ps'',h1,rfl⟩
    · refine ⟨cs,ty,?_,P7 k1 hps,?_,.inl ?_⟩
      · simp only [Nat.beq_refl,cond_true]
        show (w.heap.push _)[w.heap.size]? = _
        simp
      · intro o
        simp only [Nat.beq_refl,cond_true]
        cases hi:g.imm w.heap.size o with
        | none=>rfl
        | some v=>have:=hr.lt_imm hi; omega
      · simp only [Nat.beq_refl,cond_true]; exact hr.below.2.2.2.1
    · obtain ⟨c,t,h2,h3,h4,h5⟩:=hr.box s' ps'' h1
      refine ⟨c,t,?_,P7 k1 h3,?_,?_⟩
      · show (w.alloc (.cells cs ty)).heap[(fun k=>cond (Nat.beq k s) w.heap.size (g.β k)) s']? = _
        rw [hβ s' hne,old _ (lt h2)]; exact h2
      · show ∀ o,g.imm ((fun k=>cond (Nat.beq k s) w.heap.size (g.β k)) s') o=none
        rw [hβ s' hne]; exact h4
      · show B.w0.heap.size ≤ (fun k=>cond (Nat.beq k s) w.heap.size (g.β k)) s' ∨ B.F ((fun k=>cond (Nat.beq k s) w.heap.size (g.β k)) s')
        rw [hβ s' hne]; exact h5
  · intro s1 s2 p1 p2 h1 h2 hne
    show (fun k=>cond (Nat.beq k s) w.heap.size (g.β k)) s1 ≠ (fun k=>cond (Nat.beq k s) w.heap.size (g.β k)) s2
    rcases live _ _ h1 with ⟨e1,_⟩ | ⟨n1,q1,h1,_⟩
    · rcases live _ _ h2 with ⟨e2,_⟩ | ⟨n2,q2,h2,_⟩
      · exact absurd (e1.trans e2.symm) hne
      · rw [hβ s2 n2,e1]
        obtain ⟨c,t,h3,_⟩:=hr.box s2 q2 h2
        have:=lt h3
        simp only [Nat.beq_refl,cond_true]
        omega
    · rcases live _ _ h2 with ⟨e2,_⟩ | ⟨n2,q2,h2,_⟩
      · rw [hβ s1 n1,e2]
        obtain ⟨c,t,h3,_⟩:=hr.box s1 q1 h1
        have:=lt h3
        simp only [Nat.beq_refl,cond_true]
        omega
      · rw [hβ s1 n1,hβ s2 n2]
        exact hr.apart s1 s2 q1 q2 h1 h2 hne
  · intro t sz m b c h1 h2
    obtain ⟨c1,t1,h3,h4⟩:=hr.tip t sz m b c h1 h2
    exact ⟨c1,t1,by rw [old _ (lt h3)]; exact h3,h4⟩
  · intro s1 p1 t x b c h1 h2 h3
    show (fun k=>cond (Nat.beq k s) w.heap.size (g.β k)) s1 ≠ b
    obtain ⟨sz,m⟩:=x
    obtain ⟨c1,t1,h4,_⟩:=hr.tip t sz m b c h2 h3
    rcases live _ _ h1 with ⟨e1,_⟩ | ⟨n1,q1,h1,_⟩
    · subst e1
      have:=lt h4
      simp only [Nat.beq_refl,cond_true]
      omega
    · rw [hβ s1 n1]
      exact hr.boxtip s1 q1 t (sz,m) b c h1 h2 h3
  · obtain ⟨h1,h2,h3,h4,h5⟩:=hr.below
    refine ⟨h1,h2,h3,by simp; omega,fun b hb hn=>?_⟩
    rw [old b (by omega)]
    exact h5 b hb hn
  · intro s' b h
    have hne:s' ≠ s:=fun e=>by subst e; rw [hp] at h; cases h
    show (fun k=>cond (Nat.beq k s) w.heap.size (g.β k)) s'=b
    rw [hβ s' hne]
    exact hr.pin s' b h
end rel
def PV.cellsP:PV → List PV
  | .agg cs=>cs
  | p=>[p]
def PV.okCells:PV → Bool
  | .agg _=>true
  | .sc v=>v.oneCell'
  | .sem _=>true
  | .own _ _ _=>true
  | .loc _ _=>true
  | .clo _ _=>true
  | .arr _ _ _ _=>true
  | .any=>false
  | .tup _=>false
theorem A0E {T:Nat → Option (Nat × Nat)} {g:Gh} {p:PV} {v:Value} (hk:p.okCells=true) (h:Rep T g p v):H9 T g p.cellsP v.cells.toList:=by
  cases p with
  | any=>cases hk
  | tup vs=>cases hk
  | agg cs=>obtain ⟨vs,rfl,h⟩:=h; simpa [Value.cells,PV.cellsP] using h
  | sc u =>
    obtain rfl:v=u:=h
    have h1:v.oneCell'=true:=hk
    have h2:v.cells = #[v]:=by cases v <;> simp [Value.oneCell'] at h1 <;> rfl
    rw [h2]
    exact ⟨v,[],rfl,rfl,h1,rfl⟩
  | loc s off =>
    have h':v=.pointer (some ⟨g.β s,off,none⟩):=h
    subst h'
    exact ⟨_,[],rfl,rfl,rfl,rfl⟩
  | clo f ls =>
    have h':v=.func (.func f) #[] (ls.map (cap g.β)).toArray:=h
    subst h'
    exact ⟨_,[],rfl,rfl,rfl,rfl⟩
  | arr s o n c =>
    have h':v=.slice (some ⟨g.β s,o,none⟩) n c:=h
    subst h'
    exact ⟨_,[],rfl,rfl,rfl,rfl⟩
  | sem S =>
    have h1:=S.one (show S.holds g.imm v from h)
    have h2:v.cells = #[v]:=by cases v <;> simp [Value.oneCell'] at h1 <;> rfl
    rw [h2]
    exact ⟨v,[],rfl,h,h1,rfl⟩
  | own t n S =>
    have h1:=S.one (show S.holds g.imm v from h.1)
    have h2:v.cells = #[v]:=by cases v <;> simp [Value.oneCell'] at h1 <;> rfl
    rw [h2]
    exact ⟨v,[],rfl,h,h1,rfl⟩
section ops
variable {P:Program} {B:Base} {σ:St}
theorem rep_kill_loc {T:Nat → Option (Nat × Nat)} {g:Gh} {s off:Nat}:Rep T g (.loc s off) (.pointer (some ⟨g.β s,off,none⟩)):=rfl
theorem A7g {o:Oper} {d s:Nat} {t:TypeId} {x:Operand} {p:PV} (hd:o.dst=some d) (hN:d < σ.N) (ho:o.op=.box t x) (hp:B.pin s=none) (hx:σ.ev x=p) (hk:p.okCells=true) :
    OpStep P B o σ (((σ.kill s).setL s (some (p.cellsP.map (PV.kill1 s)))).put d (.loc s 0)):=by
  intro g a w hr K Q hK
  have hv:=hr.ev x
  rw [hx] at hv
  unfold Oper.wp
  have hrun:(execOp a.eval o).run P w=.ok (.value (.pointer (some ⟨w.heap.size,0,none⟩))) (w.alloc (.cells (a.eval x).cells t)):=by
    simp [execOp,ho,Instr.box,newVar,newRow,newObj,bind,Sem.bind,pure,Sem.run]
  rw [hrun]
  show K (a.put o.dst _) _
  rw [hd]
  have hn:=hr.newBox t hp (A0E hk hv)
  refine hK _ _ _ (hn.put hN ?_)
  show _=_
  simp
theorem A5I {o:Oper} {d s:Nat} {t:TypeId} {z:Value} (hd:o.dst=some d) (hN:d < σ.N) (ho:o.op=.alloc t) (hp:B.pin s=none) (hz:(P.info? t).map (·.zero)=some (some z)) (h1:z.cells.toList.all (·.oneCell')=true) :
    OpStep P B o σ (((σ.kill s).setL s (some ((z.cells.toList.map PV.sc).map (PV.kill1 s)))).put d (.loc s 0)):=by
  intro g a w hr K Q hK
  unfold Oper.wp
  have hrun:(execOp a.eval o).run P w=.ok (.value (.pointer (some ⟨w.heap.size,0,none⟩))) (w.alloc (.cells z.cells t)):=by
    cases hi:P.info? t with
    | none=>rw [hi] at hz; simp at hz
    | some i =>
      rw [hi] at hz
      simp at hz
      simp [execOp,ho,Instr.alloc,zeroValue,typeInfo,program,hi,hz,newVar,newRow,newObj,bind,Sem.bind,pure,Sem.run]
  rw [hrun]
  show K (a.put o.dst _) _
  rw [hd]
  have hl:∀ (vs:List Value),vs.all (·.oneCell')=true → H9 σ.T g (vs.map PV.sc) vs:=by
    intro vs
    induction vs with
    | nil=>intro _; rfl
    | cons v vs ih =>
      intro h
      simp only [List.all_cons,Bool.and_eq_true] at h
      exact ⟨v,vs,rfl,rfl,h.1,ih h.2⟩
  have hn:=hr.newBox t hp (hl _ h1)
  refine hK _ _ _ (hn.put hN ?_)
  show _=_
  simp
def PV.ofCells (ag:Bool) (ps:List PV):PV:=cond ag (.agg ps) (ps.headD .any)
theorem A1F {o:Oper} {d s off n:Nat} {t:TypeId} {x:Operand} {ag:Bool} {ps:List PV} {p:PV} (hd:o.dst=some d) (hN:d < σ.N) (ho:o.op=.load t x) (ht:Ty P t ag n) (hx:σ.ev x=.loc s off) (hL:σ.L s=some ps)
    (hn:((ps.drop off).take n).length=n) (h1:ag=false → n=1) (hp:PV.ofCells ag ((ps.drop off).take n)=p):OpStep P B o σ (σ.put d p):=by
  refine K4 hd hN fun g a w hr=>?_
  have hv:a.eval x=.pointer (some ⟨g.β s,off,none⟩):=by have:=hr.ev x; rw [hx] at this; exact this
  obtain ⟨cs,ty,hb,hps,_,_⟩:=hr.box s ps hL
  have hR:=R5 n (U3 off hps)
  have hl:=I6 hR
  rw [hn] at hl
  have hrun:=Z4 (P:=P) ht (b:=g.β s) (o:=off) (w:=w) hl h1 (fun j v hj=>by
    rw [T1 hb]
    rw [List.getElem?_take] at hj
    split at hj
    · rw [List.getElem?_drop] at hj
      simpa using hj
    · cases hj)
  refine ⟨_,by
    simp only [execOp,ho,Instr.loadAt,Instr.sureAddr,hv]
    rw [F0,F0]
    simp only [H7]
    rw [hrun],?_⟩
  rw [← hp]
  cases ag with
  | true=>exact ⟨_,rfl,hR⟩
  | false =>
    obtain rfl:=h1 rfl
    revert hR hl
    generalize (ps.drop off).take 1=qs
    generalize (cs.toList.drop off).take 1=us
    intro hR hl
    match us,hl with
    | [u],_ =>
      match qs,hR with
      | [q],hR =>
        obtain ⟨v,vs',e,h2,_,_⟩:=hR
        simp at e
        obtain ⟨rfl,_⟩:=e
        exact T0 (S7 h2)
theorem A0I {o:Oper} {s off n:Nat} {t:TypeId} {x y:Operand} {ag:Bool} {ps:List PV} {p:PV} (hd:o.dst=none) (ho:o.op=.store t x y) (ht:Ty P t ag n) (hx:σ.ev x=.loc s off) (hy:σ.ev y=p) (hL:σ.L s=some ps)
    (hk:p.okCells=true) (hc:p.cellsP.length=n) (hn:off + n ≤ ps.length):OpStep P B o σ (σ.setL s (some (J8 ps off p.cellsP))):=by
  intro g a w hr K Q hK
  have hv:a.eval x=.pointer (some ⟨g.β s,off,none⟩):=by have:=hr.ev x; rw [hx] at this; exact this
  have hyv:=hr.ev y
  rw [hy] at hyv
  obtain ⟨cs,ty,hb,hps,_,_⟩:=hr.box s ps hL
  have hR:=A0E hk hyv
  have hl:=I6 hR
  have hl2:=I6 hps
  have hone:∀ {qs:List PV} {vs:List Value},H9 σ.T g qs vs → ∀ u ∈ vs,u.oneCell'=true:=by
    intro qs
    induction qs with
    | nil=>intro vs h u hu; rw [show vs=[] from h] at hu; cases hu
    | cons q qs ih =>
      rintro vs ⟨v,vs',rfl,_,h2,h3⟩ u hu
      rcases List.mem_cons.1 hu with rfl | hu
      · exact h2
      · exact ih h3 u hu
  obtain ⟨cs',hrun,hcs⟩:=A4v (P:=P) ht (o:=off) hb (v:=a.eval y) (by simpa [hc] using hl) (by simp at hl2; omega) (hone hR)
  unfold Oper.wp
  have:(execOp a.eval o).run P w=.ok .skip (w.setBlk (g.β s) (.cells cs' ty (0,0))):=by
    simp only [execOp,ho,Instr.storeAt,Instr.sureAddr,hv]
    rw [F0,F0]
    simp only [H7]
    rw [hrun]
  rw [this]
  show K (a.put o.dst undef) _
  rw [hd]
  refine hK _ _ _ (hr.write hL ?_)
  rw [hcs]
  exact W7 off hps hR
theorem step_exec {o:Oper} {d:Nat} {v:Value} (hd:o.dst=some d) (hN:d < σ.N) (h:∀ (ρ:Operand → Value) (w:World),(∀ x u,σ.ev x=.sc u → ρ x=u) → (execOp ρ o).run P w=.ok (.value v) w):OpStep P B o σ (σ.put d (.sc v)):=
  K4 hd hN fun g a w hr=>⟨v,h a.eval w (fun x u hx=>hr.ev_sc hx),rfl⟩
end ops
end Go.Ab
