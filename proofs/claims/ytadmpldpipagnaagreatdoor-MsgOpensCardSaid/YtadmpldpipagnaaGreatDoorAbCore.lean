import Derived.WalkKit
import Derived.Deep.LoopGhost
import Derived.Orders
namespace Go.Ab
open Go.RowKit
set_option linter.unusedVariables false
set_option linter.unusedSimpArgs false
abbrev Imm:=Nat → Nat → Option Value
def Imm.le (i j:Imm):Prop:=∀ b o v,i b o=some v → j b o=some v
theorem Imm.le_refl (i:Imm):Imm.le i i:=fun _ _ _ h=>h
theorem Imm.le_trans {i j k:Imm} (h:Imm.le i j) (h':Imm.le j k):Imm.le i k:=fun b o v x=>h' b o v (h b o v x)
structure A8o where
  holds:Imm → Value → Prop
  mono:∀ {i j:Imm} {v:Value},Imm.le i j → holds i v → holds j v
  one:∀ {i:Imm} {v:Value},holds i v → v.oneCell'=true
inductive PV where
  | any
  | sc (v:Value)
  | loc (s off:Nat)
  | clo (f:Nat) (ls:List (Option Nat))
  | arr (s o n c:Nat)
  | sem (S:A8o)
  | own (t n:Nat) (S:A8o)
  | agg (cs:List PV)
  | tup (vs:List PV)
structure Gh where
  imm:Imm
  β:Nat → Nat
  τ:Nat → Option (Nat × Nat)
structure St where
  N:Nat
  env:Nat → PV
  L:Nat → Option (List PV)
  T:Nat → Option (Nat × Nat)
def cap (β:Nat → Nat):Option Nat → Value
  | some s=>.pointer (some ⟨β s,0,none⟩)
  | none=>.pointer none
theorem A6J {β β':Nat → Nat} {ls:List (Option Nat)} (h:∀ s,some s ∈ ls → β' s=β s):ls.map (cap β')=ls.map (cap β):=
  List.map_congr_left fun x hx=>by
    cases x with
    | none=>rfl
    | some s=>simp only [cap]; rw [h s hx]
def K2 (T:Nat → Option (Nat × Nat)) (g:Gh):PV → Value → Prop
  | .any,_=>True
  | .sc u,v=>v=u
  | .loc s off,v=>v=.pointer (some ⟨g.β s,off,none⟩)
  | .clo f ls,v=>v=.func (.func f) #[] (ls.map (cap g.β)).toArray
  | .arr s o n c,v=>v=.slice (some ⟨g.β s,o,none⟩) n c
  | .sem S,v=>S.holds g.imm v
  | .own t n S,v=>S.holds g.imm v ∧ ∃ sz m,T t=some (sz,m) ∧ n ≤ m ∧ (n=m → (∃ b c,g.τ t=some (b,c) ∧ v=.slice (some ⟨b,0,none⟩) n c) ∨ (g.τ t=none ∧ n=0 ∧ v=.slice none 0 0))
  | .agg _,_=>False
  | .tup _,_=>False
def H9 (T:Nat → Option (Nat × Nat)) (g:Gh):List PV → List Value → Prop
  | [],vs=>vs=[]
  | p :: ps,vs=>∃ v vs',vs=v :: vs' ∧ K2 T g p v ∧ v.oneCell'=true ∧ H9 T g ps vs'
def X6 (T:Nat → Option (Nat × Nat)) (g:Gh):PV → Value → Prop
  | .agg ps,v=>∃ vs:List Value,v=.agg vs.toArray ∧ H9 T g ps vs
  | p,v=>K2 T g p v
def m4 (T:Nat → Option (Nat × Nat)) (g:Gh):List PV → List Value → Prop
  | [],vs=>vs=[]
  | p :: ps,vs=>∃ v vs',vs=v :: vs' ∧ X6 T g p v ∧ m4 T g ps vs'
def Rep (T:Nat → Option (Nat × Nat)) (g:Gh):PV → Value → Prop
  | .tup ps,v=>∃ vs:List Value,v=.tuple vs.toArray ∧ m4 T g ps vs
  | p,v=>X6 T g p v
structure Base where
  w0:World
  i0:Imm
  F:Nat → Prop
  pin:Nat → Option Nat
structure Rel (B:Base) (σ:St) (g:Gh) (a:Act) (w:World):Prop where
  size:a.tmps.size=σ.N
  env:∀ t,Rep σ.T g (σ.env t) (a.tmps.getD t undef)
  defers:a.defers=[]
  imm:∀ b o v,g.imm b o=some v → w.cell? ⟨b,o,none⟩=some v
  box:∀ s ps,σ.L s=some ps → ∃ cs ty,w.heap[g.β s]? = some (.cells cs ty (0,0)) ∧ H9 σ.T g ps cs.toList ∧ (∀ o,g.imm (g.β s) o=none) ∧ (B.w0.heap.size ≤ g.β s ∨ B.F (g.β s))
  apart:∀ s s' ps ps',σ.L s=some ps → σ.L s'=some ps' → s ≠ s' → g.β s ≠ g.β s'
  tip:∀ t sz m b c,σ.T t=some (sz,m) → g.τ t=some (b,c) → ∃ cs ty,w.heap[b]? = some (.cells cs ty (0,0)) ∧ c * sz ≤ cs.size ∧ m ≤ c ∧ (∀ o,m * sz ≤ o → g.imm b o=none) ∧ (B.w0.heap.size ≤ b ∨ B.F b)
  tips:∀ t t' x x' b b' c c',σ.T t=some x → σ.T t'=some x' → g.τ t=some (b,c) → g.τ t'=some (b',c') → t ≠ t' → b ≠ b'
  boxtip:∀ s ps t x b c,σ.L s=some ps → σ.T t=some x → g.τ t=some (b,c) → g.β s ≠ b
  below:w.os=B.w0.os ∧ w.tape=B.w0.tape ∧ w.output=B.w0.output ∧ B.w0.heap.size ≤ w.heap.size ∧ ∀ b,b < B.w0.heap.size → ¬ B.F b → w.heap[b]? = B.w0.heap[b]?
  immle:Imm.le B.i0 g.imm
  immnew:∀ b o v,g.imm b o=some v → B.i0 b o=some v ∨ B.w0.heap.size ≤ b ∨ B.F b
  pin:∀ s b,B.pin s=some b → g.β s=b
def A5x (B:Base) (Φ:Exit → St → Prop):Exit → Act → World → Prop:=fun e a w=>∃ σ g,Rel B σ g a w ∧ Φ e σ
def AW (P:Program) (B:Base) (c:Code) (Φ:Exit → St → Prop) (σ:St):Prop:=
  ∀ g a w,Rel B σ g a w → c.wp P (A5x B Φ) a w
def AL (P:Program) (B:Base) (ops:Array Oper) (Φ:Exit → St → Prop) (l:List Oper) (σ:St):Prop:=
  ∀ g a w,Rel B σ g a w → wpList P ops (A5x B Φ) l a w
section code
variable {P:Program} {B:Base} {Φ:Exit → St → Prop} {σ:St}
def A1v (next:St → Prop) (Φ:Exit → St → Prop):Exit → St → Prop
  | .normal,σ=>next σ
  | e,σ=>Φ e σ
def A7h (id:Nat) (Φ:Exit → St → Prop):Exit → St → Prop
  | .exit id',σ=>if id'=id then Φ .normal σ else Φ (.exit id') σ
  | e,σ=>Φ e σ
theorem A4G {c:Code} {Ψ:Exit → St → Prop} (h:AW P B c Ψ σ) (hq:∀ e σ,Ψ e σ → Φ e σ):AW P B c Φ σ:=
  fun g a w hr=>wp_mono (h g a w hr) fun _ _ _ ⟨σ',g',r,q⟩=>⟨σ',g',r,hq _ _ q⟩
theorem C6 {x y:Code} (h:AW P B x (A1v (AW P B y Φ) Φ) σ):AW P B (.seq x y) Φ σ:=by
  intro g a w hr
  refine wp_seq (wp_mono (h g a w hr) ?_)
  rintro e a' w' ⟨σ',g',r,q⟩
  cases e <;> first | exact q g' a' w' r | exact ⟨σ',g',r,q⟩
theorem A2G {x y:Code} (Ψ:St → Prop) (h:AW P B x (A1v Ψ Φ) σ) (hy:∀ σ',Ψ σ' → AW P B y Φ σ'):AW P B (.seq x y) Φ σ:=
  C6 (A4G h fun e σ' q=>by cases e <;> first | exact hy _ q | exact q)
theorem F9 (h:Φ .normal σ):AW P B .skip Φ σ:=fun g _ _ hr=>wp_skip ⟨σ,g,hr,h⟩
theorem G2 (h:Φ .ret σ):AW P B .ret Φ σ:=fun g _ _ hr=>wp_ret ⟨σ,g,hr,h⟩
theorem S8 {id:Nat} (h:Φ (.exit id) σ):AW P B (.exit id) Φ σ:=fun g _ _ hr=>wp_exit ⟨σ,g,hr,h⟩
theorem H6 {id:Nat} {c:Code} (h:AW P B c (A7h id Φ) σ):AW P B (.block id c) Φ σ:=by
  intro g a w hr
  refine wp_block (wp_mono (h g a w hr) ?_)
  rintro e a' w' ⟨σ',g',r,q⟩
  cases e with
  | exit id' =>
    simp only [Exit.inBlock]
    simp only [A7h] at q
    split
    · rename_i hid; rw [if_pos hid] at q; exact ⟨σ',g',r,q⟩
    · rename_i hid; rw [if_neg hid] at q; exact ⟨σ',g',r,q⟩
  | _=>exact ⟨σ',g',r,q⟩
def St.ev (σ:St):Operand → PV
  | .tmp t=>σ.env t
  | .const v=>.sc v
  | .func f=>.sc (.func (.func f) #[] #[])
  | .global g=>.sc (.pointer (some ⟨g,0,none⟩))
theorem Rel.ev {g:Gh} {a:Act} {w:World} (hr:Rel B σ g a w) (x:Operand):Rep σ.T g (σ.ev x) (a.eval x):=by
  cases x with
  | tmp t=>exact hr.env t
  | const v=>exact rfl
  | func f=>exact rfl
  | global b=>exact rfl
theorem Rel.ev_sc {g:Gh} {a:Act} {w:World} (hr:Rel B σ g a w) {x:Operand} {v:Value} (h:σ.ev x=.sc v):a.eval x=v:=by
  have:=hr.ev x
  rw [h] at this
  exact this
theorem F6 {c:Operand} {x y:Code} {b:Bool} (hc:σ.ev c=.sc (.bool b)) (ht:b=true → AW P B x Φ σ) (hf:b=false → AW P B y Φ σ):AW P B (.cond c x y) Φ σ:=by
  intro g a w hr
  exact wp_cond_split (hr.ev_sc hc) (fun h=>ht h g a w hr) (fun h=>hf h g a w hr)
theorem A8A {c:Code} {ι:Type} (I:ι → St → Prop) (μ:ι → Nat) (i₀:ι) (h₀:I i₀ σ)
    (round:∀ i σ',I i σ' → AW P B c (A1v (fun σ''=>∃ j,I j σ'' ∧ μ j < μ i) Φ) σ'):AW P B (.loop c) Φ σ:=by
  intro g a w hr
  refine wp_loop_ghost (fun n a w=>∃ i σ' g',μ i=n ∧ I i σ' ∧ Rel B σ' g' a w) (μ i₀) ⟨i₀,σ,g,rfl,h₀,hr⟩ ?_
  rintro n a w ⟨i,σ',g',hn,hI,hr'⟩
  refine wp_mono (round i σ' hI g' a w hr') ?_
  rintro e a' w' ⟨σ'',g'',r,q⟩
  cases e with
  | normal=>obtain ⟨j,hj,hlt⟩:=q; exact ⟨μ j,hn ▸ hlt,j,σ'',g'',rfl,hj,r⟩
  | _=>exact ⟨σ'',g'',r,q⟩
theorem B8 {id:Nat} {ops:Array Oper} (h:AL P B ops Φ ops.toList σ):AW P B (.region id ops false) Φ σ:=
  fun g a w hr=>wp_region_list (h g a w hr)
theorem D4 {ops:Array Oper} (h:Φ .normal σ):AL P B ops Φ [] σ:=fun g _ _ hr=>wpList_nil ⟨σ,g,hr,h⟩
def OpStep (P:Program) (B:Base) (o:Oper) (σ σ':St):Prop:=
  ∀ g a w,Rel B σ g a w → ∀ (K:Act → World → Prop) (Q:Exit → Act → World → Prop),(∀ g' a' w',Rel B σ' g' a' w' → K a' w') → o.wp P a w K Q
theorem B4 {ops:Array Oper} {o:Oper} {l:List Oper} {σ':St} (hg:o.guard=none) (h:OpStep P B o σ σ') (hk:AL P B ops Φ l σ'):AL P B ops Φ (o :: l) σ:=
  fun g a w hr=>wpList_plain hg fun _ hK=>h g a w hr _ _ fun g' a' w' hr'=>hK _ _ (hk g' a' w' hr')
def St.put (σ:St) (d:Nat) (p:PV):St:={ σ with env:=fun k=>cond (Nat.beq k d) p (σ.env k) }
def St.putO (σ:St) (d:Option Nat) (p:PV):St:=match d with | some d=>σ.put d p | none=>σ
theorem Rep.any' {T:Nat → Option (Nat × Nat)} {g:Gh} (v:Value):Rep T g .any v:=trivial
theorem A7w {xs:Array Value} {d t:Nat} {v u:Value} (h:d < xs.size):(xs.setIfInBounds d v).getD t u=cond (Nat.beq t d) v (xs.getD t u):=by
  by_cases e:t=d
  · subst e
    have:Nat.beq t t=true:=Nat.beq_refl t
    rw [this]
    simp [Array.getD_eq_getD_getElem?,h]
  · have:Nat.beq t d=false:=by cases h':Nat.beq t d with | false=>rfl | true=>exact absurd (Nat.eq_of_beq_eq_true h') e
    rw [this]
    simp [Array.getD_eq_getD_getElem?,Array.getElem?_setIfInBounds_ne (Ne.symm e)]
theorem Rel.put {g:Gh} {a:Act} {w:World} (hr:Rel B σ g a w) {d:Nat} {p:PV} {v:Value} (hd:d < σ.N) (hv:Rep σ.T g p v):Rel B (σ.put d p) g (a.put (some d) v) w:=
  { hr with
    size:=by show (a.tmps.setIfInBounds d v).size=σ.N; rw [Array.size_setIfInBounds]; exact hr.size
    env:=fun t=>by
      show Rep σ.T g (cond (Nat.beq t d) p (σ.env t)) ((a.tmps.setIfInBounds d v).getD t undef)
      rw [A7w (by rw [hr.size]; exact hd)]
      cases Nat.beq t d
      · exact hr.env t
      · exact hv }
theorem A2P {ops:Array Oper} {o og:Oper} {l:List Oper} {j d:Nat} {want b:Bool} (hg:o.guard=some (j,want)) (hj:ops[j]? = some og) (hd:og.dst=some d) (hb:σ.env d=.sc (.bool b)) (hdn:d < σ.N)
    (ht:b=want → ∃ σ',OpStep P B o σ σ' ∧ AL P B ops Φ l σ') (hf:b ≠ want → ∀ t,o.dst=some t → t < σ.N ∧ AL P B ops Φ l (σ.put t .any)) (hn:o.dst ≠ none):AL P B ops Φ (o :: l) σ:=by
  intro g a w hr
  have hy:yielded ops a.tmps j=some b:=by
    have h1:=hr.env d
    rw [hb] at h1
    have h1:a.tmps.getD d undef=.bool b:=h1
    have h2:d < a.tmps.size:=by rw [hr.size]; exact hdn
    simp only [yielded,hj,Option.bind_some,hd]
    have h3:a.tmps[d]? = some (.bool b):=by
      rw [Array.getD_eq_getD_getElem?,Array.getElem?_eq_getElem h2] at h1
      rw [Array.getElem?_eq_getElem h2]
      simpa using h1
    rw [h3]
  refine wpList_step fun K hK=>?_
  by_cases h:b=want
  · obtain ⟨σ',h1,h2⟩:=ht h
    have hw:Region.wanted o (yielded ops a.tmps)=true:=by simp [Region.wanted,hg,hy,h]
    rw [if_pos hw]
    exact h1 g a w hr _ _ fun g' a' w' hr'=>hK _ _ (h2 g' a' w' hr')
  · have hw:Region.wanted o (yielded ops a.tmps)=false:=by simp [Region.wanted,hg,hy,h]
    rw [if_neg (by rw [hw]; simp)]
    cases ho:o.dst with
    | none=>exact absurd ho hn
    | some t =>
      obtain ⟨h1,h2⟩:=hf h t ho
      exact hK _ _ (h2 g _ w (hr.put h1 (Rep.any' _)))
theorem A1y {ops:Array Oper} {o og:Oper} {l:List Oper} {j d t:Nat} {want b:Bool} {p:PV} (hg:o.guard=some (j,want)) (hj:ops[j]? = some og) (hd:og.dst=some d) (hb:σ.env d=.sc (.bool b)) (hdn:d < σ.N)
    (ho:o.dst=some t) (htn:t < σ.N) (ht:(b == want)=true → OpStep P B o σ (σ.put t p)) (hk:AL P B ops Φ l (σ.put t (cond (b == want) p .any))):AL P B ops Φ (o :: l) σ:=by
  refine A2P hg hj hd hb hdn (fun h=>⟨_,ht (by simp [h]),?_⟩) (fun h t' ht'=>?_) (by rw [ho]; simp)
  · have:(b == want)=true:=by simp [h]
    rw [this] at hk
    exact hk
  · obtain rfl:t=t':=by rw [ho] at ht'; exact Option.some.inj ht'
    have:(b == want)=false:=by simpa using h
    rw [this] at hk
    exact ⟨htn,hk⟩
theorem K4 {o:Oper} {d:Nat} {p:PV} (hd:o.dst=some d) (hN:d < σ.N)
    (h:∀ g a w,Rel B σ g a w → ∃ v,(execOp a.eval o).run P w=.ok (.value v) w ∧ Rep σ.T g p v):OpStep P B o σ (σ.put d p):=by
  intro g a w hr K Q hK
  obtain ⟨v,h1,h2⟩:=h g a w hr
  unfold Oper.wp
  rw [h1]
  show K (a.put o.dst v) w
  rw [hd]
  exact hK g _ w (hr.put hN h2)
theorem A6P {o:Oper} {d:Nat} {x:Operand} {p:PV} (hd:o.dst=some d) (hN:d < σ.N) (ho:o.op=.move x) (hx:σ.ev x=p):OpStep P B o σ (σ.put d p):=
  K4 hd hN fun g a w hr=>⟨a.eval x,by simp [execOp,ho,pure],hx ▸ hr.ev x⟩
theorem A5z {o:Oper} {d:Nat} {x:Operand} {p:PV} (hd:o.dst=some d) (hN:d < σ.N) (ho:o.op=.assign x) (hx:σ.ev x=p):OpStep P B o σ (σ.put d p):=
  K4 hd hN fun g a w hr=>⟨a.eval x,by simp [execOp,ho,pure],hx ▸ hr.ev x⟩
theorem Y5 {o:Oper} {d:Nat} {c x y:Operand} {b:Bool} {p:PV} (hd:o.dst=some d) (hN:d < σ.N) (ho:o.op=.pick c x y) (hc:σ.ev c=.sc (.bool b)) (ht:b=true → σ.ev x=p) (hf:b=false → σ.ev y=p):OpStep P B o σ (σ.put d p):=
  K4 hd hN fun g a w hr=>by
    refine ⟨if b then a.eval x else a.eval y,?_,?_⟩
    · simp [execOp,ho,hr.ev_sc hc,asBool,pure,bind,Sem.bind]
    · cases b
      · exact hf rfl ▸ hr.ev y
      · exact ht rfl ▸ hr.ev x
end code
end Go.Ab
