import Derived.Test.YtadmpldpipagnaaGreatDoorAbSl
namespace Go.Ab
open Go.RowKit
set_option linter.unusedVariables false
set_option linter.unusedSimpArgs false
theorem gt {b:Bool} {p q:PV} (h:b=true):cond b p q=p:=by subst h; rfl
theorem gf {b:Bool} {p q:PV} (h:b=false):cond b p q=q:=by subst h; rfl
def N9:PV → Bool
  | .tup _=>false
  | _=>true
section
variable {P:Program} {B:Base} {Φ:Exit → St → Prop} {σ:St}
theorem blt {a b:Nat} (h:Nat.blt a b=true):a < b:=Nat.le_of_ble_eq_true h
theorem al_gT {ops:Array Oper} {o og:Oper} {l:List Oper} {j d t:Nat} {b:Bool} {p:PV} (hg:o.guard=some (j,true)) (hj:ops[j]? = some og) (hd:og.dst=some d) (hb:σ.env d=.sc (.bool b)) (hdn:Nat.blt d σ.N=true)
    (ho:o.dst=some t) (htn:Nat.blt t σ.N=true) (ht:b=true → OpStep P B o σ (σ.put t p)) (hk:AL P B ops Φ l (σ.put t (cond b p .any))):AL P B ops Φ (o :: l) σ:=by
  refine A1y (b:=b) hg hj hd hb (blt hdn) ho (blt htn) (fun h=>ht (by simpa using h)) ?_
  have:(b == true)=b:=by cases b <;> rfl
  rw [this]
  exact hk
theorem al_gF {ops:Array Oper} {o og:Oper} {l:List Oper} {j d t:Nat} {b:Bool} {p:PV} (hg:o.guard=some (j,false)) (hj:ops[j]? = some og) (hd:og.dst=some d) (hb:σ.env d=.sc (.bool b)) (hdn:Nat.blt d σ.N=true)
    (ho:o.dst=some t) (htn:Nat.blt t σ.N=true) (ht:b=false → OpStep P B o σ (σ.put t p)) (hk:AL P B ops Φ l (σ.put t (cond b .any p))):AL P B ops Φ (o :: l) σ:=by
  refine A1y (b:=b) hg hj hd hb (blt hdn) ho (blt htn) (fun h=>ht (by simpa using h)) ?_
  have:cond (b == false) p PV.any=cond b .any p:=by cases b <;> rfl
  rw [this]
  exact hk
theorem al_on {ops:Array Oper} {o og:Oper} {l:List Oper} {j d:Nat} {want:Bool} {σ':St} (hg:o.guard=some (j,want)) (hj:ops[j]? = some og) (hd:og.dst=some d) (hb:σ.env d=.sc (.bool want)) (hdn:Nat.blt d σ.N=true) (hn:o.dst ≠ none)
    (ht:OpStep P B o σ σ') (hk:AL P B ops Φ l σ'):AL P B ops Φ (o :: l) σ:=
  A2P hg hj hd hb (blt hdn) (fun _=>⟨σ',ht,hk⟩) (fun h=>absurd rfl h) hn
theorem al_off {ops:Array Oper} {o og:Oper} {l:List Oper} {j d t:Nat} {want b:Bool} (hg:o.guard=some (j,want)) (hj:ops[j]? = some og) (hd:og.dst=some d) (hb:σ.env d=.sc (.bool b)) (hdn:Nat.blt d σ.N=true) (hw:(b == want)=false)
    (ho:o.dst=some t) (htn:Nat.blt t σ.N=true) (hk:AL P B ops Φ l (σ.put t .any)):AL P B ops Φ (o :: l) σ:=
  A2P hg hj hd hb (blt hdn) (fun h=>by subst h; simp at hw) (fun _ t' ht'=>by
    obtain rfl:t=t':=by rw [ho] at ht'; exact Option.some.inj ht'
    exact ⟨blt htn,hk⟩) (by rw [ho]; simp)
theorem C2 {o:Oper} {d:Nat} {x:Operand} {p:PV} (hd:o.dst=some d) (hN:Nat.blt d σ.N=true) (ho:o.op=.move x) (hx:σ.ev x=p):OpStep P B o σ (σ.put d p):=A6P hd (blt hN) ho hx
theorem C7 {o:Oper} {d:Nat} {x:Operand} {p:PV} (hd:o.dst=some d) (hN:Nat.blt d σ.N=true) (ho:o.op=.assign x) (hx:σ.ev x=p):OpStep P B o σ (σ.put d p):=A5z hd (blt hN) ho hx
theorem g_and {o:Oper} {d:Nat} {c x:Operand} {b y:Bool} (hd:o.dst=some d) (hN:Nat.blt d σ.N=true) (ho:o.op=.pick c x (.const (.bool false))) (hc:σ.ev c=.sc (.bool b)) (hx:σ.ev x=cond b (.sc (.bool y)) .any):OpStep P B o σ (σ.put d (.sc (.bool (b && y)))):=
  Y5 hd (blt hN) ho hc (fun h=>by subst h; simpa using hx) (fun h=>by subst h; rfl)
theorem g_or {o:Oper} {d:Nat} {c x:Operand} {b y:Bool} (hd:o.dst=some d) (hN:Nat.blt d σ.N=true) (ho:o.op=.pick c (.const (.bool true)) x) (hc:σ.ev c=.sc (.bool b)) (hx:σ.ev x=cond b .any (.sc (.bool y))):OpStep P B o σ (σ.put d (.sc (.bool (b || y)))):=
  Y5 hd (blt hN) ho hc (fun h=>by subst h; rfl) (fun h=>by subst h; simpa using hx)
theorem g_pick {o:Oper} {d:Nat} {c x y:Operand} {b:Bool} {p:PV} (hd:o.dst=some d) (hN:Nat.blt d σ.N=true) (ho:o.op=.pick c x y) (hc:σ.ev c=.sc (.bool b)) (hp:cond b (σ.ev x) (σ.ev y)=p):OpStep P B o σ (σ.put d p):=
  Y5 hd (blt hN) ho hc (fun h=>by subst h; exact hp) (fun h=>by subst h; exact hp)
theorem q9 {o:Oper} {d s:Nat} {t:TypeId} {x:Operand} {p:PV} {qs:List PV} (hd:o.dst=some d) (hN:Nat.blt d σ.N=true) (ho:o.op=.box t x) (hp:B.pin s=none) (hx:σ.ev x=p) (hk:p.okCells=true) (hq:p.cellsP.map (PV.kill1 s)=qs) :
    OpStep P B o σ (((σ.kill s).setL s (some qs)).put d (.loc s 0)):=hq ▸ A7g hd (blt hN) ho hp hx hk
theorem L2 {o:Oper} {d s:Nat} {t:TypeId} {z:Value} {qs:List PV} (hd:o.dst=some d) (hN:Nat.blt d σ.N=true) (ho:o.op=.alloc t) (hp:B.pin s=none) (hz:(P.info? t).map (·.zero)=some (some z)) (h1:z.cells.toList.all (·.oneCell')=true) (hq:(z.cells.toList.map PV.sc).map (PV.kill1 s)=qs) :
    OpStep P B o σ (((σ.kill s).setL s (some qs)).put d (.loc s 0)):=hq ▸ A5I hd (blt hN) ho hp hz h1
theorem or1 {ag:Bool} {n:Nat} (h:(ag || Nat.beq n 1)=true):ag=false → n=1:=by
  intro e
  subst e
  exact Nat.eq_of_beq_eq_true (by simpa using h)
theorem F4 {o:Oper} {d s off n:Nat} {t:TypeId} {x:Operand} {ag:Bool} {ps:List PV} {p:PV} (hd:o.dst=some d) (hN:Nat.blt d σ.N=true) (ho:o.op=.load t x) (ht:Ty P t ag n) (hx:σ.ev x=.loc s off) (hL:σ.L s=some ps)
    (hn:((ps.drop off).take n).length=n) (h1:(ag || Nat.beq n 1)=true) (hp:PV.ofCells ag ((ps.drop off).take n)=p):OpStep P B o σ (σ.put d p):=A1F hd (blt hN) ho ht hx hL hn (or1 h1) hp
theorem G4 {o:Oper} {d n:Nat} {t:TypeId} {x:Operand} {ag:Bool} {ps:List PV} {p:PV} (hd:o.dst=some d) (hN:Nat.blt d σ.N=true) (ho:o.op=.load t x) (ht:Ty P t ag n) (hx:σ.ev x=.sem (PT ps)) (hn:(ps.take n).length=n) (h1:(ag || Nat.beq n 1)=true) (hc:ps.all PV.clean1=true)
    (hp:PV.ofCells ag (ps.take n)=p):OpStep P B o σ (σ.put d p):=A4Y hd (blt hN) ho ht hx hn (or1 h1) hc hp
theorem G5 {o:Oper} {s off n:Nat} {t:TypeId} {x y:Operand} {ag:Bool} {ps qs:List PV} {p:PV} (hd:o.dst=none) (ho:o.op=.store t x y) (ht:Ty P t ag n) (hx:σ.ev x=.loc s off) (hy:σ.ev y=p) (hL:σ.L s=some ps)
    (hk:p.okCells=true) (hc:p.cellsP.length=n) (hn:Nat.ble (off + n) ps.length=true) (hq:J8 ps off p.cellsP=qs):OpStep P B o σ (σ.setL s (some qs)):=hq ▸ A0I hd ho ht hx hy hL hk hc (Nat.le_of_ble_eq_true hn)
theorem D3 {o:Oper} {d s f off b k n m:Nat} {ag:Bool} {x:Operand} (hd:o.dst=some d) (hN:Nat.blt d σ.N=true) (ho:o.op=.fieldAddr s x f) (hf:Fld P s f off ag n) (hx:σ.ev x=.loc b k) (hm:k + off=m):OpStep P B o σ (σ.put d (.loc b m)):=hm ▸ A3q hd (blt hN) ho hf hx
theorem g_fieldAddrPT {o:Oper} {d s f off n:Nat} {ag:Bool} {x:Operand} {ps qs:List PV} (hd:o.dst=some d) (hN:Nat.blt d σ.N=true) (ho:o.op=.fieldAddr s x f) (hf:Fld P s f off ag n) (hx:σ.ev x=.sem (PT ps)) (hq:ps.drop off=qs):OpStep P B o σ (σ.put d (.sem (PT qs))):=hq ▸ A1H hd (blt hN) ho hf hx
theorem g_field {o:Oper} {d s f off n:Nat} {ag:Bool} {x:Operand} {ps:List PV} {p:PV} (hd:o.dst=some d) (hN:Nat.blt d σ.N=true) (ho:o.op=.field s x f) (hf:Fld P s f off ag n) (hx:σ.ev x=.agg ps) (hle:Nat.ble (off + n) ps.length=true) (h1:(ag || Nat.beq n 1)=true) (hp:PV.ofCells ag ((ps.drop off).take n)=p):OpStep P B o σ (σ.put d p):=
  A5H hd (blt hN) ho hf hx (Nat.le_of_ble_eq_true hle) (or1 h1) hp
theorem I2 {o:Oper} {d i:Nat} {x:Operand} {ps:List PV} {p:PV} (hd:o.dst=some d) (hN:Nat.blt d σ.N=true) (ho:o.op=.extract x i) (hx:σ.ev x=.tup ps) (hp:ps[i]? = some p):OpStep P B o σ (σ.put d p):=A4t hd (blt hN) ho hx hp
theorem M7 {o:Oper} {d:Nat} {t:TypeId} {parts:List (Nat × Operand)} {places:List (Nat × Nat)} {zs:List Value} {qs:List PV} {pps:List (Nat × PV)} (hd:o.dst=some d) (hN:Nat.blt d σ.N=true) (ho:o.op=.build t parts.toArray) (hb:Bld P t places zs) (hz:zs.all (·.oneCell')=true)
    (hpp:(parts.map fun p=>(p.1,σ.ev p.2))=pps) (hq:V8 places (zs.map PV.sc) pps=some qs):OpStep P B o σ (σ.put d (.agg qs)):=A5K hd (blt hN) ho hb hz (hpp ▸ hq)
theorem E6 {o:Oper} {d:Nat} {op:BinOp} {t t':TypeId} {x y:Operand} {u1 u2 v:Value} (hd:o.dst=some d) (hN:Nat.blt d σ.N=true) (ho:o.op=.binOp op t x y t') (hx:σ.ev x=.sc u1) (hy:σ.ev y=.sc u2)
    (h:∀ w,(do eqGuard op t x y u1 u2; binOp op t u1 u2:Sem Value).run P w=.ok v w):OpStep P B o σ (σ.put d (.sc v)):=A7x hd (blt hN) ho hx hy h
theorem X4 {o:Oper} {d:Nat} {op:UnOp} {t:TypeId} {x:Operand} {u v:Value} (hd:o.dst=some d) (hN:Nat.blt d σ.N=true) (ho:o.op=.unOp op t x) (hx:σ.ev x=.sc u)
    (h:∀ w,(Op.unary op u).run P w=.ok v w):OpStep P B o σ (σ.put d (.sc v)):=A8z hd (blt hN) ho hx h
theorem G8 {o:Oper} {d:Nat} {t t':TypeId} {x:Operand} {k k1 k2:IntKind} {n m:Int} (hd:o.dst=some d) (hN:Nat.blt d σ.N=true) (ho:o.op=.convert t t' x) (h1:P.underlying t=some (.int k1)) (h2:P.underlying t'=some (.int k2)) (hx:σ.ev x=.sc (.int k n)) (hm:k2.wrap n=m) :
    OpStep P B o σ (σ.put d (.sc (.int k2 m))):=hm ▸ A3E hd (blt hN) ho h1 h2 hx
theorem l0 {o:Oper} {d:Nat} {b:Builtin} {xs:List Operand} {ts:Array TypeId} {v:Value} {us:List Value} (hd:o.dst=some d) (hN:Nat.blt d σ.N=true) (ho:o.op=.call { callee:=.builtin b,args:=xs.toArray,argTypes:=ts })
    (hx:xs.map σ.ev=us.map .sc) (h:∀ cs w,(builtin b ts o.type cs us.toArray).run P w=.ok (.value v) w):OpStep P B o σ (σ.put d (.sc v)):=A4C hd (blt hN) ho hx h
theorem L6 {α:Type} {E:Enc α} {l:List α} {o:Oper} {d:Nat} {x:Operand} {t e:TypeId} (hd:o.dst=some d) (hN:Nat.blt d σ.N=true) (ho:o.op=.call { callee:=.builtin .len,args:=#[x],argTypes:=#[t] }) (ht:P.underlying t=some (.slice e)) (hx:A0Q σ x E l) :
    OpStep P B o σ (σ.put d (.sc (.int .i64 (l.length:Int)))):=A7D hd (blt hN) ho ht hx
theorem A2c {α:Type} {E:Enc α} {l:List α} {y:α} {o:Oper} {d:Nat} {x ix:Operand} {t e:TypeId} {ag:Bool} {n:Int} {k:IntKind} (hd:o.dst=some d) (hN:Nat.blt d σ.N=true) (ho:o.op=.indexAddr t x ix) (ht:P.underlying t=some (.slice e)) (hte:Ty P e ag E.sz) (hx:A0Q σ x E l)
    (hi:σ.ev ix=.sc (.int k n)) (h0:0 ≤ n) (hy:l[n.toNat]? = some y):OpStep P B o σ (σ.put d (.sem (PT (E.pv y)))):=A3m hd (blt hN) ho ht hte hx hi h0 hy
theorem A0N {args:List PV} (h:args.all N9=true):∀ p ∈ args,∀ vs,p ≠ .tup vs:=by
  intro p hp vs e
  have:=List.all_eq_true.1 h p hp
  subst e
  cases this
inductive Wk:PV → PV → Prop
  | rfl (p:PV):Wk p p
  | nil {α:Type} (E:Enc α):Wk (.sc (.slice none 0 0)) (.sem (SL E []))
  | any (p:PV):Wk p .any
inductive WkL:List PV → List PV → Prop
  | nil:WkL [] []
  | cons {p q:PV} {ps qs:List PV} (h:Wk p q) (hs:WkL ps qs):WkL (p :: ps) (q :: qs)
inductive WkA:PV → PV → Prop
  | one {p q:PV} (h:Wk p q):WkA p q
  | agg {ps qs:List PV} (h:WkL ps qs):WkA (.agg ps) (.agg qs)
inductive WkT:List PV → List PV → Prop
  | nil:WkT [] []
  | cons {p q:PV} {ps qs:List PV} (h:WkA p q) (hs:WkT ps qs):WkT (p :: ps) (q :: qs)
theorem WkL.refl (ps:List PV):WkL ps ps:=by
  induction ps with
  | nil=>exact .nil
  | cons p ps ih=>exact .cons (.rfl p) ih
theorem A6t {T:Nat → Option (Nat × Nat)} {g:Gh} {p q:PV} (h:Wk p q) {v:Value} (hr:K2 T g p v):K2 T g q v:=by
  cases h with
  | rfl=>exact hr
  | nil E=>obtain rfl:v=.slice none 0 0:=hr; exact m6 E g.imm
  | any=>trivial
theorem A1w {T:Nat → Option (Nat × Nat)} {g:Gh} {ps qs:List PV} (h:WkL ps qs):∀ {vs:List Value},H9 T g ps vs → H9 T g qs vs:=by
  induction h with
  | nil=>exact fun h=>h
  | cons h _ ih=>rintro vs ⟨v,vs',e,h1,h2,h3⟩; exact ⟨v,vs',e,A6t h h1,h2,ih h3⟩
theorem A4q {T:Nat → Option (Nat × Nat)} {g:Gh} {p q:PV} (h:WkA p q) {v:Value} (hr:X6 T g p v):X6 T g q v:=by
  cases h with
  | agg h=>obtain ⟨vs,e,hl⟩:=hr; exact ⟨vs,e,A1w h hl⟩
  | one h =>
    cases h with
    | rfl=>exact hr
    | nil E=>exact A6t (T:=T) (.nil E) hr
    | any=>trivial
theorem A4s {T:Nat → Option (Nat × Nat)} {g:Gh} {ps qs:List PV} (h:WkT ps qs):∀ {vs:List Value},m4 T g ps vs → m4 T g qs vs:=by
  induction h with
  | nil=>exact fun h=>h
  | cons h _ ih=>rintro vs ⟨v,vs',e,h1,h3⟩; exact ⟨v,vs',e,A4q h h1,ih h3⟩
theorem f9 {f:FuncId} {args args':List PV} {r:PV} (h:PF P f args' r) (hw:WkT args args'):PF P f args r:=
  fun imm w vs hok hargs=>h imm w vs hok (A4s hw hargs)
theorem I1 {o:Oper} {d:Nat} {f:FuncId} {fn:Func} {xs:List Operand} {ts:Array TypeId} {args:List PV} {r:PV} (hd:o.dst=some d) (hN:Nat.blt d σ.N=true) (ho:o.op=.call { callee:=.value (.func f),args:=xs.toArray,argTypes:=ts })
    (hf:P.funcs[f]? = some fn) (hn:(fn.name == "runtime.NumGoroutine")=false) (hbd:fn.body.isNone=false) (ha:xs.map (fun x=>(σ.ev x).strip)=args) (ht:args.all N9=true) (hc:r.clean=true) (h:PF P f args r):OpStep P B o σ (σ.put d r):=
  A7c hd (blt hN) ho hf hn hbd ha (A0N ht) hc h
theorem ret1 {x:ResultVar} {p r:PV} (h:T6 P σ x p) (he:r=p):A7W P [x] r .ret σ:=⟨he ▸ .one _ _ h,fun t hl=>absurd rfl hl⟩
theorem ret2 {x y:ResultVar} {p q r:PV} (h:T6 P σ x p) (h':T6 P σ y q) (hp:N9 p=true) (hq:N9 q=true) (he:r=.tup [p,q]):A7W P [x,y] r .ret σ:=
  ⟨he ▸ .two _ _ _ _ h h',fun t _ hm vs=>by
    rcases List.mem_cons.1 hm with e | hm
    · subst e; cases h with | tmp _ _ h=>rw [h]; intro e; subst e; cases hp
    · rcases List.mem_cons.1 hm with e | hm
      · subst e; cases h' with | tmp _ _ h=>rw [h]; intro e; subst e; cases hq
      · cases hm⟩
theorem ret3 {x y z:ResultVar} {p q s r:PV} (h:T6 P σ x p) (h':T6 P σ y q) (h'':T6 P σ z s) (hp:N9 p=true) (hq:N9 q=true) (hs:N9 s=true) (he:r=.tup [p,q,s]):A7W P [x,y,z] r .ret σ:=
  ⟨he ▸ .three _ _ _ _ _ _ h h' h'',fun t _ hm vs=>by
    rcases List.mem_cons.1 hm with e | hm
    · subst e; cases h with | tmp _ _ h=>rw [h]; intro e; subst e; cases hp
    · rcases List.mem_cons.1 hm with e | hm
      · subst e; cases h' with | tmp _ _ h=>rw [h]; intro e; subst e; cases hq
      · rcases List.mem_cons.1 hm with e | hm
        · subst e; cases h'' with | tmp _ _ h=>rw [h]; intro e; subst e; cases hs
        · cases hm⟩
end
end Go.Ab
