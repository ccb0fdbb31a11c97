import Derived.Test.YtadmpldpipagnaaGreatDoorAbRo
namespace Go.Ab
open Go.RowKit
set_option linter.unusedVariables false
set_option linter.unusedSimpArgs false
section
variable {P:Program} {B:Base} {σ:St}
theorem H3 {o:Oper} {d s off:Nat} {x:Operand} (hd:o.dst=some d) (hN:Nat.blt d σ.N=true) (ho:o.op=.nilCheck x) (hx:σ.ev x=.loc s off):OpStep P B o σ (σ.put d (.loc s off)):=
  K4 hd (blt hN) fun g a w hr=>by
    have h:=hr.ev x
    rw [hx] at h
    have h:a.eval x=.pointer (some ⟨g.β s,off,none⟩):=h
    exact ⟨_,by simp [execOp,ho,h,pure],rfl⟩
theorem g_nilCheckC {o:Oper} {d f:Nat} {ls:List (Option Nat)} {x:Operand} (hd:o.dst=some d) (hN:Nat.blt d σ.N=true) (ho:o.op=.nilCheck x) (hx:σ.ev x=.clo f ls):OpStep P B o σ (σ.put d (.clo f ls)):=
  K4 hd (blt hN) fun g a w hr=>by
    have h:=hr.ev x
    rw [hx] at h
    have h:a.eval x=.func (.func f) #[] (ls.map (cap g.β)).toArray:=h
    exact ⟨_,by simp [execOp,ho,h,pure],rfl⟩
theorem rem_run {P:Program} {t:TypeId} {k:IntKind} {m n:Int} {x y:Operand} (hn:n ≠ 0) (w:World):(do eqGuard .rem t x y (.int k m) (.int k n); binOp .rem t (.int k m) (.int k n):Sem Value).run P w=.ok (.int k (Int.tmod m n)) w:=by
  have:(n == 0)=false:=by simpa using hn
  simp [eqGuard,binOp,Op.intDiv,hn,F0,H7]
end
end Go.Ab
namespace Go.Ab
open Go.RowKit
set_option linter.unusedVariables false
set_option linter.unusedSimpArgs false
theorem gA {A B:Bool} {p q:PV} (h:A=true):cond (A && B) p q=cond B p q:=by subst h; rfl
theorem gB {A B:Bool} {p q:PV} (h:B=true):cond (A && B) p q=cond A p q:=by subst h; cases A <;> rfl
section
variable {P:Program} {B:Base} {Φ:Exit → St → Prop} {σ:St} {ops:Array Oper} {o og:Oper}
def Gd (σ:St) (ops:Array Oper) (o:Oper) (C:Bool):Prop:=
  ∃ j want og d v,o.guard=some (j,want) ∧ ops[j]? = some og ∧ og.dst=some d ∧ Nat.blt d σ.N=true ∧ σ.env d=.sc v ∧ (C=true → v=.bool want) ∧ (C=false → A5y want v=true)
theorem G6 {j d:Nat} {b:Bool} (hg:o.guard=some (j,true)) (hj:ops[j]? = some og) (hd:og.dst=some d) (hdn:Nat.blt d σ.N=true) (hb:σ.env d=.sc (.bool b)):Gd σ ops o b:=
  ⟨j,true,og,d,_,hg,hj,hd,hdn,hb,fun h=>by rw [h],fun h=>by rw [h]; rfl⟩
theorem H8 {j d:Nat} {b c:Bool} (hg:o.guard=some (j,false)) (hj:ops[j]? = some og) (hd:og.dst=some d) (hdn:Nat.blt d σ.N=true) (hb:σ.env d=.sc (.bool b)) (hc:(!b)=c):Gd σ ops o c:=by
  subst hc
  exact ⟨j,false,og,d,_,hg,hj,hd,hdn,hb,fun h=>by cases b <;> simp_all,fun h=>by cases b <;> first | rfl | simp_all⟩
theorem M3 {j d:Nat} {E y:Bool} (hg:o.guard=some (j,true)) (hj:ops[j]? = some og) (hd:og.dst=some d) (hdn:Nat.blt d σ.N=true) (hb:σ.env d=cond E (.sc (.bool y)) (.sc undef)):Gd σ ops o (E && y):=by
  cases E with
  | true=>exact ⟨j,true,og,d,_,hg,hj,hd,hdn,hb,fun h=>by rw [Bool.true_and] at h; rw [h],fun h=>by rw [Bool.true_and] at h; rw [h]; rfl⟩
  | false=>exact ⟨j,true,og,d,undef,hg,hj,hd,hdn,hb,fun h=>absurd h (by simp),fun _=>rfl⟩
theorem O6 {j d:Nat} {E y c:Bool} (hg:o.guard=some (j,false)) (hj:ops[j]? = some og) (hd:og.dst=some d) (hdn:Nat.blt d σ.N=true) (hb:σ.env d=cond E (.sc (.bool y)) (.sc undef)) (hc:(!y)=c):Gd σ ops o (E && c):=by
  subst hc
  cases E with
  | true=>exact ⟨j,false,og,d,_,hg,hj,hd,hdn,hb,fun h=>by cases y <;> simp_all,fun h=>by cases y <;> first | rfl | simp_all⟩
  | false=>exact ⟨j,false,og,d,undef,hg,hj,hd,hdn,hb,fun h=>absurd h (by simp),fun _=>rfl⟩
theorem E0 {l:List Oper} {t:Nat} {C:Bool} {p:PV} (h:Gd σ ops o C) (ho:o.dst=some t) (htn:Nat.blt t σ.N=true) (ht:C=true → OpStep P B o σ (σ.put t p)) (hk:AL P B ops Φ l (σ.put t (cond C p (.sc undef)))):AL P B ops Φ (o :: l) σ:=by
  obtain ⟨j,want,og,d,v,hg,hj,hd,hdn,hb,h1,h2⟩:=h
  cases C with
  | true=>exact A5P (b:=want) hg hj hd (by rw [hb,h1 rfl]) hdn rfl (ht rfl) hk
  | false=>exact A6n hg hj hd hb hdn (h2 rfl) ho htn hk
theorem gs_W {t:Nat} {C:Bool} {p:PV} (h:Gd σ ops o C) (ho:o.dst=some t) (htn:Nat.blt t σ.N=true) (ht:C=true → OpStep P B o σ (σ.put t p)):V7 P B ops o σ (σ.put t (cond C p (.sc undef))):=by
  obtain ⟨j,want,og,d,v,hg,hj,hd,hdn,hb,h1,h2⟩:=h
  cases C with
  | true =>
    intro g a w hr K Q hK
    have hy:=A0M (b:=want) hr hj hd (by rw [hb,h1 rfl]) (blt hdn)
    rw [if_pos (by simp [Region.wanted,hg,hy])]
    exact ht rfl g a w hr K Q hK
  | false=>exact A8Z hg hj hd hb hdn (h2 rfl) ho htn
theorem J1 {o:Oper} {d:Nat} {c x:Operand} {b y:Bool} (hd:o.dst=some d) (hN:Nat.blt d σ.N=true) (ho:o.op=.pick c x (.const (.bool false))) (hc:σ.ev c=.sc (.bool b)) (hx:σ.ev x=cond b (.sc (.bool y)) (.sc undef)):OpStep P B o σ (σ.put d (.sc (.bool (b && y)))):=
  Y5 hd (blt hN) ho hc (fun h=>by subst h; simpa using hx) (fun h=>by subst h; rfl)
theorem N5 {o:Oper} {d:Nat} {c x:Operand} {b y e:Bool} (hd:o.dst=some d) (hN:Nat.blt d σ.N=true) (ho:o.op=.pick c (.const (.bool true)) x) (hc:σ.ev c=.sc (.bool b)) (hx:σ.ev x=cond e (.sc (.bool y)) (.sc undef)) (he:(!b)=e):OpStep P B o σ (σ.put d (.sc (.bool (b || y)))):=by
  subst he
  exact Y5 hd (blt hN) ho hc (fun h=>by subst h; rfl) (fun h=>by subst h; simpa using hx)
theorem wkU {q:PV} {C:Bool} (h:C=true):cond C q (.sc undef)=q:=by subst h; rfl
end
end Go.Ab
namespace Go.Ab
theorem nT {b:Bool} (h:b=false):(!b)=true:=by subst h; rfl
theorem nF {b:Bool} (h:b=true):(!b)=false:=by subst h; rfl
theorem aF {a b:Bool} (h:a=false):(a && b)=false:=by subst h; rfl
theorem aG {a b:Bool} (h:b=false):(a && b)=false:=by subst h; cases a <;> rfl
end Go.Ab
namespace Go.Ab
theorem A7O {σ:St} {d:Nat} {p:PV} (h:σ.env d=p):σ.put d p=σ:=by
  refine St.ext' rfl (fun k=>?_) (fun _=>rfl) rfl
  show cond (Nat.beq k d) p (σ.env k)=σ.env k
  cases hq:Nat.beq k d with
  | true=>rw [Nat.eq_of_beq_eq_true hq,h]; rfl
  | false=>rfl
theorem A6r {P:Program} {B:Base} {Φ:Exit → St → Prop} {σ:St} {ops:Array Oper} {l:List Oper} {d:Nat} {p:PV} (h:σ.env d=p) (hk:AL P B ops Φ l (σ.put d p)):AL P B ops Φ l σ:=by rw [A7O h] at hk; exact hk
end Go.Ab
