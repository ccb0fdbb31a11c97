import Derived.Test.YtadmpldpipagnaaGreatDoorAbPq
import Derived.Laws.StructEq
namespace Go.Ab
open Go.RowKit
set_option linter.unusedVariables false
set_option linter.unusedSimpArgs false
theorem A5r {P:Program} {t n:Nat} {ag:Bool} (h4:Ty P t ag n) (vs:List Value) (off:Nat) (hle:off + n ≤ vs.length) (h1:ag=false → n=1) (w:World):(part t vs.toArray off).run P w=.ok (if ag then .agg ((vs.drop off).take n).toArray else ((vs.drop off).take n).headD undef) w:=by
  unfold part
  rw [F0,A1T h4]
  cases ag with
  | true =>
    simp only [if_true]
    rw [F0,O4 h4]
    simp only [H7]
    congr 2
    apply Array.ext'
    simp
  | false =>
    obtain rfl:=h1 rfl
    simp only [Bool.false_eq_true,if_false]
    have hlt:off < vs.length:=by omega
    simp only [List.getElem?_toArray,List.getElem?_eq_getElem hlt]
    rw [H7,List.drop_eq_getElem_cons hlt]
    rfl
section
variable {P:Program} {d:Nat} {t:TypeId} {w:World}
theorem eq_int {k:IntKind} {a b:Int} (hu:P.underlying t=some (.int k)):(Op.equalIn (d + 1) t (.int k a) (.int k b)).run P w=.ok (decide (a=b)) w:=by
  simp only [Op.equalIn,underlying,program]
  simp only [bind,Sem.bind,Sem.run,hu,pure,if_true]
  rfl
theorem A6x {a b:Bool} (hu:P.underlying t=some .bool):(Op.equalIn (d + 1) t (.bool a) (.bool b)).run P w=.ok (decide (a=b)) w:=by
  simp only [Op.equalIn,underlying,program]
  simp only [bind,Sem.bind,Sem.run,hu,pure]
  rfl
theorem eq_str {a b:ByteArray} (hu:P.underlying t=some .string):(Op.equalIn (d + 1) t (.string a) (.string b)).run P w=.ok (decide (a=b)) w:=by
  simp only [Op.equalIn,underlying,program]
  simp only [bind,Sem.bind,Sem.run,hu,pure]
  congr 1
  rw [Bool.eq_iff_iff,decide_eq_true_iff]
  cases a with
  | mk x=>cases b with
    | mk y=>exact (beq_iff_eq (a:=x) (b:=y)).trans ⟨fun h=>by rw [h],fun h=>by cases h; rfl⟩
theorem eqf_nil {xs ys:List Value}:(Op.eqFields d xs.toArray ys.toArray []).run P w=.ok true w:=by simp [Op.eqFields]
theorem eqf_c {f:Field} {fs:List Field} {xs ys:List Value} {off n:Nat} {ag:Bool} {a b:Value} {r s:Bool} (hn:(f.name == "_")=false) (ht:Ty P f.type ag n) (ho:f.offset=off) (hx:Nat.ble (off + n) xs.length=true) (hy:Nat.ble (off + n) ys.length=true) (h1:(ag || Nat.beq n 1)=true)
    (ha:(if ag then Value.agg ((xs.drop off).take n).toArray else ((xs.drop off).take n).headD undef)=a) (hb:(if ag then Value.agg ((ys.drop off).take n).toArray else ((ys.drop off).take n).headD undef)=b)
    (he:(Op.equalIn d f.type a b).run P w=.ok r w) (hr:(Op.eqFields d xs.toArray ys.toArray fs).run P w=.ok s w):(Op.eqFields d xs.toArray ys.toArray (f :: fs)).run P w=.ok (r && s) w:=by
  subst ho
  have hn':f.name ≠ "_":=by simpa using hn
  have p1:=A5r ht xs f.offset (Nat.le_of_ble_eq_true hx) (or1 h1) w
  have p2:=A5r ht ys f.offset (Nat.le_of_ble_eq_true hy) (or1 h1) w
  rw [ha] at p1
  rw [hb] at p2
  rw [Op.eqFields]
  simp only [if_pos hn']
  rw [F0,p1]
  simp only []
  rw [F0,p2]
  simp only []
  rw [F0,he]
  cases r
  · rfl
  · simpa using hr
theorem eq_struct {fs:List Field} {xs ys:List Value} {r r':Bool} (hu:P.underlying t=some (.struct fs.toArray)) (hp:P.stoodInHeld t=false) (h:(Op.eqFields d xs.toArray ys.toArray fs).run P w=.ok r w) (e:r=r'):(Op.equalIn (d + 1) t (.agg xs.toArray) (.agg ys.toArray)).run P w=.ok r' w:=by
  subst e
  have hf:P.fieldsOf t=fs.toArray:=by simp [Program.fieldsOf,hu]
  rw [run_equalIn_struct (P:=P) w d t xs.toArray ys.toArray (by rw [hf]; exact hu) hp,hf]
  exact h
end
theorem u4 {T:Nat → Option (Nat × Nat)} {g:Gh}:∀ {us vs:List Value},H9 T g (us.map PV.sc) vs → vs=us
  | [],vs,h=>h
  | u :: us,vs,⟨v,vs',e,h1,_,h3⟩=>by
    have h1:v=u:=h1
    rw [e,h1,u4 h3]
section
variable {P:Program} {B:Base} {σ:St}
theorem g_eqA {o:Oper} {d:Nat} {t t':TypeId} {x y:Operand} {us vs:List Value} {r:Bool} (hd:o.dst=some d) (hN:Nat.blt d σ.N=true) (ho:o.op=.binOp .eql t x y t') (hx:σ.ev x=.agg (us.map .sc)) (hy:σ.ev y=.agg (vs.map .sc))
    (hg:P.eqGuardType P.depth t=false) (h:∀ w,(Op.equalIn 10000 t (.agg us.toArray) (.agg vs.toArray)).run P w=.ok r w):OpStep P B o σ (σ.put d (.sc (.bool r))):=
  K4 hd (blt hN) fun g a w hr=>by
    have h1:=hr.ev x
    have h2:=hr.ev y
    rw [hx] at h1
    rw [hy] at h2
    obtain ⟨xs,e1,r1⟩:=A0a h1
    obtain ⟨ys,e2,r2⟩:=A0a h2
    obtain rfl:=u4 r1
    obtain rfl:=u4 r2
    refine ⟨.bool r,?_,rfl⟩
    have hgd:(eqGuard .eql t x y (.agg xs.toArray) (.agg ys.toArray)).run P w=.ok () w:=by
      simp [eqGuard,program,bind,Sem.bind,Sem.run,hg,pure]
    have hb:(binOp .eql t (.agg xs.toArray) (.agg ys.toArray)).run P w=.ok (.bool r) w:=by
      show (do pure (Value.bool (← Op.equal t (.agg xs.toArray) (.agg ys.toArray))):Sem Value).run P w=_
      have e3:=F0 (P:=P) (Op.equal t (.agg xs.toArray) (.agg ys.toArray)) (fun b=>(pure (.bool b):Sem Value)) w
      have e4:(Op.equal t (.agg xs.toArray) (.agg ys.toArray)).run P w=.ok r w:=h w
      rw [e4] at e3
      exact e3
    have hin:(do eqGuard .eql t x y (.agg xs.toArray) (.agg ys.toArray); binOp .eql t (.agg xs.toArray) (.agg ys.toArray):Sem Value).run P w=.ok (.bool r) w:=by
      rw [F0,hgd]
      exact hb
    simp only [execOp,ho,e1,e2]
    rw [F0,hin]
    rfl
theorem g_neA {o:Oper} {d:Nat} {t t':TypeId} {x y:Operand} {us vs:List Value} {r:Bool} (hd:o.dst=some d) (hN:Nat.blt d σ.N=true) (ho:o.op=.binOp .neq t x y t') (hx:σ.ev x=.agg (us.map .sc)) (hy:σ.ev y=.agg (vs.map .sc))
    (hg:P.eqGuardType P.depth t=false) (h:∀ w,(Op.equalIn 10000 t (.agg us.toArray) (.agg vs.toArray)).run P w=.ok r w):OpStep P B o σ (σ.put d (.sc (.bool (!r)))):=
  K4 hd (blt hN) fun g a w hr=>by
    have h1:=hr.ev x
    have h2:=hr.ev y
    rw [hx] at h1
    rw [hy] at h2
    obtain ⟨xs,e1,r1⟩:=A0a h1
    obtain ⟨ys,e2,r2⟩:=A0a h2
    obtain rfl:=u4 r1
    obtain rfl:=u4 r2
    refine ⟨.bool (!r),?_,rfl⟩
    have hgd:(eqGuard .neq t x y (.agg xs.toArray) (.agg ys.toArray)).run P w=.ok () w:=by
      simp [eqGuard,program,bind,Sem.bind,Sem.run,hg,pure]
    have hb:(binOp .neq t (.agg xs.toArray) (.agg ys.toArray)).run P w=.ok (.bool (!r)) w:=by
      show (do pure (Value.bool (!(← Op.equal t (.agg xs.toArray) (.agg ys.toArray)))):Sem Value).run P w=_
      have e3:=F0 (P:=P) (Op.equal t (.agg xs.toArray) (.agg ys.toArray)) (fun b=>(pure (.bool (!b)):Sem Value)) w
      have e4:(Op.equal t (.agg xs.toArray) (.agg ys.toArray)).run P w=.ok r w:=h w
      rw [e4] at e3
      exact e3
    have hin:(do eqGuard .neq t x y (.agg xs.toArray) (.agg ys.toArray); binOp .neq t (.agg xs.toArray) (.agg ys.toArray):Sem Value).run P w=.ok (.bool (!r)) w:=by
      rw [F0,hgd]
      exact hb
    simp only [execOp,ho,e1,e2]
    rw [F0,hin]
    rfl
theorem A8K {o:Oper} {d:Nat} {t t':TypeId} {x y:Operand} {a b:Bool} (hd:o.dst=some d) (hN:Nat.blt d σ.N=true) (ho:o.op=.binOp .eql t x y t') (hu:P.underlying t=some .bool) (hx:σ.ev x=.sc (.bool a)) (hy:σ.ev y=.sc (.bool b)):OpStep P B o σ (σ.put d (.sc (.bool (decide (a=b))))):=
  E6 hd hN ho hx hy fun w=>by
    have h1:(eqGuard .eql t x y (.bool a) (.bool b)).run P w=.ok () w:=by simp [eqGuard,pure,Sem.run]
    rw [F0,h1]
    show (do pure (Value.bool (← Op.equal t (.bool a) (.bool b))):Sem Value).run P w=_
    have e3:=F0 (P:=P) (Op.equal t (.bool a) (.bool b)) (fun b=>(pure (.bool b):Sem Value)) w
    have e4:(Op.equal t (.bool a) (.bool b)).run P w=.ok (decide (a=b)) w:=A6x (d:=9999) hu
    rw [e4] at e3
    exact e3
theorem g_neB {o:Oper} {d:Nat} {t t':TypeId} {x y:Operand} {a b:Bool} (hd:o.dst=some d) (hN:Nat.blt d σ.N=true) (ho:o.op=.binOp .neq t x y t') (hu:P.underlying t=some .bool) (hx:σ.ev x=.sc (.bool a)) (hy:σ.ev y=.sc (.bool b)):OpStep P B o σ (σ.put d (.sc (.bool (!decide (a=b))))):=
  E6 hd hN ho hx hy fun w=>by
    have h1:(eqGuard .neq t x y (.bool a) (.bool b)).run P w=.ok () w:=by simp [eqGuard,pure,Sem.run]
    rw [F0,h1]
    show (do pure (Value.bool (!(← Op.equal t (.bool a) (.bool b)))):Sem Value).run P w=_
    have e3:=F0 (P:=P) (Op.equal t (.bool a) (.bool b)) (fun b=>(pure (.bool (!b)):Sem Value)) w
    have e4:(Op.equal t (.bool a) (.bool b)).run P w=.ok (decide (a=b)) w:=A6x (d:=9999) hu
    rw [e4] at e3
    exact e3
end
end Go.Ab
