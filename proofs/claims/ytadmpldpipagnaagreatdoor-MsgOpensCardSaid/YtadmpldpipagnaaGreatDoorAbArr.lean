import Derived.Test.YtadmpldpipagnaaGreatDoorAbBit
namespace Go.Ab
open Go.RowKit
set_option linter.unusedVariables false
set_option linter.unusedSimpArgs false
section flat
variable {α:Type} {E:Enc α}
theorem A0k:∀ (l:List α) (n:Nat),(l.take n).flatMap E.pv=(l.flatMap E.pv).take (n * E.sz)
  | [],n=>by simp
  | x :: l,0=>by simp
  | x :: l,n + 1=>by rw [List.take_succ_cons,List.flatMap_cons,List.flatMap_cons,A0k l n,show (n + 1) * E.sz=E.sz + n * E.sz by rw [Nat.add_mul]; omega,← E.len x,List.take_length_add_append]
theorem A1z:∀ (l:List α) (n:Nat),(l.drop n).flatMap E.pv=(l.flatMap E.pv).drop (n * E.sz)
  | [],n=>by simp
  | x :: l,0=>by simp
  | x :: l,n + 1=>by rw [List.drop_succ_cons,A1z l n,List.flatMap_cons,show (n + 1) * E.sz=E.sz + n * E.sz by rw [Nat.add_mul]; omega,← E.len x,List.drop_length_add_append]
theorem A4L {l:List α} {i:Nat} {y:α} (h:l[i]? = some y):((l.flatMap E.pv).drop (i * E.sz)).take E.sz=E.pv y:=by
  have:=A0k (E:=E) (l.drop i) 1
  rw [A1z,Nat.one_mul] at this
  rw [← this]
  obtain ⟨h1,h2⟩:=List.getElem?_eq_some_iff.1 h
  rw [List.drop_eq_getElem_cons h1,h2]
  simp
theorem A5h {l:List α} {i:Nat} (y:α) (h:i < l.length):J8 (l.flatMap E.pv) (i * E.sz) (E.pv y)=(l.set i y).flatMap E.pv:=by
  unfold J8
  rw [E.len y,show i * E.sz + E.sz=(i + 1) * E.sz by rw [Nat.add_mul]; omega,← A0k,← A1z,List.set_eq_take_append_cons_drop,if_pos h]
  simp
theorem Z2 (l:List α):(l.flatMap E.pv).length=l.length * E.sz:=by
  induction l with
  | nil=>simp
  | cons x l ih=>rw [List.flatMap_cons,List.length_append,ih,E.len x,List.length_cons,Nat.add_mul]; omega
end flat
section
variable {P:Program} {B:Base} {σ:St} {Φ:Exit → St → Prop} {α:Type} {E:Enc α}
theorem A1j {o:Oper} {d s off n c off' sz:Nat} {x ix:Operand} {t e:TypeId} {ag:Bool} {k:IntKind} {i:Int} (hd:o.dst=some d) (hN:Nat.blt d σ.N=true) (ho:o.op=.indexAddr t x ix) (ht:P.underlying t=some (.slice e)) (hte:Ty P e ag sz) (hx:σ.ev x=.arr s off n c)
    (hi:σ.ev ix=.sc (.int k i)) (h0:0 ≤ i ∧ i < (n:Int)) (he:off + i.toNat * sz=off'):OpStep P B o σ (σ.put d (.loc s off')):=
  K4 hd (blt hN) fun g a w hr=>by
    subst he
    have h1:a.eval x=.slice (some ⟨g.β s,off,none⟩) n c:=by have:=hr.ev x; rw [hx] at this; exact this
    refine ⟨.pointer (some ⟨g.β s,off + i.toNat * sz,none⟩),?_,rfl⟩
    simp only [execOp,ho,h1,hr.ev_sc hi]
    rw [F0]
    have:(Instr.indexAt t (.slice (some ⟨g.β s,off,none⟩) n c) (.int k i)).run P w=.ok (.pointer (some ⟨g.β s,off + i.toNat * sz,none⟩)) w:=by
      have hc:(0 ≤ i ∧ i < (n:Int)):=h0
      simp only [Instr.indexAt,asIntOf,underlying,program]
      simp only [bind,Sem.bind,Sem.run,pure,ht,hc,and_self,if_true]
      have h9:=O4 (P:=P) hte w
      have h10:=F0 (P:=P) (sizeOf e) (fun z=>(pure (.pointer (some ((⟨g.β s,off,none⟩:Addr).add (i.toNat * z)))):Sem Value)) w
      rw [h9] at h10
      refine Eq.trans h10 ?_
      show Result.ok (Value.pointer (some ((⟨g.β s,off,none⟩:Addr).add (i.toNat * sz)))) w=_
      rw [Y6]
    rw [this]
    rfl
theorem g_ldArr {o:Oper} {d s off:Nat} {t:TypeId} {x:Operand} {ag:Bool} {l:List α} {y:α} {p:PV} (i:Nat) (hd:o.dst=some d) (hN:Nat.blt d σ.N=true) (ho:o.op=.load t x) (ht:Ty P t ag E.sz) (hx:σ.ev x=.loc s off) (hL:σ.L s=some (l.flatMap E.pv))
    (he:off=i * E.sz) (hi:l[i]? = some y) (h1:(ag || Nat.beq E.sz 1)=true) (hp:PV.ofCells ag (E.pv y)=p):OpStep P B o σ (σ.put d p):=by
  subst he
  exact A1F hd (blt hN) ho ht hx hL (by rw [A4L hi,E.len]) (or1 h1) (by rw [A4L hi]; exact hp)
theorem g_stArr {o:Oper} {s off:Nat} {t:TypeId} {x y:Operand} {ag:Bool} {l:List α} {z:α} {p:PV} (i:Nat) (hd:o.dst=none) (ho:o.op=.store t x y) (ht:Ty P t ag E.sz) (hx:σ.ev x=.loc s off) (hy:σ.ev y=p) (hL:σ.L s=some (l.flatMap E.pv))
    (he:off=i * E.sz) (hi:i < l.length) (hk:p.okCells=true) (hz:p.cellsP=E.pv z):OpStep P B o σ (σ.setL s (some ((l.set i z).flatMap E.pv))):=by
  subst he
  have:=A0I (P:=P) (B:=B) (σ:=σ) (p:=p) hd ho ht hx hy hL hk (by rw [hz,E.len]) (by
    rw [Z2]
    have:(i + 1) * E.sz ≤ l.length * E.sz:=Nat.mul_le_mul_right _ hi
    rw [Nat.add_mul] at this
    omega)
  rw [hz,A5h z hi] at this
  exact this
theorem g_lenArr {o:Oper} {d s off n c:Nat} {x:Operand} {t e:TypeId} (hd:o.dst=some d) (hN:Nat.blt d σ.N=true) (ho:o.op=.call { callee:=.builtin .len,args:=#[x],argTypes:=#[t] }) (ht:P.underlying t=some (.slice e)) (hx:σ.ev x=.arr s off n c) :
    OpStep P B o σ (σ.put d (.sc (.int .i64 (n:Int)))):=
  K4 hd (blt hN) fun g a w hr=>⟨_,by
    have h1:a.eval x=.slice (some ⟨g.β s,off,none⟩) n c:=by have:=hr.ev x; rw [hx] at this; exact this
    simp only [execOp,ho,resolve]
    rw [F0,H7]
    simp only [invoke,builtin,List.map_toArray,List.map_cons,List.map_nil,h1]
    rw [F0]
    have:(Builtin.len_ #[t] o.type #[Value.slice (some ⟨g.β s,off,none⟩) n c]).run P w=.ok (.int .i64 (n:Int)) w:=by
      simp [Builtin.len_,underlying,program,bind,Sem.bind,Sem.run,ht,pure,goInt]
    rw [this]
    rfl,rfl⟩
theorem Rel.freeze {g:Gh} {a:Act} {w:World} {s d n c:Nat} {l:List α} {ps:List PV} (hr:Rel B σ g a w) (hd:d < σ.N) (hx:σ.env d=.arr s 0 n c) (hn:n=l.length) (hL:σ.L s=some ps) (hpl:ps.take (l.length * E.sz)=l.flatMap E.pv) (hE:∀ x,(E.pv x).map PV.strip1=E.pv x) (hc:l.length ≤ c ∧ c ≤ 9223372036854775807) :
    ∃ g',Rel B (((σ.kill s).setL s none).put d (.sem (SL E l))) g' a w:=by
  subst hn
  obtain ⟨cs,ty,hb,hps0,hno,hown⟩:=hr.box s _ hL
  have hps:H9 σ.T g (l.flatMap E.pv) (cs.toList.take (l.length * E.sz)):=by rw [← hpl]; exact R5 _ hps0
  have hi1:Imm.le g.imm (K5 g.imm (g.β s) 0 (cs.toList.take (l.length * E.sz))):=U7 fun o _=>hno o
  have hv:a.tmps.getD d undef=.slice (some ⟨g.β s,0,none⟩) l.length c:=by have:=hr.env d; rw [hx] at this; exact this
  have flatE:(l.flatMap E.pv).map PV.strip1=l.flatMap E.pv:=by
    rw [List.map_flatMap]
    congr 1
    funext x
    exact hE x
  have hR:H9 noT (gh (K5 g.imm (g.β s) 0 (cs.toList.take (l.length * E.sz)))) (l.flatMap E.pv) (cs.toList.take (l.length * E.sz)):=by
    rw [← flatE]; exact A0R hi1 hps
  have hsl:(SL E l).holds (K5 g.imm (g.β s) 0 (cs.toList.take (l.length * E.sz))) (.slice (some ⟨g.β s,0,none⟩) l.length c):=
    U9 (E:=E) (l:=l) (b:=g.β s) (o:=0) (c:=c) hR (fun j u hu=>W4 hu) hc.1 hc.2
  have lt:g.β s < w.heap.size:=(Array.getElem?_eq_some_iff.1 hb).1
  have k1:∀ p v,K2 σ.T g p v → K2 σ.T { g with imm:=K5 g.imm (g.β s) 0 (cs.toList.take (l.length * E.sz)) } (p.kill1 s) v:=u9 hi1 (fun _ _=>rfl) rfl
  have other:∀ b,b ≠ g.β s → ∀ o,K5 g.imm (g.β s) 0 (cs.toList.take (l.length * E.sz)) b o=g.imm b o:=by
    intro b hb' o
    unfold K5
    rw [if_neg (fun h=>hb' h.1)]
  have live:∀ s' ps,((σ.kill s).setL s none).L s'=some ps → s' ≠ s ∧ ∃ ps0,σ.L s'=some ps0 ∧ ps=ps0.map (PV.kill1 s):=by
    intro s' ps h
    simp only [St.setL,St.kill] at h
    cases hq:Nat.beq s' s with
    | true=>rw [hq] at h; cases h
    | false =>
      rw [hq] at h
      refine ⟨fun e=>by subst e; simp at hq,?_⟩
      cases hl:σ.L s' with
      | none=>rw [hl] at h; simp at h
      | some x=>rw [hl] at h; exact ⟨x,rfl,by simpa using h.symm⟩
  refine ⟨{ g with imm:=K5 g.imm (g.β s) 0 (cs.toList.take (l.length * E.sz)) },?_⟩
  have key:Rel B ((σ.kill s).setL s none) { g with imm:=K5 g.imm (g.β s) 0 (cs.toList.take (l.length * E.sz)) } a w:=by
    refine { size:=hr.size,env:=?_,defers:=hr.defers,imm:=?_,box:=?_,apart:=?_,tip:=?_,tips:=hr.tips,boxtip:=?_,below:=hr.below,immle:=Imm.le_trans hr.immle hi1,immnew:=?_,pin:=hr.pin }
    · exact fun t=>A2T (g':={ g with imm:=K5 g.imm (g.β s) 0 (cs.toList.take (l.length * E.sz)) }) (s:=s) hi1 (fun _ _=>rfl) rfl (hr.env t)
    · intro b o v hv'
      simp only [K5] at hv'
      split at hv'
      · rename_i h
        obtain ⟨rfl,h1,h2⟩:=h
        rw [T1 hb]
        rw [List.getElem?_take] at hv'
        split at hv'
        · simpa using hv'
        · cases hv'
      · exact hr.imm b o v hv'
    · intro s' ps h
      obtain ⟨hne,ps0,h0,rfl⟩:=live s' ps h
      obtain ⟨cs',ty',h1,h2,h3,h4⟩:=hr.box s' ps0 h0
      exact ⟨cs',ty',h1,P7 k1 h2,fun o=>(other _ (hr.apart s' s _ _ h0 hL hne) o).trans (h3 o),h4⟩
    · intro s1 s2 p1 p2 h1 h2 hne
      obtain ⟨_,q1,e1,_⟩:=live s1 p1 h1
      obtain ⟨_,q2,e2,_⟩:=live s2 p2 h2
      exact hr.apart s1 s2 _ _ e1 e2 hne
    · intro t sz m b c' h1 h2
      obtain ⟨cs',ty',h3,h4,h5,h6,h7⟩:=hr.tip t sz m b c' h1 h2
      exact ⟨cs',ty',h3,h4,h5,fun o ho=>(other _ (fun e=>hr.boxtip s _ t _ b c' hL h1 h2 e.symm) o).trans (h6 o ho),h7⟩
    · intro s' ps t x b c' h h2 h3
      obtain ⟨_,q1,e1,_⟩:=live s' ps h
      exact hr.boxtip s' _ t x b c' e1 h2 h3
    · intro b o v hv'
      simp only [K5] at hv'
      split at hv'
      · rename_i h
        obtain ⟨rfl,h1,h2⟩:=h
        exact .inr hown
      · exact hr.immnew b o v hv'
  exact { key with
    env:=fun t=>by
      show Rep σ.T _ (cond (Nat.beq t d) (.sem (SL E l)) ((σ.kill s).env t)) _
      cases hq:Nat.beq t d with
      | true=>rw [Nat.eq_of_beq_eq_true hq,hv]; exact hsl
      | false=>exact key.env t }
theorem al_freeze {ops:Array Oper} {rest:List Oper} {s d n c:Nat} {l:List α} {ps:List PV} (hd:Nat.blt d σ.N=true) (hx:σ.env d=.arr s 0 n c) (hn:n=l.length) (hL:σ.L s=some ps) (hpl:ps.take (l.length * E.sz)=l.flatMap E.pv) (hE:∀ x,(E.pv x).map PV.strip1=E.pv x) (hc:l.length ≤ c ∧ c ≤ 9223372036854775807)
    (hk:AL P B ops Φ rest (((σ.kill s).setL s none).put d (.sem (SL E l)))):AL P B ops Φ rest σ:=fun g a w hr=>by
  obtain ⟨g',hr'⟩:=hr.freeze (blt hd) hx hn hL hpl hE hc
  exact hk g' a w hr'
theorem A1A {code:Code} {s d n c:Nat} {l:List α} {ps:List PV} (hd:Nat.blt d σ.N=true) (hx:σ.env d=.arr s 0 n c) (hn:n=l.length) (hL:σ.L s=some ps) (hpl:ps.take (l.length * E.sz)=l.flatMap E.pv) (hE:∀ x,(E.pv x).map PV.strip1=E.pv x) (hc:l.length ≤ c ∧ c ≤ 9223372036854775807)
    (hk:AW P B code Φ (((σ.kill s).setL s none).put d (.sem (SL E l)))):AW P B code Φ σ:=fun g a w hr=>by
  obtain ⟨g',hr'⟩:=hr.freeze (blt hd) hx hn hL hpl hE hc
  exact hk g' a w hr'
end
end Go.Ab
