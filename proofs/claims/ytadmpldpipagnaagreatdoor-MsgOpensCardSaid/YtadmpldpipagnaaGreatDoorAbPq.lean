import Derived.Test.YtadmpldpipagnaaGreatDoorAbPl
namespace Go.Ab
open Go.RowKit
set_option linter.unusedVariables false
set_option linter.unusedSimpArgs false
theorem andL {a b:Bool} (h:(a && b)=true):a=true:=by cases a <;> simp_all
theorem andR {a b:Bool} (h:(a && b)=true):b=true:=by cases a <;> simp_all
theorem orL {a b:Bool} (h:(a || b)=false):a=false:=by cases a <;> simp_all
theorem orR {a b:Bool} (h:(a || b)=false):b=false:=by cases a <;> simp_all
theorem A1r (s:Nat) (p:PV):(p.kill1 s).nl1 s=true:=by
  cases p with
  | loc s' off =>
    simp only [PV.kill1]
    cases h:Nat.beq s' s with
    | true=>rfl
    | false=>simp [PV.nl1,h]
  | clo f ls =>
    simp only [PV.kill1]
    cases h:ls.any (A3W s) with
    | true=>rfl
    | false=>simp only [cond_false,PV.nl1,h]; rfl
  | arr s' o n c =>
    simp only [PV.kill1]
    cases h:Nat.beq s' s with
    | true=>rfl
    | false=>simp [PV.nl1,h]
  | _=>rfl
theorem A7t (s s':Nat) {p:PV} (h:p.nl1 s=true):(p.kill1 s').nl1 s=true:=by
  cases p with
  | loc s2 off =>
    simp only [PV.kill1]
    cases Nat.beq s2 s' with
    | true=>rfl
    | false=>exact h
  | clo f ls =>
    simp only [PV.kill1]
    cases ls.any (A3W s') with
    | true=>rfl
    | false=>exact h
  | arr s2 o n c =>
    simp only [PV.kill1]
    cases Nat.beq s2 s' with
    | true=>rfl
    | false=>exact h
  | _=>exact h
theorem A2V (s:Nat) (ps:List PV):(ps.map (PV.kill1 s)).all (PV.nl1 s)=true:=by
  rw [List.all_eq_true]
  intro x hx
  obtain ⟨y,_,rfl⟩:=List.mem_map.1 hx
  exact A1r s y
theorem A4T (s s':Nat) {ps:List PV} (h:ps.all (PV.nl1 s)=true):(ps.map (PV.kill1 s')).all (PV.nl1 s)=true:=by
  rw [List.all_eq_true] at h ⊢
  intro x hx
  obtain ⟨y,hy,rfl⟩:=List.mem_map.1 hx
  exact A7t s s' (h y hy)
theorem s7 (s:Nat) (p:PV):(p.kill2 s).nl2 s=true:=by
  cases p with
  | agg cs=>exact A2V s cs
  | loc s' off =>
    have:=A1r s (.loc s' off)
    show ((PV.loc s' off).kill1 s).nl2 s=true
    simp only [PV.kill1] at this ⊢
    cases h:Nat.beq s' s with
    | true=>rfl
    | false=>rw [h] at this; exact this
  | arr s' o n c =>
    have:=A1r s (.arr s' o n c)
    show ((PV.arr s' o n c).kill1 s).nl2 s=true
    simp only [PV.kill1] at this ⊢
    cases h:Nat.beq s' s with
    | true=>rfl
    | false=>rw [h] at this; exact this
  | clo f ls =>
    have:=A1r s (.clo f ls)
    show ((PV.clo f ls).kill1 s).nl2 s=true
    simp only [PV.kill1] at this ⊢
    cases h:ls.any (A3W s) with
    | true=>rfl
    | false=>rw [h] at this; exact this
  | _=>rfl
theorem A4U (s s':Nat) {p:PV} (h:p.nl2 s=true):(p.kill2 s').nl2 s=true:=by
  cases p with
  | agg cs=>exact A4T s s' h
  | loc s2 off =>
    show ((PV.loc s2 off).kill1 s').nl2 s=true
    simp only [PV.kill1]
    cases Nat.beq s2 s' with
    | true=>rfl
    | false=>exact h
  | arr s2 o n c =>
    show ((PV.arr s2 o n c).kill1 s').nl2 s=true
    simp only [PV.kill1]
    cases Nat.beq s2 s' with
    | true=>rfl
    | false=>exact h
  | clo f ls =>
    show ((PV.clo f ls).kill1 s').nl2 s=true
    simp only [PV.kill1]
    cases ls.any (A3W s') with
    | true=>rfl
    | false=>exact h
  | _=>exact h
theorem A8d (s:Nat) (p:PV):(p.kill s).nl s=true:=by
  cases p with
  | tup vs =>
    show (vs.map (PV.kill2 s)).all (PV.nl2 s)=true
    rw [List.all_eq_true]
    intro x hx
    obtain ⟨y,_,rfl⟩:=List.mem_map.1 hx
    exact s7 s y
  | agg cs=>exact s7 s (.agg cs)
  | loc s' off =>
    have:=s7 s (.loc s' off)
    show ((PV.loc s' off).kill1 s).nl s=true
    have h2:((PV.loc s' off).kill1 s).nl2 s=true:=this
    simp only [PV.kill1] at h2 ⊢
    cases h:Nat.beq s' s with
    | true=>rfl
    | false=>rw [h] at h2; exact h2
  | arr s' o n c =>
    have:=s7 s (.arr s' o n c)
    show ((PV.arr s' o n c).kill1 s).nl s=true
    have h2:((PV.arr s' o n c).kill1 s).nl2 s=true:=this
    simp only [PV.kill1] at h2 ⊢
    cases h:Nat.beq s' s with
    | true=>rfl
    | false=>rw [h] at h2; exact h2
  | clo f ls =>
    have:=s7 s (.clo f ls)
    show ((PV.clo f ls).kill1 s).nl s=true
    have h2:((PV.clo f ls).kill1 s).nl2 s=true:=this
    simp only [PV.kill1] at h2 ⊢
    cases h:ls.any (A3W s) with
    | true=>rfl
    | false=>rw [h] at h2; exact h2
  | _=>rfl
theorem A7Z (s s':Nat) {p:PV} (h:p.nl s=true):(p.kill s').nl s=true:=by
  cases p with
  | tup vs =>
    show (vs.map (PV.kill2 s')).all (PV.nl2 s)=true
    have h:vs.all (PV.nl2 s)=true:=h
    rw [List.all_eq_true] at h ⊢
    intro x hx
    obtain ⟨y,hy,rfl⟩:=List.mem_map.1 hx
    exact A4U s s' (h y hy)
  | agg cs=>exact A4U s s' (p:=.agg cs) h
  | loc s2 off =>
    show ((PV.loc s2 off).kill1 s').nl s=true
    simp only [PV.kill1]
    cases Nat.beq s2 s' with
    | true=>rfl
    | false=>exact h
  | arr s2 o n c =>
    show ((PV.arr s2 o n c).kill1 s').nl s=true
    simp only [PV.kill1]
    cases Nat.beq s2 s' with
    | true=>rfl
    | false=>exact h
  | clo f ls =>
    show ((PV.clo f ls).kill1 s').nl s=true
    simp only [PV.kill1]
    cases ls.any (A3W s') with
    | true=>rfl
    | false=>exact h
  | _=>exact h
structure St.Nl (σ:St) (s:Nat):Prop where
  env:∀ k,(σ.env k).nl s=true
  L:∀ s' qs,σ.L s'=some qs → qs.all (PV.nl1 s)=true
theorem St.fresh_L {σ:St} {s s':Nat} {ps':List PV} (h:(σ.fresh s).L s'=some ps'):s' ≠ s ∧ ∃ ps'',σ.L s'=some ps'' ∧ ps'=ps''.map (PV.kill1 s):=by
  simp only [St.fresh,St.setL,St.kill] at h
  cases hq:Nat.beq s' s with
  | true=>rw [hq] at h; cases h
  | false =>
    rw [hq] at h
    refine ⟨fun e=>by subst e; simp at hq,?_⟩
    cases hl:σ.L s' with
    | none=>rw [hl] at h; simp at h
    | some x=>rw [hl] at h; exact ⟨x,rfl,by simpa using h.symm⟩
theorem St.Nl.same (σ:St) (s:Nat):(σ.fresh s).Nl s:=
  ⟨fun k=>A8d s _,fun s' qs h=>by obtain ⟨_,ps,_,rfl⟩:=St.fresh_L h; exact A2V s ps⟩
theorem St.Nl.keep {σ:St} {s:Nat} (h:σ.Nl s) (s':Nat):(σ.fresh s').Nl s:=
  ⟨fun k=>A7Z s s' (h.env k),fun s2 qs hq=>by obtain ⟨_,ps,h1,rfl⟩:=St.fresh_L hq; exact A4T s s' (h.L s2 ps h1)⟩
theorem A5F {s:Nat}:∀ (l:List (Nat × Nat × List PV)) (σ:St),(σ.Nl s ∨ ∃ x ∈ l,x.2.1=s) → (l.foldl (fun σ x=>σ.fresh x.2.1) σ).Nl s
  | [],σ,h=>h.elim id (fun ⟨x,hx,_⟩=>by cases hx)
  | x :: l,σ,h=>by
    refine A5F l _ ?_
    rcases h with h | ⟨y,hy,hys⟩
    · exact .inl (h.keep _)
    · rcases List.mem_cons.1 hy with rfl | hy
      · exact .inl (hys ▸ St.Nl.same σ y.2.1)
      · exact .inr ⟨y,hy,hys⟩
theorem A0S {s:Nat}:∀ (l:List (Nat × Nat × List PV)) (σ:St),(σ.L s=none ∨ ∃ x ∈ l,x.2.1=s) → (l.foldl (fun σ x=>σ.fresh x.2.1) σ).L s=none
  | [],σ,h=>h.elim id (fun ⟨x,hx,_⟩=>by cases hx)
  | x :: l,σ,h=>by
    refine A0S l _ ?_
    rcases h with h | ⟨y,hy,hys⟩
    · refine .inl ?_
      simp only [St.fresh,St.setL,St.kill,h]
      cases Nat.beq s x.2.1 <;> rfl
    · rcases List.mem_cons.1 hy with rfl | hy
      · exact .inl (by simp [St.fresh,St.setL,hys])
      · exact .inr ⟨y,hy,hys⟩
theorem A0U:∀ {l:List (Nat × Nat × List PV)} {s i:Nat} {ps:List PV},alF l s=some (i,ps) → (i,s,ps) ∈ l
  | [],s,i,ps,h=>by cases h
  | (i',s',ps') :: r,s,i,ps,h=>by
    simp only [alF] at h
    cases hq:Nat.beq s' s with
    | true =>
      rw [hq] at h
      simp at h
      obtain ⟨rfl,rfl⟩:=h
      rw [Nat.eq_of_beq_eq_true hq]
      simp
    | false=>rw [hq] at h; exact List.mem_cons_of_mem _ (A0U h)
theorem A8t:∀ {l:List (Nat × Nat × Nat × List PV)} {s i off:Nat} {ps:List PV},stF l s=some (i,off,ps) → (i,s,off,ps) ∈ l
  | [],s,i,off,ps,h=>by cases h
  | (i',s',off',ps') :: r,s,i,off,ps,h=>by
    simp only [stF] at h
    cases hq:Nat.beq s' s with
    | true =>
      rw [hq] at h
      simp at h
      obtain ⟨rfl,rfl,rfl⟩:=h
      rw [Nat.eq_of_beq_eq_true hq]
      simp
    | false=>rw [hq] at h; exact List.mem_cons_of_mem _ (A8t h)
def A1P (P:Program) (B:Base) (ops:Array Oper) (S:(Nat → Bool) → St):List Oper → Nat → Prop
  | [],_=>True
  | o :: l,i=>(∀ b,M6 ops b → b i=false → (∀ k ∈ N4 o,b k=true) → V7 P B ops o (S b) (S (up b i))) ∧ A1P P B ops S l (i + 1)
theorem m7 {P:Program} {B:Base} {ops:Array Oper} {S:(Nat → Bool) → St}:∀ {l:List Oper} {n:Nat},A1P P B ops S l n → ∀ i o,l[i]? = some o → ∀ b,M6 ops b → b (n + i)=false → (∀ k ∈ N4 o,b k=true) → V7 P B ops o (S b) (S (up b (n + i)))
  | [],n,_,i,o,h=>by simp at h
  | o' :: l,n,h,0,o,ho=>by
    obtain rfl:o'=o:=by simpa using ho
    exact h.1
  | o' :: l,n,h,i + 1,o,ho=>by
    have:=m7 h.2 i o (by simpa using ho)
    rw [show n + 1 + i=n + (i + 1) by omega] at this
    exact this
section
variable {P:Program} {B:Base} {Φ:Exit → St → Prop} {σ:St} {l:List Oper}
theorem Q5 {id:Nat} (π:F3) (hm:P.follows .mixedOrders=true) (hback:A0A l.toArray=true) (hn:π.ds.length=l.length) (hi:(π.al.map (·.1) ++ π.st.map (·.1)).all (Nat.blt · l.length)=true)
    (hs:A1P P B l.toArray (π.S (π.base σ)) l 0) (hend:∀ b,(∀ i,b i=true) → Φ .normal (π.S (π.base σ) b)):AW P B (.region id l.toArray true) Φ σ:=
  j8 (π.S (π.base σ)) hm hback (F3.start (by simpa using hn) (by simpa using hi) (fun s i ps h=>A0S _ _ (.inr ⟨_,A0U h,rfl⟩)))
    (fun i o ho b=>by
      have:=m7 hs i o (by simpa using ho) b
      simpa using this) hend
theorem A8g {l:List (Nat × Nat × Nat × List PV)} {k:Nat} {x:Nat × Nat × Nat × List PV} (h:l[k]? = some x):l=l.take k ++ x :: l.drop (k + 1):=by
  obtain ⟨h1,h2⟩:=List.getElem?_eq_some_iff.1 h
  rw [← h2,List.getElem_cons_drop,List.take_append_drop]
def A7m (ops:Array Oper) (i s:Nat) (l:List (Nat × Nat × Nat × List PV)):Bool:=l.all fun x=>!(Nat.beq x.2.1 s) || (match ops[x.1]? with | some o=>(N4 o).contains i | none=>false)
theorem A3h {ops:Array Oper} {b:Nat → Bool} {i s:Nat} {l:List (Nat × Nat × Nat × List PV)} (h:A7m ops i s l=true) (hcl:M6 ops b) (hb:b i=false):∀ x ∈ l,x.2.1=s → b x.1=false:=by
  intro x hx e
  have:=List.all_eq_true.1 h x hx
  rw [e,Nat.beq_refl,Bool.not_true,Bool.false_or] at this
  cases hj:ops[x.1]? with
  | none=>rw [hj] at this; cases this
  | some oj =>
    rw [hj] at this
    cases hbj:b x.1 with
    | false=>rfl
    | true =>
      have:=hcl x.1 oj hj hbj i (by simpa using this)
      rw [hb] at this
      cases this
theorem L5 {ops:Array Oper} {o:Oper} {π:F3} {b:Nat → Bool} {i s off n:Nat} {t:TypeId} {x y:Operand} {ag:Bool} {ps0 ps qs:List PV} {p:PV} (k:Nat) (hcl:M6 ops b) (hd':∀ k ∈ N4 o,b k=true) (hg:o.guard=none) (hd:o.dst=none) (ho:o.op=.store t x y) (ht:Ty P t ag n) (hx:(π.S σ b).ev x=.loc s off) (hy:(π.S σ b).ev y=p)
    (hL0:π.L0 σ b s=some ps0) (hearly:(π.st.take k).all (fun x=>!(Nat.beq x.2.1 s) || (N4 o).contains x.1)=true) (hcalc:stL (fun _=>true) s (π.st.take k) (some ps0)=some ps)
    (hk:p.okCells=true) (hc:p.cellsP.length=n) (hn:Nat.ble (off + n) ps.length=true) (hs:π.st[k]? = some (i,s,off,qs)) (hpq:p.cellsP=qs) (hb:b i=false) (hds:π.ds[i]? = some none) (hal:(π.al.map (·.1)).contains i=false)
    (hone:(π.st.take k ++ π.st.drop (k + 1)).all (fun x=>!(Nat.beq x.1 i))=true) (hlate:A7m ops i s (π.st.drop (k + 1))=true):V7 P B ops o (π.S σ b) (π.S σ (up b i)):=by
  subst hpq
  have late:=A3h hlate hcl hb
  have hsp:=A8g hs
  have hL:(π.S σ b).L s=some ps:=by
    show stL b s π.st (π.L0 σ b s)=some ps
    rw [hsp,A4n,hL0]
    have e1:stL b s (π.st.take k) (some ps0)=some ps:=by
      rw [← hcalc]
      refine U5 _ _ fun x hx e=>?_
      have:=List.all_eq_true.1 hearly x hx
      rw [e,Nat.beq_refl,Bool.not_true,Bool.false_or] at this
      exact hd' _ (by simpa using this)
    rw [e1]
    simp only [stL,Nat.beq_refl,cond_true,hb,cond_false,Option.map_some]
    exact f0 _ _ late
  rw [← F3.store hsp hL hb rfl hds hal (fun x hx e=>by
    have:=List.all_eq_true.1 hone x hx
    subst e
    simp at this) late]
  exact C1 hg (G5 hd ho ht hx hy hL hk hc hn rfl)
theorem A3s {π:F3} {σ:St} {b:Nat → Bool} {s k:Nat} {ps:List PV} (ha:alF π.al s=some (k,ps)) (hk:b k=true):π.L0 σ b s=some ps:=by
  simp [F3.L0,ha,hk]
theorem K3 {π:F3} {σ:St} {b:Nat → Bool} {s:Nat} {ps:List PV} (ha:alF π.al s=none) (hL:σ.L s=some ps):π.L0 σ b s=some ps:=by
  simp [F3.L0,ha,hL]
theorem A5G {ops:Array Oper} {o:Oper} {π:F3} {σ0:St} {b:Nat → Bool} {i d s:Nat} {t:TypeId} {z:Value} {ps:List PV} (hback:A0A ops=true) (hcl:M6 ops b) (hb:b i=false) (hg:o.guard=none) (hd:o.dst=some d) (hN:Nat.blt d σ0.N=true) (ho:o.op=.alloc t) (hp:B.pin s=none)
    (hz:(P.info? t).map (·.zero)=some (some z)) (h1:z.cells.toList.all (·.oneCell')=true) (hq:(z.cells.toList.map PV.sc).map (PV.kill1 s)=ps)
    (hNb:(π.base σ0).N=σ0.N) (ha:alF π.al s=some (i,ps)) (hwd:wrF π.ds d 0=some i) (hpi:π.p i=.loc s 0) (hone:π.al.all (fun x=>!(Nat.beq x.1 i) || Nat.beq x.2.1 s)=true) (hst:(π.st.map (·.1)).contains i=false)
    (hal:π.al.all (fun x=>x.2.2.all (PV.nl1 s))=true) (hstq:π.st.all (fun x=>x.2.2.2.all (PV.nl1 s))=true)
    (hsn:A7m ops i s π.st=true)
    (hmen:(List.range ops.size).all (fun j=>(π.p j).nl s || Nat.beq j i || match ops[j]? with | some o=>(N4 o).any fun k=>!(π.p k).nl s | none=>false)=true) (hn:Nat.beq π.ds.length ops.size=true):V7 P B ops o (π.S (π.base σ0) b) (π.S (π.base σ0) (up b i)):=by
  have hN1:Nat.blt d (π.S (π.base σ0) b).N=true:=by
    show Nat.blt d (π.base σ0).N=true
    rw [hNb]; exact hN
  have nl:(π.base σ0).Nl s:=A5F _ _ (.inr ⟨_,A0U ha,rfl⟩)
  have hps:ps.all (PV.nl1 s)=true:=by rw [← hq]; exact A2V s _
  rw [← F3.alloc hback hcl hb ha hwd hpi hps (fun s' ps' hne h=>by
    have:=List.all_eq_true.1 hone _ (A0U h)
    simp at this
    exact hne this) hst nl.env nl.L hal hstq (A3h hsn hcl hb) hmen (Nat.eq_of_beq_eq_true hn)]
  exact C1 hg (L2 hd hN1 ho hp hz h1 hq)
theorem A7B (π:F3) (σ:St):(π.base σ).N=σ.N:=by
  have:∀ (l:List (Nat × Nat × List PV)) (σ:St),(l.foldl (fun σ x=>σ.fresh x.2.1) σ).N=σ.N:=by
    intro l
    induction l with
    | nil=>exact fun _=>rfl
    | cons x l ih=>exact fun σ=>(ih _).trans rfl
  exact this _ _
end
theorem T9 {a0 b0:PV} (h0:a0=b0) : [a0.strip]=[b0.strip]:=by subst h0; rfl
theorem congrL1 {a0 b0:PV} (h0:a0=b0) : [a0]=[b0]:=by subst h0; rfl
theorem A3y {i0:Nat} {a0 b0:PV} (h0:a0=b0) : [(i0,a0)]=[(i0,b0)]:=by subst h0; rfl
theorem A6B {a0 a1 b0 b1:PV} (h0:a0=b0) (h1:a1=b1) : [a0.strip,a1.strip]=[b0.strip,b1.strip]:=by subst h0 h1; rfl
theorem A4N {a0 a1 b0 b1:PV} (h0:a0=b0) (h1:a1=b1) : [a0,a1]=[b0,b1]:=by subst h0 h1; rfl
theorem A7G {i0 i1:Nat} {a0 a1 b0 b1:PV} (h0:a0=b0) (h1:a1=b1) : [(i0,a0),(i1,a1)]=[(i0,b0),(i1,b1)]:=by subst h0 h1; rfl
theorem A8B {a0 a1 a2 b0 b1 b2:PV} (h0:a0=b0) (h1:a1=b1) (h2:a2=b2) : [a0.strip,a1.strip,a2.strip]=[b0.strip,b1.strip,b2.strip]:=by subst h0 h1 h2; rfl
theorem A8q {a0 a1 a2 b0 b1 b2:PV} (h0:a0=b0) (h1:a1=b1) (h2:a2=b2) : [a0,a1,a2]=[b0,b1,b2]:=by subst h0 h1 h2; rfl
theorem A9g {i0 i1 i2:Nat} {a0 a1 a2 b0 b1 b2:PV} (h0:a0=b0) (h1:a1=b1) (h2:a2=b2) : [(i0,a0),(i1,a1),(i2,a2)]=[(i0,b0),(i1,b1),(i2,b2)]:=by subst h0 h1 h2; rfl
theorem congrS4 {a0 a1 a2 a3 b0 b1 b2 b3:PV} (h0:a0=b0) (h1:a1=b1) (h2:a2=b2) (h3:a3=b3) : [a0.strip,a1.strip,a2.strip,a3.strip]=[b0.strip,b1.strip,b2.strip,b3.strip]:=by subst h0 h1 h2 h3; rfl
theorem congrL4 {a0 a1 a2 a3 b0 b1 b2 b3:PV} (h0:a0=b0) (h1:a1=b1) (h2:a2=b2) (h3:a3=b3) : [a0,a1,a2,a3]=[b0,b1,b2,b3]:=by subst h0 h1 h2 h3; rfl
theorem congr4 {i0 i1 i2 i3:Nat} {a0 a1 a2 a3 b0 b1 b2 b3:PV} (h0:a0=b0) (h1:a1=b1) (h2:a2=b2) (h3:a3=b3) : [(i0,a0),(i1,a1),(i2,a2),(i3,a3)]=[(i0,b0),(i1,b1),(i2,b2),(i3,b3)]:=by subst h0 h1 h2 h3; rfl
theorem congrS5 {a0 a1 a2 a3 a4 b0 b1 b2 b3 b4:PV} (h0:a0=b0) (h1:a1=b1) (h2:a2=b2) (h3:a3=b3) (h4:a4=b4) : [a0.strip,a1.strip,a2.strip,a3.strip,a4.strip]=[b0.strip,b1.strip,b2.strip,b3.strip,b4.strip]:=by subst h0 h1 h2 h3 h4; rfl
theorem congrL5 {a0 a1 a2 a3 a4 b0 b1 b2 b3 b4:PV} (h0:a0=b0) (h1:a1=b1) (h2:a2=b2) (h3:a3=b3) (h4:a4=b4) : [a0,a1,a2,a3,a4]=[b0,b1,b2,b3,b4]:=by subst h0 h1 h2 h3 h4; rfl
theorem congr5 {i0 i1 i2 i3 i4:Nat} {a0 a1 a2 a3 a4 b0 b1 b2 b3 b4:PV} (h0:a0=b0) (h1:a1=b1) (h2:a2=b2) (h3:a3=b3) (h4:a4=b4) : [(i0,a0),(i1,a1),(i2,a2),(i3,a3),(i4,a4)]=[(i0,b0),(i1,b1),(i2,b2),(i3,b3),(i4,b4)]:=by subst h0 h1 h2 h3 h4; rfl
theorem congrS6 {a0 a1 a2 a3 a4 a5 b0 b1 b2 b3 b4 b5:PV} (h0:a0=b0) (h1:a1=b1) (h2:a2=b2) (h3:a3=b3) (h4:a4=b4) (h5:a5=b5) : [a0.strip,a1.strip,a2.strip,a3.strip,a4.strip,a5.strip]=[b0.strip,b1.strip,b2.strip,b3.strip,b4.strip,b5.strip]:=by subst h0 h1 h2 h3 h4 h5; rfl
theorem congrL6 {a0 a1 a2 a3 a4 a5 b0 b1 b2 b3 b4 b5:PV} (h0:a0=b0) (h1:a1=b1) (h2:a2=b2) (h3:a3=b3) (h4:a4=b4) (h5:a5=b5) : [a0,a1,a2,a3,a4,a5]=[b0,b1,b2,b3,b4,b5]:=by subst h0 h1 h2 h3 h4 h5; rfl
theorem congr6 {i0 i1 i2 i3 i4 i5:Nat} {a0 a1 a2 a3 a4 a5 b0 b1 b2 b3 b4 b5:PV} (h0:a0=b0) (h1:a1=b1) (h2:a2=b2) (h3:a3=b3) (h4:a4=b4) (h5:a5=b5) : [(i0,a0),(i1,a1),(i2,a2),(i3,a3),(i4,a4),(i5,a5)]=[(i0,b0),(i1,b1),(i2,b2),(i3,b3),(i4,b4),(i5,b5)]:=by subst h0 h1 h2 h3 h4 h5; rfl
theorem congrS7 {a0 a1 a2 a3 a4 a5 a6 b0 b1 b2 b3 b4 b5 b6:PV} (h0:a0=b0) (h1:a1=b1) (h2:a2=b2) (h3:a3=b3) (h4:a4=b4) (h5:a5=b5) (h6:a6=b6) : [a0.strip,a1.strip,a2.strip,a3.strip,a4.strip,a5.strip,a6.strip]=[b0.strip,b1.strip,b2.strip,b3.strip,b4.strip,b5.strip,b6.strip]:=by subst h0 h1 h2 h3 h4 h5 h6; rfl
theorem congrL7 {a0 a1 a2 a3 a4 a5 a6 b0 b1 b2 b3 b4 b5 b6:PV} (h0:a0=b0) (h1:a1=b1) (h2:a2=b2) (h3:a3=b3) (h4:a4=b4) (h5:a5=b5) (h6:a6=b6) : [a0,a1,a2,a3,a4,a5,a6]=[b0,b1,b2,b3,b4,b5,b6]:=by subst h0 h1 h2 h3 h4 h5 h6; rfl
theorem congr7 {i0 i1 i2 i3 i4 i5 i6:Nat} {a0 a1 a2 a3 a4 a5 a6 b0 b1 b2 b3 b4 b5 b6:PV} (h0:a0=b0) (h1:a1=b1) (h2:a2=b2) (h3:a3=b3) (h4:a4=b4) (h5:a5=b5) (h6:a6=b6) : [(i0,a0),(i1,a1),(i2,a2),(i3,a3),(i4,a4),(i5,a5),(i6,a6)]=[(i0,b0),(i1,b1),(i2,b2),(i3,b3),(i4,b4),(i5,b5),(i6,b6)]:=by subst h0 h1 h2 h3 h4 h5 h6; rfl
inductive A3p (P:Program):List Field → List (Nat × Nat) → Prop
  | nil:A3p P [] []
  | cons {f:Field} {fs:List Field} {off n:Nat} {ag:Bool} {l:List (Nat × Nat)} (h:f.offset=off) (ht:Ty P f.type ag n) (hs:A3p P fs l):A3p P (f :: fs) ((off,n) :: l)
theorem A5X {P:Program} {fs:List Field} {l:List (Nat × Nat)} (h:A3p P fs l) (w:World):(fs.mapM (fun (f:Field)=>(do pure (f.offset,← sizeOf f.type):Sem (Nat × Nat)))).run P w=.ok l w:=by
  induction h with
  | nil=>rfl
  | cons h ht _ ih =>
    rw [List.mapM_cons,F0,F0,O4 ht]
    simp only [H7]
    rw [F0,ih]
    simp only [H7,h]
theorem A4R {P:Program} {t:TypeId} {fs:List Field} {z:Value} {places:List (Nat × Nat)} (hu:P.underlying t=some (.struct fs.toArray)) (hz:(P.info? t).map (·.zero)=some (some z)) (hp:A3p P fs places):Bld P t places z.cells.toList:=by
  intro parts w
  cases hi:P.info? t with
  | none=>rw [hi] at hz; simp at hz
  | some i =>
    rw [hi] at hz
    simp only [Option.map_some,Option.some.injEq] at hz
    have e1:(zeroValue t).run P w=.ok z w:=by
      simp [zeroValue,typeInfo,program,hi,hz,bind,Sem.bind,pure,Sem.run]
    have e2:(underlying t).run P w=.ok (.struct fs.toArray) w:=by
      simp [underlying,program,hu,bind,Sem.bind,pure,Sem.run]
    unfold Instr.build A8R
    rw [F0,e1]
    simp only []
    rw [F0,e2]
    simp only []
    have e3:(fs.toArray.mapM (fun (f:Field)=>(do pure (f.offset,← sizeOf f.type):Sem (Nat × Nat)))).run P w=.ok places.toArray w:=by
      rw [List.mapM_toArray]
      have e4:=F0 (P:=P) (fs.mapM (fun (f:Field)=>(do pure (f.offset,← sizeOf f.type):Sem (Nat × Nat)))) (fun l=>(pure l.toArray:Sem (Array (Nat × Nat)))) w
      rw [A5X hp] at e4
      exact e4
    rw [F0,e3]
    simp only [List.getElem?_toArray,Array.toArray_toList]
    cases Instr.fill (fun i=>places[i]?) z.cells parts.toList <;> rfl
def eI (k:IntKind):Enc Int:=⟨1,fun n=>[.sc (.int k n)],fun _=>rfl⟩
def eB:Enc Bool:=⟨1,fun n=>[.sc (.bool n)],fun _=>rfl⟩
def eS:Enc ByteArray:=⟨1,fun n=>[.sc (.string n)],fun _=>rfl⟩
def eL {α:Type} (E:Enc α):Enc (List α):=⟨1,fun n=>[.sem (SL E n)],fun _=>rfl⟩
end Go.Ab
