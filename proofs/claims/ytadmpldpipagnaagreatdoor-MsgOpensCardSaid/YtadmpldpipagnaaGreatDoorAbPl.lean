import Derived.Test.YtadmpldpipagnaaGreatDoorAbRg
namespace Go.Ab
open Go.RowKit
set_option linter.unusedVariables false
set_option linter.unusedSimpArgs false
structure F3 where
  ds:List (Option Nat)
  p:Nat → PV
  al:List (Nat × Nat × List PV)
  st:List (Nat × Nat × Nat × List PV)
def wrF:List (Option Nat) → Nat → Nat → Option Nat
  | [],_,_=>none
  | some d :: r,k,i=>bif Nat.beq d k then some i else wrF r k (i + 1)
  | none :: r,k,i=>wrF r k (i + 1)
def alF:List (Nat × Nat × List PV) → Nat → Option (Nat × List PV)
  | [],_=>none
  | (i,s,ps) :: r,s'=>bif Nat.beq s s' then some (i,ps) else alF r s'
def stF:List (Nat × Nat × Nat × List PV) → Nat → Option (Nat × Nat × List PV)
  | [],_=>none
  | (i,s,off,qs) :: r,s'=>bif Nat.beq s s' then some (i,off,qs) else stF r s'
def St.fresh (σ:St) (s:Nat):St:=(σ.kill s).setL s none
def F3.base (π:F3) (σ:St):St:=π.al.foldl (fun σ x=>σ.fresh x.2.1) σ
def stL (b:Nat → Bool) (s:Nat):List (Nat × Nat × Nat × List PV) → Option (List PV) → Option (List PV)
  | [],L=>L
  | (i,s',off,qs) :: r,L=>stL b s r (bif Nat.beq s' s then L.map (fun ps=>cond (b i) (J8 ps off qs) ps) else L)
theorem A7E {b:Nat → Bool} {s:Nat}:∀ l,stL b s l none=none
  | []=>rfl
  | (i,s',off,qs) :: r=>by
    simp only [stL]
    cases Nat.beq s' s <;> exact A7E r
theorem U5 {b c:Nat → Bool} {s:Nat}:∀ (l:List (Nat × Nat × Nat × List PV)) (L:Option (List PV)),(∀ x ∈ l,x.2.1=s → b x.1=c x.1) → stL b s l L=stL c s l L
  | [],_,_=>rfl
  | (i,s',off,qs) :: r,L,h=>by
    simp only [stL]
    cases hq:Nat.beq s' s with
    | false=>exact U5 r _ fun x hx=>h x (List.mem_cons_of_mem _ hx)
    | true =>
      rw [h (i,s',off,qs) (List.mem_cons_self ..) (Nat.eq_of_beq_eq_true hq)]
      exact U5 r _ fun x hx=>h x (List.mem_cons_of_mem _ hx)
theorem f0 {b:Nat → Bool} {s:Nat}:∀ (l:List (Nat × Nat × Nat × List PV)) (L:Option (List PV)),(∀ x ∈ l,x.2.1=s → b x.1=false) → stL b s l L=L
  | [],_,_=>rfl
  | (i,s',off,qs) :: r,L,h=>by
    simp only [stL]
    cases hq:Nat.beq s' s with
    | false=>exact f0 r _ fun x hx=>h x (List.mem_cons_of_mem _ hx)
    | true =>
      rw [h (i,s',off,qs) (List.mem_cons_self ..) (Nat.eq_of_beq_eq_true hq)]
      have:L.map (fun ps=>cond false (J8 ps off qs) ps)=L:=by cases L <;> rfl
      rw [cond_true,this]
      exact f0 r _ fun x hx=>h x (List.mem_cons_of_mem _ hx)
theorem A4n {b:Nat → Bool} {s:Nat}:∀ (l l':List (Nat × Nat × Nat × List PV)) (L:Option (List PV)),stL b s (l ++ l') L=stL b s l' (stL b s l L)
  | [],_,_=>rfl
  | (i,s',off,qs) :: r,l',L=>by simp only [List.cons_append,stL]; exact A4n r l' _
theorem A5g {b:Nat → Bool} {s:Nat} {R:List PV → Prop}:∀ (l:List (Nat × Nat × Nat × List PV)) (L:Option (List PV)),(∀ ps,L=some ps → R ps) → (∀ x ∈ l,∀ ps,R ps → R (J8 ps x.2.2.1 x.2.2.2)) → ∀ ps,stL b s l L=some ps → R ps
  | [],_,h,_,ps,e=>h ps e
  | (i,s',off,qs) :: r,L,h,hx,ps,e=>by
    simp only [stL] at e
    refine A5g r _ (fun ps' e'=>?_) (fun x hx'=>hx x (List.mem_cons_of_mem _ hx')) ps e
    cases hq:Nat.beq s' s with
    | false=>rw [hq] at e'; exact h ps' e'
    | true =>
      rw [hq,cond_true] at e'
      cases L with
      | none=>cases e'
      | some y =>
        simp only [Option.map_some,Option.some.injEq] at e'
        subst e'
        cases b i
        · exact h y rfl
        · exact hx _ (List.mem_cons_self ..) y (h y rfl)
def F3.L0 (π:F3) (σ:St) (b:Nat → Bool) (s:Nat):Option (List PV):=match alF π.al s with | some (i,ps)=>cond (b i) (some ps) none | none=>σ.L s
def F3.S (π:F3) (σ:St) (b:Nat → Bool):St:={ σ with
  env:=fun k=>match wrF π.ds k 0 with | some i=>cond (b i) (π.p i) (σ.env k) | none=>σ.env k
  L:=fun s=>stL b s π.st (π.L0 σ b s) }
theorem R1:∀ {ds:List (Option Nat)} {k n i:Nat},wrF ds k n=some i → n ≤ i ∧ ds[i - n]? = some (some k)
  | [],k,n,i,h=>by cases h
  | some d :: r,k,n,i,h=>by
    simp only [wrF] at h
    cases hq:Nat.beq d k with
    | true =>
      rw [hq] at h
      obtain rfl:n=i:=by simpa using h
      obtain rfl:=Nat.eq_of_beq_eq_true hq
      simp
    | false =>
      rw [hq] at h
      obtain ⟨h1,h2⟩:=R1 h
      refine ⟨by omega,?_⟩
      rw [show i - n=(i - (n + 1)) + 1 by omega]
      simpa using h2
  | none :: r,k,n,i,h=>by
    simp only [wrF] at h
    obtain ⟨h1,h2⟩:=R1 h
    refine ⟨by omega,?_⟩
    rw [show i - n=(i - (n + 1)) + 1 by omega]
    simpa using h2
theorem A0V:∀ {l:List (Nat × Nat × List PV)} {s i:Nat} {ps:List PV},alF l s=some (i,ps) → i ∈ l.map (·.1)
  | [],s,i,ps,h=>by cases h
  | (i',s',ps') :: r,s,i,ps,h=>by
    simp only [alF] at h
    cases hq:Nat.beq s' s with
    | true=>rw [hq] at h; simp at h; simp [h.1]
    | false=>rw [hq] at h; simp [A0V h]
theorem A7s:∀ {l:List (Nat × Nat × Nat × List PV)} {s i off:Nat} {ps:List PV},stF l s=some (i,off,ps) → i ∈ l.map (·.1)
  | [],s,i,off,ps,h=>by cases h
  | (i',s',off',ps') :: r,s,i,off,ps,h=>by
    simp only [stF] at h
    cases hq:Nat.beq s' s with
    | true=>rw [hq] at h; simp at h; simp [h.1]
    | false=>rw [hq] at h; simp [A7s h]
theorem St.ext' {σ τ:St} (h1:σ.N=τ.N) (h2:∀ k,σ.env k=τ.env k) (h3:∀ s,σ.L s=τ.L s) (h4:σ.T=τ.T):σ=τ:=by
  cases σ; cases τ
  simp at *
  exact ⟨h1,funext h2,funext h3,h4⟩
theorem A5T {l:List Nat} {i:Nat} (h:l.contains i=false) {j:Nat} (hj:j ∈ l):j ≠ i:=by
  intro e
  subst e
  have:l.contains j=true:=by simpa using hj
  rw [h] at this
  cases this
theorem F3.L0_up {π:F3} {σ:St} {b:Nat → Bool} {i:Nat} (h:(π.al.map (·.1)).contains i=false) (s:Nat):π.L0 σ (up b i) s=π.L0 σ b s:=by
  simp only [F3.L0]
  cases hq:alF π.al s with
  | none=>rfl
  | some x =>
    obtain ⟨i',ps⟩:=x
    simp only
    rw [T5 b (A5T h (A0V hq))]
theorem A7p {l l':List Nat} {i:Nat} (h:(l ++ l').contains i=false):l.contains i=false ∧ l'.contains i=false:=by
  rw [List.contains_eq_mem,decide_eq_false_iff_not,List.mem_append] at h
  simp only [List.contains_eq_mem,decide_eq_false_iff_not]
  exact ⟨fun e=>h (.inl e),fun e=>h (.inr e)⟩
theorem F3.L_up {π:F3} {σ:St} {b:Nat → Bool} {i:Nat} (h:(π.al.map (·.1) ++ π.st.map (·.1)).contains i=false) (s:Nat):(π.S σ (up b i)).L s=(π.S σ b).L s:=by
  obtain ⟨h1,h2⟩:=A7p h
  show stL (up b i) s π.st (π.L0 σ (up b i) s)=stL b s π.st (π.L0 σ b s)
  rw [F3.L0_up h1]
  exact U5 _ _ fun x hx _=>T5 b (A5T h2 (List.mem_map.2 ⟨x,hx,rfl⟩))
theorem F3.put {π:F3} {σ:St} {b:Nat → Bool} {i d:Nat} {q:PV} (hd:wrF π.ds d 0=some i) (hq:π.p i=q) (h:(π.al.map (·.1) ++ π.st.map (·.1)).contains i=false):(π.S σ b).put d q=π.S σ (up b i):=by
  subst hq
  refine St.ext' rfl (fun k=>?_) (fun s=>(F3.L_up h s).symm) rfl
  show cond (Nat.beq k d) (π.p i) (match wrF π.ds k 0 with | some i=>cond (b i) (π.p i) (σ.env k) | none=>σ.env k)=(match wrF π.ds k 0 with | some j=>cond (up b i j) (π.p j) (σ.env k) | none=>σ.env k)
  cases hq:Nat.beq k d with
  | true =>
    obtain rfl:=Nat.eq_of_beq_eq_true hq
    rw [hd]
    simp [Y1]
  | false =>
    cases hw:wrF π.ds k 0 with
    | none=>rfl
    | some j =>
      have:j ≠ i:=by
        intro e
        subst e
        have h1:=(R1 hd).2
        have h2:=(R1 hw).2
        rw [h1] at h2
        have:d=k:=by simpa using h2
        subst this
        simp at hq
      simp only [cond_false]
      rw [T5 b this]
theorem F3.putStep {P:Program} {B:Base} {ops:Array Oper} {o:Oper} {π:F3} {σ:St} {b:Nat → Bool} {i d:Nat} {q:PV} (hd:wrF π.ds d 0=some i) (hq:π.p i=q) (h:(π.al.map (·.1) ++ π.st.map (·.1)).contains i=false)
    (hs:V7 P B ops o (π.S σ b) ((π.S σ b).put d q)):V7 P B ops o (π.S σ b) (π.S σ (up b i)):=by
  rw [← F3.put hd hq h]
  exact hs
theorem F3.store {π:F3} {σ:St} {b:Nat → Bool} {i s off:Nat} {ps qs rs:List PV} {l1 l2:List (Nat × Nat × Nat × List PV)} (hs:π.st=l1 ++ (i,s,off,qs) :: l2) (hL:(π.S σ b).L s=some ps) (hb:b i=false) (hr:J8 ps off qs=rs)
    (hds:π.ds[i]? = some none) (hal:(π.al.map (·.1)).contains i=false) (hone:∀ x ∈ l1 ++ l2,x.1 ≠ i) (hlate:∀ x ∈ l2,x.2.1=s → b x.1=false):(π.S σ b).setL s (some rs)=π.S σ (up b i):=by
  subst hr
  refine St.ext' rfl (fun k=>?_) (fun s'=>?_) rfl
  · show (match wrF π.ds k 0 with | some i=>cond (b i) (π.p i) (σ.env k) | none=>σ.env k)=(match wrF π.ds k 0 with | some j=>cond (up b i j) (π.p j) (σ.env k) | none=>σ.env k)
    cases hw:wrF π.ds k 0 with
    | none=>rfl
    | some j =>
      have:j ≠ i:=by
        intro e
        subst e
        have h2:=(R1 hw).2
        simp only [Nat.sub_zero] at h2
        rw [hds] at h2
        cases h2
      simp only
      rw [T5 b this]
  · show cond (Nat.beq s' s) (some (J8 ps off qs)) ((π.S σ b).L s')=stL (up b i) s' π.st (π.L0 σ (up b i) s')
    have hL:stL b s π.st (π.L0 σ b s)=some ps:=hL
    rw [F3.L0_up hal]
    cases hq:Nat.beq s' s with
    | true =>
      obtain rfl:=Nat.eq_of_beq_eq_true hq
      rw [hs,A4n] at hL ⊢
      simp only [stL,hq,cond_true,hb,cond_false,Y1] at hL ⊢
      rw [f0 l2 _ hlate] at hL
      rw [f0 l2 _ (fun x hx e=>by rw [T5 b (hone x (List.mem_append_right _ hx))]; exact hlate x hx e)]
      rw [U5 (c:=b) l1 _ (fun x hx _=>T5 b (hone x (List.mem_append_left _ hx)))]
      revert hL
      generalize stL b s' l1 (π.L0 σ b s')=L1
      intro hL
      cases L1 with
      | none=>cases hL
      | some y =>
        obtain rfl:y=ps:=by simpa using hL
        rfl
    | false =>
      have hne:s' ≠ s:=by intro e; subst e; simp at hq
      show stL b s' π.st (π.L0 σ b s')=_
      refine U5 _ _ fun x hx e=>?_
      rw [hs] at hx
      rcases List.mem_append.1 hx with hx | hx
      · exact (T5 b (hone x (List.mem_append_left _ hx))).symm
      · rcases List.mem_cons.1 hx with rfl | hx
        · exact absurd e.symm hne
        · exact (T5 b (hone x (List.mem_append_right _ hx))).symm
def PV.nl1 (s:Nat):PV → Bool
  | .loc s' _=>!Nat.beq s' s
  | .clo _ ls=>!ls.any (A3W s)
  | .arr s' _ _ _=>!Nat.beq s' s
  | _=>true
def PV.nl2 (s:Nat):PV → Bool
  | .agg cs=>cs.all (PV.nl1 s)
  | p=>p.nl1 s
def PV.nl (s:Nat):PV → Bool
  | .tup vs=>vs.all (PV.nl2 s)
  | p=>p.nl2 s
theorem A0Z {s:Nat}:∀ {p:PV},p.nl1 s=true → p.kill1 s=p:=by
  intro p h
  cases p with
  | loc s' off =>
    simp only [PV.nl1,Bool.not_eq_true'] at h
    simp [PV.kill1,h]
  | clo f ls =>
    simp only [PV.nl1,Bool.not_eq_true'] at h
    simp only [PV.kill1,h,cond_false]
  | arr s' o n c =>
    simp only [PV.nl1,Bool.not_eq_true'] at h
    simp only [PV.kill1,h,cond_false]
  | _=>rfl
theorem A1X {α:Type} {f:α → α}:∀ {l:List α},(∀ x ∈ l,f x=x) → l.map f=l
  | [],_=>rfl
  | x :: l,h=>by rw [List.map_cons,h x (by simp),A1X (fun y hy=>h y (by simp [hy]))]
theorem A5i {s:Nat} {ps:List PV} (h:ps.all (PV.nl1 s)=true):ps.map (PV.kill1 s)=ps:=
  A1X fun x hx=>A0Z (List.all_eq_true.1 h x hx)
theorem u3 {s:Nat} {p:PV} (h:p.nl2 s=true):p.kill2 s=p:=by
  cases p with
  | agg cs=>show PV.agg (cs.map (PV.kill1 s))=.agg cs; rw [A5i h]
  | any=>rfl
  | sc v=>rfl
  | loc s' o=>exact A0Z (p:=.loc s' o) h
  | clo f ls=>exact A0Z (p:=.clo f ls) h
  | arr s' o n c=>exact A0Z (p:=.arr s' o n c) h
  | sem S=>rfl
  | own t n S=>rfl
  | tup vs=>rfl
theorem A8a {s:Nat} {p:PV} (h:p.nl s=true):p.kill s=p:=by
  cases p with
  | tup vs=>show PV.tup (vs.map (PV.kill2 s))=.tup vs; rw [A1X fun x hx=>u3 (List.all_eq_true.1 h x hx)]
  | any=>rfl
  | sc v=>rfl
  | loc s' o=>exact u3 (p:=.loc s' o) h
  | clo f ls=>exact u3 (p:=.clo f ls) h
  | arr s' o n c=>exact u3 (p:=.arr s' o n c) h
  | sem S=>rfl
  | own t n S=>rfl
  | agg cs=>exact u3 (p:=.agg cs) h
theorem Rel.fresh {B:Base} {σ:St} {g:Gh} {a:Act} {w:World} (hr:Rel B σ g a w) (s:Nat):Rel B (σ.fresh s) g a w:=by
  have k1:=@u9 σ.T g g s (Imm.le_refl _) (fun _ _=>rfl) rfl
  have live:∀ s' ps',(σ.fresh s).L s'=some ps' → ∃ ps'',σ.L s'=some ps'' ∧ ps'=ps''.map (PV.kill1 s):=by
    intro s' ps' h
    simp only [St.fresh,St.setL,St.kill] at h
    cases hq:Nat.beq s' s with
    | true=>rw [hq] at h; cases h
    | false =>
      rw [hq] at h
      cases hl:σ.L s' with
      | none=>rw [hl] at h; simp at h
      | some x=>rw [hl] at h; exact ⟨x,rfl,by simpa using h.symm⟩
  refine { hr with env:=?_,box:=?_,apart:=?_,boxtip:=?_ }
  · exact fun t=>@A2T σ.T g g s (Imm.le_refl _) (fun _ _=>rfl) rfl _ _ (hr.env t)
  · intro s' ps' h
    obtain ⟨ps'',h1,rfl⟩:=live s' ps' h
    obtain ⟨cs,ty,h2,h3,h4⟩:=hr.box s' ps'' h1
    exact ⟨cs,ty,h2,P7 k1 h3,h4⟩
  · intro s1 s2 p1 p2 h1 h2 hne
    obtain ⟨q1,h1,_⟩:=live _ _ h1
    obtain ⟨q2,h2,_⟩:=live _ _ h2
    exact hr.apart s1 s2 q1 q2 h1 h2 hne
  · intro s1 p1 t x b c h1 h2 h3
    obtain ⟨q1,h1,_⟩:=live _ _ h1
    exact hr.boxtip s1 q1 t x b c h1 h2 h3
theorem F3.start {B:Base} {π:F3} {σ:St} {ops:Array Oper} (hn:π.ds.length=ops.size) (hi:(π.al.map (·.1) ++ π.st.map (·.1)).all (Nat.blt · ops.size)=true) (hfr:∀ s i ps,alF π.al s=some (i,ps) → (π.base σ).L s=none) :
    ∀ b,(∀ i,i < ops.size → b i=false) → ∀ g a w,Rel B σ g a w → ∃ g',Rel B (π.S (π.base σ) b) g' a w:=by
  intro b hb g a w hr
  have h1:∀ (l:List (Nat × Nat × List PV)) (σ:St),Rel B σ g a w → Rel B (l.foldl (fun σ x=>σ.fresh x.2.1) σ) g a w:=by
    intro l
    induction l with
    | nil=>exact fun _ h=>h
    | cons x l ih=>exact fun σ h=>ih _ (h.fresh x.2.1)
  have h2:=h1 π.al σ hr
  have hlt:∀ i ∈ π.al.map (·.1) ++ π.st.map (·.1),b i=false:=fun i hm=>hb i (blt (List.all_eq_true.1 hi i hm))
  have:π.S (π.base σ) b=π.base σ:=by
    refine St.ext' rfl (fun k=>?_) (fun s=>?_) rfl
    · simp only [F3.S]
      cases hw:wrF π.ds k 0 with
      | none=>rfl
      | some i =>
        have h3:=(R1 hw).2
        have h4:=(List.getElem?_eq_some_iff.1 h3).1
        simp only
        rw [hb i (by omega)]
        rfl
    · show stL b s π.st (π.L0 (π.base σ) b s)=(π.base σ).L s
      rw [f0 _ _ (fun x hx _=>hlt x.1 (List.mem_append_right _ (List.mem_map.2 ⟨x,hx,rfl⟩)))]
      simp only [F3.L0]
      cases hq:alF π.al s with
      | none=>rfl
      | some x =>
        obtain ⟨i',ps⟩:=x
        simp only
        rw [hlt i' (List.mem_append_left _ (A0V hq)),hfr s i' ps hq]
        rfl
  exact ⟨g,by rw [this]; exact h2⟩
theorem F3.alloc {π:F3} {σ:St} {ops:Array Oper} {b:Nat → Bool} {i d s:Nat} {ps:List PV} (hback:A0A ops=true) (hcl:M6 ops b) (hb:b i=false)
    (ha:alF π.al s=some (i,ps)) (hd:wrF π.ds d 0=some i) (hp:π.p i=.loc s 0) (hps:ps.all (PV.nl1 s)=true)
    (hone:∀ s' ps',s' ≠ s → alF π.al s' ≠ some (i,ps')) (hst:(π.st.map (·.1)).contains i=false)
    (henv:∀ k,(σ.env k).nl s=true) (hL:∀ s' qs,σ.L s'=some qs → qs.all (PV.nl1 s)=true)
    (hal:π.al.all (fun x=>x.2.2.all (PV.nl1 s))=true) (hstq:π.st.all (fun x=>x.2.2.2.all (PV.nl1 s))=true)
    (hsn:∀ x ∈ π.st,x.2.1=s → b x.1=false)
    (hmen:(List.range ops.size).all (fun j=>(π.p j).nl s || Nat.beq j i || match ops[j]? with | some o=>(N4 o).any fun k=>!(π.p k).nl s | none=>false)=true) (hn:π.ds.length=ops.size) :
    ((((π.S σ b).kill s).setL s (some ps)).put d (.loc s 0))=π.S σ (up b i):=by
  have hno:∀ n j,j ≤ n → j < ops.size → (π.p j).nl s=false → b j=false:=by
    intro n
    induction n with
    | zero =>
      intro j hj hlt hf
      have h1:=List.all_eq_true.1 hmen j (List.mem_range.2 hlt)
      rw [hf,Array.getElem?_eq_getElem hlt] at h1
      simp only [Bool.false_or,Bool.or_eq_true] at h1
      rcases h1 with h1 | h1
      · rw [Nat.eq_of_beq_eq_true h1]; exact hb
      · obtain ⟨k,hk,_⟩:=List.any_eq_true.1 h1
        have:=W2 hback (Array.getElem?_eq_getElem hlt) k hk
        omega
    | succ n ih =>
      intro j hj hlt hf
      have h1:=List.all_eq_true.1 hmen j (List.mem_range.2 hlt)
      rw [hf,Array.getElem?_eq_getElem hlt] at h1
      simp only [Bool.false_or,Bool.or_eq_true] at h1
      rcases h1 with h1 | h1
      · rw [Nat.eq_of_beq_eq_true h1]; exact hb
      · obtain ⟨k,hk,hk2⟩:=List.any_eq_true.1 h1
        have hlt2:=W2 hback (Array.getElem?_eq_getElem hlt) k hk
        have h2:=ih k (by omega) (by omega) (by simpa using hk2)
        cases hbj:b j with
        | false=>rfl
        | true =>
          have:=hcl j _ (Array.getElem?_eq_getElem hlt) hbj k hk
          rw [h2] at this
          cases this
  have envnl:∀ k,((π.S σ b).env k).nl s=true:=by
    intro k
    simp only [F3.S]
    cases hw:wrF π.ds k 0 with
    | none=>exact henv k
    | some j =>
      have h4:=(List.getElem?_eq_some_iff.1 (R1 hw).2).1
      simp only
      cases hnl:(π.p j).nl s with
      | true=>cases b j <;> simp [hnl,henv k]
      | false=>rw [hno j j (Nat.le_refl _) (by omega) hnl]; exact henv k
  have allal:∀ s' j qs,alF π.al s'=some (j,qs) → qs.all (PV.nl1 s)=true:=by
    intro s' j qs h
    have key:∀ l:List (Nat × Nat × List PV),l.all (fun x=>x.2.2.all (PV.nl1 s))=true → alF l s'=some (j,qs) → qs.all (PV.nl1 s)=true:=by
      intro l
      induction l with
      | nil=>intro _ h; cases h
      | cons x l ih =>
        intro h1 h2
        simp only [List.all_cons,Bool.and_eq_true] at h1
        obtain ⟨i1,s1,q1⟩:=x
        simp only [alF] at h2
        cases hq:Nat.beq s1 s' with
        | true=>rw [hq] at h2; simp at h2; rw [← h2.2]; exact h1.1
        | false=>rw [hq] at h2; exact ih h1.2 h2
    exact key _ hal h
  have setnl:∀ (ps qs:List PV) (off:Nat),ps.all (PV.nl1 s)=true → qs.all (PV.nl1 s)=true → (J8 ps off qs).all (PV.nl1 s)=true:=by
    intro ps qs off h1 h2
    rw [List.all_eq_true] at h1 h2 ⊢
    intro x hx
    unfold J8 at hx
    rcases List.mem_append.1 hx with hx | hx
    · rcases List.mem_append.1 hx with hx | hx
      · exact h1 x (List.mem_of_mem_take hx)
      · exact h2 x hx
    · exact h1 x (List.mem_of_mem_drop hx)
  have Lnl:∀ s' qs,(π.S σ b).L s'=some qs → qs.all (PV.nl1 s)=true:=by
    intro s' qs h
    refine A5g (R:=fun qs=>qs.all (PV.nl1 s)=true) π.st (π.L0 σ b s') (fun qs h=>?_) (fun x hx ps hps=>setnl _ _ _ hps (List.all_eq_true.1 hstq x hx)) qs h
    simp only [F3.L0] at h
    cases hq:alF π.al s' with
    | none=>rw [hq] at h; exact hL s' qs h
    | some x =>
      obtain ⟨j,rs⟩:=x
      rw [hq] at h
      simp only at h
      cases hbj:b j with
      | false=>rw [hbj] at h; cases h
      | true =>
        rw [hbj] at h
        obtain rfl:rs=qs:=by simpa using h
        exact allal s' j rs hq
  refine St.ext' rfl (fun k=>?_) (fun s'=>?_) rfl
  · show cond (Nat.beq k d) (.loc s 0) (((π.S σ b).env k).kill s)=_
    rw [A8a (envnl k)]
    show cond (Nat.beq k d) (.loc s 0) (match wrF π.ds k 0 with | some i=>cond (b i) (π.p i) (σ.env k) | none=>σ.env k)=(match wrF π.ds k 0 with | some j=>cond (up b i j) (π.p j) (σ.env k) | none=>σ.env k)
    cases hq:Nat.beq k d with
    | true =>
      obtain rfl:=Nat.eq_of_beq_eq_true hq
      rw [hd]
      simp [Y1,hp]
    | false =>
      cases hw:wrF π.ds k 0 with
      | none=>rfl
      | some j =>
        have:j ≠ i:=by
          intro e
          subst e
          have h1:=(R1 hd).2
          have h2:=(R1 hw).2
          rw [h1] at h2
          have:d=k:=by simpa using h2
          subst this
          simp at hq
        simp only [cond_false]
        rw [T5 b this]
  · show cond (Nat.beq s' s) (some ps) (((π.S σ b).L s').map fun qs=>qs.map (PV.kill1 s))=_
    have e3:(((π.S σ b).L s').map fun qs=>qs.map (PV.kill1 s))=(π.S σ b).L s':=by
      cases hq:(π.S σ b).L s' with
      | none=>rfl
      | some qs=>simp [A5i (Lnl s' qs hq)]
    rw [e3]
    show _=stL (up b i) s' π.st (π.L0 σ (up b i) s')
    have upst:∀ x ∈ π.st,up b i x.1=b x.1:=fun x hx=>T5 b (A5T hst (List.mem_map.2 ⟨x,hx,rfl⟩))
    cases hq:Nat.beq s' s with
    | true =>
      obtain rfl:=Nat.eq_of_beq_eq_true hq
      rw [f0 _ _ (fun x hx e=>by rw [upst x hx]; exact hsn x hx e)]
      simp only [F3.L0,ha,cond_true,Y1]
    | false =>
      have hne:s' ≠ s:=by intro e; subst e; simp at hq
      rw [U5 (c:=b) _ _ (fun x hx _=>upst x hx)]
      have e1:π.L0 σ (up b i) s'=π.L0 σ b s':=by
        simp only [F3.L0]
        cases hq:alF π.al s' with
        | none=>rfl
        | some x =>
          obtain ⟨i',ps'⟩:=x
          have:i' ≠ i:=by intro e; subst e; exact hone s' ps' hne hq
          simp only
          rw [T5 b this]
      rw [e1]
      rfl
end Go.Ab
