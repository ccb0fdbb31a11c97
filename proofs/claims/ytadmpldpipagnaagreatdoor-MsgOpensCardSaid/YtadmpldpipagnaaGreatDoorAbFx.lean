import Derived.Test.YtadmpldpipagnaaGreatDoorAbOp
namespace Go.Ab
open Go.RowKit
set_option linter.unusedVariables false
set_option linter.unusedSimpArgs false
def over (σ:St) (ds:List (Option Nat)) (ps:List PV) (b:Nat → Bool):St:={ σ with env:=fun k=>match wrF ds k 0 with | some i=>cond (b i) (ps.getD i .any) (σ.env k) | none=>σ.env k }
theorem A6U {σ:St} {ds:List (Option Nat)} {ps:List PV} {b:Nat → Bool} (h:∀ i,i < ds.length → b i=false):over σ ds ps b=σ:=by
  refine St.ext' rfl (fun k=>?_) (fun _=>rfl) rfl
  show (match wrF ds k 0 with | some i=>cond (b i) (ps.getD i .any) (σ.env k) | none=>σ.env k)=σ.env k
  cases hw:wrF ds k 0 with
  | none=>rfl
  | some i =>
    have:=(List.getElem?_eq_some_iff.1 (R1 hw).2).1
    simp only
    rw [h i (by omega)]
    rfl
theorem A6q {ds:List (Option Nat)} {d k i:Nat} (h:wrF ds d 0=some i) (h':wrF ds k 0=some i):k=d:=by
  have h1:=(R1 h).2
  have h2:=(R1 h').2
  rw [h1] at h2
  simpa using h2.symm
theorem A7z {σ:St} {ds:List (Option Nat)} {ps:List PV} {b:Nat → Bool} {i d:Nat} {q:PV} (hd:wrF ds d 0=some i) (hq:ps.getD i .any=q):(over σ ds ps b).put d q=over σ ds ps (up b i):=by
  subst hq
  refine St.ext' rfl (fun k=>?_) (fun _=>rfl) rfl
  show cond (Nat.beq k d) (ps.getD i .any) (match wrF ds k 0 with | some i=>cond (b i) (ps.getD i .any) (σ.env k) | none=>σ.env k)=(match wrF ds k 0 with | some j=>cond (up b i j) (ps.getD j .any) (σ.env k) | none=>σ.env k)
  cases hq:Nat.beq k d with
  | true =>
    obtain rfl:=Nat.eq_of_beq_eq_true hq
    rw [hd]
    simp only [Y1,cond_true]
  | false =>
    cases hw:wrF ds k 0 with
    | none=>rfl
    | some j =>
      have:j ≠ i:=by
        intro e
        subst e
        have:=A6q hd hw
        subst this
        simp at hq
      simp only [cond_false]
      rw [T5 b this]
structure A6h (F:St → St) (f:PV → PV):Prop where
  N:∀ σ,(F σ).N=σ.N
  env:∀ σ k,(F σ).env k=f (σ.env k)
  L:∀ σ e,(F { σ with env:=e }).L=(F σ).L
  T:∀ σ e,(F { σ with env:=e }).T=(F σ).T
theorem A7e (tp:Nat) (x:Option (Nat × Nat)):A6h (fun σ=>σ.setT tp x) id:=⟨fun _=>rfl,fun _ _=>rfl,fun _ _=>rfl,fun _ _=>rfl⟩
theorem A6N (tp:Nat) (x:Option (Nat × Nat)):A6h (fun σ=>(σ.dropT tp).setT tp x) (PV.dropT tp):=⟨fun _=>rfl,fun _ _=>rfl,fun _ _=>rfl,fun _ _=>rfl⟩
theorem A6W (s:Nat) (x:Option (List PV)):A6h (fun σ=>σ.setL s x) id:=⟨fun _=>rfl,fun _ _=>rfl,fun _ _=>rfl,fun _ _=>rfl⟩
theorem A7R (s:Nat) (x:Option (List PV)):A6h (fun σ=>(σ.kill s).setL s x) (PV.kill s):=⟨fun _=>rfl,fun _ _=>rfl,fun _ _=>rfl,fun _ _=>rfl⟩
theorem A5e (L:Bx) (ρ τ:List (Nat × Nat)) (o:s9):A6h (fun σ=>σ.behind L ρ τ o) (PV.via (A3a L ρ) (A3t τ)):=⟨fun _=>rfl,fun _ _=>rfl,fun _ _=>rfl,fun _ _=>rfl⟩
theorem A7A {F:St → St} {f:PV → PV} (hF:A6h F f) {σ:St} {ds:List (Option Nat)} {ps qs:List PV} {b:Nat → Bool} {k d:Nat} {q:PV} (hd:wrF ds d 0=some k) (hqs:∀ j,j ≠ k → b j=true → qs.getD j .any=f (ps.getD j .any)) (hk:qs[k]? = some q) :
    (F (over σ ds ps b)).put d q=over (F σ) ds qs (up b k):=by
  refine St.ext' ?_ (fun k'=>?_) (fun s=>?_) ?_
  · show (F (over σ ds ps b)).N=(F σ).N
    rw [hF.N,hF.N]; rfl
  · show cond (Nat.beq k' d) q ((F (over σ ds ps b)).env k')=(match wrF ds k' 0 with | some j=>cond (up b k j) (qs.getD j .any) ((F σ).env k') | none=>(F σ).env k')
    rw [hF.env,hF.env]
    show cond (Nat.beq k' d) q (f (match wrF ds k' 0 with | some i=>cond (b i) (ps.getD i .any) (σ.env k') | none=>σ.env k'))=_
    cases hq:Nat.beq k' d with
    | true =>
      obtain rfl:=Nat.eq_of_beq_eq_true hq
      rw [hd]
      simp only [Y1,cond_true]
      rw [List.getD_eq_getElem?_getD,hk]
      rfl
    | false =>
      cases hw:wrF ds k' 0 with
      | none=>rfl
      | some j =>
        have hj:j ≠ k:=by
          intro e
          subst e
          have:=A6q hd hw
          subst this
          simp at hq
        simp only [cond_false]
        rw [T5 b hj]
        cases hbj:b j with
        | false=>rfl
        | true=>exact (hqs j hj hbj).symm
  · show (F (over σ ds ps b)).L s=(F σ).L s
    exact congrFun (hF.L σ _) s
  · show (F (over σ ds ps b)).T=(F σ).T
    exact hF.T σ _
def s3 (P:Program) (B:Base) (ops:Array Oper) (σ:St) (ds:List (Option Nat)) (ps:List PV) (i:Nat):Prop:=
  ∀ o,ops[i]? = some o → ∀ b,M6 ops b → b i=false → (∀ k ∈ N4 o,b k=true) → V7 P B ops o (over σ ds ps b) (over σ ds ps (up b i))
theorem E7 {P:Program} {B:Base} {ops:Array Oper} {σ:St} {ds:List (Option Nat)} {ps:List PV} {i d:Nat} {q:PV} {o:Oper} (ho:ops[i]? = some o) (hd:wrF ds d 0=some i) (hq:ps.getD i .any=q)
    (h:∀ b,M6 ops b → b i=false → (∀ k ∈ N4 o,b k=true) → V7 P B ops o (over σ ds ps b) ((over σ ds ps b).put d q)):s3 P B ops σ ds ps i:=by
  intro o' ho' b hc hi hd'
  obtain rfl:o=o':=Option.some.inj (ho.symm.trans ho')
  rw [← A7z hd hq]
  exact h b hc hi hd'
def A0Y (P:Program) (B:Base) (ops:Array Oper) (ds:List (Option Nat)) (pre ks:List Nat) (σ:St) (ps:List PV) (Ψ:St → Prop):Prop:=∃ S:(Nat → Bool) → St,
  (∀ b,(∀ k,ks.head? = some k → b k=false) → S b=over σ ds ps b) ∧
  (∀ i o,ops[i]? = some o → ∀ b,M6 ops b → (∀ k ∈ pre,b k=true) → b i=false → (∀ k ∈ N4 o,b k=true) → V7 P B ops o (S b) (S (up b i))) ∧
  (∀ b,(∀ i,b i=true) → Ψ (S b))
def A1U (ops:Array Oper) (k:Nat) (mask:List Bool):Bool:=(List.range ops.size).all fun j=>mask.getD j false || Nat.beq j k || (X3 ops j).contains k
def V5 (f:PV → PV):List Bool → List PV → List PV
  | true :: m,p :: ps=>f p :: V5 f m ps
  | false :: m,p :: ps=>.any :: V5 f m ps
  | _,_=>[]
theorem A1S {f g:PV → PV}:∀ {m:List Bool} {ps qs:List PV} {j:Nat},V5 f m ps=V5 g m qs → m.getD j false=true → j < ps.length → j < qs.length → f (ps.getD j .any)=g (qs.getD j .any)
  | [],ps,qs,j,_,h2,_,_=>by simp at h2
  | _ :: _,[],qs,j,_,_,h3,_=>by simp at h3
  | _ :: _,_ :: _,[],j,_,_,_,h4=>by simp at h4
  | true :: m,p :: ps,q :: qs,0,h,_,_,_=>by simp only [V5,List.cons.injEq] at h; exact h.1
  | false :: m,p :: ps,q :: qs,0,h,h2,_,_=>by simp at h2
  | true :: m,p :: ps,q :: qs,j + 1,h,h2,h3,h4=>by
    simp only [V5,List.cons.injEq] at h
    have:=A1S (j:=j) h.2 (by simpa using h2) (by simpa using h3) (by simpa using h4)
    simpa using this
  | false :: m,p :: ps,q :: qs,j + 1,h,h2,h3,h4=>by
    simp only [V5,List.cons.injEq] at h
    have:=A1S (j:=j) h.2 (by simpa using h2) (by simpa using h3) (by simpa using h4)
    simpa using this
def A0D (ops:Array Oper) (pre ks idx:List Nat):Bool:=(List.range ops.size).all fun i=>idx.contains i || pre.contains i || (ks.head? == some i) || pre.any (fun k=>(X3 ops k).contains i) || ks.any (fun k=>(X3 ops i).contains k)
def u6 (ops:Array Oper):List Nat → Bool
  | []=>true
  | k :: ks=>ks.all (fun k'=>(X3 ops k').contains k) && u6 ops ks
section
variable {P:Program} {B:Base} {Φ:Exit → St → Prop} {σ:St} {l:List Oper} {Ψ:St → Prop}
theorem l4 {ops:Array Oper} {b:Nat → Bool} (hc:M6 ops b) {k j:Nat} (hk:b k=true) (h:(X3 ops k).contains j=true):b j=true:=by
  cases ho:ops[k]? with
  | none=>simp [X3,ho] at h
  | some o=>exact U4 hc ho (fun d hd=>hc k o ho hk d hd) h
theorem P6 {ds:List (Option Nat)} {pre:List Nat} {ps:List PV} (idx:List Nat) (hcov:A0D l.toArray pre [] idx=true) (hs:∀ i ∈ idx,s3 P B l.toArray σ ds ps i) (hend:∀ b,(∀ i,b i=true) → Ψ (over σ ds ps b)):A0Y P B l.toArray ds pre [] σ ps Ψ:=by
  refine ⟨fun b=>over σ ds ps b,fun _ _=>rfl,fun i o ho b hc hp hi hd=>?_,hend⟩
  have hil:=(Array.getElem?_eq_some_iff.1 ho).1
  have:=List.all_eq_true.1 hcov i (List.mem_range.2 hil)
  simp only [List.any_nil,Bool.or_false,Bool.or_eq_true,List.head?_nil] at this
  rcases this with ((h | h) | h) | h
  · exact hs i (List.contains_iff_mem.1 h) o ho b hc hi hd
  · rw [hp i (List.contains_iff_mem.1 h)] at hi; cases hi
  · cases h
  · obtain ⟨k,hk,h⟩:=List.any_eq_true.1 h
    rw [l4 hc (hp k hk) h] at hi; cases hi
theorem u0 {ds:List (Option Nat)} {pre ks:List Nat} {ps qs:List PV} {k d:Nat} {o:Oper} {q:PV} {F:St → St} {f:PV → PV} (idx:List Nat) (hF0:f .any=.any) (hcov:A0D l.toArray pre (k :: ks) idx=true) (hch:u6 l.toArray (k :: ks)=true) (ho:l[k]? = some o) (hg:o.guard=none) (hF:A6h F f)
    (hd:wrF ds d 0=some k) (mask:List Bool) (hmask:A1U l.toArray k mask=true) (hqs:V5 f mask ps=V5 id mask qs) (hlp:Nat.beq ps.length l.length=true) (hlq:Nat.beq qs.length l.length=true) (hld:Nat.beq ds.length l.length=true) (hqk:qs[k]? = some q)
    (hs:∀ i ∈ idx,s3 P B l.toArray σ ds ps i)
    (hk:∀ b,M6 l.toArray b → b k=false → (∀ k ∈ N4 o,b k=true) → OpStepX P B o (over σ ds ps b) (fun _:Unit=>True) (fun _=>(F (over σ ds ps b)).put d q))
    (hn:A0Y P B l.toArray ds (k :: pre) ks (F σ) qs Ψ):A0Y P B l.toArray ds pre (k :: ks) σ ps Ψ:=by
  obtain ⟨S1,h1,h2,h3⟩:=hn
  have hko:l.toArray[k]? = some o:=by simpa using ho
  rw [u6,Bool.and_eq_true] at hch
  have later:∀ b,M6 l.toArray b → b k=false → ∀ k' ∈ ks,b k'=false:=by
    intro b hc hbk k' hk'
    cases hq:b k' with
    | false=>rfl
    | true =>
      rw [l4 hc hq (List.all_eq_true.1 hch.1 k' hk')] at hbk; cases hbk
  refine ⟨fun b=>bif b k then S1 b else over σ ds ps b,fun b hb=>?_,fun i oi hoi b hc hp hi hdd=>?_,fun b hb=>?_⟩
  · simp only [hb k rfl,cond_false]
  · cases hbk:b k with
    | true =>
      have hik:k ≠ i:=by intro e; subst e; rw [hbk] at hi; cases hi
      simp only [T5 b hik,hbk,cond_true]
      exact h2 i oi hoi b hc (List.forall_mem_cons.2 ⟨hbk,hp⟩) hi hdd
    | false =>
      by_cases e:i=k
      · subst e
        obtain rfl:o=oi:=Option.some.inj (hko.symm.trans hoi)
        simp only [Y1,cond_true,hbk,cond_false]
        have hS1:S1 (up b i)=over (F σ) ds qs (up b i):=h1 _ fun k' hk'=>by
          have hm:k' ∈ ks:=List.mem_of_mem_head? hk'
          have hne:k' ≠ i:=by
            intro e
            subst e
            have:=List.all_eq_true.1 hch.1 k' hm
            have:=U4 hc hoi hdd this
            rw [hi] at this; cases this
          rw [T5 b hne]
          exact later b hc hi k' hm
        have hqs':∀ j,j ≠ i → b j=true → wrF ds d 0=some i → j < l.length → qs.getD j .any=f (ps.getD j .any):=by
          intro j hj hbj _ hjl
          have:=List.all_eq_true.1 hmask j (List.mem_range.2 (by simpa using hjl))
          simp only [Bool.or_eq_true] at this
          rcases this with (h | h) | h
          · exact (A1S hqs h (by rw [Nat.eq_of_beq_eq_true hlp]; exact hjl) (by rw [Nat.eq_of_beq_eq_true hlq]; exact hjl)).symm
          · exact absurd (Nat.eq_of_beq_eq_true h) hj
          · rw [l4 hc hbj h] at hi; cases hi
        rw [hS1,← A7A hF hd (fun j hj hbj=>by
          by_cases hjl:j < l.length
          · exact hqs' j hj hbj hd hjl
          · rw [List.getD_eq_getElem?_getD,List.getD_eq_getElem?_getD,List.getElem?_eq_none (by rw [Nat.eq_of_beq_eq_true hlq]; omega),List.getElem?_eq_none (by rw [Nat.eq_of_beq_eq_true hlp]; omega)]
            exact hF0.symm) hqk]
        intro g a w hr K Q hK
        rw [if_pos (by simp [Region.wanted,hg])]
        exact hk b hc hi hdd g a w hr K Q fun x _ g' a' w' hr'=>hK _ _ _ hr'
      · simp only [T5 b (Ne.symm e),hbk,cond_false]
        have hil:=(Array.getElem?_eq_some_iff.1 hoi).1
        have:=List.all_eq_true.1 hcov i (List.mem_range.2 hil)
        simp only [Bool.or_eq_true,List.head?_cons] at this
        rcases this with (((h | h) | h) | h) | h
        · exact hs i (List.contains_iff_mem.1 h) oi hoi b hc hi hdd
        · rw [hp i (List.contains_iff_mem.1 h)] at hi; cases hi
        · exact absurd (by simpa using h:k=i).symm e
        · obtain ⟨k',hk',h⟩:=List.any_eq_true.1 h
          rw [l4 hc (hp k' hk') h] at hi; cases hi
        · obtain ⟨k',hk',h⟩:=List.any_eq_true.1 h
          have h4:=U4 hc hoi hdd h
          rcases List.mem_cons.1 hk' with rfl | hk'
          · rw [hbk] at h4; cases h4
          · rw [later b hc hbk k' hk'] at h4; cases h4
  · simp only [hb k,cond_true]
    exact h3 b hb
section kinds
variable {ds:List (Option Nat)} {pre ks:List Nat} {ps qs:List PV} {k d:Nat} {o:Oper} {q:PV}
theorem R4 {tp:Nat} {x:Option (Nat × Nat)} (idx:List Nat) (mask:List Bool) (hcov:A0D l.toArray pre (k :: ks) idx=true) (hch:u6 l.toArray (k :: ks)=true) (ho:l[k]? = some o) (hg:o.guard=none) (hd:wrF ds d 0=some k) (hmask:A1U l.toArray k mask=true) (hqs:V5 id mask ps=V5 id mask qs) (hlp:Nat.beq ps.length l.length=true) (hlq:Nat.beq qs.length l.length=true) (hld:Nat.beq ds.length l.length=true) (hqk:qs[k]? = some q)
    (hs:∀ i ∈ idx,s3 P B l.toArray σ ds ps i) (hk:∀ b,M6 l.toArray b → b k=false → (∀ k ∈ N4 o,b k=true) → OpStep P B o (over σ ds ps b) (((over σ ds ps b).setT tp x).put d q))
    (hn:A0Y P B l.toArray ds (k :: pre) ks (σ.setT tp x) qs Ψ):A0Y P B l.toArray ds pre (k :: ks) σ ps Ψ:=
  u0 idx rfl hcov hch ho hg (A7e tp x) hd mask hmask hqs hlp hlq hld hqk hs (fun b h1 h2 h3=>opx (hk b h1 h2 h3)) hn
theorem A4h {tp:Nat} {x:Option (Nat × Nat)} (idx:List Nat) (mask:List Bool) (hcov:A0D l.toArray pre (k :: ks) idx=true) (hch:u6 l.toArray (k :: ks)=true) (ho:l[k]? = some o) (hg:o.guard=none) (hd:wrF ds d 0=some k) (hmask:A1U l.toArray k mask=true) (hqs:V5 (PV.dropT tp) mask ps=V5 id mask qs) (hlp:Nat.beq ps.length l.length=true) (hlq:Nat.beq qs.length l.length=true) (hld:Nat.beq ds.length l.length=true) (hqk:qs[k]? = some q)
    (hs:∀ i ∈ idx,s3 P B l.toArray σ ds ps i) (hk:∀ b,M6 l.toArray b → b k=false → (∀ k ∈ N4 o,b k=true) → OpStep P B o (over σ ds ps b) ((((over σ ds ps b).dropT tp).setT tp x).put d q))
    (hn:A0Y P B l.toArray ds (k :: pre) ks ((σ.dropT tp).setT tp x) qs Ψ):A0Y P B l.toArray ds pre (k :: ks) σ ps Ψ:=
  u0 idx rfl hcov hch ho hg (A6N tp x) hd mask hmask hqs hlp hlq hld hqk hs (fun b h1 h2 h3=>opx (hk b h1 h2 h3)) hn
theorem famE_box {s:Nat} {x:Option (List PV)} (idx:List Nat) (mask:List Bool) (hcov:A0D l.toArray pre (k :: ks) idx=true) (hch:u6 l.toArray (k :: ks)=true) (ho:l[k]? = some o) (hg:o.guard=none) (hd:wrF ds d 0=some k) (hmask:A1U l.toArray k mask=true) (hqs:V5 (PV.kill s) mask ps=V5 id mask qs) (hlp:Nat.beq ps.length l.length=true) (hlq:Nat.beq qs.length l.length=true) (hld:Nat.beq ds.length l.length=true) (hqk:qs[k]? = some q)
    (hs:∀ i ∈ idx,s3 P B l.toArray σ ds ps i) (hk:∀ b,M6 l.toArray b → b k=false → (∀ k ∈ N4 o,b k=true) → OpStep P B o (over σ ds ps b) ((((over σ ds ps b).kill s).setL s x).put d q))
    (hn:A0Y P B l.toArray ds (k :: pre) ks ((σ.kill s).setL s x) qs Ψ):A0Y P B l.toArray ds pre (k :: ks) σ ps Ψ:=
  u0 idx rfl hcov hch ho hg (A7R s x) hd mask hmask hqs hlp hlq hld hqk hs (fun b h1 h2 h3=>opx (hk b h1 h2 h3)) hn
theorem A0c {s:Nat} {x:Option (List PV)} (idx:List Nat) (mask:List Bool) (hcov:A0D l.toArray pre (k :: ks) idx=true) (hch:u6 l.toArray (k :: ks)=true) (ho:l[k]? = some o) (hg:o.guard=none) (hd:wrF ds d 0=some k) (hmask:A1U l.toArray k mask=true) (hqs:V5 id mask ps=V5 id mask qs) (hlp:Nat.beq ps.length l.length=true) (hlq:Nat.beq qs.length l.length=true) (hld:Nat.beq ds.length l.length=true) (hqk:qs[k]? = some q)
    (hs:∀ i ∈ idx,s3 P B l.toArray σ ds ps i) (hk:∀ b,M6 l.toArray b → b k=false → (∀ k ∈ N4 o,b k=true) → OpStep P B o (over σ ds ps b) (((over σ ds ps b).setL s x).put d q))
    (hn:A0Y P B l.toArray ds (k :: pre) ks (σ.setL s x) qs Ψ):A0Y P B l.toArray ds pre (k :: ks) σ ps Ψ:=
  u0 idx rfl hcov hch ho hg (A6W s x) hd mask hmask hqs hlp hlq hld hqk hs (fun b h1 h2 h3=>opx (hk b h1 h2 h3)) hn
theorem f6 {L:Bx} {ρ τ:List (Nat × Nat)} {out:Unit → s9} (idx:List Nat) (mask:List Bool) (hcov:A0D l.toArray pre (k :: ks) idx=true) (hch:u6 l.toArray (k :: ks)=true) (ho:l[k]? = some o) (hg:o.guard=none) (hd:wrF ds d 0=some k)
    (hk:∀ b,M6 l.toArray b → b k=false → (∀ k ∈ N4 o,b k=true) → OpStepX P B o (over σ ds ps b) (fun _:Unit=>True) (fun x=>((over σ ds ps b).behind L ρ τ (out x)).put d ((out x).r.via (G3 ρ) (G3 τ))))
    (hmask:A1U l.toArray k mask=true) (hqs:V5 (PV.via (A3a L ρ) (A3t τ)) mask ps=V5 id mask qs) (hlp:Nat.beq ps.length l.length=true) (hlq:Nat.beq qs.length l.length=true) (hld:Nat.beq ds.length l.length=true) (hqk:qs[k]? = some ((out ()).r.via (G3 ρ) (G3 τ)))
    (hs:∀ i ∈ idx,s3 P B l.toArray σ ds ps i)
    (hn:A0Y P B l.toArray ds (k :: pre) ks (σ.behind L ρ τ (out ())) qs Ψ):A0Y P B l.toArray ds pre (k :: ks) σ ps Ψ:=
  u0 idx rfl hcov hch ho hg (A5e L ρ τ (out ())) hd mask hmask hqs hlp hlq hld hqk hs hk hn
end kinds
theorem S9 {id:Nat} {ds:List (Option Nat)} {ks:List Nat} {ps:List PV} (hm:P.follows .mixedOrders=true) (hback:A0A l.toArray=true) (hn:ds.length=l.length) (hks:ks.all (fun k=>Nat.blt k l.length)=true) (h:A0Y P B l.toArray ds [] ks σ ps (Φ .normal)):AW P B (.region id l.toArray true) Φ σ:=by
  obtain ⟨S,h1,h2,h3⟩:=h
  refine j8 S hm hback (fun b hb g a w hr=>⟨g,?_⟩) (fun i o ho b hc hi hd=>h2 i o ho b hc (fun _ h=>nomatch h) hi hd) h3
  rw [h1 b (fun k hk=>hb k (by simpa using blt (List.all_eq_true.1 hks k (List.mem_of_mem_head? hk)))),A6U (fun i hi=>hb i (by simpa [← hn] using hi))]
  exact hr
theorem A5w {o:Oper} {d:Nat} {f:FuncId} {fn:Func} {xs:List Operand} {vs:List PV} {ts:Array TypeId} {args:List PV} {ι:Type} {Qx:ι → Prop} {out:ι → s9} {bxs:List (Nat × Nat × List PV × List PV)} {tps:List (Nat × Nat × (Nat × Nat))} {newS newT:List (Nat × Nat)} {L:Bx} {T:Tp} {ρi τi ρ τ:List (Nat × Nat)}
    (hv:xs.map σ.ev=vs) (hd:o.dst=some d) (hN:Nat.blt d σ.N=true) (ho:o.op=.call { callee:=.value (.func f),args:=xs.toArray,argTypes:=ts })
    (hf:P.funcs[f]? = some fn) (hn:(fn.name == "runtime.NumGoroutine")=false) (hbd:fn.body.isNone=false)
    (h:PG P f L T args Qx out)
    (hL:bxs.map (fun b=>(b.1,b.2.2.2))=L) (hT:tps.map (fun t=>(t.1,t.2.2))=T) (hρi:bxs.map (fun b=>(b.2.1,b.1))=ρi) (hτi:tps.map (fun t=>(t.2.1,t.1))=τi)
    (hρ:bxs.map (fun b=>(b.1,b.2.1)) ++ newS=ρ) (hτ:tps.map (fun t=>(t.1,t.2.1)) ++ newT=τ)
    (nd:(ρ.map (·.1)).Nodup ∧ (ρ.map (·.2)).Nodup ∧ (τ.map (·.1)).Nodup ∧ (τ.map (·.2)).Nodup)
    (hb:∀ b ∈ bxs,σ.L b.2.1=some b.2.2.1 ∧ WkL (b.2.2.1.map (PV.via1 (G3 ρi) (G3 τi))) b.2.2.2)
    (htp:∀ t ∈ tps,σ.T t.2.1=some t.2.2)
    (ha:WkT (vs.map fun x=>x.via (G3 ρi) (G3 τi)) args) (ht:(vs.map fun x=>x.via (G3 ρi) (G3 τi)).all N9=true)
    (hko:∀ x,(out x).L.map (·.1)=ρ.map (·.1)) (hkt:∀ x,(out x).T.map (·.1)=τ.map (·.1)) (hpin:newS.all (fun x=>(B.pin x.2).isNone)=true) :
    OpStepX P B o σ Qx (fun x=>(σ.behind L ρ τ (out x)).put d ((out x).r.via (G3 ρ) (G3 τ))):=by
  subst hv
  rw [List.map_map] at ha ht
  exact j5 hd hN ho hf hn hbd h hL hT hρi hτi hρ hτ nd hb htp ha ht hko hkt hpin
theorem A5c {o:Oper} {d c:Nat} {f:FuncId} {fn:Func} {xs:List Operand} {vs:List PV} {ls:List (Option Nat)} {ts:Array TypeId} {args:List PV} {ι:Type} {Qx:ι → Prop} {out:ι → s9} {bxs:List (Nat × Nat × List PV × List PV)} {tps:List (Nat × Nat × (Nat × Nat))} {newS newT:List (Nat × Nat)} {L:Bx} {T:Tp} {ρi τi ρ τ:List (Nat × Nat)}
    (hv:xs.map σ.ev=vs) (hd:o.dst=some d) (hN:Nat.blt d σ.N=true) (ho:o.op=.call { callee:=.value (.tmp c),args:=xs.toArray,argTypes:=ts }) (hc:σ.env c=.clo f ls)
    (hf:P.funcs[f]? = some fn) (hn:(fn.name == "runtime.NumGoroutine")=false) (hbd:fn.body.isNone=false)
    (h:PG P f L T args Qx out)
    (hL:bxs.map (fun b=>(b.1,b.2.2.2))=L) (hT:tps.map (fun t=>(t.1,t.2.2))=T) (hρi:bxs.map (fun b=>(b.2.1,b.1))=ρi) (hτi:tps.map (fun t=>(t.2.1,t.1))=τi)
    (hρ:bxs.map (fun b=>(b.1,b.2.1)) ++ newS=ρ) (hτ:tps.map (fun t=>(t.1,t.2.1)) ++ newT=τ)
    (nd:(ρ.map (·.1)).Nodup ∧ (ρ.map (·.2)).Nodup ∧ (τ.map (·.1)).Nodup ∧ (τ.map (·.2)).Nodup)
    (hb:∀ b ∈ bxs,σ.L b.2.1=some b.2.2.1 ∧ WkL (b.2.2.1.map (PV.via1 (G3 ρi) (G3 τi))) b.2.2.2)
    (htp:∀ t ∈ tps,σ.T t.2.1=some t.2.2)
    (ha:WkT ((vs.map fun x=>x.via (G3 ρi) (G3 τi)) ++ ls.map fun x=>(A2e x).via (G3 ρi) (G3 τi)) args) (ht:(vs.map fun x=>x.via (G3 ρi) (G3 τi)).all N9=true)
    (hko:∀ x,(out x).L.map (·.1)=ρ.map (·.1)) (hkt:∀ x,(out x).T.map (·.1)=τ.map (·.1)) (hpin:newS.all (fun x=>(B.pin x.2).isNone)=true) :
    OpStepX P B o σ Qx (fun x=>(σ.behind L ρ τ (out x)).put d ((out x).r.via (G3 ρ) (G3 τ))):=by
  subst hv
  rw [List.map_map] at ha ht
  exact A8r hd hN ho hc hf hn hbd h hL hT hρi hτi hρ hτ nd hb htp ha ht hko hkt hpin
end
end Go.Ab
namespace Go.Ab
section
variable {P:Program} {B:Base} {σ:St}
theorem A3Y {α:Type} {E:Enc α} {l:List α} {o:Oper} {d tp bytes len:Nat} {t e:TypeId} {parts:List (Nat × Operand)} {pps:List (Nat × PV)} {qs:List PV} (hd:o.dst=some d) (hN:Nat.blt d σ.N=true) (ho:o.op=.buildSlice t len parts.toArray) (hel:Elt P t e E.sz bytes)
    (hll:l.length=len) (hsmall:Nat.ble (len * E.sz) 16777216=true) (hpp:(parts.map fun p=>(p.1,σ.ev p.2))=pps) (hq:V8 ((List.range len).map fun i=>(i * E.sz,E.sz)) (List.replicate (len * E.sz) .any) pps=some qs) (hs:qs.map PV.strip1=l.flatMap E.pv) :
    OpStep P B o σ (((σ.dropT tp).setT tp (some (E.sz,l.length))).put d (.own tp l.length (SL E l))):=I4 hd hN ho hel hll hsmall (hpp ▸ hq) hs
theorem l3 {α:Type} {E:Enc α} {l:List α} {o:Oper} {d bytes len:Nat} {t e:TypeId} {parts:List (Nat × Operand)} {pps:List (Nat × PV)} {qs:List PV} (hd:o.dst=some d) (hN:Nat.blt d σ.N=true) (ho:o.op=.buildSlice t len parts.toArray) (hel:Elt P t e E.sz bytes)
    (hll:l.length=len) (hsmall:Nat.ble (len * E.sz) 16777216=true) (hpp:(parts.map fun p=>(p.1,σ.ev p.2))=pps) (hq:V8 ((List.range len).map fun i=>(i * E.sz,E.sz)) (List.replicate (len * E.sz) .any) pps=some qs) (hs:qs.map PV.strip1=l.flatMap E.pv) :
    OpStep P B o σ (σ.put d (.sem (SL E l))):=A1d hd hN ho hel hll hsmall (hpp ▸ hq) hs
end
end Go.Ab
