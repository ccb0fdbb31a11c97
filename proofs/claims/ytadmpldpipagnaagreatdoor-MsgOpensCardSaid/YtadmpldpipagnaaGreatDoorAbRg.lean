import Derived.Test.YtadmpldpipagnaaGreatDoorAbGen
namespace Go.Ab
open Go.RowKit
set_option linter.unusedVariables false
set_option linter.unusedSimpArgs false
def up (b:Nat → Bool) (i:Nat):Nat → Bool:=fun j=>bif Nat.beq j i then true else b j
theorem Y1 (b:Nat → Bool) (i:Nat):up b i i=true:=by simp [up]
theorem A7H {i j:Nat} (h:i ≠ j):Nat.beq i j=false:=by cases h':Nat.beq i j with | false=>rfl | true=>exact absurd (Nat.eq_of_beq_eq_true h') h
theorem T5 (b:Nat → Bool) {i j:Nat} (h:j ≠ i):up b i j=b j:=by simp [up,A7H h]
def N4 (o:Oper):List Nat:=(o.after.toList.filter (fun e=>Region.binds .any e)).map (·.on)
def V7 (P:Program) (B:Base) (ops:Array Oper) (o:Oper) (σ σ':St):Prop:=
  ∀ g a w,Rel B σ g a w → ∀ (K:Act → World → Prop) (Q:Exit → Act → World → Prop),(∀ g' a' w',Rel B σ' g' a' w' → K a' w') →
    if Region.wanted o (yielded ops a.tmps) then o.wp P a w K Q else K (a.put o.dst undef) w
section
variable {P:Program} {B:Base} {Φ:Exit → St → Prop} {σ σ':St} {ops:Array Oper} {o og:Oper}
theorem C1 (hg:o.guard=none) (h:OpStep P B o σ σ'):V7 P B ops o σ σ':=by
  intro g a w hr K Q hK
  rw [if_pos (by simp [Region.wanted,hg])]
  exact h g a w hr K Q hK
theorem A0M {g:Gh} {a:Act} {w:World} (hr:Rel B σ g a w) {j d:Nat} {b:Bool} (hj:ops[j]? = some og) (hd:og.dst=some d) (hb:σ.env d=.sc (.bool b)) (hdn:d < σ.N):yielded ops a.tmps j=some b:=by
  have h1:=hr.env d
  rw [hb] at h1
  have h1:a.tmps.getD d undef=.bool b:=h1
  have h2:d < a.tmps.size:=by rw [hr.size]; exact hdn
  simp only [yielded,hj,Option.bind_some,hd]
  have h3:a.tmps[d]? = some (.bool b):=by
    rw [Array.getD_eq_getD_getElem?,Array.getElem?_eq_getElem h2] at h1
    rw [Array.getElem?_eq_getElem h2]
    simpa using h1
  rw [h3]
theorem gs_T {j d t:Nat} {b:Bool} {p:PV} (hg:o.guard=some (j,true)) (hj:ops[j]? = some og) (hd:og.dst=some d) (hb:σ.env d=.sc (.bool b)) (hdn:Nat.blt d σ.N=true) (ho:o.dst=some t) (htn:Nat.blt t σ.N=true)
    (ht:b=true → OpStep P B o σ (σ.put t p)):V7 P B ops o σ (σ.put t (cond b p .any)):=by
  intro g a w hr K Q hK
  have hy:=A0M hr hj hd hb (blt hdn)
  cases b with
  | true =>
    rw [if_pos (by simp [Region.wanted,hg,hy])]
    exact ht rfl g a w hr K Q hK
  | false =>
    rw [if_neg (by simp [Region.wanted,hg,hy]),ho]
    exact hK g _ w (hr.put (blt htn) (Rep.any' _))
theorem gs_F {j d t:Nat} {b:Bool} {p:PV} (hg:o.guard=some (j,false)) (hj:ops[j]? = some og) (hd:og.dst=some d) (hb:σ.env d=.sc (.bool b)) (hdn:Nat.blt d σ.N=true) (ho:o.dst=some t) (htn:Nat.blt t σ.N=true)
    (ht:b=false → OpStep P B o σ (σ.put t p)):V7 P B ops o σ (σ.put t (cond b .any p)):=by
  intro g a w hr K Q hK
  have hy:=A0M hr hj hd hb (blt hdn)
  cases b with
  | false =>
    rw [if_pos (by simp [Region.wanted,hg,hy])]
    exact ht rfl g a w hr K Q hK
  | true =>
    rw [if_neg (by simp [Region.wanted,hg,hy]),ho]
    exact hK g _ w (hr.put (blt htn) (Rep.any' _))
theorem Rel.drawn {g:Gh} {a:Act} {w:World} (hr:Rel B σ g a w) (n:Nat):Rel B σ g a { w with drawn:=n }:=
  { hr with imm:=hr.imm,box:=hr.box,tip:=hr.tip,below:=hr.below }
def T3 (l:Array Bool):Nat → Bool:=fun i=>l.getD i true
def M6 (ops:Array Oper) (b:Nat → Bool):Prop:=∀ j o,ops[j]? = some o → b j=true → ∀ k ∈ N4 o,b k=true
def A0A (ops:Array Oper):Bool:=(List.range ops.size).all fun i=>match ops[i]? with
  | some o=>(N4 o).all fun k=>Nat.blt k i
  | none=>true
theorem W2 (h:A0A ops=true) {i:Nat} (ho:ops[i]? = some o):∀ k ∈ N4 o,k < i:=by
  intro k hk
  have hi:=(Array.getElem?_eq_some_iff.1 ho).1
  have h1:=List.all_eq_true.1 h i (List.mem_range.2 hi)
  rw [ho] at h1
  exact blt (List.all_eq_true.1 h1 k hk)
theorem A0n {l:Array Bool} (hs:l.size=ops.size) (hback:A0A ops=true) {i:Nat}:i ∈ Region.ready .any ops l ↔ ∃ o,ops[i]? = some o ∧ T3 l i=false ∧ ∀ k ∈ N4 o,T3 l k=true:=by
  unfold Region.ready
  rw [List.mem_filter,List.mem_range]
  have get:∀ k (d:Bool),k < ops.size → l.getD k d=T3 l k:=by
    intro k d hk
    unfold T3
    rw [Array.getD_eq_getD_getElem?,Array.getD_eq_getD_getElem?,Array.getElem?_eq_getElem (by omega)]
    rfl
  constructor
  · rintro ⟨hi,h⟩
    rw [Bool.and_eq_true] at h
    rw [Array.getElem?_eq_getElem hi] at h ⊢
    refine ⟨_,rfl,by simpa [T3] using h.1,fun k hk=>?_⟩
    have hlt:k < ops.size:=Nat.lt_trans (W2 hback (Array.getElem?_eq_getElem hi) k hk) hi
    have h2:=h.2
    simp only [Option.map_some,Option.getD_some] at h2
    rw [← Array.all_toList] at h2
    obtain ⟨e,he,rfl⟩:=List.mem_map.1 hk
    rw [List.mem_filter] at he
    have h3:=List.all_eq_true.1 h2 e he.1
    rw [he.2] at h3
    simp only [Bool.not_true,Bool.false_or] at h3
    rw [get _ _ hlt] at h3
    exact h3
  · rintro ⟨o,ho,h1,h2⟩
    have hi:=(Array.getElem?_eq_some_iff.1 ho).1
    refine ⟨hi,?_⟩
    rw [Bool.and_eq_true]
    refine ⟨by simpa [T3] using h1,?_⟩
    rw [ho]
    simp only [Option.map_some,Option.getD_some]
    rw [← Array.all_toList,List.all_eq_true]
    intro e he
    cases hb:Region.binds .any e with
    | false=>rfl
    | true =>
      simp only [Bool.not_true,Bool.false_or]
      have hm:e.on ∈ N4 o:=List.mem_map.2 ⟨e,List.mem_filter.2 ⟨he,hb⟩,rfl⟩
      rw [get _ _ (Nat.lt_trans (W2 hback ho _ hm) hi)]
      exact h2 _ hm
theorem A6R {l:Array Bool} {i:Nat} (hi:i < l.size):T3 (l.setIfInBounds i true)=up (T3 l) i:=by
  funext j
  show (l.setIfInBounds i true).getD j true=bif Nat.beq j i then true else l.getD j true
  rw [Array.getD_eq_getD_getElem?,Array.getD_eq_getD_getElem?,Array.getElem?_setIfInBounds]
  by_cases e:i=j
  · subst e; simp [hi]
  · simp [e,A7H (Ne.symm e)]
theorem A4j:∀ (l:List Bool) (i:Nat),l[i]? = some false → ((l.set i true).filter (! ·)).length + 1=(l.filter (! ·)).length
  | [],i,h=>by simp at h
  | x :: l,0,h=>by simp at h; subst h; simp
  | x :: l,i + 1,h=>by
    have:=A4j l i (by simpa using h)
    cases x <;> simp at this ⊢ <;> omega
theorem A6a {l:Array Bool} (hs:l.size=ops.size) (hback:A0A ops=true):∀ (n i:Nat),i ≤ n → i < ops.size → T3 l i=false → ∃ j,j ∈ Region.ready .any ops l:=by
  intro n
  induction n with
  | zero =>
    intro i hn hi hf
    obtain rfl:i=0:=by omega
    refine ⟨0,(A0n hs hback).2 ⟨_,Array.getElem?_eq_getElem hi,hf,fun k hk=>?_⟩⟩
    have:=W2 hback (Array.getElem?_eq_getElem hi) k hk
    omega
  | succ n ih =>
    intro i hn hi hf
    by_cases h:∀ k ∈ N4 (ops[i]'hi),T3 l k=true
    · exact ⟨i,(A0n hs hback).2 ⟨_,Array.getElem?_eq_getElem hi,hf,h⟩⟩
    · have ⟨k,hk⟩:=Classical.not_forall.1 h
      have ⟨hk1,hk2⟩:=Classical.not_imp.1 hk
      have hlt:=W2 hback (Array.getElem?_eq_getElem hi) k hk1
      exact ih k (by omega) (by omega) (by simpa using hk2)
theorem A3R (S:(Nat → Bool) → St) (hback:A0A ops=true)
    (hs:∀ i o,ops[i]? = some o → ∀ b,M6 ops b → b i=false → (∀ k ∈ N4 o,b k=true) → V7 P B ops o (S b) (S (up b i)))
    (hend:∀ b,(∀ i,b i=true) → ∀ g a w,Rel B (S b) g a w → A5x B Φ .normal a w) :
    ∀ (n:Nat) (l:Array Bool),l.size=ops.size → (l.toList.filter (! ·)).length=n → M6 ops (T3 l) → ∀ g a w,Rel B (S (T3 l)) g a w → wpAny P .any ops (A5x B Φ) n l a w:=by
  intro n
  induction n with
  | zero =>
    intro l hl hn hc g a w hr
    have hall:∀ i,T3 l i=true:=by
      intro i
      unfold T3
      rw [Array.getD_eq_getD_getElem?]
      by_cases hi:i < l.size
      · rw [Array.getElem?_eq_getElem hi]
        have h0:l.toList.filter (! ·)=[]:=List.length_eq_zero_iff.1 hn
        have h1:=List.filter_eq_nil_iff.1 h0 l[i] (by simp)
        simpa using h1
      · rw [Array.getElem?_eq_none (by omega)]; rfl
    refine ⟨?_,hend _ hall g a w hr⟩
    cases hq:Region.ready .any ops l with
    | nil=>rfl
    | cons i rest =>
      have:i ∈ Region.ready .any ops l:=by rw [hq]; simp
      obtain ⟨o,_,h1,_⟩:=(A0n hl hback).1 this
      rw [hall] at h1
      cases h1
  | succ n ih =>
    intro l hl hn hc g a w hr
    refine ⟨fun h0=>?_,fun i hi=>?_⟩
    · exfalso
      have:∃ i,i < ops.size ∧ T3 l i=false:=by
        have h1:l.toList.filter (! ·) ≠ []:=by intro h; rw [h] at hn; simp at hn
        obtain ⟨x,hx⟩:=List.exists_mem_of_ne_nil _ h1
        rw [List.mem_filter] at hx
        obtain ⟨i,hi,hxi⟩:=List.getElem_of_mem hx.1
        have hi':i < l.size:=by simpa using hi
        refine ⟨i,by omega,?_⟩
        unfold T3
        rw [Array.getD_eq_getD_getElem?,Array.getElem?_eq_getElem hi']
        have:l[i]=x:=by simpa using hxi
        rw [this]
        simpa using hx.2
      obtain ⟨i,hi,hf⟩:=this
      obtain ⟨j,hj⟩:=A6a hl hback i i (Nat.le_refl _) hi hf
      rw [h0] at hj
      cases hj
    · obtain ⟨o,ho,h1,h2⟩:=(A0n hl hback).1 hi
      have hil:i < l.size:=by have:=(Array.getElem?_eq_some_iff.1 ho).1; omega
      have hstep:=hs i o ho (T3 l) hc h1 h2 g a w hr
      have hset:=A6R (l:=l) hil
      have hc':M6 ops (T3 (l.setIfInBounds i true)):=by
        rw [hset]
        intro j oj hoj hj k hk
        by_cases e:k=i
        · subst e; exact Y1 _ _
        · rw [T5 _ e]
          by_cases e2:j=i
          · subst e2
            obtain rfl:o=oj:=Option.some.inj (ho.symm.trans hoj)
            exact h2 k hk
          · rw [T5 _ e2] at hj
            exact hc j oj hoj hj k hk
      have hcount:((l.setIfInBounds i true).toList.filter (! ·)).length=n:=by
        have h3:l.toList[i]? = some false:=by
          unfold T3 at h1
          rw [Array.getD_eq_getD_getElem?,Array.getElem?_eq_getElem hil] at h1
          simp only [Array.getElem?_toList,Array.getElem?_eq_getElem hil]
          simpa using h1
        have:=A4j l.toList i h3
        rw [Array.toList_setIfInBounds]
        omega
      have next:∀ g' a' w',Rel B (S (up (T3 l) i)) g' a' w' → wpAny P .any ops (A5x B Φ) n (l.setIfInBounds i true) a' w':=fun g' a' w' hr' =>
        ih _ (by simp [hl]) hcount hc' g' a' w' (by rw [hset]; exact hr')
      have h4:=hstep (wpAny P .any ops (A5x B Φ) n (l.setIfInBounds i true)) (A5x B Φ) next
      unfold wpOp
      rw [ho]
      simp only
      split
      · rename_i hw; rw [if_pos hw] at h4; exact .inl h4
      · rename_i hw; rw [if_neg hw] at h4; exact h4
theorem j8 {id:Nat} (S:(Nat → Bool) → St) (hm:P.follows .mixedOrders=true) (hback:A0A ops=true) (h0:∀ b,(∀ i,i < ops.size → b i=false) → ∀ g a w,Rel B σ g a w → ∃ g',Rel B (S b) g' a w)
    (hs:∀ i o,ops[i]? = some o → ∀ b,M6 ops b → b i=false → (∀ k ∈ N4 o,b k=true) → V7 P B ops o (S b) (S (up b i)))
    (hend:∀ b,(∀ i,b i=true) → Φ .normal (S b)):AW P B (.region id ops true) Φ σ:=by
  intro g a w hr
  refine wp_region_any hm ?_
  obtain ⟨g',hr'⟩:=h0 (T3 (Array.replicate ops.size false)) (fun i hi=>by simp [T3,hi]) g a _ (hr.drawn (w.drawn + 1))
  refine A3R S hback hs (fun b hb g a w hr=>⟨S b,g,hr,hend b hb⟩) ops.size _ (by simp) (by simp) ?_ g' a _ hr'
  intro j o ho hj k hk
  have:=(Array.getElem?_eq_some_iff.1 ho).1
  simp [T3,this] at hj
end
end Go.Ab
