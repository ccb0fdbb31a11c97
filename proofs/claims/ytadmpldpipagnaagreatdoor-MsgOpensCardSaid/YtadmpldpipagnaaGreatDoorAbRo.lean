import Derived.Test.YtadmpldpipagnaaGreatDoorAbClo
namespace Go.Ab
open Go.RowKit
set_option linter.unusedVariables false
set_option linter.unusedSimpArgs false
def F3.men (π:F3) (i:Nat):Bool:=(match π.ds[i]? with | some (some _)=>true | _=>false) || (π.al.map (·.1) ++ π.st.map (·.1)).contains i
theorem F3.men_wr {π:F3} {k i:Nat} (h:wrF π.ds k 0=some i):π.men i=true:=by
  have:=(R1 h).2
  simp only [Nat.sub_zero] at this
  simp [F3.men,this]
theorem F3.men_al {π:F3} {s i:Nat} {ps:List PV} (h:alF π.al s=some (i,ps)):π.men i=true:=by
  have:(π.al.map (·.1) ++ π.st.map (·.1)).contains i=true:=by
    rw [List.contains_iff_mem]; exact List.mem_append_left _ (A0V h)
  simp only [F3.men,this,Bool.or_true]
theorem F3.men_st {π:F3} {x:Nat × Nat × Nat × List PV} (h:x ∈ π.st):π.men x.1=true:=by
  have:(π.al.map (·.1) ++ π.st.map (·.1)).contains x.1=true:=by
    rw [List.contains_iff_mem]; exact List.mem_append_right _ (List.mem_map.2 ⟨x,h,rfl⟩)
  simp only [F3.men,this,Bool.or_true]
theorem F3.S_congr {π:F3} {σ:St} {b c:Nat → Bool} (h:∀ i,π.men i=true → b i=c i):π.S σ b=π.S σ c:=by
  refine St.ext' rfl (fun k=>?_) (fun s=>?_) rfl
  · simp only [F3.S]
    cases hw:wrF π.ds k 0 with
    | none=>rfl
    | some i=>simp only; rw [h i (F3.men_wr hw)]
  · show stL b s π.st (π.L0 σ b s)=stL c s π.st (π.L0 σ c s)
    have e:π.L0 σ b s=π.L0 σ c s:=by
      simp only [F3.L0]
      cases ha:alF π.al s with
      | none=>rfl
      | some y=>obtain ⟨i',ps⟩:=y; simp only; rw [h i' (F3.men_al ha)]
    rw [e]
    exact U5 _ _ fun x hx _=>h x.1 (F3.men_st hx)
theorem F3.S_none {π:F3} {σ:St} (hfr:∀ s i ps,alF π.al s=some (i,ps) → σ.L s=none):π.S σ (fun _=>false)=σ:=by
  refine St.ext' rfl (fun k=>?_) (fun s=>?_) rfl
  · simp only [F3.S]; cases wrF π.ds k 0 <;> rfl
  · show stL (fun _=>false) s π.st (π.L0 σ (fun _=>false) s)=σ.L s
    rw [f0 _ _ (fun _ _ _=>rfl)]
    simp only [F3.L0]
    cases ha:alF π.al s with
    | none=>rfl
    | some y=>obtain ⟨i',ps⟩:=y; simp only; rw [hfr s i' ps ha]; rfl
theorem F3.start' {B:Base} {π:F3} {σ:St} {b:Nat → Bool} (hb:∀ i,π.men i=true → b i=false):∀ g a w,Rel B σ g a w → ∃ g',Rel B (π.S (π.base σ) b) g' a w:=by
  intro g a w hr
  have h1:∀ (l:List (Nat × Nat × List PV)) (σ:St),Rel B σ g a w → Rel B (l.foldl (fun σ x=>σ.fresh x.2.1) σ) g a w:=by
    intro l
    induction l with
    | nil=>exact fun _ h=>h
    | cons x l ih=>exact fun σ h=>ih _ (h.fresh x.2.1)
  refine ⟨g,?_⟩
  rw [F3.S_congr (c:=fun _=>false) hb,F3.S_none (σ:=π.base σ) (fun s i ps h=>A0S _ _ (.inr ⟨_,A0U h,rfl⟩))]
  exact h1 π.al σ hr
def A6I (ops:Array Oper):List Nat → List Nat → List Nat
  | [],s=>s
  | j :: r,s=>bif s.contains j then (match ops[j]? with | some o=>A6I ops r (N4 o ++ s) | none=>A6I ops r s) else A6I ops r s
theorem A0f {ops:Array Oper} {b:Nat → Bool} (hc:M6 ops b):∀ (l s:List Nat),(∀ j ∈ s,b j=true) → ∀ j ∈ A6I ops l s,b j=true
  | [],s,h,j,hj=>h j hj
  | i :: r,s,h,j,hj=>by
    simp only [A6I] at hj
    cases hq:s.contains i with
    | false=>rw [hq] at hj; exact A0f hc r s h j hj
    | true =>
      rw [hq,cond_true] at hj
      cases ho:ops[i]? with
      | none=>rw [ho] at hj; exact A0f hc r s h j hj
      | some o =>
        rw [ho] at hj
        refine A0f hc r (N4 o ++ s) (fun k hk=>?_) j hj
        rcases List.mem_append.1 hk with hk | hk
        · exact hc i o ho (h i (List.contains_iff_mem.1 hq)) k hk
        · exact h k hk
def X3 (ops:Array Oper) (k:Nat):List Nat:=match ops[k]? with | some o=>A6I ops (List.range k).reverse (N4 o) | none=>[]
theorem U4 {ops:Array Oper} {b:Nat → Bool} (hc:M6 ops b) {k:Nat} {o:Oper} (ho:ops[k]? = some o) (hd:∀ d ∈ N4 o,b d=true) {j:Nat} (h:(X3 ops k).contains j=true):b j=true:=by
  have h:=List.contains_iff_mem.1 h
  simp only [X3,ho] at h
  exact A0f hc _ _ hd j h
def Fam (P:Program) (B:Base) (ops:Array Oper) (lo:Nat) (σ:St) (Ψ:St → Prop):Prop:=∃ S:(Nat → Bool) → St,
  (∀ b,(∀ i,lo ≤ i → i < ops.size → b i=false) → ∀ g a w,Rel B σ g a w → ∃ g',Rel B (S b) g' a w) ∧
  (∀ i o,lo ≤ i → ops[i]? = some o → ∀ b,M6 ops b → b i=false → (∀ k ∈ N4 o,b k=true) → V7 P B ops o (S b) (S (up b i))) ∧
  (∀ b,(∀ i,b i=true) → Ψ (S b))
section
variable {P:Program} {B:Base} {Φ:Exit → St → Prop} {σ:St} {l:List Oper} {Ψ:St → Prop}
theorem aw_fam {id:Nat} (hm:P.follows .mixedOrders=true) (hback:A0A l.toArray=true) (h:Fam P B l.toArray 0 σ (Φ .normal)):AW P B (.region id l.toArray true) Φ σ:=by
  obtain ⟨S,h1,h2,h3⟩:=h
  exact j8 S hm hback (fun b hb=>h1 b fun i _ hi=>hb i hi) (fun i o ho b=>h2 i o (Nat.zero_le _) ho b) h3
theorem A6X {S:(Nat → Bool) → St} {lo:Nat} (hs:A1P P B l.toArray S (l.drop lo) lo):∀ i o,lo ≤ i → l.toArray[i]? = some o → ∀ b,M6 l.toArray b → b i=false → (∀ k ∈ N4 o,b k=true) → V7 P B l.toArray o (S b) (S (up b i)):=by
  intro i o hi ho b
  have:=m7 hs (i - lo) o (by rw [List.getElem?_drop,show lo + (i - lo)=i by omega]; simpa using ho) b
  rwa [show lo + (i - lo)=i by omega] at this
theorem fam_plan {lo:Nat} (π:F3) (hmen:(List.range π.ds.length).all (fun i=>!π.men i || Nat.ble lo i)=true) (hn:π.ds.length=l.length) (hi:(π.al.map (·.1) ++ π.st.map (·.1)).all (fun i=>Nat.blt i l.length)=true)
    (hs:A1P P B l.toArray (π.S (π.base σ)) (l.drop lo) lo) (hend:∀ b,(∀ i,b i=true) → Ψ (π.S (π.base σ) b)):Fam P B l.toArray lo σ Ψ:=by
  refine ⟨_,fun b hb=>F3.start' fun i hm=>?_,A6X hs,hend⟩
  have hil:i < l.length:=by
    simp only [F3.men,Bool.or_eq_true] at hm
    rcases hm with hm | hm
    · cases hq:π.ds[i]? with
      | none=>rw [hq] at hm; cases hm
      | some x=>have:=(List.getElem?_eq_some_iff.1 hq).1; omega
    · exact blt (List.all_eq_true.1 hi i (List.contains_iff_mem.1 hm))
  have:=List.all_eq_true.1 hmen i (List.mem_range.2 (by omega))
  rw [hm] at this
  exact hb i (Nat.le_of_ble_eq_true (by simpa using this)) (by simpa using hil)
theorem fam_cut {lo k:Nat} {o:Oper} {σ':Unit → St} (π:F3) (ho:l[k]? = some o) (hlo:Nat.ble lo k=true) (hn:π.ds.length=l.length) (hi:(π.al.map (·.1) ++ π.st.map (·.1)).all (fun i=>Nat.blt i l.length)=true)
    (hmen:(List.range l.length).all (fun i=>!π.men i || (Nat.ble lo i && Nat.blt i k))=true)
    (hpre:(List.range k).all (fun j=>Nat.blt j lo || (X3 l.toArray k).contains j)=true)
    (hpost:(List.range l.length).all (fun j=>Nat.ble j k || (X3 l.toArray j).contains k)=true)
    (hs:A1P P B l.toArray (π.S (π.base σ)) ((l.take k).drop lo) lo) (hg:o.guard=none)
    (hk:OpStepX P B o (π.S (π.base σ) (fun _=>true)) (fun _:Unit=>True) σ') (hnext:Fam P B l.toArray (k + 1) (σ' ()) Ψ):Fam P B l.toArray lo σ Ψ:=by
  obtain ⟨S1,h1,h2,h3⟩:=hnext
  have hlo:=Nat.le_of_ble_eq_true hlo
  have men_in:∀ i,π.men i=true → lo ≤ i ∧ i < k:=by
    intro i hm
    have hil:i < l.length:=by
      simp only [F3.men,Bool.or_eq_true] at hm
      rcases hm with hm | hm
      · cases hq:π.ds[i]? with
        | none=>rw [hq] at hm; cases hm
        | some x=>have:=(List.getElem?_eq_some_iff.1 hq).1; omega
      · exact blt (List.all_eq_true.1 hi i (List.contains_iff_mem.1 hm))
    have:=List.all_eq_true.1 hmen i (List.mem_range.2 hil)
    rw [hm] at this
    simp only [Bool.not_true,Bool.false_or,Bool.and_eq_true] at this
    exact ⟨Nat.le_of_ble_eq_true this.1,blt this.2⟩
  have hko:l.toArray[k]? = some o:=by simpa using ho
  have hkl:k < l.length:=(List.getElem?_eq_some_iff.1 ho).1
  refine ⟨fun b=>bif b k then S1 b else π.S (π.base σ) b,fun b hb g a w hr=>?_,fun i oi hi' hoi b hc hbi hd=>?_,fun b hb=>?_⟩
  · have hbk:b k=false:=hb k hlo (by simpa using hkl)
    simp only [hbk,cond_false]
    exact F3.start' (fun i hm=>hb i (men_in i hm).1 (by have:=(men_in i hm).2; simp; omega)) g a w hr
  · have post:∀ j oj,l.toArray[j]? = some oj → k < j → (∀ d ∈ N4 oj,b d=true) → b k=true:=by
      intro j oj hoj hkj hdj
      have hjl:j < l.length:=by have:=(Array.getElem?_eq_some_iff.1 hoj).1; simpa using this
      have:=List.all_eq_true.1 hpost j (List.mem_range.2 hjl)
      rw [Bool.or_eq_true] at this
      rcases this with h | h
      · have:=Nat.le_of_ble_eq_true h; omega
      · exact U4 hc hoj hdj h
    rcases Nat.lt_trichotomy i k with hik | hik | hik
    · have hbk:b k=false:=by
        cases hq:b k with
        | false=>rfl
        | true =>
          have hp:=List.all_eq_true.1 hpre i (List.mem_range.2 hik)
          rw [Bool.or_eq_true] at hp
          rcases hp with h | h
          · have:=blt h; omega
          · have:=U4 hc hko (fun d hd'=>hc k o hko hq d hd') h
            rw [hbi] at this; cases this
      have hoi':(l.take k)[i]? = some oi:=by rw [List.getElem?_take_of_lt hik]; simpa using hoi
      have hst:=m7 hs (i - lo) oi (by rw [List.getElem?_drop,show lo + (i - lo)=i by omega]; exact hoi') b
      rw [show lo + (i - lo)=i by omega] at hst
      have:=hst hc hbi hd
      simp only [T5 b (show k ≠ i by omega),hbk,cond_false]
      exact this
    · subst hik
      obtain rfl:o=oi:=Option.some.inj (hko.symm.trans hoi)
      simp only [hbi,Y1,cond_false,cond_true]
      have full:π.S (π.base σ) b=π.S (π.base σ) (fun _=>true):=by
        refine F3.S_congr fun j hj=>?_
        obtain ⟨m1,m2⟩:=men_in j hj
        have hp:=List.all_eq_true.1 hpre j (List.mem_range.2 m2)
        rw [Bool.or_eq_true] at hp
        rcases hp with h | h
        · have:=blt h; omega
        · exact U4 hc hko hd h
      rw [full]
      have none:∀ j,i + 1 ≤ j → j < l.toArray.size → up b i j=false:=by
        intro j hj hjl
        rw [T5 b (by omega)]
        cases hq:b j with
        | false=>rfl
        | true =>
          have hoj:=Array.getElem?_eq_getElem hjl
          have:=post j _ hoj (by omega) (fun d hd'=>hc j _ hoj hq d hd')
          rw [hbi] at this; cases this
      intro g a w hr K Q hK
      rw [if_pos (by simp [Region.wanted,hg])]
      refine hk g a w hr K Q fun x _ g' a' w' hr'=>?_
      obtain ⟨g'',hr''⟩:=h1 _ none g' a' w' hr'
      exact hK _ _ _ hr''
    · have hbk:=post i oi hoi hik hd
      simp only [T5 b (show k ≠ i by omega),hbk,cond_true]
      exact h2 i oi hik hoi b hc hbi hd
  · simp only [hb k,cond_true]
    exact h3 b hb
end
end Go.Ab
theorem Go.Ab.opx {P:Go.Program} {B:Go.Ab.Base} {σ σ':Go.Ab.St} {o:Go.Oper} (h:Go.Ab.OpStep P B o σ σ'):Go.Ab.OpStepX P B o σ (fun _:Unit=>True) (fun _=>σ'):=
  fun g a w hr K Q hK=>h g a w hr K Q (hK () trivial)
