import Derived.Test.YtadmpldpipagnaaGreatDoorAbPh
namespace Go.Ab
open Go.RowKit
set_option linter.unusedVariables false
set_option linter.unusedSimpArgs false
theorem fn' {β:Type} {p:β → Prop}:∀ x ∈ ([]:List β),p x:=fun _ h=>nomatch h
theorem fc {β:Type} {p:β → Prop} {y:β} {l:List β} (h:p y) (hs:∀ x ∈ l,p x):∀ x ∈ y :: l,p x:=List.forall_mem_cons.2 ⟨h,hs⟩
section
variable {P:Program} {B:Base} {σ:St} {Φ:Exit → St → Prop}
theorem A6D {bxs:List (Nat × Nat × List PV × List PV)} {tps:List (Nat × Nat × (Nat × Nat))} {newS newT:List (Nat × Nat)} {L:Bx} {T:Tp} {ρi τi ρ τ:List (Nat × Nat)}
    (hL:bxs.map (fun b=>(b.1,b.2.2.2))=L) (hT:tps.map (fun t=>(t.1,t.2.2))=T) (hρi:bxs.map (fun b=>(b.2.1,b.1))=ρi) (hτi:tps.map (fun t=>(t.2.1,t.1))=τi)
    (hρ:bxs.map (fun b=>(b.1,b.2.1)) ++ newS=ρ) (hτ:tps.map (fun t=>(t.1,t.2.1)) ++ newT=τ)
    (nd:(ρ.map (·.1)).Nodup ∧ (ρ.map (·.2)).Nodup ∧ (τ.map (·.1)).Nodup ∧ (τ.map (·.2)).Nodup)
    (hb:∀ b ∈ bxs,σ.L b.2.1=some b.2.2.1 ∧ WkL (b.2.2.1.map (PV.via1 (G3 ρi) (G3 τi))) b.2.2.2)
    (htp:∀ t ∈ tps,σ.T t.2.1=some t.2.2) (hpin:newS.all (fun x=>(B.pin x.2).isNone)=true) :
    A6H L T ρi τi ρ τ ∧ (∀ x ∈ τi,G3 T x.2=σ.T x.1) ∧ (∀ x ∈ L,∀ s',(s',x.1) ∈ ρi → ∃ ps,σ.L s'=some ps ∧ WkL (ps.map (PV.via1 (G3 ρi) (G3 τi))) x.2) ∧ (∀ x ∈ ρ,G3 L x.1=none → B.pin x.2=none):=by
  subst hL hT hρi hτi hρ hτ
  obtain ⟨n1,n2,m1,m2⟩:=nd
  have uniq:∀ {β:Type} {l:List (Nat × β)} {k:Nat} {x y:β},(l.map (·.1)).Nodup → (k,x) ∈ l → (k,y) ∈ l → x=y:=by
    intro β l k x y hn h1 h2
    have:=W5 hn h1
    rw [W5 hn h2] at this
    exact (Option.some.inj this).symm
  refine ⟨{ n1:=n1,n2:=n2,m1:=m1,m2:=m2,ii:=?_,it:=?_,li:=?_,ti:=?_ },?_,?_,?_⟩
  · intro x hx
    obtain ⟨b,hb',rfl⟩:=List.mem_map.1 hx
    exact W5 n1 (List.mem_append_left _ (List.mem_map.2 ⟨b,hb',rfl⟩))
  · intro x hx
    obtain ⟨b,hb',rfl⟩:=List.mem_map.1 hx
    exact W5 m1 (List.mem_append_left _ (List.mem_map.2 ⟨b,hb',rfl⟩))
  · intro x hx
    obtain ⟨b,hb',rfl⟩:=List.mem_map.1 hx
    exact ⟨b.2.1,List.mem_map.2 ⟨b,hb',rfl⟩⟩
  · intro x hx
    obtain ⟨b,hb',rfl⟩:=List.mem_map.1 hx
    exact ⟨b.2.1,List.mem_map.2 ⟨b,hb',rfl⟩⟩
  · intro x hx
    obtain ⟨b,hb',rfl⟩:=List.mem_map.1 hx
    rw [htp b hb']
    refine W5 ?_ (List.mem_map.2 ⟨b,hb',rfl⟩)
    have m1:=m1
    simp only [List.map_append,List.map_map,List.nodup_append] at m1
    simpa [Function.comp_def] using m1.1
  · intro x hx s' hs'
    obtain ⟨b,hb',rfl⟩:=List.mem_map.1 hx
    obtain ⟨c,hc',he⟩:=List.mem_map.1 hs'
    simp only [Prod.mk.injEq] at he
    obtain ⟨rfl,e2⟩:=he
    have n1':((bxs.map fun b=>(b.1,(b.2.1,b.2.2))).map (·.1)).Nodup:=by
      have n1:=n1
      simp only [List.map_append,List.map_map,List.nodup_append] at n1
      simpa [Function.comp_def] using n1.1
    have:(b.2.1,b.2.2)=(c.2.1,c.2.2):=uniq n1' (List.mem_map.2 ⟨b,hb',rfl⟩) (List.mem_map.2 ⟨c,hc',by rw [e2]⟩)
    simp only [Prod.mk.injEq] at this
    rw [← this.1]
    exact ⟨_,(hb b hb').1,(hb b hb').2⟩
  · intro x hx hl
    rcases List.mem_append.1 hx with hx | hx
    · obtain ⟨b,hb',rfl⟩:=List.mem_map.1 hx
      have:(G3 (bxs.map fun b=>(b.1,b.2.2.2)) b.1)=some b.2.2.2:=by
        refine W5 ?_ (List.mem_map.2 ⟨b,hb',rfl⟩)
        have n1:=n1
        simp only [List.map_append,List.map_map,List.nodup_append] at n1
        simpa [Function.comp_def] using n1.1
      rw [this] at hl
      cases hl
    · rw [List.all_eq_true] at hpin
      simpa using hpin x hx
theorem j5 {o:Oper} {d:Nat} {f:FuncId} {fn:Func} {xs:List Operand} {ts:Array TypeId} {args:List PV} {ι:Type} {Qx:ι → Prop} {out:ι → s9} {bxs:List (Nat × Nat × List PV × List PV)} {tps:List (Nat × Nat × (Nat × Nat))} {newS newT:List (Nat × Nat)} {L:Bx} {T:Tp} {ρi τi ρ τ:List (Nat × Nat)}
    (hd:o.dst=some d) (hN:Nat.blt d σ.N=true) (ho:o.op=.call { callee:=.value (.func f),args:=xs.toArray,argTypes:=ts })
    (hf:P.funcs[f]? = some fn) (hn:(fn.name == "runtime.NumGoroutine")=false) (hbd:fn.body.isNone=false)
    (h:PG P f L T args Qx out)
    (hL:bxs.map (fun b=>(b.1,b.2.2.2))=L) (hT:tps.map (fun t=>(t.1,t.2.2))=T) (hρi:bxs.map (fun b=>(b.2.1,b.1))=ρi) (hτi:tps.map (fun t=>(t.2.1,t.1))=τi)
    (hρ:bxs.map (fun b=>(b.1,b.2.1)) ++ newS=ρ) (hτ:tps.map (fun t=>(t.1,t.2.1)) ++ newT=τ)
    (nd:(ρ.map (·.1)).Nodup ∧ (ρ.map (·.2)).Nodup ∧ (τ.map (·.1)).Nodup ∧ (τ.map (·.2)).Nodup)
    (hb:∀ b ∈ bxs,σ.L b.2.1=some b.2.2.1 ∧ WkL (b.2.2.1.map (PV.via1 (G3 ρi) (G3 τi))) b.2.2.2)
    (htp:∀ t ∈ tps,σ.T t.2.1=some t.2.2)
    (ha:WkT (xs.map fun x=>(σ.ev x).via (G3 ρi) (G3 τi)) args) (ht:(xs.map fun x=>(σ.ev x).via (G3 ρi) (G3 τi)).all N9=true)
    (hko:∀ x,(out x).L.map (·.1)=ρ.map (·.1)) (hkt:∀ x,(out x).T.map (·.1)=τ.map (·.1)) (hpin:newS.all (fun x=>(B.pin x.2).isNone)=true) :
    OpStepX P B o σ Qx (fun x=>(σ.behind L ρ τ (out x)).put d ((out x).r.via (G3 ρ) (G3 τ))):=by
  obtain ⟨k,hT',hL',hp⟩:=A6D hL hT hρi hτi hρ hτ nd hb htp hpin (σ:=σ) (B:=B)
  exact A6k hd hN ho hf hn hbd k hT' hL' ha ht hko hkt hp h
theorem F7 {R:Type} {F:R → s9} {z v:R} {l:List ResultVar} (hz:z=v) {o:s9} (ho:F v=o) (h:A3u P σ (idm o.L) (idm o.T) l o.r) (hb:m9 σ (idm o.L) (idm o.T) o.L) (ht:A0F σ o.T) :
    A8X P l (fun _:Unit=>True) (fun _=>F z) .ret σ:=by
  subst hz ho
  exact ⟨(),trivial,h,hb,ht⟩
theorem endG_nm {R:Type} {F:R → s9} {z v:R} {l:List ResultVar} (hz:z=v) {o:s9} (ho:F v=o) (h:A3u P σ (idm o.L) (idm o.T) l o.r) (hb:m9 σ (idm o.L) (idm o.T) o.L) (ht:A0F σ o.T) :
    A8X P l (fun _:Unit=>True) (fun _=>F z) .normal σ:=by
  subst hz ho
  exact ⟨(),trivial,h,hb,ht⟩
end
theorem bT {α:Type} {b:Bool} {x y v:α} (h:b=true) (e:x=v):(bif b then x else y)=v:=by subst h; exact e
theorem bF {α:Type} {b:Bool} {x y v:α} (h:b=false) (e:y=v):(bif b then x else y)=v:=by subst h; exact e
theorem mL {α β γ:Type} {r:α ⊕ β} {f:α → γ} {g:β → γ} {x:α} {v:γ} (h:r=.inl x) (e:f x=v):Sum.elim f g r=v:=by subst h; exact e
theorem mR {α β γ:Type} {r:α ⊕ β} {f:α → γ} {g:β → γ} {x:β} {v:γ} (h:r=.inr x) (e:g x=v):Sum.elim f g r=v:=by subst h; exact e
def ix {α:Type} [Inhabited α] (l:List α) (i:Int):α:=l.getD i.toNat default
def sub {α:Type} (l:List α) (lo hi:Int):List α:=(l.take hi.toNat).drop lo.toNat
theorem A2w {α:Type} [Inhabited α] {l:List α} {i:Int} (h:0 ≤ i ∧ i < (l.length:Int)):l[i.toNat]? = some (ix l i):=by
  have:i.toNat < l.length:=by omega
  simp [ix,this]
theorem sub_length {α:Type} (l:List α) (lo hi:Int) (h:0 ≤ lo ∧ lo ≤ hi ∧ hi ≤ (l.length:Int)):((sub l lo hi).length:Int)=hi - lo:=by
  simp [sub]; omega
theorem D2 (n:Int):IntKind.wrap .i64 n=(n + 9223372036854775808) % 18446744073709551616 - 9223372036854775808:=by
  show (if true && decide (n % 18446744073709551616 ≥ 9223372036854775808) then n % 18446744073709551616 - 18446744073709551616 else n % 18446744073709551616)=_
  by_cases h:n % 18446744073709551616 ≥ 9223372036854775808
  · rw [decide_eq_true h]; simp; omega
  · rw [decide_eq_false h]; simp; omega
theorem C9 (n:Int):IntKind.wrap .u8 n=n % 256:=by simp [IntKind.wrap,IntKind.bits,IntKind.signed]
theorem C4 (n:Int):IntKind.wrap .u16 n=n % 65536:=by simp [IntKind.wrap,IntKind.bits,IntKind.signed]
theorem C3 (n:Int):IntKind.wrap .u32 n=n % 4294967296:=by simp [IntKind.wrap,IntKind.bits,IntKind.signed]
theorem C5 (n:Int):IntKind.wrap .u64 n=n % 18446744073709551616:=by simp [IntKind.wrap,IntKind.bits,IntKind.signed]
section
variable {P:Program} {B:Base} {Φ:Exit → St → Prop} {σ σ':St} {ops:Array Oper} {o og:Oper}
def A5y (want:Bool):Value → Bool
  | .bool b=>b != want
  | _=>true
def A5W:Value → Option Bool
  | .bool b=>some b
  | _=>none
theorem A6f {want:Bool}:∀ {v:Value},A5y want v=true → (A5W v == some want)=false:=by
  intro v h
  cases v <;> simp_all [A5y,A5W]
theorem A3e {a:Act} {j d:Nat} {v:Value} (hj:ops[j]? = some og) (hd:og.dst=some d) (h3:a.tmps[d]? = some v):yielded ops a.tmps j=A5W v:=by
  simp only [yielded,hj,Option.bind_some,hd,h3]
  cases v <;> rfl
theorem A3B {g:Gh} {a:Act} {w:World} (hr:Rel B σ g a w) {j d:Nat} {want:Bool} {v:Value} (hg:o.guard=some (j,want)) (hj:ops[j]? = some og) (hd:og.dst=some d) (hb:σ.env d=.sc v) (hdn:Nat.blt d σ.N=true) (hv:A5y want v=true):¬ (Region.wanted o (yielded ops a.tmps)=true):=by
  have h1:=hr.env d
  rw [hb] at h1
  have h1:a.tmps.getD d undef=v:=h1
  have h2:d < a.tmps.size:=by rw [hr.size]; exact blt hdn
  have h3:a.tmps[d]? = some v:=by
    rw [Array.getD_eq_getD_getElem?,Array.getElem?_eq_getElem h2] at h1
    rw [Array.getElem?_eq_getElem h2]
    simpa using h1
  have hy:=A3e hj hd h3
  simp only [Region.wanted,hg,hy,A6f hv]
  simp
theorem A8Z {j d t:Nat} {want:Bool} {v:Value} (hg:o.guard=some (j,want)) (hj:ops[j]? = some og) (hd:og.dst=some d) (hb:σ.env d=.sc v) (hdn:Nat.blt d σ.N=true) (hv:A5y want v=true) (ho:o.dst=some t) (htn:Nat.blt t σ.N=true) :
    V7 P B ops o σ (σ.put t (.sc undef)):=by
  intro g a w hr K Q hK
  rw [if_neg (A3B hr hg hj hd hb hdn hv),ho]
  exact hK _ _ _ (hr.put (blt htn) rfl)
theorem A6n {l:List Oper} {j d t:Nat} {want:Bool} {v:Value} (hg:o.guard=some (j,want)) (hj:ops[j]? = some og) (hd:og.dst=some d) (hb:σ.env d=.sc v) (hdn:Nat.blt d σ.N=true) (hv:A5y want v=true) (ho:o.dst=some t) (htn:Nat.blt t σ.N=true)
    (hk:AL P B ops Φ l (σ.put t (.sc undef))):AL P B ops Φ (o :: l) σ:=by
  intro g a w hr
  refine wpList_step fun K hK=>?_
  rw [if_neg (A3B hr hg hj hd hb hdn hv),ho]
  exact hK _ _ (hk _ _ _ (hr.put (blt htn) rfl))
theorem aw_case {c:Code} (b:Bool) (ht:b=true → AW P B c Φ σ) (hf:b=false → AW P B c Φ σ):AW P B c Φ σ:=by
  cases b
  · exact hf rfl
  · exact ht rfl
theorem A4r {o:Oper} {d:Nat} {c x y:Operand} {b b':Bool} {p:PV} (hd:o.dst=some d) (hN:Nat.blt d σ.N=true) (ho:o.op=.pick c x y) (hc:σ.ev c=.sc (.bool b)) (hb:b=b') (hp:(match b' with | true=>σ.ev x | false=>σ.ev y)=p):OpStep P B o σ (σ.put d p):=
  Y5 hd (blt hN) ho hc (fun h=>by subst h; subst hb; exact hp) (fun h=>by subst h; subst hb; exact hp)
theorem nbT {b:Bool} (h:b=true):A5y false (.bool b)=true:=by subst h; rfl
theorem nbF {b:Bool} (h:b=false):A5y true (.bool b)=true:=by subst h; rfl
theorem bval {b c:Bool} (h:b=c):PV.sc (.bool b)=.sc (.bool c):=by rw [h]
end
end Go.Ab
