import Derived.Test.YtadmpldpipagnaaGreatDoorAbRet
import Derived.Laws.Slices
namespace Go.Ab
open Go.RowKit
set_option linter.unusedVariables false
set_option linter.unusedSimpArgs false
def St.of (N:Nat) (env:List (Nat × PV)) (L:Bx) (T:Tp):St:={ N,env:=fun k=>(G3 env k).getD .any,L:=G3 L,T:=G3 T }
def Sub (σ S:St):Prop:=∀ (B:Base) (g:Gh) (a:Act) (w:World),Rel B σ g a w → Rel B S g a w
def A7o (σ:St) (τ:Nat → Option Nat):List (Nat × PV) → Prop
  | []=>True
  | (k,q) :: r=>(N9 ((σ.env k).via some τ)=true ∧ WkA ((σ.env k).via some τ) q) ∧ A7o σ τ r
theorem A4m {σ:St} {τ:Nat → Option Nat}:∀ {l:List (Nat × PV)},A7o σ τ l → ∀ x ∈ l,N9 ((σ.env x.1).via some τ)=true ∧ WkA ((σ.env x.1).via some τ) x.2
  | (s,qs) :: r,⟨h1,h2⟩,x,hx=>by
    rcases List.mem_cons.1 hx with rfl | hx
    · exact h1
    · exact A4m h2 x hx
theorem G9 {σ:St} {N:Nat} {env:List (Nat × PV)} {L:Bx} {T:Tp} (hN:σ.N=N) (he:A7o σ (idm T) env) (hL:m9 σ some (idm T) L) (hT:A0F σ T):Sub σ (St.of N env L T):=by
  intro B g a w hr
  have tk:∀ t y,G3 T t=some y → σ.T t=some y:=fun t y h=>A0J hT _ (O2 h)
  have f1:∀ p v,K2 σ.T g p v → K2 (G3 T) g (p.via1 some (idm T)) v:=
    r9 (Imm.le_refl _) (fun s s' e=>by rw [Option.some.inj e]) (fun t t' e=>by
      obtain rfl:=A6d e
      obtain ⟨y,hy⟩:=A4y e
      exact ⟨rfl,hy.trans (tk _ _ hy).symm⟩)
  have bx:∀ s qs,G3 L s=some qs → ∃ ps,σ.L s=some ps ∧ WkL (ps.map (PV.via1 some (idm T))) qs:=fun s qs h=>u7 hL _ (O2 h)
  refine { size:=hr.size.trans hN,env:=?_,defers:=hr.defers,imm:=hr.imm,box:=?_,apart:=?_,tip:=?_,tips:=?_,boxtip:=?_,below:=hr.below,immle:=hr.immle,immnew:=hr.immnew,pin:=hr.pin }
  · intro k
    show Rep (G3 T) g ((G3 env k).getD .any) _
    cases hk:G3 env k with
    | none=>trivial
    | some q =>
      obtain ⟨h1,h2⟩:=A4m he _ (O2 hk)
      exact T0 (A4q h2 (Z8 (A1K h1) (Z5 f1 (hr.env k))))
  · intro s qs h
    obtain ⟨ps,h6,h7⟩:=bx s qs h
    obtain ⟨cs,ty,h8,h9,h10⟩:=hr.box s ps h6
    exact ⟨cs,ty,h8,A1w h7 (P7 f1 h9),h10⟩
  · intro s s' qs qs' h h' hne
    obtain ⟨ps,h6,_⟩:=bx s qs h
    obtain ⟨ps',h7,_⟩:=bx s' qs' h'
    exact hr.apart s s' _ _ h6 h7 hne
  · intro t sz m b c h1 h2
    exact hr.tip t sz m b c (tk _ _ h1) h2
  · intro t t' y y' b b' c c' h1 h2 h3 h4 hne
    exact hr.tips t t' _ _ _ _ _ _ (tk _ _ h1) (tk _ _ h2) h3 h4 hne
  · intro s qs t y b c h h2 h3
    obtain ⟨ps,h6,_⟩:=bx s qs h
    exact hr.boxtip s ps t y b c h6 (tk _ _ h2) h3
theorem wkE {α:Type} {f:α → PV} {x y:α} (h:y=x):Wk (f x) (f y):=h ▸ .rfl _
theorem wkN {α:Type} {E:Enc α} {l:List α} (h:l=[]):Wk (.sc (.slice none 0 0)) (.sem (SL E l)):=h ▸ .nil E
theorem tipE {σ:St} {t sz:Nat} {α:Type} {l l':List α} (h:l'=l) (ht:σ.T t=some (sz,l.length)):σ.T t=some (sz,l'.length):=h ▸ ht
section
variable {P:Program} {B:Base} {σ:St} {Φ:Exit → St → Prop}
theorem A4u {c:Code} {S:St} (h:Sub σ S) (hc:AW P B c Φ S):AW P B c Φ σ:=fun g a w hr=>hc g a w (h B g a w hr)
theorem al_sub {ops:Array Oper} {l:List Oper} {S:St} (h:Sub σ S) (hc:AL P B ops Φ l S):AL P B ops Φ l σ:=fun g a w hr=>hc g a w (h B g a w hr)
theorem A8c {x y:Code} {S:St} (h:AW P B x (A1v (fun σ'=>Sub σ' S) Φ) σ) (hy:AW P B y Φ S):AW P B (.seq x y) Φ σ:=
  A2G (fun σ'=>Sub σ' S) h (fun _ hs=>A4u hs hy)
theorem R3 {c:Code} {ι:Type} (S:ι → St) (J:ι → Prop) (μ:ι → Nat) (i₀:ι) (h₀:Sub σ (S i₀)) (hJ:J i₀)
    (round:∀ i,J i → AW P B c (A1v (fun σ''=>∃ j,Sub σ'' (S j) ∧ J j ∧ μ j < μ i) Φ) (S i)):AW P B (.loop c) Φ σ:=
  A8A (I:=fun i σ'=>Sub σ' (S i) ∧ J i) μ i₀ ⟨h₀,hJ⟩ fun i σ' ⟨h1,h2⟩ =>
    A4G (A4u h1 (round i h2)) fun e σ'' q=>by
      cases e with
      | normal=>obtain ⟨j,q1,q2,q3⟩:=q; exact ⟨j,⟨q1,q2⟩,q3⟩
      | _=>exact q
theorem N8 {x y:Code} {ι:Type} {p:ι → Prop} (S:ι → St) (h:AW P B x (A1v (fun σ'=>∃ v,p v ∧ Sub σ' (S v)) Φ) σ) (hy:∀ v,p v → AW P B y Φ (S v)):AW P B (.seq x y) Φ σ:=
  A2G (fun σ'=>∃ v,p v ∧ Sub σ' (S v)) h (fun _ ⟨v,hp,hs⟩=>A4u hs (hy v hp))
theorem A8i {α:Type} {E:Enc α} {l:List α} {imm:Imm} {v:Value} (h:m5 E l imm v):l.length ≤ 9223372036854775807:=by
  obtain ⟨_,c,_,h1,h2,_⟩:=h
  omega
theorem H5 {α:Type} {E:Enc α} {l:List α} {c:Code} (k:Nat) (hk:σ.env k=.sem (SL E l)) (h:l.length ≤ 9223372036854775807 → AW P B c Φ σ):AW P B c Φ σ:=by
  intro g a w hr
  refine h ?_ g a w hr
  have:=hr.env k
  rw [hk] at this
  exact A8i this
theorem P8 {α:Type} {E:Enc α} {l:List α} {c:Code} {t n:Nat} (k:Nat) (hk:σ.env k=.own t n (SL E l)) (h:l.length ≤ 9223372036854775807 → AW P B c Φ σ):AW P B c Φ σ:=by
  intro g a w hr
  refine h ?_ g a w hr
  have:=hr.env k
  rw [hk] at this
  exact A8i this.1
theorem L4 {α:Type} {E:Enc α} {l:List α} {c:Code} {ps:List PV} (k i:Nat) (hk:σ.env k=.agg ps) (hi:ps[i]? = some (.sem (SL E l))) (h:l.length ≤ 9223372036854775807 → AW P B c Φ σ):AW P B c Φ σ:=by
  intro g a w hr
  refine h ?_ g a w hr
  have:=hr.env k
  rw [hk] at this
  obtain ⟨vs,_,hl⟩:=A0a this
  obtain ⟨v,_,h1,_⟩:=A3o i hl hi
  exact A8i h1
theorem aw_lenB {α:Type} {E:Enc α} {l:List α} {c:Code} {ps:List PV} (s i:Nat) (hk:σ.L s=some ps) (hi:ps[i]? = some (.sem (SL E l))) (h:l.length ≤ 9223372036854775807 → AW P B c Φ σ):AW P B c Φ σ:=by
  intro g a w hr
  refine h ?_ g a w hr
  obtain ⟨cs,_,_,hl,_⟩:=hr.box s ps hk
  obtain ⟨v,_,h1,_⟩:=A3o i hl hi
  exact A8i h1
end
def thn {β γ:Type} (r:β) (g:β → γ):γ:=g r
theorem mB {β γ:Type} {r x:β} {g:β → γ} {v:γ} (h:r=x) (e:g x=v):thn r g=v:=by subst h; exact e
theorem fd1 (x:Int):Int.fdiv x (2 ^ 1)=x / 2:=Int.fdiv_eq_ediv_of_nonneg x (by decide)
theorem fd2 (x:Int):Int.fdiv x (2 ^ 2)=x / 4:=Int.fdiv_eq_ediv_of_nonneg x (by decide)
theorem fd3 (x:Int):Int.fdiv x (2 ^ 3)=x / 8:=Int.fdiv_eq_ediv_of_nonneg x (by decide)
theorem fd4 (x:Int):Int.fdiv x (2 ^ 4)=x / 16:=Int.fdiv_eq_ediv_of_nonneg x (by decide)
theorem fd5 (x:Int):Int.fdiv x (2 ^ 5)=x / 32:=Int.fdiv_eq_ediv_of_nonneg x (by decide)
theorem fd6 (x:Int):Int.fdiv x (2 ^ 6)=x / 64:=Int.fdiv_eq_ediv_of_nonneg x (by decide)
theorem fd7 (x:Int):Int.fdiv x (2 ^ 7)=x / 128:=Int.fdiv_eq_ediv_of_nonneg x (by decide)
theorem fd8 (x:Int):Int.fdiv x (2 ^ 8)=x / 256:=Int.fdiv_eq_ediv_of_nonneg x (by decide)
theorem fd12 (x:Int):Int.fdiv x (2 ^ 12)=x / 4096:=Int.fdiv_eq_ediv_of_nonneg x (by decide)
theorem A8P (x:Int):Int.fdiv x (2 ^ 16)=x / 65536:=Int.fdiv_eq_ediv_of_nonneg x (by decide)
theorem A9F (x:Int):Int.fdiv x (2 ^ 24)=x / 16777216:=Int.fdiv_eq_ediv_of_nonneg x (by decide)
theorem fd32 (x:Int):Int.fdiv x (2 ^ 32)=x / 4294967296:=Int.fdiv_eq_ediv_of_nonneg x (by decide)
theorem fd40 (x:Int):Int.fdiv x (2 ^ 40)=x / 1099511627776:=Int.fdiv_eq_ediv_of_nonneg x (by decide)
theorem fd48 (x:Int):Int.fdiv x (2 ^ 48)=x / 281474976710656:=Int.fdiv_eq_ediv_of_nonneg x (by decide)
theorem fd56 (x:Int):Int.fdiv x (2 ^ 56)=x / 72057594037927936:=Int.fdiv_eq_ediv_of_nonneg x (by decide)
theorem C8 {n:Int} (h : -9223372036854775808 ≤ n ∧ n ≤ 9223372036854775807):IntKind.wrap .i64 n=n:=by rw [D2]; omega
section slice
variable {P:Program} {B:Base} {σ:St}
theorem A7C {α:Type} {E:Enc α} {T:Nat → Option (Nat × Nat)} {g:Gh} {l:List α} {vs:List Value} (h:H9 T g (l.flatMap E.pv) vs) (lo hi:Nat):H9 T g (((l.take hi).drop lo).flatMap E.pv) ((vs.take (hi * E.sz)).drop (lo * E.sz)):=by
  have tk:∀ (l:List α) (n:Nat),(l.take n).flatMap E.pv=(l.flatMap E.pv).take (n * E.sz):=by
    intro l
    induction l with
    | nil=>intro n; simp
    | cons x l ih =>
      intro n
      cases n with
      | zero=>simp
      | succ n=>rw [List.take_succ_cons,List.flatMap_cons,List.flatMap_cons,ih,show (n + 1) * E.sz=E.sz + n * E.sz by rw [Nat.add_mul]; omega,← E.len x,List.take_length_add_append]
  have dk:∀ (l:List α) (n:Nat),(l.drop n).flatMap E.pv=(l.flatMap E.pv).drop (n * E.sz):=by
    intro l
    induction l with
    | nil=>intro n; simp
    | cons x l ih =>
      intro n
      cases n with
      | zero=>simp
      | succ n=>rw [List.drop_succ_cons,ih,List.flatMap_cons,show (n + 1) * E.sz=E.sz + n * E.sz by rw [Nat.add_mul]; omega,← E.len x,List.drop_length_add_append]
  rw [dk,tk]
  exact U3 _ (R5 _ h)
def bO (v:Option Value) (i:Int) (d:Nat):Prop:=(∃ k,v=some (.int k i)) ∨ (v=none ∧ i=d)
theorem A3w {len cap:Nat} {lo hi:Option Value} {l h:Int} (w:World) (hl:bO lo l 0) (hh:bO hi h len) (h0:0 ≤ l) (h1:l ≤ h) (h2:h ≤ (len:Int)) (h3:len ≤ cap):(Instr.sliceBounds true len cap lo hi none).run P w=.ok (l.toNat,h.toNat,cap) w:=by
  have eh:(h.toNat:Int)=h:=Int.toNat_of_nonneg (by omega)
  have q1:h ≤ (cap:Int):=by omega
  have q2:0 ≤ h:=by omega
  rcases hl with ⟨k,rfl⟩ | ⟨rfl,rfl⟩ <;> rcases hh with ⟨k',rfl⟩ | ⟨rfl,rfl⟩ <;> simp [Instr.sliceBounds,run_sliceBound, *]
theorem A1Z {len cap:Nat} {lo:Option Value} {l h m:Int} {kh km:IntKind} (w:World) (hl:bO lo l 0) (h0:0 ≤ l) (h1:l ≤ h) (h2:h ≤ m) (h3:m ≤ (cap:Int)):(Instr.sliceBounds true len cap lo (some (.int kh h)) (some (.int km m))).run P w=.ok (l.toNat,h.toNat,m.toNat) w:=by
  have eh:(h.toNat:Int)=h:=Int.toNat_of_nonneg (by omega)
  have em:(m.toNat:Int)=m:=Int.toNat_of_nonneg (by omega)
  have q2:0 ≤ h:=by omega
  have q3:0 ≤ m:=by omega
  rcases hl with ⟨k,rfl⟩ | ⟨rfl,rfl⟩ <;> simp [Instr.sliceBounds,run_sliceBound, *]
theorem A2A {α:Type} {E:Enc α} {l:List α} {imm:Imm} {A:Option Addr} {c lo hi m:Nat} (h:m5 E l imm (.slice A l.length c)) (h1:lo ≤ hi) (h2:hi ≤ l.length) (h3:hi ≤ m) (h4:m ≤ c):m5 E ((l.take hi).drop lo) imm (sliced A lo hi m E.sz):=by
  have hl:((l.take hi).drop lo).length=hi - lo:=by simp; omega
  rcases V1 h with ⟨rfl,A',c',he,hn⟩ | ⟨b,o,c',vs,he,hc,h9,hR,hi9⟩
  · simp only [Value.slice.injEq] at he
    obtain ⟨rfl,_,rfl⟩:=he
    simp only [List.length_nil] at h2
    obtain rfl:hi=0:=by omega
    obtain rfl:lo=0:=by omega
    obtain ⟨_,c9,e9,_,h9,_⟩:=h
    simp only [Value.slice.injEq] at e9
    have:c ≤ 9223372036854775807:=by rw [e9.2.2]; exact h9
    refine ⟨if m=0 then A else A.map (·.add (0 * E.sz)),m,?_,by simp,by omega,fun e=>?_,fun hne=>absurd (by simp) hne⟩
    · simp [sliced]
    · by_cases hm:m=0
      · exact hm
      · rw [if_neg hm] at e
        cases A with
        | none=>have:=hn rfl; omega
        | some a=>cases e
  · simp only [Value.slice.injEq] at he
    obtain ⟨rfl,_,rfl⟩:=he
    unfold sliced
    by_cases hm:m=lo
    · subst hm
      obtain rfl:hi=m:=by omega
      rw [if_pos rfl]
      have:(l.take hi).drop hi=[]:=List.eq_nil_of_length_eq_zero (by rw [hl]; omega)
      rw [this]
      exact ⟨some ⟨b,o,none⟩,hi - hi,by simp,by simp,by omega,(fun e=>nomatch e),fun hne=>absurd rfl hne⟩
    · rw [if_neg hm]
      have:=U9 (E:=E) (l:=(l.take hi).drop lo) (imm:=imm) (b:=b) (o:=o + lo * E.sz) (c:=m - lo) (A7C hR lo hi) (fun j u hu=>by
        rw [List.getElem?_drop,List.getElem?_take] at hu
        split at hu
        · have:=hi9 _ _ hu
          rw [← this]
          congr 1
          omega
        · cases hu) (by omega) (by omega)
      rw [hl] at this
      simp only [Option.map_some,Addr.add_lit]
      exact this
def isB (σ:St) (x:Option Operand) (i:Int) (d:Nat):Prop:=(∃ y k,x=some y ∧ σ.ev y=.sc (.int k i)) ∨ (x=none ∧ i=d)
theorem I0 {y:Operand} {k:IntKind} {i:Int} {d:Nat} (h:σ.ev y=.sc (.int k i)):isB σ (some y) i d:=.inl ⟨y,k,rfl,h⟩
theorem L3 {d:Nat} {i:Int} (h:i=d):isB σ none i d:=.inr ⟨rfl,h⟩
theorem A0j {g:Gh} {a:Act} {w:World} (hr:Rel B σ g a w) {x:Option Operand} {i:Int} {d:Nat} (h:isB σ x i d):bO (x.map a.eval) i d:=by
  rcases h with ⟨y,k,rfl,h⟩ | ⟨rfl,h⟩
  · exact .inl ⟨k,by simp [hr.ev_sc h]⟩
  · exact .inr ⟨rfl,h⟩
theorem K0 {α:Type} {E:Enc α} {l:List α} {o:Oper} {d:Nat} {x:Operand} {lo hi:Option Operand} {t e:TypeId} {i j:Int} {ag:Bool} (hd:o.dst=some d) (hN:Nat.blt d σ.N=true) (ho:o.op=.slice t x lo hi none) (ht:P.underlying t=some (.slice e)) (hte:Ty P e ag E.sz)
    (hx:A0Q σ x E l) (hlo:isB σ lo i 0) (hhi:isB σ hi j l.length) (hb:0 ≤ i ∧ i ≤ j ∧ j ≤ (l.length:Int)):OpStep P B o σ (σ.put d (.sem (SL E (sub l i j)))):=
  K4 hd (blt hN) fun g a w hr=>by
    obtain ⟨h0,h1,h2⟩:=hb
    have hs:=hx _ _ _ (hr.ev x)
    have hs':=hs
    obtain ⟨A,c,he,hc,_⟩:=hs'
    rw [he] at hs
    have hel:P.elem t=e:=by simp [Program.elem,ht]
    have hu:P.underlying t=some (.slice (P.elem t)):=by rw [hel]; exact ht
    refine ⟨sliced A i.toNat j.toNat c E.sz,?_,A2A hs (by omega) (by omega) (by omega) (Nat.le_refl _)⟩
    simp only [execOp,ho,Option.map_none]
    rw [F0,run_sliceAt_slice w t _ _ _ _ hu,he,run_slice_any w t A l.length c hu,A3w w (A0j hr hlo) (A0j hr hhi) h0 h1 h2 hc]
    simp only [Result.andThen_ok,hel]
    rw [O4 hte]
    rfl
theorem step_slice3 {α:Type} {E:Enc α} {l:List α} {o:Oper} {d:Nat} {x yh ym:Operand} {lo:Option Operand} {t e:TypeId} {i j:Int} {ag:Bool} {kh km:IntKind} (hd:o.dst=some d) (hN:Nat.blt d σ.N=true) (ho:o.op=.slice t x lo (some yh) (some ym)) (ht:P.underlying t=some (.slice e)) (hte:Ty P e ag E.sz)
    (hx:A0Q σ x E l) (hlo:isB σ lo i 0) (hhi:σ.ev yh=.sc (.int kh j)) (hmx:σ.ev ym=.sc (.int km j)) (hb:0 ≤ i ∧ i ≤ j ∧ j ≤ (l.length:Int)):OpStep P B o σ (σ.put d (.sem (SL E (sub l i j)))):=
  K4 hd (blt hN) fun g a w hr=>by
    obtain ⟨h0,h1,h2⟩:=hb
    have hs:=hx _ _ _ (hr.ev x)
    have hs':=hs
    obtain ⟨A,c,he,hc,_⟩:=hs'
    rw [he] at hs
    have hel:P.elem t=e:=by simp [Program.elem,ht]
    have hu:P.underlying t=some (.slice (P.elem t)):=by rw [hel]; exact ht
    refine ⟨sliced A i.toNat j.toNat j.toNat E.sz,?_,A2A hs (by omega) (by omega) (by omega) (by omega)⟩
    simp only [execOp,ho,Option.map_some,hr.ev_sc hhi,hr.ev_sc hmx]
    rw [F0,run_sliceAt_slice w t _ _ _ _ hu,he,run_slice_any w t A l.length c hu,A1Z w (A0j hr hlo) h0 h1 (Int.le_refl _) (by omega)]
    simp only [Result.andThen_ok,hel]
    rw [O4 hte]
    rfl
theorem N6 {α:Type} [Inhabited α] {E:Enc α} {l:List α} {o:Oper} {d:Nat} {x ii:Operand} {t e:TypeId} {ag:Bool} {n:Int} {k:IntKind} {ps:List PV} (hd:o.dst=some d) (hN:Nat.blt d σ.N=true) (ho:o.op=.indexAddr t x ii) (ht:P.underlying t=some (.slice e)) (hte:Ty P e ag E.sz) (hx:A0Q σ x E l)
    (hi:σ.ev ii=.sc (.int k n)) (hb:0 ≤ n ∧ n < (l.length:Int)) (hp:E.pv (ix l n)=ps):OpStep P B o σ (σ.put d (.sem (PT ps))):=
  hp ▸ A2c hd hN ho ht hte hx hi hb.1 (A2w hb)
end slice
end Go.Ab
