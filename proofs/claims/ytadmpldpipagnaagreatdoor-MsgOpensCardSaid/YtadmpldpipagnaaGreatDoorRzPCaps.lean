import Derived.Test.YtadmpldpipagnaaGreatDoorRzFnMsg
namespace Go.Proofs.YtadmpldpipagnaaGreatDoor
open Go.Ab
set_option linter.unusedSimpArgs false
set_option linter.unusedVariables false
theorem Y9 {n:Int} (h:okI .u8 n):0 ≤ n ∧ n < 256:=A0o.1 h
def tlv:List Int → Option (List (Int × List Int))
 | []=>some []
 | [_]=>none
 | t :: k :: r=>if k ≤ (r.length:Int) then (tlv (r.drop k.toNat)).map (fun l=>(t,r.take k.toNat) :: l) else none
termination_by l=>l.length
decreasing_by simp only [List.length_drop,List.length_cons]; omega
def L9 (g:Int → List Int → B0 → Option B0):B0 → List (Int × List Int) → Option B0
 | c,[]=>some c
 | c,(t,v) :: r=>(g t v c).bind fun c'=>L9 g c' r
def OB (x:Bool × B0):Option B0:=bif x.1 then some x.2 else none
theorem Z9 {g g':Int → List Int → B0 → Option B0}:∀ {l:List (Int × List Int)} {c:B0},(∀ x ∈ l,∀ c,g x.1 x.2 c=g' x.1 x.2 c) → L9 g c l=L9 g' c l
 | [],_,_=>rfl
 | (t,v) :: r,c,h=>by
  simp only [L9]
  rw [h (t,v) (List.mem_cons_self ..) c]
  cases g' t v c with
  | none=>rfl
  | some c'=>exact Z9 fun x hx=>h x (List.mem_cons_of_mem _ hx)
theorem A1C {g:Int → List Int → B0 → Option B0}:∀ {l l':List (Int × List Int)} {c:B0},L9 g c (l ++ l')=(L9 g c l).bind fun c'=>L9 g c' l'
 | [],_,_=>rfl
 | (t,v) :: r,l',c=>by
  simp only [L9,List.cons_append]
  cases g t v c with
  | none=>rfl
  | some c'=>exact A1C
theorem A1L {g:Int → List Int → B0 → Option B0} {Q:B0 → Prop}:∀ {l:List (Int × List Int)} {c c':B0},(∀ x ∈ l,∀ c c',Q c → g x.1 x.2 c=some c' → Q c') → Q c → L9 g c l=some c' → Q c'
 | [],c,c',_,hc,h=>by cases h; exact hc
 | (t,v) :: r,c,c',hg,hc,h=>by
  simp only [L9] at h
  cases hq:g t v c with
  | none=>rw [hq] at h; cases h
  | some c1 =>
   rw [hq] at h
   exact A1L (fun x hx=>hg x (List.mem_cons_of_mem _ hx)) (hg (t,v) (List.mem_cons_self ..) c c1 hc hq) h
theorem A4B:∀ {x:List Int} {l:List (Int × List Int)} {y:List Int},tlv x=some l → tlv (x ++ y)=(tlv y).map (l ++ ·)
 | [],l,y,h=>by
  rw [tlv] at h; cases h
  simp
 | [_],l,y,h=>by rw [tlv] at h; cases h
 | t :: k :: r,l,y,h=>by
  rw [tlv] at h
  split at h
  ·rename_i hk
   cases hq:tlv (r.drop k.toNat) with
   | none=>rw [hq] at h; cases h
   | some l' =>
    rw [hq] at h
    simp only [Option.map_some,Option.some.injEq] at h
    subst h
    show tlv (t :: k :: (r ++ y))=_
    have hle:k.toNat ≤ r.length:=by omega
    rw [tlv,if_pos (by simp only [List.length_append]; omega),List.drop_append_of_le_length hle,List.take_append_of_le_length hle,A4B hq,Option.map_map]
    rfl
  ·cases h
termination_by x=>x.length
decreasing_by simp only [List.length_drop,List.length_cons]; omega
theorem A0P:∀ {b:List Int} {l:List (Int × List Int)},gdL (okI .u8) b → tlv b=some l → ∀ x ∈ l,okI .u8 x.1 ∧ gdL (okI .u8) x.2 ∧ x.2.length ≤ b.length
 | [],l,_,h,x,hx=>by rw [tlv] at h; cases h; cases hx
 | [_],l,_,h,x,hx=>by rw [tlv] at h; cases h
 | t :: k :: r,l,hb,h,x,hx=>by
  rw [tlv] at h
  split at h
  ·cases hq:tlv (r.drop k.toNat) with
   | none=>rw [hq] at h; cases h
   | some l' =>
    rw [hq] at h
    simp only [Option.map_some,Option.some.injEq] at h
    subst h
    have hr:gdL (okI .u8) r:=fun y hy=>hb y (by simp [hy])
    rcases List.mem_cons.1 hx with rfl | hx
    ·exact ⟨hb t (by simp),fun y hy=>hr y (List.mem_of_mem_take hy),by simp only [List.length_take,List.length_cons]; omega⟩
    ·obtain ⟨h1,h2,h3⟩:=A0P (b:=r.drop k.toNat) (fun y hy=>hr y (List.mem_of_mem_drop hy)) hq x hx
     exact ⟨h1,h2,by simp only [List.length_drop,List.length_cons] at h3 ⊢; omega⟩
  ·cases h
termination_by b=>b.length
decreasing_by simp only [List.length_drop,List.length_cons]; omega
theorem ix0 (t:Int) (r:List Int):ix (t :: r) 0=t:=rfl
theorem ix1 (t k:Int) (r:List Int):ix (t :: k :: r) 1=k:=rfl
theorem A8N (t k:Int) (r:List Int) (h:0 ≤ k):sub (t :: k :: r) 2 (2 + k)=r.take k.toNat:=by
 unfold sub
 rw [show (2 + k).toNat=k.toNat + 2 by omega]
 rfl
theorem A8L (t k:Int) (r:List Int) (h:0 ≤ k):sub (t :: k :: r) (2 + k) ((t :: k :: r).length:Int)=r.drop k.toNat:=by
 unfold sub
 rw [show (2 + k).toNat=k.toNat + 2 by omega,List.take_of_length_le (by omega)]
 rfl
def A0O (D:Int → List Int → B0 → Bool × B0):Nat → B0 → List Int → (Bool × B0) ⊕ (B0 × (List Int))
 | 0,_,_=>Sum.inr default
 | n0 + 1,x,b =>
  (bif decide ((0:Int) < (b.length:Int)) then
   (bif (decide (((b.length:Int):Int) < 2)) || (decide (((IntKind.wrap .i64 ((b.length:Int) - 2)):Int) < (IntKind.wrap .i64 (ix b 1)))) then
    Sum.inl (false,x)
   else
    (bif !((D (ix b 0) (sub b 2 (IntKind.wrap .i64 (2 + (IntKind.wrap .i64 (ix b 1))))) x).1) then
     Sum.inl (false,((D (ix b 0) (sub b 2 (IntKind.wrap .i64 (2 + (IntKind.wrap .i64 (ix b 1))))) x).2))
    else
     A0O D n0 ((D (ix b 0) (sub b 2 (IntKind.wrap .i64 (2 + (IntKind.wrap .i64 (ix b 1))))) x).2) (sub b (IntKind.wrap .i64 (2 + (IntKind.wrap .i64 (ix b 1)))) (b.length:Int))))
  else
   Sum.inr (x,b))
theorem A3z (b:List Int) (c:B0):∀ (n:Nat) (x:B0) (y:List Int),N2 b c n x y=A0O I9 n x y
 | 0,_,_=>rfl
 | n + 1,x,y=>by simp only [N2,A0O,A3z b c n]
theorem A4l (b:List Int) (c:B0):∀ (n:Nat) (x:B0) (y:List Int),N7 b c n x y=A0O J6 n x y
 | 0,_,_=>rfl
 | n + 1,x,y=>by simp only [N7,A0O,A4l b c n]
def A7n (o:Option B0) (r:(Bool × B0) ⊕ (B0 × (List Int))):Prop:=match o with
 | some c'=>∃ l,r=.inr (c',l)
 | none=>∃ c',r=.inl (false,c')
theorem u5 (D:Int → List Int → B0 → Bool × B0):∀ (n:Nat) (c:B0) (b:List Int),b.length < n → gdL (okI .u8) b → b.length ≤ 1000000000000 →
  A7n ((tlv b).bind (L9 (fun t v c=>OB (D t v c)) c)) (A0O D n c b)
 | 0,_,_,h,_,_=>absurd h (Nat.not_lt_zero _)
 | n + 1,c,[],_,_,_=>by rw [tlv]; exact ⟨[],rfl⟩
 | n + 1,c,[_],_,_,_=>by rw [tlv]; exact ⟨c,rfl⟩
 | n + 1,c,t :: k :: r,h,hb,hs=>by
  have hk:=Y9 (hb k (by simp))
  have e1:IntKind.wrap .i64 k=k:=C8 (by omega)
  have e2:IntKind.wrap .i64 (2 + k)=2 + k:=C8 (by omega)
  have e3:IntKind.wrap .i64 (((t :: k :: r).length:Int) - 2)=r.length:=by
   rw [C8] <;> simp only [List.length_cons] at hs ⊢ <;> omega
  simp only [A0O,ix0,ix1,e1,e2,e3,A8N t k r hk.1,A8L t k r hk.1]
  rw [tlv,decide_eq_true (p:=(0:Int) < ((t :: k :: r).length:Int)) (by simp only [List.length_cons]; omega),decide_eq_false (p:=((t :: k :: r).length:Int) < 2) (by simp only [List.length_cons]; omega)]
  simp only [cond_true,Bool.false_or]
  by_cases hkr:k ≤ (r.length:Int)
  ·rw [if_pos hkr,decide_eq_false (by omega)]
   simp only [cond_false]
   have hr:gdL (okI .u8) (r.drop k.toNat):=fun y hy=>hb y (by simp [List.mem_of_mem_drop hy])
   cases hD:(D t (r.take k.toNat) c).1 with
   | false =>
    simp only [Bool.not_false,cond_true]
    cases tlv (r.drop k.toNat) with
    | none=>exact ⟨_,rfl⟩
    | some l=>simp only [Option.map_some,Option.bind_some,L9,OB,hD,cond_false,Option.bind_none]; exact ⟨_,rfl⟩
   | true =>
    simp only [Bool.not_true,cond_false]
    have ih:=u5 D n (D t (r.take k.toNat) c).2 (r.drop k.toNat) (by simp only [List.length_drop,List.length_cons] at h ⊢; omega) hr (by simp only [List.length_drop,List.length_cons] at hs ⊢; omega)
    cases hq:tlv (r.drop k.toNat) with
    | none=>rw [hq] at ih; exact ih
    | some l =>
     rw [hq] at ih
     simp only [Option.map_some,Option.bind_some,L9,OB,hD,cond_true] at ih ⊢
     exact ih
  ·rw [if_neg hkr,decide_eq_true (by omega)]
   exact ⟨_,rfl⟩
theorem A6u {o:Option B0} {r:(Bool × B0) ⊕ (B0 × (List Int))} (h:A7n o r):OB (Sum.elim (fun z=>z) (fun x=>(true,x.1)) r)=o:=by
 cases o with
 | some c'=>obtain ⟨l,rfl⟩:=h; rfl
 | none=>obtain ⟨l,rfl⟩:=h; rfl
def HC (t:Int) (v:List Int) (c:B0):Option B0:=OB (I8 c t v)
def GC (t:Int) (v:List Int) (c:B0):Option B0:=if t=2 then (tlv v).bind (L9 HC c) else none
def T7:B0:=⟨false,0,false,false,0,false,false,false,0⟩
theorem D11_eq (t:Int) (v:List Int) (c:B0):OB (I9 t v c)=HC t v c:=rfl
theorem A9B (t:Int) (v:List Int) (c:B0) (hv:gdL (okI .u8) v) (hs:v.length ≤ 1000000000000):OB (J6 t v c)=GC t v c:=by
 simp only [J6,GC]
 by_cases ht:t=2
 ·rw [decide_eq_true ht,if_pos ht,cond_true]
  show OB (I3 v c)=_
  unfold I3
  rw [A3z]
  exact A6u (u5 I9 _ c v (Nat.lt_succ_self _) hv hs)
 ·rw [decide_eq_false ht,if_neg ht]; rfl
def d9 (b:List Int):Option B0:=(tlv b).bind (L9 GC T7)
def A8F (o:Option B0):B0 × Bool:=match o with
 | some c=>(c,true)
 | none=>(T7,false)
theorem A1D (b:List Int) (hb:gdL (okI .u8) b) (hs:b.length ≤ 1000000000000):D0 b=A8F (d9 b):=by
 have h:=A6u (u5 J6 _ T7 b (Nat.lt_succ_self _) hb hs)
 rw [← A4l b T7] at h
 have h:OB (J4 b T7)=(tlv b).bind (L9 (fun t v c=>OB (J6 t v c)) T7):=h
 have h2:(tlv b).bind (L9 (fun t v c=>OB (J6 t v c)) T7)=d9 b:=by
  unfold d9
  cases hq:tlv b with
  | none=>rfl
  | some l =>
   exact Z9 fun x hx c=>by
    obtain ⟨_,h3,h4⟩:=A0P hb hq x hx
    exact A9B x.1 x.2 c h3 (Nat.le_trans h4 hs)
 rw [h2] at h
 rw [← h]
 show (bif !((J4 b T7).1) then (T7,false) else ((J4 b T7).2,true))=_
 unfold OB
 cases (J4 b T7).1 <;> rfl
theorem A2K (b:List Int):∀ (n:Nat) (b0 t0:List Int) (v0:List (List Int)),b0.length < n → gdL (okI .u8) b0 → b0.length ≤ 1000000000000 →
  M0 b n b0 t0 v0=match tlv b0 with | some l=>.inr ([],t0 ++ l.map (·.1),v0 ++ l.map (·.2)) | none=>.inl ([],[],false)
 | 0,_,_,_,h,_,_=>absurd h (Nat.not_lt_zero _)
 | n + 1,[],t0,v0,_,_,_=>by rw [tlv]; simp [M0]
 | n + 1,[_],t0,v0,_,_,_=>by rw [tlv]; rfl
 | n + 1,t :: k :: r,t0,v0,h,hb,hs=>by
  have hk:=Y9 (hb k (by simp))
  have ht:=Y9 (hb t (by simp))
  have e1:IntKind.wrap .i64 k=k:=C8 (by omega)
  have e2:IntKind.wrap .i64 (2 + k)=2 + k:=C8 (by omega)
  have e3:IntKind.wrap .i64 t=t:=C8 (by omega)
  simp only [M0,ix0,ix1,e1,e2,e3,A8N t k r hk.1,A8L t k r hk.1]
  rw [tlv,decide_eq_true (p:=(0:Int) < ((t :: k :: r).length:Int)) (by simp only [List.length_cons]; omega),decide_eq_false (p:=((t :: k :: r).length:Int) < 2) (by simp only [List.length_cons]; omega)]
  simp only [cond_true,Bool.false_or]
  by_cases hkr:k ≤ (r.length:Int)
  ·rw [if_pos hkr,decide_eq_false (by simp only [List.length_cons]; omega)]
   simp only [cond_false]
   have hr:gdL (okI .u8) (r.drop k.toNat):=fun y hy=>hb y (by simp [List.mem_of_mem_drop hy])
   rw [A2K b n (r.drop k.toNat) _ _ (by simp only [List.length_drop,List.length_cons] at h ⊢; omega) hr (by simp only [List.length_drop,List.length_cons] at hs ⊢; omega)]
   cases tlv (r.drop k.toNat) <;> simp
  ·rw [if_neg hkr,decide_eq_true (by simp only [List.length_cons]; omega)]
   rfl
theorem A5v (b:List Int) (hb:gdL (okI .u8) b) (hs:b.length ≤ 1000000000000):B9 b=match tlv b with | some l=>(l.map (·.1),l.map (·.2),true) | none=>([],[],false):=by
 unfold B9
 rw [A2K b _ b [] [] (Nat.lt_succ_self _) hb hs]
 cases tlv b <;> simp
theorem A4I {α β:Type} [Inhabited β] (f:α → β) (l:List α) (i:Nat) (x:α) (h:l[i]? = some x):ix (l.map f) (i:Int)=f x:=by
 simp [ix,h]
theorem A8D (i:Nat) (h:i ≤ 1000000000000):IntKind.wrap .i64 ((i:Int) + 1)=((i + 1:Nat):Int):=by rw [C8] <;> omega
theorem A1s (b:List Int) (x4:B0) (x8:Int) (l:List (Int × List Int)) (h1:(B9 (ix ((B9 b).2.1) x8)).1=l.map (·.1)) (h2:(B9 (ix ((B9 b).2.1) x8)).2.1=l.map (·.2)) (hl:l.length ≤ 1000000000000) :
  ∀ (n:Nat) (c:B0) (i:Nat),i ≤ l.length → l.length - i < n → K8 b x4 x8 n c (i:Int)=match L9 (fun t v c=>OB (H1 c t v)) c (l.drop i) with | some c'=>.inr (c',(l.length:Int)) | none=>.inl (T7,false)
 | 0,_,_,_,h=>absurd h (Nat.not_lt_zero _)
 | n + 1,c,i,hi,hn=>by
  simp only [K8,h1,h2,List.length_map]
  by_cases hlt:i < l.length
  ·rw [decide_eq_true (by omega),cond_true]
   have hx:=List.getElem?_eq_getElem hlt
   rw [A4I (·.1) l i _ hx,A4I (·.2) l i _ hx,A8D i (by omega),List.drop_eq_getElem_cons hlt]
   simp only [L9,OB]
   cases hq:(H1 c l[i].1 l[i].2).1 with
   | false=>simp only [Bool.not_false,cond_true,cond_false,Option.bind_none]; rfl
   | true =>
    simp only [Bool.not_true,cond_true,cond_false,Option.bind_some]
    exact A1s b x4 x8 l h1 h2 hl n _ (i + 1) hlt (by omega)
  ·obtain rfl:i=l.length:=by omega
   rw [decide_eq_false (by omega),List.drop_length]
   rfl
def HR (t:Int) (v:List Int) (c:B0):Option B0:=OB (H1 c t v)
def GR (t:Int) (v:List Int) (c:B0):Option B0:=if t=2 then (tlv v).bind (L9 HR c) else none
theorem A4Q:∀ {b:List Int} {l:List (Int × List Int)},tlv b=some l → l.length ≤ b.length
 | [],l,h=>by rw [tlv] at h; cases h; simp
 | [_],l,h=>by rw [tlv] at h; cases h
 | t :: k :: r,l,h=>by
  rw [tlv] at h
  split at h
  ·cases hq:tlv (r.drop k.toNat) with
   | none=>rw [hq] at h; cases h
   | some l' =>
    rw [hq] at h
    simp only [Option.map_some,Option.some.injEq] at h
    subst h
    have:=A4Q hq
    simp only [List.length_drop,List.length_cons] at this ⊢
    omega
  ·cases h
termination_by b=>b.length
decreasing_by simp only [List.length_drop,List.length_cons]; omega
theorem A1a (b:List Int) (hb:gdL (okI .u8) b) (hs:b.length ≤ 1000000000000) (l:List (Int × List Int)) (hq:tlv b=some l) (h1:(B9 b).1=l.map (·.1)) (h2:(B9 b).2.1=l.map (·.2)) :
  ∀ (n:Nat) (c:B0) (i:Nat),i ≤ l.length → l.length - i < n → K9 b n c (i:Int)=match L9 GR c (l.drop i) with | some c'=>.inr (c',(l.length:Int)) | none=>.inl (T7,false)
 | 0,_,_,_,h=>absurd h (Nat.not_lt_zero _)
 | n + 1,c,i,hi,hn=>by
  have hl:=A4Q hq
  simp only [K9,h1,List.length_map]
  by_cases hlt:i < l.length
  ·rw [decide_eq_true (by omega),cond_true]
   have hx:=List.getElem?_eq_getElem hlt
   have hv:ix ((B9 b).2.1) (i:Int)=l[i].2:=by rw [h2]; exact A4I (·.2) l i _ hx
   obtain ⟨_,g1,g2⟩:=A0P hb hq l[i] (List.getElem_mem hlt)
   have hc:=A5v l[i].2 g1 (by omega)
   rw [A4I (·.1) l i _ hx,A8D i (by omega),List.drop_eq_getElem_cons hlt]
   simp only [L9,GR]
   rw [hv]
   by_cases ht:l[i].1=2
   ·rw [decide_eq_true ht,if_pos ht,Bool.not_true,Bool.false_or]
    cases hq2:tlv l[i].2 with
    | none =>
     rw [hq2] at hc
     rw [hc]
     rfl
    | some l2 =>
     rw [hq2] at hc
     have r1:=A1s b c (i:Int) l2 (by rw [hv,hc]) (by rw [hv,hc]) (by have:=A4Q hq2; omega) ((((l2.length:Int)) - 0).toNat + 1) c 0 (Nat.zero_le _) (by omega)
     simp only [hc,Bool.not_true,cond_false,List.length_map,Option.bind_some]
     have r1':K8 b c (i:Int) ((((l2.length:Int)) - 0).toNat + 1) c 0=_:=r1
     rw [r1',List.drop_zero]
     have hf:L9 HR c l2=L9 (fun t v c=>OB (H1 c t v)) c l2:=rfl
     rw [hf]
     cases L9 (fun t v c=>OB (H1 c t v)) c l2 with
     | none=>rfl
     | some c'=>exact A1a b hb hs l hq h1 h2 n _ (i + 1) hlt (by omega)
   ·rw [decide_eq_false ht,if_neg ht]
    rfl
  ·obtain rfl:i=l.length:=by omega
   rw [decide_eq_false (by omega),List.drop_length]
   rfl
theorem A5u (b:List Int) (hb:gdL (okI .u8) b) (hs:b.length ≤ 1000000000000):N0 b=A8F ((tlv b).bind (L9 GR T7)):=by
 have hc:=A5v b hb hs
 unfold N0
 cases hq:tlv b with
 | none =>
  rw [hq] at hc
  rw [hc]
  rfl
 | some l =>
  rw [hq] at hc
  have r:=A1a b hb hs l hq (by rw [hc]) (by rw [hc]) ((((l.length:Int)) - 0).toNat + 1) T7 0 (Nat.zero_le _) (by omega)
  simp only [hc,Bool.not_true,cond_false,List.length_map,Option.bind_some]
  have r':K9 b ((((l.length:Int)) - 0).toNat + 1) (⟨false,0,false,false,0,false,false,false,0⟩:B0) 0=_:=r
  rw [r',List.drop_zero]
  cases L9 GR T7 l <;> rfl
theorem A4S {a b:Nat} (ha:a < 9223372036854775808) (hb:b < 9223372036854775808):ior .i64 (a:Int) (b:Int)=((a ||| b:Nat):Int):=by
 rw [A8G (by omega) (by omega)]; rfl
theorem A7J {a b:Nat} (ha:a < 9223372036854775808) (hb:b < 9223372036854775808):O1 .i64 (a:Int) (b:Int)=((a &&& b:Nat):Int):=by
 rw [A8W (by omega) (by omega)]; rfl
theorem A8S {a:Int} (h:0 ≤ a ∧ a < 256):(!decide (O1 .u8 a 128=0))=decide (128 ≤ a):=by
 obtain ⟨n,rfl⟩:=Int.eq_ofNat_of_zero_le h.1
 rw [A9t h (by decide)]
 have:=A8Q n (by omega)
 rw [show (n:Int).toNat=n from rfl,show (128:Int).toNat=128 from rfl,this]
 by_cases hn:128 ≤ n
 ·rw [if_pos hn,decide_eq_true (p:=(128:Int) ≤ n) (by omega)]; rfl
 ·rw [if_neg hn,decide_eq_false (p:=(128:Int) ≤ n) (by omega)]; rfl
theorem A1e {x y:Int} (hx:0 ≤ x ∧ x < 16777216) (hy:0 ≤ y ∧ y < 256):ior .u32 (IntKind.wrap .u32 (x * 2 ^ 8)) (IntKind.wrap .u32 y)=x * 256 + y:=by
 obtain ⟨m,rfl⟩:=Int.eq_ofNat_of_zero_le hx.1
 obtain ⟨n,rfl⟩:=Int.eq_ofNat_of_zero_le hy.1
 rw [C3,C3,show ((m:Int) * 2 ^ 8) % 4294967296=((m * 2 ^ 8:Nat):Int) by omega,show (n:Int) % 4294967296=n by omega,A9o (by omega) (by omega)]
 rw [show ((m * 2 ^ 8:Nat):Int).toNat=m * 2 ^ 8 from rfl,show (n:Int).toNat=n from rfl,A1J 8 m n (by omega)]
 omega
theorem A3A (a b c d:Int) (ha:0 ≤ a ∧ a < 256) (hb:0 ≤ b ∧ b < 256) (hc:0 ≤ c ∧ c < 256) (hd:0 ≤ d ∧ d < 256):G1 [a,b,c,d]=((a * 256 + b) * 256 + c) * 256 + d:=by
 have e1:ior .u32 (IntKind.wrap .u32 (0 * 2 ^ 8)) (IntKind.wrap .u32 a)=a:=by rw [A1e (by decide) ha]; omega
 have e2:=A1e (x:=a) (by omega) hb
 have e3:=A1e (x:=a * 256 + b) (by omega) hc
 have e4:=A1e (x:=(a * 256 + b) * 256 + c) (by omega) hd
 show (O9 [a,b,c,d] 5 0 0).1=_
 have i0:ix (sub [a,b,c,d] 0 (if (4:Int) < (([a,b,c,d]:List Int).length:Int) then 4 else (([a,b,c,d]:List Int).length:Int))) 0=a:=rfl
 have i1:ix (sub [a,b,c,d] 0 (if (4:Int) < (([a,b,c,d]:List Int).length:Int) then 4 else (([a,b,c,d]:List Int).length:Int))) 1=b:=rfl
 have i2:ix (sub [a,b,c,d] 0 (if (4:Int) < (([a,b,c,d]:List Int).length:Int) then 4 else (([a,b,c,d]:List Int).length:Int))) 2=c:=rfl
 have i3:ix (sub [a,b,c,d] 0 (if (4:Int) < (([a,b,c,d]:List Int).length:Int) then 4 else (([a,b,c,d]:List Int).length:Int))) 3=d:=rfl
 have il:(sub [a,b,c,d] 0 (if (4:Int) < (([a,b,c,d]:List Int).length:Int) then 4 else (([a,b,c,d]:List Int).length:Int))).length=4:=rfl
 have w0:IntKind.wrap .i64 (0 + 1)=1:=rfl
 have w1:IntKind.wrap .i64 (1 + 1)=2:=rfl
 have w2:IntKind.wrap .i64 (2 + 1)=3:=rfl
 have w3:IntKind.wrap .i64 (3 + 1)=4:=rfl
 have d0:decide ((0:Int) < ((4:Nat):Int))=true:=rfl
 have d1:decide ((1:Int) < ((4:Nat):Int))=true:=rfl
 have d2:decide ((2:Int) < ((4:Nat):Int))=true:=rfl
 have d3:decide ((3:Int) < ((4:Nat):Int))=true:=rfl
 have d4:decide ((4:Int) < ((4:Nat):Int))=false:=rfl
 simp only [O9,il,i0,i1,i2,i3,w0,w1,w2,w3,d0,d1,d2,d3,d4,cond_true,cond_false,e1,e2,e3,e4]
theorem A7Q (a b c d:Int) (ha:0 ≤ a ∧ a < 256) (hb:0 ≤ b ∧ b < 256) (hc:0 ≤ c ∧ c < 256) (hd:0 ≤ d ∧ d < 256):M9 [a,b,c,d]=((a * 256 + b) * 256 + c) * 256 + d:=by
 show IntKind.wrap .i64 (IntKind.wrap .i64 (IntKind.wrap .i64 (IntKind.wrap .i64 (IntKind.wrap .i64 a * 2 ^ 24) + IntKind.wrap .i64 (IntKind.wrap .i64 b * 2 ^ 16)) + IntKind.wrap .i64 (IntKind.wrap .i64 c * 2 ^ 8)) + IntKind.wrap .i64 d)=_
 simp only [D2]
 omega
theorem W8 (b:List Int) (i j:Nat):ix (b.drop i) (j:Int)=ix b (((i + j:Nat)):Int):=by
 simp only [ix,List.getD_eq_getElem?_getD,List.getElem?_drop]
 rfl
theorem A5E (b:List Int) (i k:Nat):sub (b.drop i) (k:Int) ((b.drop i).length:Int)=b.drop (i + k):=by
 unfold sub
 rw [List.take_of_length_le (by omega),List.drop_drop]
 rfl
theorem A0B (i k:Nat) (h:i + k ≤ 2000000000000):IntKind.wrap .i64 ((i:Int) + (k:Int))=((i + k:Nat):Int):=by rw [C8] <;> omega
theorem A1t (c:B0) (c':B0) (code:Int) (b:List Int) (hb:gdL (okI .u8) b) (hs:b.length ≤ 1000000000000):∀ (n m:Nat) (C:B0) (i:Nat),b.length - i < n → b.length - i < m → (i ≤ b.length ∧ (b.length - i) % 4=0) →
  (K7 c b n C (b.drop i)).1=(P4 c' code b m C (i:Int)).1
 | 0,_,_,_,h,_,_=>absurd h (Nat.not_lt_zero _)
 | _ + 1,0,_,_,_,h,_=>absurd h (Nat.not_lt_zero _)
 | n + 1,m + 1,C,i,h1,h2,h3=>by
  simp only [K7,P4]
  by_cases hi:i < b.length
  ·rw [decide_eq_true (p:=(0:Int) < ((b.drop i).length:Int)) (by rw [List.length_drop]; omega),decide_eq_true (p:=(i:Int) < (b.length:Int)) (by omega)]
   simp only [cond_true,thn,I7]
   rw [show ix (b.drop i) 0=ix b (i:Int) from W8 b i 0,show ix (b.drop i) 1=ix b ((i + 1:Nat):Int) from W8 b i 1,show ix (b.drop i) 2=ix b ((i + 2:Nat):Int) from W8 b i 2,show ix (b.drop i) 3=ix b ((i + 3:Nat):Int) from W8 b i 3]
   rw [show IntKind.wrap .i64 ((i:Int) + 1)=((i + 1:Nat):Int) from A0B i 1 (by omega),show IntKind.wrap .i64 ((i:Int) + 2)=((i + 2:Nat):Int) from A0B i 2 (by omega),show IntKind.wrap .i64 ((i:Int) + 3)=((i + 3:Nat):Int) from A0B i 3 (by omega),show IntKind.wrap .i64 ((i:Int) + 4)=((i + 4:Nat):Int) from A0B i 4 (by omega)]
   rw [show sub (b.drop i) 4 ((b.drop i).length:Int)=b.drop (i + 4) from A5E b i 4,A8S (O5 hb _)]
   exact A1t c c' code b hb hs n m _ (i + 4) (by omega) (by omega) (by omega)
  ·rw [decide_eq_false (p:=(0:Int) < ((b.drop i).length:Int)) (by rw [List.length_drop]; omega),decide_eq_false (p:=(i:Int) < (b.length:Int)) (by omega)]
   rfl
theorem B0z (a b:Nat) (h:b < 65536):(a * 65536 ||| b)=a * 65536 + b:=A1J 16 a b h
theorem or8 (a b:Nat) (h:b < 256):(a * 256 ||| b)=a * 256 + b:=A1J 8 a b h
theorem A6c {x y z:Int} (hx:0 ≤ x ∧ x < 256) (hy:0 ≤ y ∧ y < 256) (hz:0 ≤ z ∧ z < 256) :
  ior .i64 (ior .i64 (IntKind.wrap .i64 ((IntKind.wrap .i64 x) * 2 ^ 16)) (IntKind.wrap .i64 ((IntKind.wrap .i64 y) * 2 ^ 8))) (IntKind.wrap .i64 z)=IntKind.wrap .i64 ((IntKind.wrap .i64 ((IntKind.wrap .i64 (65536 * (IntKind.wrap .i64 x))) + (IntKind.wrap .i64 (256 * (IntKind.wrap .i64 y))))) + (IntKind.wrap .i64 z)):=by
 obtain ⟨a,rfl⟩:=Int.eq_ofNat_of_zero_le hx.1
 obtain ⟨b,rfl⟩:=Int.eq_ofNat_of_zero_le hy.1
 obtain ⟨c,rfl⟩:=Int.eq_ofNat_of_zero_le hz.1
 have w1:IntKind.wrap .i64 (a:Int)=a:=C8 (by omega)
 have w2:IntKind.wrap .i64 (b:Int)=b:=C8 (by omega)
 have w3:IntKind.wrap .i64 (c:Int)=c:=C8 (by omega)
 have e1:IntKind.wrap .i64 ((a:Int) * 2 ^ 16)=((a * 65536:Nat):Int):=by rw [C8 (by omega)]; omega
 have e2:IntKind.wrap .i64 ((b:Int) * 2 ^ 8)=((b * 256:Nat):Int):=by rw [C8 (by omega)]; omega
 have e4:IntKind.wrap .i64 (65536 * (a:Int))=65536 * (a:Int):=C8 (by omega)
 have e5:IntKind.wrap .i64 (256 * (b:Int))=256 * (b:Int):=C8 (by omega)
 have e6:IntKind.wrap .i64 (65536 * (a:Int) + 256 * (b:Int))=65536 * (a:Int) + 256 * (b:Int):=C8 (by omega)
 have e7:IntKind.wrap .i64 (65536 * (a:Int) + 256 * (b:Int) + (c:Int))=65536 * (a:Int) + 256 * (b:Int) + (c:Int):=C8 (by omega)
 rw [w1,w2,w3,e1,e2,e4,e5,e6,e7,A4S (by omega) (by omega),B0z a (b * 256) (by omega)]
 have e8:a * 65536 + b * 256=(a * 256 + b) * 256:=by omega
 rw [e8,A4S (by omega) (by omega),or8 _ c (by omega)]
 omega
theorem A3l (c:B0) (c':B0) (code:Int) (b:List Int) (hb:gdL (okI .u8) b) (hs:b.length ≤ 1000000000000):∀ (n m:Nat) (C:B0) (i:Nat),b.length - i < n → b.length - i < m → (i ≤ b.length ∧ (b.length - i) % 7=0) →
  (L8 c b n C (b.drop i)).1=(O7 c' code b m C (i:Int)).1
 | 0,_,_,_,h,_,_=>absurd h (Nat.not_lt_zero _)
 | _ + 1,0,_,_,_,h,_=>absurd h (Nat.not_lt_zero _)
 | n + 1,m + 1,C,i,h1,h2,h3=>by
  simp only [L8,O7]
  by_cases hi:i < b.length
  ·rw [decide_eq_true (p:=(0:Int) < ((b.drop i).length:Int)) (by rw [List.length_drop]; omega),decide_eq_true (p:=(i:Int) < (b.length:Int)) (by omega)]
   simp only [cond_true,thn,I7]
   rw [show ix (b.drop i) 0=ix b (i:Int) from W8 b i 0,show ix (b.drop i) 1=ix b ((i + 1:Nat):Int) from W8 b i 1,show ix (b.drop i) 2=ix b ((i + 2:Nat):Int) from W8 b i 2,show ix (b.drop i) 4=ix b ((i + 4:Nat):Int) from W8 b i 4,show ix (b.drop i) 5=ix b ((i + 5:Nat):Int) from W8 b i 5,show ix (b.drop i) 6=ix b ((i + 6:Nat):Int) from W8 b i 6]
   rw [show IntKind.wrap .i64 ((i:Int) + 1)=((i + 1:Nat):Int) from A0B i 1 (by omega),show IntKind.wrap .i64 ((i:Int) + 2)=((i + 2:Nat):Int) from A0B i 2 (by omega),show IntKind.wrap .i64 ((i:Int) + 4)=((i + 4:Nat):Int) from A0B i 4 (by omega),show IntKind.wrap .i64 ((i:Int) + 5)=((i + 5:Nat):Int) from A0B i 5 (by omega),show IntKind.wrap .i64 ((i:Int) + 6)=((i + 6:Nat):Int) from A0B i 6 (by omega),show IntKind.wrap .i64 ((i:Int) + 7)=((i + 7:Nat):Int) from A0B i 7 (by omega)]
   rw [show sub (b.drop i) 7 ((b.drop i).length:Int)=b.drop (i + 7) from A5E b i 7,A6c (O5 hb _) (O5 hb _) (O5 hb _)]
   exact A3l c c' code b hb hs n m _ (i + 7) (by omega) (by omega) (by omega)
  ·rw [decide_eq_false (p:=(0:Int) < ((b.drop i).length:Int)) (by rw [List.length_drop]; omega),decide_eq_false (p:=(i:Int) < (b.length:Int)) (by omega)]
   rfl
theorem A4A {x y:Int} (hx:0 ≤ x ∧ x < 256) (hy:0 ≤ y ∧ y < 256) :
  O1 .i64 (ior .i64 (IntKind.wrap .i64 ((IntKind.wrap .i64 x) * 2 ^ 8)) (IntKind.wrap .i64 y)) 4095=IntKind.wrap .i64 ((IntKind.wrap .i64 (256 * (IntKind.wrap .i64 (Int.tmod x 16)))) + (IntKind.wrap .i64 y)):=by
 obtain ⟨a,rfl⟩:=Int.eq_ofNat_of_zero_le hx.1
 obtain ⟨b,rfl⟩:=Int.eq_ofNat_of_zero_le hy.1
 have e1:IntKind.wrap .i64 ((IntKind.wrap .i64 (a:Int)) * 2 ^ 8)=((a * 2 ^ 8:Nat):Int):=by simp only [D2]; omega
 have e3:IntKind.wrap .i64 (b:Int)=b:=by simp only [D2]; omega
 rw [e1,e3,A4S (by omega) (by omega),A1J 8 a b (by omega),show (4095:Int)=((2 ^ 12 - 1:Nat):Int) from rfl,A7J (by omega) (by omega),A7P,B5,if_pos (by omega)]
 simp only [D2]
 omega
theorem A8T (c:B0) (code:Int) (b:List Int) (hb:gdL (okI .u8) b) (hs:b.length ≤ 1000000000000):I8 c code b=H1 c code b:=by
 simp only [I8,H1]
 by_cases h65:code=65
 ·rw [decide_eq_true h65,cond_true,cond_true]
  by_cases hl:b.length=4
  ·rw [decide_eq_true (by omega)]
   simp only [Bool.not_true,cond_false]
   match b,hl,hb with
   | [x,y,z,w],_,hb =>
    have hx:=Y9 (hb x (by simp))
    have hy:=Y9 (hb y (by simp))
    have hz:=Y9 (hb z (by simp))
    have hw:=Y9 (hb w (by simp))
    rw [A3A x y z w hx hy hz hw,A7Q x y z w hx hy hz hw,C8 (by omega)]
    congr 1
    by_cases h0:((x * 256 + y) * 256 + z) * 256 + w=0
    ·rw [h0]; rfl
    ·rw [decide_eq_false h0,decide_eq_true (by omega)]; rfl
  ·rw [decide_eq_false (by omega)]
   rfl
 ·rw [decide_eq_false h65,cond_false,cond_false]
  by_cases h64:code=64
  ·rw [decide_eq_true h64,cond_true,cond_true]
   simp only [I5,thn]
   by_cases hl:b.length % 4=2
   ·have e1:(decide ((b.length:Int) < 2) || !decide (Int.tmod (IntKind.wrap .i64 ((b.length:Int) - 2)) 4=0))=false:=by
     rw [decide_eq_false (by omega),C8 (by omega),B5,if_pos (by omega),decide_eq_true (by omega)]; rfl
    have e2:decide (Int.tmod (b.length:Int) 4=2)=true:=by
     rw [B5,if_pos (by omega),decide_eq_true (by omega)]
    rw [e1,e2]
    simp only [cond_false,Bool.not_true]
    rw [A8S (O5 hb 0),A4A (O5 hb 0) (O5 hb 1)]
    have hd:sub b 2 (b.length:Int)=b.drop 2:=by
     unfold sub; rw [List.take_of_length_le (by omega)]; rfl
    rw [hd]
    congr 1
    exact A1t c c code b hb hs _ _ _ 2 (by rw [List.length_drop]; omega) (by omega) (by omega)
   ·have e1:(decide ((b.length:Int) < 2) || !decide (Int.tmod (IntKind.wrap .i64 ((b.length:Int) - 2)) 4=0))=true:=by
     by_cases h2:(b.length:Int) < 2
     ·rw [decide_eq_true h2]; rfl
     ·rw [C8 (by omega),B5,if_pos (by omega),decide_eq_false (p:=((b.length:Int) - 2) % 4=0) (by omega)]; simp
    have e2:decide (Int.tmod (b.length:Int) 4=2)=false:=by
     rw [B5,if_pos (by omega),decide_eq_false (by omega)]
    rw [e1,e2]
    rfl
  ·rw [decide_eq_false h64,cond_false,cond_false]
   by_cases h71:code=71
   ·rw [decide_eq_true h71,cond_true,cond_true]
    simp only [K6,thn]
    by_cases hl:b.length % 7=0
    ·have e2:decide (Int.tmod (b.length:Int) 7=0)=true:=by
      rw [B5,if_pos (by omega),decide_eq_true (by omega)]
     rw [e2]
     simp only [cond_false,Bool.not_true]
     congr 1
     exact A3l c c code b hb hs _ _ _ 0 (by omega) (by omega) (by omega)
    ·have e2:decide (Int.tmod (b.length:Int) 7=0)=false:=by
      rw [B5,if_pos (by omega),decide_eq_false (by omega)]
     rw [e2]
     rfl
   ·rw [decide_eq_false h71]; rfl
theorem ReadCaps_Decode (b:List Int) (hb:gdL (okI .u8) b) (hs:b.length ≤ 1000000000000):N0 b=D0 b:=by
 rw [A5u b hb hs,A1D b hb hs]
 unfold d9
 cases hq:tlv b with
 | none=>rfl
 | some l =>
  congr 1
  refine Z9 fun x hx c=>?_
  obtain ⟨_,h3,h4⟩:=A0P hb hq x hx
  simp only [GR,GC]
  cases hq2:tlv x.2 with
  | none=>rfl
  | some l2 =>
   split
   ·refine Z9 fun y hy c=>?_
    obtain ⟨_,h5,h6⟩:=A0P h3 hq2 y hy
    simp only [HR,HC]
    rw [A8T c y.1 y.2 h5 (by omega)]
   ·rfl
def R7 (c:B0):Prop:=(c.fFour=false ∧ c.fAS4=0 ∨ c.fFour=true ∧ 1 ≤ c.fAS4 ∧ c.fAS4 ≤ 4294967295) ∧ (0 ≤ c.fTime ∧ c.fTime ≤ 4095) ∧ (c.fGR=true ∨ c.fRestarting=false ∧ c.fTime=0 ∧ c.fFamily=false) ∧ (c.fFamily=true ∨ c.fForward=false) ∧ (0 ≤ c.fLLTime ∧ c.fLLTime ≤ 16777215) ∧ (c.fLL=true ∨ c.fLLTime=0)
theorem Z1 (c:B0):J5 c=true ↔ R7 c:=by
 obtain ⟨f,a,g,r,t,fa,fo,l,lt⟩:=c
 simp only [J5,R7,Bool.and_eq_true,Bool.or_eq_true,decide_eq_true_eq,Bool.not_eq_true',and_assoc]
theorem s8 (c:B0):G7 c=J5 c:=by
 rw [Bool.eq_iff_iff,Z1]
 obtain ⟨f,a,g,r,t,fa,fo,l,lt⟩:=c
 simp only [G7,R7]
 cases f <;> cases g <;> cases r <;> cases fa <;> cases fo <;> cases l <;> simp [cond_eq_ite] <;> omega
theorem A2S:R7 T7:=by simp [R7,T7]
theorem A4g:R7 default:=(rfl:(default:B0)=T7) ▸ A2S
theorem q5 (c:B0) (b:List Int):∀ (n:Nat) (C:B0) (x:List Int),R7 C → C.fGR=true → R7 (K7 c b n C x).1
 | 0,_,_,_,_=>A4g
 | n + 1,C,x,h,hg=>by
  simp only [K7,thn]
  cases decide ((0:Int) < (x.length:Int)) with
  | false=>exact h
  | true =>
   simp only [cond_true]
   cases (I7 x && !C.fFamily) with
   | false=>exact q5 c b n _ _ h hg
   | true =>
    simp only [cond_true]
    refine q5 c b n _ _ ?_ hg
    obtain ⟨h1,h2,h3,h4,h5,h6⟩:=h
    exact ⟨h1,h2,.inl hg,.inl rfl,h5,h6⟩
theorem A0H (c:B0) (b:List Int):∀ (n:Nat) (C:B0) (x:List Int),gdL (okI .u8) x → R7 C → R7 (L8 c b n C x).1
 | 0,_,_,_,_=>A4g
 | n + 1,C,x,hx,h=>by
  simp only [L8,thn]
  cases decide ((0:Int) < (x.length:Int)) with
  | false=>exact h
  | true =>
   simp only [cond_true]
   cases (I7 x && !C.fLL) with
   | false=>exact A0H c b n _ _ (S4 hx) h
   | true =>
    simp only [cond_true]
    refine A0H c b n _ _ (S4 hx) ?_
    obtain ⟨h1,h2,h3,h4,h5,h6⟩:=h
    refine ⟨h1,h2,h3,h4,?_,.inl rfl⟩
    rw [A6c (O5 hx 4) (O5 hx 5) (O5 hx 6)]
    have:=O5 hx 4
    have:=O5 hx 5
    have:=O5 hx 6
    generalize ix x 4=p at *
    generalize ix x 5=q at *
    generalize ix x 6=r at *
    rw [C8 (n:=p) (by omega),C8 (n:=q) (by omega),C8 (n:=r) (by omega),C8 (n:=65536 * p) (by omega),C8 (n:=256 * q) (by omega),C8 (n:=65536 * p + 256 * q) (by omega),C8 (by omega)]
    dsimp only
    omega
theorem B0q (b:List Int) (hb:gdL (okI .u8) b) (hl:b.length=4):0 ≤ G1 b ∧ G1 b < 4294967296:=by
 match b,hl,hb with
 | [x,y,z,w],_,hb =>
  have hx:=Y9 (hb x (by simp))
  have hy:=Y9 (hb y (by simp))
  have hz:=Y9 (hb z (by simp))
  have hw:=Y9 (hb w (by simp))
  rw [A3A x y z w hx hy hz hw]
  omega
theorem A7q (c:B0) (code:Int) (b:List Int) (hb:gdL (okI .u8) b) (h:R7 c) (h1:(I8 c code b).1=true):R7 (I8 c code b).2:=by
 revert h1
 simp only [I8]
 cases decide (code=65) with
 | true =>
  simp only [cond_true]
  by_cases hl:b.length=4
  ·rw [decide_eq_true (by omega)]
   simp only [Bool.not_true,cond_false,decide_eq_true_eq]
   have:=B0q b hb hl
   rw [C8 (by omega)]
   intro h0
   obtain ⟨h1,h2,h3,h4,h5,h6⟩:=h
   exact ⟨.inr ⟨rfl,by show 1 ≤ G1 b; omega,by show G1 b ≤ 4294967295; omega⟩,h2,h3,h4,h5,h6⟩
  ·rw [decide_eq_false (by omega)]
   intro h0; cases h0
 | false =>
  simp only [cond_false]
  cases decide (code=64) with
  | true =>
   simp only [cond_true,I5,thn]
   cases (decide ((b.length:Int) < 2) || !decide (Int.tmod (IntKind.wrap .i64 ((b.length:Int) - 2)) 4=0)) with
   | true=>intro h0; cases h0
   | false =>
    intro _
    simp only [cond_false]
    refine q5 _ _ _ _ _ ?_ rfl
    obtain ⟨h1,h2,h3,h4,h5,h6⟩:=h
    refine ⟨h1,?_,.inl rfl,.inr rfl,h5,h6⟩
    rw [A4A (O5 hb 0) (O5 hb 1)]
    have:=O5 hb 0
    have:=O5 hb 1
    generalize ix b 0=p at *
    generalize ix b 1=q at *
    have e0:Int.tmod p 16=p % 16:=by rw [B5,if_pos (by omega)]
    rw [e0,C8 (n:=p % 16) (by omega),C8 (n:=q) (by omega),C8 (n:=256 * (p % 16)) (by omega),C8 (by omega)]
    dsimp only
    omega
  | false =>
   simp only [cond_false]
   cases decide (code=71) with
   | true =>
    simp only [cond_true,K6,thn]
    cases (!decide (Int.tmod (b.length:Int) 7=0)) with
    | true=>intro h0; cases h0
    | false =>
     intro _
     simp only [cond_false]
     refine A0H _ _ _ _ _ hb ?_
     obtain ⟨h1,h2,h3,h4,h5,h6⟩:=h
     exact ⟨h1,h2,h3,h4,by simp,.inr rfl⟩
   | false=>intro _; exact h
theorem A4P (b:List Int) (hb:gdL (okI .u8) b) (c:B0) (h:d9 b=some c):R7 c:=by
 unfold d9 at h
 cases hq:tlv b with
 | none=>rw [hq] at h; cases h
 | some l =>
  rw [hq] at h
  refine A1L (fun x hx c c' hc hg=>?_) A2S h
  obtain ⟨_,h3,h4⟩:=A0P hb hq x hx
  simp only [GC] at hg
  split at hg
  ·cases hq2:tlv x.2 with
   | none=>rw [hq2] at hg; cases hg
   | some l2 =>
    rw [hq2] at hg
    refine A1L (fun y hy c c' hc hg=>?_) hc hg
    obtain ⟨_,h5,h6⟩:=A0P h3 hq2 y hy
    simp only [HC,OB] at hg
    cases h1:(I8 c y.1 y.2).1 with
    | false=>rw [h1] at hg; cases hg
    | true =>
     rw [h1] at hg
     simp only [cond_true,Option.some.injEq] at hg
     rw [← hg]
     exact A7q c y.1 y.2 h5 hc h1
  ·cases hg
def j4 (n:Int):List Int:=[n / 16777216 % 256,n / 65536 % 256,n / 256 % 256,n % 256]
def hiB (r:Bool) (t:Int):Int:=(bif r then 128 else 0) + t / 256
def fwB (f:Bool):Int:=bif f then 128 else 0
def B1 (c:B0):List Int:=bif c.fFour then [65,4] ++ j4 c.fAS4 else []
def B2 (c:B0):List Int:=bif c.fGR then (bif c.fFamily then [64,6,hiB c.fRestarting c.fTime,c.fTime % 256,0,1,1,fwB c.fForward] else [64,2,hiB c.fRestarting c.fTime,c.fTime % 256]) else []
def B3 (c:B0):List Int:=bif c.fLL then [71,7,0,1,1,0,c.fLLTime / 65536 % 256,c.fLLTime / 256 % 256,c.fLLTime % 256] else []
def LB (c:B0):List Int:=(B1 c ++ B2 c) ++ B3 c
theorem A6y (n:Int) (h:0 ≤ n ∧ n ≤ 4294967295):E5 n=j4 n:=by
 simp only [E5,j4,C9,C3,fd8,A8P,A9F,List.cons.injEq,and_true]
 try (refine ⟨?_,?_,?_,?_⟩ <;> omega)
theorem A9d (b:List Int) (n:Int) (h:0 ≤ n ∧ n ≤ 4294967295):J9 b (IntKind.wrap .u32 n)=b ++ j4 n:=by
 simp only [J9,j4,C9,C3,fd8,A8P,A9F,List.append_cancel_left_eq,List.cons.injEq,and_true]
 try (refine ⟨?_,?_,?_,?_⟩ <;> omega)
theorem or7 (n:Nat) (h:n < 128):(128 ||| n)=128 + n:=A1J 7 1 n h
theorem A9u (r:Bool) (t:Int) (h:0 ≤ t ∧ t ≤ 4095):ior .u8 (F8 r) (IntKind.wrap .u8 (Int.fdiv t (2 ^ 8)))=hiB r t:=by
 obtain ⟨n,rfl⟩:=Int.eq_ofNat_of_zero_le h.1
 have e1:IntKind.wrap .u8 (Int.fdiv (n:Int) (2 ^ 8))=((n / 256:Nat):Int):=by rw [fd8,C9]; omega
 rw [e1]
 cases r with
 | true =>
  show ior .u8 128 ((n / 256:Nat):Int)=128 + (n:Int) / 256
  rw [A9K (by decide) (by omega),show (128:Int).toNat=128 from rfl,show ((n / 256:Nat):Int).toNat=n / 256 from rfl,or7 _ (by omega)]
  omega
 | false =>
  show ior .u8 0 ((n / 256:Nat):Int)=0 + (n:Int) / 256
  rw [A9K (by decide) (by omega),show (0:Int).toNat=0 from rfl,show ((n / 256:Nat):Int).toNat=n / 256 from rfl,Nat.zero_or]
  omega
theorem A9J (t:Int):IntKind.wrap .u8 t=t % 256:=C9 t
theorem A8k (c:B0) (h:R7 c):H0 c=LB c:=by
 obtain ⟨h1,h2,h3,h4,h5,h6⟩:=h
 simp only [H0,thn,LB,B1,B2,B3,A9u c.fRestarting c.fTime h2]
 simp only [A9J]
 have e1:∀ b,c.fFour=true → J9 b (IntKind.wrap .u32 c.fAS4)=b ++ j4 c.fAS4:=fun b hf=>A9d b _ (by rcases h1 with h | h; exact absurd h.1 (by rw [hf]; decide); omega)
 have f1:Int.fdiv c.fLLTime (2 ^ 16)=c.fLLTime / 65536:=A8P _
 have f2:Int.fdiv c.fLLTime (2 ^ 8)=c.fLLTime / 256:=fd8 _
 have f3:∀ y,F8 y=fwB y:=fun _=>rfl
 rw [f1,f2]
 cases hf:c.fFour with
 | false=>cases c.fGR <;> cases c.fFamily <;> cases c.fLL <;> simp [f3]
 | true=>rw [e1 _ hf]; cases c.fGR <;> cases c.fFamily <;> cases c.fLL <;> simp [f3]
theorem A4D (c:B0):(LB c).length ≤ 40:=by
 simp only [LB,B1,B2,B3,j4]
 cases c.fFour <;> cases c.fGR <;> cases c.fFamily <;> cases c.fLL <;> simp
theorem f7 (c:B0) (h:R7 c):J7 c=if LB c=[] then [] else 2 :: ((LB c).length:Int) :: LB c:=by
 have hl:=A4D c
 unfold J7
 rw [A8k c h,(Z1 c).2 h]
 by_cases h0:LB c=[]
 ·rw [if_pos h0,h0]; rfl
 ·rw [if_neg h0]
  have:(LB c).length ≠ 0:=fun e=>h0 (List.length_eq_zero_iff.1 e)
  rw [decide_eq_false (by omega)]
  have hw:IntKind.wrap .u8 ((LB c).length:Int)=(LB c).length:=by rw [C9]; omega
  rw [hw]
  rfl
theorem A2C (c:B0) (h:¬ R7 c):J7 c=[]:=by
 unfold J7
 have:J5 c=false:=by
  cases hq:J5 c with
  | false=>rfl
  | true=>exact absurd ((Z1 c).1 hq) h
 rw [this]; rfl
theorem A9D (r:Bool) (t:Int) (h:0 ≤ t ∧ t ≤ 4095):IntKind.wrap .u8 (IntKind.wrap .i64 (Int.tdiv (bif r then IntKind.wrap .i64 (t + 32768) else t) 256))=hiB r t ∧ IntKind.wrap .u8 (Int.tmod (bif r then IntKind.wrap .i64 (t + 32768) else t) 256)=t % 256:=by
 cases r with
 | true =>
  simp only [cond_true,hiB]
  rw [C8 (n:=t + 32768) (by omega),B6,if_pos (by omega),B5,if_pos (by omega),C8 (by omega),C9,C9]
  omega
 | false =>
  simp only [cond_false,hiB]
  rw [B6,if_pos (by omega),B5,if_pos (by omega),C8 (by omega),C9,C9]
  omega
theorem A6l (c:B0):H4 c=J7 c:=by
 by_cases h:R7 c
 ·have hg:=(Z1 c).2 h
  have key:∀ X:List Int,X=LB c → (bif decide (((X.length:Int):Int)=0) then [] else ([2,(IntKind.wrap .u8 (X.length:Int))] ++ X))=J7 c:=by
   rintro X rfl
   have hl:=A4D c
   rw [f7 c h]
   by_cases h0:LB c=[]
   ·rw [if_pos h0,h0]; rfl
   ·rw [if_neg h0]
    have:(LB c).length ≠ 0:=fun e=>h0 (List.length_eq_zero_iff.1 e)
    rw [decide_eq_false (by omega)]
    have hw:IntKind.wrap .u8 ((LB c).length:Int)=(LB c).length:=by rw [C9]; omega
    rw [hw]
    rfl
  obtain ⟨h1,h2,h3,h4,h5,h6⟩:=h
  unfold H4
  rw [s8,hg]
  simp only [Bool.not_true,cond_false,thn]
  refine key _ ?_
  have e1:c.fFour=true → E5 c.fAS4=j4 c.fAS4:=fun hf=>A6y _ (by rcases h1 with h | h; exact absurd h.1 (by rw [hf]; decide); omega)
  have e3:sub (E5 c.fLLTime) 1 ((E5 c.fLLTime).length:Int)=[c.fLLTime / 65536 % 256,c.fLLTime / 256 % 256,c.fLLTime % 256]:=by rw [A6y _ (by omega)]; rfl
  have e4:IntKind.wrap .u8 (bif c.fForward then 128 else 0)=fwB c.fForward:=by cases c.fForward <;> rfl
  simp only [e3,e4,(A9D c.fRestarting c.fTime h2).1,(A9D c.fRestarting c.fTime h2).2,LB,B1,B2,B3]
  cases hf:c.fFour with
  | false=>cases c.fGR <;> cases c.fFamily <;> cases c.fLL <;> simp
  | true=>rw [e1 hf]; cases c.fGR <;> cases c.fFamily <;> cases c.fLL <;> simp
 ·rw [A2C c h]
  unfold H4
  have:G7 c=false:=by
   rw [s8]
   cases hq:J5 c with
   | false=>rfl
   | true=>exact absurd ((Z1 c).1 hq) h
  rw [this]; rfl
def P1 (c:B0):List (Int × List Int):=bif c.fFour then [(65,j4 c.fAS4)] else []
def P2 (c:B0):List (Int × List Int):=bif c.fGR then [(64,bif c.fFamily then [hiB c.fRestarting c.fTime,c.fTime % 256,0,1,1,fwB c.fForward] else [hiB c.fRestarting c.fTime,c.fTime % 256])] else []
def P3 (c:B0):List (Int × List Int):=bif c.fLL then [(71,[0,1,1,0,c.fLLTime / 65536 % 256,c.fLLTime / 256 % 256,c.fLLTime % 256])] else []
theorem w9:tlv []=some []:=by rw [tlv]
theorem A7I (t k:Int) (v r:List Int) (h:k=(v.length:Int)):tlv (t :: k :: (v ++ r))=(tlv r).map fun l=>(t,v) :: l:=by
 subst h
 rw [tlv,if_pos (by simp only [List.length_append]; omega),show (v.length:Int).toNat=v.length from rfl,List.drop_left,List.take_left]
theorem l6 (t k:Int) (v:List Int) (h:k=(v.length:Int)):tlv (t :: k :: v)=some [(t,v)]:=by
 have:=A7I t k v [] h
 rw [List.append_nil,w9] at this
 exact this
theorem B0u (c:B0):tlv (B1 c)=some (P1 c):=by
 unfold B1 P1
 cases c.fFour with
 | false=>exact w9
 | true=>exact l6 65 4 (j4 c.fAS4) rfl
theorem B0v (c:B0):tlv (B2 c)=some (P2 c):=by
 unfold B2 P2
 cases c.fGR with
 | false=>exact w9
 | true =>
  cases c.fFamily with
  | false=>exact l6 64 2 [hiB c.fRestarting c.fTime,c.fTime % 256] rfl
  | true=>exact l6 64 6 [hiB c.fRestarting c.fTime,c.fTime % 256,0,1,1,fwB c.fForward] rfl
theorem B0n (c:B0):tlv (B3 c)=some (P3 c):=by
 unfold B3 P3
 cases c.fLL with
 | false=>exact w9
 | true=>exact l6 71 7 [0,1,1,0,c.fLLTime / 65536 % 256,c.fLLTime / 256 % 256,c.fLLTime % 256] rfl
theorem A9w (c:B0):tlv (LB c)=some ((P1 c ++ P2 c) ++ P3 c):=by
 have h12:tlv (B1 c ++ B2 c)=some (P1 c ++ P2 c):=by rw [A4B (B0u c),B0v]; rfl
 unfold LB
 rw [A4B h12,B0n]; rfl
def up1 (c x:B0):B0:=bif c.fFour then ⟨true,c.fAS4,x.fGR,x.fRestarting,x.fTime,x.fFamily,x.fForward,x.fLL,x.fLLTime⟩ else x
def up2 (c x:B0):B0:=bif c.fGR then ⟨x.fFour,x.fAS4,true,c.fRestarting,c.fTime,c.fFamily,c.fForward,x.fLL,x.fLLTime⟩ else x
def up3 (c x:B0):B0:=bif c.fLL then ⟨x.fFour,x.fAS4,x.fGR,x.fRestarting,x.fTime,x.fFamily,x.fForward,true,c.fLLTime⟩ else x
theorem A9A (c x:B0) (h:R7 c):L9 HC x (P1 c)=some (up1 c x):=by
 obtain ⟨h1,h2,h3,h4,h5,h6⟩:=h
 unfold P1 up1
 cases hf:c.fFour with
 | false=>rfl
 | true =>
  have hn:1 ≤ c.fAS4 ∧ c.fAS4 ≤ 4294967295:=by rcases h1 with h | h; exact absurd h.1 (by rw [hf]; decide); exact h.2
  show (OB (I8 x 65 (j4 c.fAS4))).bind _=_
  have hg:G1 (j4 c.fAS4)=c.fAS4:=by
   unfold j4
   rw [A3A _ _ _ _ (by omega) (by omega) (by omega) (by omega)]
   omega
  simp only [I8,hg,decide_true,cond_true]
  have e1:decide (((j4 c.fAS4).length:Int)=4)=true:=rfl
  rw [e1,C8 (by omega),decide_eq_true (p:=(0:Int) < c.fAS4) (by omega)]
  rfl
theorem A7y (r:Bool) (t:Int) (h:0 ≤ t ∧ t ≤ 4095):(!decide (O1 .u8 (hiB r t) 128=0))=r:=by
 rw [A8S (by unfold hiB; cases r <;> simp only [cond_true,cond_false] <;> omega)]
 unfold hiB
 cases r with
 | true=>rw [cond_true,decide_eq_true (by omega)]
 | false=>rw [cond_false,decide_eq_false (by omega)]
theorem A6A (r:Bool) (t:Int) (h:0 ≤ t ∧ t ≤ 4095):O1 .i64 (ior .i64 (IntKind.wrap .i64 ((IntKind.wrap .i64 (hiB r t)) * 2 ^ 8)) (IntKind.wrap .i64 (t % 256))) 4095=t:=by
 have hh:0 ≤ hiB r t ∧ hiB r t < 256:=by unfold hiB; cases r <;> simp only [cond_true,cond_false] <;> omega
 have hm:hiB r t % 16=t / 256:=by unfold hiB; cases r <;> simp only [cond_true,cond_false] <;> omega
 rw [A4A hh (by omega),B5,if_pos hh.1,hm,C8 (n:=t / 256) (by omega),C8 (n:=t % 256) (by omega),C8 (n:=256 * (t / 256)) (by omega),C8 (by omega)]
 omega
theorem A8V (f:Bool):(!decide (O1 .u8 (fwB f) 128=0))=f:=by cases f <;> decide
theorem A9C (c x:B0) (h:R7 c):L9 HC x (P2 c)=some (up2 c x):=by
 obtain ⟨h1,h2,h3,h4,h5,h6⟩:=h
 unfold P2 up2
 cases hf:c.fGR with
 | false=>rfl
 | true =>
  cases hfa:c.fFamily with
  | false =>
   have hfo:c.fForward=false:=by rcases h4 with h | h; exact absurd h (by rw [hfa]; decide); exact h
   show (OB (I8 x 64 [hiB c.fRestarting c.fTime,c.fTime % 256])).bind _=_
   have e0:decide ((64:Int)=65)=false:=rfl
   have e1:(decide ((([hiB c.fRestarting c.fTime,c.fTime % 256]:List Int).length:Int) < 2) || !decide (Int.tmod (IntKind.wrap .i64 ((([hiB c.fRestarting c.fTime,c.fTime % 256]:List Int).length:Int) - 2)) 4=0))=false:=rfl
   have e2:sub [hiB c.fRestarting c.fTime,c.fTime % 256] 2 (([hiB c.fRestarting c.fTime,c.fTime % 256]:List Int).length:Int)=[]:=rfl
   have e3:ix [hiB c.fRestarting c.fTime,c.fTime % 256] 0=hiB c.fRestarting c.fTime:=rfl
   have e4:ix [hiB c.fRestarting c.fTime,c.fTime % 256] 1=c.fTime % 256:=rfl
   simp only [I8,decide_true,e0,cond_true,cond_false,I5,e1,e2,e3,e4,thn,A7y c.fRestarting c.fTime h2,A6A c.fRestarting c.fTime h2,hfo]
   rfl
  | true =>
   show (OB (I8 x 64 [hiB c.fRestarting c.fTime,c.fTime % 256,0,1,1,fwB c.fForward])).bind _=_
   have e0:decide ((64:Int)=65)=false:=rfl
   have e1:(decide ((([hiB c.fRestarting c.fTime,c.fTime % 256,0,1,1,fwB c.fForward]:List Int).length:Int) < 2) || !decide (Int.tmod (IntKind.wrap .i64 ((([hiB c.fRestarting c.fTime,c.fTime % 256,0,1,1,fwB c.fForward]:List Int).length:Int) - 2)) 4=0))=false:=by show (decide (((6:Nat):Int) < 2) || !decide (Int.tmod (IntKind.wrap .i64 (((6:Nat):Int) - 2)) 4=0))=false; decide
   have e2:sub [hiB c.fRestarting c.fTime,c.fTime % 256,0,1,1,fwB c.fForward] 2 (([hiB c.fRestarting c.fTime,c.fTime % 256,0,1,1,fwB c.fForward]:List Int).length:Int)=[0,1,1,fwB c.fForward]:=rfl
   have e3:ix [hiB c.fRestarting c.fTime,c.fTime % 256,0,1,1,fwB c.fForward] 0=hiB c.fRestarting c.fTime:=rfl
   have e4:ix [hiB c.fRestarting c.fTime,c.fTime % 256,0,1,1,fwB c.fForward] 1=c.fTime % 256:=rfl
   have e5:I7 [0,1,1,fwB c.fForward]=true:=rfl
   have e6:ix [0,1,1,fwB c.fForward] 3=fwB c.fForward:=rfl
   have e7:([0,1,1,fwB c.fForward]:List Int).length=4:=rfl
   have e8:sub [0,1,1,fwB c.fForward] 4 ((4:Nat):Int)=[]:=rfl
   have e9:decide ((0:Int) < ((4:Nat):Int))=true:=rfl
   simp only [I8,decide_true,e0,cond_true,cond_false,I5,e1,e2,e3,e4,thn,A7y c.fRestarting c.fTime h2,A6A c.fRestarting c.fTime h2,K7,e5,e6,e7,e8,e9,A8V,Bool.not_false,Bool.and_true]
   rfl
theorem A9E (c x:B0) (h:R7 c):L9 HC x (P3 c)=some (up3 c x):=by
 obtain ⟨h1,h2,h3,h4,h5,h6⟩:=h
 unfold P3 up3
 cases hf:c.fLL with
 | false=>rfl
 | true =>
  show (OB (I8 x 71 [0,1,1,0,c.fLLTime / 65536 % 256,c.fLLTime / 256 % 256,c.fLLTime % 256])).bind _=_
  generalize hp:c.fLLTime / 65536 % 256=p
  generalize hq:c.fLLTime / 256 % 256=q
  generalize hr:c.fLLTime % 256=r
  have e0:decide ((71:Int)=65)=false:=rfl
  have e01:decide ((71:Int)=64)=false:=rfl
  have e1:(!decide (Int.tmod (([0,1,1,0,p,q,r]:List Int).length:Int) 7=0))=false:=by show (!decide (Int.tmod ((7:Nat):Int) 7=0))=false; decide
  have e5:I7 [0,1,1,0,p,q,r]=true:=rfl
  have i4:ix [0,1,1,0,p,q,r] 4=p:=rfl
  have i5:ix [0,1,1,0,p,q,r] 5=q:=rfl
  have i6:ix [0,1,1,0,p,q,r] 6=r:=rfl
  have e7:([0,1,1,0,p,q,r]:List Int).length=7:=rfl
  have e8:sub [0,1,1,0,p,q,r] 7 ((7:Nat):Int)=[]:=rfl
  have e9:decide ((0:Int) < ((7:Nat):Int))=true:=rfl
  have hv:ior .i64 (ior .i64 (IntKind.wrap .i64 ((IntKind.wrap .i64 p) * 2 ^ 16)) (IntKind.wrap .i64 ((IntKind.wrap .i64 q) * 2 ^ 8))) (IntKind.wrap .i64 r)=c.fLLTime:=by
   rw [A6c (by omega) (by omega) (by omega),C8 (n:=p) (by omega),C8 (n:=q) (by omega),C8 (n:=r) (by omega),C8 (n:=65536 * p) (by omega),C8 (n:=256 * q) (by omega),C8 (n:=65536 * p + 256 * q) (by omega),C8 (by omega)]
   omega
  simp only [I8,decide_true,e0,e01,cond_true,cond_false,K6,e1,thn]
  simp only [e7,L8,e5,i4,i5,i6,e8,e9,hv,cond_true,cond_false,Bool.not_false,Bool.and_true,thn]
  rfl
theorem A8J (c x:B0) (h:R7 c):L9 HC x ((P1 c ++ P2 c) ++ P3 c)=some (up3 c (up2 c (up1 c x))):=by
 rw [A1C,A1C,A9A c x h]
 show ((L9 HC (up1 c x) (P2 c)).bind _)=_
 rw [A9C c _ h]
 exact A9E c _ h
theorem B0o (c:B0) (h:R7 c):∃ l,tlv (J7 c)=some l ∧ ∀ x,L9 GC x l=some (up3 c (up2 c (up1 c x))):=by
 rw [f7 c h]
 by_cases h0:LB c=[]
 ·rw [if_pos h0]
  refine ⟨[],w9,fun x=>?_⟩
  have h2:=A9w c
  rw [h0,w9] at h2
  have h2:=Option.some.inj h2
  have h3:=A8J c x h
  rw [← h2] at h3
  exact h3
 ·rw [if_neg h0]
  refine ⟨[(2,LB c)],l6 2 _ (LB c) rfl,fun x=>?_⟩
  show (GC 2 (LB c) x).bind _=_
  unfold GC
  rw [if_pos rfl,A9w]
  show (L9 HC x ((P1 c ++ P2 c) ++ P3 c)).bind _=_
  rw [A8J c x h]
  rfl
theorem A7Y (c:B0) (h:R7 c):up3 c (up2 c (up1 c T7))=c:=by
 obtain ⟨f,a,g,r,t,fa,fo,l,lt⟩:=c
 obtain ⟨h1,h2,h3,h4,h5,h6⟩:=h
 cases f <;> cases g <;> cases l <;> simp_all [up1,up2,up3,T7]
theorem back (c:B0) (h:R7 c):D0 (J7 c)=(c,true):=by
 obtain ⟨l,h1,h2⟩:=B0o c h
 have hl:(J7 c).length ≤ 1000000000000:=by
  have:=A4D c
  rw [f7 c h]
  split <;> simp <;> omega
 rw [A1D _ (A2E c) hl,d9,h1,Option.bind_some,h2,A7Y c h]
 rfl
theorem Decode_pair (b:List Int) (hb:gdL (okI .u8) b) (hs:b.length ≤ 1000000000000):(!((D0 b).2) || J5 ((D0 b).1))=true:=by
 rw [A1D b hb hs]
 cases hq:d9 b with
 | none=>rfl
 | some c=>show (!true || J5 c)=true; rw [(Z1 c).2 (A4P b hb c hq)]; rfl
theorem A4o (c:B0):(J7 c).length ≤ 42:=by
 by_cases h:R7 c
 ·have:=A4D c
  rw [f7 c h]
  split <;> simp <;> omega
 ·rw [A2C c h]; simp
theorem A2O (c:B0):(H4 c).length ≤ 42:=by rw [A6l]; exact A4o c
theorem tmod_rng (x y:Int) (h:0 ≤ x) (h':0 < y):0 ≤ Int.tmod x y ∧ Int.tmod x y < y:=by
 rw [B5,if_pos h]
 exact ⟨Int.emod_nonneg x (by omega),Int.emod_lt_of_pos x h'⟩
end Go.Proofs.YtadmpldpipagnaaGreatDoor
