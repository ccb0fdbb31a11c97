import Derived.Test.YtadmpldpipagnaaGreatDoorRzFnOpen
namespace Go.Proofs.YtadmpldpipagnaaGreatDoor
open Go.Ab
set_option linter.unusedSimpArgs false
set_option linter.unusedVariables false
theorem A4e {l:List Int} {i:Nat} {z:Int} (h:i ≠ 18):ix (l.set i z) 18=ix l 18:=by
 unfold ix
 rw [List.getD_eq_getElem?_getD,List.getD_eq_getElem?_getD]
 show ((l.set i z)[18]?).getD _=(l[18]?).getD _
 rw [List.getElem?_set_ne h]
def hdO (v a1 a0 h1 h0 i3 i2 i1 i0 k:Int) (C:List Int):List Int:=v :: a1 :: a0 :: h1 :: h0 :: i3 :: i2 :: i1 :: i0 :: k :: C
def msO (n v a1 a0 h1 h0 i3 i2 i1 i0 k:Int) (C:List Int):List Int:=255 :: 255 :: 255 :: 255 :: 255 :: 255 :: 255 :: 255 :: 255 :: 255 :: 255 :: 255 :: 255 :: 255 :: 255 :: 255 :: 0 :: (29 + n) :: 1 :: hdO v a1 a0 h1 h0 i3 i2 i1 i0 k C
theorem A4c (o:D1) (u:A4) (t:A3) (h:(A2 ⟨1,o,u,t⟩).length ≠ 0) :
  (1 ≤ o.fAS ∧ o.fAS ≤ 4294967295 ∧ R7 o.fCaps) ∧ ∃ h1 h0 i3 i2 i1 i0:Int,A2 ⟨1,o,u,t⟩=msO (J7 o.fCaps).length 4 ((if 65535 < o.fAS then 23456 else o.fAS) / 256) ((if 65535 < o.fAS then 23456 else o.fAS) % 256) h1 h0 i3 i2 i1 i0 (J7 o.fCaps).length (J7 o.fCaps):=by
 have hl:=A4o o.fCaps
 unfold A2 at h ⊢
 have hb2:(D7 ⟨1,o,u,t⟩).2=true:=by
  cases hq:(D7 ⟨1,o,u,t⟩).2 with
  | true=>rfl
  | false=>rw [hq] at h; simp at h
 have hbl:=A1W ⟨1,o,u,t⟩
 have hlt:¬ ((4077:Int) < ((D7 ⟨1,o,u,t⟩).1.length:Int)):=by omega
 rw [hb2,decide_eq_false hlt]
 simp only [Bool.not_true,Bool.or_self,cond_false,thn,X0]
 unfold D7 at hb2 ⊢
 cases hc:(((((decide ((o.fAS:Int) < 1)) || (decide ((4294967295:Int) < o.fAS))) || (decide ((o.fHold:Int) < 0))) || (decide ((65535:Int) < o.fHold))) || (!(G7 o.fCaps))) with
 | true=>simp only [hc,cond_true] at hb2; cases hb2
 | false =>
  simp only [Bool.or_eq_false_iff,decide_eq_false_iff_not,Bool.not_eq_false'] at hc
  obtain ⟨⟨⟨⟨c1,c2⟩,c3⟩,c4⟩,c5⟩:=hc
  rw [s8] at c5
  refine ⟨⟨by omega,by omega,(Z1 _).1 c5⟩,?_⟩
  simp only [cond_false,thn,A6l]
  refine ⟨IntKind.wrap .u8 (IntKind.wrap .i64 (Int.tdiv o.fHold 256)),IntKind.wrap .u8 (Int.tmod o.fHold 256),IntKind.wrap .u8 (Int.fdiv (IntKind.wrap .i64 o.fID) (2 ^ 24)),IntKind.wrap .u8 (Int.fdiv (IntKind.wrap .i64 o.fID) (2 ^ 16)),IntKind.wrap .u8 (Int.fdiv (IntKind.wrap .i64 o.fID) (2 ^ 8)),IntKind.wrap .u8 (IntKind.wrap .i64 o.fID),?_⟩
  have hA:(bif decide (65535 < o.fAS) then 23456 else o.fAS)=if 65535 < o.fAS then 23456 else o.fAS:=by
   by_cases h9:65535 < o.fAS
   ·rw [decide_eq_true h9,if_pos h9]; rfl
   ·rw [decide_eq_false h9,if_neg h9]; rfl
  rw [hA]
  generalize hq:(if 65535 < o.fAS then 23456 else o.fAS)=A
  have hAr:0 ≤ A ∧ A ≤ 65535:=by rw [← hq]; split <;> omega
  have e1:IntKind.wrap .u8 (IntKind.wrap .i64 (Int.tdiv A 256))=A / 256:=by
   rw [B6,if_pos (by omega),C8 (by omega),C9]; omega
  have e2:IntKind.wrap .u8 (Int.tmod A 256)=A % 256:=by
   rw [B5,if_pos (by omega),C9]; omega
  generalize hC:J7 o.fCaps=C at *
  have e3:IntKind.wrap .u8 (C.length:Int)=C.length:=by rw [C9]; omega
  have e4:IntKind.wrap .u8 (IntKind.wrap .i64 (Int.tdiv (IntKind.wrap .i64 (19 + ((C.length + 10:Nat):Int))) 256))=0:=by
   rw [C8 (n:=19 + _) (by omega),B6,if_pos (by omega),C8 (by omega),C9]; omega
  have e5:IntKind.wrap .u8 (Int.tmod (IntKind.wrap .i64 (19 + ((C.length + 10:Nat):Int))) 256)=29 + C.length:=by
   rw [C8 (by omega),B5,if_pos (by omega),C9]; omega
  have e6:([4] ++ E4 A ++ E4 o.fHold ++ E5 (IntKind.wrap .i64 o.fID) ++ [IntKind.wrap .u8 (C.length:Int)] ++ C).length=C.length + 10:=by
   simp only [List.length_append,E9,A6,List.length_cons,List.length_nil]; omega
  rw [e6,e3]
  simp only [E4,e1,e2,e4,e5,E5,List.cons_append,List.nil_append,msO,hdO]
  rfl
theorem J2 {o:D1} {u:A4} {t:A3} (h:((decide ((((A2 ⟨1,o,u,t⟩).length:Int):Int)=0)) || !o.fCaps.fFour)=false) :
  decide (((IntKind.wrap .i64 (ix (A2 ⟨1,o,u,t⟩) 18)):Int)=1)=true ∧ 29 ≤ (A2 ⟨1,o,u,t⟩).length ∧ (A2 ⟨1,o,u,t⟩).length ≤ 100000:=by
 simp only [Bool.or_eq_false_iff,decide_eq_false_iff_not] at h
 obtain ⟨_,h1,h0,i3,i2,i1,i0,e⟩:=A4c o u t (by omega)
 have hl:=A1x ⟨1,o,u,t⟩
 refine ⟨?_,?_,by omega⟩
 ·rw [e]; rfl
 ·rw [e]; simp only [msO,hdO,List.length_cons]; omega
theorem A2y (l:List Int) (i:Nat):sub l (i:Int) (l.length:Int)=l.drop i:=by
 unfold sub
 rw [Int.toNat_natCast,Int.toNat_natCast,List.take_length]
theorem A9c (n v a1 a0 h1 h0 i3 i2 i1 i0 k:Int) (C:List Int) (hn:n=C.length) (hl:C.length ≤ 42):E1 (msO n v a1 a0 h1 h0 i3 i2 i1 i0 k C)=(29 + n,⟨0,0,[]⟩):=by
 have hlen:(msO n v a1 a0 h1 h0 i3 i2 i1 i0 k C).length=C.length + 29:=rfl
 have h16:sub (msO n v a1 a0 h1 h0 i3 i2 i1 i0 k C) 0 16=[255,255,255,255,255,255,255,255,255,255,255,255,255,255,255,255]:=rfl
 have hg:D9 (sub (msO n v a1 a0 h1 h0 i3 i2 i1 i0 k C) 16 ((msO n v a1 a0 h1 h0 i3 i2 i1 i0 k C).length:Int))=29 + n:=by
  have:=A2y (msO n v a1 a0 h1 h0 i3 i2 i1 i0 k C) 16
  rw [show ((16:Nat):Int)=16 from rfl] at this
  rw [this]
  show ior .i64 (IntKind.wrap .i64 ((IntKind.wrap .i64 0) * 2 ^ 8)) (IntKind.wrap .i64 (29 + n))=29 + n
  rw [C8 (n:=0) (by omega),A6g (by omega) (by omega)]
  omega
 have h18:IntKind.wrap .i64 (ix (msO n v a1 a0 h1 h0 i3 i2 i1 i0 k C) 18)=1:=rfl
 have hcount:(M2 [255,255,255,255,255,255,255,255,255,255,255,255,255,255,255,255] 255)=16:=by kernel_rfl
 unfold E1
 rw [hg,h18,h16,hcount,decide_eq_false (p:=(((msO n v a1 a0 h1 h0 i3 i2 i1 i0 k C).length:Int):Int) < 19) (by omega)]
 have hs:P5 1 (29 + n)=false:=by
  unfold P5
  rw [decide_eq_false (p:=29 + n < 29) (by omega)]
  rfl
 rw [hs,decide_eq_false (p:=29 + n < 19) (by omega),decide_eq_false (p:=4096 < 29 + n) (by omega)]
 rfl
theorem A6j (v a1 a0 h1 h0 i3 i2 i1 i0 k:Int) (C:List Int) (c:B0) (hC:D0 C=(c,true)) (hf:c.fFour=true) (ha1:0 ≤ a1 ∧ a1 < 256) (ha0:0 ≤ a0 ∧ a0 < 256) (hk:0 ≤ k ∧ k < 256) :
  (D5 (hdO v a1 a0 h1 h0 i3 i2 i1 i0 k C)).2=if v=4 then (if k=C.length then (if 256 * a1 + a0=0 ∨ (256 * a1 + a0 ≠ 23456 ∧ 256 * a1 + a0 ≠ c.fAS4) then ⟨2,2,[]⟩ else ⟨0,0,[]⟩) else ⟨2,0,[]⟩) else ⟨2,1,[0,4]⟩:=by
 have s10:sub (hdO v a1 a0 h1 h0 i3 i2 i1 i0 k C) 10 ((hdO v a1 a0 h1 h0 i3 i2 i1 i0 k C).length:Int)=C:=by
  have:=A2y (hdO v a1 a0 h1 h0 i3 i2 i1 i0 k C) 10
  rw [show ((10:Nat):Int)=10 from rfl] at this
  rw [this]; rfl
 have hg:D9 (sub (hdO v a1 a0 h1 h0 i3 i2 i1 i0 k C) 1 ((hdO v a1 a0 h1 h0 i3 i2 i1 i0 k C).length:Int))=256 * a1 + a0:=by
  have:=A2y (hdO v a1 a0 h1 h0 i3 i2 i1 i0 k C) 1
  rw [show ((1:Nat):Int)=1 from rfl] at this
  rw [this]
  show ior .i64 (IntKind.wrap .i64 ((IntKind.wrap .i64 a1) * 2 ^ 8)) (IntKind.wrap .i64 a0)=_
  rw [C8 (n:=a1) (by omega),A6g ha1 ha0]
 have i0':ix (hdO v a1 a0 h1 h0 i3 i2 i1 i0 k C) 0=v:=rfl
 have i9:IntKind.wrap .i64 (ix (hdO v a1 a0 h1 h0 i3 i2 i1 i0 k C) 9)=k:=by
  show IntKind.wrap .i64 k=k
  exact C8 (by omega)
 unfold D5
 simp only [s10,hg,i0',i9,hC,hf,thn,Bool.not_true,Bool.or_false,cond_true,Bool.true_and]
 by_cases h4:v=4
 ·rw [if_pos h4,decide_eq_true h4,Bool.not_true,cond_false]
  by_cases hk2:k=(C.length:Int)
  ·rw [if_pos hk2,decide_eq_true hk2,Bool.not_true,cond_false]
   by_cases ha:256 * a1 + a0=0 ∨ (256 * a1 + a0 ≠ 23456 ∧ 256 * a1 + a0 ≠ c.fAS4)
   ·rw [if_pos ha]
    have:(decide (256 * a1 + a0=0) || (!decide (256 * a1 + a0=23456)) && !decide (256 * a1 + a0=c.fAS4))=true:=by simpa using ha
    rw [this]; rfl
   ·rw [if_neg ha]
    have:(decide (256 * a1 + a0=0) || (!decide (256 * a1 + a0=23456)) && !decide (256 * a1 + a0=c.fAS4))=false:=by
     rw [Bool.eq_false_iff]; intro h; exact ha (by simpa using h)
    rw [this]; rfl
  ·rw [if_neg hk2,decide_eq_false hk2]; rfl
 ·rw [if_neg h4,decide_eq_false h4]; rfl
theorem A1Q (n v a1 a0 h1 h0 i3 i2 i1 i0 k:Int) (C:List Int) (c:B0) (hn:n=C.length) (hl:C.length ≤ 42) (hC:D0 C=(c,true)) (hf:c.fFour=true) (ha1:0 ≤ a1 ∧ a1 < 256) (ha0:0 ≤ a0 ∧ a0 < 256) (hk:0 ≤ k ∧ k < 256) :
  (A9 (msO n v a1 a0 h1 h0 i3 i2 i1 i0 k C)).2=if v=4 then (if k=C.length then (if 256 * a1 + a0=0 ∨ (256 * a1 + a0 ≠ 23456 ∧ 256 * a1 + a0 ≠ c.fAS4) then ⟨2,2,[]⟩ else ⟨0,0,[]⟩) else ⟨2,0,[]⟩) else ⟨2,1,[0,4]⟩:=by
 have hr:=A6j v a1 a0 h1 h0 i3 i2 i1 i0 k C c hC hf ha1 ha0 hk
 have hs:sub (msO n v a1 a0 h1 h0 i3 i2 i1 i0 k C) 19 ((msO n v a1 a0 h1 h0 i3 i2 i1 i0 k C).length:Int)=hdO v a1 a0 h1 h0 i3 i2 i1 i0 k C:=by
  have:=A2y (msO n v a1 a0 h1 h0 i3 i2 i1 i0 k C) 19
  rw [show ((19:Nat):Int)=19 from rfl] at this
  rw [this]; rfl
 have hlen:(msO n v a1 a0 h1 h0 i3 i2 i1 i0 k C).length=C.length + 29:=rfl
 unfold A9
 rw [A9c n v a1 a0 h1 h0 i3 i2 i1 i0 k C hn hl,hs]
 simp only []
 rw [decide_eq_true (p:=29 + n=((msO n v a1 a0 h1 h0 i3 i2 i1 i0 k C).length:Int)) (by omega),decide_eq_false (p:=29 + n=0) (by omega)]
 rw [← hr]
 cases hd:decide ((D5 (hdO v a1 a0 h1 h0 i3 i2 i1 i0 k C)).2.fCode=0) with
 | false=>rfl
 | true =>
  show (⟨0,0,[]⟩:A3)=_
  have h0:=of_decide_eq_true hd
  rw [hr] at h0 ⊢
  revert h0
  split
  ·split
   ·split
    ·intro h; exact absurd h (by decide)
    ·intro _; rfl
   ·intro h; exact absurd h (by decide)
  ·intro h; exact absurd h (by decide)
end Go.Proofs.YtadmpldpipagnaaGreatDoor
