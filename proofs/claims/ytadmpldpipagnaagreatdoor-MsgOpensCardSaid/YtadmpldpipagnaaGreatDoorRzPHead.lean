import Derived.Test.YtadmpldpipagnaaGreatDoorRzPMsg
namespace Go.Proofs.YtadmpldpipagnaaGreatDoor
open Go.Ab
set_option linter.unusedSimpArgs false
set_option linter.unusedVariables false
theorem A2d (a:List Int):∀ (n:Nat) (i:Int),∃ x,P0 a a n i=.inr x
 | 0,i=>⟨_,rfl⟩
 | n + 1,i=>by
  simp only [P0]
  cases decide (i < (a.length:Int)) with
  | false=>exact ⟨i,rfl⟩
  | true =>
   simp only [decide_true,Bool.not_true,cond_true,cond_false]
   exact A2d a n _
theorem A4b (a:List Int):F5 a a=true:=by
 simp only [F5,decide_true,Bool.not_true,cond_false]
 obtain ⟨x,h⟩:=A2d a (((a.length:Int) - 0).toNat + 1) 0
 rw [h]; rfl
theorem SameNote_refl (a:A3):T2 a a=true:=by simp [T2,A4b]
open Classical in
theorem A6p (b:List Int):∀ (n k:Nat),k ≤ 16 → 16 - k < n → O8 b n k=if ∀ i:Nat,k ≤ i → i < 16 → ix b i=255 then .inr 16 else .inl (0,H2 1 1 [])
 | 0,k,_,h=>by omega
 | n + 1,k,hk,h=>by
  simp only [O8]
  by_cases h1:k < 16
  ·rw [decide_eq_true (p:=((k:Int) < 16)) (by omega)]
   by_cases h2:ix b (k:Int)=255
   ·rw [decide_eq_true h2,C8 (by omega),show ((k:Int) + 1)=((k + 1:Nat):Int) by omega,cond_true,Bool.not_true,cond_false,A6p b n (k + 1) (by omega) (by omega)]
    by_cases h3:∀ i:Nat,k + 1 ≤ i → i < 16 → ix b i=255
    ·rw [if_pos h3,if_pos]
     intro i hi hi2
     by_cases e:i=k
     ·rw [e]; exact h2
     ·exact h3 i (by omega) hi2
    ·rw [if_neg h3,if_neg]
     exact fun h4=>h3 fun i hi hi2=>h4 i (by omega) hi2
   ·rw [decide_eq_false h2,cond_true,Bool.not_false,cond_true,if_neg]
    exact fun h3=>h2 (h3 k (Nat.le_refl _) h1)
  ·obtain rfl:k=16:=by omega
   rw [if_pos]
   ·rfl
   ·intro i hi hi2; omega
theorem A7b {l:List Int} (hl:gdL (okI .u8) l):(A1B l 255=l.length) ↔ ∀ x ∈ l,x=255:=by
 unfold A1B Lib.countByte Lib.bytesOf
 have hlen:(l.map fun n=>UInt8.ofNat n.toNat).length=l.length:=by simp
 rw [← hlen,List.count_eq_length]
 constructor
 ·intro h x hx
  have hr:=A0o.1 (hl x hx)
  have h1:=h _ (List.mem_map.2 ⟨x,hx,rfl⟩)
  have:=congrArg UInt8.toNat h1
  simp at this
  omega
 ·intro h y hy
  obtain ⟨x,hx,rfl⟩:=List.mem_map.1 hy
  rw [h x hx]
theorem A4p (b:List Int) {lo hi i:Int} (h:0 ≤ lo ∧ 0 ≤ i ∧ lo + i < hi):ix (sub b lo hi) i=ix b (lo + i):=by
 unfold ix sub
 rw [List.getD_eq_getElem?_getD,List.getD_eq_getElem?_getD,List.getElem?_drop,List.getElem?_take,if_pos (by omega)]
 congr 2
 omega
theorem A8v (b:List Int) {lo:Int} (h:0 ≤ lo ∧ lo + 2 ≤ b.length):sub b lo (lo + 2)=[ix b lo,ix b (lo + 1)]:=by
 refine List.ext_getElem? fun i=>?_
 unfold ix sub
 rw [List.getElem?_drop,List.getElem?_take]
 obtain ⟨k,rfl⟩:=Int.eq_ofNat_of_zero_le h.1
 have e1:((k:Int) + 2).toNat=k + 2:=by omega
 have e2:((k:Int)).toNat=k:=by omega
 have e3:((k:Int) + 1).toNat=k + 1:=by omega
 rw [e1,e2,e3]
 match i with
 | 0=>rw [if_pos (by omega)]; simp; rw [List.getElem?_eq_getElem (by omega)]; simp
 | 1=>rw [if_pos (by omega)]; simp; rw [List.getElem?_eq_getElem (by omega)]; simp
 | i + 2=>rw [if_neg (by omega)]; simp
theorem A8e (b:List Int) {lo:Int} (h:0 ≤ lo ∧ lo + 1 ≤ b.length):sub b lo (lo + 1)=[ix b lo]:=by
 refine List.ext_getElem? fun i=>?_
 unfold ix sub
 rw [List.getElem?_drop,List.getElem?_take]
 obtain ⟨k,rfl⟩:=Int.eq_ofNat_of_zero_le h.1
 have e1:((k:Int) + 1).toNat=k + 1:=by omega
 have e2:((k:Int)).toNat=k:=by omega
 rw [e1,e2]
 match i with
 | 0=>rw [if_pos (by omega)]; simp; rw [List.getElem?_eq_getElem (by omega)]; simp
 | i + 1=>rw [if_neg (by omega)]; simp
theorem A6g {x y:Int} (hx:0 ≤ x ∧ x < 256) (hy:0 ≤ y ∧ y < 256):ior .i64 (IntKind.wrap .i64 (x * 2 ^ 8)) (IntKind.wrap .i64 y)=256 * x + y:=by
 obtain ⟨m,rfl⟩:=Int.eq_ofNat_of_zero_le hx.1
 obtain ⟨n,rfl⟩:=Int.eq_ofNat_of_zero_le hy.1
 rw [C8 (by omega),C8 (by omega),show ((m:Int) * 2 ^ 8)=((m * 2 ^ 8:Nat):Int) by omega,A8G (by omega) (by omega),show ((m * 2 ^ 8:Nat):Int).toNat=m * 2 ^ 8 from rfl,show (n:Int).toNat=n from rfl,A1J 8 m n (by omega)]
 omega
theorem A8b (b:List Int) (hb:gdL (okI .u8) b):D9 b=256 * ix b 0 + ix b 1:=by
 have h0:=O5 hb 0
 have h1:=O5 hb 1
 unfold D9
 rw [C8 (n:=ix b 0) (by omega),A6g h0 h1]
theorem A7V (c s:Int) (d:List Int):H2 c s d=F2 c s d:=rfl
theorem Head_eq (b:List Int) (hb:gdL (okI .u8) b):E1 b=Q0 b:=by
 unfold E1 Q0
 by_cases hl:(b.length:Int) < 19
 ·rw [decide_eq_true hl]; rfl
 rw [decide_eq_false hl,cond_false,cond_false]
 have hs:=A6p b 17 0 (by omega) (by omega)
 rw [show ((((16:Int) - 0)).toNat + 1)=17 from rfl,show ((0:Nat):Int)=0 from rfl] at *
 rw [hs]
 have hc:=A7b (S4 (lo:=0) (hi:=16) hb)
 have hsl:(sub b 0 16).length=16:=by unfold sub; simp; omega
 have hall:(∀ x ∈ sub b 0 16,x=255) ↔ ∀ i:Nat,0 ≤ i → i < 16 → ix b i=255:=by
  constructor
  ·intro h i _ hi
   refine h _ ?_
   have e:=A4p b (lo:=0) (hi:=16) (i:=i) (by omega)
   rw [show (0:Int) + (i:Int)=i by omega] at e
   rw [← e]
   have:=A2w (l:=sub b 0 16) (i:=(i:Int)) (by omega)
   exact List.mem_of_getElem? this
  ·intro h x hx
   obtain ⟨i,hi,rfl⟩:=List.getElem_of_mem hx
   have e:=A4p b (lo:=0) (hi:=16) (i:=i) (by omega)
   rw [show (0:Int) + (i:Int)=i by omega,h i (by omega) (by omega)] at e
   rw [← e]
   have:=A2w (l:=sub b 0 16) (i:=(i:Int)) (by omega)
   rw [show ((i:Int)).toNat=i by omega,List.getElem?_eq_getElem hi] at this
   exact Option.some.inj this
 rw [hsl,hall] at hc
 have hcount:M2 (sub b 0 16) 255=(A1B (sub b 0 16) 255:Int):=rfl
 rw [hcount]
 by_cases ha:∀ i:Nat,0 ≤ i → i < 16 → ix b i=255
 ·rw [if_pos ha,hc.2 ha]
  have h16:=O5 hb 16
  have h17:=O5 hb 17
  have h18:=O5 hb 18
  have g2:D9 (sub b 16 (b.length:Int))=256 * ix b 16 + ix b 17:=by
   rw [A8b _ (S4 hb),A4p b (by omega),A4p b (by omega)]; rfl
  have w16:IntKind.wrap .i64 (ix b 16)=ix b 16:=C8 (by omega)
  have w17:IntKind.wrap .i64 (ix b 17)=ix b 17:=C8 (by omega)
  have w18:IntKind.wrap .i64 (ix b 18)=ix b 18:=C8 (by omega)
  have wa:IntKind.wrap .i64 (256 * ix b 16)=256 * ix b 16:=C8 (by omega)
  have wb:IntKind.wrap .i64 (256 * ix b 16 + ix b 17)=256 * ix b 16 + ix b 17:=C8 (by omega)
  have s2:sub b 16 18=[ix b 16,ix b 17]:=A8v b (lo:=16) (by omega)
  have s1:sub b 18 19=[ix b 18]:=A8e b (lo:=18) (by omega)
  simp only [g2,w16,w17,w18,wa,wb,s2,s1,A7V,Sum.elim_inr]
  generalize 256 * ix b 16 + ix b 17=n
  generalize ix b 18=k
  have e16:decide (((16:Nat):Int)=16)=true:=rfl
  rw [e16,Bool.not_true,cond_false]
  cases (decide (n < 19) || decide (4096 < n)) with
  | true=>rfl
  | false =>
   simp only [cond_false]
   cases hk:(decide (k < 1) || decide (4 < k)) with
   | true=>rfl
   | false =>
    simp only [cond_false]
    simp only [Bool.or_eq_false_iff,decide_eq_false_iff_not] at hk
    have:P5 k n=((decide (k=1) && decide (n < 29) || decide (k=2) && decide (n < 23)) || decide (k=3) && decide (n < 21) || decide (k=4) && !decide (n=19)):=by
     unfold P5
     rcases (by omega:k=1 ∨ k=2 ∨ k=3 ∨ k=4) with rfl | rfl | rfl | rfl <;> simp
    rw [this]
 ·rw [if_neg ha]
  have hne:¬ ((A1B (sub b 0 16) 255:Int)=16):=fun h=>ha (hc.1 (by omega))
  rw [decide_eq_false hne]
  rfl
end Go.Proofs.YtadmpldpipagnaaGreatDoor
