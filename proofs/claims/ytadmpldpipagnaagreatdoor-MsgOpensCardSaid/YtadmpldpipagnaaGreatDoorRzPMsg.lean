import Derived.Test.YtadmpldpipagnaaGreatDoorRzPCaps
namespace Go.Proofs.YtadmpldpipagnaaGreatDoor
open Go.Ab
set_option linter.unusedSimpArgs false
set_option linter.unusedVariables false
set_option maxRecDepth 100000 in
theorem A5V:E2=true:=by kernel_rfl
theorem enc_note (l:List Int):D6 (⟨3,(⟨0,0,0,(⟨false,0,false,false,0,false,false,false,0⟩:B0)⟩:D1),(⟨[],(⟨0,[],0,0,0,[],[]⟩:A5),[]⟩:A4),(⟨6,0,l⟩:A3)⟩:A8)=bif decide ((4077:Int) < ((l.length + 2:Nat):Int)) then [] else Q8 (J0 255) (IntKind.wrap .i64 (19 + ((l.length + 2:Nat):Int))) ++ [3] ++ ([6,0] ++ l):=by
 have h1:IntKind.wrap .u8 6=6:=rfl
 have h2:IntKind.wrap .u8 0=0:=rfl
 have h3:IntKind.wrap .u8 3=3:=rfl
 simp [D6,G0,h1,h2,h3]
 rfl
theorem A7M {l:List Int} {i:Nat} {c x:Int} (hi:i < l.length) (hc:0 ≤ c ∧ c < 256) (hx:0 ≤ x ∧ x < 256) (hne:c ≠ x):A1B (l.set i c) x < l.length:=by
 have h1:(UInt8.ofNat c.toNat) ≠ x.toNat.toUInt8:=by
  intro e
  have:=congrArg UInt8.toNat e
  simp at this
  omega
 unfold A1B Lib.countByte Lib.bytesOf
 have hl:((l.set i c).map fun n=>UInt8.ofNat n.toNat).length=l.length:=by simp
 rcases Nat.lt_or_ge (((l.set i c).map fun n=>UInt8.ofNat n.toNat).count x.toNat.toUInt8) l.length with h | h
 ·exact h
 ·have h2:=List.count_eq_length.1 (Nat.le_antisymm List.count_le_length (by rw [hl]; exact h)) (UInt8.ofNat c.toNat) (by
   rw [List.mem_map]
   exact ⟨c,List.mem_of_getElem? (by rw [List.getElem?_set_self hi]),rfl⟩)
  exact absurd h2.symm h1
theorem A5D {b:List Int} {i:Nat} {c:Int} (hi:i < 16) (hb:19 ≤ b.length) (hc:0 ≤ c ∧ c < 256) (hne:c ≠ 255):E1 (b.set i c)=(0,F2 1 1 []):=by
 unfold E1
 have h1:¬ (((b.set i c).length:Int) < 19):=by simp only [List.length_set]; omega
 have hs:sub (b.set i c) 0 16=(b.take 16).set i c:=by
  show ((b.set i c).take 16).drop 0=_
  rw [List.drop_zero,List.take_set]
 have h2:¬ (M2 (sub (b.set i c) 0 16) 255=16):=by
  have hl:(b.take 16).length=16:=by rw [List.length_take]; omega
  have:=A7M (l:=b.take 16) (i:=i) (c:=c) (x:=255) (by omega) hc (by decide) hne
  rw [hs]
  unfold M2
  omega
 rw [decide_eq_false h1,decide_eq_false h2]
 rfl
theorem marker_bad {b:List Int} {a c:Int} (o1:okI .u8 a) (o2:okI .u8 c) (h:(((decide (((b.length:Int):Int) < 19)) || (decide ((5000:Int) < (b.length:Int)))) || (decide ((c:Int)=255)))=false):decide (((E1 (List.set b (Int.toNat (Int.tmod a 16)) c)).2.fCode:Int)=0)=false:=by
 simp only [Bool.or_eq_false_iff,decide_eq_false_iff_not] at h
 have ha:=A0o.1 o1
 rw [A5D (by rw [B5]; omega) (by omega) (A0o.1 o2) h.2]
 rfl
end Go.Proofs.YtadmpldpipagnaaGreatDoor
