import Derived.Test.YtadmpldpipagnaaGreatDoorAbFx
import Derived.Test.YtadmpldpipagnaaGreatDoorAbRd
namespace Go.Ab
def O1 (k:IntKind) (a b:Int):Int:=k.wrap (BitVec.ofInt k.bits a &&& BitVec.ofInt k.bits b).toNat
def ior (k:IntKind) (a b:Int):Int:=k.wrap (BitVec.ofInt k.bits a ||| BitVec.ofInt k.bits b).toNat
def ixor (k:IntKind) (a b:Int):Int:=k.wrap (BitVec.ofInt k.bits a ^^^ BitVec.ofInt k.bits b).toNat
def iandNot (k:IntKind) (a b:Int):Int:=k.wrap (BitVec.ofInt k.bits a &&& ~~~(BitVec.ofInt k.bits b)).toNat
theorem Q3 (n:Nat) (a:Nat) (h:a < 2 ^ n):(BitVec.ofInt n (a:Int)).toNat=a:=by
  rw [BitVec.toNat_ofInt]
  have h2:((2 ^ n:Nat):Int)=(2:Int) ^ n:=by simp
  have:(a:Int) % ((2 ^ n:Nat):Int)=a:=Int.emod_eq_of_lt (by omega) (by omega)
  rw [this]; simp
theorem A8W {a b:Int} (ha:0 ≤ a ∧ a < 9223372036854775808) (hb:0 ≤ b ∧ b < 9223372036854775808):O1 .i64 a b=((a.toNat &&& b.toNat:Nat):Int):=by
  obtain ⟨m,rfl⟩:=Int.eq_ofNat_of_zero_le ha.1
  obtain ⟨n,rfl⟩:=Int.eq_ofNat_of_zero_le hb.1
  unfold O1
  rw [BitVec.toNat_and,show (BitVec.ofInt IntKind.i64.bits (m:Int)).toNat=m from Q3 64 m (by omega),show (BitVec.ofInt IntKind.i64.bits (n:Int)).toNat=n from Q3 64 n (by omega),C8]
  · simp
  · have:m &&& n ≤ m:=Nat.and_le_left
    omega
theorem A8G {a b:Int} (ha:0 ≤ a ∧ a < 9223372036854775808) (hb:0 ≤ b ∧ b < 9223372036854775808):ior .i64 a b=((a.toNat ||| b.toNat:Nat):Int):=by
  obtain ⟨m,rfl⟩:=Int.eq_ofNat_of_zero_le ha.1
  obtain ⟨n,rfl⟩:=Int.eq_ofNat_of_zero_le hb.1
  unfold ior
  rw [BitVec.toNat_or,show (BitVec.ofInt IntKind.i64.bits (m:Int)).toNat=m from Q3 64 m (by omega),show (BitVec.ofInt IntKind.i64.bits (n:Int)).toNat=n from Q3 64 n (by omega),C8]
  · simp
  · have:m ||| n < 2 ^ 63:=Nat.or_lt_two_pow (by omega) (by omega)
    omega
theorem A9t {a b:Int} (ha:0 ≤ a ∧ a < 256) (hb:0 ≤ b ∧ b < 256):O1 .u8 a b=((a.toNat &&& b.toNat:Nat):Int):=by
  obtain ⟨m,rfl⟩:=Int.eq_ofNat_of_zero_le ha.1
  obtain ⟨n,rfl⟩:=Int.eq_ofNat_of_zero_le hb.1
  unfold O1
  rw [BitVec.toNat_and,show (BitVec.ofInt IntKind.u8.bits (m:Int)).toNat=m from Q3 8 m (by omega),show (BitVec.ofInt IntKind.u8.bits (n:Int)).toNat=n from Q3 8 n (by omega),C9]
  have:m &&& n ≤ m:=Nat.and_le_left
  simp; omega
theorem A9K {a b:Int} (ha:0 ≤ a ∧ a < 256) (hb:0 ≤ b ∧ b < 256):ior .u8 a b=((a.toNat ||| b.toNat:Nat):Int):=by
  obtain ⟨m,rfl⟩:=Int.eq_ofNat_of_zero_le ha.1
  obtain ⟨n,rfl⟩:=Int.eq_ofNat_of_zero_le hb.1
  unfold ior
  rw [BitVec.toNat_or,show (BitVec.ofInt IntKind.u8.bits (m:Int)).toNat=m from Q3 8 m (by omega),show (BitVec.ofInt IntKind.u8.bits (n:Int)).toNat=n from Q3 8 n (by omega),C9]
  have:m ||| n < 2 ^ 8:=Nat.or_lt_two_pow (by omega) (by omega)
  simp; omega
theorem iand32 {a b:Int} (ha:0 ≤ a ∧ a < 4294967296) (hb:0 ≤ b ∧ b < 4294967296):O1 .u32 a b=((a.toNat &&& b.toNat:Nat):Int):=by
  obtain ⟨m,rfl⟩:=Int.eq_ofNat_of_zero_le ha.1
  obtain ⟨n,rfl⟩:=Int.eq_ofNat_of_zero_le hb.1
  unfold O1
  rw [BitVec.toNat_and,show (BitVec.ofInt IntKind.u32.bits (m:Int)).toNat=m from Q3 32 m (by omega),show (BitVec.ofInt IntKind.u32.bits (n:Int)).toNat=n from Q3 32 n (by omega),C3]
  have:m &&& n ≤ m:=Nat.and_le_left
  simp; omega
theorem A9o {a b:Int} (ha:0 ≤ a ∧ a < 4294967296) (hb:0 ≤ b ∧ b < 4294967296):ior .u32 a b=((a.toNat ||| b.toNat:Nat):Int):=by
  obtain ⟨m,rfl⟩:=Int.eq_ofNat_of_zero_le ha.1
  obtain ⟨n,rfl⟩:=Int.eq_ofNat_of_zero_le hb.1
  unfold ior
  rw [BitVec.toNat_or,show (BitVec.ofInt IntKind.u32.bits (m:Int)).toNat=m from Q3 32 m (by omega),show (BitVec.ofInt IntKind.u32.bits (n:Int)).toNat=n from Q3 32 n (by omega),C3]
  have:m ||| n < 2 ^ 32:=Nat.or_lt_two_pow (by omega) (by omega)
  simp; omega
theorem A1J (n a b:Nat) (h:b < 2 ^ n):(a * 2 ^ n ||| b)=a * 2 ^ n + b:=by
  rw [Nat.mul_comm,← Nat.two_pow_add_eq_or_of_lt h]
theorem A7P (n a:Nat):(a &&& (2 ^ n - 1))=a % 2 ^ n:=Nat.and_two_pow_sub_one_eq_mod a n
theorem A8Q:∀ a:Nat,a < 256 → ((a &&& 128)=if 128 ≤ a then 128 else 0):=by decide +kernel
end Go.Ab
namespace Go.Ab
theorem B5 (a b:Int):Int.tmod a b=if 0 ≤ a then a % b else -((-a) % b):=by
  split
  · exact Int.tmod_eq_emod_of_nonneg (by assumption)
  · rename_i h
    have:Int.tmod (-a) b=(-a) % b:=Int.tmod_eq_emod_of_nonneg (by omega)
    rw [Int.neg_tmod] at this
    omega
theorem B6 (a b:Int):Int.tdiv a b=if 0 ≤ a then a / b else -((-a) / b):=by
  split
  · exact Int.tdiv_eq_ediv_of_nonneg (by assumption)
  · rename_i h
    have:Int.tdiv (-a) b=(-a) / b:=Int.tdiv_eq_ediv_of_nonneg (by omega)
    rw [Int.neg_tdiv] at this
    omega
example (a:Nat) (h:Int.tmod ((a:Int) - 2) 4=0) (h2:2 ≤ a):(a:Int) % 4=2:=by
  simp only [B5] at *
  omega
end Go.Ab
namespace Go.Ab
theorem B7 {α:Type} (l:List α) (lo hi:Int):(sub l lo hi).length=min hi.toNat l.length - lo.toNat:=by simp [sub]
end Go.Ab
namespace Go.Ab
def gdL {α:Type} (ok:α → Prop) (l:List α):Prop:=∀ x ∈ l,ok x
theorem R9 {α:Type} {p:α → Prop}:gdL p []:=fun _ h=>nomatch h
theorem S6 {α:Type} {p:α → Prop} {x:α} {l:List α} (h:p x) (h':gdL p l):gdL p (x :: l):=List.forall_mem_cons.2 ⟨h,h'⟩
theorem T4 {α:Type} {p:α → Prop} {l l':List α} (h:gdL p l) (h':gdL p l'):gdL p (l ++ l'):=fun x hx=>(List.mem_append.1 hx).elim (h x) (h' x)
theorem S4 {α:Type} {p:α → Prop} {l:List α} (h:gdL p l) {lo hi:Int}:gdL p (sub l lo hi):=fun x hx=>h x (List.mem_of_mem_take (List.mem_of_mem_drop hx))
theorem A7l {α:Type} [Inhabited α] {p:α → Prop} {l:List α} (h:gdL p l) (i:Int) (h0:p default):p (ix l i):=by
  unfold ix
  rw [List.getD_eq_getElem?_getD]
  cases hq:l[i.toNat]? with
  | none=>exact h0
  | some x=>exact h x (List.mem_of_getElem? hq)
theorem A8p {α:Type} {p:α → Prop} {l:List (List α)} (h:gdL (gdL p) l) (i:Int):gdL p (ix l i):=A7l h i R9
theorem A0o {n:Int}:okI .u8 n ↔ 0 ≤ n ∧ n < 256:=by
  have h1:IntKind.u8.min=0:=rfl
  have h2:IntKind.u8.max=255:=rfl
  simp only [okI,Lit.wf,Bool.and_eq_true,decide_eq_true_eq,h1,h2]
  omega
theorem R2 (n:Int):okI .u8 (IntKind.wrap .u8 n):=A0o.2 (by rw [C9]; omega)
theorem O5 {l:List Int} (h:gdL (okI .u8) l) (i:Int):0 ≤ ix l i ∧ ix l i < 256:=A0o.1 (A7l h i (A0o.2 (by decide)))
theorem okL_gd {α:Type} {p:α → Prop} {l:List α} (h:okL p l):gdL p l:=h.2
theorem okLL_gd {α:Type} {p:α → Prop} {l:List (List α)} (h:okL (okL p) l):gdL (gdL p) l:=fun x hx=>(h.2 x hx).2
end Go.Ab
namespace Go.Ab
theorem S5 {ops:Array Oper} {b:Nat → Bool} {i j:Nat} (hc:M6 ops b) (hi:b i=false) (h:(X3 ops j).contains i=true):b j=false:=by
  cases hq:b j with
  | false=>rfl
  | true=>rw [l4 hc hq h] at hi; cases hi
end Go.Ab
namespace Go.Ab
def A1p (Ψ:St → Prop):Prop:=∀ σ S,Sub σ S → Ψ S → Ψ σ
theorem A1I {a b c:St} (h:Sub a b) (h':Sub b c):Sub a c:=fun B g x w hr=>h' B g x w (h B g x w hr)
theorem V3 {P:Program} {B:Base} {Φ:Exit → St → Prop} {y:Code}:A1p (AW P B y Φ):=fun _ _ h hc=>A4u h hc
theorem X8 {ι:Type} {p:ι → Prop} {S:ι → St}:A1p (fun σ'=>∃ v,p v ∧ Sub σ' (S v)):=fun _ _ h ⟨v,h1,h2⟩=>⟨v,h1,A1I h h2⟩
theorem Y3 {S:St}:A1p (fun σ'=>Sub σ' S):=fun _ _ h h2=>A1I h h2
theorem Y0 {ι:Type} {p:ι → Prop} {S:ι → St}:A1p (fun σ'=>∃ v,Sub σ' (S v) ∧ p v):=fun _ _ h ⟨v,h1,h2⟩=>⟨v,A1I h h1,h2⟩
theorem V4 {P:Program} {B:Base} {Φ:Exit → St → Prop} {σ:St} {x:Code} {ι:Type} {p:ι → Prop} (S:ι → St) (hcl:A1p (Φ .normal)) (h:AW P B x (A1v (fun σ'=>∃ v,p v ∧ Sub σ' (S v)) Φ) σ) (hy:∀ v,p v → Φ .normal (S v)):AW P B x Φ σ:=
  A4G h fun e σ' q=>by
    cases e with
    | normal=>obtain ⟨v,h1,h2⟩:=q; exact hcl _ _ h2 (hy v h1)
    | _=>exact q
end Go.Ab
namespace Go.Ab
theorem A8f {α:Type} {p:α → Prop} {b:Bool} {x y:List α} (h:gdL p x) (h':gdL p y):gdL p (bif b then x else y):=by cases b; exact h'; exact h
end Go.Ab
namespace Go.Ab
theorem z1 (b:Bool):((!b)=true)=(b=false):=Bool.not_eq_true' b
theorem z2 (b:Bool):((!b)=false)=(b=true):=Bool.not_eq_false' b
theorem z3 (a b:Bool):((a && b)=true)=(a=true ∧ b=true):=Bool.and_eq_true a b
theorem z4 (a b:Bool):((a || b)=true)=(a=true ∨ b=true):=Bool.or_eq_true a b
theorem z5 (a b:Bool):((a && b)=false)=(a=false ∨ b=false):=propext Bool.and_eq_false_iff
theorem z6 (a b:Bool):((a || b)=false)=(a=false ∧ b=false):=propext Bool.or_eq_false_iff
theorem z7:(!true)=false:=rfl
theorem z8:(!false)=true:=rfl
theorem z9 (p:Prop) [Decidable p]:(decide p=true)=p:=decide_eq_true_eq
theorem zA (p:Prop) [Decidable p]:(decide p=false)=¬ p:=propext decide_eq_false_iff_not
theorem zB {α:Type} (l l':List α):(l ++ l').length=l.length + l'.length:=List.length_append
theorem zC {α:Type} (x:α) (l:List α):(x :: l).length=l.length + 1:=rfl
theorem zD {α:Type}:([]:List α).length=0:=rfl
end Go.Ab
