import Derived.Test.YtadmpldpipagnaaGreatDoorAbMk
import Derived.Lib.BytesEntry
import Derived.Lib.Bytealg
import Derived.Lib.MakeNoZero
import Derived.LoopN
namespace Go.Ab
open Go.RowKit
set_option linter.unusedVariables false
set_option linter.unusedSimpArgs false
def A1B (l:List Int) (c:Int):Nat:=Lib.countByte (Lib.bytesOf l) c.toNat.toUInt8
section
variable {P:Program} {B:Base} {σ:St} {Φ:Exit → St → Prop} {α:Type} {E:Enc α}
theorem A0C (c:Int) (w:World):(Extern.BytealgCount.count #[.slice none 0 0,.int .u8 c]).run P w=.ok (.int .i64 0) w:=by
  have:=Lib.run_countString (P:=P) ByteArray.empty c w
  change Sem.run P (do
    let b ← Extern.Bytes.bytesOf (.string ByteArray.empty)
    let c' ← Extern.Bytes.asByte (.int .u8 c)
    pure (goInt (b.foldl (fun n x=>if x == c' then n + 1 else n) (0:Nat)))) w=_ at this
  change Sem.run P (do
    let b ← Extern.Bytes.bytesOf (.slice none 0 0)
    let c' ← Extern.Bytes.asByte (.int .u8 c)
    pure (goInt (b.foldl (fun n x=>if x == c' then n + 1 else n) (0:Nat)))) w=_
  simp only [Extern.Bytes.bytesOf,F0,H7] at this ⊢
  exact this
theorem A6G {g:Gh} {a:Act} {w:World} (hr:Rel B σ g a w) {l:List Int} {v:Value} (h:m5 (eI .u8) l g.imm v) (c:Int) :
    (Extern.BytealgCount.count #[v,.int .u8 c]).run P w=.ok (.int .i64 (A1B l c:Int)) w:=by
  obtain ⟨A,cp,rfl,h1,h2,h3,h4⟩:=h
  by_cases hl:l=[]
  · subst hl
    cases A with
    | none=>rw [h3 rfl]; exact A0C c w
    | some b =>
      have hl:=Lib.run_loadBytesX (P:=P) w [] b .empty (fun j x hj=>by simp at hj)
      have:=A0C (P:=P) c w
      change Sem.run P (do
        let b ← Extern.Bytes.bytesOf (.slice none 0 0)
        let c' ← Extern.Bytes.asByte (.int .u8 c)
        pure (goInt (b.foldl (fun n x=>if x == c' then n + 1 else n) (0:Nat)))) w=_ at this
      change Sem.run P (do
        let b ← Extern.Bytes.bytesOf (.slice (some b) 0 cp)
        let c' ← Extern.Bytes.asByte (.int .u8 c)
        pure (goInt (b.foldl (fun n x=>if x == c' then n + 1 else n) (0:Nat)))) w=_
      simp only [Extern.Bytes.bytesOf,F0,H7] at this ⊢
      have hl':(Extern.Bytes.loadBytes b 0 .empty).run P w=.ok ByteArray.empty w:=by
        have e:(⟨ByteArray.empty.data ++ (Lib.bytesOf []).toArray⟩:ByteArray)=ByteArray.empty:=rfl
        rw [e] at hl
        exact hl
      rw [hl']
      exact this
  · obtain ⟨b,o,rfl,h5⟩:=h4 hl
    have cell:∀ j x,l[j]? = some x → w.cell? ((⟨b,o,none⟩:Addr).add j)=some (.int .u8 x):=by
      intro j x hj
      obtain ⟨vs,hv,hi⟩:=h5 j x hj
      obtain ⟨v,vs',e,e1,_,e2⟩:H9 noT (gh g.imm) [.sc (.int .u8 x)] vs:=hv
      obtain rfl:v=.int .u8 x:=e1
      have:=hi 0 (.int .u8 x) (by rw [e]; rfl)
      have hc:=hr.imm _ _ _ this
      rw [Addr.add_lit]
      simpa [eI] using hc
    have hl:=Lib.run_loadBytesX (P:=P) w l ⟨b,o,none⟩ .empty cell
    have hs:=Lib.run_countString (P:=P) ⟨(Lib.bytesOf l).toArray⟩ c w
    have he:(⟨ByteArray.empty.data ++ (Lib.bytesOf l).toArray⟩:ByteArray)=⟨(Lib.bytesOf l).toArray⟩:=by
      apply ByteArray.ext
      show (#[]:Array UInt8) ++ (Lib.bytesOf l).toArray=(Lib.bytesOf l).toArray
      simp
    rw [he] at hl
    change Sem.run P (do
      let b ← Extern.Bytes.bytesOf (.slice (some ⟨b,o,none⟩) l.length cp)
      let c' ← Extern.Bytes.asByte (.int .u8 c)
      pure (goInt (b.foldl (fun n x=>if x == c' then n + 1 else n) (0:Nat)))) w=_
    change Sem.run P (do
      let b ← Extern.Bytes.bytesOf (.string ⟨(Lib.bytesOf l).toArray⟩)
      let c' ← Extern.Bytes.asByte (.int .u8 c)
      pure (goInt (b.foldl (fun n x=>if x == c' then n + 1 else n) (0:Nat)))) w=_ at hs
    simp only [Extern.Bytes.bytesOf,F0,H7,hl] at hs ⊢
    simpa [A1B] using hs
theorem A2U {f:FuncId} {fn:Func} {e:Array Value → Sem Value} (hf:P.funcs[f]? = some fn) (hname:(fn.name == "runtime.NumGoroutine")=false) (hb:fn.body.isNone=true) (hn:Extern.findNext fn=none) (he:Extern.find fn=some e) (args:Array Value) (w w':World) (v:Value) (hv:(e args).run P w=.ok v w') :
    (callFunc f args).run P w=.ok (.value v) w':=by
  rw [run_callFunc_extern hf hname hb hn he,hv]
  rfl
theorem A8j {o:Oper} {d:Nat} {f:FuncId} {fn:Func} {x y:Operand} {ts:Array TypeId} {l:List Int} {c:Int} (hd:o.dst=some d) (hN:Nat.blt d σ.N=true) (ho:o.op=.call { callee:=.value (.func f),args:=#[x,y],argTypes:=ts })
    (hf:P.funcs[f]? = some fn) (hname:(fn.name == "runtime.NumGoroutine")=false) (hb:fn.body.isNone=true) (hn:Extern.findNext fn=none) (he:Extern.find fn=some Extern.BytealgCount.count) (hx:A0Q σ x (eI .u8) l) (hy:σ.ev y=.sc (.int .u8 c)) :
    OpStep P B o σ (σ.put d (.sc (.int .i64 (A1B l c:Int)))):=
  K4 hd (blt hN) fun g a w hr=>⟨_,by
    have h1:=A6G (P:=P) hr (hx _ _ _ (hr.ev x)) c
    have h2:=A2U hf hname hb hn he #[a.eval x,a.eval y] w w _ (by rw [hr.ev_sc hy]; exact h1)
    simp only [execOp,ho,resolve,Act.eval,Deferred.ofValue]
    rw [F0,H7]
    simp only [invoke,Array.append_empty]
    simpa [Act.eval] using h2,rfl⟩
end
section
variable {P:Program} {B:Base} {σ:St} {Φ:Exit → St → Prop} {α:Type} {E:Enc α}
theorem A5t {t e t2 ty:TypeId} {sz:Nat} {ag:Bool} {w:World} {b off n c m0:Nat} {sv:Value} {us:List Value} {cs:Array Value} {tb:TypeId} (ht:P.underlying t=some (.slice e)) (hte:Ty P e ag sz) (hlen:(Builtin.lenOf sv).run P w=.ok m0 w) (hf:(Builtin.firstCells sz (Nat.min m0 n) sv).run P w=.ok us.toArray w)
    (hb:w.heap[b]? = some (.cells cs tb (0,0))) (hfit:off + us.length ≤ cs.size) (h1:∀ v ∈ us,v.oneCell'=true) :
    ∃ cs',(Builtin.copy_ #[t,t2] ty #[.slice (some ⟨b,off,none⟩) n c,sv]).run P w=.ok (.int .i64 (Nat.min m0 n:Nat)) (w.setBlk b (.cells cs' tb (0,0))) ∧ cs'.toList=J8 cs.toList off us:=by
  obtain ⟨cs',h2,h3⟩:=Z0 (P:=P) (o:=off) us 0 w cs hb (by simpa using hfit) h1
  refine ⟨cs',?_,by simpa using h3⟩
  have hs2:=O4 hte w
  simp only [Builtin.copy_]
  show (do
    let .slice elem ← underlying t | stuck "copy: slice type expected"
    let .slice base dLen _:=(Value.slice (some ⟨b,off,none⟩) n c) | stuck "copy: slice expected"
    let n:=Nat.min (← Builtin.lenOf sv) dLen
    let cells ← Builtin.firstCells (← sizeOf elem) n sv
    if let some a:=base then storeCells a cells.toList
    pure (goInt n):Sem Value).run P w=_
  rw [F0,run_underlying ht]
  simp only
  rw [F0,hlen]
  simp only
  rw [F0,hs2]
  simp only
  rw [F0,hf]
  simp only
  rw [F0,h2]
  rfl
theorem A8h {o:Oper} {d s off n c:Nat} {x y:Operand} {t e t2:TypeId} {ag:Bool} {ps qs:List PV} {l:List α} (hd:o.dst=some d) (hN:Nat.blt d σ.N=true) (ho:o.op=.call { callee:=.builtin .copy,args:=#[x,y],argTypes:=#[t,t2] }) (ht:P.underlying t=some (.slice e)) (hte:Ty P e ag E.sz)
    (hx:σ.ev x=.arr s off n c) (hL:σ.L s=some ps) (hy:A0Q σ y E l) (hfit:off + Nat.min l.length n * E.sz ≤ ps.length) (hq:J8 ps off ((l.take (Nat.min l.length n)).flatMap E.pv)=qs) (hE:∀ x,(E.pv x).all PV.clean1=true) :
    OpStep P B o σ ((σ.setL s (some qs)).put d (.sc (.int .i64 (Nat.min l.length n:Nat)))):=by
  subst hq
  intro g a w hr K Q hK
  have hv:a.eval x=.slice (some ⟨g.β s,off,none⟩) n c:=by have:=hr.ev x; rw [hx] at this; exact this
  obtain ⟨cs,ty,hb,hps,hno,hown⟩:=hr.box s ps hL
  have hl2:=I6 hps
  have main:∃ m0 us,(Builtin.lenOf (a.eval y)).run P w=.ok m0 w ∧ m0=l.length ∧ (Builtin.firstCells E.sz (Nat.min m0 n) (a.eval y)).run P w=.ok us.toArray w ∧ H9 noT (gh g.imm) ((l.take (Nat.min l.length n)).flatMap E.pv) us:=by
    rcases V1 (hy _ _ _ (hr.ev y)) with ⟨rfl,A,c',hv',hA⟩ | ⟨b,of,c',vs,hv',_,_,hR,hi⟩
    · refine ⟨0,[],by rw [hv']; rfl,rfl,?_,by simp [H9]⟩
      rw [hv']
      cases A with
      | none=>simp [Builtin.firstCells,H7]
      | some z =>
        have:Nat.min 0 n=0:=by simp [Nat.min_def]
        rw [this]
        have:=Go.run_firstCells_some (P:=P) w E.sz 0 z 0 c' [] (by simp) (fun j v h=>by simp at h)
        exact this
    · refine ⟨l.length,vs.take (Nat.min l.length n * E.sz),by rw [hv']; rfl,rfl,?_,?_⟩
      · rw [hv']
        have hvl:=I6 hR
        rw [Z2] at hvl
        have hle:Nat.min l.length n * E.sz ≤ vs.length:=by
          rw [hvl]; exact Nat.mul_le_mul_right _ (Nat.min_le_left _ _)
        refine Go.run_firstCells_some (P:=P) w E.sz (Nat.min l.length n) ⟨b,of,none⟩ l.length c' (vs.take (Nat.min l.length n * E.sz)) (by rw [List.length_take]; omega) (fun j v h=>?_)
        rw [Addr.add_lit]
        rw [List.getElem?_take] at h
        split at h
        · exact hr.imm _ _ _ (hi j v h)
        · cases h
      · rw [A0k]
        exact R5 _ hR
  obtain ⟨m0,us,hlen,rfl,hf,hR⟩:=main
  have hul:=I6 hR
  rw [Z2,List.length_take] at hul
  have hul:us.length=Nat.min l.length n * E.sz:=by
    rw [hul]
    congr 1
    have:Nat.min l.length n ≤ l.length:=Nat.min_le_left _ _
    omega
  have hcl:((l.take (Nat.min l.length n)).flatMap E.pv).all PV.clean1=true:=by
    rw [List.all_eq_true]
    intro p hp
    obtain ⟨z,_,hz⟩:=List.mem_flatMap.1 hp
    exact List.all_eq_true.1 (hE z) p hz
  have hR':H9 σ.T g ((l.take (Nat.min l.length n)).flatMap E.pv) us:=W3 (imm:=g.imm) (Imm.le_refl _) hcl hR
  obtain ⟨cs',hrun,hcs⟩:=A5t (P:=P) (t2:=t2) (ty:=o.type) (c:=c) (us:=us) ht hte hlen hf hb (by rw [hul]; simp at hl2; rw [hl2]; exact hfit) (A0h hR')
  unfold Oper.wp
  have hex:(execOp a.eval o).run P w=.ok (.value (.int .i64 (Nat.min l.length n:Nat))) (w.setBlk (g.β s) (.cells cs' ty (0,0))):=by
    simp only [execOp,ho,resolve]
    rw [F0,H7]
    simp only [invoke,builtin,List.map_toArray,List.map_cons,List.map_nil,hv]
    rw [F0,hrun]
    rfl
  rw [hex]
  show K (a.put o.dst _) _
  rw [hd]
  refine hK _ _ _ ((hr.write hL ?_).put (blt hN) rfl)
  rw [hcs]
  exact W7 off hps hR'
end
section
variable {P:Program} {B:Base} {σ:St} {Φ:Exit → St → Prop} {α:Type} {E:Enc α}
theorem X1 {o:Oper} {d s off n c sz off' n' c':Nat} {x:Operand} {lo hi:Option Operand} {t e:TypeId} {i j:Int} {ag:Bool} (hd:o.dst=some d) (hN:Nat.blt d σ.N=true) (ho:o.op=.slice t x lo hi none) (ht:P.underlying t=some (.slice e)) (hte:Ty P e ag sz)
    (hx:σ.ev x=.arr s off n c) (hlo:isB σ lo i 0) (hhi:isB σ hi j n) (hb:0 ≤ i ∧ i ≤ j ∧ j ≤ (n:Int) ∧ n ≤ c) (ho':off'=if c=i.toNat then off else off + i.toNat * sz) (hn':n'=j.toNat - i.toNat) (hc':c'=c - i.toNat):OpStep P B o σ (σ.put d (.arr s off' n' c')):=
  K4 hd (blt hN) fun g a w hr=>by
    obtain ⟨h0,h1,h2,hc⟩:=hb
    have he:a.eval x=.slice (some ⟨g.β s,off,none⟩) n c:=by have:=hr.ev x; rw [hx] at this; exact this
    have hel:P.elem t=e:=by simp [Program.elem,ht]
    have hu:P.underlying t=some (.slice (P.elem t)):=by rw [hel]; exact ht
    refine ⟨sliced (some ⟨g.β s,off,none⟩) i.toNat j.toNat c sz,?_,?_⟩
    · simp only [execOp,ho,Option.map_none]
      rw [F0,run_sliceAt_slice w t _ _ _ _ hu,he,run_slice_any w t _ n c hu,A3w w (A0j hr hlo) (A0j hr hhi) h0 h1 h2 hc]
      simp only [Result.andThen_ok,hel]
      rw [O4 hte]
      rfl
    · subst hn' hc' ho'
      show sliced _ _ _ _ _=_
      unfold sliced
      split
      · rfl
      · rw [Option.map_some,Addr.add_lit]
theorem A6O {o:Oper} {d s off n c sz off' n' c':Nat} {x yh ym:Operand} {lo:Option Operand} {t e:TypeId} {i j m:Int} {ag:Bool} {kh km:IntKind} (hd:o.dst=some d) (hN:Nat.blt d σ.N=true) (ho:o.op=.slice t x lo (some yh) (some ym)) (ht:P.underlying t=some (.slice e)) (hte:Ty P e ag sz)
    (hx:σ.ev x=.arr s off n c) (hlo:isB σ lo i 0) (hhi:σ.ev yh=.sc (.int kh j)) (hmx:σ.ev ym=.sc (.int km m)) (hb:0 ≤ i ∧ i ≤ j ∧ j ≤ m ∧ m ≤ (c:Int)) (ho':off'=if m.toNat=i.toNat then off else off + i.toNat * sz) (hn':n'=j.toNat - i.toNat) (hc':c'=m.toNat - i.toNat):OpStep P B o σ (σ.put d (.arr s off' n' c')):=
  K4 hd (blt hN) fun g a w hr=>by
    obtain ⟨h0,h1,h2,hc⟩:=hb
    have he:a.eval x=.slice (some ⟨g.β s,off,none⟩) n c:=by have:=hr.ev x; rw [hx] at this; exact this
    have hel:P.elem t=e:=by simp [Program.elem,ht]
    have hu:P.underlying t=some (.slice (P.elem t)):=by rw [hel]; exact ht
    refine ⟨sliced (some ⟨g.β s,off,none⟩) i.toNat j.toNat m.toNat sz,?_,?_⟩
    · simp only [execOp,ho,Option.map_some,hr.ev_sc hhi,hr.ev_sc hmx]
      rw [F0,run_sliceAt_slice w t _ _ _ _ hu,he,run_slice_any w t _ n c hu,A1Z w (A0j hr hlo) h0 h1 h2 hc]
      simp only [Result.andThen_ok,hel]
      rw [O4 hte]
      rfl
    · subst hn' hc' ho'
      show sliced _ _ _ _ _=_
      unfold sliced
      split
      · rfl
      · rw [Option.map_some,Addr.add_lit]
end
section
variable {P:Program} {B:Base} {σ:St} {Φ:Exit → St → Prop} {α:Type} {E:Enc α}
theorem A3n:∀ (n t:Nat) (acc:Array Value),(∀ v ∈ acc.toList,v.oneCell'=true) → ∀ v ∈ (Extern.BytealgMakeNoZero.digits n t acc).toList,v.oneCell'=true
  | 0,_,_,h=>h
  | n + 1,t,acc,h=>by
    rw [Extern.BytealgMakeNoZero.digits]
    refine A3n n _ _ fun v hv=>?_
    rw [Array.toList_push] at hv
    rcases List.mem_append.1 hv with hv | hv
    · exact h v hv
    · rw [List.mem_singleton.1 hv]; rfl
theorem A5L (w:World) (ps:Array TypeId) (t e:TypeId) (ht:P.underlying t=some (.slice e)) (n:Nat) (hn:n ≤ 281474976710656) :
    ∃ cs:Array Value,(Extern.BytealgMakeNoZero.makeNoZero ps #[t] #[.int .i64 n]).run P w=.ok (.slice (some ⟨w.heap.size,0,none⟩) n cs.size) (w.drew.drew.alloc (.cells cs e)) ∧ n ≤ cs.size ∧ cs.size ≤ maxLen ∧ ∀ v ∈ cs.toList,v.oneCell'=true:=by
  have hdef:Extern.BytealgMakeNoZero.makeNoZero ps #[t] #[.int .i64 n] =
      (do
        let .slice elem ← underlying t | stuck "bytealg.MakeNoZero: slice type expected"
        if (n:Int) < 0 || (n:Int) > 2 ^ 48 then runtimePanic (.error "makeslice: len out of range")
        let cap ← choose (.appendCap (n:Int).toNat 0 elem)
        askRoom cap
        let bytes ← choose (.extern "internal/bytealg.MakeNoZero.bytes" 0)
        let a ← newRow elem (Extern.BytealgMakeNoZero.digits cap bytes #[])
        pure (.slice (some a) (n:Int).toNat cap)):=rfl
  refine ⟨Extern.BytealgMakeNoZero.digits (grownCap w n 0 e) ((Question.extern "internal/bytealg.MakeNoZero.bytes" 0).cut (w.tape (w.drawn + 1) (.extern "internal/bytealg.MakeNoZero.bytes" 0))) #[],?_,?_,?_,A3n _ _ _ (by simp)⟩
  · rw [hdef]
    have h1:¬ (n:Int) < 0:=by omega
    have h2:¬ (281474976710656:Int) < (n:Int):=by omega
    simp [run_underlying ht,h1,h2,Question.forced,newRow,Lib.size_digits,grownCap]
  · rw [Lib.size_digits]
    simpa using grownCap_ge w n 0 e
  · rw [Lib.size_digits]
    simpa using grownCap_le_maxLen w n 0 e (by unfold maxLen; omega)
theorem A2W {T:Nat → Option (Nat × Nat)} {g:Gh}:∀ (vs:List Value),(∀ v ∈ vs,v.oneCell'=true) → H9 T g (List.replicate vs.length .any) vs
  | [],_=>rfl
  | v :: vs,h=>⟨v,vs,rfl,trivial,h v (by simp),A2W vs fun u hu=>h u (by simp [hu])⟩
theorem A7L {o:Oper} {d s:Nat} {f:FuncId} {fn:Func} {x:Operand} {ts ps:Array TypeId} {t e:TypeId} {n:Int} (hd:o.dst=some d) (hN:Nat.blt d σ.N=true) (ho:o.op=.call { callee:=.value (.func f),args:=#[x],argTypes:=ts }) (hp:B.pin s=none)
    (hf:P.funcs[f]? = some fn) (hname:(fn.name == "runtime.NumGoroutine")=false) (hb:fn.body.isNone=true) (hn:Extern.findNext fn=none) (he:Extern.find fn=some (Extern.BytealgMakeNoZero.makeNoZero ps #[t])) (ht:P.underlying t=some (.slice e)) (hx:σ.ev x=.sc (.int .i64 n)) (h0:0 ≤ n ∧ n ≤ 281474976710656) :
    OpStepX P B o σ (fun cap:Nat=>n.toNat ≤ cap ∧ cap ≤ 9223372036854775807) (fun cap=>(((σ.kill s).setL s (some (List.replicate cap .any))).put d (.arr s 0 n.toNat cap))):=by
  intro g a w hr K Q hK
  obtain ⟨cs,hrun,h1,h2,h3⟩:=A5L (P:=P) w ps t e ht n.toNat (by omega)
  have hnn:((n.toNat:Nat):Int)=n:=Int.toNat_of_nonneg h0.1
  rw [hnn] at hrun
  have hex:(execOp a.eval o).run P w=.ok (.value (.slice (some ⟨w.heap.size,0,none⟩) n.toNat cs.size)) (w.drew.drew.alloc (.cells cs e)):=by
    have h4:=A2U hf hname hb hn he #[a.eval x] w _ _ (by rw [hr.ev_sc hx]; exact hrun)
    simp only [execOp,ho,resolve,Act.eval,Deferred.ofValue]
    rw [F0,H7]
    simp only [invoke,Array.append_empty]
    simpa [Act.eval] using h4
  unfold Oper.wp
  rw [hex]
  show K (a.put o.dst _) _
  rw [hd]
  have hr2:=hr.drew.drew
  have hbx:=hr2.newBox e hp (A2W cs.toList h3)
  have hk:(List.replicate cs.toList.length PV.any).map (PV.kill1 s)=List.replicate cs.size .any:=by simp [PV.kill1]
  rw [hk] at hbx
  refine hK cs.size ⟨h1,by unfold maxLen at h2; omega⟩ _ _ _ (hbx.put (blt hN) ?_)
  show Value.slice (some ⟨w.heap.size,0,none⟩) n.toNat cs.size=.slice (some ⟨cond (Nat.beq s s) w.heap.size (g.β s),0,none⟩) n.toNat cs.size
  rw [Nat.beq_refl]
  rfl
end
section
variable {P:Program} {B:Base} {σ:St} {Φ:Exit → St → Prop} {α:Type} {E:Enc α}
theorem A1c {o:Oper} {d s off n c off2 n2 c2 sz:Nat} {x y:Operand} {t e t2:TypeId} {ag:Bool} {ps qs:List PV} (hd:o.dst=some d) (hN:Nat.blt d σ.N=true) (ho:o.op=.call { callee:=.builtin .copy,args:=#[x,y],argTypes:=#[t,t2] }) (ht:P.underlying t=some (.slice e)) (hte:Ty P e ag sz)
    (hx:σ.ev x=.arr s off n c) (hy:σ.ev y=.arr s off2 n2 c2) (hL:σ.L s=some ps) (hfit:off + Nat.min n2 n * sz ≤ ps.length) (hfit2:off2 + Nat.min n2 n * sz ≤ ps.length) (hq:J8 ps off ((ps.drop off2).take (Nat.min n2 n * sz))=qs) :
    OpStep P B o σ ((σ.setL s (some qs)).put d (.sc (.int .i64 (Nat.min n2 n:Nat)))):=by
  subst hq
  intro g a w hr K Q hK
  have hv:a.eval x=.slice (some ⟨g.β s,off,none⟩) n c:=by have:=hr.ev x; rw [hx] at this; exact this
  have hv2:a.eval y=.slice (some ⟨g.β s,off2,none⟩) n2 c2:=by have:=hr.ev y; rw [hy] at this; exact this
  obtain ⟨cs,ty,hb,hps,hno,hown⟩:=hr.box s ps hL
  have hl2:=I6 hps
  have hR:H9 σ.T g ((ps.drop off2).take (Nat.min n2 n * sz)) ((cs.toList.drop off2).take (Nat.min n2 n * sz)):=R5 _ (U3 _ hps)
  have hul:((cs.toList.drop off2).take (Nat.min n2 n * sz)).length=Nat.min n2 n * sz:=by
    rw [List.length_take,List.length_drop,hl2]; omega
  have hf:(Builtin.firstCells sz (Nat.min n2 n) (a.eval y)).run P w=.ok ((cs.toList.drop off2).take (Nat.min n2 n * sz)).toArray w:=by
    rw [hv2]
    refine Go.run_firstCells_some (P:=P) w sz (Nat.min n2 n) ⟨g.β s,off2,none⟩ n2 c2 _ hul (fun j v h=>?_)
    rw [Addr.add_lit,T1 hb]
    rw [List.getElem?_take] at h
    split at h
    · rw [List.getElem?_drop] at h
      simpa using h
    · cases h
  obtain ⟨cs',hrun,hcs⟩:=A5t (P:=P) (t2:=t2) (ty:=o.type) (c:=c) (us:=(cs.toList.drop off2).take (Nat.min n2 n * sz)) (m0:=n2) ht hte (by rw [hv2]; rfl) hf hb (by rw [hul]; simp at hl2; rw [hl2]; exact hfit) (A0h hR)
  unfold Oper.wp
  have hex:(execOp a.eval o).run P w=.ok (.value (.int .i64 (Nat.min n2 n:Nat))) (w.setBlk (g.β s) (.cells cs' ty (0,0))):=by
    simp only [execOp,ho,resolve]
    rw [F0,H7]
    simp only [invoke,builtin,List.map_toArray,List.map_cons,List.map_nil,hv]
    rw [F0,hrun]
    rfl
  rw [hex]
  show K (a.put o.dst _) _
  rw [hd]
  refine hK _ _ _ ((hr.write hL ?_).put (blt hN) rfl)
  rw [hcs]
  exact W7 off hps hR
end
section
variable {P:Program} {B:Base} {σ:St} {Φ:Exit → St → Prop} {α:Type} {E:Enc α}
theorem Rel.ownT {g:Gh} {a:Act} {w:World} {s d n c tp:Nat} {l:List α} {ps:List PV} (hr:Rel B σ g a w) (hd:d < σ.N) (hx:σ.env d=.arr s 0 n c) (hn:n=l.length) (hL:σ.L s=some ps) (hpl:ps.take (l.length * E.sz)=l.flatMap E.pv) (hE:∀ x,(E.pv x).map PV.strip1=E.pv x) (hc:l.length ≤ c ∧ c ≤ 9223372036854775807 ∧ c * E.sz ≤ ps.length) :
    ∃ g',Rel B ((((σ.fresh s).dropT tp).setT tp (some (E.sz,l.length))).put d (.own tp l.length (SL E l))) g' a w:=by
  subst hn
  obtain ⟨cs,ty,hb,hps0,hno,hown⟩:=hr.box s _ hL
  have hsz:=I6 hps0
  have hps:H9 σ.T g (l.flatMap E.pv) (cs.toList.take (l.length * E.sz)):=by rw [← hpl]; exact R5 _ hps0
  have hv:a.tmps.getD d undef=.slice (some ⟨g.β s,0,none⟩) l.length c:=by have:=hr.env d; rw [hx] at this; exact this
  have flatE:(l.flatMap E.pv).map PV.strip1=l.flatMap E.pv:=by
    rw [List.map_flatMap]
    congr 1
    funext x
    exact hE x
  have hR:H9 noT (gh g.imm) (l.flatMap E.pv) (cs.toList.take (l.length * E.sz)):=by
    rw [← flatE]; exact A0R (Imm.le_refl _) hps
  have hlt:=(Array.getElem?_eq_some_iff.1 hb).1
  have hr2:=hr.fresh s
  have liveL:∀ s' ps',(σ.fresh s).L s'=some ps' → s' ≠ s ∧ ∃ ps0,σ.L s'=some ps0:=fun s' ps' h=>by
    obtain ⟨h1,ps0,h2,_⟩:=St.fresh_L h
    exact ⟨h1,ps0,h2⟩
  have hi1:Imm.le g.imm (K5 g.imm (g.β s) 0 (cs.toList.take (l.length * E.sz))):=U7 fun o _=>hno o
  have hTk:∀ k,(((σ.fresh s).dropT tp).setT tp (some (E.sz,l.length))).T k=cond (Nat.beq k tp) (some (E.sz,l.length)) ((σ.fresh s).T k):=fun _=>rfl
  have hdr:∀ p v,K2 (σ.fresh s).T g p v → K2 (((σ.fresh s).dropT tp).setT tp (some (E.sz,l.length))).T { g with imm:=K5 g.imm (g.β s) 0 (cs.toList.take (l.length * E.sz)),τ:=fun k=>cond (Nat.beq k tp) (some (g.β s,c)) (g.τ k) } (p.drop1 tp) v:=
    A0m hi1 rfl (fun t' h=>by simp [t9 h]) (fun t' h=>by rw [hTk,t9 h]; rfl)
  have hvs:(cs.toList.take (l.length * E.sz)).length=l.length * E.sz:=by
    have:=I6 hR
    rw [Z2] at this
    exact this
  have key:=Rel.tipTo (σ':=((σ.fresh s).dropT tp).setT tp (some (E.sz,l.length))) (w':=w) hr2 (t:=tp) (sz:=E.sz) (n:=l.length) (c:=c) (b:=g.β s) (lo:=0) (cs:=cs) (ty:=ty) (vs:=cs.toList.take (l.length * E.sz)) rfl rfl
    (fun k v h=>j1 (f2:=PV.drop2 tp) (f3:=PV.dropT tp) (fun p v h=>V6 (f:=PV.drop1 tp) (f2:=PV.drop2 tp) hdr (fun cs=>rfl) (f4 tp) h) (fun cs=>rfl) (q6 tp) h)
    (fun s' ps' h=>by
      have h:((σ.fresh s).L s').map (fun ps=>ps.map (PV.drop1 tp))=some ps':=h
      cases hl:(σ.fresh s).L s' with
      | none=>rw [hl] at h; cases h
      | some ps =>
        rw [hl] at h
        obtain rfl:ps.map (PV.drop1 tp)=ps':=by simpa using h
        exact ⟨ps,rfl,fun us hus=>P7 hdr hus⟩)
    hTk ⟨rfl,rfl,rfl,Nat.le_refl _⟩ (fun _ _ _=>rfl) hb (fun o v h=>by rw [hno] at h; cases h) (fun o _=>hno o)
    (fun j u hu=>by
      rw [List.getElem?_take] at hu
      split at hu
      · rw [Nat.zero_add]; simpa using hu
      · cases hu) (by rw [Nat.zero_add,hvs]) hc.1 (by have:=hc.2.2; simp at hsz; omega)
    (fun s' ps' h=>by
      obtain ⟨h1,ps0,h2⟩:=liveL s' ps' h
      exact hr.apart s' s _ _ h2 hL h1)
    (fun t' x b' c' _ h1 h2=>fun e=>hr.boxtip s _ t' x b' c' hL h1 h2 e.symm) hown
  refine ⟨_,{ key with env:=fun t=>?_ }⟩
  show Rep _ _ (cond (Nat.beq t d) (.own tp l.length (SL E l)) ((((σ.fresh s).dropT tp).setT tp (some (E.sz,l.length))).env t)) _
  cases hq:Nat.beq t d with
  | true =>
    rw [Nat.eq_of_beq_eq_true hq,hv]
    refine ⟨U9 (E:=E) (l:=l) (b:=g.β s) (o:=0) (c:=c) (m8 (T:=noT) hi1 hR) (fun j u hu=>W4 hu) hc.1 hc.2.1,E.sz,l.length,by show cond (Nat.beq tp tp) _ _=_; rw [Nat.beq_refl]; rfl,Nat.le_refl _,fun _=>.inl ⟨g.β s,c,by simp,rfl⟩⟩
  | false=>exact key.env t
theorem A8n {code:Code} {s d n c tp:Nat} {l:List α} {ps:List PV} (hd:Nat.blt d σ.N=true) (hx:σ.env d=.arr s 0 n c) (hn:n=l.length) (hL:σ.L s=some ps) (hpl:ps.take (l.length * E.sz)=l.flatMap E.pv) (hE:∀ x,(E.pv x).map PV.strip1=E.pv x) (hc:l.length ≤ c ∧ c ≤ 9223372036854775807 ∧ c * E.sz ≤ ps.length)
    (hk:AW P B code Φ ((((σ.fresh s).dropT tp).setT tp (some (E.sz,l.length))).put d (.own tp l.length (SL E l)))):AW P B code Φ σ:=fun g a w hr=>by
  obtain ⟨g',hr'⟩:=hr.ownT (tp:=tp) (blt hd) hx hn hL hpl hE hc
  exact hk g' a w hr'
theorem A6Q {s:Nat} {ps qs:List PV} (h:σ.L s=some ps) (e:ps=qs):σ.setL s (some qs)=σ:=by
  subst e
  refine St.ext' rfl (fun _=>rfl) (fun k=>?_) rfl
  show cond (Nat.beq k s) (some ps) (σ.L k)=σ.L k
  cases hq:Nat.beq k s with
  | true=>rw [Nat.eq_of_beq_eq_true hq,h]; rfl
  | false=>rfl
theorem A7r {ops:Array Oper} {rest:List Oper} {s:Nat} {ps qs:List PV} (h:σ.L s=some ps) (e:ps=qs) (hk:AL P B ops Φ rest (σ.setL s (some qs))):AL P B ops Φ rest σ:=by rw [A6Q h e] at hk; exact hk
theorem A6T (cap k:Nat) (h:k ≤ cap):List.replicate cap PV.any=List.replicate k PV.any ++ List.replicate (cap - k) PV.any:=by
  rw [List.replicate_append_replicate]; congr 1; omega
def AWr (P:Program) (B:Base) (c:Code) (Φ:Exit → St → Prop):Nat → St → Prop
  | 0,_=>False
  | n + 1,σ=>AW P B c (A1v (AWr P B c Φ n) Φ) σ
theorem A2I {c:Code}:∀ (n:Nat) (σ:St) (g:Gh) (a:Act) (w:World),AWr P B c Φ n σ → Rel B σ g a w → Code.rounds P c (A5x B Φ) n a w
  | 0,_,_,_,_,h,_=>h
  | n + 1,σ,g,a,w,h,hr=>by
    refine wp_mono (h g a w hr) ?_
    rintro e a' w' ⟨σ',g',r,q⟩
    cases e with
    | normal=>exact A2I n σ' g' a' w' q r
    | _=>exact ⟨σ',g',r,q⟩
theorem A6K {c:Code} (n:Nat) (h:AWr P B c Φ n σ):AW P B (.loop c) Φ σ:=fun g a w hr=>wp_loop_rounds n (A2I n σ g a w h hr)
theorem A5k {c:Code} {n:Nat} (h:AW P B c (A1v (AWr P B c Φ n) Φ) σ):AWr P B c Φ (n + 1) σ:=h
end
end Go.Ab
