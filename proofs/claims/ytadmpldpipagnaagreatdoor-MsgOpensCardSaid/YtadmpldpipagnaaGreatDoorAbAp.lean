import Derived.Test.YtadmpldpipagnaaGreatDoorAbExt
namespace Go.Ab
open Go.RowKit
set_option linter.unusedVariables false
set_option linter.unusedSimpArgs false
section
variable {P:Program} {B:Base} {σ:St} {Φ:Exit → St → Prop} {α:Type} {E:Enc α}
theorem A2z {β:Type} {p:β → Prop} {l:List β} {i:Nat} {x:β} (h:gdL p l) (hx:p x):gdL p (l.set i x):=fun y hy=>(List.mem_or_eq_of_mem_set hy).elim (h y) fun e=>e ▸ hx
theorem A3k {l:List α} (hE:∀ x,(E.pv x).all PV.clean1=true):(l.flatMap E.pv).all PV.clean1=true:=by
  rw [List.all_eq_true]
  intro p hp
  obtain ⟨z,_,hz⟩:=List.mem_flatMap.1 hp
  exact List.all_eq_true.1 (hE z) p hz
theorem A1V (l:List α) (tl:List PV):(l.flatMap E.pv ++ tl).take (l.length * E.sz)=l.flatMap E.pv:=by
  rw [← Z2 l,List.take_left]
theorem A3Z {s:Nat} {l:List α} (hE:∀ x,(E.pv x).map (PV.kill1 s)=E.pv x):(l.flatMap E.pv).map (PV.kill1 s)=l.flatMap E.pv:=by
  rw [List.map_flatMap]
  congr 1
  funext x
  exact hE x
theorem A3d {l:List α} {o:Oper} {d s bytes len:Nat} {t e:TypeId} {parts:List (Nat × Operand)} {qs:List PV} (hd:o.dst=some d) (hN:Nat.blt d σ.N=true) (ho:o.op=.buildSlice t len parts.toArray) (hp:B.pin s=none) (hel:Elt P t e E.sz bytes)
    (hll:l.length=len) (hsmall:Nat.ble (len * E.sz) 16777216=true) (hq:V8 ((List.range len).map fun i=>(i * E.sz,E.sz)) (List.replicate (len * E.sz) .any) (parts.map fun p=>(p.1,σ.ev p.2))=some qs) (hs:qs.map PV.strip1=l.flatMap E.pv) (hE:∀ x,(E.pv x).all PV.clean1=true) (hk:∀ x,(E.pv x).map (PV.kill1 s)=E.pv x) :
    OpStep P B o σ (((σ.kill s).setL s (some (l.flatMap E.pv))).put d (.arr s 0 len len)):=by
  intro g a w hr K Q hK
  obtain ⟨cells,hrun,hR,hcl,hpos⟩:=Y8 ho hel hll (Nat.le_of_ble_eq_true hsmall) hq hs hr
  have hR':H9 σ.T g (l.flatMap E.pv) cells.toList:=W3 (imm:=g.imm) (Imm.le_refl _) (A3k hE) hR
  unfold Oper.wp
  rw [hrun]
  show K (a.put o.dst _) _
  rw [hd]
  have hn:=hr.newBox e hp hR'
  rw [A3Z hk] at hn
  refine hK _ _ _ (hn.put (blt hN) ?_)
  show _=_
  simp
theorem A3V {z:Array Value} (h:z.toList.all (·.oneCell')=true) (n:Nat):∀ v ∈ (Builtin.zeroCells z n).toList,v.oneCell'=true:=by
  intro v hv
  have e:Builtin.zeroCells z n=R0 z n:=rfl
  rw [e,m3] at hv
  obtain ⟨l,hl,hv⟩:=List.mem_flatten.1 hv
  rw [(List.mem_replicate.1 hl).2] at hv
  exact List.all_eq_true.1 h v hv
theorem A2R {l:List α} {o:Oper} {d s s0 off bytes:Nat} {x y:Operand} {t e:TypeId} (hd:o.dst=some d) (hN:Nat.blt d σ.N=true) (ho:o.op=.call { callee:=.builtin .append,args:=#[x,y],argTypes:=#[t,t] }) (hp:B.pin s=none)
    (hel:Elt P t e E.sz bytes) (hx:σ.ev x=.arr s0 off 0 0) (hy:A0Q σ y E l) (hl:0 < l.length) (hby:l.length * bytes ≤ 140737488355328) (hE:∀ x,(E.pv x).all PV.clean1=true) (hk:∀ x,(E.pv x).map (PV.kill1 s)=E.pv x) :
    OpStepX P B o σ (fun c:Nat=>l.length ≤ c ∧ c ≤ 9223372036854775807) (fun c=>(((σ.kill s).setL s (some (l.flatMap E.pv ++ List.replicate ((c - l.length) * E.sz) .any))).put d (.arr s 0 l.length c))):=by
  intro g a w hr K Q hK
  obtain ⟨i,z,hi,hz,hsz,hbyt,hzs,hz1⟩:=hel.get
  obtain ⟨hpos,hbp⟩:=hel.pos
  have hmax:l.length ≤ 140737488355328:=Nat.le_trans (Nat.le_mul_of_pos_right _ hbp) hby
  have hxv:a.eval x=.slice (some ⟨g.β s0,off,none⟩) 0 0:=by have:=hr.ev x; rw [hx] at this; exact this
  rcases V1 (hy _ _ _ (hr.ev y)) with ⟨rfl,_⟩ | ⟨b2,o2,c2,news,hyv,hc2,_,hnews,hni⟩
  · simp at hl
  · have hm:news.length=l.length * i.size:=by rw [I6 hnews,U6,hsz]
    have hcell:∀ j u,news[j]? = some u → w.cell? ((⟨b2,o2,none⟩:Addr).add j)=some u:=fun j u hu=>by rw [Addr.add_lit]; exact hr.imm _ _ _ (hni j u hu)
    have hge:=grownCap_ge w (0 + l.length) 0 e
    have hcm:grownCap w (0 + l.length) 0 e ≤ maxLen:=grownCap_le_maxLen w _ 0 e (by simp only [maxLen]; omega)
    have hrun:=U8 ho (P:=P) (w:=w) (a:=a) (by
      rw [hxv,hyv]
      exact run_append_grow (P:=P) w t o.type e i z hel.und hi hz ⟨g.β s0,off,none⟩ 0 0 [] (by simp) (fun j v hv=>by simp at hv) ⟨b2,o2,none⟩ l.length c2 news hm hcell (by omega) (by omega) (growslice_fits (by omega) (by rw [hbyt,Nat.zero_add]; exact hby)))
    have hR':H9 σ.T g (l.flatMap E.pv) news:=W3 (imm:=g.imm) (Imm.le_refl _) (A3k hE) hnews
    have htl:=A2W (T:=σ.T) (g:=g) _ (A3V hz1 (grownCap w (0 + l.length) 0 e - (0 + l.length)))
    have hcs:H9 σ.T g (l.flatMap E.pv ++ List.replicate (Builtin.zeroCells z.cells (grownCap w (0 + l.length) 0 e - (0 + l.length))).toList.length .any) (([]:List Value).toArray ++ news.toArray ++ Builtin.zeroCells z.cells (grownCap w (0 + l.length) 0 e - (0 + l.length))).toList:=by
      simp only [Array.toList_append,List.nil_append]
      exact R6 hR' htl
    unfold Oper.wp
    rw [hrun]
    show K (a.put o.dst _) _
    rw [hd]
    have hn:=hr.drew.newBox e hp hcs
    rw [List.map_append,A3Z hk] at hn
    have hlen:(Builtin.zeroCells z.cells (grownCap w (0 + l.length) 0 e - (0 + l.length))).toList.length=(grownCap w (0 + l.length) 0 e - l.length) * E.sz:=by
      rw [Array.length_toList,size_zeroCells,hzs,Nat.zero_add]
    rw [hlen,List.map_replicate] at hn
    refine hK (grownCap w (0 + l.length) 0 e) ⟨by omega,by simp only [maxLen] at hcm; omega⟩ _ _ _ (hn.put (blt hN) ?_)
    show _=_
    simp
theorem A7K {o:Oper} {d s off:Nat} {t:TypeId} {x:Operand} {ag:Bool} {l:List α} {tl:List PV} {y:α} {p:PV} (i:Nat) (hd:o.dst=some d) (hN:Nat.blt d σ.N=true) (ho:o.op=.load t x) (ht:Ty P t ag E.sz) (hx:σ.ev x=.loc s off) (hL:σ.L s=some (l.flatMap E.pv ++ tl))
    (he:off=i * E.sz) (hi:l[i]? = some y) (h1:(ag || Nat.beq E.sz 1)=true) (hp:PV.ofCells ag (E.pv y)=p):OpStep P B o σ (σ.put d p):=by
  subst he
  have hlt:i < l.length:=(List.getElem?_eq_some_iff.1 hi).1
  have hle:i * E.sz + E.sz ≤ (l.flatMap E.pv).length:=by
    rw [Z2,← Nat.succ_mul]; exact Nat.mul_le_mul_right _ hlt
  have e:((l.flatMap E.pv ++ tl).drop (i * E.sz)).take E.sz=E.pv y:=by
    rw [List.drop_append_of_le_length (by omega),List.take_append_of_le_length (by rw [List.length_drop]; omega),A4L hi]
  exact A1F hd (blt hN) ho ht hx hL (by rw [e,E.len]) (or1 h1) (by rw [e]; exact hp)
theorem A1u {o:Oper} {s off:Nat} {t:TypeId} {x y:Operand} {ag:Bool} {l:List α} {tl:List PV} {z:α} {p:PV} (i:Nat) (hd:o.dst=none) (ho:o.op=.store t x y) (ht:Ty P t ag E.sz) (hx:σ.ev x=.loc s off) (hy:σ.ev y=p) (hL:σ.L s=some (l.flatMap E.pv ++ tl))
    (he:off=i * E.sz) (hi:i < l.length) (hk:p.okCells=true) (hz:p.cellsP=E.pv z):OpStep P B o σ (σ.setL s (some ((l.set i z).flatMap E.pv ++ tl))):=by
  subst he
  have hle:i * E.sz + E.sz ≤ (l.flatMap E.pv).length:=by
    rw [Z2,← Nat.succ_mul]; exact Nat.mul_le_mul_right _ hi
  have:=A0I (P:=P) (B:=B) (σ:=σ) (p:=p) hd ho ht hx hy hL hk (by rw [hz,E.len]) (by
    rw [List.length_append]; omega)
  have e:J8 (l.flatMap E.pv ++ tl) (i * E.sz) p.cellsP=(l.set i z).flatMap E.pv ++ tl:=by
    rw [hz,← A5h z hi]
    unfold J8
    rw [E.len z,List.take_append_of_le_length (by omega),List.drop_append_of_le_length (by omega)]
    simp
  rw [e] at this
  exact this
end
end Go.Ab
