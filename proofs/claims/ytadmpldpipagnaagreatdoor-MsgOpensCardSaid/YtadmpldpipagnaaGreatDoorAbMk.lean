import Derived.Test.YtadmpldpipagnaaGreatDoorAbArr
namespace Go.Ab
open Go.RowKit
set_option linter.unusedVariables false
set_option linter.unusedSimpArgs false
def R0 (z:Array Value) (n:Nat):Array Value:=(Array.range (n * z.size)).map (z[· % z.size]!)
theorem m3 {z:Array Value}:∀ n:Nat,(R0 z n).toList=(List.replicate n z.toList).flatten
  | 0=>by simp [R0]
  | n + 1=>by
    rw [List.replicate_succ',List.flatten_append,← m3 n]
    simp only [R0,Array.toList_map,Array.toList_range,List.flatten_cons,List.flatten_nil,List.append_nil]
    rw [Nat.add_mul,Nat.one_mul,List.range_add,List.map_append]
    congr 1
    rw [List.map_map]
    apply List.ext_getElem
    · simp
    · intro i h1 h2
      simp only [List.length_map,List.length_range] at h1
      simp only [List.getElem_map,List.getElem_range,Function.comp]
      have:(n * z.size + i) % z.size=i:=by
        rw [Nat.add_comm,Nat.add_mul_mod_self_right,Nat.mod_eq_of_lt h1]
      rw [this,getElem!_pos z i h1]
      simp
theorem A4d {T:Nat → Option (Nat × Nat)} {g:Gh} {qs:List PV} {vs:List Value} (h:H9 T g qs vs):∀ n:Nat,H9 T g ((List.replicate n qs).flatten) ((List.replicate n vs).flatten)
  | 0=>rfl
  | n + 1=>by
    rw [List.replicate_succ,List.replicate_succ,List.flatten_cons,List.flatten_cons]
    have app:∀ {ps:List PV} {us:List Value} {ps':List PV} {us':List Value},H9 T g ps us → H9 T g ps' us' → H9 T g (ps ++ ps') (us ++ us'):=by
      intro ps
      induction ps with
      | nil=>intro us ps' us' h h'; obtain rfl:=h; exact h'
      | cons p ps ih=>rintro us ps' us' ⟨v,vs',rfl,h1,h2,h3⟩ h'; exact ⟨v,_,rfl,h1,h2,ih h3 h'⟩
    exact app h (A4d h n)
theorem A4k {α:Type} {E:Enc α} (x:α):∀ n:Nat,(List.replicate n x).flatMap E.pv=(List.replicate n (E.pv x)).flatten
  | 0=>rfl
  | n + 1=>by rw [List.replicate_succ,List.flatMap_cons,List.replicate_succ,List.flatten_cons,A4k x n]
section
variable {P:Program} {B:Base} {σ:St} {Φ:Exit → St → Prop} {α:Type} {E:Enc α}
theorem A0v {t e:TypeId} {sz bytes:Nat} {z:Value} {k k':IntKind} {n:Int} (hel:Elt P t e sz bytes) (hz:(P.info? e).map (·.zero)=some (some z)) (h0:0 ≤ n ∧ n ≤ 140737488355328) (hb:n * bytes ≤ 140737488355328) (w:World) :
    (Instr.makeSlice t (.int k n) (.int k' n)).run P w=.ok (.slice (some ⟨w.heap.size,0,none⟩) n.toNat n.toNat) (w.alloc (.cells (R0 z.cells n.toNat) e)):=by
  obtain ⟨i,z',hi,hz',hsz,hbyt,hzs,hz1⟩:=hel.get
  obtain rfl:z'=z:=by rw [hi] at hz; simp only [Option.map_some,hz',Option.some.injEq] at hz; exact hz
  obtain ⟨hpos,hbp⟩:=hel.pos
  have hw:IntKind.wrap .i64 n=n:=C8 (by omega)
  have hbn:(bytes:Int) * n=n * bytes:=Int.mul_comm _ _
  have t1:¬ ((n < 0) ∨ ((bytes:Int) * n > 281474976710656)):=by rw [hbn]; omega
  have hroom:¬ (n.toNat * bytes > 140737488355328):=by
    have:((n.toNat * bytes:Nat):Int)=n * bytes:=by rw [Int.natCast_mul,Int.toNat_of_nonneg h0.1]
    omega
  have hrow:(Array.range (n.toNat * sz)).map ((if n.toNat * sz=0 then #[] else z'.cells)[· % (if n.toNat * sz=0 then #[] else z'.cells).size]!)=R0 z'.cells n.toNat:=by
    by_cases hn:n.toNat * sz=0
    · rw [if_pos hn,hn]
      have:n.toNat=0:=by rcases Nat.mul_eq_zero.1 hn with h | h; exact h; omega
      rw [this]
      unfold R0
      rw [Nat.zero_mul]
      apply Array.ext'
      simp
    · rw [if_neg hn]
      unfold R0
      rw [hzs]
  have hmk:∀ zz:Array Value,zz=(if n.toNat * sz=0 then #[] else z'.cells) → (do let a ← newRow e ((Array.range (n.toNat * sz)).map (zz[· % zz.size]!)); pure (.slice (some a) n.toNat n.toNat):Sem Value).run P w=.ok (.slice (some ⟨w.heap.size,0,none⟩) n.toNat n.toNat) (w.alloc (.cells (R0 z'.cells n.toNat) e)):=by
    intro zz hzz
    rw [hzz,hrow]
    rfl
  simp only [Instr.makeSlice]
  have ha:∀ k:IntKind,(asInt (.int k n)).run P w=.ok n w:=fun _=>rfl
  rw [F0,run_underlying hel.und]
  simp only
  rw [F0,ha]
  simp only
  rw [F0,ha]
  simp only
  rw [F0]
  have hinfo:(typeInfo e).run P w=.ok i w:=by simp [typeInfo,program,bind,Sem.bind,Sem.run,hi,pure]
  rw [hinfo]
  simp only [hw,hbyt]
  have c1:decide ((bytes:Int) * n > 2 ^ 48)=false:=decide_eq_false (by rw [hbn]; omega)
  have c2:decide (n < 0)=false:=decide_eq_false (by omega)
  have c3:decide (n > n)=false:=decide_eq_false (by omega)
  simp only [c1,c2,c3,Bool.or_self,Bool.false_eq_true,if_false]
  rw [F0]
  have hask:(askRoom (n.toNat * bytes)).run P w=.ok () w:=by
    unfold askRoom roomBytes
    rw [if_neg hroom]
    rfl
  rw [hask]
  simp only
  rw [F0]
  have hs2:(sizeOf e).run P w=.ok sz w:=by simp [sizeOf,typeInfo,program,bind,Sem.bind,Sem.run,hi,pure,hsz]
  rw [hs2]
  simp only
  by_cases hn:n.toNat * sz=0
  · rw [if_pos hn]
    have:=hmk #[] (by rw [if_pos hn])
    rw [F0,H7]
    exact this
  · rw [if_neg hn]
    have hzv:(zeroValue e).run P w=.ok z' w:=by
      simp [zeroValue,typeInfo,program,bind,Sem.bind,Sem.run,hi,hz',pure]
    rw [F0,hzv]
    simp only
    rw [F0,H7]
    exact hmk z'.cells (by rw [if_neg hn])
theorem A4X {z:Value} {g:Gh} {T:Nat → Option (Nat × Nat)} {x:α} (h1:z.cells.toList.all (·.oneCell')=true) (hx:WkL (z.cells.toList.map PV.sc) (E.pv x)) (n:Nat):H9 T g ((List.replicate n x).flatMap E.pv) (R0 z.cells n).toList:=by
  rw [m3,A4k]
  refine A4d (A1w hx ?_) n
  have:∀ vs:List Value,vs.all (·.oneCell')=true → H9 T g (vs.map PV.sc) vs:=by
    intro vs
    induction vs with
    | nil=>intro _; rfl
    | cons v vs ih =>
      intro h
      simp only [List.all_cons,Bool.and_eq_true] at h
      exact ⟨v,vs,rfl,rfl,h.1,ih h.2⟩
  exact this _ h1
theorem g_makeArr {o:Oper} {d s bytes m:Nat} {t e:TypeId} {x y:Operand} {k k':IntKind} {n:Int} {z:Value} {v:α} (hd:o.dst=some d) (hN:Nat.blt d σ.N=true) (ho:o.op=.makeSlice t x y) (hp:B.pin s=none) (hel:Elt P t e E.sz bytes) (hz:(P.info? e).map (·.zero)=some (some z)) (h1:z.cells.toList.all (·.oneCell')=true)
    (hx:σ.ev x=.sc (.int k n)) (hy:σ.ev y=.sc (.int k' n)) (hv:WkL (z.cells.toList.map PV.sc) (E.pv v)) (hE:∀ x,(E.pv x).map (PV.kill1 s)=E.pv x) (h0:0 ≤ n ∧ n ≤ 140737488355328) (hb:n * bytes ≤ 140737488355328) (hm:n.toNat=m) :
    OpStep P B o σ (((σ.kill s).setL s (some ((List.replicate m v).flatMap E.pv))).put d (.arr s 0 m m)):=by
  subst hm
  intro g a w hr K Q hK
  have hxv:=hr.ev_sc hx
  have hyv:=hr.ev_sc hy
  have hrun:(execOp a.eval o).run P w=.ok (.value (.slice (some ⟨w.heap.size,0,none⟩) n.toNat n.toNat)) (w.alloc (.cells (R0 z.cells n.toNat) e)):=by
    simp only [execOp,ho,hxv,hyv]
    rw [F0,A0v hel hz h0 hb]
    rfl
  unfold Oper.wp
  rw [hrun]
  show K (a.put o.dst _) _
  rw [hd]
  have hn:=hr.newBox e hp (A4X (E:=E) (x:=v) h1 hv n.toNat) (cs:=R0 z.cells n.toNat)
  have hfl:((List.replicate n.toNat v).flatMap E.pv).map (PV.kill1 s)=(List.replicate n.toNat v).flatMap E.pv:=by
    rw [List.map_flatMap]
    congr 1
    funext x
    exact hE x
  rw [hfl] at hn
  refine hK _ _ _ (hn.put (blt hN) ?_)
  show _=_
  simp
theorem g_makeSl {o:Oper} {d bytes m:Nat} {t e:TypeId} {x y:Operand} {k k':IntKind} {n:Int} {z:Value} {v:α} (hd:o.dst=some d) (hN:Nat.blt d σ.N=true) (ho:o.op=.makeSlice t x y) (hel:Elt P t e E.sz bytes) (hz:(P.info? e).map (·.zero)=some (some z)) (h1:z.cells.toList.all (·.oneCell')=true)
    (hx:σ.ev x=.sc (.int k n)) (hy:σ.ev y=.sc (.int k' n)) (hv:WkL (z.cells.toList.map PV.sc) (E.pv v)) (h0:0 ≤ n ∧ n ≤ 140737488355328) (hb:n * bytes ≤ 140737488355328) (hm:n.toNat=m) :
    OpStep P B o σ (σ.put d (.sem (SL E (List.replicate m v)))):=by
  subst hm
  intro g a w hr K Q hK
  have hxv:=hr.ev_sc hx
  have hyv:=hr.ev_sc hy
  have hrun:(execOp a.eval o).run P w=.ok (.value (.slice (some ⟨w.heap.size,0,none⟩) n.toNat n.toNat)) (w.alloc (.cells (R0 z.cells n.toNat) e)):=by
    simp only [execOp,ho,hxv,hyv]
    rw [F0,A0v hel hz h0 hb]
    rfl
  have hnone:∀ o,g.imm w.heap.size o=none:=fun o=>by
    cases hq:g.imm w.heap.size o with
    | none=>rfl
    | some u=>have:=hr.lt_imm hq; omega
  have hi1:Imm.le g.imm (K5 g.imm w.heap.size 0 (R0 z.cells n.toNat).toList):=U7 fun o _=>hnone o
  have hr':=hr.called (w':=w.alloc (.cells (R0 z.cells n.toNat) e)) hi1 (by
    intro b' o' v hv
    simp only [K5] at hv
    split at hv
    · rename_i hc
      obtain ⟨rfl,h1,h2⟩:=hc
      rw [T1 (heap_alloc_new w _)]
      simpa using hv
    · rw [A1m (Below.heap_alloc w _ b' (hr.lt_imm hv))]; exact hr.imm b' o' v hv) (by
    intro b' o' v hv
    simp only [K5] at hv
    split at hv
    · rename_i hc; exact .inr (by omega)
    · exact .inl hv) (Below.alloc (Below.refl _ _) (Nat.le_refl _) _)
  unfold Oper.wp
  rw [hrun]
  show K (a.put o.dst _) _
  rw [hd]
  refine hK _ _ _ (hr'.put (blt hN) ?_)
  have:=U9 (E:=E) (l:=List.replicate n.toNat v) (b:=w.heap.size) (o:=0) (c:=n.toNat) (A4X (E:=E) (x:=v) (T:=noT) (g:=gh (K5 g.imm w.heap.size 0 (R0 z.cells n.toNat).toList)) h1 hv n.toNat) (fun j u hu=>W4 hu) (by simp) (by omega)
  rw [List.length_replicate] at this
  exact this
end
end Go.Ab
