import Derived.Test.YtadmpldpipagnaaGreatDoorAbPq
import Derived.ProofKit
import Derived.OpenShut
import Derived.ShutString
import Derived.ChangeOld
import Derived.SizedLaws
namespace Go.Ab
open Go.RowKit
set_option linter.unusedVariables false
set_option linter.unusedSimpArgs false
def X2 (w:World):Imm:=fun b o=>w.cell? ⟨b,o,none⟩
theorem A7u (w:World):A5b (X2 w) w:=fun _ _ _ h=>h
def A6v:Nat:=140737488351232
def okI (k:IntKind) (n:Int):Prop:=(Lit.int k n).wf=true
def okL {α:Type} (ok:α → Prop) (l:List α):Prop:=l.length ≤ A6v ∧ ∀ x ∈ l,ok x
def okS (s:ByteArray):Prop:=s.size ≤ A6v
def okB (b:Bool):Prop:=True
def q8 (P:Program) (t:TypeId) {α:Type} (cells:α → List PV) (ok:α → Prop):Prop:=
  ∀ (H:Type) (enc:TypeId × Value → H) (w:World) (fuel:Nat) (cs:List Value) (d:DataW H) (p:List MemPlace),DataW.trod enc P w 0 (fun _=>true) true fuel t cs=some (d,p) → (d.weights P t).all (· ≤ reachBytes)=true →
    ∃ x:α,H9 noT (gh (X2 w)) (cells x) cs ∧ ok x
theorem A0i {P:Program} {t:TypeId} {k:IntKind} (hu:P.underlying t=some (.int k)):q8 P t (eI k).pv (okI k):=by
  intro H enc w fuel cs d p h _
  cases fuel with
  | zero=>simp [DataW.trod] at h
  | succ n =>
    unfold DataW.trod at h
    rw [hu] at h
    split at h <;> try (first | (rename_i he _; simp at he; done) | (rename_i he; simp at he; done))
    all_goals (try (simp at h; done))
    · rename_i k0 k' m he
      simp only [Option.some.injEq,TypeDesc.int.injEq] at he
      subst he
      split at h
      · rename_i hc
        obtain ⟨rfl,hw⟩:=hc
        exact ⟨m,⟨_,[],rfl,rfl,rfl,rfl⟩,hw⟩
      · cases h
theorem A5Z {P:Program} {t:TypeId} (hu:P.underlying t=some .bool):q8 P t eB.pv okB:=by
  intro H enc w fuel cs d p h _
  cases fuel with
  | zero=>simp [DataW.trod] at h
  | succ n =>
    unfold DataW.trod at h
    rw [hu] at h
    split at h <;> try (first | (rename_i he _; simp at he; done) | (rename_i he; simp at he; done))
    all_goals (try (simp at h; done))
    · rename_i b he
      exact ⟨b,⟨_,[],rfl,rfl,rfl,rfl⟩,trivial⟩
theorem reads_string {P:Program} {t:TypeId} (hu:P.underlying t=some .string):q8 P t eS.pv okS:=by
  intro H enc w fuel cs d p h hw
  cases fuel with
  | zero=>simp [DataW.trod] at h
  | succ n =>
    unfold DataW.trod at h
    rw [hu] at h
    split at h <;> try (first | (rename_i he _; simp at he; done) | (rename_i he; simp at he; done))
    all_goals (try (simp at h; done))
    · rename_i s he
      split at h
      · simp only [Option.some.injEq,Prod.mk.injEq] at h
        obtain ⟨rfl,_⟩:=h
        refine ⟨s,⟨_,[],rfl,rfl,rfl,rfl⟩,?_⟩
        simp [DataW.weights] at hw
        exact hw
      · cases h
theorem z0 {α β:Type} {f:α → Option β}:∀ {l:List α} {ys:List β},l.mapM f=some ys → ys.length=l.length ∧ ∀ (i:Nat) (x:α),l[i]? = some x → ∃ y,ys[i]? = some y ∧ f x=some y
  | [],ys,h=>by simp at h; subst h; simp
  | x :: l,ys,h=>by
    rw [List.mapM_cons] at h
    cases hx:f x with
    | none=>rw [hx] at h; simp at h
    | some y =>
      rw [hx] at h
      cases hl:l.mapM f with
      | none=>rw [hl] at h; simp at h
      | some zs =>
        rw [hl] at h
        simp at h
        subst h
        obtain ⟨h1,h2⟩:=z0 hl
        refine ⟨by simp [h1],fun i z hz=>?_⟩
        cases i with
        | zero=>simp at hz; subst hz; exact ⟨y,rfl,hx⟩
        | succ i=>simpa using h2 i z (by simpa using hz)
theorem A2Z {w:World} {a:Addr} {n:Nat} {cs:List Value} (h:w.cells? 0 a n=some cs):cs.length=n ∧ ∀ (j:Nat) (v:Value),cs[j]? = some v → w.cell? (a.add j)=some v:=by
  unfold World.cells? at h
  rw [if_pos (Nat.zero_le _)] at h
  obtain ⟨h1,h2⟩:=z0 h
  refine ⟨by simpa using h1,fun j v hj=>?_⟩
  have hlt:j < n:=by have:=(List.getElem?_eq_some_iff.1 hj).1; simp at h1; omega
  obtain ⟨y,h3,h4⟩:=h2 j j (by simp [hlt])
  rw [hj] at h3
  rw [h4,← h3]
theorem A1Y {H:Type} {P:Program} {e:TypeId}:∀ {ds:List (DataW H)} {d:DataW H},d ∈ ds → ∀ n ∈ d.weights P e,n ∈ DataW.weightsAll P e ds
  | d0 :: ds,d,h,n,hn=>by
    simp only [DataW.weightsAll,List.mem_append]
    rcases List.mem_cons.1 h with rfl | h
    · exact .inl hn
    · exact .inr (A1Y h n hn)
theorem A2b {α:Type} {Q:Nat → α → Prop}:∀ (n:Nat),(∀ i,i < n → ∃ x,Q i x) → ∃ l:List α,l.length=n ∧ ∀ (i:Nat) (x:α),l[i]? = some x → Q i x
  | 0,_=>⟨[],rfl,by simp⟩
  | n + 1,h=>by
    obtain ⟨l,h1,h2⟩:=A2b n (fun i hi=>h i (by omega))
    obtain ⟨x,hx⟩:=h n (by omega)
    refine ⟨l ++ [x],by simp [h1],fun i y hy=>?_⟩
    rcases Nat.lt_or_ge i l.length with hi | hi
    · rw [List.getElem?_append_left hi] at hy
      exact h2 i y hy
    · rw [List.getElem?_append_right hi] at hy
      have:i - l.length=0:=by
        have:=(List.getElem?_eq_some_iff.1 hy).1
        simp at this
        omega
      rw [this] at hy
      simp at hy
      subst hy
      have:i=n:=by omega
      subst this
      exact hx
theorem reads_slice {P:Program} {t e:TypeId} {α:Type} {E:Enc α} {ok:α → Prop} (hu:P.underlying t=some (.slice e)) (hc:P.cellsOf e=E.sz) (hb:0 < P.bytesOf e) (hs:0 < E.sz) (hr:q8 P e E.pv ok):q8 P t (eL E).pv (okL ok):=by
  intro H enc w fuel cs d p h hw
  cases fuel with
  | zero=>simp [DataW.trod] at h
  | succ n =>
    unfold DataW.trod at h
    rw [hu] at h
    split at h <;> try (first | (rename_i he _; simp at he; done) | (rename_i he; simp at he; done))
    all_goals (try (simp at h; done))
    · exact ⟨[],⟨_,[],rfl,m6 E _,rfl,rfl⟩,Nat.zero_le _,by simp⟩
    · rename_i e' a len cap he
      simp only [Option.some.injEq,TypeDesc.slice.injEq] at he
      subst he
      simp only at h
      split at h
      · rename_i hcond
        obtain ⟨_,hle,hmax⟩:=hcond
        generalize hel:(List.range len).mapM (fun i=>(w.cells? 0 (a.add (i * P.cellsOf e)) (P.cellsOf e)).bind (DataW.trod enc P w 0 (fun _=>true) true n e))=r1 at h
        cases r1 with
        | none=>simp at h
        | some elems =>
          simp only [if_true,Option.bind_some] at h
          cases hrest:(List.range (cap - len)).mapM (fun j=>(w.cells? 0 (a.add ((len + j) * P.cellsOf e)) (P.cellsOf e)).bind (DataW.trod enc P w 0 (fun _=>true) true n e)) with
          | none=>rw [hrest] at h; simp at h
          | some rest =>
            rw [hrest] at h
            simp only [Option.map_some,Option.some.injEq,Prod.mk.injEq] at h
            obtain ⟨rfl,_⟩:=h
            obtain ⟨hl1,hl2⟩:=z0 hel
            have hlen:elems.length=len:=by simpa using hl1
            simp only [DataW.weights,hu,List.all_cons,Bool.and_eq_true,List.length_map] at hw
            have hall:∀ i,i < len → ∃ x:α,(∃ ds,w.cells? 0 (a.add (i * P.cellsOf e)) (P.cellsOf e)=some ds ∧ H9 noT (gh (X2 w)) (E.pv x) ds) ∧ ok x:=by
              intro i hi
              obtain ⟨y,hy1,hy2⟩:=hl2 i i (by simp [hi])
              cases hcs:w.cells? 0 (a.add (i * P.cellsOf e)) (P.cellsOf e) with
              | none=>rw [hcs] at hy2; simp at hy2
              | some ds =>
                rw [hcs] at hy2
                simp only [Option.bind_some] at hy2
                obtain ⟨y1,y2⟩:=y
                have hmem:y1 ∈ elems.map (·.1):=List.mem_map.2 ⟨(y1,y2),List.mem_of_getElem? hy1,rfl⟩
                obtain ⟨x,hx1,hx2⟩:=hr H enc w n ds y1 y2 hy2 (by
                  rw [List.all_eq_true] at hw ⊢
                  intro q hq
                  exact hw.2 q (List.mem_append_left _ (A1Y hmem q hq)))
                exact ⟨x,⟨ds,rfl,hx1⟩,hx2⟩
            obtain ⟨l,hll,hlx⟩:=A2b len hall
            have hbound:l.length ≤ A6v:=by
              have h1:=hw.1
              simp only [decide_eq_true_eq] at h1
              have h2:reachBytes=A6v:=rfl
              rw [h2] at h1
              have:len ≤ (elems.length + rest.length) * P.bytesOf e:=by
                rw [hlen]
                exact Nat.le_trans (by omega) (Nat.le_mul_of_pos_right _ hb)
              omega
            refine ⟨l,⟨_,[],rfl,?_,rfl,rfl⟩,hbound,fun x hx=>?_⟩
            · refine ⟨some a,cap,by rw [hll],by omega,by simpa [maxLen] using hmax,by simp,fun hne=>?_⟩
              have h0:0 < len:=by rw [← hll]; exact List.length_pos_iff.2 hne
              have hspot:a.spot=none:=by
                obtain ⟨y,_,hy2⟩:=hl2 0 0 (by simp [h0])
                cases hcs:w.cells? 0 (a.add (0 * P.cellsOf e)) (P.cellsOf e) with
                | none=>rw [hcs] at hy2; simp at hy2
                | some ds =>
                  obtain ⟨h3,h4⟩:=A2Z hcs
                  rw [hc] at h3
                  have h5:=h4 0 _ (List.getElem?_eq_getElem (by omega))
                  simp only [Nat.zero_mul,Addr.add,if_true] at h5
                  unfold World.cell? at h5
                  split at h5
                  · split at h5
                    · cases h5
                    · rename_i hsp; simpa using hsp
                  · cases h5
              obtain ⟨b,o,sp⟩:=a
              simp only at hspot
              subst hspot
              refine ⟨b,o,rfl,fun i x hx=>?_⟩
              obtain ⟨⟨ds,hd1,hd2⟩,_⟩:=hlx i x hx
              obtain ⟨_,h4⟩:=A2Z hd1
              refine ⟨ds,hd2,fun j u hj=>?_⟩
              have:=h4 j u hj
              rw [Y6,Y6,hc] at this
              exact this
            · obtain ⟨i,hi⟩:=List.getElem?_of_mem hx
              exact (hlx i x hi).2
      · cases h
theorem A2h {H:Type} {enc:TypeId × Value → H} {P:Program} {w:World} {fuel:Nat} {t:TypeId} {fs:Array Field} {cs:List Value} {d:DataW H} {p:List MemPlace} (hu:P.underlying t=some (.struct fs)) (h:DataW.trod enc P w 0 (fun _=>true) true fuel t cs=some (d,p)) (hw:(d.weights P t).all (· ≤ reachBytes)=true) :
    cs.length=P.cellsOf t ∧ ∃ n,∀ (i:Nat) (f:Field),fs[i]? = some f → ∃ d' p',DataW.trod enc P w 0 (fun _=>true) true n f.type ((cs.drop f.offset).take (P.cellsOf f.type))=some (d',p') ∧ (d'.weights P f.type).all (· ≤ reachBytes)=true:=by
  cases fuel with
  | zero=>simp [DataW.trod] at h
  | succ n =>
    simp only [DataW.trod,hu] at h
    split at h
    · rename_i hlen
      refine ⟨hlen,n,fun i f hf=>?_⟩
      cases hm:fs.toList.mapM (fun f=>DataW.trod enc P w 0 (fun _=>true) true n f.type ((cs.drop f.offset).take (P.cellsOf f.type))) with
      | none=>rw [hm] at h; simp at h
      | some ys =>
        rw [hm] at h
        simp only [Option.map_some,Option.some.injEq,Prod.mk.injEq] at h
        obtain ⟨rfl,_⟩:=h
        obtain ⟨hl1,hl2⟩:=z0 hm
        obtain ⟨⟨y1,y2⟩,hy1,hy2⟩:=hl2 i f (by simpa using hf)
        refine ⟨y1,y2,hy2,?_⟩
        rw [List.all_eq_true] at hw ⊢
        intro q hq
        refine hw q ?_
        simp only [DataW.weights,hu]
        exact DataW.weights_mem_each (j:=i) (t:=f.type) (d:=y1) (by simp [hf]) (by simp [hy1]) q hq
    · cases h
theorem O3 {T:Nat → Option (Nat × Nat)} {g:Gh} {A B:List PV} {cs:List Value} {o n m:Nat} (h:H9 T g A ((cs.drop o).take n)) (h':H9 T g B (cs.drop m)) (e:o + n=m):H9 T g (A ++ B) (cs.drop o):=by
  subst e
  have:=R6 h h'
  rw [← List.drop_drop,List.take_append_drop] at this
  exact this
theorem A5m {T:Nat → Option (Nat × Nat)} {g:Gh} {cs:List Value} {n:Nat} (h:cs.length=n):H9 T g [] (cs.drop n):=by
  rw [List.drop_of_length_le (by omega)]
  rfl
theorem A5U {P:Program} {w:World} {r:Reach} {base:Nat} {t:TypeId} {fs:Array Field} {v:Value} (hu:P.underlying t=some (.struct fs)) (h:Value.okWide P w r base t v):∃ cs,v=.agg cs:=by
  unfold Value.okWide at h
  rw [hu] at h
  obtain ⟨cs,h,_⟩:=h
  exact ⟨cs,h⟩
theorem repL_one {T:Nat → Option (Nat × Nat)} {g:Gh} {p:PV} {v:Value} (h:H9 T g [p] [v]):X6 T g p v:=by
  obtain ⟨u,vs,e,h1,_,_⟩:=h
  simp at e
  obtain ⟨rfl,_⟩:=e
  exact S7 h1
end Go.Ab
