import Derived.Test.YtkmmnfcjbalboaaDoorC6
set_option linter.unusedVariables false
set_option linter.unusedSimpArgs false
namespace Go.Rx
open Go.Ab Go.L7
set_option maxRecDepth 100000
set_option maxHeartbeats 20000000
set_option linter.unusedVariables false
/-- interregnum/interregnumlaw07.AttrFlags -/
noncomputable def C8 : Cfg S := { P := P7, inl := [], K := [(15, ctr P7 [30, 30] [4] (fun x0 x1 => (none, S15 x0 x1))), (10, ctr P7 [27] [4] (fun x0 => (none, S10 x0))), (17, ctr P7 [30] [27, 34] (fun x0 => (some (P17 x0), S17 x0))), (11, ctr P7 [] [4] (none, S11)), (14, ctr P7 [27] [4] (fun x0 => (none, S14 x0))), (16, ctr P7 [27] [30] (fun x0 => (some (P16 x0), S16 x0)))], ann := [(8, [(4, .mt [5]), (6, .frz [.sl 8])])] }
abbrev W8 : CT S [4] [27, 5, 5] := (fun x0 x1 x2 => (some (P8 x0 x1 x2), S8 x0 x1 x2))
abbrev Ok8 : Prop := ConOk P7 8 (ctr P7 [27, 5, 5] [4] W8) ∧ ConMon (ctr P7 [27, 5, 5] [4] W8)
theorem q8 (x0 : api_Attrs) (x1 : Int) (x2 : Int) (v : HR S [4]) : (Xf C8 6 (emp 0) 8 (argsA C8 [⟨27, x0⟩, ⟨5, x1⟩, ⟨5, x2⟩]) (emp 0) (fun r _ => isR C8.P [4]
 v r) (fun _ _ => False)) = (bif !S10 x0 then true = v else bif !S14 x0 then true = v else (x0.fPath.length ≤ nat_lit 1099511627776 ∧ x0.fRaws.length ≤ nat_lit
 1073741824) ∧ (([] : List Int) = [] ∧ nat_lit 0 = nat_lit 0 ∧ (S16 x0).length * nat_lit 1 ≤ nat_lit 140737488355328) ∧ ∀ (y : List (Int)), y = S16 x0 → ((0 :
 Int) ≤ (0 : Int) ∧ (0 : Int) < (↑y.length : Int)) ∧ (y.length = y.length ∧ y.length = y.length ∧ nat_lit 0 < y.length) ∧ (y.length = (y.set (nat_lit 0)
 (iandNot IntKind.u8 x1 (16 : Int))).length ∧ (y.set (nat_lit 0) (iandNot IntKind.u8 x1 (16 : Int))).length = (y.set (nat_lit 0) (iandNot IntKind.u8 x1 (16 :
 Int))).length) ∧ ((y.set (nat_lit 0) (iandNot IntKind.u8 x1 (16 : Int))).length ≤ nat_lit 549755813888 ∧ ∀ (c : Int), List.Mem c (y.set (nat_lit 0) (iandNot
 IntKind.u8 x1 (16 : Int))) → (0 : Int) ≤ c ∧ c ≤ (255 : Int)) ∧ ([(64 : Int), (1 : Int), IntKind.u8.wrap ((1 : Int) + x2.tmod (9 : Int)), (0 : Int)].length =
 [(64 : Int), (1 : Int), IntKind.u8.wrap ((1 : Int) + x2.tmod (9 : Int)), (0 : Int)].length ∧ ([(64 : Int), (1 : Int), IntKind.u8.wrap ((1 : Int) + x2.tmod (9
 : Int)), (0 : Int)].length + (List.replicate (bif decide ((0 : Int) ≤ IntKind.i64.wrap (x2.tmod (9 : Int))) then (IntKind.i64.wrap (x2.tmod (9 : Int))).toNat
 else nat_lit 281474976710656) (0 : Int)).length) * nat_lit 1 ≤ nat_lit 140737488355328) ∧ ∀ (y_1 : List (Int)), y_1 = [(64 : Int), (1 : Int), IntKind.u8.wrap
 ((1 : Int) + x2.tmod (9 : Int)), (0 : Int)] ++ List.replicate (bif decide ((0 : Int) ≤ IntKind.i64.wrap (x2.tmod (9 : Int))) then (IntKind.i64.wrap (x2.tmod
 (9 : Int))).toNat else nat_lit 281474976710656) (0 : Int) → ((0 : Int) ≤ (4 : Int) ∧ (4 : Int) ≤ (↑(S16 x0).length : Int) ∧ (↑(S16 x0).length : Int) ≤ (↑(S16
 x0).length : Int)) ∧ (nat_lit 0 = nat_lit 0 ∧ (nat_lit 0 + y_1.length) * nat_lit 1 ≤ nat_lit 140737488355328) ∧ ∀ (y_2 : List (Int)), y_2 = [] ++ y_1 →
 (y_2.length = y_2.length ∧ (y_2.length + (sub (S16 x0) (4 : Int) (↑(S16 x0).length : Int)).length) * nat_lit 1 ≤ nat_lit 140737488355328) ∧ ∀ (y_3 : List
 (Int)), y_3 = y_2 ++ sub (S16 x0) (4 : Int) (↑(S16 x0).length : Int) → (y_3.length ≤ nat_lit 549755813888 ∧ ∀ (c : Int), List.Mem c y_3 → (0 : Int) ≤ c ∧ c ≤
 (255 : Int)) ∧ (decide (decide ((S17 (y.set (nat_lit 0) (iandNot IntKind.u8 x1 (16 : Int)))).snd.fCode = (0 : Int)) = (decide (IntKind.u8.wrap (x1.tdiv (64 :
 Int)) = (1 : Int)) && decide ((IntKind.u8.wrap (x1.tdiv (32 : Int))).tmod (2 : Int) = (0 : Int)))) = true → (decide (IntKind.u8.wrap (x1.tdiv (64 : Int)) = (1
 : Int)) && decide ((IntKind.u8.wrap (x1.tdiv (32 : Int))).tmod (2 : Int) = (0 : Int))) = false → (decide ((S17 (y.set (nat_lit 0) (iandNot IntKind.u8 x1 (16 :
 Int)))).snd.fCode = (3 : Int)) && decide ((S17 (y.set (nat_lit 0) (iandNot IntKind.u8 x1 (16 : Int)))).snd.fSub = (4 : Int))) = true → (0 : Int) ≤ (0 : Int) ∧
 (0 : Int) ≤ (4 : Int) ∧ (4 : Int) ≤ (↑(y.set (nat_lit 0) (iandNot IntKind.u8 x1 (16 : Int))).length : Int)) ∧ bif decide (decide ((S17 (y.set (nat_lit 0)
 (iandNot IntKind.u8 x1 (16 : Int)))).snd.fCode = (0 : Int)) = (decide (IntKind.u8.wrap (x1.tdiv (64 : Int)) = (1 : Int)) && decide ((IntKind.u8.wrap (x1.tdiv
 (32 : Int))).tmod (2 : Int) = (0 : Int)))) then bif decide (IntKind.u8.wrap (x1.tdiv (64 : Int)) = (1 : Int)) && decide ((IntKind.u8.wrap (x1.tdiv (32 :
 Int))).tmod (2 : Int) = (0 : Int)) then bif decide (decide ((S17 y_3).snd.fCode = (3 : Int)) = !decide (x2.tmod (9 : Int) = (0 : Int))) then bif !!decide
 (x2.tmod (9 : Int) = (0 : Int)) then true = v else bif decide ((S17 y_3).snd.fSub = (5 : Int)) then S15 (S17 y_3).snd.fData y_1 = v else false = v else false
 = v else bif decide ((S17 (y.set (nat_lit 0) (iandNot IntKind.u8 x1 (16 : Int)))).snd.fCode = (3 : Int)) && decide ((S17 (y.set (nat_lit 0) (iandNot
 IntKind.u8 x1 (16 : Int)))).snd.fSub = (4 : Int)) then bif S15 (S17 (y.set (nat_lit 0) (iandNot IntKind.u8 x1 (16 : Int)))).snd.fData (sub (y.set (nat_lit 0)
 (iandNot IntKind.u8 x1 (16 : Int))) (0 : Int) (4 : Int)) && decide (decide ((S17 y_3).snd.fCode = (3 : Int)) = !decide (x2.tmod (9 : Int) = (0 : Int))) then
 bif !!decide (x2.tmod (9 : Int) = (0 : Int)) then true = v else bif decide ((S17 y_3).snd.fSub = (5 : Int)) then S15 (S17 y_3).snd.fData y_1 = v else false =
 v else false = v else false = v else false = v) := by kernel_rfl
end Go.Rx
/-! AttrFlags. -/
namespace Go.Rx
open Go.Ab Go.L7
set_option linter.unusedVariables false
set_option linter.unusedSimpArgs false
set_option maxRecDepth 100000
theorem flagFl : ∀ f : Fin 256, (decide (0 ≤ iandNot .u8 ((f.val : Nat) : Int) 16) && decide (iandNot .u8 ((f.val : Nat) : Int) 16 ≤ 255) && decide (iand .u8 (iandNot .u8 ((f.val : Nat) : Int) 16) 16 = 0)
    && ((decide (IntKind.u8.wrap (((f.val : Nat) : Int).tdiv 64) = 1) && decide ((IntKind.u8.wrap (((f.val : Nat) : Int).tdiv 32)).tmod 2 = 0)) == decide (iand .i64 (iandNot .u8 ((f.val : Nat) : Int) 16) 224 = 64))) = true := by decide +kernel
theorem its_cons {a : api_Attrs} : ∃ r, its a = ⟨64, 1, [a.fOrigin]⟩ :: r := ⟨_, by unfold its; rfl⟩
/-- Another first attribute. -/
theorem read_first {x : api_Attrs} (g : Gd7 x) {r : List It} (hr : its x = ⟨64, 1, [x.fOrigin]⟩ :: r) {i : It} {o : Int} (ht : i.t = 1) (hd : i.d = [o]) (hA : Acc i) : S17 ((i :: r).flatMap itB) = ({ x with fOrigin := o }, ⟨0, 0, []⟩) := by
  have hok := its_acc g
  have hn := its_nodup g
  have hE := its_upd g
  have h2 := its_has (a := x)
  rw [hr] at hok hn hE h2
  have hg : ∀ j ∈ i :: r, Acc j := fun j hj => by
    rcases List.mem_cons.1 hj with rfl | hj
    · exact hA
    · exact hok j (by simp [hj])
  have hn' : ((i :: r).map It.t).Nodup := by
    rw [List.map_cons] at hn ⊢
    rw [ht]; exact hn
  have hany : ∀ k : Int, (i :: r).any (fun j => decide (j.t = k)) = ((⟨64, 1, [x.fOrigin]⟩ : It) :: r).any (fun j => decide (j.t = k)) := fun k => by rw [List.any_cons, List.any_cons, ht]
  -- the first one last
  have hp : (i :: r).Perm (r ++ [i]) := (List.perm_append_singleton i r).symm
  have hp0 : ((⟨64, 1, [x.fOrigin]⟩ : It) :: r).Perm (r ++ [⟨64, 1, [x.fOrigin]⟩]) := (List.perm_append_singleton _ r).symm
  have e0 := Eqv.perm hp0 hn (Eqv.refl a0)
  rw [hE, updL_append] at e0
  have e1 := Eqv.perm hp hn' (Eqv.refl a0)
  rw [updL_append] at e1
  generalize updL r a0 = u at e0 e1
  have k0 : updL [⟨64, 1, [x.fOrigin]⟩] u = { u with fOrigin := x.fOrigin } := by
    show upd _ u = _
    simp [upd, rawOf, ix]
  have k1 : updL [i] u = { u with fOrigin := o } := by
    show upd i u = _
    simp [upd, rawOf, ix, ht, hd]
  rw [k0] at e0
  rw [k1] at e1
  refine read_acc hg hn' (by rw [hany]; exact h2.1) (by rw [hany]; exact h2.2.1) (by rw [hany]; exact h2.2.2) (e1.trans ⟨rfl, e0.p.symm, e0.n.symm, e0.m.symm, e0.q.symm, e0.c.symm, e0.r.symm⟩) (rawsUp_pair g.r)
/-- A first attribute that is wrong. -/
theorem read_wrong {i : It} {r : List It} {s : Int} (hok : ∀ j ∈ i :: r, j.ok) (h : attrA i.f i.t (itB i) i.d a0 = .inl (s, itB i)) : S17 ((i :: r).flatMap itB) = throwN s (itB i) := by
  have hz : ix (List.replicate 256 false) i.t = false := by unfold ix; rw [List.getD_eq_getElem?_getD, List.getElem?_replicate]; split <;> rfl
  rw [S17_items hok, foldI, if_neg (by rw [hz]; simp), h]
theorem run8 : RunC C8 6 8 [4] [27, 5, 5] W8 [] := by
  intro (x : api_Attrs) hx (f : Int) hf (m : Int) hm hp
  obtain ⟨hok, hf0, hf1, hm0, hm1⟩ : P8 x f m := hp _ rfl
  refine of_eq (q8 x f m true) (bif_of (fun _ => rfl) fun h => ?_)
  have hs : S10 x = true := by simpa using h
  have hl := small_len hok hs
  have hb := S12_len hok hs
  have hP : P12 x := ⟨by omega, by omega⟩
  refine bif_of (fun _ => rfl) fun h => ⟨hP, ?_⟩
  have h : S13 x = true := by have h' : S14 x = true := (by simpa using h); exact h'
  have g := gd_of hok hs h
  have e16 : S16 x = (its x).flatMap itB := its_bytes g h
  obtain ⟨r, hr⟩ := its_cons (a := x)
  have hokr := its_ok g
  have hF := flagFl ⟨f.toNat, by omega⟩
  simp only [show ((f.toNat : Nat) : Int) = f by omega] at hF
  simp only [Bool.and_eq_true, decide_eq_true_eq, beq_iff_eq] at hF
  obtain ⟨⟨⟨g0, g1⟩, gz⟩, gfit⟩ := hF
  generalize hfit : (decide (IntKind.u8.wrap (f.tdiv 64) = 1) && decide ((IntKind.u8.wrap (f.tdiv 32)).tmod 2 = 0)) = fit at gfit
  generalize hfl : iandNot .u8 f 16 = fl at *
  have ho := g.o
  -- the bytes
  have hB : S16 x = 64 :: 1 :: 1 :: x.fOrigin :: r.flatMap itB := by
    rw [e16, hr, List.flatMap_cons]
    unfold itB
    rw [if_pos (show iand .u8 64 16 = 0 by decide)]
    rfl
  have hrl : (r.flatMap itB).length ≤ 400000000 := by
    have h1 : (S16 x).length ≤ 400000000 := hb.1
    rw [hB] at h1
    simp only [List.length_cons] at h1
    omega
  have hrok : ∀ j ∈ r, j.ok := fun j hj => hokr j (by rw [hr]; simp [hj])
  have hxok : (⟨fl, 1, [x.fOrigin]⟩ : It).ok := ⟨⟨g0, g1⟩, by show (0 : Int) ≤ 1 ∧ (1 : Int) ≤ 255; omega, .cons (by omega) .nil, by show 1 ≤ 65535; omega, fun _ => by show 1 ≤ 255; omega⟩
  have hxb : itB ⟨fl, 1, [x.fOrigin]⟩ = [fl, 1, 1, x.fOrigin] := by unfold itB; rw [if_pos gz]; rfl
  refine ⟨⟨rfl, rfl, by show (S16 x).length * 1 ≤ 140737488355328; have : (S16 x).length ≤ 400000000 := hb.1; omega⟩, fun (y : List Int) hy => ?_⟩
  have hyl : y.length ≤ 400000000 := by rw [hy]; exact hb.1
  have hyB : y = 64 :: 1 :: 1 :: x.fOrigin :: r.flatMap itB := hy.trans hB
  have hy0 : 0 < y.length := by rw [hyB]; simp
  have hset : y.set 0 fl = ((⟨fl, 1, [x.fOrigin]⟩ : It) :: r).flatMap itB := by
    rw [hyB, List.flatMap_cons, hxb]; rfl
  have hxsok : ∀ j ∈ (⟨fl, 1, [x.fOrigin]⟩ : It) :: r, j.ok := fun j hj => by
    rcases List.mem_cons.1 hj with rfl | hj
    · exact hxok
    · exact hrok j hj
  have hxs : S17 (y.set 0 fl) = if fit then (x, ⟨0, 0, []⟩) else throwN 4 [fl, 1, 1, x.fOrigin] := by
    rw [hset]
    cases fit with
    | true =>
      have e : iand .i64 fl 224 = 64 := of_decide_eq_true gfit.symm
      have hA : Acc ⟨fl, 1, [x.fOrigin]⟩ := by
        refine ⟨hxok, fun a => ?_⟩
        show attrA fl 1 (itB ⟨fl, 1, [x.fOrigin]⟩) [x.fOrigin] a = _
        generalize itB _ = all
        have sz : (decide (0 ≤ (ix kinds 1).fsize) && !decide ((([x.fOrigin] : List Int).length : Int) = (ix kinds 1).fsize) || (decide ((1 : Int) = 8) && (decide ((([x.fOrigin] : List Int).length : Int) = 0) || !decide ((([x.fOrigin] : List Int).length : Int).tmod 4 = 0)))) = false := rfl
        unfold attrA knownA
        rw [if_pos (by decide), if_neg (fun h => h e), sz, if_neg (by simp), if_pos (by decide), if_neg (show ¬ 2 < ix [x.fOrigin] 0 from by show ¬ 2 < x.fOrigin; omega)]
        simp [upd, rawOf]
      rw [read_first g hr rfl rfl hA, if_pos rfl]
    | false =>
      have e : ¬ iand .i64 fl 224 = 64 := of_decide_eq_false gfit.symm
      rw [read_wrong hxsok (s := 4) ?_, hxb]
      · rfl
      · show attrA fl 1 (itB ⟨fl, 1, [x.fOrigin]⟩) [x.fOrigin] a0 = _
        unfold attrA knownA
        rw [if_pos (by decide), if_pos (show iand .i64 fl (if (ix kinds 1).fflags = 192 then 192 else 224) ≠ (ix kinds 1).fflags from e)]
  have hP1 : P17 (y.set 0 fl) := ⟨by rw [List.length_set]; omega, by rw [hset]; exact items_by hxsok⟩
  -- the other one
  have hmm : m.tmod 9 = m % 9 := Int.tmod_eq_emod_of_nonneg hm0
  have hwm : IntKind.i64.wrap (m.tmod 9) = m % 9 := by rw [hmm]; exact w64_id (by omega)
  obtain ⟨k, hk⟩ : ∃ k : Nat, m % 9 = k := ⟨(m % 9).toNat, by omega⟩
  have hk9 : k < 9 := by omega
  have hcond : (bif decide (0 ≤ IntKind.i64.wrap (m.tmod 9)) then (IntKind.i64.wrap (m.tmod 9)).toNat else 281474976710656) = k := by
    rw [hwm, hk, decide_eq_true (by omega)]; simp
  have hw8 : IntKind.u8.wrap (1 + m.tmod 9) = 1 + k := by rw [hmm, hk]; show (1 + (k : Int)) % 256 = _; omega
  have hzok : (⟨64, 1, 0 :: List.replicate k 0⟩ : It).ok := by
    refine ⟨by show (0 : Int) ≤ 64 ∧ (64 : Int) ≤ 255; omega, by show (0 : Int) ≤ 1 ∧ (1 : Int) ≤ 255; omega, .cons (by omega) (fun c hc => ?_), by show (List.length (0 :: List.replicate k 0)) ≤ 65535; simp; omega, fun _ => by show (List.length (0 :: List.replicate k 0)) ≤ 255; simp; omega⟩
    have := List.eq_of_mem_replicate hc
    omega
  have hzb : itB ⟨64, 1, 0 :: List.replicate k 0⟩ = [64, 1, 1 + (k : Int), 0] ++ List.replicate k 0 := by
    unfold itB
    rw [if_pos (show iand .u8 64 16 = 0 by decide)]
    show [64, 1, ((List.length (0 :: List.replicate k 0) : Nat) : Int)] ++ 0 :: List.replicate k 0 = _
    rw [List.length_cons, List.length_replicate, show ((k + 1 : Nat) : Int) = 1 + k by omega]
    rfl
  have hzsok : ∀ j ∈ (⟨64, 1, 0 :: List.replicate k 0⟩ : It) :: r, j.ok := fun j hj => by
    rcases List.mem_cons.1 hj with rfl | hj
    · exact hzok
    · exact hrok j hj
  refine ⟨⟨by omega, by show (0 : Int) < (y.length : Int); omega⟩, ⟨rfl, rfl, hy0⟩, ?_⟩
  refine ⟨⟨List.length_set.symm, rfl⟩, hP1, ?_⟩
  rw [hcond, hw8]
  refine ⟨⟨rfl, by show (4 + (List.replicate k (0 : Int)).length) * 1 ≤ 140737488355328; rw [List.length_replicate]; omega⟩, fun (y1 : List Int) hy1 => ?_⟩
  have hy1b : y1 = itB ⟨64, 1, 0 :: List.replicate k 0⟩ := hy1.trans hzb.symm
  have hy1l : y1.length = 4 + k := by rw [hy1, List.length_append, List.length_replicate]; rfl
  have hS4 : sub (S16 x) 4 ((S16 x).length : Int) = r.flatMap itB := by rw [sub_drop (S16 x) (n := 4) rfl, hB]; rfl
  refine ⟨⟨by omega, by rw [hB]; simp only [List.length_cons]; omega, Int.le_refl _⟩, ⟨rfl, by show (0 + y1.length) * 1 ≤ 140737488355328; omega⟩, fun (y2 : List Int) hy2 => ?_⟩
  have hy2 : y2 = y1 := hy2
  rw [hS4]
  refine ⟨⟨rfl, by show (y2.length + (r.flatMap itB).length) * 1 ≤ 140737488355328; rw [hy2]; omega⟩, fun (y3 : List Int) hy3 => ?_⟩
  have hy3 : y3 = ((⟨64, 1, 0 :: List.replicate k 0⟩ : It) :: r).flatMap itB := by
    rw [hy3, hy2, hy1b]; rfl
  have hP3 : P17 y3 := ⟨by rw [hy3, List.flatMap_cons, List.length_append, ← hy1b]; omega, by rw [hy3]; exact items_by hzsok⟩
  have hzs : (k = 0 → (S17 y3).2.fCode = 0) ∧ (k ≠ 0 → S17 y3 = throwN 5 y1) := by
    refine ⟨fun e => ?_, fun e => ?_⟩
    · subst e
      have := read_first g hr (i := ⟨64, 1, [0]⟩) rfl rfl (o := 0) (acc1 (o := 0) (by omega))
      rw [hy3]
      show (S17 (((⟨64, 1, [0]⟩ : It) :: r).flatMap itB)).2.fCode = 0
      rw [this]
    · rw [hy3, hy1b, read_wrong hzsok (s := 5)]
      show attrA 64 1 _ (0 :: List.replicate k 0) a0 = _
      unfold attrA knownA
      have hlen : ¬ ((0 :: List.replicate k (0 : Int) : List Int).length : Int) = (ix kinds 1).fsize := by
        rw [List.length_cons, List.length_replicate]
        show ¬ ((k + 1 : Nat) : Int) = 1
        omega
      rw [if_pos (by decide), if_neg (by decide), decide_eq_false hlen]
      rfl
  have hlong : (!decide (m.tmod 9 = 0)) = !decide (k = 0) := by rw [hmm, hk]; congr 1; simp
  rw [hlong]
  have hsub : sub (y.set 0 fl) 0 4 = [fl, 1, 1, x.fOrigin] := by rw [hset, List.flatMap_cons, hxb]; rfl
  have hsl : 4 ≤ (y.set 0 fl).length := by rw [List.length_set, hyB]; simp
  refine ⟨hP3, fun _ _ _ => ⟨by omega, by omega, by show (4 : Int) ≤ ((y.set 0 fl).length : Int); omega⟩, ?_⟩
  rw [hsub]
  have last : (bif !decide (k = 0) && true then true else true) = true := by cases decide (k = 0) <;> rfl
  have fin : ∀ p : Prop, (p → decide ((S17 y3).2.fCode = 3) = !decide (k = 0)) := fun p _ => by
    by_cases hk0 : k = 0
    · rw [hzs.1 hk0, decide_eq_true hk0]; rfl
    · rw [hzs.2 hk0, decide_eq_false hk0]; rfl
  have h3 := fin True trivial
  have fin2 : bif !!decide (k = 0) then true = true else bif decide ((S17 y3).2.fSub = 5) then S15 (S17 y3).2.fData y1 = true else false = true := by
    by_cases hk0 : k = 0
    · rw [decide_eq_true hk0]; rfl
    · rw [hzs.2 hk0, decide_eq_false hk0]; exact decide_eq_true rfl
  rw [hxs]
  cases fit with
  | true =>
    show bif decide (decide ((0 : Int) = 0) = true) then (bif decide (decide ((S17 y3).2.fCode = 3) = !decide (k = 0)) then _ else _) else _
    rw [decide_eq_true h3]
    exact fin2
  | false =>
    show bif S15 [fl, 1, 1, x.fOrigin] [fl, 1, 1, x.fOrigin] && decide (decide ((S17 y3).2.fCode = 3) = !decide (k = 0)) then _ else _
    rw [decide_eq_true h3, show S15 [fl, 1, 1, x.fOrigin] [fl, 1, 1, x.fOrigin] = true from decide_eq_true rfl]
    exact fin2
theorem ok8 (h52 : ConOk P7 52 (.srt (A := S.A) 45 53 Q52 R52)) : Ok8 := con_ok (C := C8) (kok_cons ok15 (kok_cons ok10 (kok_cons (ok17 h52) (kok_cons (ok11 h52) (kok_cons ok14 (kk1 ok16)))))) mx7 (by kernel_rfl) run8
end Go.Rx
/-! What the law AttrFlags hands back. -/
namespace Go.Rx
open Go.Ab Go.L7
set_option maxRecDepth 100000
theorem con8 : ∀ (args : List (AV S.A)) (k : AV S.A → Prop), appC (S := S) P7 [4] [27, 5, 5] W8 args k → PFk (S := S) P7 8 (args.map stripA) k := (ok8 h52).1
theorem pf8 (x0 : api_Attrs) (x1 : Int) (x2 : Int) (h : P8 x0 x1 x2) : PFk (S := S) P7 8 ([argA (S := S) P7 27 x0, argA (S := S) P7 5 x1, argA (S := S) P7 5 x2].map stripA) (fun q => q = .sc (.bool true)) := by
  refine con8 [argA (S := S) P7 27 x0, argA (S := S) P7 5 x1, argA (S := S) P7 5 x2] _ ?_
  show withP (some (P8 x0 x1 x2)) _
  exact ⟨h, rfl⟩
theorem strip8 (x0 : api_Attrs) (x1 : Int) (x2 : Int) : [argA (S := S) P7 27 x0, argA (S := S) P7 5 x1, argA (S := S) P7 5 x2].map stripA = [.agg (api_Attrs.cells x0), .sc (.int .u8 x1), .sc (.int .u8 x2)] := by kernel_rfl
end Go.Rx
namespace Go.Proofs.YtkmmnfcjbalboaaDoor
open Go.Ab Go.Rx Go.L7
theorem AttrFlags_ok (x0 : api_Attrs) (x1 : Int) (x2 : Int) (o0 : api_Attrs.ok x0) (o1 : okI .u8 x1) (o2 : okI .u8 x2) : PFg S P7 8 [.agg (api_Attrs.cells x0), .sc (.int .u8 x1), .sc (.int .u8 x2)] (.sc (.bool true)) := by
  have h := pf_of_pfk (pf8 x0 x1 x2 ⟨o0, (by have := okI8.1 o1; omega), (by have := okI8.1 o1; omega), (by have := okI8.1 o2; omega), (by have := okI8.1 o2; omega)⟩)
  rw [strip8] at h
  exact h
end Go.Proofs.YtkmmnfcjbalboaaDoor
