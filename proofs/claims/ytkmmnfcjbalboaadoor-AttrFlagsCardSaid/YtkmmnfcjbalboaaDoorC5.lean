import Derived.Test.YtkmmnfcjbalboaaDoorC4
import Derived.Test.YtkmmnfcjbalboaaDoorProg
import Derived.KernelRfl
import Derived.Shelf.SlSortCmp.Insertion
import Derived.Shelf.GgSortFunc.RowK
import Derived.ProofKit
import Derived.Shelf.SlLaysF0
import Derived.Ground.SlsfProg
import Derived.Shelf.SlSortCmp.WholeK
import Derived.Laws.BytesArg
import Derived.Laws.Strings
import Derived.Shelf.SlSortCmp.NoneTotal
import Derived.Test.YtkmmnfcjbalboaaDoorRows
import Derived.OpenShut
import Derived.LaidMore
import Derived.Lay
import GoSem.ClaimJoined
import Derived.JoinedTies
import Derived.ChangeArms
set_option linter.unusedVariables false
set_option linter.unusedSimpArgs false
namespace Go.Rx
open Go.Ab
set_option linter.unusedVariables false
structure api_Segment where
  fSet : Bool
  fAS : List Int
  deriving DecidableEq, Inhabited
structure api_Raw where
  fFlags : Int
  fType : Int
  fData : List Int
  deriving DecidableEq, Inhabited
structure api_Attrs where
  fOrigin : Int
  fPath : List api_Segment
  fNext : Int
  fMed : Int
  fPref : Int
  fComms : List Int
  fRaws : List api_Raw
  deriving DecidableEq, Inhabited
structure api_Note where
  fCode : Int
  fSub : Int
  fData : List Int
  deriving DecidableEq, Inhabited
structure attr_one where
  fflags : Int
  ftyp : Int
  fall : List Int
  fb : List Int
  deriving DecidableEq, Inhabited
structure attr_kind where
  fflags : Int
  fsize : Int
  deriving DecidableEq, Inhabited
structure attr_wrong where
  fnote : api_Note
  deriving DecidableEq, Inhabited
def api_Segment.cells (x : api_Segment) : List PV := [.sc (.bool x.fSet), .sem (SL (eI .i64) x.fAS)]
def api_Segment.enc : Enc api_Segment := ⟨2, api_Segment.cells, fun _ => rfl⟩
def api_Raw.cells (x : api_Raw) : List PV := [.sc (.int .i64 x.fFlags), .sc (.int .i64 x.fType), .sem (SL (eI .u8) x.fData)]
def api_Raw.enc : Enc api_Raw := ⟨3, api_Raw.cells, fun _ => rfl⟩
def api_Attrs.cells (x : api_Attrs) : List PV := [.sc (.int .i64 x.fOrigin), .sem (SL api_Segment.enc x.fPath), .sc (.int .u32 x.fNext), .sc (.int .i64 x.fMed), .sc (.int .i64 x.fPref), .sem (SL (eI .u32) x.fComms), .sem (SL api_Raw.enc x.fRaws)]
def api_Attrs.enc : Enc api_Attrs := ⟨7, api_Attrs.cells, fun _ => rfl⟩
def api_Note.cells (x : api_Note) : List PV := [.sc (.int .i64 x.fCode), .sc (.int .i64 x.fSub), .sem (SL (eI .u8) x.fData)]
def api_Note.enc : Enc api_Note := ⟨3, api_Note.cells, fun _ => rfl⟩
def attr_one.cells (x : attr_one) : List PV := [.sc (.int .i64 x.fflags), .sc (.int .i64 x.ftyp), .sem (SL (eI .u8) x.fall), .sem (SL (eI .u8) x.fb)]
def attr_one.enc : Enc attr_one := ⟨4, attr_one.cells, fun _ => rfl⟩
def attr_kind.cells (x : attr_kind) : List PV := [.sc (.int .i64 x.fflags), .sc (.int .i64 x.fsize)]
def attr_kind.enc : Enc attr_kind := ⟨2, attr_kind.cells, fun _ => rfl⟩
def attr_wrong.cells (x : attr_wrong) : List PV := [.sc (.int .i64 x.fnote.fCode), .sc (.int .i64 x.fnote.fSub), .sem (SL (eI .u8) x.fnote.fData)]
def attr_wrong.enc : Enc attr_wrong := ⟨3, attr_wrong.cells, fun _ => rfl⟩
def TD : Nat → Dat0 := fun t => match t with
  | 3 => ⟨Int, inferInstance⟩
  | 4 => ⟨Bool, inferInstance⟩
  | 5 => ⟨Int, inferInstance⟩
  | 22 => ⟨List api_Segment, inferInstance⟩
  | 23 => ⟨Int, inferInstance⟩
  | 24 => ⟨List Int, inferInstance⟩
  | 25 => ⟨List api_Raw, inferInstance⟩
  | 27 => ⟨api_Attrs, inferInstance⟩
  | 30 => ⟨List Int, inferInstance⟩
  | 34 => ⟨api_Note, inferInstance⟩
  | 42 => ⟨Int, inferInstance⟩
  | 45 => ⟨api_Raw, inferInstance⟩
  | 47 => ⟨List Int, inferInstance⟩
  | 49 => ⟨api_Segment, inferInstance⟩
  | 63 => ⟨attr_wrong, inferInstance⟩
  | 76 => ⟨attr_one, inferInstance⟩
  | 90 => ⟨attr_kind, inferInstance⟩
  | _ => ⟨Unit, inferInstance⟩
abbrev TA (t : Nat) : Type := (TD t).α
def TB : (t : Nat) → EncShp TA (TA t) := fun t => match t with
  | 3 => ⟨((eI .i64) : Enc (Int)), ({ lv := [.int .i64], toH := fun (x : Int) => (x, ()), ofH := fun h => h.1, eta := fun _ => rfl } : Shp TA (Int))⟩
  | 4 => ⟨(eB : Enc (Bool)), ({ lv := [.bool], toH := fun (x : Bool) => (x, ()), ofH := fun h => h.1, eta := fun _ => rfl } : Shp TA (Bool))⟩
  | 5 => ⟨((eI .u8) : Enc (Int)), ({ lv := [.int .u8], toH := fun (x : Int) => (x, ()), ofH := fun h => h.1, eta := fun _ => rfl } : Shp TA (Int))⟩
  | 22 => ⟨((eL api_Segment.enc) : Enc (List api_Segment)), ({ lv := [.sl 49], toH := fun (x : List api_Segment) => (x, ()), ofH := fun h => h.1, eta := fun _ => rfl } : Shp TA (List api_Segment))⟩
  | 23 => ⟨((eI .u32) : Enc (Int)), ({ lv := [.int .u32], toH := fun (x : Int) => (x, ()), ofH := fun h => h.1, eta := fun _ => rfl } : Shp TA (Int))⟩
  | 24 => ⟨((eL (eI .u32)) : Enc (List Int)), ({ lv := [.sl 23], toH := fun (x : List Int) => (x, ()), ofH := fun h => h.1, eta := fun _ => rfl } : Shp TA (List Int))⟩
  | 25 => ⟨((eL api_Raw.enc) : Enc (List api_Raw)), ({ lv := [.sl 45], toH := fun (x : List api_Raw) => (x, ()), ofH := fun h => h.1, eta := fun _ => rfl } : Shp TA (List api_Raw))⟩
  | 27 => ⟨(api_Attrs.enc : Enc (api_Attrs)), ({ lv := [.int .i64, .sl 49, .int .u32, .int .i64, .int .i64, .sl 23, .sl 45], toH := fun (x : api_Attrs) => (x.fOrigin, x.fPath, x.fNext, x.fMed, x.fPref, x.fComms, x.fRaws, ()), ofH := fun h => ⟨h.1, h.2.1, h.2.2.1, h.2.2.2.1, h.2.2.2.2.1, h.2.2.2.2.2.1, h.2.2.2.2.2.2.1⟩, eta := fun _ => rfl } : Shp TA (api_Attrs))⟩
  | 30 => ⟨((eL (eI .u8)) : Enc (List Int)), ({ lv := [.sl 5], toH := fun (x : List Int) => (x, ()), ofH := fun h => h.1, eta := fun _ => rfl } : Shp TA (List Int))⟩
  | 34 => ⟨(api_Note.enc : Enc (api_Note)), ({ lv := [.int .i64, .int .i64, .sl 5], toH := fun (x : api_Note) => (x.fCode, x.fSub, x.fData, ()), ofH := fun h => ⟨h.1, h.2.1, h.2.2.1⟩, eta := fun _ => rfl } : Shp TA (api_Note))⟩
  | 42 => ⟨((eI .u64) : Enc (Int)), ({ lv := [.int .u64], toH := fun (x : Int) => (x, ()), ofH := fun h => h.1, eta := fun _ => rfl } : Shp TA (Int))⟩
  | 45 => ⟨(api_Raw.enc : Enc (api_Raw)), ({ lv := [.int .i64, .int .i64, .sl 5], toH := fun (x : api_Raw) => (x.fFlags, x.fType, x.fData, ()), ofH := fun h => ⟨h.1, h.2.1, h.2.2.1⟩, eta := fun _ => rfl } : Shp TA (api_Raw))⟩
  | 47 => ⟨((eL (eI .i64)) : Enc (List Int)), ({ lv := [.sl 3], toH := fun (x : List Int) => (x, ()), ofH := fun h => h.1, eta := fun _ => rfl } : Shp TA (List Int))⟩
  | 49 => ⟨(api_Segment.enc : Enc (api_Segment)), ({ lv := [.bool, .sl 3], toH := fun (x : api_Segment) => (x.fSet, x.fAS, ()), ofH := fun h => ⟨h.1, h.2.1⟩, eta := fun _ => rfl } : Shp TA (api_Segment))⟩
  | 63 => ⟨(attr_wrong.enc : Enc (attr_wrong)), ({ lv := [.int .i64, .int .i64, .sl 5], toH := fun (x : attr_wrong) => (x.fnote.fCode, x.fnote.fSub, x.fnote.fData, ()), ofH := fun h => ⟨⟨h.1, h.2.1, h.2.2.1⟩⟩, eta := fun _ => rfl } : Shp TA (attr_wrong))⟩
  | 76 => ⟨(attr_one.enc : Enc (attr_one)), ({ lv := [.int .i64, .int .i64, .sl 5, .sl 5], toH := fun (x : attr_one) => (x.fflags, x.ftyp, x.fall, x.fb, ()), ofH := fun h => ⟨h.1, h.2.1, h.2.2.1, h.2.2.2.1⟩, eta := fun _ => rfl } : Shp TA (attr_one))⟩
  | 90 => ⟨(attr_kind.enc : Enc (attr_kind)), ({ lv := [.int .i64, .int .i64], toH := fun (x : attr_kind) => (x.fflags, x.fsize, ()), ofH := fun h => ⟨h.1, h.2.1⟩, eta := fun _ => rfl } : Shp TA (attr_kind))⟩
  | x => ⟨⟨0, fun _ => [], fun _ => rfl⟩, { lv := [], toH := fun _ => (), ofH := fun _ => (TD x).inh.default, eta := fun _ => rfl }⟩
def TE (t : Nat) : Enc (TA t) := (TB t).E
def TG {α : Type} (e : EncShp TA α) : Prop := ∀ x, e.E.pv x = pvsH TE e.shp.lv (e.shp.toH x)
theorem TL (t : Nat) : TG (TB t) := by
  unfold TB
  split <;> intro x <;> rfl
def S : Sys := { A := TA, inh := fun t => (TD t).inh, E := TE, shp := fun t => (TB t).shp, law := TL, glob := [⟨0, 90, ([⟨0, 0⟩, ⟨64, 1⟩, ⟨64, -1⟩, ⟨64, 4⟩, ⟨128, 4⟩, ⟨64, 4⟩, ⟨64, 0⟩, ⟨192, 8⟩, ⟨192, -1⟩] : List attr_kind)⟩] }
end Go.Rx
namespace Go.Rx
noncomputable def P7 : Program := Proofs.Tryd.prog
theorem mx7 : P7.follows .mixedOrders = true := by kernel_rfl
end Go.Rx
namespace Go.L7
open Go.Rx Go.Ab
def S44 (x y : List Int) : Bool := (bsOf x).toList == (bsOf y).toList
def S41 (x y : List Int) : Bool := decide (x = y)
def S40 (x y : List api_Segment) : Bool := decide (x = y)
def S15 (x y : List Int) : Bool := decide (x = y)
def S36 (x y : List api_Segment) : Bool := decide (x = y)
def S18 (a b : api_Attrs) : Bool := decide (a = b)
def rawEq (r s : api_Raw) : Bool := decide (r.fFlags = s.fFlags) && decide (r.fType = s.fType) && S44 r.fData s.fData
def rawsEq : List api_Raw → List api_Raw → Bool
  | [], [] => true
  | r :: x, s :: y => rawEq r s && rawsEq x y
  | _, _ => false
def S21 (a b : api_Attrs) : Bool := decide (a.fOrigin = b.fOrigin) && decide (a.fNext = b.fNext) && decide (a.fMed = b.fMed) && decide (a.fPref = b.fPref) && S40 a.fPath b.fPath && S41 a.fComms b.fComms && rawsEq a.fRaws b.fRaws
def w64 (n : Int) : Int := IntKind.i64.wrap n
def smallP : List api_Segment → Int → Int
  | [], n => n
  | s :: r, n => if n < 3000 then smallP r (w64 (n + s.fAS.length)) else n
def smallR : List api_Raw → Int → Int
  | [], n => n
  | s :: r, n => if n < 3000 then smallR r (w64 (n + s.fData.length)) else n
def S10 (a : api_Attrs) : Bool := decide (smallR a.fRaws (smallP a.fPath (w64 (w64 (a.fPath.length + a.fComms.length) + a.fRaws.length))) < 3000)
def getB (v c : Int) : Int := ior IntKind.u32 (IntKind.u32.wrap (v * 2 ^ 8)) (IntKind.u32.wrap c)
def S66 (b : List Int) : Int := (b.take 4).foldl getB 0
def S27 (n : Int) : Bool := !decide (n = 0) && !decide (n.fdiv (2 ^ 24) = 127) && decide (n.fdiv (2 ^ 24) < 224)
def P62 (x : List Int) : Prop := x.length ≤ 140737488355328
def S62 (x : List Int) : List Int := x
def asOk (n : Int) : Bool := decide (1 ≤ n) && decide (n ≤ 4294967295)
def goodP : List api_Segment → Int → Bool
  | [], n => decide (n ≤ 64)
  | s :: r, n => if s.fAS.length < 1 ∨ 255 < s.fAS.length then false else if s.fAS.all asOk then goodP r (w64 (n + s.fAS.length)) else false
def S26 (p : List api_Segment) : Bool := goodP p 0
def S28 (r : api_Raw) : Bool := if r.fType = 6 then decide (r.fFlags = 64) && decide ((r.fData.length : Int) = 0) else if r.fType = 7 then decide (r.fFlags = 192) && decide ((r.fData.length : Int) = 8)
  else decide (8 < r.fType) && decide (r.fType ≤ 255) && decide (r.fFlags = 224) && decide ((r.fData.length : Int) ≤ 255)
def rawsUp : Option Int → List api_Raw → Bool
  | _, [] => true
  | p, r :: l => S28 r && (match p with | none => true | some t => decide (t < r.fType)) && rawsUp (some r.fType) l
def S13 (a : api_Attrs) : Bool := !(decide (a.fOrigin < 0) || decide (2 < a.fOrigin)) && S26 a.fPath && S27 a.fNext && !decide (32 < (a.fComms.length : Int)) && rawsUp none a.fRaws && (decide (-1 ≤ a.fMed) && decide (a.fMed ≤ 4294967295) && decide (-1 ≤ a.fPref) && decide (a.fPref ≤ 4294967295))
def put4 (n : Int) : List Int := [IntKind.u8.wrap (n.fdiv (2 ^ 24)), IntKind.u8.wrap (n.fdiv (2 ^ 16)), IntKind.u8.wrap (n.fdiv (2 ^ 8)), IntKind.u8.wrap n]
def S25 (n : Int) : List Int := put4 (IntKind.u32.wrap n)
def P23 (p : List api_Segment) : Prop := p.length ≤ 140737488355328
def segB (s : api_Segment) : List Int := (if s.fSet then 1 else 2) :: IntKind.u8.wrap s.fAS.length :: s.fAS.flatMap fun n => put4 (IntKind.u32.wrap n)
def S23 (p : List api_Segment) : List Int := if S26 p then p.flatMap segB else []
def By (b : List Int) : Prop := ∀ c ∈ b, 0 ≤ c ∧ c ≤ 255
def P65 (b : List Int) : Prop := b.length ≤ 1099511627776 ∧ By b
def asN : Nat → List Int → List Int
  | 0, _ => []
  | n + 1, b => w64 (S66 b) :: asN n (b.drop 4)
def decP : Nat → List Int → Option (List api_Segment)
  | 0, _ => some []
  | f + 1, b => if b = [] then some [] else if b.length < 2 ∨ (ix b 0 ≠ 1 ∧ ix b 0 ≠ 2) then none else
    if ((b.length : Int) - 2) < ix b 1 * 4 then none else match decP f (b.drop (2 + 4 * (ix b 1).toNat)) with
      | some r => some (⟨decide (ix b 0 = 1), asN (ix b 1).toNat (b.drop 2)⟩ :: r)
      | none => none
def pathOut (out : List api_Segment) : Option (List api_Segment) → List api_Segment × Bool
  | none => ([], false)
  | some r => if S26 (out ++ r) then (out ++ r, true) else ([], false)
def S65 (b : List Int) : List api_Segment × Bool := pathOut [] (decP b.length b)
def Q52 (l : List api_Raw) : Prop := l.length ≤ 1000 ∧ ∀ r ∈ l, 0 ≤ r.fType ∧ r.fType ≤ 255
def R52 (x y : api_Raw) : Prop := x.fType ≤ y.fType
def kinds : List attr_kind := [⟨0, 0⟩, ⟨64, 1⟩, ⟨64, -1⟩, ⟨64, 4⟩, ⟨128, 4⟩, ⟨64, 4⟩, ⟨64, 0⟩, ⟨192, 8⟩, ⟨192, -1⟩]
/-- Numbers of four bytes each. -/
def words : Nat → List Int → List Int
  | 0, _ => []
  | n + 1, d => if d = [] then [] else S66 d :: words n (d.drop 4)
/-- What an attribute of the first eight types says, or what is wrong with it. -/
def knownA (f t : Int) (all d : List Int) (a : api_Attrs) : (Int × List Int) ⊕ api_Attrs :=
  if iand IntKind.i64 f (if (ix kinds t).fflags = 192 then 192 else 224) ≠ (ix kinds t).fflags then .inl (4, all)
  else if (decide (0 ≤ (ix kinds t).fsize) && !decide ((d.length : Int) = (ix kinds t).fsize)) || (decide (t = 8) && (decide ((d.length : Int) = 0) || !decide ((d.length : Int).tmod 4 = 0))) then .inl (5, all)
  else if t = 1 then (if 2 < ix d 0 then .inl (6, all) else .inr { a with fOrigin := ix d 0 })
  else if t = 2 then (if (S65 d).2 then .inr { a with fPath := (S65 d).1 } else .inl (11, []))
  else if t = 3 then (if S27 (S66 d) then .inr { a with fNext := S66 d } else .inl (8, all))
  else if t = 4 then .inr { a with fMed := w64 (S66 d) }
  else if t = 5 then .inr { a with fPref := w64 (S66 d) }
  else if t = 8 then (if 128 < (d.length : Int) then .inl (9, all) else .inr { a with fComms := a.fComms ++ words d.length d })
  else .inr { a with fRaws := a.fRaws ++ [⟨(ix kinds t).fflags, t, d⟩] }
/-- The same of another attribute. -/
def otherA (f t : Int) (all d : List Int) (a : api_Attrs) : (Int × List Int) ⊕ api_Attrs :=
  if iand IntKind.i64 f 128 = 0 then .inl (2, all) else if iand IntKind.i64 f 64 = 0 then .inr a else if 255 < (d.length : Int) then .inl (9, all)
  else if 8 < t then .inr { a with fRaws := a.fRaws ++ [⟨224, t, d⟩] } else .inr a
def attrA (f t : Int) (all d : List Int) (a : api_Attrs) : (Int × List Int) ⊕ api_Attrs := if 1 ≤ t ∧ t ≤ 8 then knownA f t all d a else otherA f t all d a
def throwN (sub : Int) (data : List Int) : api_Attrs × api_Note := (⟨0, [], 0, 0, 0, [], []⟩, ⟨3, sub, data⟩)
def sortR (l : List api_Raw) : List api_Raw := l.mergeSort fun x y => decide (x.fType ≤ y.fType)
def finA (a : api_Attrs) (seen : List Bool) : api_Attrs × api_Note :=
  if !ix seen 1 then throwN 3 [1] else if !ix seen 2 then throwN 3 [2] else if !ix seen 3 then throwN 3 [3] else ({ a with fRaws := sortR a.fRaws }, ⟨0, 0, []⟩)
def headL (b : List Int) : Nat := if iand IntKind.u8 (ix b 0) 16 = 0 then 3 else 4
def sizeL (b : List Int) : Int := if iand IntKind.u8 (ix b 0) 16 = 0 then ix b 2 else ix b 2 * 256 + ix b 3
/-- Attributes, one by one. -/
def decA : Nat → List Int → api_Attrs → List Bool → api_Attrs × api_Note
  | 0, _, a, seen => finA a seen
  | f + 1, b, a, seen => if b = [] then finA a seen else if b.length < headL b then throwN 1 [] else if (b.length : Int) - headL b < sizeL b then throwN 1 [] else
    if ix seen (ix b 1) then throwN 1 [] else match attrA (ix b 0) (ix b 1) (b.take (headL b + (sizeL b).toNat)) ((b.take (headL b + (sizeL b).toNat)).drop (headL b)) a with
      | .inl (s, x) => throwN s x
      | .inr a' => decA f (b.drop (headL b + (sizeL b).toNat)) a' (seen.set (ix b 1).toNat true)
def a0 : api_Attrs := ⟨0, [], 0, -1, -1, [], []⟩
def P17 (b : List Int) : Prop := b.length ≤ 549755813888 ∧ By b
def S17 (b : List Int) : api_Attrs × api_Note := decA b.length b a0 (List.replicate 256 false)
/-- An attribute's bytes. -/
def putB (fl t : Int) (d : List Int) : List Int := (if 255 < (d.length : Int) then [IntKind.u8.wrap (ior IntKind.i64 fl 16), IntKind.u8.wrap t, IntKind.u8.wrap ((d.length : Int).fdiv (2 ^ 8)), IntKind.u8.wrap d.length] else [IntKind.u8.wrap fl, IntKind.u8.wrap t, IntKind.u8.wrap d.length]) ++ d
def rawsOut (c : List Int) : Bool → List api_Raw → List Int
  | told, [] => if told then [] else putB 192 8 c
  | told, r :: l => if 8 < r.fType ∧ told = false then putB 192 8 c ++ putB r.fFlags r.fType r.fData ++ rawsOut c true l else putB r.fFlags r.fType r.fData ++ rawsOut c told l
def P12 (a : api_Attrs) : Prop := a.fPath.length ≤ 1099511627776 ∧ a.fRaws.length ≤ 1073741824
def commB (l : List Int) : List Int := l.flatMap put4
def S12 (a : api_Attrs) : List Int := if S13 a then putB 64 1 [IntKind.u8.wrap a.fOrigin] ++ putB 64 2 (S23 a.fPath) ++ putB 64 3 (put4 a.fNext) ++ (if 0 ≤ a.fMed then putB 128 4 (S25 a.fMed) else []) ++ (if 0 ≤ a.fPref then putB 64 5 (S25 a.fPref) else []) ++ rawsOut (commB a.fComms) (decide ((commB a.fComms).length = 0)) a.fRaws
  else []
def S11 : Bool := true
def RawsBy (a : api_Attrs) : Prop := ∀ r ∈ a.fRaws, By r.fData
def P5 (a b : api_Attrs) : Prop := RawsBy a ∧ RawsBy b
def S5 (a b : api_Attrs) : Bool := true
end Go.L7
/-! The sort of the raws: plain facts. -/
namespace Go.Rx
open Go.Ab Go.L7 Go.Sort
set_option linter.unusedVariables false
/-- A raw as the heap holds it: every value one cell, the type a byte. -/
abbrev RA := Int × Fin 256 × Option Addr × Nat × Nat
def encR (x : RA) : List Value := [.int .i64 x.1, .int .i64 (x.2.1.val : Int), .slice x.2.2.1 x.2.2.2.1 x.2.2.2.2]
def cfR (x y : RA) : Int := RowKit.wrap64 ((x.2.1.val : Int) - (y.2.1.val : Int))
theorem ltR (x y : RA) : Go.Proofs.ltOf cfR x y = decide (x.2.1.val < y.2.1.val) := by
  have hx := x.2.1.isLt
  have hy := y.2.1.isLt
  unfold Go.Proofs.ltOf cfR
  rw [show RowKit.wrap64 ((x.2.1.val : Int) - (y.2.1.val : Int)) = (x.2.1.val : Int) - (y.2.1.val : Int) by unfold RowKit.wrap64; omega]
  by_cases h : x.2.1.val < y.2.1.val
  · rw [decide_eq_true h, decide_eq_true (by omega)]
  · rw [decide_eq_false h, decide_eq_false (by omega)]
theorem swoR : SWO (Go.Proofs.ltOf cfR) where
  irrefl x := by rw [ltR]; simp
  trans x y z h1 h2 := by rw [ltR] at *; simp at *; omega
  ntrans x y z h1 h2 := by rw [ltR] at *; simp at *; omega
/-- Every raw of a list, with what the heap holds of it. -/
theorem pairsR {imm : Imm} : ∀ (l : List api_Raw) (vs : List Value), (∀ r ∈ l, 0 ≤ r.fType ∧ r.fType ≤ 255) → RepL noT (gh imm) (l.flatMap (S.E 45).pv) vs → ∃ D : List (api_Raw × RA), D.map (·.1) = l ∧ vs = (D.map (·.2)).flatMap encR ∧ ∀ p ∈ D, RepL noT (gh imm) ((S.E 45).pv p.1) (encR p.2) ∧ p.1.fType = (p.2.2.1.val : Int)
  | [], vs, _, h => ⟨[], rfl, h, fun p hp => by cases hp⟩
  | r :: l, vs, ht, h => by
    obtain ⟨v1, vs1, rfl, h1, _, v2, vs2, rfl, h2, _, v3, vs3, rfl, h3, o3, h4⟩ := h
    obtain ⟨D, e1, e2, e3⟩ := pairsR l vs3 (fun r hr => ht r (by simp [hr])) h4
    have h1 : v1 = .int .i64 r.fFlags := h1
    have h2 : v2 = .int .i64 r.fType := h2
    have h3c := h3
    obtain ⟨A, c, h3', _⟩ := h3
    have hr := ht r (by simp)
    refine ⟨(r, (r.fFlags, ⟨r.fType.toNat, by omega⟩, A, r.fData.length, c)) :: D, by simp [e1], ?_, ?_⟩
    · rw [List.map_cons, List.flatMap_cons, ← e2, h1, h2, h3']
      show _ = [_, _, _] ++ vs3
      have : ((r.fType.toNat : Nat) : Int) = r.fType := by omega
      simp only [encR, this]
      rfl
    · intro p hp
      rcases List.mem_cons.1 hp with rfl | hp
      · have e : ((r.fType.toNat : Nat) : Int) = r.fType := by omega
        refine ⟨?_, e.symm⟩
        refine ⟨_, _, rfl, ?_, rfl, _, _, rfl, ?_, rfl, _, _, rfl, ?_, rfl, rfl⟩
        · rfl
        · show Value.int .i64 ((r.fType.toNat : Nat) : Int) = _
          rw [e]
        · have := h3c
          rw [h3'] at this
          exact this
      · exact e3 p hp
/-- Pairs follow a permutation of their second halves. -/
theorem perm_lift {α β : Type} {D : List (α × β)} : ∀ {m m' : List β}, m.Perm m' → ∀ D : List (α × β), D.map (·.2) = m → ∃ D' : List (α × β), D'.Perm D ∧ D'.map (·.2) = m'
  | _, _, .nil, D, h => ⟨D, .refl _, h⟩
  | _, _, .cons x h, D, e => by
    cases D with
    | nil => cases e
    | cons p D =>
      simp only [List.map_cons, List.cons.injEq] at e
      obtain ⟨D', h1, h2⟩ := perm_lift (D := D) h D e.2
      exact ⟨p :: D', .cons _ h1, by simp [e.1, h2]⟩
  | _, _, .swap x y l, D, e => by
    cases D with
    | nil => cases e
    | cons p D =>
      cases D with
      | nil => simp at e
      | cons q D =>
        simp only [List.map_cons, List.cons.injEq] at e
        exact ⟨q :: p :: D, .swap _ _ _, by simp [e.1, e.2.1, e.2.2]⟩
  | _, _, .trans h1 h2, D, e => by
    obtain ⟨D1, a1, a2⟩ := perm_lift (D := D) h1 D e
    obtain ⟨D2, b1, b2⟩ := perm_lift (D := D) h2 D1 a2
    exact ⟨D2, b1.trans a1, b2⟩
theorem repR {imm : Imm} : ∀ (D : List (api_Raw × RA)), (∀ p ∈ D, RepL noT (gh imm) ((S.E 45).pv p.1) (encR p.2)) → RepL noT (gh imm) ((D.map (·.1)).flatMap (S.E 45).pv) ((D.map (·.2)).flatMap encR)
  | [], _ => rfl
  | p :: D, h => by
    have h1 := h p (by simp)
    have h2 := repR D fun q hq => h q (by simp [hq])
    obtain ⟨v1, vs1, e1, k1, o1, v2, vs2, e2, k2, o2, v3, vs3, e3, k3, o3, e4⟩ := h1
    subst e4 e3 e2
    show RepL noT (gh imm) ((S.E 45).pv p.1 ++ (D.map (·.1)).flatMap (S.E 45).pv) (encR p.2 ++ (D.map (·.2)).flatMap encR)
    rw [e1]
    exact ⟨v1, _, rfl, k1, o1, v2, _, rfl, k2, o2, v3, _, rfl, k3, o3, h2⟩
theorem encR_len (x : RA) : (encR x).length = 3 := rfl
theorem flat_get : ∀ (l : List RA) (t : Nat), t < l.length * 3 → (l.flatMap encR)[t]? = (encR (l.getD (t / 3) default))[t % 3]?
  | [], t, h => by simp at h
  | x :: l, t, h => by
    by_cases ht : t < 3
    · rw [List.flatMap_cons, List.getElem?_append_left (by rw [encR_len]; exact ht), show t / 3 = 0 by omega, show t % 3 = t by omega]; rfl
    · rw [List.flatMap_cons, List.getElem?_append_right (by rw [encR_len]; omega), encR_len, flat_get l (t - 3) (by simp at h; omega)]
      obtain ⟨q, hq⟩ : ∃ q, t / 3 = q + 1 := ⟨t / 3 - 1, by omega⟩
      rw [show (t - 3) / 3 = q by omega, show (t - 3) % 3 = t % 3 by omega, hq]
      rfl
theorem flatK_get (l : List RA) (t : Nat) (h : t < l.length * 3) : (l.flatMap encR)[t]? = some (Go.Sort.flatK encR 3 l.toArray)[t]! := by
  rw [Go.Sort.get_flatK encR 3 l.toArray t (by simpa using h), flat_get l t h]
  have e : (l.toArray)[t / 3]! = l.getD (t / 3) default := by
    rw [getElem!_def]
    simp only [List.getElem?_toArray, List.getD_eq_getElem?_getD]
    cases l[t / 3]? <;> rfl
  rw [e]
  have : t % 3 < (encR (l.getD (t / 3) default)).length := by rw [encR_len]; omega
  rw [getElem!_def, List.getElem?_eq_getElem this]
end Go.Rx
namespace Go.Rx
open Go.Ab Go.L7 Go.Sort
set_option linter.unusedVariables false
theorem world_sorted {w : World} {b n : Nat} {cs : Array Value} {ty : TypeId} {os : Array Obj} {F : Array Value} (hcs : w.heap[b]? = some (.cells cs ty (0, 0))) :
    (grow (putRow id (Sort.ahead w n) b 0 F) os).os = w.os ∧ (grow (putRow id (Sort.ahead w n) b 0 F) os).tape = w.tape ∧ (grow (putRow id (Sort.ahead w n) b 0 F) os).output = w.output ∧ w.heap.size ≤ (grow (putRow id (Sort.ahead w n) b 0 F) os).heap.size ∧
    (grow (putRow id (Sort.ahead w n) b 0 F) os).heap[b]? = some (.cells (putCells id 0 F cs) ty (0, 0)) ∧ ∀ k, k < w.heap.size → k ≠ b → (grow (putRow id (Sort.ahead w n) b 0 F) os).heap[k]? = w.heap[k]? := by
  have hb : b < w.heap.size := (Array.getElem?_eq_some_iff.1 hcs).1
  have hh : (grow (putRow id (Sort.ahead w n) b 0 F) os).heap = w.heap.modify b (onCells (putCells id 0 F)) ++ os := rfl
  refine ⟨rfl, rfl, rfl, by rw [hh]; simp, ?_, fun k hk hne => ?_⟩
  · rw [hh, Array.getElem?_append_left (by simpa using hb), Array.getElem?_modify, if_pos rfl, hcs]
    rfl
  · rw [hh, Array.getElem?_append_left (by simpa using hk), Array.getElem?_modify, if_neg (fun e => hne e.symm)]
theorem putCells_take {F cs : Array Value} (h : F.size ≤ cs.size) : (putCells id 0 F cs).size = cs.size ∧ (putCells id 0 F cs).toList.take F.size = F.toList := by
  refine ⟨by simp [putCells], ?_⟩
  apply List.ext_getElem?
  intro i
  rw [List.getElem?_take]
  by_cases hi : i < F.size
  · rw [if_pos hi]
    have : i < cs.size := by omega
    simp only [putCells, Array.getElem?_toList, Array.getElem?_mapIdx, Array.getElem?_eq_getElem this, Option.map_some, Array.getElem?_eq_getElem hi]
    rw [if_pos ⟨Nat.zero_le _, by omega⟩]
    simp [hi]
  · rw [if_neg hi]
    rw [Array.getElem?_toList, Array.getElem?_eq_none (by omega)]
theorem flatK_list (l : List RA) : (flatK encR 3 l.toArray).toList = l.flatMap encR := by
  have hl : (l.flatMap encR).length = l.length * 3 := by
    induction l with
    | nil => rfl
    | cons x l ih => rw [List.flatMap_cons, List.length_append, ih, encR_len, List.length_cons]; omega
  apply List.ext_getElem?
  intro i
  by_cases hi : i < l.length * 3
  · rw [flatK_get l i hi, Array.getElem?_toList, Array.getElem?_eq_getElem (by simpa using hi), getElem!_pos _ i (by simpa using hi)]
  · rw [List.getElem?_eq_none (by rw [Array.length_toList, size_flatK]; simp; omega), List.getElem?_eq_none (by rw [hl]; omega)]
/-- The row, held. -/
theorem holdsR {w : World} {b : Nat} {cs : Array Value} {ty : TypeId} {l : List RA} (hcs : w.heap[b]? = some (.cells cs ty (0, 0))) (hle : l.length * 3 ≤ cs.size) (ht : cs.toList.take (l.length * 3) = l.flatMap encR) : HoldsK encR 3 w b 0 l.toArray := by
  intro j hj
  rw [size_flatK] at hj
  have hj' : j < l.length * 3 := by simpa using hj
  refine ⟨?_, ?_⟩
  · have h1 := flatK_get l j hj'
    rw [← ht, List.getElem?_take, if_pos hj', Array.getElem?_toList] at h1
    show w.cell? ⟨b, 0 + j, none⟩ = some (flatK encR 3 l.toArray)[j]!
    rw [← h1]
    simp [World.cell?, hcs]
  · simp [World.frozen?, hcs]
end Go.Rx
namespace Go.Rx
open Go.Ab Go.L7 Go.Sort
set_option linter.unusedVariables false
/-- What the shelf says of the sort at this program. -/
def SortSays (P : Program) : Prop := ∀ (b c : Nat) (d : Array RA) (w : World), HoldsK encR 3 w b 0 d → b < w.heap.size → d.size < 4611686018427387904 →
  Calls P 52 #[.slice (some ⟨b, 0, none⟩) d.size c, .func (.func 53) #[] #[]] w fun e w' => e = .returned (.tuple #[]) ∧ ∃ (d' : Array RA) (n : Nat) (os : Array Obj), PermIn 0 d.size d d' ∧ SortedIn (Go.Proofs.ltOf cfR) 0 d.size d' ∧ w' = grow (putRowK encR 3 (Sort.ahead w n) b 0 d') os
theorem sort52 {P : Program} (hnil : ∀ w, Calls P 52 #[.slice none 0 0, .func (.func 53) #[] #[]] w fun e w' => e = .returned (.tuple #[]) ∧ w' = w) (hs : SortSays P) : SortOk (S := S) P 52 45 53 Q52 R52 := by
  refine ⟨fun w => (hnil w).mono ?_, ?_⟩
  · rintro e w' ⟨rfl, rfl⟩
    exact ⟨rfl, rfl, rfl, rfl, Nat.le_refl _, fun _ _ => rfl⟩
  · intro imm w b c cs ty (l : List api_Raw) hQ hok hgl himm hcs hR hlc hc9 hcsz
    obtain ⟨hl1, hl2⟩ : l.length ≤ 1000 ∧ ∀ r ∈ l, 0 ≤ r.fType ∧ r.fType ≤ 255 := hQ
    have hsz : szOf S 45 = 3 := rfl
    rw [hsz] at hR hcsz ⊢
    have hR : RepL noT (gh imm) (l.flatMap (S.E 45).pv) (cs.toList.take (l.length * 3)) := hR
    have hlc : l.length ≤ c := hlc
    obtain ⟨D, e1, e2, e3⟩ := pairsR l _ hl2 hR
    have hDl : D.length = l.length := by have := congrArg List.length e1; simpa using this
    have hle : l.length * 3 ≤ cs.size := by omega
    have hH : HoldsK encR 3 w b 0 (D.map (·.2)).toArray := holdsR hcs (by simpa [hDl] using hle) (by rw [List.length_map, hDl]; exact e2)
    have hcall := hs b c (D.map (·.2)).toArray w hH (Array.getElem?_eq_some_iff.1 hcs).1 (by simp [hDl]; omega)
    have hds : (D.map (·.2)).toArray.size = l.length := by simp [hDl]
    rw [hds] at hcall
    refine hcall.mono ?_
    rintro e w' ⟨rfl, d', n, os, ⟨p1, p2, p3⟩, hso, rfl⟩
    rw [hds] at p1
    have hp : d'.toList.Perm (D.map (·.2)) := by
      have h1 : (d'.extract 0 l.length).toList = d'.toList := by rw [← p1]; simp
      have h2 : ((D.map (·.2)).toArray.extract 0 l.length).toList = D.map (·.2) := by
        have key : ∀ (X : Array RA), (X.extract 0 X.size).toList = X.toList := fun X => by simp
        rw [← hds]; exact key _
      rw [h1, h2] at p3
      exact p3
    obtain ⟨D', f1, f2⟩ := perm_lift (D := D) hp.symm D rfl
    have g3 : ∀ p ∈ D', RepL noT (gh imm) ((S.E 45).pv p.1) (encR p.2) ∧ p.1.fType = (p.2.2.1.val : Int) := fun p hp => e3 p (f1.mem_iff.1 hp)
    have hD'l : D'.length = l.length := by rw [f1.length_eq, hDl]
    have hflat : (flatK encR 3 d').toList = (D'.map (·.2)).flatMap encR := by
      have := flatK_list d'.toList
      rw [show d'.toList.toArray = d' by simp] at this
      rw [this, f2]
    have hFs : (flatK encR 3 d').size = l.length * 3 := by rw [size_flatK, p1]
    obtain ⟨k1, k2, k3, k4, k5, k6⟩ := world_sorted (n := n) (os := os) (F := flatK encR 3 d') hcs
    obtain ⟨m1, m2⟩ := putCells_take (F := flatK encR 3 d') (cs := cs) (by omega)
    have hpw : List.Pairwise (fun (x y : api_Raw) => x.fType ≤ y.fType) (D'.map (·.1)) := by
      rw [List.pairwise_iff_getElem]
      intro i j hi hj hij
      rw [List.length_map] at hi hj
      have h1 := hso i j (Nat.zero_le _) hij (by omega)
      rw [ltR] at h1
      have gi : ∀ (i : Nat) (hi : i < D'.length), d'[i]! = D'[i].2 := by
        intro i hi
        have : d'.toList[i]? = some D'[i].2 := by rw [← f2, List.getElem?_map, List.getElem?_eq_getElem hi]; rfl
        rw [getElem!_def]
        rw [Array.getElem?_toList] at this
        rw [this]
      rw [gi i hi, gi j hj] at h1
      have t1 := (g3 _ (List.getElem_mem hi)).2
      have t2 := (g3 _ (List.getElem_mem hj)).2
      rw [List.getElem_map, List.getElem_map, t1, t2]
      have h1 := of_decide_eq_false h1
      omega
    have hrep0 : RepL noT (gh imm) ((D'.map (·.1)).flatMap (S.E 45).pv) ((putCells id 0 (flatK encR 3 d') cs).toList.take (l.length * 3)) := by
      rw [← hFs, m2, hflat]
      exact repR D' fun p hp => (g3 p hp).1
    obtain ⟨L', hL⟩ : ∃ L' : List api_Raw, L' = D'.map (·.1) := ⟨_, rfl⟩
    have hrep : RepL noT (gh imm) (L'.flatMap (S.E 45).pv) ((putCells id 0 (flatK encR 3 d') cs).toList.take (l.length * 3)) := by rw [hL]; exact hrep0
    have hperm : (D'.map (·.1)).Perm l := by rw [← e1]; exact f1.map _
    rw [← hL] at hpw hperm
    exact ⟨rfl, L', putCells id 0 (flatK encR 3 d') cs, hperm, hpw, k1, k2, k3, k4, k5, by rw [m1]; exact hcsz, hrep, k6⟩
end Go.Rx
namespace Go.Proofs
open Go.Shelf Go.RowKit Go.Lib Go.Sort
set_option maxHeartbeats 1000000 in
theorem YtkmmnfcjbalboaaDoor.closure53 (f t f' t' : Int) (v v' : Value) (W : World) : Calls Tryd.prog 53 #[.agg #[.int .i64 f, .int .i64 t, v], .agg #[.int .i64 f', .int .i64 t', v']] W fun e w' => e = .returned (.int .i64 (Go.RowKit.wrap64 (t - t'))) ∧ ∃ q os', w' = grow (W.drewN q) os' := by
  go_enter Tryd.func53, Tryd.ntmps53
  go_wp2
  go_ret
  exact ⟨rfl, 0, _, by rw [alloc_eq_grow, alloc_eq_grow, grow_grow]; rfl⟩
end Go.Proofs
namespace Go.Proofs
open Go.RowKit
theorem YtkmmnfcjbalboaaDoor.isAgg45 (w : World) : (isAgg 45).run Tryd.prog w = .ok true w := by kernel_rfl
theorem YtkmmnfcjbalboaaDoor.sizeOf45 (w : World) : (Go.sizeOf 45).run Tryd.prog w = .ok 3 w := by kernel_rfl
theorem YtkmmnfcjbalboaaDoor.eg53 : ∀ (args : Array Value) (w : World), (callFunc 53 args).run Tryd.prog w = .ok (.enter 53 args) w := enters_of Tryd.func53 (by kernel_rfl) rfl
end Go.Proofs
/- The sort of the raws, laid at this program (plain text, printed by the kit's own tool). -/
namespace Go.Proofs
open Go.Shelf
def YtkmmnfcjbalboaaDoor.sortRaw_ren : Go.Shelf.Ren := ⟨fun | 6 => 52 | 15 => 64 | 14 => 63 | 28 => 76 | 29 => 77 | 20 => 68 | 21 => 69 | 22 => 70 | 23 => 71 | 24 => 72 | 25 => 73 | 26 => 74 | 27 => 75 | 46 => 78 | 47 => 79 | 48 => 80 | 49 => 81 | 50 => 82 | 57 => 83 | n => n, fun | 22 => 25 | 24 => 45 | 25 => 81 | 3 => 3 | 39 => 42 | 0 => 0 | 53 => 23 | 55 => 107 | 4 => 4 | 46 => 99 | 45 => 98 | 50 => 103 | 5 => 5 | 9 => 9 | 66 => 108 | 70 => 112 | 76 => 114 | 77 => 115 | n => n, fun | n => n⟩
theorem YtkmmnfcjbalboaaDoor.sortRaw : Go.Proofs.SlLaysF0.n6 Tryd.prog YtkmmnfcjbalboaaDoor.sortRaw_ren := {
  mixed := by kernel_rfl
  f6 := ⟨Tryd.f52.name, by decide, Tryd.func52.trans (congrArg some (by kernel_rfl))⟩
  f14 := ⟨Tryd.f63.name, by decide, Tryd.func63.trans (congrArg some (by kernel_rfl))⟩
  f15 := Tryd.func64.trans (congrArg some (by kernel_rfl))
  f20 := ⟨Tryd.f68.name, by decide, Tryd.func68.trans (congrArg some (by kernel_rfl))⟩
  f21 := ⟨Tryd.f69.name, by decide, Tryd.func69.trans (congrArg some (by kernel_rfl))⟩
  f22 := ⟨Tryd.f70.name, by decide, Tryd.func70.trans (congrArg some (by kernel_rfl))⟩
  f23 := ⟨Tryd.f71.name, by decide, Tryd.func71.trans (congrArg some (by kernel_rfl))⟩
  f24 := ⟨Tryd.f72.name, by decide, Tryd.func72.trans (congrArg some (by kernel_rfl))⟩
  f25 := ⟨Tryd.f73.name, by decide, Tryd.func73.trans (congrArg some (by kernel_rfl))⟩
  f26 := ⟨Tryd.f74.name, by decide, Tryd.func74.trans (congrArg some (by kernel_rfl))⟩
  f27 := ⟨Tryd.f75.name, by decide, Tryd.func75.trans (congrArg some (by kernel_rfl))⟩
  f28 := Tryd.func76.trans (congrArg some (by kernel_rfl))
  f29 := Tryd.func77.trans (congrArg some (by kernel_rfl))
  f46 := ⟨Tryd.f78.name, by decide, Tryd.func78.trans (congrArg some (by kernel_rfl))⟩
  f47 := Tryd.func79.trans (congrArg some (by kernel_rfl))
  f48 := Tryd.func80.trans (congrArg some (by kernel_rfl))
  f49 := ⟨Tryd.f81.name, by decide, Tryd.func81.trans (congrArg some (by kernel_rfl))⟩
  f50 := ⟨Tryd.f82.name, by decide, Tryd.func82.trans (congrArg some (by kernel_rfl))⟩
  f57 := ⟨Tryd.f83.name, by decide, Tryd.func83.trans (congrArg some (by kernel_rfl))⟩
  t0 := Tryd.underlying0
  a0 := Tryd.isAgg0
  z0 := Tryd.sizeOf0
  v0 := Tryd.zeroValue0
  t3 := Tryd.underlying3
  a3 := Tryd.isAgg3
  z3 := Tryd.sizeOf3
  v3 := Tryd.zeroValue3
  t4 := Tryd.underlying4
  a4 := Tryd.isAgg4
  z4 := Tryd.sizeOf4
  v4 := Tryd.zeroValue4
  t5 := Tryd.underlying5
  a5 := Tryd.isAgg5
  z5 := Tryd.sizeOf5
  v5 := Tryd.zeroValue5
  t9 := Tryd.underlying9
  a9 := Tryd.isAgg9
  z9 := Tryd.sizeOf9
  v9 := Tryd.zeroValue9
  t22 := Tryd.underlying25
  a22 := Tryd.isAgg25
  z22 := Tryd.sizeOf25
  v22 := Tryd.zeroValue25
  t25 := Tryd.underlying81
  a25 := Tryd.isAgg81
  z25 := Tryd.sizeOf81
  v25 := Tryd.zeroValue81
  t39 := Tryd.underlying42
  a39 := Tryd.isAgg42
  z39 := Tryd.sizeOf42
  v39 := Tryd.zeroValue42
  t45 := Tryd.underlying98
  a45 := Tryd.isAgg98
  z45 := Tryd.sizeOf98
  v45 := Tryd.zeroValue98
  t46 := Tryd.underlying99
  a46 := Tryd.isAgg99
  z46 := Tryd.sizeOf99
  v46 := Tryd.zeroValue99
  t50 := Tryd.underlying103
  a50 := Tryd.isAgg103
  z50 := Tryd.sizeOf103
  v50 := Tryd.zeroValue103
  t53 := Tryd.underlying23
  a53 := Tryd.isAgg23
  z53 := Tryd.sizeOf23
  v53 := Tryd.zeroValue23
  t55 := Tryd.underlying107
  a55 := Tryd.isAgg107
  z55 := Tryd.sizeOf107
  v55 := Tryd.zeroValue107
  t66 := Tryd.underlying108
  a66 := Tryd.isAgg108
  z66 := Tryd.sizeOf108
  v66 := Tryd.zeroValue108
  t70 := Tryd.underlying112
  a70 := Tryd.isAgg112
  z70 := Tryd.sizeOf112
  v70 := Tryd.zeroValue112
  t76 := Tryd.underlying114
  a76 := Tryd.isAgg114
  z76 := Tryd.sizeOf114
  v76 := Tryd.zeroValue114
  t77 := Tryd.underlying115
  a77 := Tryd.isAgg115
  z77 := Tryd.sizeOf115
  v77 := Tryd.zeroValue115 }
end Go.Proofs
namespace Go.Rx
open Go.Ab Go.L7 Go.Sort Go.Proofs
theorem says52 : SortSays P7 := by
  intro b c d w hH hb hs
  have hcmp : CmpLays Tryd.prog 53 #[] encR 3 cfR b 0 d.size w := fun _ _ _ _ x y => YtkmmnfcjbalboaaDoor.closure53 _ _ _ _ _ _ _
  exact AnyQ.slices_SortFunc YtkmmnfcjbalboaaDoor.sortRaw 3 YtkmmnfcjbalboaaDoor.isAgg45 YtkmmnfcjbalboaaDoor.sizeOf45 encR (fun _ => rfl) (fun x v hv => by simp [encR] at hv; rcases hv with rfl | rfl | rfl <;> rfl) cfR swoR 53 #[] b 0 c d w YtkmmnfcjbalboaaDoor.eg53 hcmp hH hb hs
end Go.Rx
namespace Go.Rx
open Go.Ab Go.L7
set_option maxRecDepth 100000
set_option maxHeartbeats 20000000
set_option linter.unusedVariables false
/-- bytes.Equal -/
noncomputable def C44 : Cfg S := { P := P7, inl := [], K := [], ann := [] }
abbrev W44 : CT S [4] [30, 30] := (fun x0 x1 => (none, S44 x0 x1))
abbrev Ok44 : Prop := ConOk P7 44 (ctr P7 [30, 30] [4] W44) ∧ ConMon (ctr P7 [30, 30] [4] W44)
theorem q44 (x0 : List Int) (x1 : List Int) (v : HR S [4]) : (Xf C44 6 (emp 0) 44 (argsA C44 [⟨30, x0⟩, ⟨30, x1⟩]) (emp 0) (fun r _ => isR C44.P [4] v r) (fun
 _ _ => False)) = (((bsOf (List.map (fun (x : Int) => x) x0)).toList == (bsOf (List.map (fun (x : Int) => x) x1)).toList) = v) := by kernel_rfl
end Go.Rx
namespace Go.Rx
open Go.Ab Go.L7
set_option maxRecDepth 100000
set_option maxHeartbeats 20000000
set_option linter.unusedVariables false
/-- slices.Equal[[]uint32,uint32] -/
noncomputable def C41 : Cfg S := { P := P7, inl := [], K := [], ann := [(41, [(4, .loop [(.sl 13, .int .i64)])])] }
abbrev W41 : CT S [4] [24, 24] := (fun x0 x1 => (none, S41 x0 x1))
abbrev Ok41 : Prop := ConOk P7 41 (ctr P7 [24, 24] [4] W41) ∧ ConMon (ctr P7 [24, 24] [4] W41)
theorem q41 (x0 : List Int) (x1 : List Int) (v : HR S [4]) : (Xf C41 6 (emp 0) 41 (argsA C41 [⟨24, x0⟩, ⟨24, x1⟩]) (emp 0) (fun r _ => isR C41.P [4] v r) (fun
 _ _ => False)) = (bif !decide ((↑x0.length : Int) = (↑x1.length : Int)) then false = v else LOOP (fun (h : Int) (J : Int → Prop) => bif decide (h <
 (↑x0.length : Int)) then ((0 : Int) ≤ h ∧ h < (↑x0.length : Int)) ∧ ((0 : Int) ≤ h ∧ h < (↑x1.length : Int)) ∧ bif !decide (ix x0 h = ix x1 h) then false = v
 else J (IntKind.i64.wrap (h + (1 : Int))) else true = v) (0 : Int)) := by kernel_rfl
end Go.Rx
namespace Go.Rx
open Go.Ab Go.L7
set_option maxRecDepth 100000
set_option maxHeartbeats 20000000
set_option linter.unusedVariables false
/-- interregnum/path.Same -/
noncomputable def C40 : Cfg S := { P := P7, inl := [], K := [], ann := [(56, [(4, .loop [(.sl 17, .int .i64)])]), (58, [(4, .loop [(.sl 13, .int .i64)])])] }
abbrev W40 : CT S [4] [22, 22] := (fun x0 x1 => (none, S40 x0 x1))
abbrev Ok40 : Prop := ConOk P7 40 (ctr P7 [22, 22] [4] W40) ∧ ConMon (ctr P7 [22, 22] [4] W40)
theorem q40 (x0 : List api_Segment) (x1 : List api_Segment) (v : HR S [4]) : (Xf C40 6 (emp 0) 40 (argsA C40 [⟨22, x0⟩, ⟨22, x1⟩]) (emp 0) (fun r _ => isR
 C40.P [4] v r) (fun _ _ => False)) = (bif !decide ((↑x0.length : Int) = (↑x1.length : Int)) then false = v else LOOP (fun (h : Int) (J : Int → Prop) => bif
 decide (h < (↑x0.length : Int)) then ((0 : Int) ≤ h ∧ h < (↑x0.length : Int)) ∧ ((0 : Int) ≤ h ∧ h < (↑x1.length : Int)) ∧ bif decide ((ix x0 h).fSet = (ix x1
 h).fSet) then bif !decide ((↑(ix x0 h).fAS.length : Int) = (↑(ix x1 h).fAS.length : Int)) then false = v else LOOP (fun (h_1 : Int) (J_1 : Int → Prop) => bif
 decide (h_1 < (↑(ix x0 h).fAS.length : Int)) then ((0 : Int) ≤ h_1 ∧ h_1 < (↑(ix x0 h).fAS.length : Int)) ∧ ((0 : Int) ≤ h_1 ∧ h_1 < (↑(ix x1 h).fAS.length :
 Int)) ∧ bif !decide (ix (ix x0 h).fAS h_1 = ix (ix x1 h).fAS h_1) then false = v else J_1 (IntKind.i64.wrap (h_1 + (1 : Int))) else J (IntKind.i64.wrap (h +
 (1 : Int)))) (0 : Int) else false = v else true = v) (0 : Int)) := by kernel_rfl
end Go.Rx
namespace Go.Rx
open Go.Ab Go.L7
set_option maxRecDepth 100000
set_option maxHeartbeats 20000000
set_option linter.unusedVariables false
/-- interregnum/interregnumref01.Same -/
noncomputable def C15 : Cfg S := { P := P7, inl := [], K := [], ann := [(15, [(4, .loop [(.sl 5, .int .i64)])])] }
abbrev W15 : CT S [4] [30, 30] := (fun x0 x1 => (none, S15 x0 x1))
abbrev Ok15 : Prop := ConOk P7 15 (ctr P7 [30, 30] [4] W15) ∧ ConMon (ctr P7 [30, 30] [4] W15)
theorem q15 (x0 : List Int) (x1 : List Int) (v : HR S [4]) : (Xf C15 6 (emp 0) 15 (argsA C15 [⟨30, x0⟩, ⟨30, x1⟩]) (emp 0) (fun r _ => isR C15.P [4] v r) (fun
 _ _ => False)) = (bif !decide ((↑x0.length : Int) = (↑x1.length : Int)) then false = v else LOOP (fun (h : Int) (J : Int → Prop) => bif decide (h <
 (↑x0.length : Int)) then ((0 : Int) ≤ h ∧ h < (↑x0.length : Int)) ∧ ((0 : Int) ≤ h ∧ h < (↑x1.length : Int)) ∧ bif !decide (ix x0 h = ix x1 h) then false = v
 else J (IntKind.i64.wrap (h + (1 : Int))) else true = v) (0 : Int)) := by kernel_rfl
end Go.Rx
namespace Go.Rx
open Go.Ab Go.L7
set_option maxRecDepth 100000
set_option maxHeartbeats 20000000
set_option linter.unusedVariables false
/-- interregnum/interregnumref05.SamePath -/
noncomputable def C36 : Cfg S := { P := P7, inl := [], K := [], ann := [(36, [(9, .loop [(.sl 6, .int .i64)]), (4, .loop [(.sl 5, .int .i64)])])] }
abbrev W36 : CT S [4] [22, 22] := (fun x0 x1 => (none, S36 x0 x1))
abbrev Ok36 : Prop := ConOk P7 36 (ctr P7 [22, 22] [4] W36) ∧ ConMon (ctr P7 [22, 22] [4] W36)
theorem q36 (x0 : List api_Segment) (x1 : List api_Segment) (v : HR S [4]) : (Xf C36 6 (emp 0) 36 (argsA C36 [⟨22, x0⟩, ⟨22, x1⟩]) (emp 0) (fun r _ => isR
 C36.P [4] v r) (fun _ _ => False)) = (bif !decide ((↑x0.length : Int) = (↑x1.length : Int)) then false = v else LOOP (fun (h : Int) (J : Int → Prop) => bif
 decide (h < (↑x0.length : Int)) then ((0 : Int) ≤ h ∧ h < (↑x0.length : Int)) ∧ ((0 : Int) ≤ h ∧ h < (↑x1.length : Int)) ∧ ((!decide ((ix x0 h).fSet = (ix x1
 h).fSet)) = false → (0 : Int) ≤ h ∧ h < (↑x0.length : Int)) ∧ ((!decide ((ix x0 h).fSet = (ix x1 h).fSet)) = false → (0 : Int) ≤ h ∧ h < (↑x1.length : Int)) ∧
 bif !decide ((ix x0 h).fSet = (ix x1 h).fSet) || !decide ((↑(ix x0 h).fAS.length : Int) = (↑(ix x1 h).fAS.length : Int)) then false = v else LOOP (fun (h_1 :
 Int) (J_1 : Int → Prop) => ((0 : Int) ≤ h ∧ h < (↑x0.length : Int)) ∧ bif decide (h_1 < (↑(ix x0 h).fAS.length : Int)) then ((0 : Int) ≤ h ∧ h < (↑x0.length :
 Int)) ∧ ((0 : Int) ≤ h_1 ∧ h_1 < (↑(ix x0 h).fAS.length : Int)) ∧ ((0 : Int) ≤ h ∧ h < (↑x1.length : Int)) ∧ ((0 : Int) ≤ h_1 ∧ h_1 < (↑(ix x1 h).fAS.length :
 Int)) ∧ bif !decide (ix (ix x0 h).fAS h_1 = ix (ix x1 h).fAS h_1) then false = v else J_1 (IntKind.i64.wrap (h_1 + (1 : Int))) else J (IntKind.i64.wrap (h +
 (1 : Int)))) (0 : Int) else true = v) (0 : Int)) := by kernel_rfl
end Go.Rx
/-! Rows compared. -/
namespace Go.Rx
open Go.Ab Go.L7
set_option linter.unusedVariables false
set_option maxRecDepth 100000
theorem wrap64 {n : Int} (h : -9223372036854775808 ≤ n ∧ n ≤ 9223372036854775807) : IntKind.i64.wrap n = n := wrap64_id h
theorem ix_eq {α : Type} [Inhabited α] {x y : List α} (hl : x.length = y.length) (h : ∀ i : Int, 0 ≤ i → i < (x.length : Int) → ix x i = ix y i) : x = y := by
  apply List.ext_getElem?
  intro i
  by_cases hi : i < x.length
  · have := h i (by omega) (by omega)
    unfold ix at this
    rw [List.getD_eq_getElem?_getD, List.getD_eq_getElem?_getD] at this
    simp only [Int.toNat_natCast] at this
    rw [List.getElem?_eq_getElem hi, List.getElem?_eq_getElem (by omega)] at this ⊢
    simpa using this
  · rw [List.getElem?_eq_none (by omega), List.getElem?_eq_none (by omega)]
/-- Two rows, thing by thing, from equal lengths on. -/
theorem cmpLoop' {α : Type} [Inhabited α] {x y : List α} (hx : x.length ≤ 9223372036854775807) (hl : x.length = y.length) {stp : Int → (Int → Prop) → Prop} {N Y : Prop}
    (hY : x = y → Y) (hN : x ≠ y → N) (hT : ∀ (i : Int) (J : Int → Prop), 0 ≤ i → (i < (x.length : Int) → ix x i = ix y i → J (IntKind.i64.wrap (i + 1))) → (i < (x.length : Int) → ix x i ≠ ix y i → N) → (¬ i < (x.length : Int) → Y) → stp i J) :
    LOOP stp 0 := by
  refine LOOP.of (fun i => 0 ≤ i ∧ i ≤ (x.length : Int) ∧ ∀ j : Int, 0 ≤ j → j < i → ix x j = ix y j) (fun i => (x.length - i).toNat) ⟨Int.le_refl _, by omega, fun j h1 h2 => by omega⟩ ?_
  rintro i ⟨h1, h2, h3⟩ J hJ
  refine hT i J h1 (fun hi e => ?_) (fun hi e => hN fun h => e (by rw [h])) fun hi => hY (ix_eq hl (fun j j1 j2 => h3 j j1 (by omega)))
  rw [wrap64 (by omega)]
  refine hJ _ ⟨by omega, by omega, fun j j1 j2 => ?_⟩ (by omega)
  by_cases hj : j < i
  · exact h3 j j1 hj
  · rw [show j = i by omega]; exact e
theorem cmpLoop {α : Type} [Inhabited α] {x y : List α} (hx : x.length ≤ 9223372036854775807) (hl : x.length = y.length) {T : Int → (Int → Prop) → Prop} {N Y : Prop}
    (hY : x = y → Y) (hN : x ≠ y → N) (hT : ∀ (i : Int) (J : Int → Prop), 0 ≤ i → i < (x.length : Int) → i < (y.length : Int) → (ix x i = ix y i → J (IntKind.i64.wrap (i + 1))) → (ix x i ≠ ix y i → N) → T i J) :
    LOOP (fun (h : Int) (J : Int → Prop) => bif decide (h < (x.length : Int)) then T h J else Y) 0 :=
  cmpLoop' hx hl hY hN fun i J h1 hJ hn hy => bif_of (fun hi => hT i J h1 (of_decide_eq_true hi) (by have := of_decide_eq_true hi; omega) (hJ (of_decide_eq_true hi)) (hn (of_decide_eq_true hi))) (fun hi => hy (of_decide_eq_false hi))
theorem cmpLen {α : Type} {x y : List α} {N : Prop} {L : Prop} (hN : x ≠ y → N) (hL : x.length = y.length → L) : bif !decide ((x.length : Int) = (y.length : Int)) then N else L := by
  refine bif_of (fun h => hN fun e => ?_) (fun h => hL ?_)
  · subst e; simp at h
  · have : (x.length : Int) = y.length := by simpa using h
    omega
theorem run44 : RunC C44 6 44 [4] [30, 30] W44 [] := by
  intro (x : List Int) hx (y : List Int) hy _
  refine of_eq (q44 x y _) ?_
  simp only [List.map_id']
  rfl
theorem ok44 : Ok44 := con_ok (C := C44) kok_nil mx7 (by kernel_rfl) run44
theorem run41 : RunC C41 6 41 [4] [24, 24] W41 [] := by
  intro (x : List Int) hx (y : List Int) hy _
  have hx : x.length ≤ 9223372036854775807 := hx.1.1
  refine of_eq (q41 x y _) ?_
  have hN : x ≠ y → false = S41 x y := fun h => (decide_eq_false h).symm
  refine cmpLen hN fun hl => cmpLoop hx hl (fun h => (decide_eq_true h).symm) hN fun i J h1 h2 h3 hJ hn => ⟨⟨h1, h2⟩, ⟨h1, h3⟩, bif_of (fun e => hn (by simpa using e)) (fun e => hJ (by simpa using e))⟩
theorem ok41 : Ok41 := con_ok (C := C41) kok_nil mx7 (by kernel_rfl) run41
theorem run15 : RunC C15 6 15 [4] [30, 30] W15 [] := by
  intro (x : List Int) hx (y : List Int) hy _
  have hx : x.length ≤ 9223372036854775807 := hx.1.1
  refine of_eq (q15 x y _) ?_
  have hN : x ≠ y → false = S15 x y := fun h => (decide_eq_false h).symm
  refine cmpLen hN fun hl => cmpLoop hx hl (fun h => (decide_eq_true h).symm) hN fun i J h1 h2 h3 hJ hn => ⟨⟨h1, h2⟩, ⟨h1, h3⟩, bif_of (fun e => hn (by simpa using e)) (fun e => hJ (by simpa using e))⟩
theorem ok15 : Ok15 := con_ok (C := C15) kok_nil mx7 (by kernel_rfl) run15
theorem seg_eq {a b : api_Segment} (h1 : a.fSet = b.fSet) (h2 : a.fAS = b.fAS) : a = b := by cases a; cases b; simp_all
theorem ix_mem {α : Type} [Inhabited α] {x : List α} {i : Int} (h1 : 0 ≤ i) (h2 : i < (x.length : Int)) : ix x i ∈ x := by
  unfold ix
  rw [List.getD_eq_getElem?_getD, List.getElem?_eq_getElem (by omega)]
  exact List.getElem_mem _
theorem run40 : RunC C40 6 40 [4] [22, 22] W40 [] := by
  intro (x : List api_Segment) hx (y : List api_Segment) hy _
  have hm : ∀ s ∈ x, s.fAS.length ≤ 9223372036854775807 := fun s hs => (hx.1.2 s hs).1.1
  have hx : x.length ≤ 9223372036854775807 := hx.1.1
  refine of_eq (q40 x y _) ?_
  have hN : x ≠ y → false = S40 x y := fun h => (decide_eq_false h).symm
  refine cmpLen hN fun hl => cmpLoop hx hl (fun h => (decide_eq_true h).symm) hN fun i J h1 h2 h3 hJ hn => ⟨⟨h1, h2⟩, ⟨h1, h3⟩, bif_of (fun e => ?_) (fun e => hn fun h => by rw [h] at e; simp at e)⟩
  have e : (ix x i).fSet = (ix y i).fSet := by simpa using e
  have hN' : (ix x i).fAS ≠ (ix y i).fAS → false = S40 x y := fun h => hn fun h' => h (by rw [h'])
  refine cmpLen hN' fun hl => cmpLoop (hm _ (ix_mem h1 h2)) hl (fun h => hJ (seg_eq e h)) hN' fun i J h1 h2 h3 hJ hn => ⟨⟨h1, h2⟩, ⟨h1, h3⟩, bif_of (fun e => hn (by simpa using e)) (fun e => hJ (by simpa using e))⟩
theorem ok40 : Ok40 := con_ok (C := C40) kok_nil mx7 (by kernel_rfl) run40
theorem run36 : RunC C36 6 36 [4] [22, 22] W36 [] := by
  intro (x : List api_Segment) hx (y : List api_Segment) hy _
  have hm : ∀ s ∈ x, s.fAS.length ≤ 9223372036854775807 := fun s hs => (hx.1.2 s hs).1.1
  have hx : x.length ≤ 9223372036854775807 := hx.1.1
  refine of_eq (q36 x y _) ?_
  have hN : x ≠ y → false = S36 x y := fun h => (decide_eq_false h).symm
  refine cmpLen hN fun hl => cmpLoop hx hl (fun h => (decide_eq_true h).symm) hN fun i J h1 h2 h3 hJ hn => ⟨⟨h1, h2⟩, ⟨h1, h3⟩, fun _ => ⟨h1, h2⟩, fun _ => ⟨h1, h3⟩, bif_of (fun e => hn fun h => by rw [h] at e; simp at e) (fun e => ?_)⟩
  simp only [Bool.or_eq_false_iff, Bool.not_eq_false', decide_eq_true_eq] at e
  have hN' : (ix x i).fAS ≠ (ix y i).fAS → false = S36 x y := fun h => hn fun h' => h (by rw [h'])
  refine cmpLoop' (hm _ (ix_mem h1 h2)) (by omega) (fun h => hJ (seg_eq e.1 h)) hN' fun j J h1' hJ hn hy => ⟨⟨h1, h2⟩, bif_of (fun hi => ?_) (fun hi => hy (of_decide_eq_false hi))⟩
  have hi := of_decide_eq_true hi
  exact ⟨⟨h1, h2⟩, ⟨h1', hi⟩, ⟨h1, h3⟩, ⟨h1', by omega⟩, bif_of (fun e => hn hi (by simpa using e)) (fun e => hJ hi (by simpa using e))⟩
theorem ok36 : Ok36 := con_ok (C := C36) kok_nil mx7 (by kernel_rfl) run36
end Go.Rx
namespace Go.Rx
open Go.Ab Go.L7
set_option maxRecDepth 100000
set_option maxHeartbeats 20000000
set_option linter.unusedVariables false
/-- interregnum/interregnumref05.SameAttrs -/
noncomputable def C18 : Cfg S := { P := P7, inl := [], K := [(15, ctr P7 [30, 30] [4] (fun x0 x1 => (none, S15 x0 x1))), (36, ctr P7 [22, 22] [4] (fun x0 x1 => (none, S36 x0 x1)))], ann := [(18, [(9, .loop [(.sl 6, .int .i64)]), (4, .loop [(.sl 5, .int .i64)])])] }
abbrev W18 : CT S [4] [27, 27] := (fun x0 x1 => (none, S18 x0 x1))
abbrev Ok18 : Prop := ConOk P7 18 (ctr P7 [27, 27] [4] W18) ∧ ConMon (ctr P7 [27, 27] [4] W18)
theorem q18 (x0 : api_Attrs) (x1 : api_Attrs) (v : HR S [4]) : (Xf C18 6 (emp 0) 18 (argsA C18 [⟨27, x0⟩, ⟨27, x1⟩]) (emp 0) (fun r _ => isR C18.P [4] v r)
 (fun _ _ => False)) = (bif !decide (x0.fOrigin = x1.fOrigin) then false = v else bif !S36 x0.fPath x1.fPath || !decide (x0.fNext = x1.fNext) || !decide
 (x0.fMed = x1.fMed) || !decide (x0.fPref = x1.fPref) || !decide ((↑x0.fComms.length : Int) = (↑x1.fComms.length : Int)) || !decide ((↑x0.fRaws.length : Int) =
 (↑x1.fRaws.length : Int)) then false = v else LOOP (fun (h : Int) (J : Int → Prop) => bif decide (h < (↑x0.fComms.length : Int)) then ((0 : Int) ≤ h ∧ h <
 (↑x0.fComms.length : Int)) ∧ ((0 : Int) ≤ h ∧ h < (↑x1.fComms.length : Int)) ∧ bif !decide (ix x0.fComms h = ix x1.fComms h) then false = v else J
 (IntKind.i64.wrap (h + (1 : Int))) else LOOP (fun (h : Int) (J : Int → Prop) => bif decide (h < (↑x0.fRaws.length : Int)) then ((0 : Int) ≤ h ∧ h <
 (↑x0.fRaws.length : Int)) ∧ ((0 : Int) ≤ h ∧ h < (↑x1.fRaws.length : Int)) ∧ ((!decide ((ix x0.fRaws h).fFlags = (ix x1.fRaws h).fFlags)) = false → (0 : Int)
 ≤ h ∧ h < (↑x0.fRaws.length : Int)) ∧ ((!decide ((ix x0.fRaws h).fFlags = (ix x1.fRaws h).fFlags)) = false → (0 : Int) ≤ h ∧ h < (↑x1.fRaws.length : Int)) ∧
 ((!decide ((ix x0.fRaws h).fFlags = (ix x1.fRaws h).fFlags) || !decide ((ix x0.fRaws h).fType = (ix x1.fRaws h).fType)) = false → (0 : Int) ≤ h ∧ h <
 (↑x0.fRaws.length : Int)) ∧ ((!decide ((ix x0.fRaws h).fFlags = (ix x1.fRaws h).fFlags) || !decide ((ix x0.fRaws h).fType = (ix x1.fRaws h).fType)) = false →
 (0 : Int) ≤ h ∧ h < (↑x1.fRaws.length : Int)) ∧ bif !decide ((ix x0.fRaws h).fFlags = (ix x1.fRaws h).fFlags) || !decide ((ix x0.fRaws h).fType = (ix x1.fRaws
 h).fType) then false = v else bif !S15 (ix x0.fRaws h).fData (ix x1.fRaws h).fData then false = v else J (IntKind.i64.wrap (h + (1 : Int))) else true = v) (0
 : Int)) (0 : Int)) := by kernel_rfl
end Go.Rx
namespace Go.Rx
open Go.Ab Go.L7
set_option maxRecDepth 100000
set_option maxHeartbeats 20000000
set_option linter.unusedVariables false
/-- interregnum/attr.Same -/
noncomputable def C21 : Cfg S := { P := P7, inl := [], K := [(44, ctr P7 [30, 30] [4] (fun x0 x1 => (none, S44 x0 x1))), (41, ctr P7 [24, 24] [4] (fun x0 x1 => (none, S41 x0 x1))), (40, ctr P7 [22, 22] [4] (fun x0 x1 => (none, S40 x0 x1)))], ann := [(42, [(4, .loop [(.sl 17, .int .i64)])])] }
abbrev W21 : CT S [4] [27, 27] := (fun x0 x1 => (none, S21 x0 x1))
abbrev Ok21 : Prop := ConOk P7 21 (ctr P7 [27, 27] [4] W21) ∧ ConMon (ctr P7 [27, 27] [4] W21)
theorem q21 (x0 : api_Attrs) (x1 : api_Attrs) (v : HR S [4]) : (Xf C21 6 (emp 0) 21 (argsA C21 [⟨27, x0⟩, ⟨27, x1⟩]) (emp 0) (fun r _ => isR C21.P [4] v r)
 (fun _ _ => False)) = (bif !decide (x0.fOrigin = x1.fOrigin) || !decide (x0.fNext = x1.fNext) || !decide (x0.fMed = x1.fMed) || !decide (x0.fPref = x1.fPref)
 then false = v else bif !S40 x0.fPath x1.fPath then false = v else bif !S41 x0.fComms x1.fComms then false = v else bif !decide ((↑x0.fRaws.length : Int) =
 (↑x1.fRaws.length : Int)) then false = v else LOOP (fun (h : Int) (J : Int → Prop) => bif decide (h < (↑x0.fRaws.length : Int)) then ((0 : Int) ≤ h ∧ h <
 (↑x0.fRaws.length : Int)) ∧ ((0 : Int) ≤ h ∧ h < (↑x1.fRaws.length : Int)) ∧ bif decide ((ix x0.fRaws h).fFlags = (ix x1.fRaws h).fFlags) && decide ((ix
 x0.fRaws h).fType = (ix x1.fRaws h).fType) then bif !S44 (ix x0.fRaws h).fData (ix x1.fRaws h).fData then false = v else J (IntKind.i64.wrap (h + (1 : Int)))
 else false = v else true = v) (0 : Int)) := by kernel_rfl
end Go.Rx
namespace Go.Rx
open Go.Ab Go.L7
set_option maxRecDepth 100000
set_option maxHeartbeats 20000000
set_option linter.unusedVariables false
/-- interregnum/interregnumlaw07.small -/
noncomputable def C10 : Cfg S := { P := P7, inl := [], K := [], ann := [(10, [(7, .loop [(.sl 3, .int .i64), (.sl 5, .int .i64)]), (3, .loop [(.sl 3, .int .i64), (.sl 4, .int .i64)])])] }
abbrev W10 : CT S [4] [27] := (fun x0 => (none, S10 x0))
abbrev Ok10 : Prop := ConOk P7 10 (ctr P7 [27] [4] W10) ∧ ConMon (ctr P7 [27] [4] W10)
theorem q10 (x0 : api_Attrs) (v : HR S [4]) : (Xf C10 6 (emp 0) 10 (argsA C10 [⟨27, x0⟩]) (emp 0) (fun r _ => isR C10.P [4] v r) (fun _ _ => False)) = (LOOP
 (fun (h : Int × Int) (J : Int × Int → Prop) => bif decide (h.snd < (↑x0.fPath.length : Int)) && decide (h.fst < (3000 : Int)) then ((0 : Int) ≤ h.snd ∧ h.snd
 < (↑x0.fPath.length : Int)) ∧ J (IntKind.i64.wrap (h.fst + (↑(ix x0.fPath h.snd).fAS.length : Int)), IntKind.i64.wrap (h.snd + (1 : Int))) else LOOP (fun (h :
 Int × Int) (J : Int × Int → Prop) => bif decide (h.snd < (↑x0.fRaws.length : Int)) && decide (h.fst < (3000 : Int)) then ((0 : Int) ≤ h.snd ∧ h.snd <
 (↑x0.fRaws.length : Int)) ∧ J (IntKind.i64.wrap (h.fst + (↑(ix x0.fRaws h.snd).fData.length : Int)), IntKind.i64.wrap (h.snd + (1 : Int))) else decide (h.fst
 < (3000 : Int)) = v) (h.fst, (0 : Int))) (IntKind.i64.wrap (IntKind.i64.wrap ((↑x0.fPath.length : Int) + (↑x0.fComms.length : Int)) + (↑x0.fRaws.length :
 Int)), (0 : Int))) := by kernel_rfl
end Go.Rx
namespace Go.Rx
open Go.Ab Go.L7
set_option maxRecDepth 100000
set_option maxHeartbeats 20000000
set_option linter.unusedVariables false
/-- interregnum/attr.Hop -/
noncomputable def C27 : Cfg S := { P := P7, inl := [], K := [], ann := [] }
abbrev W27 : CT S [4] [23] := (fun x0 => (none, S27 x0))
abbrev Ok27 : Prop := ConOk P7 27 (ctr P7 [23] [4] W27) ∧ ConMon (ctr P7 [23] [4] W27)
theorem q27 (x0 : Int) (v : HR S [4]) : (Xf C27 6 (emp 0) 27 (argsA C27 [⟨23, x0⟩]) (emp 0) (fun r _ => isR C27.P [4] v r) (fun _ _ => False)) = ((!decide (x0
 = (0 : Int)) && !decide (x0.fdiv ((2 : Int) ^ nat_lit 24) = (127 : Int)) && decide (x0.fdiv ((2 : Int) ^ nat_lit 24) < (224 : Int))) = v) := by kernel_rfl
end Go.Rx
namespace Go.Rx
open Go.Ab Go.L7
set_option maxRecDepth 100000
set_option maxHeartbeats 20000000
set_option linter.unusedVariables false
/-- bytes.Clone -/
noncomputable def C62 : Cfg S := { P := P7, inl := [], K := [], ann := [] }
abbrev W62 : CT S [30] [30] := (fun x0 => (some (P62 x0), S62 x0))
abbrev Ok62 : Prop := ConOk P7 62 (ctr P7 [30] [30] W62) ∧ ConMon (ctr P7 [30] [30] W62)
theorem q62 (x0 : List Int) (v : HR S [30]) : (Xf C62 6 (emp 0) 62 (argsA C62 [⟨30, x0⟩]) (emp 0) (fun r _ => isR C62.P [30] v r) (fun _ _ => False)) = (∀ (v_1
 : Bool), (x0 ≠ [] → v_1 = false) → bif v_1 then [] = v else (nat_lit 0 = nat_lit 0 ∧ (nat_lit 0 + x0.length) * nat_lit 1 ≤ nat_lit 140737488355328) ∧ ∀ (y :
 List (S.A (5 : Nat))), y = [] ++ x0 → y = v) := by kernel_rfl
end Go.Rx
namespace Go.Rx
open Go.Ab Go.L7
set_option maxRecDepth 100000
set_option maxHeartbeats 20000000
set_option linter.unusedVariables false
/-- interregnum/attr.raw -/
noncomputable def C28 : Cfg S := { P := P7, inl := [], K := [], ann := [] }
abbrev W28 : CT S [4] [45] := (fun x0 => (none, S28 x0))
abbrev Ok28 : Prop := ConOk P7 28 (ctr P7 [45] [4] W28) ∧ ConMon (ctr P7 [45] [4] W28)
theorem q28 (x0 : api_Raw) (v : HR S [4]) : (Xf C28 6 (emp 0) 28 (argsA C28 [⟨45, x0⟩]) (emp 0) (fun r _ => isR C28.P [4] v r) (fun _ _ => False)) = (bif
 decide (x0.fType = (6 : Int)) then (decide (x0.fFlags = (64 : Int)) && decide ((↑x0.fData.length : Int) = (0 : Int))) = v else bif decide (x0.fType = (7 :
 Int)) then (decide (x0.fFlags = (192 : Int)) && decide ((↑x0.fData.length : Int) = (8 : Int))) = v else (decide ((8 : Int) < x0.fType) && decide (x0.fType ≤
 (255 : Int)) && decide (x0.fFlags = (224 : Int)) && decide ((↑x0.fData.length : Int) ≤ (255 : Int))) = v) := by kernel_rfl
end Go.Rx
namespace Go.Rx
open Go.Ab Go.L7
set_option maxRecDepth 100000
set_option maxHeartbeats 20000000
set_option linter.unusedVariables false
/-- interregnum/attr.number -/
noncomputable def C25 : Cfg S := { P := P7, inl := [], K := [], ann := [] }
abbrev W25 : CT S [30] [3] := (fun x0 => (none, S25 x0))
abbrev Ok25 : Prop := ConOk P7 25 (ctr P7 [3] [30] W25) ∧ ConMon (ctr P7 [3] [30] W25)
theorem q25 (x0 : Int) (v : HR S [30]) : (Xf C25 6 (emp 0) 25 (argsA C25 [⟨3, x0⟩]) (emp 0) (fun r _ => isR C25.P [30] v r) (fun _ _ => False)) =
 ([IntKind.u8.wrap ((IntKind.u32.wrap x0).fdiv ((2 : Int) ^ nat_lit 24)), IntKind.u8.wrap ((IntKind.u32.wrap x0).fdiv ((2 : Int) ^ nat_lit 16)),
 IntKind.u8.wrap ((IntKind.u32.wrap x0).fdiv ((2 : Int) ^ nat_lit 8)), IntKind.u8.wrap (IntKind.u32.wrap x0)].length * nat_lit 1 ≤ nat_lit 140737488355328 ∧ ∀
 (y : List (S.A (5 : Nat))), y = [IntKind.u8.wrap ((IntKind.u32.wrap x0).fdiv ((2 : Int) ^ nat_lit 24)), IntKind.u8.wrap ((IntKind.u32.wrap x0).fdiv ((2 : Int)
 ^ nat_lit 16)), IntKind.u8.wrap ((IntKind.u32.wrap x0).fdiv ((2 : Int) ^ nat_lit 8)), IntKind.u8.wrap (IntKind.u32.wrap x0)] → y = v) := by kernel_rfl
end Go.Rx
namespace Go.Rx
open Go.Ab Go.L7
set_option maxRecDepth 100000
set_option maxHeartbeats 20000000
set_option linter.unusedVariables false
/-- interregnum/path.Good -/
noncomputable def C26 : Cfg S := { P := P7, inl := [], K := [], ann := [(26, [(3, .loop [(.sl 3, .int .i64), (.sl 9, .int .i64)])]), (59, [(2, .loop [(.sl 8, .int .i64)])])] }
abbrev W26 : CT S [4] [22] := (fun x0 => (none, S26 x0))
abbrev Ok26 : Prop := ConOk P7 26 (ctr P7 [22] [4] W26) ∧ ConMon (ctr P7 [22] [4] W26)
theorem q26 (x0 : List api_Segment) (v : HR S [4]) : (Xf C26 6 (emp 0) 26 (argsA C26 [⟨22, x0⟩]) (emp 0) (fun r _ => isR C26.P [4] v r) (fun _ _ => False)) =
 (LOOP (fun (h : Int × Int) (J : Int × Int → Prop) => bif decide (h.snd < (↑x0.length : Int)) then ((0 : Int) ≤ h.snd ∧ h.snd < (↑x0.length : Int)) ∧ bif
 decide ((↑(ix x0 h.snd).fAS.length : Int) < (1 : Int)) || decide ((255 : Int) < (↑(ix x0 h.snd).fAS.length : Int)) then false = v else LOOP (fun (h_1 : Int)
 (J_1 : Int → Prop) => bif decide (h_1 < (↑(ix x0 h.snd).fAS.length : Int)) then ((0 : Int) ≤ h_1 ∧ h_1 < (↑(ix x0 h.snd).fAS.length : Int)) ∧ bif !(decide ((1
 : Int) ≤ ix (ix x0 h.snd).fAS h_1) && decide (ix (ix x0 h.snd).fAS h_1 ≤ (4294967295 : Int))) then bif decide ((0 : Int) ≤ h_1) then false = v else J
 (IntKind.i64.wrap (h.fst + (↑(ix x0 h.snd).fAS.length : Int)), IntKind.i64.wrap (h.snd + (1 : Int))) else J_1 (IntKind.i64.wrap (h_1 + (1 : Int))) else J
 (IntKind.i64.wrap (h.fst + (↑(ix x0 h.snd).fAS.length : Int)), IntKind.i64.wrap (h.snd + (1 : Int)))) (0 : Int) else decide (h.fst ≤ (64 : Int)) = v) ((0 :
 Int), (0 : Int))) := by kernel_rfl
end Go.Rx
namespace Go.Rx
open Go.Ab Go.L7
set_option maxRecDepth 100000
set_option maxHeartbeats 20000000
set_option linter.unusedVariables false
/-- interregnum/attr.Good -/
noncomputable def C13 : Cfg S := { P := P7, inl := [], K := [(27, ctr P7 [23] [4] (fun x0 => (none, S27 x0))), (26, ctr P7 [22] [4] (fun x0 => (none, S26 x0))), (28, ctr P7 [45] [4] (fun x0 => (none, S28 x0)))], ann := [(13, [(4, .loop [(.sl 34, .int .i64)])])] }
abbrev W13 : CT S [4] [27] := (fun x0 => (none, S13 x0))
abbrev Ok13 : Prop := ConOk P7 13 (ctr P7 [27] [4] W13) ∧ ConMon (ctr P7 [27] [4] W13)
theorem q13 (x0 : api_Attrs) (v : HR S [4]) : (Xf C13 6 (emp 0) 13 (argsA C13 [⟨27, x0⟩]) (emp 0) (fun r _ => isR C13.P [4] v r) (fun _ _ => False)) = (bif
 decide (x0.fOrigin < (0 : Int)) || decide ((2 : Int) < x0.fOrigin) then false = v else bif !S26 x0.fPath then false = v else bif !S27 x0.fNext || decide ((32
 : Int) < (↑x0.fComms.length : Int)) then false = v else LOOP (fun (h : Int) (J : Int → Prop) => bif decide (h < (↑x0.fRaws.length : Int)) then ((0 : Int) ≤ h
 ∧ h < (↑x0.fRaws.length : Int)) ∧ ((!S28 (ix x0.fRaws h)) = false → decide ((0 : Int) < h) = true → (0 : Int) ≤ IntKind.i64.wrap (h - (1 : Int)) ∧
 IntKind.i64.wrap (h - (1 : Int)) < (↑x0.fRaws.length : Int)) ∧ bif !S28 (ix x0.fRaws h) || decide ((0 : Int) < h) && decide ((ix x0.fRaws h).fType ≤ (ix
 x0.fRaws (IntKind.i64.wrap (h - (1 : Int)))).fType) then false = v else J (IntKind.i64.wrap (h + (1 : Int))) else (decide ((-1 : Int) ≤ x0.fMed) && decide
 (x0.fMed ≤ (4294967295 : Int)) && decide ((-1 : Int) ≤ x0.fPref) && decide (x0.fPref ≤ (4294967295 : Int))) = v) (0 : Int)) := by kernel_rfl
end Go.Rx
namespace Go.Rx
open Go.Ab Go.L7
set_option maxRecDepth 100000
set_option maxHeartbeats 20000000
set_option linter.unusedVariables false
/-- interregnum/region.Get -/
noncomputable def C66 : Cfg S := { P := P7, inl := [], K := [], ann := [(66, [(3, .loop [(.sl 3, .int .u32), (.sl 12, .int .i64)])])] }
abbrev W66 : CT S [23] [30] := (fun x0 => (none, S66 x0))
abbrev Ok66 : Prop := ConOk P7 66 (ctr P7 [30] [23] W66) ∧ ConMon (ctr P7 [30] [23] W66)
theorem q66 (x0 : List Int) (v : HR S [23]) : (Xf C66 6 (emp 0) 66 (argsA C66 [⟨30, x0⟩]) (emp 0) (fun r _ => isR C66.P [23] v r) (fun _ _ => False)) = (((0 :
 Int) ≤ (0 : Int) ∧ ((0 : Int) ≤ bif decide ((4 : Int) < (↑x0.length : Int)) then (4 : Int) else (↑x0.length : Int)) ∧ (bif decide ((4 : Int) < (↑x0.length :
 Int)) then (4 : Int) else (↑x0.length : Int)) ≤ (↑x0.length : Int)) ∧ LOOP (fun (h : Int × Int) (J : Int × Int → Prop) => bif decide (h.snd < (↑(sub x0 (0 :
 Int) (bif decide ((4 : Int) < (↑x0.length : Int)) then (4 : Int) else (↑x0.length : Int))).length : Int)) then ((0 : Int) ≤ h.snd ∧ h.snd < (↑(sub x0 (0 :
 Int) (bif decide ((4 : Int) < (↑x0.length : Int)) then (4 : Int) else (↑x0.length : Int))).length : Int)) ∧ J (ior IntKind.u32 (IntKind.u32.wrap (h.fst * (2 :
 Int) ^ nat_lit 8)) (IntKind.u32.wrap (ix (sub x0 (0 : Int) (bif decide ((4 : Int) < (↑x0.length : Int)) then (4 : Int) else (↑x0.length : Int))) h.snd)),
 IntKind.i64.wrap (h.snd + (1 : Int))) else h.fst = v) ((0 : Int), (0 : Int))) := by kernel_rfl
end Go.Rx
/-! Small functions. -/
namespace Go.Rx
open Go.Ab Go.L7
set_option linter.unusedVariables false
set_option maxRecDepth 100000
theorem kk1 {P : Program} {f : Nat} {W : Con S.A} (h : ConOk P f W ∧ ConMon W) : KOk P [(f, W)] := kok_cons h kok_nil
/-- A loop over a row by its index. -/
theorem listLoop {α σ ι : Type} [Inhabited α] {l : List α} (hl : l.length ≤ 9223372036854775807) (mk : σ → Int → ι) (idx : ι → Int) (hidx : ∀ s i, idx (mk s i) = i) (Inv : Int → List α → σ → Prop) {s0 : σ} {stp : ι → (ι → Prop) → Prop} (h0 : Inv 0 l s0)
    (hstep : ∀ (s : σ) (i : Int) (x : α) (r : List α) (J : ι → Prop), 0 ≤ i → i < (l.length : Int) → ix l i = x → x ∈ l → l.drop i.toNat = x :: r → Inv i (x :: r) s → (∀ s', Inv (i + 1) r s' → J (mk s' (IntKind.i64.wrap (i + 1)))) → stp (mk s i) J)
    (hend : ∀ (s : σ) (i : Int) (J : ι → Prop), i = (l.length : Int) → Inv i [] s → stp (mk s i) J) : LOOP stp (mk s0 0) := by
  refine LOOP.of (fun y => ∃ s i, y = mk s i ∧ 0 ≤ i ∧ i ≤ (l.length : Int) ∧ Inv i (l.drop i.toNat) s) (fun y => (l.length - idx y).toNat) ⟨s0, 0, rfl, Int.le_refl _, by omega, h0⟩ ?_
  rintro _ ⟨s, i, rfl, h1, h2, h3⟩ J hJ
  by_cases hi : i < (l.length : Int)
  · have hlt : i.toNat < l.length := by omega
    have hd : l.drop i.toNat = l[i.toNat] :: l.drop (i.toNat + 1) := List.drop_eq_getElem_cons hlt
    have hx : ix l i = l[i.toNat] := by
      unfold ix
      rw [List.getD_eq_getElem?_getD, List.getElem?_eq_getElem hlt]; rfl
    refine hstep s i _ _ J h1 hi hx (List.getElem_mem _) hd (hd ▸ h3) fun s' hs' => hJ _ ⟨s', i + 1, by rw [wrap64 (by omega)], by omega, by omega, ?_⟩ ?_
    · rw [show (i + 1).toNat = i.toNat + 1 by omega]; exact hs'
    · rw [hidx, hidx, wrap64 (by omega)]; omega
  · have : l.drop i.toNat = [] := List.drop_eq_nil_of_le (by omega)
    rw [this] at h3
    exact hend s i J (by omega) h3
theorem run18 : RunC C18 6 18 [4] [27, 27] W18 [] := by
  intro (x : api_Attrs) hx (y : api_Attrs) hy _
  have hc : x.fComms.length ≤ 9223372036854775807 := hx.2.1.1
  have hr : x.fRaws.length ≤ 9223372036854775807 := hx.2.2.1.1
  refine of_eq (q18 x y _) ?_
  have hN : x ≠ y → false = S18 x y := fun h => (decide_eq_false h).symm
  have hne : ∀ {P : Prop}, (x = y → P) → ¬ P → x ≠ y := fun h hp e => hp (h e)
  refine bif_of (fun h => hN fun e => ?_) (fun h1 => bif_of (fun h => hN fun e => ?_) fun h2 => ?_)
  · subst e; simp at h
  · subst e; simp [S36] at h
  · simp only [Bool.or_eq_false_iff, Bool.not_eq_false', decide_eq_true_eq, S36] at h1 h2
    obtain ⟨⟨⟨⟨⟨e1, e2⟩, e3⟩, e4⟩, e5⟩, e6⟩ := h2
    have hN1 : x.fComms ≠ y.fComms → false = S18 x y := fun h => hN fun e => h (by rw [e])
    have hN2 : x.fRaws ≠ y.fRaws → false = S18 x y := fun h => hN fun e => h (by rw [e])
    refine cmpLoop hc (by omega) (fun h => ?_) hN1 fun i J h1 h2 h3 hJ hn => ⟨⟨h1, h2⟩, ⟨h1, h3⟩, bif_of (fun e => hn (by simpa using e)) (fun e => hJ (by simpa using e))⟩
    refine cmpLoop hr (by omega) (fun h' => ?_) hN2 fun i J k1 k2 k3 hJ hn => ⟨⟨k1, k2⟩, ⟨k1, k3⟩, fun _ => ⟨k1, k2⟩, fun _ => ⟨k1, k3⟩, fun _ => ⟨k1, k2⟩, fun _ => ⟨k1, k3⟩, bif_of (fun e => hn fun h => by rw [h] at e; simp at e) (fun e => bif_of (fun e2 => hn fun h => by rw [h] at e2; simp [S15] at e2) (fun e2 => hJ ?_))⟩
    · refine (decide_eq_true ?_).symm
      cases x; cases y; simp_all
    · simp only [Bool.or_eq_false_iff, Bool.not_eq_false', decide_eq_true_eq, S15] at e e2
      revert e e2
      generalize ix x.fRaws i = r
      generalize ix y.fRaws i = s
      intro e e2
      cases r; cases s; simp_all
theorem ok18 : Ok18 := con_ok (C := C18) (kok_cons ok15 (kk1 ok36)) mx7 (by kernel_rfl) run18
theorem rawsEq_len : ∀ {x y : List api_Raw}, rawsEq x y = true → x.length = y.length
  | [], [], _ => rfl
  | _ :: x, _ :: y, h => by simp only [rawsEq, Bool.and_eq_true] at h; simp [rawsEq_len h.2]
  | [], _ :: _, h => by cases h
  | _ :: _, [], h => by cases h
theorem run21 : RunC C21 6 21 [4] [27, 27] W21 [] := by
  intro (x : api_Attrs) hx (y : api_Attrs) hy _
  have hr : x.fRaws.length ≤ 9223372036854775807 := hx.2.2.1.1
  refine of_eq (q21 x y (S21 x y)) ?_
  refine bif_of (fun h => ?_) (fun h1 => bif_of (fun h => ?_) fun h2 => bif_of (fun h => ?_) fun h3 => bif_of (fun h => ?_) fun h4 => ?_)
  · simp only [Bool.or_eq_true, Bool.not_eq_true', decide_eq_false_iff_not] at h
    rcases h with ((h | h) | h) | h <;> simp [S21, h]
  · simp [S21] at h ⊢; simp [h]
  · simp [S21] at h ⊢; simp [h]
  · have : rawsEq x.fRaws y.fRaws = false := by
      cases hq : rawsEq x.fRaws y.fRaws with
      | false => rfl
      | true => have := rawsEq_len hq; rw [this] at h; simp at h
    simp [S21, this]
  · have hv : S21 x y = rawsEq x.fRaws y.fRaws := by
      simp only [Bool.or_eq_false_iff, Bool.not_eq_false', decide_eq_true_eq] at h1 h2 h3
      simp [S21, h1, h2, h3]
    have hl : x.fRaws.length = y.fRaws.length := by
      have : (x.fRaws.length : Int) = y.fRaws.length := by simpa using h4
      omega
    rw [show (S21 x y) = rawsEq x.fRaws y.fRaws from hv]
    refine listLoop (l := x.fRaws) hr (fun (_ : Unit) i => i) id (fun _ _ => rfl) (fun i r _ => rawsEq x.fRaws y.fRaws = rawsEq r (y.fRaws.drop i.toNat)) (s0 := ()) rfl ?_ ?_
    · rintro _ i a r J k1 k2 k3 k4 k5 k6 hJ
      have hlt : i.toNat < y.fRaws.length := by omega
      rw [List.drop_eq_getElem_cons hlt] at k6
      have hy : ix y.fRaws i = y.fRaws[i.toNat] := by
        unfold ix
        rw [List.getD_eq_getElem?_getD, List.getElem?_eq_getElem hlt]; rfl
      simp only [rawsEq] at k6
      refine bif_of (fun _ => ⟨⟨k1, k2⟩, ⟨k1, by omega⟩, ?_⟩) (fun h => absurd k2 (of_decide_eq_false h))
      rw [k3, hy]
      refine bif_of (fun e => bif_of (fun e2 => ?_) (fun e2 => ?_)) (fun e => ?_)
      · rw [k6]; simp only [Bool.not_eq_true'] at e2; simp [rawEq, e2]
      · refine hJ () ?_
        rw [k6, show (i + 1).toNat = i.toNat + 1 by omega]
        simp only [Bool.not_eq_false', Bool.and_eq_true, decide_eq_true_eq] at e e2
        simp [rawEq, e, e2]
      · rw [k6]
        simp only [Bool.and_eq_false_iff, decide_eq_false_iff_not] at e
        rcases e with e | e <;> simp [rawEq, e]
    · rintro _ i J rfl h
      refine bif_of (fun h => absurd (of_decide_eq_true h) (by omega)) (fun _ => ?_)
      have : y.fRaws.drop ((x.fRaws.length : Int)).toNat = [] := List.drop_eq_nil_of_le (by omega)
      rw [this] at h
      rw [h]; rfl
theorem ok21 : Ok21 := con_ok (C := C21) (kok_cons ok44 (kok_cons ok41 (kk1 ok40))) mx7 (by kernel_rfl) run21
theorem run27 : RunC C27 6 27 [4] [23] W27 [] := by
  intro (x : Int) hx _
  exact of_eq (q27 x _) rfl
theorem ok27 : Ok27 := con_ok (C := C27) kok_nil mx7 (by kernel_rfl) run27
theorem run62 : RunC C62 6 62 [30] [30] W62 [] := by
  intro (x : List Int) hx hp
  have hp : x.length ≤ 140737488355328 := hp _ rfl
  refine of_eq (q62 x _) ?_
  intro v hv
  refine bif_of (fun h => ?_) (fun h => ⟨⟨rfl, by show (0 + x.length) * 1 ≤ 140737488355328; omega⟩, fun y hy => hy⟩)
  by_cases hx : x = []
  · rw [hx]; rfl
  · rw [hv hx] at h; cases h
theorem ok62 : Ok62 := con_ok (C := C62) kok_nil mx7 (by kernel_rfl) run62
theorem run28 : RunC C28 6 28 [4] [45] W28 [] := by
  intro (x : api_Raw) hx _
  refine of_eq (q28 x _) ?_
  refine bif_of (fun h => ?_) (fun h => bif_of (fun h2 => ?_) (fun h2 => ?_))
  · have h := of_decide_eq_true h; simp [S28, h]
  · have h := of_decide_eq_false h; have h2 := of_decide_eq_true h2; simp [S28, h2]
  · have h := of_decide_eq_false h; have h2 := of_decide_eq_false h2; simp [S28, h, h2]
theorem ok28 : Ok28 := con_ok (C := C28) kok_nil mx7 (by kernel_rfl) run28
theorem run25 : RunC C25 6 25 [30] [3] W25 [] := by
  intro (x : Int) hx _
  refine of_eq (q25 x _) ⟨by simp, fun y hy => hy⟩
theorem ok25 : Ok25 := con_ok (C := C25) kok_nil mx7 (by kernel_rfl) run25
theorem smallP_big (l : List api_Segment) {n : Int} (h : ¬ n < 3000) : smallP l n = n := by cases l <;> simp [smallP, h]
theorem smallR_big (l : List api_Raw) {n : Int} (h : ¬ n < 3000) : smallR l n = n := by cases l <;> simp [smallR, h]
theorem run10 : RunC C10 6 10 [4] [27] W10 [] := by
  intro (x : api_Attrs) hx _
  have hp : x.fPath.length ≤ 9223372036854775807 := hx.1.1
  have hr : x.fRaws.length ≤ 9223372036854775807 := hx.2.2.1.1
  refine of_eq (q10 x (S10 x)) ?_
  generalize hv : S10 x = v
  unfold S10 at hv
  have two : ∀ n : Int, decide (smallR x.fRaws n < 3000) = v → LOOP (fun (h : Int × Int) (J : Int × Int → Prop) => bif decide (h.snd < (x.fRaws.length : Int)) && decide (h.fst < 3000) then (0 ≤ h.snd ∧ h.snd < (x.fRaws.length : Int)) ∧ J (IntKind.i64.wrap (h.fst + ((ix x.fRaws h.snd).fData.length : Int)), IntKind.i64.wrap (h.snd + 1)) else decide (h.fst < 3000) = v) (n, 0) := by
    intro n hn
    refine listLoop (l := x.fRaws) hr (fun (n : Int) i => (n, i)) (fun y => y.2) (fun _ _ => rfl) (fun i r n => decide (smallR r n < 3000) = v) hn ?_ ?_
    · rintro n i s r J k1 k2 k3 k4 k5 k6 hJ
      refine bif_of (fun h => ⟨⟨k1, k2⟩, ?_⟩) (fun h => ?_)
      · simp only [Bool.and_eq_true, decide_eq_true_eq] at h
        have : smallR (s :: r) n = smallR r (w64 (n + s.fData.length)) := by simp [smallR, h.2]
        rw [this] at k6
        simp only [k3]
        exact hJ _ k6
      · have h : ¬ n < 3000 := by simp only [Bool.and_eq_false_iff, decide_eq_false_iff_not] at h; omega
        rw [smallR_big _ h] at k6
        exact k6
    · rintro n i J rfl h
      refine bif_of (fun h => ?_) (fun _ => h)
      simp only [Bool.and_eq_true, decide_eq_true_eq] at h
      omega
  refine listLoop (l := x.fPath) hp (fun (n : Int) i => (n, i)) (fun y => y.2) (fun _ _ => rfl) (fun i r n => decide (smallR x.fRaws (smallP r n) < 3000) = v) (s0 := w64 (w64 (x.fPath.length + x.fComms.length) + x.fRaws.length)) hv ?_ ?_
  · rintro n i s r J k1 k2 k3 k4 k5 k6 hJ
    refine bif_of (fun h => ⟨⟨k1, k2⟩, ?_⟩) (fun h => ?_)
    · simp only [Bool.and_eq_true, decide_eq_true_eq] at h
      have : smallP (s :: r) n = smallP r (w64 (n + s.fAS.length)) := by simp [smallP, h.2]
      rw [this] at k6
      simp only [k3]
      exact hJ _ k6
    · have h : ¬ n < 3000 := by simp only [Bool.and_eq_false_iff, decide_eq_false_iff_not] at h; omega
      rw [smallP_big _ h] at k6
      exact two n k6
  · rintro n i J rfl h
    refine bif_of (fun h => ?_) (fun _ => two n h)
    simp only [Bool.and_eq_true, decide_eq_true_eq] at h
    omega
theorem ok10 : Ok10 := con_ok (C := C10) kok_nil mx7 (by kernel_rfl) run10
theorem run26 : RunC C26 6 26 [4] [22] W26 [] := by
  intro (x : List api_Segment) hx _
  have hp : x.length ≤ 9223372036854775807 := hx.1.1
  refine of_eq (q26 x (S26 x)) ?_
  generalize hv : S26 x = v
  unfold S26 at hv
  refine listLoop (l := x) hp (fun (n : Int) i => (n, i)) (fun y => y.2) (fun _ _ => rfl) (fun i r n => goodP r n = v) hv ?_ ?_
  · rintro n i s r J k1 k2 k3 k4 k5 k6 hJ
    refine bif_of (fun _ => ⟨⟨k1, k2⟩, ?_⟩) (fun h => absurd k2 (of_decide_eq_false h))
    simp only [k3]
    simp only [goodP] at k6
    refine bif_of (fun h => ?_) (fun h => ?_)
    · rw [if_pos (by simp only [Bool.or_eq_true, decide_eq_true_eq] at h; omega)] at k6
      exact k6
    · rw [if_neg (by simp only [Bool.or_eq_false_iff, decide_eq_false_iff_not] at h; omega)] at k6
      have hs : s.fAS.length ≤ 9223372036854775807 := by simp only [Bool.or_eq_false_iff, decide_eq_false_iff_not] at h; omega
      refine listLoop (l := s.fAS) hs (fun (_ : Unit) i => i) id (fun _ _ => rfl) (fun i r' _ => (s.fAS.all asOk = r'.all asOk)) (s0 := ()) rfl ?_ ?_
      · rintro _ j a r' J' j1 j2 j3 j4 j5 j6 hJ'
        refine bif_of (fun _ => ⟨⟨j1, j2⟩, ?_⟩) (fun h => absurd j2 (of_decide_eq_false h))
        simp only [j3]
        refine bif_of (fun h => bif_of (fun _ => ?_) (fun h => absurd j1 (of_decide_eq_false h))) (fun h => hJ' () ?_)
        · have : asOk a = false := by unfold asOk; simp at h ⊢; omega
          rw [j6] at k6
          simp only [List.all_cons, this, Bool.false_and] at k6
          rw [if_neg (by simp)] at k6
          exact k6
        · have : asOk a = true := by unfold asOk; simp at h ⊢; omega
          rw [j6]
          simp [this]
      · rintro _ j J' rfl j6
        refine bif_of (fun h => absurd (of_decide_eq_true h) (by simp)) (fun _ => hJ _ ?_)
        rw [j6] at k6
        simp only [List.all_nil, if_true] at k6
        exact k6
  · rintro n i J rfl h
    exact bif_of (fun h => absurd (of_decide_eq_true h) (by simp)) (fun _ => h)
theorem ok26 : Ok26 := con_ok (C := C26) kok_nil mx7 (by kernel_rfl) run26
theorem run13 : RunC C13 6 13 [4] [27] W13 [] := by
  intro (x : api_Attrs) hx _
  have hr : x.fRaws.length ≤ 9223372036854775807 := hx.2.2.1.1
  refine of_eq (q13 x (S13 x)) ?_
  refine bif_of (fun h => ?_) (fun h1 => bif_of (fun h => ?_) fun h2 => bif_of (fun h => ?_) fun h3 => ?_)
  · simp [S13, h]
  · simp only [Bool.not_eq_true'] at h; simp [S13, h]
  · simp only [Bool.or_eq_true, Bool.not_eq_true'] at h; rcases h with h | h <;> simp [S13, h]
  · simp only [Bool.or_eq_false_iff, Bool.not_eq_false'] at h2 h3
    have hv : S13 x = (rawsUp none x.fRaws && (decide (-1 ≤ x.fMed) && decide (x.fMed ≤ 4294967295) && decide (-1 ≤ x.fPref) && decide (x.fPref ≤ 4294967295))) := by simp [S13, h1, h2, h3]
    rw [hv]
    generalize (decide (-1 ≤ x.fMed) && decide (x.fMed ≤ 4294967295) && decide (-1 ≤ x.fPref) && decide (x.fPref ≤ 4294967295)) = e
    refine listLoop (l := x.fRaws) hr (fun (_ : Unit) i => i) id (fun _ _ => rfl) (fun i r _ => rawsUp none x.fRaws = rawsUp (if i = 0 then none else some (ix x.fRaws (i - 1)).fType) r) (s0 := ()) rfl ?_ ?_
    · rintro _ i s r J k1 k2 k3 k4 k5 k6 hJ
      refine bif_of (fun _ => ⟨⟨k1, k2⟩, fun _ h => ?_, ?_⟩) (fun h => absurd k2 (of_decide_eq_false h))
      · have h := of_decide_eq_true h
        rw [wrap64 (by omega)]
        exact ⟨by omega, by omega⟩
      · rw [wrap64 (by omega)]
        simp only [k3]
        refine bif_of (fun h => ?_) (fun h => hJ () ?_)
        · have : rawsUp none x.fRaws = false := by
            rw [k6]
            simp only [Bool.or_eq_true, Bool.not_eq_true', Bool.and_eq_true, decide_eq_true_eq] at h
            rcases h with h | ⟨h, h'⟩
            · simp [rawsUp, h]
            · rw [if_neg (by omega)]
              have : ¬ (ix x.fRaws (i - 1)).fType < s.fType := by omega
              simp [rawsUp, this]
          rw [this]; rfl
        · have e1 : (if i + 1 = 0 then none else some (ix x.fRaws (i + 1 - 1)).fType) = some s.fType := by rw [if_neg (by omega), show i + 1 - 1 = i by omega, k3]
          rw [k6, e1]
          simp only [Bool.or_eq_false_iff, Bool.not_eq_false', Bool.and_eq_false_iff, decide_eq_false_iff_not] at h
          by_cases hi : i = 0
          · rw [if_pos hi]; simp [rawsUp, h.1]
          · rw [if_neg hi]
            have : (ix x.fRaws (i - 1)).fType < s.fType := by omega
            simp [rawsUp, h.1, this]
    · rintro _ i J rfl h
      refine bif_of (fun h => absurd (of_decide_eq_true h) (by simp)) (fun _ => ?_)
      rw [h]; simp [rawsUp]
theorem ok13 : Ok13 := con_ok (C := C13) (kok_cons ok27 (kok_cons ok26 (kk1 ok28))) mx7 (by kernel_rfl) run13
end Go.Rx
namespace Go.Rx
open Go.Ab Go.L7
set_option maxRecDepth 100000
set_option maxHeartbeats 20000000
set_option linter.unusedVariables false
/-- interregnum/path.Encode -/
noncomputable def C23 : Cfg S := { P := P7, inl := [], K := [(26, ctr P7 [22] [4] (fun x0 => (none, S26 x0)))], ann := [(23, [(16, .join [(.sl 3, .own 5)]), (10, .join [(.sl 6, .int .u8)]), (12, .loop [(.sl 3, .own 5), (.sl 31, .int .i64)]), (5, .loop [(.sl 3, .own 5), (.sl 14, .int .i64)])])] }
abbrev W23 : CT S [30] [22] := (fun x0 => (some (P23 x0), S23 x0))
abbrev Ok23 : Prop := ConOk P7 23 (ctr P7 [22] [30] W23) ∧ ConMon (ctr P7 [22] [30] W23)
theorem q23 (x0 : List api_Segment) (v : HR S [30]) : (Xf C23 6 (emp 0) 23 (argsA C23 [⟨22, x0⟩]) (emp 0) (fun r _ => isR C23.P [30] v r) (fun _ _ => False)) =
 (bif !S26 x0 then [] = v else LOOP (fun (h : List Int × Int) (J : List Int × Int → Prop) => bif decide (h.snd < (↑x0.length : Int)) then h.fst.length =
 h.fst.length ∧ JP (fun (h_1 : List Int) => h_1.length = h_1.length ∧ J (h_1, IntKind.i64.wrap (h.snd + (1 : Int)))) fun (J : List Int → Prop) => ((0 : Int) ≤
 h.snd ∧ h.snd < (↑x0.length : Int)) ∧ JP (fun (h_1 : Int) => (h.fst.length = h.fst.length ∧ (h.fst.length + [h_1, IntKind.u8.wrap (↑(ix x0 h.snd).fAS.length :
 Int)].length) * nat_lit 1 ≤ nat_lit 140737488355328) ∧ ∀ (y : List (S.A (5 : Nat))), y = h.fst ++ [h_1, IntKind.u8.wrap (↑(ix x0 h.snd).fAS.length : Int)] →
 y.length = y.length ∧ LOOP (fun (h_3 : List Int × Int) (J_1 : List Int × Int → Prop) => bif decide (h_3.snd < (↑(ix x0 h.snd).fAS.length : Int)) then ((0 :
 Int) ≤ h_3.snd ∧ h_3.snd < (↑(ix x0 h.snd).fAS.length : Int)) ∧ (h_3.fst.length = h_3.fst.length ∧ (h_3.fst.length + [IntKind.u8.wrap ((IntKind.u32.wrap (ix
 (ix x0 h.snd).fAS h_3.snd)).fdiv ((2 : Int) ^ nat_lit 24)), IntKind.u8.wrap ((IntKind.u32.wrap (ix (ix x0 h.snd).fAS h_3.snd)).fdiv ((2 : Int) ^ nat_lit 16)),
 IntKind.u8.wrap ((IntKind.u32.wrap (ix (ix x0 h.snd).fAS h_3.snd)).fdiv ((2 : Int) ^ nat_lit 8)), IntKind.u8.wrap (IntKind.u32.wrap (ix (ix x0 h.snd).fAS
 h_3.snd))].length) * nat_lit 1 ≤ nat_lit 140737488355328) ∧ ∀ (y : List (S.A (5 : Nat))), y = h_3.fst ++ [IntKind.u8.wrap ((IntKind.u32.wrap (ix (ix x0
 h.snd).fAS h_3.snd)).fdiv ((2 : Int) ^ nat_lit 24)), IntKind.u8.wrap ((IntKind.u32.wrap (ix (ix x0 h.snd).fAS h_3.snd)).fdiv ((2 : Int) ^ nat_lit 16)),
 IntKind.u8.wrap ((IntKind.u32.wrap (ix (ix x0 h.snd).fAS h_3.snd)).fdiv ((2 : Int) ^ nat_lit 8)), IntKind.u8.wrap (IntKind.u32.wrap (ix (ix x0 h.snd).fAS
 h_3.snd))] → y.length = y.length ∧ J_1 (y, IntKind.i64.wrap (h_3.snd + (1 : Int))) else h_3.fst.length = h_3.fst.length ∧ J h_3.fst) (y, (0 : Int))) fun (J :
 Int → Prop) => bif (ix x0 h.snd).fSet then J (1 : Int) else J (2 : Int) else h.fst = v) ([], (0 : Int))) := by kernel_rfl
end Go.Rx
namespace Go.Rx
open Go.Ab Go.L7
set_option maxRecDepth 100000
set_option maxHeartbeats 20000000
set_option linter.unusedVariables false
/-- interregnum/path.Decode -/
noncomputable def C65 : Cfg S := { P := P7, inl := [], K := [(66, ctr P7 [30] [23] (fun x0 => (none, S66 x0))), (26, ctr P7 [22] [4] (fun x0 => (none, S26 x0)))], ann := [(65, [(9, .loop [(.sl 0, .sl 5), (.sl 6, .int .i64), (.ce 5 0, .bool), (.ce 5 1, .own 3)]), (2, .loop [(.sl 0, .sl 5), (.sl 4, .own 49)])])] }
abbrev W65 : CT S [22, 4] [30] := (fun x0 => (some (P65 x0), S65 x0))
abbrev Ok65 : Prop := ConOk P7 65 (ctr P7 [30] [22, 4] W65) ∧ ConMon (ctr P7 [30] [22, 4] W65)
theorem q65 (x0 : List Int) (v : HR S [22, 4]) : (Xf C65 6 (emp 0) 65 (argsA C65 [⟨30, x0⟩]) (emp 0) (fun r _ => isR C65.P [22, 4] v r) (fun _ _ => False)) =
 (LOOP (fun (h : List Int × List api_Segment) (J : List Int × List api_Segment → Prop) => bif decide ((0 : Int) < (↑h.fst.length : Int)) then (decide
 ((↑h.fst.length : Int) < (2 : Int)) = false → (0 : Int) ≤ (0 : Int) ∧ (0 : Int) < (↑h.fst.length : Int)) ∧ (decide ((↑h.fst.length : Int) < (2 : Int)) = false
 → (!decide (ix h.fst (0 : Int) = (1 : Int))) = true → (0 : Int) ≤ (0 : Int) ∧ (0 : Int) < (↑h.fst.length : Int)) ∧ bif decide ((↑h.fst.length : Int) < (2 :
 Int)) || !decide (ix h.fst (0 : Int) = (1 : Int)) && !decide (ix h.fst (0 : Int) = (2 : Int)) then ([], false) = v else ((0 : Int) ≤ (0 : Int) ∧ (0 : Int) <
 (↑h.fst.length : Int)) ∧ ((0 : Int) ≤ (1 : Int) ∧ (1 : Int) < (↑h.fst.length : Int)) ∧ ((0 : Int) ≤ (2 : Int) ∧ (2 : Int) ≤ (↑h.fst.length : Int) ∧
 (↑h.fst.length : Int) ≤ (↑h.fst.length : Int)) ∧ bif decide ((↑(sub h.fst (2 : Int) (↑h.fst.length : Int)).length : Int) < IntKind.i64.wrap (IntKind.i64.wrap
 (ix h.fst (1 : Int)) * (4 : Int))) then ([], false) = v else LOOP (fun (h_1 : List Int × Int × Bool × List Int) (J_1 : List Int × Int × Bool × List Int →
 Prop) => bif decide ((0 : Int) < h_1.snd.fst) then (h_1.snd.snd.snd.length = h_1.snd.snd.snd.length ∧ (h_1.snd.snd.snd.length + [IntKind.i64.wrap (S66
 h_1.fst)].length) * nat_lit 8 ≤ nat_lit 140737488355328) ∧ ∀ (y : List (S.A (3 : Nat))), y = h_1.snd.snd.snd ++ [IntKind.i64.wrap (S66 h_1.fst)] → ((0 : Int)
 ≤ (4 : Int) ∧ (4 : Int) ≤ (↑h_1.fst.length : Int) ∧ (↑h_1.fst.length : Int) ≤ (↑h_1.fst.length : Int)) ∧ y.length = y.length ∧ J_1 (sub h_1.fst (4 : Int)
 (↑h_1.fst.length : Int), IntKind.i64.wrap (h_1.snd.fst - (1 : Int)), h_1.snd.snd.fst, y) else (h.snd.length = h.snd.length ∧ (h.snd.length + [api_Segment.mk
 h_1.snd.snd.fst h_1.snd.snd.snd].length) * nat_lit 32 ≤ nat_lit 140737488355328) ∧ ∀ (y : List (S.A (49 : Nat))), y = h.snd ++ [api_Segment.mk h_1.snd.snd.fst
 h_1.snd.snd.snd] → y.length = y.length ∧ J (h_1.fst, y)) (sub h.fst (2 : Int) (↑h.fst.length : Int), IntKind.i64.wrap (ix h.fst (1 : Int)), decide (ix h.fst
 (0 : Int) = (1 : Int)), []) else bif !S26 h.snd then ([], false) = v else (h.snd, true) = v) (x0, [])) := by kernel_rfl
end Go.Rx
/-! Paths as bytes; numbers of bytes. -/
namespace Go.Rx
open Go.Ab Go.L7
set_option linter.unusedVariables false
set_option maxRecDepth 100000
theorem JP.of {ι : Type} {rest : ι → Prop} {body : (ι → Prop) → Prop} (I : ι → Prop) (hb : ∀ J : ι → Prop, (∀ y, I y → J y) → body J) (hr : ∀ y, I y → rest y) : JP rest body := ⟨hb rest hr⟩
theorem run66 : RunC C66 6 66 [23] [30] W66 [] := by
  intro (x : List Int) hx _
  have hp : x.length ≤ 9223372036854775807 := hx.1.1
  refine of_eq (q66 x (S66 x)) ?_
  have hm : sub x 0 (bif decide ((4 : Int) < (x.length : Int)) then (4 : Int) else (x.length : Int)) = x.take 4 := by
    unfold sub
    cases h : decide ((4 : Int) < (x.length : Int)) with
    | true => rfl
    | false =>
      have := of_decide_eq_false h
      simp only [cond_false, Int.toNat_natCast, Int.toNat_zero, List.drop_zero]
      rw [List.take_of_length_le (Nat.le_refl _), List.take_of_length_le (by omega)]
  refine ⟨⟨Int.le_refl _, ?_, ?_⟩, ?_⟩
  · cases h : decide ((4 : Int) < (x.length : Int)) <;> simp
  · cases h : decide ((4 : Int) < (x.length : Int)) with
    | true => have := of_decide_eq_true h; simp only [cond_true]; omega
    | false => simp
  · rw [hm]
    generalize hv : S66 x = v
    unfold S66 at hv
    have ht : (x.take 4).length ≤ 9223372036854775807 := by simp; omega
    revert hv ht
    generalize x.take 4 = t
    intro hv ht
    refine listLoop (l := t) ht (fun (n : Int) i => (n, i)) (fun y => y.2) (fun _ _ => rfl) (fun i r n => r.foldl getB n = v) (s0 := 0) hv ?_ ?_
    · rintro n i c r J k1 k2 k3 k4 k5 k6 hJ
      refine bif_of (fun _ => ⟨⟨k1, k2⟩, ?_⟩) (fun h => absurd k2 (of_decide_eq_false h))
      simp only [k3]
      exact hJ _ k6
    · rintro n i J rfl h
      exact bif_of (fun h => absurd (of_decide_eq_true h) (by simp)) (fun _ => h)
theorem ok66 : Ok66 := con_ok (C := C66) kok_nil mx7 (by kernel_rfl) run66
/-! ### The bytes of a path -/
def asSum (l : List api_Segment) : Nat := (l.map fun s => s.fAS.length).sum
theorem goodP_spec : ∀ (l : List api_Segment) (n : Int), goodP l n = true → 0 ≤ n → n + 255 * (l.length : Int) ≤ 4611686018427387904 → n + (asSum l : Int) ≤ 64 ∧ ∀ s ∈ l, 1 ≤ s.fAS.length ∧ s.fAS.length ≤ 255 ∧ s.fAS.all asOk = true
  | [], n, h, h0, h1 => ⟨by simp only [goodP, decide_eq_true_eq] at h; simp [asSum]; exact h, fun s hs => by cases hs⟩
  | s :: l, n, h, h0, h1 => by
    simp only [goodP] at h
    split at h
    · cases h
    · rename_i h2
      split at h
      · rename_i h3
        have hw : w64 (n + (s.fAS.length : Int)) = n + (s.fAS.length : Int) := wrap64 (by simp at h1; omega)
        rw [hw] at h
        obtain ⟨k1, k2⟩ := goodP_spec l _ h (by omega) (by simp at h1; omega)
        refine ⟨by simp [asSum] at k1 ⊢; omega, fun t ht => ?_⟩
        rcases List.mem_cons.1 ht with rfl | ht
        · exact ⟨by omega, by omega, h3⟩
        · exact k2 t ht
      · cases h
theorem asSum_len : ∀ (l : List api_Segment), (∀ s ∈ l, 1 ≤ s.fAS.length) → l.length ≤ asSum l
  | [], _ => by simp [asSum]
  | s :: l, h => by
    have := asSum_len l fun t ht => h t (by simp [ht])
    have := h s (by simp)
    simp [asSum] at *
    omega
theorem put_len : ∀ (l : List Int), (l.flatMap fun n => put4 (IntKind.u32.wrap n)).length = 4 * l.length
  | [] => rfl
  | n :: l => by rw [List.flatMap_cons, List.length_append, put_len l]; simp [put4]; omega
theorem seg_len : ∀ (l : List api_Segment), (l.flatMap segB).length = 2 * l.length + 4 * asSum l
  | [] => rfl
  | s :: l => by
    rw [List.flatMap_cons, List.length_append, seg_len l]
    have := put_len s.fAS
    simp only [segB, List.length_cons, this, asSum, List.map_cons, List.sum_cons]
    omega
theorem run23 : RunC C23 6 23 [30] [22] W23 [] := by
  intro (x : List api_Segment) hx hp
  have hp : x.length ≤ 140737488355328 := hp _ rfl
  refine of_eq (q23 x (S23 x)) ?_
  refine bif_of (fun h => ?_) (fun h => ?_)
  · simp only [Bool.not_eq_true'] at h; simp [S23, h]
  · simp only [Bool.not_eq_false'] at h
    have hv : S23 x = x.flatMap segB := by simp [S23, h]
    rw [hv]
    obtain ⟨g1, g2⟩ := goodP_spec x 0 h (Int.le_refl _) (by omega)
    have hlen : (x.flatMap segB).length ≤ 384 := by
      rw [seg_len]
      have := asSum_len x fun s hs => (g2 s hs).1
      omega
    revert hlen
    generalize hF : x.flatMap segB = F
    intro hlen
    refine listLoop (l := x) (by omega) (fun (o : List Int) i => (o, i)) (fun y => y.2) (fun _ _ => rfl) (fun i r o => o ++ r.flatMap segB = F) (s0 := []) (by simpa using hF) ?_ ?_
    · rintro o i s r J k1 k2 k3 k4 k5 k6 hJ
      refine bif_of (fun _ => ⟨rfl, JP.of (fun o' => o' ++ r.flatMap segB = F) (fun J' hJ' => ⟨⟨k1, k2⟩, ?_⟩) (fun y hy => ⟨rfl, hJ _ hy⟩)⟩) (fun h => absurd k2 (of_decide_eq_false h))
      simp only [k3]
      refine JP.of (fun c => c = if s.fSet then 1 else 2) (fun J hJ => bif_of (fun h => hJ _ (by simp [h])) (fun h => hJ _ (by simp [h]))) fun c hc => ?_
      have hF1 : o.length ≤ 384 := by have := congrArg List.length k6; rw [List.length_append] at this; omega
      refine ⟨⟨by trivial, by show (o.length + 2) * 1 ≤ 140737488355328; omega⟩, fun (y : List Int) hy => ⟨by trivial, ?_⟩⟩
      obtain ⟨s1, s2, s3⟩ := g2 s k4
      have k7 : y ++ (s.fAS.flatMap fun n => put4 (IntKind.u32.wrap n)) ++ r.flatMap segB = F := by
        rw [← k6, List.flatMap_cons, hy, hc]
        simp [segB]
      refine listLoop (l := s.fAS) (by omega) (fun (o : List Int) i => (o, i)) (fun y => y.2) (fun _ _ => rfl) (fun i r' o => o ++ (r'.flatMap fun n => put4 (IntKind.u32.wrap n)) ++ r.flatMap segB = F) (s0 := y) k7 ?_ ?_
      · rintro o2 j n r' J2 j1 j2 j3 j4 j5 j6 hJ2
        have hF2 : o2.length ≤ 384 := by have := congrArg List.length j6; rw [List.length_append, List.length_append] at this; omega
        refine bif_of (fun _ => ⟨⟨j1, j2⟩, ⟨by trivial, by show (o2.length + 4) * 1 ≤ 140737488355328; omega⟩, fun (z : List Int) hz => ⟨by trivial, ?_⟩⟩) (fun h => absurd j2 (of_decide_eq_false h))
        refine hJ2 z ?_
        rw [← j6, hz]
        simp only [j3]
        simp [put4]
      · rintro o2 j J2 rfl j6
        refine bif_of (fun h => absurd (of_decide_eq_true h) (by simp)) (fun _ => ⟨by trivial, hJ' _ (by simpa using j6)⟩)
    · rintro o i J rfl h
      refine bif_of (fun h => absurd (of_decide_eq_true h) (by simp)) (fun _ => ?_)
      simpa using h
theorem ok23 : Ok23 := con_ok (C := C23) (kk1 ok26) mx7 (by kernel_rfl) run23
/-! ### A path, read -/
theorem sub_drop {α : Type} (l : List α) {k : Int} {n : Nat} (h : k.toNat = n) : sub l k (l.length : Int) = l.drop n := by
  unfold sub; rw [h, Int.toNat_natCast, List.take_of_length_le (Nat.le_refl _)]
theorem By.drop {b : List Int} (h : By b) (n : Nat) : By (b.drop n) := fun c hc => h c (List.mem_of_mem_drop hc)
theorem By.take {b : List Int} (h : By b) (n : Nat) : By (b.take n) := fun c hc => h c (List.mem_of_mem_take hc)
theorem asN_len : ∀ (n : Nat) (b : List Int), (asN n b).length = n
  | 0, _ => rfl
  | n + 1, b => by simp [asN, asN_len n]
theorem run65 : RunC C65 6 65 [22, 4] [30] W65 [] := by
  intro (x : List Int) hx hp
  obtain ⟨hp, hB⟩ := hp _ rfl
  refine of_eq (q65 x (S65 x)) ?_
  generalize hv : S65 x = v
  unfold S65 at hv
  refine LOOP.of (fun h => By h.1 ∧ h.1.length ≤ 1099511627776 ∧ h.2.length + h.1.length ≤ 1099511627776 ∧ ∃ f, h.1.length ≤ f ∧ pathOut h.2 (decP f h.1) = v) (fun h => h.1.length) ⟨hB, hp, by simpa using hp, _, Nat.le_refl _, hv⟩ ?_
  rintro ⟨b, out⟩ ⟨i1, i2, i3, f, i4, i5⟩ J hJ
  simp only at i1 i2 i3 i4 i5
  refine bif_of (fun h => ?_) (fun h => ?_)
  · have h0 : 0 < b.length := by have := of_decide_eq_true h; simp only at this; omega
    obtain ⟨f, rfl⟩ : ∃ g, f = g + 1 := ⟨f - 1, by omega⟩
    have hne : b ≠ [] := fun e => by rw [e] at h0; cases h0
    simp only [decP, if_neg hne] at i5
    refine ⟨fun _ => ⟨Int.le_refl _, by simpa using h0⟩, fun _ _ => ⟨Int.le_refl _, by simpa using h0⟩, bif_of (fun h1 => ?_) (fun h1 => ?_)⟩
    · rw [if_pos (by simp only [Bool.or_eq_true, Bool.and_eq_true, Bool.not_eq_true', decide_eq_true_eq, decide_eq_false_iff_not] at h1; rcases h1 with h1 | h1; exact .inl (by omega); exact .inr h1)] at i5
      exact i5
    · have h1' : ¬ (b.length < 2) ∧ (ix b 0 = 1 ∨ ix b 0 = 2) := by
        simp only [Bool.or_eq_false_iff, Bool.and_eq_false_iff, Bool.not_eq_false', decide_eq_true_eq, decide_eq_false_iff_not] at h1
        exact ⟨by omega, h1.2⟩
      rw [if_neg (by rintro (h | h); exact h1'.1 h; rcases h1'.2 with e | e; exact h.1 e; exact h.2 e)] at i5
      have hn := i1 _ (ix_mem (x := b) (i := 1) (by omega) (by omega))
      generalize hn0 : ix b 1 = n at hn i5
      have hw1 : IntKind.i64.wrap n = n := wrap64 (by omega)
      have hw4 : IntKind.i64.wrap (n * 4) = n * 4 := wrap64 (by omega)
      refine ⟨⟨Int.le_refl _, by simpa using h0⟩, ⟨by omega, by simp only; omega⟩, ⟨by omega, by simp only; omega, Int.le_refl _⟩, ?_⟩
      simp only [hn0, hw1, hw4]
      rw [sub_drop b (n := 2) rfl]
      refine bif_of (fun h2 => ?_) (fun h2 => ?_)
      · have h2 := of_decide_eq_true h2
        rw [if_pos (by rw [List.length_drop] at h2; omega)] at i5
        exact i5
      · have h2 := of_decide_eq_false h2
        rw [List.length_drop] at h2
        rw [if_neg (by omega)] at i5
        generalize hb2 : b.drop 2 = b2
        have hl2 : b2.length = b.length - 2 := by rw [← hb2, List.length_drop]
        have hd : b.drop (2 + 4 * n.toNat) = b2.drop (4 * n.toNat) := by rw [← hb2, List.drop_drop]
        rw [hd, hb2] at i5
        refine LOOP.of (fun h => 0 ≤ h.2.1 ∧ 4 * h.2.1 ≤ (h.1.length : Int) ∧ h.2.2.2 ++ asN h.2.1.toNat h.1 = asN n.toNat b2 ∧ h.1.drop (4 * h.2.1.toNat) = b2.drop (4 * n.toNat) ∧ h.2.2.1 = decide (ix b 0 = 1) ∧ h.2.1 ≤ n) (fun h => h.2.1.toNat) ⟨by simp only; omega, by simp only; omega, rfl, rfl, rfl, Int.le_refl _⟩ ?_
        rintro ⟨b', m, st, al⟩ ⟨j1, j2, j3, j4, j5, j6⟩ J' hJ'
        simp only at j1 j2 j3 j4 j5 j6
        have hal : al.length + m.toNat = n.toNat := by have := congrArg List.length j3; rw [List.length_append, asN_len, asN_len] at this; exact this
        refine bif_of (fun h3 => ?_) (fun h3 => ?_)
        · have h3 := of_decide_eq_true h3
          simp only at h3
          refine ⟨⟨by trivial, by show (al.length + 1) * 8 ≤ 140737488355328; omega⟩, fun (y : List Int) hy => ⟨⟨by omega, by simp only; omega, Int.le_refl _⟩, by trivial, ?_⟩⟩
          simp only
          rw [wrap64 (by omega), sub_drop b' (n := 4) rfl]
          have hm : m.toNat = (m - 1).toNat + 1 := by omega
          refine hJ' _ ⟨by simp only; omega, by simp only; rw [List.length_drop]; omega, ?_, ?_, j5, by simp only; omega⟩ (by simp only; omega)
          · simp only
            rw [← j3, hm, hy, asN]
            simp [w64]
          · simp only
            rw [← j4, List.drop_drop, hm]
            congr 1
            omega
        · have h3 := of_decide_eq_false h3
          simp only at h3
          have hm : m = 0 := by omega
          subst hm
          simp only [asN, Int.toNat_zero, List.append_nil, Nat.mul_zero, List.drop_zero] at j3 j4
          refine ⟨⟨by trivial, by show (out.length + 1) * 32 ≤ 140737488355328; omega⟩, fun (y : List api_Segment) hy => ⟨by trivial, ?_⟩⟩
          have hlb : b'.length = b2.length - 4 * n.toNat := by rw [j4, List.length_drop]
          refine hJ _ ⟨?_, by simp only; omega, ?_, f, by simp only; omega, ?_⟩ (by simp only; omega)
          · simp only; rw [j4, ← hb2]; exact By.drop (By.drop i1 _) _
          · simp only; rw [hy, List.length_append]; simp; omega
          · simp only
            rw [← i5, j4, hy]
            cases decP f (b2.drop (4 * n.toNat)) with
            | none => rfl
            | some r => simp [pathOut, j5, ← j3]
  · have h0 : b = [] := by
      have := of_decide_eq_false h
      exact List.eq_nil_of_length_eq_zero (by simp only at this; omega)
    have hf : decP f b = some [] := by cases f <;> simp [decP, h0]
    rw [hf] at i5
    simp only [pathOut, List.append_nil] at i5
    refine bif_of (fun h => ?_) (fun h => ?_)
    · simp only [Bool.not_eq_true'] at h; rw [h] at i5; exact i5
    · simp only [Bool.not_eq_false'] at h; rw [h] at i5; exact i5
theorem ok65 : Ok65 := con_ok (C := C65) (kok_cons ok66 (kk1 ok26)) mx7 (by kernel_rfl) run65
end Go.Rx
namespace Go.Rx
open Go.Ab Go.L7
set_option maxRecDepth 100000
set_option maxHeartbeats 20000000
set_option linter.unusedVariables false
noncomputable def C17 : Cfg S := { P := P7, inl := [], K := [(66, ctr P7 [30] [23] (fun x0 => (none, S66 x0))), (65, ctr P7 [30] [22, 4] (fun x0 => (some (P65 x0), S65 x0))), (62, ctr P7 [30] [30] (fun x0 => (some (P62 x0), S62 x0))), (27, ctr P7 [23] [4] (fun x0 => (none, S27 x0))), (52, .srt 45 53 Q52 R52)], ann := [(35, [(0, .loop [(.ce 0 0, .sl 5), (.ce 0 1, .int .i64), (.ce 0 2, .sl 49), (.ce 0 3, .int .u32), (.ce 0 4, .int .i64), (.ce 0 5, .int .i64), (.ce 0 6, .own 23), (.ce 0 7, .prv 45), (.tl 0, .run)]), (6, .loop [(.sl 29, .int .i64)])]),
  (67, [(4, .loop [(.sl 4, .sl 5), (.ce 0 0, .sl 5), (.ce 0 1, .int .i64), (.ce 0 2, .sl 49), (.ce 0 3, .int .u32), (.ce 0 4, .int .i64), (.ce 0 5, .int .i64), (.ce 0 6, .own 23), (.ce 0 7, .prv 45), (.tl 0, .run)])]),
  (61, [(1, .mt [45])]), (48, [(4, .join [(.sl 3, .int .i64)]), (9, .join [(.sl 4, .int .i64)])]), (49, [(5, .join [(.sl 5, .int .i64)]), (9, .join [(.sl 27, .bool)])]), (60, [(21, .join [(.sl 81, .bool)])]), (17, [(4, .frz [.ce 4 7])]), (34, [(2, .all)])] }
def dfrOf : Code → Option Dfr
  | .seq A (.seq Bc (.seq (.region rid ⟨[mk, df]⟩ false) rest)) => match mk.op, mk.dst with
    | .makeFunc (.func fd) _ caps, some d => some ⟨A, Bc, rid, mk, df, rest, fd, d, caps.toList⟩
    | _, _ => none
  | _ => none
noncomputable def fn17 : Func := (P7.funcs[17]?).getD default
noncomputable def D17 : Dfr := ((fn17.body).bind dfrOf).getD ⟨.skip, .skip, 0, default, default, .skip, 0, 0, []⟩
theorem q17 (x0 : List Int) (v : HR S [27, 34]) : (Xg C17 8 ((Ab.look C17.ann 17).getD []) fn17 D17 (argsA C17 [⟨30, x0⟩]) (isR C17.P [27, 34] v)) = (nat_lit 0
 = nat_lit 0 ∧ LOOP (fun (h : List Int × Int × List api_Segment × Int × Int × Int × List Int × List api_Raw × List Bool) (J : List Int × Int × List api_Segment
 × Int × Int × Int × List Int × List api_Raw × List Bool → Prop) => bif decide ((0 : Int) < (↑h.fst.length : Int)) then JP (fun (h_1 : Int) => bif decide
 ((↑h.fst.length : Int) < h_1) then Nat.le (nat_lit 0) (nat_lit 140737488355328) ∧ (((api_Attrs.mk (0 : Int) [] (0 : Int) (0 : Int) (0 : Int) [] [],
 api_Note.mk (3 : Int) (1 : Int) (S62 [])) = v ∧ (api_Attrs.mk (0 : Int) [] (0 : Int) (0 : Int) (0 : Int) [] [], api_Note.mk (3 : Int) (1 : Int) (S62 [])) = v)
 ∧ (api_Attrs.mk (0 : Int) [] (0 : Int) (0 : Int) (0 : Int) [] [], api_Note.mk (3 : Int) (1 : Int) (S62 [])) = v) ∧ ((api_Attrs.mk (0 : Int) [] (0 : Int) (0 :
 Int) (0 : Int) [] [], api_Note.mk (3 : Int) (1 : Int) (S62 [])) = v ∧ (api_Attrs.mk (0 : Int) [] (0 : Int) (0 : Int) (0 : Int) [] [], api_Note.mk (3 : Int) (1
 : Int) (S62 [])) = v) ∧ (api_Attrs.mk (0 : Int) [] (0 : Int) (0 : Int) (0 : Int) [] [], api_Note.mk (3 : Int) (1 : Int) (S62 [])) = v else ((0 : Int) ≤ (2 :
 Int) ∧ (2 : Int) < (↑h.fst.length : Int)) ∧ JP (fun (h_2 : Int) => bif decide (IntKind.i64.wrap ((↑h.fst.length : Int) - h_1) < h_2) then Nat.le (nat_lit 0)
 (nat_lit 140737488355328) ∧ (((api_Attrs.mk (0 : Int) [] (0 : Int) (0 : Int) (0 : Int) [] [], api_Note.mk (3 : Int) (1 : Int) (S62 [])) = v ∧ (api_Attrs.mk (0
 : Int) [] (0 : Int) (0 : Int) (0 : Int) [] [], api_Note.mk (3 : Int) (1 : Int) (S62 [])) = v) ∧ (api_Attrs.mk (0 : Int) [] (0 : Int) (0 : Int) (0 : Int) []
 [], api_Note.mk (3 : Int) (1 : Int) (S62 [])) = v) ∧ ((api_Attrs.mk (0 : Int) [] (0 : Int) (0 : Int) (0 : Int) [] [], api_Note.mk (3 : Int) (1 : Int) (S62
 [])) = v ∧ (api_Attrs.mk (0 : Int) [] (0 : Int) (0 : Int) (0 : Int) [] [], api_Note.mk (3 : Int) (1 : Int) (S62 [])) = v) ∧ (api_Attrs.mk (0 : Int) [] (0 :
 Int) (0 : Int) (0 : Int) [] [], api_Note.mk (3 : Int) (1 : Int) (S62 [])) = v else ((0 : Int) ≤ (0 : Int) ∧ (0 : Int) < (↑h.fst.length : Int)) ∧ ((0 : Int) ≤
 (1 : Int) ∧ (1 : Int) < (↑h.fst.length : Int)) ∧ ((0 : Int) ≤ (0 : Int) ∧ (0 : Int) ≤ IntKind.i64.wrap (h_1 + h_2) ∧ IntKind.i64.wrap (h_1 + h_2) ≤
 (↑h.fst.length : Int)) ∧ ((0 : Int) ≤ h_1 ∧ h_1 ≤ IntKind.i64.wrap (h_1 + h_2) ∧ IntKind.i64.wrap (h_1 + h_2) ≤ (↑h.fst.length : Int)) ∧ ((0 : Int) ≤
 IntKind.i64.wrap (h_1 + h_2) ∧ IntKind.i64.wrap (h_1 + h_2) ≤ (↑h.fst.length : Int) ∧ (↑h.fst.length : Int) ≤ (↑h.fst.length : Int)) ∧ ((0 : Int) ≤
 IntKind.i64.wrap (ix h.fst (1 : Int)) ∧ IntKind.i64.wrap (ix h.fst (1 : Int)) < (↑(nat_lit 256) : Int)) ∧ (IntKind.i64.wrap (ix h.fst (1 : Int))).toNat <
 h.snd.snd.snd.snd.snd.snd.snd.snd.length ∧ bif ix h.snd.snd.snd.snd.snd.snd.snd.snd (IntKind.i64.wrap (ix h.fst (1 : Int))) then Nat.le (nat_lit 0) (nat_lit
 140737488355328) ∧ (((api_Attrs.mk (0 : Int) [] (0 : Int) (0 : Int) (0 : Int) [] [], api_Note.mk (3 : Int) (1 : Int) (S62 [])) = v ∧ (api_Attrs.mk (0 : Int)
 [] (0 : Int) (0 : Int) (0 : Int) [] [], api_Note.mk (3 : Int) (1 : Int) (S62 [])) = v) ∧ (api_Attrs.mk (0 : Int) [] (0 : Int) (0 : Int) (0 : Int) [] [],
 api_Note.mk (3 : Int) (1 : Int) (S62 [])) = v) ∧ ((api_Attrs.mk (0 : Int) [] (0 : Int) (0 : Int) (0 : Int) [] [], api_Note.mk (3 : Int) (1 : Int) (S62 [])) =
 v ∧ (api_Attrs.mk (0 : Int) [] (0 : Int) (0 : Int) (0 : Int) [] [], api_Note.mk (3 : Int) (1 : Int) (S62 [])) = v) ∧ (api_Attrs.mk (0 : Int) [] (0 : Int) (0 :
 Int) (0 : Int) [] [], api_Note.mk (3 : Int) (1 : Int) (S62 [])) = v else ((0 : Int) ≤ IntKind.i64.wrap (ix h.fst (1 : Int)) ∧ IntKind.i64.wrap (ix h.fst (1 :
 Int)) < (↑(nat_lit 256) : Int)) ∧ (IntKind.i64.wrap (ix h.fst (1 : Int))).toNat < h.snd.snd.snd.snd.snd.snd.snd.snd.length ∧ bif decide ((1 : Int) ≤
 IntKind.i64.wrap (ix h.fst (1 : Int))) && decide (IntKind.i64.wrap (ix h.fst (1 : Int)) ≤ (8 : Int)) then ((0 : Int) ≤ IntKind.i64.wrap (ix h.fst (1 : Int)) ∧
 IntKind.i64.wrap (ix h.fst (1 : Int)) < (↑(nat_lit 9) : Int)) ∧ JP (fun (h_3 : Int) => bif !decide (iand IntKind.i64 (IntKind.i64.wrap (ix h.fst (0 : Int)))
 h_3 = (ix [attr_kind.mk (0 : Int) (0 : Int), attr_kind.mk (64 : Int) (1 : Int), attr_kind.mk (64 : Int) (-1 : Int), attr_kind.mk (64 : Int) (4 : Int),
 attr_kind.mk (128 : Int) (4 : Int), attr_kind.mk (64 : Int) (4 : Int), attr_kind.mk (64 : Int) (0 : Int), attr_kind.mk (192 : Int) (8 : Int), attr_kind.mk
 (192 : Int) (-1 : Int)] (IntKind.i64.wrap (ix h.fst (1 : Int)))).fflags) then (sub h.fst (0 : Int) (IntKind.i64.wrap (h_1 + h_2))).length.le (nat_lit
 140737488355328) ∧ (((api_Attrs.mk (0 : Int) [] (0 : Int) (0 : Int) (0 : Int) [] [], api_Note.mk (3 : Int) (4 : Int) (S62 (sub h.fst (0 : Int)
 (IntKind.i64.wrap (h_1 + h_2))))) = v ∧ (api_Attrs.mk (0 : Int) [] (0 : Int) (0 : Int) (0 : Int) [] [], api_Note.mk (3 : Int) (4 : Int) (S62 (sub h.fst (0 :
 Int) (IntKind.i64.wrap (h_1 + h_2))))) = v) ∧ (api_Attrs.mk (0 : Int) [] (0 : Int) (0 : Int) (0 : Int) [] [], api_Note.mk (3 : Int) (4 : Int) (S62 (sub h.fst
 (0 : Int) (IntKind.i64.wrap (h_1 + h_2))))) = v) ∧ ((api_Attrs.mk (0 : Int) [] (0 : Int) (0 : Int) (0 : Int) [] [], api_Note.mk (3 : Int) (4 : Int) (S62 (sub
 h.fst (0 : Int) (IntKind.i64.wrap (h_1 + h_2))))) = v ∧ (api_Attrs.mk (0 : Int) [] (0 : Int) (0 : Int) (0 : Int) [] [], api_Note.mk (3 : Int) (4 : Int) (S62
 (sub h.fst (0 : Int) (IntKind.i64.wrap (h_1 + h_2))))) = v) ∧ (api_Attrs.mk (0 : Int) [] (0 : Int) (0 : Int) (0 : Int) [] [], api_Note.mk (3 : Int) (4 : Int)
 (S62 (sub h.fst (0 : Int) (IntKind.i64.wrap (h_1 + h_2))))) = v else JP (fun (h_4 : Bool) => bif h_4 then (sub h.fst (0 : Int) (IntKind.i64.wrap (h_1 +
 h_2))).length.le (nat_lit 140737488355328) ∧ (((api_Attrs.mk (0 : Int) [] (0 : Int) (0 : Int) (0 : Int) [] [], api_Note.mk (3 : Int) (5 : Int) (S62 (sub h.fst
 (0 : Int) (IntKind.i64.wrap (h_1 + h_2))))) = v ∧ (api_Attrs.mk (0 : Int) [] (0 : Int) (0 : Int) (0 : Int) [] [], api_Note.mk (3 : Int) (5 : Int) (S62 (sub
 h.fst (0 : Int) (IntKind.i64.wrap (h_1 + h_2))))) = v) ∧ (api_Attrs.mk (0 : Int) [] (0 : Int) (0 : Int) (0 : Int) [] [], api_Note.mk (3 : Int) (5 : Int) (S62
 (sub h.fst (0 : Int) (IntKind.i64.wrap (h_1 + h_2))))) = v) ∧ ((api_Attrs.mk (0 : Int) [] (0 : Int) (0 : Int) (0 : Int) [] [], api_Note.mk (3 : Int) (5 : Int)
 (S62 (sub h.fst (0 : Int) (IntKind.i64.wrap (h_1 + h_2))))) = v ∧ (api_Attrs.mk (0 : Int) [] (0 : Int) (0 : Int) (0 : Int) [] [], api_Note.mk (3 : Int) (5 :
 Int) (S62 (sub h.fst (0 : Int) (IntKind.i64.wrap (h_1 + h_2))))) = v) ∧ (api_Attrs.mk (0 : Int) [] (0 : Int) (0 : Int) (0 : Int) [] [], api_Note.mk (3 : Int)
 (5 : Int) (S62 (sub h.fst (0 : Int) (IntKind.i64.wrap (h_1 + h_2))))) = v else bif decide (IntKind.i64.wrap (ix h.fst (1 : Int)) = (1 : Int)) then ((0 : Int)
 ≤ (0 : Int) ∧ (0 : Int) < (↑(sub h.fst h_1 (IntKind.i64.wrap (h_1 + h_2))).length : Int)) ∧ bif decide ((2 : Int) < IntKind.i64.wrap (ix (sub h.fst h_1
 (IntKind.i64.wrap (h_1 + h_2))) (0 : Int))) then (sub h.fst (0 : Int) (IntKind.i64.wrap (h_1 + h_2))).length.le (nat_lit 140737488355328) ∧ (((api_Attrs.mk (0
 : Int) [] (0 : Int) (0 : Int) (0 : Int) [] [], api_Note.mk (3 : Int) (6 : Int) (S62 (sub h.fst (0 : Int) (IntKind.i64.wrap (h_1 + h_2))))) = v ∧ (api_Attrs.mk
 (0 : Int) [] (0 : Int) (0 : Int) (0 : Int) [] [], api_Note.mk (3 : Int) (6 : Int) (S62 (sub h.fst (0 : Int) (IntKind.i64.wrap (h_1 + h_2))))) = v) ∧
 (api_Attrs.mk (0 : Int) [] (0 : Int) (0 : Int) (0 : Int) [] [], api_Note.mk (3 : Int) (6 : Int) (S62 (sub h.fst (0 : Int) (IntKind.i64.wrap (h_1 + h_2))))) =
 v) ∧ ((api_Attrs.mk (0 : Int) [] (0 : Int) (0 : Int) (0 : Int) [] [], api_Note.mk (3 : Int) (6 : Int) (S62 (sub h.fst (0 : Int) (IntKind.i64.wrap (h_1 +
 h_2))))) = v ∧ (api_Attrs.mk (0 : Int) [] (0 : Int) (0 : Int) (0 : Int) [] [], api_Note.mk (3 : Int) (6 : Int) (S62 (sub h.fst (0 : Int) (IntKind.i64.wrap
 (h_1 + h_2))))) = v) ∧ (api_Attrs.mk (0 : Int) [] (0 : Int) (0 : Int) (0 : Int) [] [], api_Note.mk (3 : Int) (6 : Int) (S62 (sub h.fst (0 : Int)
 (IntKind.i64.wrap (h_1 + h_2))))) = v else (h.snd.snd.snd.snd.snd.snd.fst.length = h.snd.snd.snd.snd.snd.snd.fst.length ∧
 (h.snd.snd.snd.snd.snd.snd.snd.fst.length = h.snd.snd.snd.snd.snd.snd.snd.fst.length ∧ h.snd.snd.snd.snd.snd.snd.snd.fst.length =
 h.snd.snd.snd.snd.snd.snd.snd.fst.length) ∧ nat_lit 0 = nat_lit 0) ∧ J (sub h.fst (IntKind.i64.wrap (h_1 + h_2)) (↑h.fst.length : Int), IntKind.i64.wrap (ix
 (sub h.fst h_1 (IntKind.i64.wrap (h_1 + h_2))) (0 : Int)), h.snd.snd.fst, h.snd.snd.snd.fst, h.snd.snd.snd.snd.fst, h.snd.snd.snd.snd.snd.fst,
 h.snd.snd.snd.snd.snd.snd.fst, h.snd.snd.snd.snd.snd.snd.snd.fst, h.snd.snd.snd.snd.snd.snd.snd.snd.set (IntKind.i64.wrap (ix h.fst (1 : Int))).toNat true)
 else bif decide (IntKind.i64.wrap (ix h.fst (1 : Int)) = (2 : Int)) then ((sub h.fst h_1 (IntKind.i64.wrap (h_1 + h_2))).length ≤ nat_lit 1099511627776 ∧ ∀ (c
 : Int), List.Mem c (sub h.fst h_1 (IntKind.i64.wrap (h_1 + h_2))) → (0 : Int) ≤ c ∧ c ≤ (255 : Int)) ∧ bif !(S65 (sub h.fst h_1 (IntKind.i64.wrap (h_1 +
 h_2)))).snd then Nat.le (nat_lit 0) (nat_lit 140737488355328) ∧ (((api_Attrs.mk (0 : Int) [] (0 : Int) (0 : Int) (0 : Int) [] [], api_Note.mk (3 : Int) (11 :
 Int) (S62 [])) = v ∧ (api_Attrs.mk (0 : Int) [] (0 : Int) (0 : Int) (0 : Int) [] [], api_Note.mk (3 : Int) (11 : Int) (S62 [])) = v) ∧ (api_Attrs.mk (0 : Int)
 [] (0 : Int) (0 : Int) (0 : Int) [] [], api_Note.mk (3 : Int) (11 : Int) (S62 [])) = v) ∧ ((api_Attrs.mk (0 : Int) [] (0 : Int) (0 : Int) (0 : Int) [] [],
 api_Note.mk (3 : Int) (11 : Int) (S62 [])) = v ∧ (api_Attrs.mk (0 : Int) [] (0 : Int) (0 : Int) (0 : Int) [] [], api_Note.mk (3 : Int) (11 : Int) (S62 [])) =
 v) ∧ (api_Attrs.mk (0 : Int) [] (0 : Int) (0 : Int) (0 : Int) [] [], api_Note.mk (3 : Int) (11 : Int) (S62 [])) = v else (h.snd.snd.snd.snd.snd.snd.fst.length
 = h.snd.snd.snd.snd.snd.snd.fst.length ∧ (h.snd.snd.snd.snd.snd.snd.snd.fst.length = h.snd.snd.snd.snd.snd.snd.snd.fst.length ∧
 h.snd.snd.snd.snd.snd.snd.snd.fst.length = h.snd.snd.snd.snd.snd.snd.snd.fst.length) ∧ nat_lit 0 = nat_lit 0) ∧ J (sub h.fst (IntKind.i64.wrap (h_1 + h_2))
 (↑h.fst.length : Int), h.snd.fst, (S65 (sub h.fst h_1 (IntKind.i64.wrap (h_1 + h_2)))).fst, h.snd.snd.snd.fst, h.snd.snd.snd.snd.fst,
 h.snd.snd.snd.snd.snd.fst, h.snd.snd.snd.snd.snd.snd.fst, h.snd.snd.snd.snd.snd.snd.snd.fst, h.snd.snd.snd.snd.snd.snd.snd.snd.set (IntKind.i64.wrap (ix h.fst
 (1 : Int))).toNat true) else bif decide (IntKind.i64.wrap (ix h.fst (1 : Int)) = (3 : Int)) then bif !S27 (S66 (sub h.fst h_1 (IntKind.i64.wrap (h_1 + h_2))))
 then (sub h.fst (0 : Int) (IntKind.i64.wrap (h_1 + h_2))).length.le (nat_lit 140737488355328) ∧ (((api_Attrs.mk (0 : Int) [] (0 : Int) (0 : Int) (0 : Int) []
 [], api_Note.mk (3 : Int) (8 : Int) (S62 (sub h.fst (0 : Int) (IntKind.i64.wrap (h_1 + h_2))))) = v ∧ (api_Attrs.mk (0 : Int) [] (0 : Int) (0 : Int) (0 : Int)
 [] [], api_Note.mk (3 : Int) (8 : Int) (S62 (sub h.fst (0 : Int) (IntKind.i64.wrap (h_1 + h_2))))) = v) ∧ (api_Attrs.mk (0 : Int) [] (0 : Int) (0 : Int) (0 :
 Int) [] [], api_Note.mk (3 : Int) (8 : Int) (S62 (sub h.fst (0 : Int) (IntKind.i64.wrap (h_1 + h_2))))) = v) ∧ ((api_Attrs.mk (0 : Int) [] (0 : Int) (0 : Int)
 (0 : Int) [] [], api_Note.mk (3 : Int) (8 : Int) (S62 (sub h.fst (0 : Int) (IntKind.i64.wrap (h_1 + h_2))))) = v ∧ (api_Attrs.mk (0 : Int) [] (0 : Int) (0 :
 Int) (0 : Int) [] [], api_Note.mk (3 : Int) (8 : Int) (S62 (sub h.fst (0 : Int) (IntKind.i64.wrap (h_1 + h_2))))) = v) ∧ (api_Attrs.mk (0 : Int) [] (0 : Int)
 (0 : Int) (0 : Int) [] [], api_Note.mk (3 : Int) (8 : Int) (S62 (sub h.fst (0 : Int) (IntKind.i64.wrap (h_1 + h_2))))) = v else
 (h.snd.snd.snd.snd.snd.snd.fst.length = h.snd.snd.snd.snd.snd.snd.fst.length ∧ (h.snd.snd.snd.snd.snd.snd.snd.fst.length =
 h.snd.snd.snd.snd.snd.snd.snd.fst.length ∧ h.snd.snd.snd.snd.snd.snd.snd.fst.length = h.snd.snd.snd.snd.snd.snd.snd.fst.length) ∧ nat_lit 0 = nat_lit 0) ∧ J
 (sub h.fst (IntKind.i64.wrap (h_1 + h_2)) (↑h.fst.length : Int), h.snd.fst, h.snd.snd.fst, S66 (sub h.fst h_1 (IntKind.i64.wrap (h_1 + h_2))),
 h.snd.snd.snd.snd.fst, h.snd.snd.snd.snd.snd.fst, h.snd.snd.snd.snd.snd.snd.fst, h.snd.snd.snd.snd.snd.snd.snd.fst, h.snd.snd.snd.snd.snd.snd.snd.snd.set
 (IntKind.i64.wrap (ix h.fst (1 : Int))).toNat true) else bif decide (IntKind.i64.wrap (ix h.fst (1 : Int)) = (4 : Int)) then
 (h.snd.snd.snd.snd.snd.snd.fst.length = h.snd.snd.snd.snd.snd.snd.fst.length ∧ (h.snd.snd.snd.snd.snd.snd.snd.fst.length =
 h.snd.snd.snd.snd.snd.snd.snd.fst.length ∧ h.snd.snd.snd.snd.snd.snd.snd.fst.length = h.snd.snd.snd.snd.snd.snd.snd.fst.length) ∧ nat_lit 0 = nat_lit 0) ∧ J
 (sub h.fst (IntKind.i64.wrap (h_1 + h_2)) (↑h.fst.length : Int), h.snd.fst, h.snd.snd.fst, h.snd.snd.snd.fst, IntKind.i64.wrap (S66 (sub h.fst h_1
 (IntKind.i64.wrap (h_1 + h_2)))), h.snd.snd.snd.snd.snd.fst, h.snd.snd.snd.snd.snd.snd.fst, h.snd.snd.snd.snd.snd.snd.snd.fst,
 h.snd.snd.snd.snd.snd.snd.snd.snd.set (IntKind.i64.wrap (ix h.fst (1 : Int))).toNat true) else bif decide (IntKind.i64.wrap (ix h.fst (1 : Int)) = (5 : Int))
 then (h.snd.snd.snd.snd.snd.snd.fst.length = h.snd.snd.snd.snd.snd.snd.fst.length ∧ (h.snd.snd.snd.snd.snd.snd.snd.fst.length =
 h.snd.snd.snd.snd.snd.snd.snd.fst.length ∧ h.snd.snd.snd.snd.snd.snd.snd.fst.length = h.snd.snd.snd.snd.snd.snd.snd.fst.length) ∧ nat_lit 0 = nat_lit 0) ∧ J
 (sub h.fst (IntKind.i64.wrap (h_1 + h_2)) (↑h.fst.length : Int), h.snd.fst, h.snd.snd.fst, h.snd.snd.snd.fst, h.snd.snd.snd.snd.fst, IntKind.i64.wrap (S66
 (sub h.fst h_1 (IntKind.i64.wrap (h_1 + h_2)))), h.snd.snd.snd.snd.snd.snd.fst, h.snd.snd.snd.snd.snd.snd.snd.fst, h.snd.snd.snd.snd.snd.snd.snd.snd.set
 (IntKind.i64.wrap (ix h.fst (1 : Int))).toNat true) else JP (fun (h_5 : Bool) => bif h_5 then ((0 : Int) ≤ IntKind.i64.wrap (ix h.fst (1 : Int)) ∧
 IntKind.i64.wrap (ix h.fst (1 : Int)) < (↑(nat_lit 9) : Int)) ∧ (sub h.fst h_1 (IntKind.i64.wrap (h_1 + h_2))).length.le (nat_lit 140737488355328) ∧
 (h.snd.snd.snd.snd.snd.snd.snd.fst.length = h.snd.snd.snd.snd.snd.snd.snd.fst.length ∧ h.snd.snd.snd.snd.snd.snd.snd.fst.length =
 h.snd.snd.snd.snd.snd.snd.snd.fst.length ∧ (h.snd.snd.snd.snd.snd.snd.snd.fst.length + [api_Raw.mk (ix [attr_kind.mk (0 : Int) (0 : Int), attr_kind.mk (64 :
 Int) (1 : Int), attr_kind.mk (64 : Int) (-1 : Int), attr_kind.mk (64 : Int) (4 : Int), attr_kind.mk (128 : Int) (4 : Int), attr_kind.mk (64 : Int) (4 : Int),
 attr_kind.mk (64 : Int) (0 : Int), attr_kind.mk (192 : Int) (8 : Int), attr_kind.mk (192 : Int) (-1 : Int)] (IntKind.i64.wrap (ix h.fst (1 : Int)))).fflags
 (IntKind.i64.wrap (ix h.fst (1 : Int))) (S62 (sub h.fst h_1 (IntKind.i64.wrap (h_1 + h_2))))].length) * nat_lit 40 ≤ nat_lit 140737488355328) ∧ ∀ (y : List
 (S.A (45 : Nat))), y = h.snd.snd.snd.snd.snd.snd.snd.fst ++ [api_Raw.mk (ix [attr_kind.mk (0 : Int) (0 : Int), attr_kind.mk (64 : Int) (1 : Int), attr_kind.mk
 (64 : Int) (-1 : Int), attr_kind.mk (64 : Int) (4 : Int), attr_kind.mk (128 : Int) (4 : Int), attr_kind.mk (64 : Int) (4 : Int), attr_kind.mk (64 : Int) (0 :
 Int), attr_kind.mk (192 : Int) (8 : Int), attr_kind.mk (192 : Int) (-1 : Int)] (IntKind.i64.wrap (ix h.fst (1 : Int)))).fflags (IntKind.i64.wrap (ix h.fst (1
 : Int))) (S62 (sub h.fst h_1 (IntKind.i64.wrap (h_1 + h_2))))] → (h.snd.snd.snd.snd.snd.snd.fst.length = h.snd.snd.snd.snd.snd.snd.fst.length ∧ (y.length =
 y.length ∧ y.length = y.length) ∧ nat_lit 0 = nat_lit 0) ∧ J (sub h.fst (IntKind.i64.wrap (h_1 + h_2)) (↑h.fst.length : Int), h.snd.fst, h.snd.snd.fst,
 h.snd.snd.snd.fst, h.snd.snd.snd.snd.fst, h.snd.snd.snd.snd.snd.fst, h.snd.snd.snd.snd.snd.snd.fst, y, h.snd.snd.snd.snd.snd.snd.snd.snd.set (IntKind.i64.wrap
 (ix h.fst (1 : Int))).toNat true) else bif decide (IntKind.i64.wrap (ix h.fst (1 : Int)) = (8 : Int)) then bif decide ((128 : Int) < (↑(sub h.fst h_1
 (IntKind.i64.wrap (h_1 + h_2))).length : Int)) then (sub h.fst (0 : Int) (IntKind.i64.wrap (h_1 + h_2))).length.le (nat_lit 140737488355328) ∧ (((api_Attrs.mk
 (0 : Int) [] (0 : Int) (0 : Int) (0 : Int) [] [], api_Note.mk (3 : Int) (9 : Int) (S62 (sub h.fst (0 : Int) (IntKind.i64.wrap (h_1 + h_2))))) = v ∧
 (api_Attrs.mk (0 : Int) [] (0 : Int) (0 : Int) (0 : Int) [] [], api_Note.mk (3 : Int) (9 : Int) (S62 (sub h.fst (0 : Int) (IntKind.i64.wrap (h_1 + h_2))))) =
 v) ∧ (api_Attrs.mk (0 : Int) [] (0 : Int) (0 : Int) (0 : Int) [] [], api_Note.mk (3 : Int) (9 : Int) (S62 (sub h.fst (0 : Int) (IntKind.i64.wrap (h_1 +
 h_2))))) = v) ∧ ((api_Attrs.mk (0 : Int) [] (0 : Int) (0 : Int) (0 : Int) [] [], api_Note.mk (3 : Int) (9 : Int) (S62 (sub h.fst (0 : Int) (IntKind.i64.wrap
 (h_1 + h_2))))) = v ∧ (api_Attrs.mk (0 : Int) [] (0 : Int) (0 : Int) (0 : Int) [] [], api_Note.mk (3 : Int) (9 : Int) (S62 (sub h.fst (0 : Int)
 (IntKind.i64.wrap (h_1 + h_2))))) = v) ∧ (api_Attrs.mk (0 : Int) [] (0 : Int) (0 : Int) (0 : Int) [] [], api_Note.mk (3 : Int) (9 : Int) (S62 (sub h.fst (0 :
 Int) (IntKind.i64.wrap (h_1 + h_2))))) = v else (h.snd.snd.snd.snd.snd.snd.fst.length = h.snd.snd.snd.snd.snd.snd.fst.length ∧
 (h.snd.snd.snd.snd.snd.snd.snd.fst.length = h.snd.snd.snd.snd.snd.snd.snd.fst.length ∧ h.snd.snd.snd.snd.snd.snd.snd.fst.length =
 h.snd.snd.snd.snd.snd.snd.snd.fst.length) ∧ nat_lit 0 = nat_lit 0) ∧ LOOP (fun (h : List Int × List Int × Int × List api_Segment × Int × Int × Int × List Int
 × List api_Raw × List Bool) (J_1 : List Int × List Int × Int × List api_Segment × Int × Int × Int × List Int × List api_Raw × List Bool → Prop) => bif decide
 ((0 : Int) < (↑h.fst.length : Int)) then (h.snd.snd.snd.snd.snd.snd.snd.fst.length = h.snd.snd.snd.snd.snd.snd.snd.fst.length ∧
 (h.snd.snd.snd.snd.snd.snd.snd.fst.length + [S66 h.fst].length) * nat_lit 4 ≤ nat_lit 140737488355328) ∧ ∀ (y : List (S.A (23 : Nat))), y =
 h.snd.snd.snd.snd.snd.snd.snd.fst ++ [S66 h.fst] → ((0 : Int) ≤ (4 : Int) ∧ (4 : Int) ≤ (↑h.fst.length : Int) ∧ (↑h.fst.length : Int) ≤ (↑h.fst.length : Int))
 ∧ (y.length = y.length ∧ (h.snd.snd.snd.snd.snd.snd.snd.snd.fst.length = h.snd.snd.snd.snd.snd.snd.snd.snd.fst.length ∧
 h.snd.snd.snd.snd.snd.snd.snd.snd.fst.length = h.snd.snd.snd.snd.snd.snd.snd.snd.fst.length) ∧ nat_lit 0 = nat_lit 0) ∧ J_1 (sub h.fst (4 : Int)
 (↑h.fst.length : Int), h.snd.fst, h.snd.snd.fst, h.snd.snd.snd.fst, h.snd.snd.snd.snd.fst, h.snd.snd.snd.snd.snd.fst, h.snd.snd.snd.snd.snd.snd.fst, y,
 h.snd.snd.snd.snd.snd.snd.snd.snd) else (h.snd.snd.snd.snd.snd.snd.snd.fst.length = h.snd.snd.snd.snd.snd.snd.snd.fst.length ∧
 (h.snd.snd.snd.snd.snd.snd.snd.snd.fst.length = h.snd.snd.snd.snd.snd.snd.snd.snd.fst.length ∧ h.snd.snd.snd.snd.snd.snd.snd.snd.fst.length =
 h.snd.snd.snd.snd.snd.snd.snd.snd.fst.length) ∧ nat_lit 0 = nat_lit 0) ∧ J h.snd) (sub h.fst h_1 (IntKind.i64.wrap (h_1 + h_2)), sub h.fst (IntKind.i64.wrap
 (h_1 + h_2)) (↑h.fst.length : Int), h.snd.fst, h.snd.snd.fst, h.snd.snd.snd.fst, h.snd.snd.snd.snd.fst, h.snd.snd.snd.snd.snd.fst,
 h.snd.snd.snd.snd.snd.snd.fst, h.snd.snd.snd.snd.snd.snd.snd.fst, h.snd.snd.snd.snd.snd.snd.snd.snd.set (IntKind.i64.wrap (ix h.fst (1 : Int))).toNat true)
 else (h.snd.snd.snd.snd.snd.snd.fst.length = h.snd.snd.snd.snd.snd.snd.fst.length ∧ (h.snd.snd.snd.snd.snd.snd.snd.fst.length =
 h.snd.snd.snd.snd.snd.snd.snd.fst.length ∧ h.snd.snd.snd.snd.snd.snd.snd.fst.length = h.snd.snd.snd.snd.snd.snd.snd.fst.length) ∧ nat_lit 0 = nat_lit 0) ∧ J
 (sub h.fst (IntKind.i64.wrap (h_1 + h_2)) (↑h.fst.length : Int), h.snd.fst, h.snd.snd.fst, h.snd.snd.snd.fst, h.snd.snd.snd.snd.fst,
 h.snd.snd.snd.snd.snd.fst, h.snd.snd.snd.snd.snd.snd.fst, h.snd.snd.snd.snd.snd.snd.snd.fst, h.snd.snd.snd.snd.snd.snd.snd.snd.set (IntKind.i64.wrap (ix h.fst
 (1 : Int))).toNat true)) fun (J : Bool → Prop) => bif decide (IntKind.i64.wrap (ix h.fst (1 : Int)) = (6 : Int)) then J (decide (IntKind.i64.wrap (ix h.fst (1
 : Int)) = (6 : Int))) else J (decide (IntKind.i64.wrap (ix h.fst (1 : Int)) = (7 : Int)))) fun (J : Bool → Prop) => bif decide ((0 : Int) ≤ (ix [attr_kind.mk
 (0 : Int) (0 : Int), attr_kind.mk (64 : Int) (1 : Int), attr_kind.mk (64 : Int) (-1 : Int), attr_kind.mk (64 : Int) (4 : Int), attr_kind.mk (128 : Int) (4 :
 Int), attr_kind.mk (64 : Int) (4 : Int), attr_kind.mk (64 : Int) (0 : Int), attr_kind.mk (192 : Int) (8 : Int), attr_kind.mk (192 : Int) (-1 : Int)]
 (IntKind.i64.wrap (ix h.fst (1 : Int)))).fsize) && !decide ((↑(sub h.fst h_1 (IntKind.i64.wrap (h_1 + h_2))).length : Int) = (ix [attr_kind.mk (0 : Int) (0 :
 Int), attr_kind.mk (64 : Int) (1 : Int), attr_kind.mk (64 : Int) (-1 : Int), attr_kind.mk (64 : Int) (4 : Int), attr_kind.mk (128 : Int) (4 : Int),
 attr_kind.mk (64 : Int) (4 : Int), attr_kind.mk (64 : Int) (0 : Int), attr_kind.mk (192 : Int) (8 : Int), attr_kind.mk (192 : Int) (-1 : Int)]
 (IntKind.i64.wrap (ix h.fst (1 : Int)))).fsize) then J (decide ((0 : Int) ≤ (ix [attr_kind.mk (0 : Int) (0 : Int), attr_kind.mk (64 : Int) (1 : Int),
 attr_kind.mk (64 : Int) (-1 : Int), attr_kind.mk (64 : Int) (4 : Int), attr_kind.mk (128 : Int) (4 : Int), attr_kind.mk (64 : Int) (4 : Int), attr_kind.mk (64
 : Int) (0 : Int), attr_kind.mk (192 : Int) (8 : Int), attr_kind.mk (192 : Int) (-1 : Int)] (IntKind.i64.wrap (ix h.fst (1 : Int)))).fsize) && !decide ((↑(sub
 h.fst h_1 (IntKind.i64.wrap (h_1 + h_2))).length : Int) = (ix [attr_kind.mk (0 : Int) (0 : Int), attr_kind.mk (64 : Int) (1 : Int), attr_kind.mk (64 : Int)
 (-1 : Int), attr_kind.mk (64 : Int) (4 : Int), attr_kind.mk (128 : Int) (4 : Int), attr_kind.mk (64 : Int) (4 : Int), attr_kind.mk (64 : Int) (0 : Int),
 attr_kind.mk (192 : Int) (8 : Int), attr_kind.mk (192 : Int) (-1 : Int)] (IntKind.i64.wrap (ix h.fst (1 : Int)))).fsize)) else J (decide (IntKind.i64.wrap (ix
 h.fst (1 : Int)) = (8 : Int)) && (decide ((↑(sub h.fst h_1 (IntKind.i64.wrap (h_1 + h_2))).length : Int) = (0 : Int)) || !decide ((↑(sub h.fst h_1
 (IntKind.i64.wrap (h_1 + h_2))).length : Int).tmod (4 : Int) = (0 : Int))))) fun (J : Int → Prop) => bif !decide ((ix [attr_kind.mk (0 : Int) (0 : Int),
 attr_kind.mk (64 : Int) (1 : Int), attr_kind.mk (64 : Int) (-1 : Int), attr_kind.mk (64 : Int) (4 : Int), attr_kind.mk (128 : Int) (4 : Int), attr_kind.mk (64
 : Int) (4 : Int), attr_kind.mk (64 : Int) (0 : Int), attr_kind.mk (192 : Int) (8 : Int), attr_kind.mk (192 : Int) (-1 : Int)] (IntKind.i64.wrap (ix h.fst (1 :
 Int)))).fflags = (192 : Int)) then J (ior IntKind.i64 (192 : Int) (32 : Int)) else J (192 : Int) else bif decide (iand IntKind.i64 (IntKind.i64.wrap (ix h.fst
 (0 : Int))) (128 : Int) = (0 : Int)) then (sub h.fst (0 : Int) (IntKind.i64.wrap (h_1 + h_2))).length.le (nat_lit 140737488355328) ∧ (((api_Attrs.mk (0 : Int)
 [] (0 : Int) (0 : Int) (0 : Int) [] [], api_Note.mk (3 : Int) (2 : Int) (S62 (sub h.fst (0 : Int) (IntKind.i64.wrap (h_1 + h_2))))) = v ∧ (api_Attrs.mk (0 :
 Int) [] (0 : Int) (0 : Int) (0 : Int) [] [], api_Note.mk (3 : Int) (2 : Int) (S62 (sub h.fst (0 : Int) (IntKind.i64.wrap (h_1 + h_2))))) = v) ∧ (api_Attrs.mk
 (0 : Int) [] (0 : Int) (0 : Int) (0 : Int) [] [], api_Note.mk (3 : Int) (2 : Int) (S62 (sub h.fst (0 : Int) (IntKind.i64.wrap (h_1 + h_2))))) = v) ∧
 ((api_Attrs.mk (0 : Int) [] (0 : Int) (0 : Int) (0 : Int) [] [], api_Note.mk (3 : Int) (2 : Int) (S62 (sub h.fst (0 : Int) (IntKind.i64.wrap (h_1 + h_2))))) =
 v ∧ (api_Attrs.mk (0 : Int) [] (0 : Int) (0 : Int) (0 : Int) [] [], api_Note.mk (3 : Int) (2 : Int) (S62 (sub h.fst (0 : Int) (IntKind.i64.wrap (h_1 +
 h_2))))) = v) ∧ (api_Attrs.mk (0 : Int) [] (0 : Int) (0 : Int) (0 : Int) [] [], api_Note.mk (3 : Int) (2 : Int) (S62 (sub h.fst (0 : Int) (IntKind.i64.wrap
 (h_1 + h_2))))) = v else bif decide (iand IntKind.i64 (IntKind.i64.wrap (ix h.fst (0 : Int))) (64 : Int) = (0 : Int)) then
 (h.snd.snd.snd.snd.snd.snd.fst.length = h.snd.snd.snd.snd.snd.snd.fst.length ∧ (h.snd.snd.snd.snd.snd.snd.snd.fst.length =
 h.snd.snd.snd.snd.snd.snd.snd.fst.length ∧ h.snd.snd.snd.snd.snd.snd.snd.fst.length = h.snd.snd.snd.snd.snd.snd.snd.fst.length) ∧ nat_lit 0 = nat_lit 0) ∧ J
 (sub h.fst (IntKind.i64.wrap (h_1 + h_2)) (↑h.fst.length : Int), h.snd.fst, h.snd.snd.fst, h.snd.snd.snd.fst, h.snd.snd.snd.snd.fst,
 h.snd.snd.snd.snd.snd.fst, h.snd.snd.snd.snd.snd.snd.fst, h.snd.snd.snd.snd.snd.snd.snd.fst, h.snd.snd.snd.snd.snd.snd.snd.snd.set (IntKind.i64.wrap (ix h.fst
 (1 : Int))).toNat true) else bif decide ((255 : Int) < (↑(sub h.fst h_1 (IntKind.i64.wrap (h_1 + h_2))).length : Int)) then (sub h.fst (0 : Int)
 (IntKind.i64.wrap (h_1 + h_2))).length.le (nat_lit 140737488355328) ∧ (((api_Attrs.mk (0 : Int) [] (0 : Int) (0 : Int) (0 : Int) [] [], api_Note.mk (3 : Int)
 (9 : Int) (S62 (sub h.fst (0 : Int) (IntKind.i64.wrap (h_1 + h_2))))) = v ∧ (api_Attrs.mk (0 : Int) [] (0 : Int) (0 : Int) (0 : Int) [] [], api_Note.mk (3 :
 Int) (9 : Int) (S62 (sub h.fst (0 : Int) (IntKind.i64.wrap (h_1 + h_2))))) = v) ∧ (api_Attrs.mk (0 : Int) [] (0 : Int) (0 : Int) (0 : Int) [] [], api_Note.mk
 (3 : Int) (9 : Int) (S62 (sub h.fst (0 : Int) (IntKind.i64.wrap (h_1 + h_2))))) = v) ∧ ((api_Attrs.mk (0 : Int) [] (0 : Int) (0 : Int) (0 : Int) [] [],
 api_Note.mk (3 : Int) (9 : Int) (S62 (sub h.fst (0 : Int) (IntKind.i64.wrap (h_1 + h_2))))) = v ∧ (api_Attrs.mk (0 : Int) [] (0 : Int) (0 : Int) (0 : Int) []
 [], api_Note.mk (3 : Int) (9 : Int) (S62 (sub h.fst (0 : Int) (IntKind.i64.wrap (h_1 + h_2))))) = v) ∧ (api_Attrs.mk (0 : Int) [] (0 : Int) (0 : Int) (0 :
 Int) [] [], api_Note.mk (3 : Int) (9 : Int) (S62 (sub h.fst (0 : Int) (IntKind.i64.wrap (h_1 + h_2))))) = v else bif decide ((8 : Int) < IntKind.i64.wrap (ix
 h.fst (1 : Int))) then (sub h.fst h_1 (IntKind.i64.wrap (h_1 + h_2))).length.le (nat_lit 140737488355328) ∧ (h.snd.snd.snd.snd.snd.snd.snd.fst.length =
 h.snd.snd.snd.snd.snd.snd.snd.fst.length ∧ h.snd.snd.snd.snd.snd.snd.snd.fst.length = h.snd.snd.snd.snd.snd.snd.snd.fst.length ∧
 (h.snd.snd.snd.snd.snd.snd.snd.fst.length + [api_Raw.mk (224 : Int) (IntKind.i64.wrap (ix h.fst (1 : Int))) (S62 (sub h.fst h_1 (IntKind.i64.wrap (h_1 +
 h_2))))].length) * nat_lit 40 ≤ nat_lit 140737488355328) ∧ ∀ (y : List (S.A (45 : Nat))), y = h.snd.snd.snd.snd.snd.snd.snd.fst ++ [api_Raw.mk (224 : Int)
 (IntKind.i64.wrap (ix h.fst (1 : Int))) (S62 (sub h.fst h_1 (IntKind.i64.wrap (h_1 + h_2))))] → (h.snd.snd.snd.snd.snd.snd.fst.length =
 h.snd.snd.snd.snd.snd.snd.fst.length ∧ (y.length = y.length ∧ y.length = y.length) ∧ nat_lit 0 = nat_lit 0) ∧ J (sub h.fst (IntKind.i64.wrap (h_1 + h_2))
 (↑h.fst.length : Int), h.snd.fst, h.snd.snd.fst, h.snd.snd.snd.fst, h.snd.snd.snd.snd.fst, h.snd.snd.snd.snd.snd.fst, h.snd.snd.snd.snd.snd.snd.fst, y,
 h.snd.snd.snd.snd.snd.snd.snd.snd.set (IntKind.i64.wrap (ix h.fst (1 : Int))).toNat true) else (h.snd.snd.snd.snd.snd.snd.fst.length =
 h.snd.snd.snd.snd.snd.snd.fst.length ∧ (h.snd.snd.snd.snd.snd.snd.snd.fst.length = h.snd.snd.snd.snd.snd.snd.snd.fst.length ∧
 h.snd.snd.snd.snd.snd.snd.snd.fst.length = h.snd.snd.snd.snd.snd.snd.snd.fst.length) ∧ nat_lit 0 = nat_lit 0) ∧ J (sub h.fst (IntKind.i64.wrap (h_1 + h_2))
 (↑h.fst.length : Int), h.snd.fst, h.snd.snd.fst, h.snd.snd.snd.fst, h.snd.snd.snd.snd.fst, h.snd.snd.snd.snd.snd.fst, h.snd.snd.snd.snd.snd.snd.fst,
 h.snd.snd.snd.snd.snd.snd.snd.fst, h.snd.snd.snd.snd.snd.snd.snd.snd.set (IntKind.i64.wrap (ix h.fst (1 : Int))).toNat true)) fun (J : Int → Prop) => bif
 decide ((3 : Int) < h_1) then ((0 : Int) ≤ (3 : Int) ∧ (3 : Int) < (↑h.fst.length : Int)) ∧ J (ior IntKind.i64 (IntKind.i64.wrap (IntKind.i64.wrap (ix h.fst
 (2 : Int)) * (2 : Int) ^ nat_lit 8)) (IntKind.i64.wrap (ix h.fst (3 : Int)))) else J (IntKind.i64.wrap (ix h.fst (2 : Int)))) fun (J : Int → Prop) => (decide
 ((0 : Int) < (↑h.fst.length : Int)) = true → (0 : Int) ≤ (0 : Int) ∧ (0 : Int) < (↑h.fst.length : Int)) ∧ bif decide ((0 : Int) < (↑h.fst.length : Int)) &&
 !decide (iand IntKind.u8 (ix h.fst (0 : Int)) (16 : Int) = (0 : Int)) then J (IntKind.i64.wrap ((3 : Int) + (1 : Int))) else J (3 : Int) else LOOP (fun (h_1 :
 Int) (J : Int → Prop) => bif decide (h_1 < (↑(nat_lit 3) : Int)) then ((0 : Int) ≤ h_1 ∧ h_1 < (↑(nat_lit 3) : Int)) ∧ ((0 : Int) ≤ ix [(1 : Int), (2 : Int),
 (3 : Int)] h_1 ∧ ix [(1 : Int), (2 : Int), (3 : Int)] h_1 < (↑(nat_lit 256) : Int)) ∧ (ix [(1 : Int), (2 : Int), (3 : Int)] h_1).toNat <
 h.snd.snd.snd.snd.snd.snd.snd.snd.length ∧ bif !ix h.snd.snd.snd.snd.snd.snd.snd.snd (ix [(1 : Int), (2 : Int), (3 : Int)] h_1) then [IntKind.u8.wrap (ix [(1
 : Int), (2 : Int), (3 : Int)] h_1)].length.le (nat_lit 140737488355328) ∧ (((api_Attrs.mk (0 : Int) [] (0 : Int) (0 : Int) (0 : Int) [] [], api_Note.mk (3 :
 Int) (3 : Int) (S62 [IntKind.u8.wrap (ix [(1 : Int), (2 : Int), (3 : Int)] h_1)])) = v ∧ (api_Attrs.mk (0 : Int) [] (0 : Int) (0 : Int) (0 : Int) [] [],
 api_Note.mk (3 : Int) (3 : Int) (S62 [IntKind.u8.wrap (ix [(1 : Int), (2 : Int), (3 : Int)] h_1)])) = v) ∧ (api_Attrs.mk (0 : Int) [] (0 : Int) (0 : Int) (0 :
 Int) [] [], api_Note.mk (3 : Int) (3 : Int) (S62 [IntKind.u8.wrap (ix [(1 : Int), (2 : Int), (3 : Int)] h_1)])) = v) ∧ ((api_Attrs.mk (0 : Int) [] (0 : Int)
 (0 : Int) (0 : Int) [] [], api_Note.mk (3 : Int) (3 : Int) (S62 [IntKind.u8.wrap (ix [(1 : Int), (2 : Int), (3 : Int)] h_1)])) = v ∧ (api_Attrs.mk (0 : Int)
 [] (0 : Int) (0 : Int) (0 : Int) [] [], api_Note.mk (3 : Int) (3 : Int) (S62 [IntKind.u8.wrap (ix [(1 : Int), (2 : Int), (3 : Int)] h_1)])) = v) ∧
 (api_Attrs.mk (0 : Int) [] (0 : Int) (0 : Int) (0 : Int) [] [], api_Note.mk (3 : Int) (3 : Int) (S62 [IntKind.u8.wrap (ix [(1 : Int), (2 : Int), (3 : Int)]
 h_1)])) = v else J (IntKind.i64.wrap (h_1 + (1 : Int))) else ((h.snd.snd.snd.snd.snd.snd.snd.fst.length = h.snd.snd.snd.snd.snd.snd.snd.fst.length ∧
 h.snd.snd.snd.snd.snd.snd.snd.fst.length = h.snd.snd.snd.snd.snd.snd.snd.fst.length) ∧ h.snd.snd.snd.snd.snd.snd.snd.fst.length ≤ nat_lit 1000 ∧ ∀ (r :
 api_Raw), List.Mem r h.snd.snd.snd.snd.snd.snd.snd.fst → (0 : Int) ≤ r.fType ∧ r.fType ≤ (255 : Int)) ∧ ∀ (y : List (S.A (45 : Nat))), y.Perm
 h.snd.snd.snd.snd.snd.snd.snd.fst → List.Pairwise (fun (x y : api_Raw) => x.fType ≤ y.fType) y → (h.snd.snd.snd.snd.snd.snd.snd.fst.length = y.length ∧
 y.length = y.length) ∧ (api_Attrs.mk h.snd.fst h.snd.snd.fst h.snd.snd.snd.fst h.snd.snd.snd.snd.fst h.snd.snd.snd.snd.snd.fst h.snd.snd.snd.snd.snd.snd.fst
 y, api_Note.mk (0 : Int) (0 : Int) []) = v) (0 : Int)) (x0, (0 : Int), [], (0 : Int), (-1 : Int), (-1 : Int), [], [], (List.replicate 256 false))) := by
 kernel_rfl
end Go.Rx
/-! What attr.Decode reads. -/
namespace Go.Rx
open Go.Ab Go.L7
set_option linter.unusedVariables false
set_option maxRecDepth 100000
theorem six {p : Prop} (h : p) : ((p ∧ p) ∧ p) ∧ (p ∧ p) ∧ p := ⟨⟨⟨h, h⟩, h⟩, ⟨h, h⟩, h⟩
theorem ior_shift {x y : Int} (hx : 0 ≤ x ∧ x ≤ 255) (hy : 0 ≤ y ∧ y ≤ 255) : ior .i64 (x * 256) y = x * 256 + y := by
  rw [ior64 (by omega) (by omega)]
  have h := Nat.shiftLeft_add_eq_or_of_lt (i := 8) (b := y.toNat) (by omega) x.toNat
  rw [Nat.shiftLeft_eq] at h
  have e : (x * 256).toNat = x.toNat * 2 ^ 8 := by omega
  rw [e, ← h]
  omega
theorem words_fuel : ∀ (f g : Nat) (d : List Int), d.length ≤ f → d.length ≤ g → words f d = words g d
  | 0, g, d, h1, h2 => by
    have : d = [] := List.eq_nil_of_length_eq_zero (by omega)
    cases g <;> simp [words, this]
  | f + 1, 0, d, h1, h2 => by
    have : d = [] := List.eq_nil_of_length_eq_zero (by omega)
    simp [words, this]
  | f + 1, g + 1, d, h1, h2 => by
    simp only [words]
    split
    · rfl
    · rename_i h
      have : 0 < d.length := List.length_pos_iff.2 h
      rw [words_fuel f g _ (by rw [List.length_drop]; omega) (by rw [List.length_drop]; omega)]
theorem words_len : ∀ (f : Nat) (d : List Int), (words f d).length ≤ d.length
  | 0, d => by simp [words]
  | f + 1, d => by
    simp only [words]
    split
    · simp
    · rename_i h
      have : 0 < d.length := List.length_pos_iff.2 h
      have := words_len f (d.drop 4)
      rw [List.length_drop] at this
      simp
      omega
theorem count_set_true {l : List Bool} {i : Nat} (h : i < l.length) (hf : l[i] = false) : (l.set i true).count true = l.count true + 1 := by
  rw [List.count_set h, hf]; simp
/-- The list that a sort comes to, where no two are alike. -/
theorem sortR_eq {l y : List api_Raw} (hp : y.Perm l) (hs : y.Pairwise R52) (hn : (l.map (·.fType)).Nodup) : y = sortR l := by
  refine List.Perm.eq_of_pairwise (le := fun (a b : api_Raw) => a.fType ≤ b.fType) (fun a b ha hb h1 h2 => ?_) hs ?_ (hp.trans (List.mergeSort_perm _ _).symm)
  · have ha := hp.mem_iff.1 ha
    have hb := (List.mergeSort_perm _ _).mem_iff.1 hb
    have he : a.fType = b.fType := by omega
    obtain ⟨i, hi, rfl⟩ := List.getElem_of_mem ha
    obtain ⟨j, hj, rfl⟩ := List.getElem_of_mem hb
    have := (List.nodup_iff_pairwise_ne.1 hn)
    by_cases hij : i = j
    · subst hij; rfl
    · exfalso
      have key : ∀ i j (hi : i < l.length) (hj : j < l.length), i < j → l[i].fType ≠ l[j].fType := by
        intro i j hi hj hlt
        have := List.pairwise_iff_getElem.1 this i j (by simpa using hi) (by simpa using hj) hlt
        simpa using this
      rcases Nat.lt_or_gt_of_ne hij with h | h
      · exact key i j hi hj h he
      · exact key j i hj hi h he.symm
  · have := List.pairwise_mergeSort (le := fun (x y : api_Raw) => decide (x.fType ≤ y.fType)) (fun a b c h1 h2 => by simp at *; omega) (fun a b => by simp; omega) l
    exact this.imp fun h => by simpa using h
/-- What is so of the reader, ahead of every attribute. -/
structure RdI (v : api_Attrs × api_Note) (b : List Int) (a : api_Attrs) (seen : List Bool) : Prop where
  by_ : By b
  len : b.length ≤ 549755813888
  cm : a.fComms.length + b.length ≤ 549755813888
  sn : seen.length = 256
  rl : a.fRaws.length ≤ seen.count true
  rt : ∀ r ∈ a.fRaws, 0 ≤ r.fType ∧ r.fType ≤ 255 ∧ ix seen r.fType = true
  nd : (a.fRaws.map (·.fType)).Nodup
  dec : ∃ f, b.length ≤ f ∧ decA f b a seen = v
theorem ix_set_ne {l : List Bool} {i : Nat} {j : Int} {x : Bool} (h : j.toNat ≠ i) : ix (l.set i x) j = ix l j := by
  unfold ix; rw [List.getD_eq_getElem?_getD, List.getD_eq_getElem?_getD, List.getElem?_set_ne (Ne.symm h)]
theorem ix_set_eq {l : List Bool} {i : Nat} {j : Int} {x : Bool} (h : j.toNat = i) (hi : i < l.length) : ix (l.set i x) j = x := by
  unfold ix; subst h; rw [List.getD_eq_getElem?_getD, List.getElem?_set_self hi]; rfl
/-- A step forth. -/
theorem RdI.next {v : api_Attrs × api_Note} {b : List Int} {a a' : api_Attrs} {seen : List Bool} (h : RdI v b a seen) {t : Int} {k f : Nat} {d : List Int} (hk : 1 ≤ k) (hkl : k ≤ b.length) (hd : d.length ≤ k) (ht : 0 ≤ t ∧ t ≤ 255) (hs : ix seen t = false) (hcm : a'.fComms.length ≤ a.fComms.length + d.length)
    (hrw : a'.fRaws = a.fRaws ∨ ∃ fl, a'.fRaws = a.fRaws ++ [⟨fl, t, d⟩]) (hf : (b.drop k).length ≤ f) (hv : decA f (b.drop k) a' (seen.set t.toNat true) = v) : RdI v (b.drop k) a' (seen.set t.toNat true) := by
  have hlt : t.toNat < seen.length := by rw [h.sn]; omega
  have hs' : seen[t.toNat] = false := by
    unfold ix at hs; rw [List.getD_eq_getElem?_getD, List.getElem?_eq_getElem hlt] at hs; exact hs
  have hc := count_set_true hlt hs'
  refine ⟨By.drop h.by_ _, by rw [List.length_drop]; have := h.len; omega, by rw [List.length_drop]; have := h.cm; omega, by simp [h.sn], ?_, ?_, ?_, f, hf, hv⟩
  · rw [hc]
    have := h.rl
    rcases hrw with e | ⟨fl, e⟩ <;> rw [e]
    · omega
    · simp; omega
  · have old : ∀ r ∈ a.fRaws, 0 ≤ r.fType ∧ r.fType ≤ 255 ∧ ix (seen.set t.toNat true) r.fType = true := by
      intro r hr
      obtain ⟨h1, h2, h3⟩ := h.rt r hr
      refine ⟨h1, h2, ?_⟩
      by_cases he : r.fType.toNat = t.toNat
      · exact ix_set_eq he hlt
      · rw [ix_set_ne he]; exact h3
    rcases hrw with e | ⟨fl, e⟩ <;> rw [e]
    · exact old
    · intro r hr
      rcases List.mem_append.1 hr with hr | hr
      · exact old r hr
      · obtain rfl := List.mem_singleton.1 hr
        exact ⟨ht.1, ht.2, ix_set_eq rfl hlt⟩
  · rcases hrw with e | ⟨fl, e⟩ <;> rw [e]
    · exact h.nd
    · rw [List.map_append, List.nodup_append]
      refine ⟨h.nd, by simp, fun x hx y hy e => ?_⟩
      obtain ⟨r, hr, rfl⟩ := List.mem_map.1 hx
      have : y = t := by simpa using hy
      have h3 := (h.rt r hr).2.2
      rw [e, this, hs] at h3
      cases h3
end Go.Rx
namespace Go.Rx
open Go.Ab Go.L7
set_option linter.unusedVariables false
set_option maxRecDepth 100000
abbrev W17 : CT S [27, 34] [30] := fun x0 => (some (P17 x0), S17 x0)
@[irreducible] def Xg17 (x : List Int) (v : HR S [27, 34]) : Prop := Xg C17 8 ((Ab.look C17.ann 17).getD []) fn17 D17 (argsA C17 [⟨30, x⟩]) (isR C17.P [27, 34] v)
set_option maxHeartbeats 400000 in
theorem main17 (x : List Int) (hp : P17 x) (v : api_Attrs × api_Note) (hv : S17 x = v) : Xg17 x v := by
  unfold Xg17
  rw [q17 x v]
  refine And.intro (Eq.refl _) ?_
  refine LOOP.of (fun h => RdI v h.1 ⟨h.2.1, h.2.2.1, h.2.2.2.1, h.2.2.2.2.1, h.2.2.2.2.2.1, h.2.2.2.2.2.2.1, h.2.2.2.2.2.2.2.1⟩ h.2.2.2.2.2.2.2.2) (fun h => h.1.length) ?_ ?_
  · exact ⟨hp.2, hp.1, by simpa using hp.1, by simp, by simp, fun r hr => (by cases hr), by simp, _, Nat.le_refl _, hv⟩
  rintro ⟨b, o, p, nx, md, pf, cm, ra, seen⟩ hI J hJ
  dsimp only at hI ⊢
  refine bif_of (fun h => ?_) (fun h => ?_)
  · have h0 : 0 < b.length := by have := of_decide_eq_true h; omega
    have hne : b ≠ [] := fun e => by rw [e] at h0; cases h0
    obtain ⟨f, hf, hd⟩ := hI.dec
    obtain ⟨f, rfl⟩ : ∃ g, f = g + 1 := ⟨f - 1, by omega⟩
    simp only [decA, if_neg hne] at hd
    have rg : ∀ i : Int, 0 ≤ i → i < (b.length : Int) → 0 ≤ ix b i ∧ ix b i ≤ 255 := fun i h1 h2 => hI.by_ _ (ix_mem h1 h2)
    have hll := hI.len
    have hh : headL b = 3 ∨ headL b = 4 := by unfold headL; split <;> simp
    refine JP.of (fun n => n = (headL b : Int)) (fun J hJ => ⟨fun _ => ⟨Int.le_refl _, by omega⟩, bif_of (fun e => hJ _ ?_) (fun e => hJ _ ?_)⟩) fun hd1 hhd => ?_
    · simp only [Bool.and_eq_true, Bool.not_eq_true', decide_eq_false_iff_not] at e
      simp only [headL, if_neg e.2]; rfl
    · simp only [Bool.and_eq_false_iff, Bool.not_eq_false', decide_eq_true_eq, h, Bool.true_eq_false, false_or] at e
      simp only [headL, if_pos e]; rfl
    subst hhd
    refine bif_of (fun e => ⟨Nat.zero_le _, six ?_⟩) (fun e => ?_)
    · rw [if_pos (by have := of_decide_eq_true e; omega)] at hd
      exact hd
    have hl1 : headL b ≤ b.length := by have := of_decide_eq_false e; omega
    rw [if_neg (by omega)] at hd
    refine ⟨⟨by omega, by omega⟩, ?_⟩
    have r2 := rg 2 (by omega) (by omega)
    have r1 := rg 1 (by omega) (by omega)
    have r0 := rg 0 (by omega) (by omega)
    refine JP.of (fun n => n = sizeL b) (fun J hJ => bif_of (fun e => ⟨⟨by omega, ?_⟩, hJ _ ?_⟩) (fun e => hJ _ ?_)) fun sz hsz => ?_
    · have := of_decide_eq_true e; omega
    · have h4 : headL b = 4 := by have := of_decide_eq_true e; omega
      have r3 := rg 3 (by omega) (by omega)
      have hi : ¬ (iand IntKind.u8 (ix b 0) 16 = 0) := by intro hi; simp only [headL, if_pos hi] at h4; omega
      simp only [sizeL, if_neg hi]
      rw [wrap64 (n := ix b 2) (by omega), wrap64 (n := ix b 3) (by omega), show (2 : Int) ^ 8 = 256 from rfl, wrap64 (by omega)]
      exact ior_shift r2 r3
    · have h3 : headL b = 3 := by have := of_decide_eq_false e; omega
      have hi : iand IntKind.u8 (ix b 0) 16 = 0 := by
        by_cases hi : iand IntKind.u8 (ix b 0) 16 = 0
        · exact hi
        · simp only [headL, if_neg hi] at h3; omega
      simp only [sizeL, if_pos hi]
      exact wrap64 (by omega)
    have hsr : 0 ≤ sizeL b ∧ sizeL b ≤ 65535 := by
      unfold sizeL
      by_cases hi : iand IntKind.u8 (ix b 0) 16 = 0
      · rw [if_pos hi]; omega
      · have h4 : headL b = 4 := by simp only [headL, if_neg hi]
        have r3 := rg 3 (by omega) (by omega)
        rw [if_neg hi]; omega
    subst hsz
    rw [wrap64 (n := (b.length : Int) - (headL b : Int)) (by omega)]
    refine bif_of (fun e => ⟨Nat.zero_le _, six ?_⟩) (fun e => ?_)
    · rw [if_pos (of_decide_eq_true e)] at hd
      exact hd
    have hl2 := of_decide_eq_false e
    rw [if_neg hl2] at hd
    generalize hk : headL b + (sizeL b).toNat = k at hd
    have hkl : k ≤ b.length := by omega
    have hkW : IntKind.i64.wrap ((headL b : Int) + sizeL b) = (k : Int) := by rw [wrap64 (by omega)]; omega
    have hall : sub b 0 (k : Int) = b.take k := by simp [sub]
    have hdat : sub b (headL b : Int) (k : Int) = (b.take k).drop (headL b) := by simp [sub]
    have hrest : sub b (k : Int) (b.length : Int) = b.drop k := sub_drop b (by simp)
    rw [hkW, hall, hdat, hrest, wrap64 (n := ix b 1) (by omega), wrap64 (n := ix b 0) (by omega)]
    generalize htt : ix b 1 = t at *
    generalize hff : ix b 0 = fl at *
    refine ⟨⟨by omega, by omega⟩, ⟨by omega, by omega⟩, ⟨by omega, by omega, by omega⟩, ⟨by omega, by omega, by omega⟩, ⟨by omega, by omega, by omega⟩, ⟨by omega, by show t < 256; omega⟩, by rw [hI.sn]; omega, ?_⟩
    refine bif_of (fun e => ⟨Nat.zero_le _, six ?_⟩) (fun hs => ⟨⟨by omega, by show t < 256; omega⟩, by rw [hI.sn]; omega, ?_⟩)
    · rw [if_pos e] at hd; exact hd
    rw [if_neg (by simp [hs])] at hd
    have hBa : By (b.take k) := By.take hI.by_ _
    have hal : (b.take k).length = k := by rw [List.length_take]; omega
    generalize hA : b.take k = all at *
    have hBd : By (all.drop (headL b)) := By.drop hBa _
    have hdl : (all.drop (headL b)).length ≤ k := by rw [List.length_drop]; omega
    generalize hD : all.drop (headL b) = d at *
    have hthrow : ∀ s x, attrA fl t all d ⟨o, p, nx, md, pf, cm, ra⟩ = .inl (s, x) → throwN s x = v := fun s x he => by rw [he] at hd; exact hd
    have hgo : ∀ a', attrA fl t all d ⟨o, p, nx, md, pf, cm, ra⟩ = .inr a' → a'.fComms.length ≤ cm.length + d.length → (a'.fRaws = ra ∨ ∃ fl', a'.fRaws = ra ++ [⟨fl', t, d⟩]) → J (b.drop k, a'.fOrigin, a'.fPath, a'.fNext, a'.fMed, a'.fPref, a'.fComms, a'.fRaws, seen.set t.toNat true) := by
      intro a' he hc hr
      rw [he] at hd
      exact hJ _ (hI.next (t := t) (k := k) (f := f) (d := d) (by omega) hkl hdl r1 hs hc hr (by rw [List.length_drop]; omega) hd) (by show (b.drop k).length < b.length; rw [List.length_drop]; omega)
    have p62 : ∀ {l : List Int}, l.length ≤ 549755813888 → l.length.le 140737488355328 := fun h => Nat.le_trans h (by decide)
    have hall6 : all.length.le 140737488355328 := p62 (by omega)
    have hd6 : d.length.le 140737488355328 := p62 (by omega)
    have hrc : (ra.length + 1) * 40 ≤ 140737488355328 := by
      have h1 := hI.rl
      have h2 : seen.count true ≤ seen.length := List.count_le_length
      rw [hI.sn] at h2
      have h1 : ra.length ≤ seen.count true := h1
      omega
    refine bif_of (fun e => ⟨⟨by omega, ?_⟩, ?_⟩) (fun e => ?_)
    · simp only [Bool.and_eq_true, decide_eq_true_eq] at e; show t < 9; omega
    · have ht : 1 ≤ t ∧ t ≤ 8 := by simpa using e
      simp only [attrA, if_pos ht, knownA] at hthrow hgo
      rw [show ([attr_kind.mk 0 0, attr_kind.mk 64 1, attr_kind.mk 64 (-1), attr_kind.mk 64 4, attr_kind.mk 128 4, attr_kind.mk 64 4, attr_kind.mk 64 0, attr_kind.mk 192 8, attr_kind.mk 192 (-1)] : List attr_kind) = kinds from rfl]
      generalize hkk : ix kinds t = kk at *
      refine JP.of (fun n => n = if kk.fflags = 192 then 192 else 224) (fun J hJ => bif_of (fun e => hJ _ ?_) (fun e => hJ _ ?_)) fun mk hmk => ?_
      · rw [if_neg (by simpa using e)]; rfl
      · rw [if_pos (by simpa using e)]
      subst hmk
      refine bif_of (fun e => ⟨hall6, six (hthrow 4 all ?_)⟩) (fun e => ?_)
      · rw [if_pos (by simpa using e)]
      simp only [if_neg (show ¬ (iand IntKind.i64 fl (if kk.fflags = 192 then 192 else 224) ≠ kk.fflags) by simpa using e)] at hthrow hgo
      generalize hc5 : ((decide (0 ≤ kk.fsize) && !decide ((d.length : Int) = kk.fsize)) || (decide (t = 8) && (decide ((d.length : Int) = 0) || !decide ((d.length : Int).tmod 4 = 0)))) = c5 at hthrow hgo
      refine JP.of (fun bb => bb = c5) (fun J hJ => bif_of (fun e => hJ _ ?_) (fun e => hJ _ ?_)) fun bb hbb => ?_
      · rw [← hc5, e]; rfl
      · rw [← hc5, e]; rfl
      subst hbb
      refine bif_of (fun e => ⟨hall6, six (hthrow 5 all ?_)⟩) (fun e5 => ?_)
      · simp [e]
      simp only [e5, Bool.false_eq_true, if_false] at hthrow hgo
      rw [e5] at hc5
      simp only [Bool.or_eq_false_iff] at hc5
      obtain ⟨hs5, h85⟩ := hc5
      refine bif_of (fun e => ?_) (fun e => ?_)
      · have e := of_decide_eq_true e
        subst e
        have hk1 : kk = ⟨64, 1⟩ := by rw [← hkk]; rfl
        rw [hk1] at hs5
        have hd1 : (d.length : Int) = 1 := by simpa using hs5
        have rd := hBd _ (ix_mem (x := d) (i := 0) (by omega) (by omega))
        rw [wrap64 (n := ix d 0) (by omega)]
        simp only [if_true] at hthrow hgo
        refine ⟨⟨by omega, by omega⟩, bif_of (fun e => ⟨hall6, six (hthrow 6 all ?_)⟩) (fun e => ⟨⟨rfl, ⟨rfl, rfl⟩, rfl⟩, hgo ⟨ix d 0, p, nx, md, pf, cm, ra⟩ ?_ (by show cm.length ≤ _; omega) (.inl rfl)⟩)⟩
        · rw [if_pos (of_decide_eq_true e)]
        · rw [if_neg (of_decide_eq_false e)]
      have n1 := of_decide_eq_false e
      simp only [if_neg n1] at hthrow hgo
      refine bif_of (fun e => ?_) (fun e => ?_)
      · have e := of_decide_eq_true e
        simp only [if_pos e] at hthrow hgo
        refine ⟨⟨by show d.length ≤ 1099511627776; omega, fun c hc => hBd c hc⟩, bif_of (fun e => ⟨Nat.zero_le _, six (hthrow 11 [] ?_)⟩) (fun e => ⟨⟨rfl, ⟨rfl, rfl⟩, rfl⟩, hgo ⟨o, (S65 d).1, nx, md, pf, cm, ra⟩ ?_ (by show cm.length ≤ _; omega) (.inl rfl)⟩)⟩
        · rw [if_neg (by simpa using e)]
        · rw [if_pos (by simpa using e)]
      have n2 := of_decide_eq_false e
      simp only [if_neg n2] at hthrow hgo
      refine bif_of (fun e => ?_) (fun e => ?_)
      · have e := of_decide_eq_true e
        simp only [if_pos e] at hthrow hgo
        refine bif_of (fun e => ⟨hall6, six (hthrow 8 all ?_)⟩) (fun e => ⟨⟨rfl, ⟨rfl, rfl⟩, rfl⟩, hgo ⟨o, p, S66 d, md, pf, cm, ra⟩ ?_ (by show cm.length ≤ _; omega) (.inl rfl)⟩)
        · rw [if_neg (by simpa using e)]
        · rw [if_pos (by simpa using e)]
      have n3 := of_decide_eq_false e
      simp only [if_neg n3] at hthrow hgo
      refine bif_of (fun e => ?_) (fun e => ?_)
      · have e := of_decide_eq_true e
        simp only [if_pos e] at hgo
        exact ⟨⟨rfl, ⟨rfl, rfl⟩, rfl⟩, hgo ⟨o, p, nx, w64 (S66 d), pf, cm, ra⟩ rfl (by show cm.length ≤ _; omega) (.inl rfl)⟩
      have n4 := of_decide_eq_false e
      simp only [if_neg n4] at hthrow hgo
      refine bif_of (fun e => ?_) (fun e => ?_)
      · have e := of_decide_eq_true e
        simp only [if_pos e] at hgo
        exact ⟨⟨rfl, ⟨rfl, rfl⟩, rfl⟩, hgo ⟨o, p, nx, md, w64 (S66 d), cm, ra⟩ rfl (by show cm.length ≤ _; omega) (.inl rfl)⟩
      have n5 := of_decide_eq_false e
      simp only [if_neg n5] at hthrow hgo
      refine JP.of (fun bb => bb = decide (t = 6 ∨ t = 7)) (fun J hJ => bif_of (fun e => hJ _ ?_) (fun e => hJ _ ?_)) fun bb hbb => ?_
      · have e' := of_decide_eq_true e; simp [e']
      · have e' := of_decide_eq_false e; simp [e']
      subst hbb
      refine bif_of (fun e => ?_) (fun e => ?_)
      · have e := of_decide_eq_true e
        have n8 : ¬ t = 8 := by omega
        simp only [if_neg n8] at hgo
        refine ⟨⟨by omega, by show t < 9; omega⟩, hd6, ⟨rfl, rfl, hrc⟩, fun (y : List api_Raw) hy => ⟨⟨rfl, ⟨rfl, rfl⟩, rfl⟩, ?_⟩⟩
        exact hgo ⟨o, p, nx, md, pf, cm, y⟩ (by rw [hy]; rfl) (by show cm.length ≤ _; omega) (.inr ⟨kk.fflags, hy⟩)
      have n67 := of_decide_eq_false e
      have t8 : t = 8 := by omega
      simp only [if_pos t8] at hthrow hgo
      refine bif_of (fun _ => ?_) (fun e => absurd t8 (of_decide_eq_false e))
      refine bif_of (fun e => ⟨hall6, six (hthrow 9 all ?_)⟩) (fun e => ⟨⟨rfl, ⟨rfl, rfl⟩, rfl⟩, ?_⟩)
      · rw [if_pos (of_decide_eq_true e)]
      simp only [if_neg (of_decide_eq_false e)] at hgo
      have hcml : cm.length + b.length ≤ 549755813888 := hI.cm
      have hgo := hgo ⟨o, p, nx, md, pf, cm ++ words d.length d, ra⟩ rfl (by have := words_len d.length d; simp only [List.length_append]; omega) (.inl rfl)
      have h4d : 4 * ((d.length : Int) / 4) = d.length := by
        simp only [t8, decide_true, Bool.true_and, Bool.or_eq_false_iff, Bool.not_eq_false', decide_eq_true_eq] at h85
        have := h85.2
        rw [Int.tmod_eq_emod_of_nonneg (by omega)] at this
        omega
      refine LOOP.of (fun h => ∃ c', h.2 = (b.drop k, o, p, nx, md, pf, c', ra, seen.set t.toNat true) ∧ 4 * (h.1.length / 4) = h.1.length ∧ c'.length + h.1.length ≤ 549755813888 ∧ c' ++ words h.1.length h.1 = cm ++ words d.length d) (fun h => h.1.length) ⟨cm, rfl, by show 4 * (d.length / 4) = d.length; omega, by show cm.length + d.length ≤ _; omega, rfl⟩ ?_
      rintro ⟨d', z⟩ ⟨c', hz, i1, i2, i3⟩ J1 hJ1
      dsimp only at hz i1 i2 i3 ⊢
      subst hz
      dsimp only
      refine bif_of (fun e => ?_) (fun e => ?_)
      · have e := of_decide_eq_true e
        refine ⟨⟨rfl, by show (c'.length + 1) * 4 ≤ 140737488355328; omega⟩, fun (y : List Int) hy => ⟨⟨by omega, by omega, Int.le_refl _⟩, ⟨rfl, ⟨rfl, rfl⟩, rfl⟩, ?_⟩⟩
        rw [sub_drop d' (n := 4) rfl]
        refine hJ1 _ ⟨y, rfl, by dsimp only; rw [List.length_drop]; omega, by dsimp only; rw [hy, List.length_append, List.length_drop, List.length_singleton]; omega, ?_⟩ (by dsimp only; rw [List.length_drop]; omega)
        dsimp only
        rw [← i3, hy]
        obtain ⟨m, hm⟩ : ∃ m, d'.length = m + 1 := ⟨d'.length - 1, by omega⟩
        have hne' : d' ≠ [] := fun e => by rw [e] at hm; cases hm
        rw [hm, words, if_neg hne', List.append_assoc, List.singleton_append, words_fuel m (d'.drop 4).length _ (by rw [List.length_drop]; omega) (Nat.le_refl _)]
      · have e := of_decide_eq_false e
        have hd0 : d' = [] := List.eq_nil_of_length_eq_zero (by omega)
        subst hd0
        simp only [words, List.length_nil, List.append_nil] at i3
        refine ⟨⟨rfl, ⟨rfl, rfl⟩, rfl⟩, ?_⟩
        rw [i3]
        exact hgo
    · have hnt : ¬ (1 ≤ t ∧ t ≤ 8) := by simpa using e
      simp only [attrA, if_neg hnt, otherA] at hthrow hgo
      refine bif_of (fun e => ⟨hall6, six (hthrow 2 all ?_)⟩) (fun e => ?_)
      · rw [if_pos (of_decide_eq_true e)]
      simp only [if_neg (of_decide_eq_false e)] at hthrow hgo
      refine bif_of (fun e => ?_) (fun e => ?_)
      · simp only [if_pos (of_decide_eq_true e)] at hgo
        exact ⟨⟨rfl, ⟨rfl, rfl⟩, rfl⟩, hgo ⟨o, p, nx, md, pf, cm, ra⟩ rfl (by show cm.length ≤ _; omega) (.inl rfl)⟩
      simp only [if_neg (of_decide_eq_false e)] at hthrow hgo
      refine bif_of (fun e => ⟨hall6, six (hthrow 9 all ?_)⟩) (fun e => ?_)
      · rw [if_pos (of_decide_eq_true e)]
      simp only [if_neg (of_decide_eq_false e)] at hgo
      refine bif_of (fun e => ?_) (fun e => ?_)
      · simp only [if_pos (of_decide_eq_true e)] at hgo
        refine ⟨hd6, ⟨rfl, rfl, hrc⟩, fun (y : List api_Raw) hy => ⟨⟨rfl, ⟨rfl, rfl⟩, rfl⟩, ?_⟩⟩
        exact hgo ⟨o, p, nx, md, pf, cm, y⟩ (by rw [hy]; rfl) (by show cm.length ≤ _; omega) (.inr ⟨224, hy⟩)
      · simp only [if_neg (of_decide_eq_false e)] at hgo
        exact ⟨⟨rfl, ⟨rfl, rfl⟩, rfl⟩, hgo ⟨o, p, nx, md, pf, cm, ra⟩ rfl (by show cm.length ≤ _; omega) (.inl rfl)⟩
  · have hb0 : b = [] := List.eq_nil_of_length_eq_zero (by have := of_decide_eq_false h; omega)
    obtain ⟨f, hf, hd⟩ := hI.dec
    have hfin : finA ⟨o, p, nx, md, pf, cm, ra⟩ seen = v := by
      rw [← hd]; subst hb0
      cases f <;> simp [decA]
    refine LOOP.of (fun i => 0 ≤ i ∧ i ≤ 3 ∧ ∀ j : Int, 1 ≤ j → j ≤ i → ix seen j = true) (fun i => (3 - i).toNat) ⟨by omega, by omega, fun j h1 h2 => by omega⟩ ?_
    rintro i ⟨i1, i2, i3⟩ J2 hJ2
    refine bif_of (fun e => ?_) (fun e => ?_)
    · have e : i < 3 := of_decide_eq_true e
      have h3 : ix [1, 2, 3] i = i + 1 := by
        rcases (show i = 0 ∨ i = 1 ∨ i = 2 by omega) with rfl | rfl | rfl <;> rfl
      rw [h3]
      refine ⟨⟨i1, e⟩, ⟨by omega, by show i + 1 < 256; omega⟩, by rw [hI.sn]; omega, bif_of (fun e2 => ⟨by show (1 : Nat) ≤ _; decide, six ?_⟩) (fun e2 => ?_)⟩
      · rw [← hfin]
        simp only [Bool.not_eq_true'] at e2
        rcases (show i = 0 ∨ i = 1 ∨ i = 2 by omega) with rfl | rfl | rfl
        · have e2 : ix seen 1 = false := e2
          simp only [finA, e2]; rfl
        · have e2 : ix seen 2 = false := e2
          simp only [finA, e2, i3 1 (by omega) (by omega)]; rfl
        · have e2 : ix seen 3 = false := e2
          simp only [finA, e2, i3 1 (by omega) (by omega), i3 2 (by omega) (by omega)]; rfl
      · rw [wrap64 (by omega)]
        refine hJ2 _ ⟨by omega, by omega, fun j j1 j2 => ?_⟩ (by omega)
        by_cases hj : j ≤ i
        · exact i3 j j1 hj
        · rw [show j = i + 1 by omega]; simpa using e2
    · have e : ¬ i < 3 := of_decide_eq_false e
      have hr : ra.length ≤ 256 := by
        have h1 : ra.length ≤ seen.count true := hI.rl
        have h2 : seen.count true ≤ seen.length := List.count_le_length
        rw [hI.sn] at h2; omega
      refine ⟨⟨⟨rfl, rfl⟩, by show ra.length ≤ 1000; omega, fun r hr => ⟨(hI.rt r hr).1, (hI.rt r hr).2.1⟩⟩, fun y hy1 hy2 => ⟨⟨hy1.length_eq.symm, rfl⟩, ?_⟩⟩
      rw [← hfin, sortR_eq hy1 hy2 hI.nd]
      simp only [finA, i3 1 (by omega) (by omega), i3 2 (by omega) (by omega), i3 3 (by omega) (by omega)]
      rfl
end Go.Rx
namespace Go.Rx
open Go.Ab Go.L7
set_option linter.unusedVariables false
set_option maxRecDepth 100000
theorem kk17 (h52 : ConOk P7 52 (.srt (A := S.A) 45 53 Q52 R52)) : KOk C17.P C17.K := by
  have hm : ConMon (Con.srt (A := S.A) 45 53 Q52 R52) := trivial
  have h1 : KOk P7 [(52, Con.srt (A := S.A) 45 53 Q52 R52)] := kk1 (And.intro h52 hm)
  have h2 : KOk P7 [(66, ctr P7 [30] [23] W66), (65, ctr P7 [30] [22, 4] W65), (62, ctr P7 [30] [30] W62), (27, ctr P7 [23] [4] W27), (52, Con.srt (A := S.A) 45 53 Q52 R52)] := kok_cons ok66 (kok_cons ok65 (kok_cons ok62 (kok_cons ok27 h1)))
  exact h2
theorem pf17 (h52 : ConOk P7 52 (.srt (A := S.A) 45 53 Q52 R52)) (x : List Int) (hp : P17 x) : PFk (S := S) C17.P 17 ((argsA C17 [⟨30, x⟩]).map stripA) (fun q => q = tupA (encL C17.P [27, 34] (S17 x : HR S [27, 34]))) := by
  have hm := main17 x hp (S17 x) (Eq.refl (S17 x))
  unfold Xg17 at hm
  refine pf_defer (C := C17) (n := 8) (f := 17) (fn := fn17) (D := D17) (args := argsA C17 [⟨30, x⟩]) (rts := [27, 34]) (y := S17 x) (kk17 h52) mx7 ?_ ?_ ?_ ?_ ?_ ?_ ?_ ?_ ?_ ?_ ?_ ?_ (argsA_plain _) ((Ab.look C17.ann 17).getD []) ?_
  case refine_13 => assumption
  all_goals kernel_rfl
theorem run17 (h52 : ConOk P7 52 (.srt (A := S.A) 45 53 Q52 R52)) : RunP C17 17 [27, 34] [30] W17 [] :=
  fun (x : List Int) hx hp => pf17 h52 x (hp _ rfl)
abbrev Ok17 : Prop := ConOk P7 17 (ctr P7 [30] [27, 34] W17) ∧ ConMon (ctr P7 [30] [27, 34] W17)
theorem ok17 (h52 : ConOk P7 52 (.srt (A := S.A) 45 53 Q52 R52)) : Ok17 := con_okP (C := C17) (run17 h52)
end Go.Rx
namespace Go.Rx
open Go.Ab Go.L7
set_option maxRecDepth 100000
set_option maxHeartbeats 20000000
set_option linter.unusedVariables false
/-- interregnum/attr.Encode -/
noncomputable def C12 : Cfg S := { P := P7, inl := [], K := [(13, ctr P7 [27] [4] (fun x0 => (none, S13 x0))), (25, ctr P7 [3] [30] (fun x0 => (none, S25 x0))), (23, ctr P7 [22] [30] (fun x0 => (some (P23 x0), S23 x0)))], ann := [(12, [(8, .join [(.sl 3, .own 5)]), (10, .join [(.sl 3, .own 5)]), (26, .join [(.sl 3, .own 5)]), (23, .join [(.sl 3, .own 5), (.sl 7, .bool)]), (22, .join [(.sl 3, .own 5), (.sl 7, .bool)]), (18, .loop [(.sl 3, .own 5), (.sl 7, .bool), (.sl 61, .int .i64)]), (12, .loop [(.sl 4, .own 5), (.sl 47, .int .i64)])]), (22, [(4, .join [(.sl 0, .own 5)])])] }
abbrev W12 : CT S [30] [27] := (fun x0 => (some (P12 x0), S12 x0))
abbrev Ok12 : Prop := ConOk P7 12 (ctr P7 [27] [30] W12) ∧ ConMon (ctr P7 [27] [30] W12)
theorem q12 (x0 : api_Attrs) (v : HR S [30]) : (Xf C12 6 (emp 0) 12 (argsA C12 [⟨27, x0⟩]) (emp 0) (fun r _ => isR C12.P [30] v r) (fun _ _ => False)) = (bif
 !S13 x0 then [] = v else JP (fun (h : List Int) => (h.length = h.length ∧ (h.length + [IntKind.u8.wrap x0.fOrigin].length) * nat_lit 1 ≤ nat_lit
 140737488355328) ∧ ∀ (y : List (Int)), y = h ++ [IntKind.u8.wrap x0.fOrigin] → x0.fPath.length.le (nat_lit 140737488355328) ∧ y.length = y.length ∧ JP (fun (h
 : List Int) => (h.length = h.length ∧ (h.length + (S23 x0.fPath).length) * nat_lit 1 ≤ nat_lit 140737488355328) ∧ ∀ (y : List (Int)), y = h ++ S23 x0.fPath →
 [IntKind.u8.wrap (x0.fNext.fdiv ((2 : Int) ^ nat_lit 24)), IntKind.u8.wrap (x0.fNext.fdiv ((2 : Int) ^ nat_lit 16)), IntKind.u8.wrap (x0.fNext.fdiv ((2 : Int)
 ^ nat_lit 8)), IntKind.u8.wrap x0.fNext].length * nat_lit 1 ≤ nat_lit 140737488355328 ∧ ∀ (y_1 : List (Int)), y_1 = [IntKind.u8.wrap (x0.fNext.fdiv ((2 : Int)
 ^ nat_lit 24)), IntKind.u8.wrap (x0.fNext.fdiv ((2 : Int) ^ nat_lit 16)), IntKind.u8.wrap (x0.fNext.fdiv ((2 : Int) ^ nat_lit 8)), IntKind.u8.wrap x0.fNext] →
 y.length = y.length ∧ JP (fun (h : List Int) => (h.length = h.length ∧ (h.length + y_1.length) * nat_lit 1 ≤ nat_lit 140737488355328) ∧ ∀ (y : List (Int)), y
 = h ++ y_1 → y.length = y.length ∧ JP (fun (h : List Int) => h.length = h.length ∧ JP (fun (h : List Int) => LOOP (fun (h_1 : List Int × Int) (J : List Int ×
 Int → Prop) => bif decide (h_1.snd < (↑x0.fComms.length : Int)) then ((0 : Int) ≤ h_1.snd ∧ h_1.snd < (↑x0.fComms.length : Int)) ∧ (h_1.fst.length =
 h_1.fst.length ∧ (h_1.fst.length + [IntKind.u8.wrap ((ix x0.fComms h_1.snd).fdiv ((2 : Int) ^ nat_lit 24)), IntKind.u8.wrap ((ix x0.fComms h_1.snd).fdiv ((2 :
 Int) ^ nat_lit 16)), IntKind.u8.wrap ((ix x0.fComms h_1.snd).fdiv ((2 : Int) ^ nat_lit 8)), IntKind.u8.wrap (ix x0.fComms h_1.snd)].length) * nat_lit 1 ≤
 nat_lit 140737488355328) ∧ ∀ (y : List (Int)), y = h_1.fst ++ [IntKind.u8.wrap ((ix x0.fComms h_1.snd).fdiv ((2 : Int) ^ nat_lit 24)), IntKind.u8.wrap ((ix
 x0.fComms h_1.snd).fdiv ((2 : Int) ^ nat_lit 16)), IntKind.u8.wrap ((ix x0.fComms h_1.snd).fdiv ((2 : Int) ^ nat_lit 8)), IntKind.u8.wrap (ix x0.fComms
 h_1.snd)] → y.length = y.length ∧ J (y, IntKind.i64.wrap (h_1.snd + (1 : Int))) else h.length = h.length ∧ LOOP (fun (h : List Int × Bool × Int) (J : List Int
 × Bool × Int → Prop) => bif decide (h.snd.snd < (↑x0.fRaws.length : Int)) then h.fst.length = h.fst.length ∧ JP (fun (h_2 : List Int × Bool) => h_2.fst.length
 = h_2.fst.length ∧ J (h_2.fst, h_2.snd, IntKind.i64.wrap (h.snd.snd + (1 : Int)))) fun (J : List Int × Bool → Prop) => ((0 : Int) ≤ h.snd.snd ∧ h.snd.snd <
 (↑x0.fRaws.length : Int)) ∧ h.fst.length = h.fst.length ∧ JP (fun (h_2 : List Int × Bool) => h_2.fst.length = h_2.fst.length ∧ JP (fun (h_3 : List Int) =>
 (h_3.length = h_3.length ∧ (h_3.length + (ix x0.fRaws h.snd.snd).fData.length) * nat_lit 1 ≤ nat_lit 140737488355328) ∧ ∀ (y : List (Int)), y = h_3 ++ (ix
 x0.fRaws h.snd.snd).fData → y.length = y.length ∧ J (y, h_2.snd)) fun (J : List Int → Prop) => bif decide ((255 : Int) < (↑(ix x0.fRaws
 h.snd.snd).fData.length : Int)) then (h_2.fst.length = h_2.fst.length ∧ (h_2.fst.length + [IntKind.u8.wrap (ior IntKind.i64 (ix x0.fRaws h.snd.snd).fFlags (16
 : Int)), IntKind.u8.wrap (ix x0.fRaws h.snd.snd).fType, IntKind.u8.wrap ((↑(ix x0.fRaws h.snd.snd).fData.length : Int).fdiv ((2 : Int) ^ nat_lit 8)),
 IntKind.u8.wrap (↑(ix x0.fRaws h.snd.snd).fData.length : Int)].length) * nat_lit 1 ≤ nat_lit 140737488355328) ∧ ∀ (y : List (Int)), y = h_2.fst ++
 [IntKind.u8.wrap (ior IntKind.i64 (ix x0.fRaws h.snd.snd).fFlags (16 : Int)), IntKind.u8.wrap (ix x0.fRaws h.snd.snd).fType, IntKind.u8.wrap ((↑(ix x0.fRaws
 h.snd.snd).fData.length : Int).fdiv ((2 : Int) ^ nat_lit 8)), IntKind.u8.wrap (↑(ix x0.fRaws h.snd.snd).fData.length : Int)] → y.length = y.length ∧ J y else
 (h_2.fst.length = h_2.fst.length ∧ (h_2.fst.length + [IntKind.u8.wrap (ix x0.fRaws h.snd.snd).fFlags, IntKind.u8.wrap (ix x0.fRaws h.snd.snd).fType,
 IntKind.u8.wrap (↑(ix x0.fRaws h.snd.snd).fData.length : Int)].length) * nat_lit 1 ≤ nat_lit 140737488355328) ∧ ∀ (y : List (Int)), y = h_2.fst ++
 [IntKind.u8.wrap (ix x0.fRaws h.snd.snd).fFlags, IntKind.u8.wrap (ix x0.fRaws h.snd.snd).fType, IntKind.u8.wrap (↑(ix x0.fRaws h.snd.snd).fData.length : Int)]
 → y.length = y.length ∧ J y) fun (J : List Int × Bool → Prop) => bif decide ((8 : Int) < (ix x0.fRaws h.snd.snd).fType) && !h.snd.fst then h.fst.length =
 h.fst.length ∧ JP (fun (h : List Int) => (h.length = h.length ∧ (h.length + h_1.fst.length) * nat_lit 1 ≤ nat_lit 140737488355328) ∧ ∀ (y : List (Int)), y = h
 ++ h_1.fst → y.length = y.length ∧ J (y, true)) fun (J : List Int → Prop) => bif decide ((255 : Int) < (↑h_1.fst.length : Int)) then (h.fst.length =
 h.fst.length ∧ (h.fst.length + [IntKind.u8.wrap (ior IntKind.i64 (192 : Int) (16 : Int)), IntKind.u8.wrap (8 : Int), IntKind.u8.wrap ((↑h_1.fst.length :
 Int).fdiv ((2 : Int) ^ nat_lit 8)), IntKind.u8.wrap (↑h_1.fst.length : Int)].length) * nat_lit 1 ≤ nat_lit 140737488355328) ∧ ∀ (y : List (Int)), y = h.fst ++
 [IntKind.u8.wrap (ior IntKind.i64 (192 : Int) (16 : Int)), IntKind.u8.wrap (8 : Int), IntKind.u8.wrap ((↑h_1.fst.length : Int).fdiv ((2 : Int) ^ nat_lit 8)),
 IntKind.u8.wrap (↑h_1.fst.length : Int)] → y.length = y.length ∧ J y else (h.fst.length = h.fst.length ∧ (h.fst.length + [IntKind.u8.wrap (192 : Int),
 IntKind.u8.wrap (8 : Int), IntKind.u8.wrap (↑h_1.fst.length : Int)].length) * nat_lit 1 ≤ nat_lit 140737488355328) ∧ ∀ (y : List (Int)), y = h.fst ++
 [IntKind.u8.wrap (192 : Int), IntKind.u8.wrap (8 : Int), IntKind.u8.wrap (↑h_1.fst.length : Int)] → y.length = y.length ∧ J y else h.fst.length = h.fst.length
 ∧ J (h.fst, h.snd.fst) else h.fst.length = h.fst.length ∧ JP (fun (h : List Int) => h = v) fun (J : List Int → Prop) => bif !h.snd.fst then h.fst.length =
 h.fst.length ∧ JP (fun (h : List Int) => (h.length = h.length ∧ (h.length + h_1.fst.length) * nat_lit 1 ≤ nat_lit 140737488355328) ∧ ∀ (y : List (Int)), y = h
 ++ h_1.fst → y.length = y.length ∧ J y) fun (J : List Int → Prop) => bif decide ((255 : Int) < (↑h_1.fst.length : Int)) then (h.fst.length = h.fst.length ∧
 (h.fst.length + [IntKind.u8.wrap (ior IntKind.i64 (192 : Int) (16 : Int)), IntKind.u8.wrap (8 : Int), IntKind.u8.wrap ((↑h_1.fst.length : Int).fdiv ((2 : Int)
 ^ nat_lit 8)), IntKind.u8.wrap (↑h_1.fst.length : Int)].length) * nat_lit 1 ≤ nat_lit 140737488355328) ∧ ∀ (y : List (Int)), y = h.fst ++ [IntKind.u8.wrap
 (ior IntKind.i64 (192 : Int) (16 : Int)), IntKind.u8.wrap (8 : Int), IntKind.u8.wrap ((↑h_1.fst.length : Int).fdiv ((2 : Int) ^ nat_lit 8)), IntKind.u8.wrap
 (↑h_1.fst.length : Int)] → y.length = y.length ∧ J y else (h.fst.length = h.fst.length ∧ (h.fst.length + [IntKind.u8.wrap (192 : Int), IntKind.u8.wrap (8 :
 Int), IntKind.u8.wrap (↑h_1.fst.length : Int)].length) * nat_lit 1 ≤ nat_lit 140737488355328) ∧ ∀ (y : List (Int)), y = h.fst ++ [IntKind.u8.wrap (192 : Int),
 IntKind.u8.wrap (8 : Int), IntKind.u8.wrap (↑h_1.fst.length : Int)] → y.length = y.length ∧ J y else h.fst.length = h.fst.length ∧ J h.fst) (h, decide
 ((↑h_1.fst.length : Int) = (0 : Int)), (0 : Int))) ([], (0 : Int))) fun (J : List Int → Prop) => bif decide ((0 : Int) ≤ x0.fPref) then h.length = h.length ∧
 JP (fun (h : List Int) => (h.length = h.length ∧ (h.length + (S25 x0.fPref).length) * nat_lit 1 ≤ nat_lit 140737488355328) ∧ ∀ (y : List (Int)), y = h ++ S25
 x0.fPref → y.length = y.length ∧ J y) fun (J : List Int → Prop) => (h.length = h.length ∧ (h.length + [IntKind.u8.wrap (64 : Int), IntKind.u8.wrap (5 : Int),
 IntKind.u8.wrap (↑(S25 x0.fPref).length : Int)].length) * nat_lit 1 ≤ nat_lit 140737488355328) ∧ ∀ (y : List (Int)), y = h ++ [IntKind.u8.wrap (64 : Int),
 IntKind.u8.wrap (5 : Int), IntKind.u8.wrap (↑(S25 x0.fPref).length : Int)] → y.length = y.length ∧ J y else h.length = h.length ∧ J h) fun (J : List Int →
 Prop) => bif decide ((0 : Int) ≤ x0.fMed) then y.length = y.length ∧ JP (fun (h : List Int) => (h.length = h.length ∧ (h.length + (S25 x0.fMed).length) *
 nat_lit 1 ≤ nat_lit 140737488355328) ∧ ∀ (y : List (Int)), y = h ++ S25 x0.fMed → y.length = y.length ∧ J y) fun (J : List Int → Prop) => (y.length = y.length
 ∧ (y.length + [IntKind.u8.wrap (128 : Int), IntKind.u8.wrap (4 : Int), IntKind.u8.wrap (↑(S25 x0.fMed).length : Int)].length) * nat_lit 1 ≤ nat_lit
 140737488355328) ∧ ∀ (y_2 : List (Int)), y_2 = y ++ [IntKind.u8.wrap (128 : Int), IntKind.u8.wrap (4 : Int), IntKind.u8.wrap (↑(S25 x0.fMed).length : Int)] →
 y_2.length = y_2.length ∧ J y_2 else y.length = y.length ∧ J y) fun (J : List Int → Prop) => bif decide ((255 : Int) < (↑y_1.length : Int)) then (y.length =
 y.length ∧ (y.length + [IntKind.u8.wrap (ior IntKind.i64 (64 : Int) (16 : Int)), IntKind.u8.wrap (3 : Int), IntKind.u8.wrap ((↑y_1.length : Int).fdiv ((2 :
 Int) ^ nat_lit 8)), IntKind.u8.wrap (↑y_1.length : Int)].length) * nat_lit 1 ≤ nat_lit 140737488355328) ∧ ∀ (y_2 : List (Int)), y_2 = y ++ [IntKind.u8.wrap
 (ior IntKind.i64 (64 : Int) (16 : Int)), IntKind.u8.wrap (3 : Int), IntKind.u8.wrap ((↑y_1.length : Int).fdiv ((2 : Int) ^ nat_lit 8)), IntKind.u8.wrap
 (↑y_1.length : Int)] → y_2.length = y_2.length ∧ J y_2 else (y.length = y.length ∧ (y.length + [IntKind.u8.wrap (64 : Int), IntKind.u8.wrap (3 : Int),
 IntKind.u8.wrap (↑y_1.length : Int)].length) * nat_lit 1 ≤ nat_lit 140737488355328) ∧ ∀ (y_2 : List (Int)), y_2 = y ++ [IntKind.u8.wrap (64 : Int),
 IntKind.u8.wrap (3 : Int), IntKind.u8.wrap (↑y_1.length : Int)] → y_2.length = y_2.length ∧ J y_2) fun (J : List Int → Prop) => bif decide ((255 : Int) <
 (↑(S23 x0.fPath).length : Int)) then (y.length = y.length ∧ (y.length + [IntKind.u8.wrap (ior IntKind.i64 (64 : Int) (16 : Int)), IntKind.u8.wrap (2 : Int),
 IntKind.u8.wrap ((↑(S23 x0.fPath).length : Int).fdiv ((2 : Int) ^ nat_lit 8)), IntKind.u8.wrap (↑(S23 x0.fPath).length : Int)].length) * nat_lit 1 ≤ nat_lit
 140737488355328) ∧ ∀ (y_1 : List (Int)), y_1 = y ++ [IntKind.u8.wrap (ior IntKind.i64 (64 : Int) (16 : Int)), IntKind.u8.wrap (2 : Int), IntKind.u8.wrap
 ((↑(S23 x0.fPath).length : Int).fdiv ((2 : Int) ^ nat_lit 8)), IntKind.u8.wrap (↑(S23 x0.fPath).length : Int)] → y_1.length = y_1.length ∧ J y_1 else
 (y.length = y.length ∧ (y.length + [IntKind.u8.wrap (64 : Int), IntKind.u8.wrap (2 : Int), IntKind.u8.wrap (↑(S23 x0.fPath).length : Int)].length) * nat_lit 1
 ≤ nat_lit 140737488355328) ∧ ∀ (y_1 : List (Int)), y_1 = y ++ [IntKind.u8.wrap (64 : Int), IntKind.u8.wrap (2 : Int), IntKind.u8.wrap (↑(S23 x0.fPath).length
 : Int)] → y_1.length = y_1.length ∧ J y_1) fun (J : List Int → Prop) => (nat_lit 0 = nat_lit 0 ∧ (nat_lit 0 + [IntKind.u8.wrap (64 : Int), IntKind.u8.wrap (1
 : Int), IntKind.u8.wrap (↑[IntKind.u8.wrap x0.fOrigin].length : Int)].length) * nat_lit 1 ≤ nat_lit 140737488355328) ∧ ∀ (y : List (Int)), y = [] ++
 [IntKind.u8.wrap (64 : Int), IntKind.u8.wrap (1 : Int), IntKind.u8.wrap (↑[IntKind.u8.wrap x0.fOrigin].length : Int)] → y.length = y.length ∧ J y) := by
 kernel_rfl
end Go.Rx
/-! What attr.Encode writes. -/
namespace Go.Rx
open Go.Ab Go.L7
set_option linter.unusedVariables false
set_option maxRecDepth 100000
theorem put_jp {o d : List Int} {fl t : Int} {R : List Int → Prop} (hb : o.length + d.length + 4 ≤ 140737488355328) (hR : R (o ++ putB fl t d)) :
    JP (fun (h : List Int) => (h.length = h.length ∧ (h.length + d.length) * 1 ≤ 140737488355328) ∧ ∀ (y : List Int), y = h ++ d → R y) (fun (J : List Int → Prop) => bif decide ((255 : Int) < (d.length : Int)) then (o.length = o.length ∧ (o.length + [IntKind.u8.wrap (ior IntKind.i64 fl 16), IntKind.u8.wrap t, IntKind.u8.wrap ((d.length : Int).fdiv (2 ^ 8)), IntKind.u8.wrap (d.length : Int)].length) * 1 ≤ 140737488355328) ∧ ∀ (y : List Int), y = o ++ [IntKind.u8.wrap (ior IntKind.i64 fl 16), IntKind.u8.wrap t, IntKind.u8.wrap ((d.length : Int).fdiv (2 ^ 8)), IntKind.u8.wrap (d.length : Int)] → y.length = y.length ∧ J y
      else (o.length = o.length ∧ (o.length + [IntKind.u8.wrap fl, IntKind.u8.wrap t, IntKind.u8.wrap (d.length : Int)].length) * 1 ≤ 140737488355328) ∧ ∀ (y : List Int), y = o ++ [IntKind.u8.wrap fl, IntKind.u8.wrap t, IntKind.u8.wrap (d.length : Int)] → y.length = y.length ∧ J y) := by
  refine JP.of (fun h => h ++ d = o ++ putB fl t d ∧ h.length ≤ o.length + 4) (fun J hJ => bif_of (fun e => ⟨⟨rfl, by simp; omega⟩, fun y hy => ⟨rfl, hJ _ ?_⟩⟩) (fun e => ⟨⟨rfl, by simp; omega⟩, fun y hy => ⟨rfl, hJ _ ?_⟩⟩)) fun h hh => ⟨⟨rfl, by omega⟩, fun y hy => by rw [hy, hh.1]; exact hR⟩
  · subst hy; simp [putB, if_pos (of_decide_eq_true e)]
  · subst hy; simp [putB, if_neg (of_decide_eq_false e)]
theorem put_jp3 {o d : List Int} {fl t : Int} {R : List Int → Prop} (hd : d.length ≤ 255) (hb : o.length + d.length + 4 ≤ 140737488355328) (hR : R (o ++ putB fl t d)) :
    JP (fun (h : List Int) => (h.length = h.length ∧ (h.length + d.length) * 1 ≤ 140737488355328) ∧ ∀ (y : List Int), y = h ++ d → R y) (fun (J : List Int → Prop) => (o.length = o.length ∧ (o.length + [IntKind.u8.wrap fl, IntKind.u8.wrap t, IntKind.u8.wrap (d.length : Int)].length) * 1 ≤ 140737488355328) ∧ ∀ (y : List Int), y = o ++ [IntKind.u8.wrap fl, IntKind.u8.wrap t, IntKind.u8.wrap (d.length : Int)] → y.length = y.length ∧ J y) := by
  refine JP.of (fun h => h ++ d = o ++ putB fl t d ∧ h.length ≤ o.length + 4) (fun J hJ => ⟨⟨rfl, by simp; omega⟩, fun y hy => ⟨rfl, hJ _ ?_⟩⟩) fun h hh => ⟨⟨rfl, by omega⟩, fun y hy => by rw [hy, hh.1]; exact hR⟩
  subst hy; simp [putB, if_neg (show ¬ (255 : Int) < (d.length : Int) by omega)]
theorem putB_len (fl t : Int) (d : List Int) : (putB fl t d).length ≤ d.length + 4 := by unfold putB; split <;> simp <;> omega
theorem rawsUp_len : ∀ {l : List api_Raw} {p : Option Int}, rawsUp p l = true → ∀ r ∈ l, r.fData.length ≤ 255
  | [], _, _, r, h => by cases h
  | a :: l, p, h, r, hr => by
    simp only [rawsUp, Bool.and_eq_true] at h
    rcases List.mem_cons.1 hr with rfl | hr
    · have h1 := h.1.1
      unfold S28 at h1
      split at h1
      · simp only [Bool.and_eq_true, decide_eq_true_eq] at h1; omega
      · split at h1 <;> simp only [Bool.and_eq_true, decide_eq_true_eq] at h1 <;> omega
    · exact rawsUp_len h.2 r hr
theorem comm_len : ∀ (l : List Int), (commB l).length = 4 * l.length
  | [] => rfl
  | n :: l => by
    show (put4 n ++ commB l).length = _
    rw [List.length_append, comm_len l]; simp [put4]; omega
theorem rawsOut_len {c : List Int} (hc : c.length ≤ 128) : ∀ (l : List api_Raw) (told : Bool), (∀ r ∈ l, r.fData.length ≤ 255) → (rawsOut c told l).length ≤ 132 + 400 * l.length
  | [], told, _ => by
    have := putB_len 192 8 c
    simp only [rawsOut]
    split <;> simp; omega
  | r :: l, told, h => by
    have h1 := putB_len 192 8 c
    have h2 := putB_len r.fFlags r.fType r.fData
    have h3 := h r (by simp)
    have h4 := rawsOut_len hc l true fun r hr => h r (by simp [hr])
    have h5 := rawsOut_len hc l told fun r hr => h r (by simp [hr])
    simp only [rawsOut]
    split <;> simp only [List.length_append, List.length_cons] <;> omega
theorem run12 : RunC C12 6 12 [30] [27] W12 [] := by
  intro (x : api_Attrs) hx hp
  obtain ⟨hp1, hp2⟩ : P12 x := hp _ rfl
  refine of_eq (q12 x (S12 x)) ?_
  refine bif_of (fun h => ?_) (fun h => ?_)
  · simp only [Bool.not_eq_true'] at h; simp [S12, h]
  simp only [Bool.not_eq_false'] at h
  have hg := h
  simp only [S13, Bool.and_eq_true, Bool.not_eq_true', decide_eq_false_iff_not] at hg
  obtain ⟨⟨⟨⟨⟨_, g26⟩, _⟩, gc⟩, gr⟩, _⟩ := hg
  have hrl := rawsUp_len gr
  have hcl : (commB x.fComms).length ≤ 128 := by rw [comm_len]; omega
  have h23 : (S23 x.fPath).length ≤ 384 := by
    have : S23 x.fPath = x.fPath.flatMap segB := by simp [S23, g26]
    rw [this, seg_len]
    obtain ⟨g1, g2⟩ := goodP_spec x.fPath 0 g26 (Int.le_refl _) (by omega)
    have := asSum_len x.fPath fun s hs => (g2 s hs).1
    omega
  have hv : S12 x = putB 64 1 [IntKind.u8.wrap x.fOrigin] ++ putB 64 2 (S23 x.fPath) ++ putB 64 3 (put4 x.fNext) ++ (if 0 ≤ x.fMed then putB 128 4 (S25 x.fMed) else []) ++ (if 0 ≤ x.fPref then putB 64 5 (S25 x.fPref) else []) ++ rawsOut (commB x.fComms) (decide ((commB x.fComms).length = 0)) x.fRaws := by simp [S12, h]
  rw [hv]
  have l1 := putB_len 64 1 [IntKind.u8.wrap x.fOrigin]
  have l2 := putB_len 64 2 (S23 x.fPath)
  have l3 := putB_len 64 3 (put4 x.fNext)
  have l4 := putB_len 128 4 (S25 x.fMed)
  have l5 := putB_len 64 5 (S25 x.fPref)
  have e25 : ∀ n, (S25 n).length = 4 := fun n => rfl
  have e4 : ∀ n, (put4 n).length = 4 := fun n => rfl
  rw [e25] at l4 l5
  rw [e4] at l3
  simp only [List.length_singleton] at l1
  refine JP.of (fun h => h ++ [IntKind.u8.wrap x.fOrigin] = putB 64 1 [IntKind.u8.wrap x.fOrigin] ∧ h.length ≤ 4) (fun J hJ => ⟨⟨rfl, by show (0 + 3) * 1 ≤ 140737488355328; decide⟩, fun y hy => ⟨rfl, hJ _ (by subst hy; exact ⟨rfl, by show 3 ≤ 4; decide⟩)⟩⟩) fun o1 ho1 => ?_
  refine ⟨⟨rfl, by have := ho1.2; show (o1.length + 1) * 1 ≤ 140737488355328; omega⟩, fun y1 hy1 => ⟨?_, rfl, ?_⟩⟩
  · show x.fPath.length ≤ 140737488355328; omega
  have hy1 : y1 = putB 64 1 [IntKind.u8.wrap x.fOrigin] := hy1.trans ho1.1
  rw [← hy1] at l1 ⊢
  refine put_jp (by omega) ?_
  refine ⟨by show (4 : Nat) * 1 ≤ _; decide, fun z hz => ⟨rfl, ?_⟩⟩
  have hz : z = put4 x.fNext := hz
  subst hz
  generalize hy2 : y1 ++ putB 64 2 (S23 x.fPath) = y2
  have m2 : y2.length ≤ 800 := by rw [← hy2, List.length_append]; omega
  refine put_jp (by rw [e4]; omega) ⟨rfl, ?_⟩
  generalize hy3 : y2 ++ putB 64 3 (put4 x.fNext) = y3
  have m3 : y3.length ≤ 810 := by rw [← hy3, List.length_append]; omega
  refine JP.of (fun y => y = y3 ++ (if 0 ≤ x.fMed then putB 128 4 (S25 x.fMed) else [])) (fun J hJ => bif_of (fun e => ⟨rfl, put_jp3 (by rw [e25]; omega) (by rw [e25]; omega) ⟨rfl, hJ _ ?_⟩⟩) (fun e => ⟨rfl, hJ _ ?_⟩)) fun y4 hy4 => ⟨rfl, ?_⟩
  · rw [if_pos (of_decide_eq_true e)]
  · rw [if_neg (of_decide_eq_false e), List.append_nil]
  have m4 : y4.length ≤ 820 := by
    rw [hy4, List.length_append]
    by_cases hq : 0 ≤ x.fMed
    · rw [if_pos hq]; omega
    · rw [if_neg hq]; simp only [List.length_nil]; omega
  refine JP.of (fun y => y = y4 ++ (if 0 ≤ x.fPref then putB 64 5 (S25 x.fPref) else [])) (fun J hJ => bif_of (fun e => ⟨rfl, put_jp3 (by rw [e25]; omega) (by rw [e25]; omega) ⟨rfl, hJ _ ?_⟩⟩) (fun e => ⟨rfl, hJ _ ?_⟩)) fun y5 hy5 => ?_
  · rw [if_pos (of_decide_eq_true e)]
  · rw [if_neg (of_decide_eq_false e), List.append_nil]
  have m5 : y5.length ≤ 830 := by
    rw [hy5, List.length_append]
    by_cases hq : 0 ≤ x.fPref
    · rw [if_pos hq]; omega
    · rw [if_neg hq]; simp only [List.length_nil]; omega
  rw [← hy4, ← hy5]
  generalize hC : commB x.fComms = C at hcl ⊢
  refine listLoop (l := x.fComms) (by omega) (fun (o : List Int) i => (o, i)) (fun y => y.2) (fun _ _ => rfl) (fun i r o => o ++ commB r = C) (s0 := []) (by simpa using hC) ?_ ?_
  · rintro o i n r J k1 k2 k3 k4 k5 k6 hJ
    have ho : o.length ≤ 128 := by have := congrArg List.length k6; rw [List.length_append] at this; omega
    refine bif_of (fun _ => ⟨⟨k1, k2⟩, ⟨rfl, by show (o.length + 4) * 1 ≤ 140737488355328; omega⟩, fun y hy => ⟨rfl, hJ y ?_⟩⟩) (fun h => absurd k2 (of_decide_eq_false h))
    rw [← k6, hy]
    simp only [k3]
    simp [commB, put4]
  · rintro o i J rfl hoc
    have hoc : o = C := by simpa [commB] using hoc
    refine bif_of (fun h => absurd (of_decide_eq_true h) (by simp)) (fun _ => ⟨rfl, ?_⟩)
    subst hoc
    have hro := rawsOut_len hcl x.fRaws (decide (o.length = 0)) hrl
    generalize hF : y5 ++ rawsOut o (decide (o.length = 0)) x.fRaws = F
    have hFl : F.length ≤ 549755813888 := by rw [← hF, List.length_append]; omega
    have hd0 : decide ((o.length : Int) = 0) = decide (o.length = 0) := by simp
    dsimp only
    rw [hd0]
    refine listLoop (l := x.fRaws) (by omega) (fun (s : List Int × Bool) i => (s.1, s.2, i)) (fun y => y.2.2) (fun _ _ => rfl) (fun i r s => s.1 ++ rawsOut o s.2 r = F) (s0 := (y5, decide (o.length = 0))) hF ?_ ?_
    · rintro ⟨y, told⟩ i a r J k1 k2 k3 k4 k5 k6 hJ
      dsimp only at k6 ⊢
      have hyl : y.length ≤ 549755813888 := by have := congrArg List.length k6; rw [List.length_append] at this; omega
      have hal := hrl a k4
      refine bif_of (fun _ => ⟨rfl, ?_⟩) (fun h => absurd k2 (of_decide_eq_false h))
      rw [k3]
      refine JP.of (fun s => s.1 ++ rawsOut o s.2 r = F) (fun J' hJ' => ⟨⟨k1, k2⟩, rfl, ?_⟩) (fun s hs => ⟨rfl, hJ s hs⟩)
      refine JP.of (fun s => s.1 ++ putB a.fFlags a.fType a.fData ++ rawsOut o s.2 r = F) (fun J2 hJ2 => bif_of (fun e => ⟨rfl, put_jp (by omega) ⟨rfl, hJ2 _ ?_⟩⟩) (fun e => ⟨rfl, hJ2 _ ?_⟩)) fun s hs => ⟨rfl, ?_⟩
      · simp only [Bool.and_eq_true, decide_eq_true_eq, Bool.not_eq_true'] at e
        rw [← k6]
        simp only [rawsOut, if_pos e]
        simp
      · simp only [Bool.and_eq_false_iff, decide_eq_false_iff_not, Bool.not_eq_false'] at e
        rw [← k6]
        simp only [rawsOut]
        rw [if_neg (by rintro ⟨h1, h2⟩; rcases e with e | e; exact e h1; rw [h2] at e; cases e)]
        simp
      · have hsl : s.1.length ≤ 549755813888 := by have := congrArg List.length hs; rw [List.length_append, List.length_append] at this; omega
        exact put_jp (by omega) ⟨rfl, hJ' _ hs⟩
    · rintro ⟨y, told⟩ i J rfl k6
      dsimp only at k6 ⊢
      have hyl : y.length ≤ 549755813888 := by have := congrArg List.length k6; rw [List.length_append] at this; omega
      refine bif_of (fun h => absurd (of_decide_eq_true h) (by simp)) (fun _ => ⟨rfl, ?_⟩)
      refine JP.of (fun h => h = F) (fun J' hJ' => bif_of (fun e => ⟨rfl, put_jp (by omega) ⟨rfl, hJ' _ ?_⟩⟩) (fun e => ⟨rfl, hJ' _ ?_⟩)) fun h hh => hh
      · rw [← k6]
        have e : told = false := by simpa using e
        simp [rawsOut, e]
      · rw [← k6]
        have e : told = true := by simpa using e
        simp [rawsOut, e]
theorem ok12 : Ok12 := con_ok (C := C12) (kok_cons ok13 (kok_cons ok25 (kk1 ok23))) mx7 (by kernel_rfl) run12
end Go.Rx
namespace Go.Rx
open Go.Ab Go.L7
set_option maxRecDepth 100000
set_option maxHeartbeats 20000000
set_option linter.unusedVariables false
/-- interregnum/interregnumlaw07.answers -/
noncomputable def C11 : Cfg S := { P := P7, inl := [], K := [(21, ctr P7 [27, 27] [4] (fun x0 x1 => (none, S21 x0 x1))), (13, ctr P7 [27] [4] (fun x0 => (none, S13 x0))), (17, ctr P7 [30] [27, 34] (fun x0 => (some (P17 x0), S17 x0))), (12, ctr P7 [27] [30] (fun x0 => (some (P12 x0), S12 x0)))], ann := [] }
abbrev W11 : CT S [4] [] := (none, S11)
abbrev Ok11 : Prop := ConOk P7 11 (ctr P7 [] [4] W11) ∧ ConMon (ctr P7 [] [4] W11)
theorem q11 (v : HR S [4]) : (Xf C11 6 (emp 0) 11 (argsA C11 []) (emp 0) (fun r _ => isR C11.P [4] v r) (fun _ _ => False)) = ((nat_lit 0 ≤ nat_lit
 1099511627776 ∧ nat_lit 0 ≤ nat_lit 1073741824) ∧ (nat_lit 21 ≤ nat_lit 549755813888 ∧ ∀ (c : Int), List.Mem c (S12 (api_Attrs.mk (0 : Int) [] (167772161 :
 Int) (5 : Int) (-1 : Int) [] [])) → (0 : Int) ≤ c ∧ c ≤ (255 : Int)) ∧ (nat_lit 4 ≤ nat_lit 549755813888 ∧ ∀ (c : Int), List.Mem c [(64 : Int), (1 : Int), (1
 : Int), (5 : Int)] → (0 : Int) ≤ c ∧ c ≤ (255 : Int)) ∧ true = v) := by kernel_rfl
end Go.Rx
namespace Go.Rx
open Go.Ab Go.L7
set_option linter.unusedVariables false
set_option maxRecDepth 100000
theorem enc0 : S12 (api_Attrs.mk (0 : Int) [] (167772161 : Int) (5 : Int) (-1 : Int) [] []) = [64, 1, 1, 0, 64, 2, 0, 64, 3, 4, 10, 0, 0, 1, 128, 4, 4, 0, 0, 0, 5] := by kernel_rfl
theorem run11 : RunC C11 6 11 [4] [] W11 [] := by
  intro _
  refine of_eq (q11 true) ⟨⟨Nat.zero_le _, Nat.zero_le _⟩, ⟨by decide, fun c hc => ?_⟩, ⟨by decide, fun c hc => ?_⟩, rfl⟩
  · rw [enc0] at hc
    revert c
    show ∀ c ∈ ([64, 1, 1, 0, 64, 2, 0, 64, 3, 4, 10, 0, 0, 1, 128, 4, 4, 0, 0, 0, 5] : List Int), 0 ≤ c ∧ c ≤ 255
    decide
  · revert c
    show ∀ c ∈ ([64, 1, 1, 5] : List Int), 0 ≤ c ∧ c ≤ 255
    decide
theorem ok11 (h52 : ConOk P7 52 (.srt (A := S.A) 45 53 Q52 R52)) : Ok11 := con_ok (C := C11) (kok_cons ok21 (kok_cons ok13 (kok_cons (ok17 h52) (kk1 ok12)))) mx7 (by kernel_rfl) run11
end Go.Rx
namespace Go.Rx
open Go.Ab Go.L7
set_option maxRecDepth 100000
set_option maxHeartbeats 20000000
set_option linter.unusedVariables false
/-- interregnum/interregnumlaw07.AttrSame -/
noncomputable def C5 : Cfg S := { P := P7, inl := [], K := [(18, ctr P7 [27, 27] [4] (fun x0 x1 => (none, S18 x0 x1))), (21, ctr P7 [27, 27] [4] (fun x0 x1 => (none, S21 x0 x1))), (10, ctr P7 [27] [4] (fun x0 => (none, S10 x0))), (11, ctr P7 [] [4] (none, S11))], ann := [] }
abbrev W5 : CT S [4] [27, 27] := (fun x0 x1 => (some (P5 x0 x1), S5 x0 x1))
abbrev Ok5 : Prop := ConOk P7 5 (ctr P7 [27, 27] [4] W5) ∧ ConMon (ctr P7 [27, 27] [4] W5)
theorem q5 (x0 : api_Attrs) (x1 : api_Attrs) (v : HR S [4]) : (Xf C5 6 (emp 0) 5 (argsA C5 [⟨27, x0⟩, ⟨27, x1⟩]) (emp 0) (fun r _ => isR C5.P [4] v r) (fun _ _
 => False)) = (bif !S10 x0 then true = v else bif !S10 x1 then true = v else bif decide (S21 x0 x1 = S18 x0 x1) then S21 x0 x0 = v else false = v) := by
 kernel_rfl
end Go.Rx
namespace Go.Rx
open Go.Ab Go.L7
set_option linter.unusedVariables false
set_option maxRecDepth 100000
theorem bs_inj : ∀ {x y : List Int}, By x → By y → (x.map fun n => UInt8.ofNat n.toNat) = (y.map fun n => UInt8.ofNat n.toNat) → x = y
  | [], [], _, _, _ => rfl
  | [], _ :: _, _, _, h => by cases h
  | _ :: _, [], _, _, h => by cases h
  | a :: x, b :: y, hx, hy, h => by
    simp only [List.map_cons, List.cons.injEq] at h
    have ha := hx a (by simp)
    have hb := hy b (by simp)
    have h1 := congrArg UInt8.toNat h.1
    rw [UInt8.toNat_ofNat', UInt8.toNat_ofNat'] at h1
    have : a = b := by omega
    rw [this, bs_inj (fun c hc => hx c (by simp [hc])) (fun c hc => hy c (by simp [hc])) h.2]
theorem S44_eq {x y : List Int} (hx : By x) (hy : By y) : S44 x y = decide (x = y) := by
  unfold S44 bsOf
  rw [foldl_push_bytes, foldl_push_bytes, ByteArray.toList_eq, ByteArray.toList_eq]
  by_cases h : x = y
  · subst h; simp
  · rw [decide_eq_false h]
    have : (x.map fun n => UInt8.ofNat n.toNat) ≠ (y.map fun n => UInt8.ofNat n.toNat) := fun e => h (bs_inj hx hy e)
    simpa using this
theorem rawsEq_eq : ∀ {x y : List api_Raw}, (∀ r ∈ x, By r.fData) → (∀ r ∈ y, By r.fData) → rawsEq x y = decide (x = y)
  | [], [], _, _ => rfl
  | [], _ :: _, _, _ => rfl
  | _ :: _, [], _, _ => rfl
  | r :: x, s :: y, hx, hy => by
    rw [rawsEq, rawsEq_eq (fun r hr => hx r (by simp [hr])) (fun r hr => hy r (by simp [hr])), rawEq, S44_eq (hx r (by simp)) (hy s (by simp))]
    cases r; cases s
    simp [Bool.and_assoc]
theorem S21_eq {a b : api_Attrs} (ha : RawsBy a) (hb : RawsBy b) : S21 a b = decide (a = b) := by
  unfold S21
  rw [rawsEq_eq ha hb]
  cases a; cases b
  simp only [S40, S41, api_Attrs.mk.injEq]
  rw [Bool.eq_iff_iff]
  simp only [Bool.and_eq_true, decide_eq_true_eq]
  constructor
  · rintro ⟨⟨⟨⟨⟨⟨h1, h2⟩, h3⟩, h4⟩, h5⟩, h6⟩, h7⟩; exact ⟨h1, h5, h2, h3, h4, h6, h7⟩
  · rintro ⟨h1, h5, h2, h3, h4, h6, h7⟩; exact ⟨⟨⟨⟨⟨⟨h1, h2⟩, h3⟩, h4⟩, h5⟩, h6⟩, h7⟩
theorem run5 : RunC C5 6 5 [4] [27, 27] W5 [] := by
  intro (x : api_Attrs) hx (y : api_Attrs) hy hp
  obtain ⟨h1, h2⟩ : P5 x y := hp _ rfl
  refine of_eq (q5 x y true) ?_
  refine bif_of (fun _ => rfl) (fun _ => bif_of (fun _ => rfl) (fun _ => bif_of (fun _ => ?_) (fun h => ?_)))
  · rw [S21_eq h1 h1]; simp
  · rw [S21_eq h1 h2] at h; simp [S18] at h
theorem ok5 (h52 : ConOk P7 52 (.srt (A := S.A) 45 53 Q52 R52)) : Ok5 := con_ok (C := C5) (kok_cons ok18 (kok_cons ok21 (kok_cons ok10 (kk1 (ok11 h52))))) mx7 (by kernel_rfl) run5
end Go.Rx
namespace Go.Rx
open Go.Ab Go.L7 Go.Sort Go.Proofs
theorem nil52 (w : World) : Calls P7 52 #[.slice none 0 0, .func (.func 53) #[] #[]] w fun e w' => e = .returned (.tuple #[]) ∧ w' = w :=
  AnyF.slices_SortFunc_none YtkmmnfcjbalboaaDoor.sortRaw none 0 (.func (.func 53) #[] #[]) w
theorem h52 : ConOk P7 52 (.srt (A := S.A) 45 53 Q52 R52) := sort52 nil52 says52
theorem ok5w : Ok5 := ok5 h52
end Go.Rx
namespace Go.Rx
open Go.Ab
set_option linter.unusedSimpArgs false
set_option linter.unusedVariables false
def api_Segment.ok (x : api_Segment) : Prop := okB x.fSet ∧ okL (okI .i64) x.fAS
def api_Raw.ok (x : api_Raw) : Prop := okI .i64 x.fFlags ∧ okI .i64 x.fType ∧ okL (okI .u8) x.fData
def api_Attrs.ok (x : api_Attrs) : Prop := okI .i64 x.fOrigin ∧ okL api_Segment.ok x.fPath ∧ okI .u32 x.fNext ∧ okI .i64 x.fMed ∧ okI .i64 x.fPref ∧ okL (okI .u32) x.fComms ∧ okL api_Raw.ok x.fRaws
end Go.Rx
namespace Go.Proofs.YtkmmnfcjbalboaaDoor
open Go.Ab Go.Rx
set_option linter.unusedSimpArgs false
set_option linter.unusedVariables false
theorem rd3 : Reads Tryd.prog 3 (eI .i64).pv (okI .i64) := reads_int Tryd.underlying3
theorem rd4 : Reads Tryd.prog 4 eB.pv okB := reads_bool Tryd.underlying4
theorem rd47 : Reads Tryd.prog 47 (eL (eI .i64)).pv (okL (okI .i64)) := reads_slice (E := (eI .i64)) Tryd.underlying47 (by kernel_rfl) (of_decide_eq_true (by kernel_rfl)) (by decide) rd3
theorem cells4 : Program.cellsOf Tryd.prog 4 = 1 := by kernel_rfl
theorem cells47 : Program.cellsOf Tryd.prog 47 = 1 := by kernel_rfl
theorem cells49 : Program.cellsOf Tryd.prog 49 = 2 := by kernel_rfl
theorem rd49 : Reads Tryd.prog 49 api_Segment.cells api_Segment.ok := by
  intro H enc w fuel cs d p h hw
  obtain ⟨hl, n, hf⟩ := trod_struct Tryd.underlying49 h hw
  rw [cells49] at hl
  obtain ⟨d0, p0, t0, w0⟩ := hf 0 _ rfl
  obtain ⟨x0, r0, k0⟩ := rd4 H enc w n _ d0 p0 t0 w0
  change RepL noT (gh (immOf w)) _ (List.take (Program.cellsOf Tryd.prog 4) (List.drop 0 cs)) at r0
  rw [cells4] at r0
  obtain ⟨d1, p1, t1, w1⟩ := hf 1 _ rfl
  obtain ⟨x1, r1, k1⟩ := rd47 H enc w n _ d1 p1 t1 w1
  change RepL noT (gh (immOf w)) _ (List.take (Program.cellsOf Tryd.prog 47) (List.drop 1 cs)) at r1
  rw [cells47] at r1
  exact ⟨⟨x0, x1⟩, (repL_chain (o := 0) (n := 1) (m := 1) r0 (repL_chain (o := 1) (n := 1) (m := 2) r1 (repL_end hl) rfl) rfl), k0, k1⟩
theorem rd22 : Reads Tryd.prog 22 (eL api_Segment.enc).pv (okL api_Segment.ok) := reads_slice (E := api_Segment.enc) Tryd.underlying22 (by kernel_rfl) (of_decide_eq_true (by kernel_rfl)) (by decide) rd49
theorem rd23 : Reads Tryd.prog 23 (eI .u32).pv (okI .u32) := reads_int Tryd.underlying23
theorem rd24 : Reads Tryd.prog 24 (eL (eI .u32)).pv (okL (okI .u32)) := reads_slice (E := (eI .u32)) Tryd.underlying24 (by kernel_rfl) (of_decide_eq_true (by kernel_rfl)) (by decide) rd23
theorem rd5 : Reads Tryd.prog 5 (eI .u8).pv (okI .u8) := reads_int Tryd.underlying5
theorem rd30 : Reads Tryd.prog 30 (eL (eI .u8)).pv (okL (okI .u8)) := reads_slice (E := (eI .u8)) Tryd.underlying30 (by kernel_rfl) (of_decide_eq_true (by kernel_rfl)) (by decide) rd5
theorem cells3 : Program.cellsOf Tryd.prog 3 = 1 := by kernel_rfl
theorem cells30 : Program.cellsOf Tryd.prog 30 = 1 := by kernel_rfl
theorem cells45 : Program.cellsOf Tryd.prog 45 = 3 := by kernel_rfl
theorem rd45 : Reads Tryd.prog 45 api_Raw.cells api_Raw.ok := by
  intro H enc w fuel cs d p h hw
  obtain ⟨hl, n, hf⟩ := trod_struct Tryd.underlying45 h hw
  rw [cells45] at hl
  obtain ⟨d0, p0, t0, w0⟩ := hf 0 _ rfl
  obtain ⟨x0, r0, k0⟩ := rd3 H enc w n _ d0 p0 t0 w0
  change RepL noT (gh (immOf w)) _ (List.take (Program.cellsOf Tryd.prog 3) (List.drop 0 cs)) at r0
  rw [cells3] at r0
  obtain ⟨d1, p1, t1, w1⟩ := hf 1 _ rfl
  obtain ⟨x1, r1, k1⟩ := rd3 H enc w n _ d1 p1 t1 w1
  change RepL noT (gh (immOf w)) _ (List.take (Program.cellsOf Tryd.prog 3) (List.drop 1 cs)) at r1
  rw [cells3] at r1
  obtain ⟨d2, p2, t2, w2⟩ := hf 2 _ rfl
  obtain ⟨x2, r2, k2⟩ := rd30 H enc w n _ d2 p2 t2 w2
  change RepL noT (gh (immOf w)) _ (List.take (Program.cellsOf Tryd.prog 30) (List.drop 2 cs)) at r2
  rw [cells30] at r2
  exact ⟨⟨x0, x1, x2⟩, (repL_chain (o := 0) (n := 1) (m := 1) r0 (repL_chain (o := 1) (n := 1) (m := 2) r1 (repL_chain (o := 2) (n := 1) (m := 3) r2 (repL_end hl) rfl) rfl) rfl), k0, k1, k2⟩
theorem rd25 : Reads Tryd.prog 25 (eL api_Raw.enc).pv (okL api_Raw.ok) := reads_slice (E := api_Raw.enc) Tryd.underlying25 (by kernel_rfl) (of_decide_eq_true (by kernel_rfl)) (by decide) rd45
theorem cells22 : Program.cellsOf Tryd.prog 22 = 1 := by kernel_rfl
theorem cells23 : Program.cellsOf Tryd.prog 23 = 1 := by kernel_rfl
theorem cells24 : Program.cellsOf Tryd.prog 24 = 1 := by kernel_rfl
theorem cells25 : Program.cellsOf Tryd.prog 25 = 1 := by kernel_rfl
theorem cells27 : Program.cellsOf Tryd.prog 27 = 7 := by kernel_rfl
theorem rd27 : Reads Tryd.prog 27 api_Attrs.cells api_Attrs.ok := by
  intro H enc w fuel cs d p h hw
  obtain ⟨hl, n, hf⟩ := trod_struct Tryd.underlying27 h hw
  rw [cells27] at hl
  obtain ⟨d0, p0, t0, w0⟩ := hf 0 _ rfl
  obtain ⟨x0, r0, k0⟩ := rd3 H enc w n _ d0 p0 t0 w0
  change RepL noT (gh (immOf w)) _ (List.take (Program.cellsOf Tryd.prog 3) (List.drop 0 cs)) at r0
  rw [cells3] at r0
  obtain ⟨d1, p1, t1, w1⟩ := hf 1 _ rfl
  obtain ⟨x1, r1, k1⟩ := rd22 H enc w n _ d1 p1 t1 w1
  change RepL noT (gh (immOf w)) _ (List.take (Program.cellsOf Tryd.prog 22) (List.drop 1 cs)) at r1
  rw [cells22] at r1
  obtain ⟨d2, p2, t2, w2⟩ := hf 2 _ rfl
  obtain ⟨x2, r2, k2⟩ := rd23 H enc w n _ d2 p2 t2 w2
  change RepL noT (gh (immOf w)) _ (List.take (Program.cellsOf Tryd.prog 23) (List.drop 2 cs)) at r2
  rw [cells23] at r2
  obtain ⟨d3, p3, t3, w3⟩ := hf 3 _ rfl
  obtain ⟨x3, r3, k3⟩ := rd3 H enc w n _ d3 p3 t3 w3
  change RepL noT (gh (immOf w)) _ (List.take (Program.cellsOf Tryd.prog 3) (List.drop 3 cs)) at r3
  rw [cells3] at r3
  obtain ⟨d4, p4, t4, w4⟩ := hf 4 _ rfl
  obtain ⟨x4, r4, k4⟩ := rd3 H enc w n _ d4 p4 t4 w4
  change RepL noT (gh (immOf w)) _ (List.take (Program.cellsOf Tryd.prog 3) (List.drop 4 cs)) at r4
  rw [cells3] at r4
  obtain ⟨d5, p5, t5, w5⟩ := hf 5 _ rfl
  obtain ⟨x5, r5, k5⟩ := rd24 H enc w n _ d5 p5 t5 w5
  change RepL noT (gh (immOf w)) _ (List.take (Program.cellsOf Tryd.prog 24) (List.drop 5 cs)) at r5
  rw [cells24] at r5
  obtain ⟨d6, p6, t6, w6⟩ := hf 6 _ rfl
  obtain ⟨x6, r6, k6⟩ := rd25 H enc w n _ d6 p6 t6 w6
  change RepL noT (gh (immOf w)) _ (List.take (Program.cellsOf Tryd.prog 25) (List.drop 6 cs)) at r6
  rw [cells25] at r6
  exact ⟨⟨x0, x1, x2, x3, x4, x5, x6⟩, (repL_chain (o := 0) (n := 1) (m := 1) r0 (repL_chain (o := 1) (n := 1) (m := 2) r1 (repL_chain (o := 2) (n := 1) (m := 3) r2 (repL_chain (o := 3) (n := 1) (m := 4) r3 (repL_chain (o := 4) (n := 1) (m := 5) r4 (repL_chain (o := 5) (n := 1) (m := 6) r5 (repL_chain (o := 6) (n := 1) (m := 7) r6 (repL_end hl) rfl) rfl) rfl) rfl) rfl) rfl) rfl), k0, k1, k2, k3, k4, k5, k6⟩
end Go.Proofs.YtkmmnfcjbalboaaDoor
namespace Go.Rx
open Go.Ab Go.Proofs Go.RowKit Go.ChangeShapes
theorem cells90' : Tryd.prog.cellsOf 90 = 2 := by kernel_rfl
theorem cells3' : Tryd.prog.cellsOf 3 = 1 := by kernel_rfl
/-- What the package variable holds, cell by cell. -/
theorem kindCells {W : World} (h : laidMetH Tryd.prog [("interregnum/attr.kinds", YtkmmnfcjbalboaaDoor.Rows.laid_interregnum_attr_kinds)] W) (i : Nat) (k : attr_kind) (hk : L7.kinds[i]? = some k) :
    W.cell? ⟨0, i * 2 + 0, none⟩ = some (.int .i64 k.fflags) ∧ W.cell? ⟨0, i * 2 + 1, none⟩ = some (.int .i64 k.fsize) := by
  rw [MakeChecks.laidMetH_plain _ _ _ (by kernel_rfl)] at h
  obtain ⟨ps, ⟨g, t, cs, fuel, p, q, hg, ht, hv, hd, _, _⟩, _, _⟩ := h
  obtain rfl := Option.some.inj ((show Tryd.prog.globalNamed "interregnum/attr.kinds" = some 0 by kernel_rfl).symm.trans hg)
  obtain rfl := Option.some.inj ((show (Tryd.prog.globals[0]?).map (·.type) = some 91 by kernel_rfl).symm.trans ht)
  obtain ⟨xs, m, _, ex, hcl, hl, hel⟩ := DataW.trod_array Tryd.underlying91 hd
  have hi : i < 9 := (List.getElem?_eq_some_iff.1 hk).1
  have hE := hel i hi
  rw [cells90', List.getElem?_eq_getElem (by omega)] at hE
  obtain ⟨ys, n, _, ey, hyl, hyn, hf⟩ := DataW.trod_struct Tryd.underlying90 hE
  have hn : ys.length = 2 := hyn
  have f0 := hf 0 _ rfl
  have f1 := hf 1 _ rfl
  change DataW.trod _ _ _ _ _ _ n 3 (List.take (Tryd.prog.cellsOf 3) (List.drop 0 _)) = _ at f0
  change DataW.trod _ _ _ _ _ _ n 3 (List.take (Tryd.prog.cellsOf 3) (List.drop 1 _)) = _ at f1
  rw [cells3', List.getElem?_eq_getElem (by omega)] at f0 f1
  obtain ⟨z0, a0, b0, _⟩ := DataW.trod_int Tryd.underlying3 f0
  obtain ⟨z1, a1, b1, _⟩ := DataW.trod_int Tryd.underlying3 f1
  have e3 : (xs.map (·.1)) = L7.kinds.map fun k => (.agg [.lit (.int .i64 k.fflags), .lit (.int .i64 k.fsize)] : DataW Unit) := (DataW.agg.inj (Prod.mk.inj ex).1).symm
  have e4 : (xs.map (·.1))[i]? = (L7.kinds.map fun k => (.agg [.lit (.int .i64 k.fflags), .lit (.int .i64 k.fsize)] : DataW Unit))[i]? := by rw [e3]
  rw [List.getElem?_map, List.getElem?_map, hk, List.getElem?_eq_getElem (by omega), ey] at e4
  have e5 : ys = [ys[0], ys[1]] := by
    apply List.ext_getElem
    · simp [hn]
    · intro j h1 h2
      have : j = 0 ∨ j = 1 := by omega
      rcases this with rfl | rfl <;> rfl
  rw [e5] at e4
  simp only [Option.map_some, Option.some.injEq, DataW.agg.injEq, List.map_cons, List.map_nil, List.cons.injEq, b0, b1, DataW.lit.injEq, Lit.int.injEq, true_and, and_true] at e4
  rw [World.var?_cell hg hv _, World.var?_cell hg hv _]
  have g0 : cs.toList[i * 2 + 0]? = some (.int .i64 z0) := by
    have h0 : ((((cs.toList.drop (i * 2)).take 2).drop 0).take 1)[0]? = some (.int .i64 z0) := by rw [a0]; rfl
    simpa using h0
  have g1 : cs.toList[i * 2 + 1]? = some (.int .i64 z1) := by
    have h0 : ((((cs.toList.drop (i * 2)).take 2).drop 1).take 1)[0]? = some (.int .i64 z1) := by rw [a1]; rfl
    simpa using h0
  rw [← e4.1, ← e4.2]
  exact ⟨by simpa using g0, by simpa using g1⟩
theorem glob07 {W : World} (h : laidMetH Tryd.prog [("interregnum/attr.kinds", YtkmmnfcjbalboaaDoor.Rows.laid_interregnum_attr_kinds)] W) : GlobOk S (immOf W) := by
  intro x hx i y hy
  have hx' : x ∈ ([⟨0, 90, L7.kinds⟩] : List (Gv S.A)) := hx
  rw [List.mem_singleton] at hx'
  subst hx'
  obtain ⟨h1, h2⟩ := kindCells h i y hy
  refine ⟨[.int .i64 (show attr_kind from y).fflags, .int .i64 (show attr_kind from y).fsize], ⟨_, _, rfl, rfl, rfl, _, _, rfl, rfl, rfl, rfl⟩, fun j u hu => ?_⟩
  have hs : szOf S 90 = 2 := rfl
  show W.cell? ⟨0, i * szOf S 90 + j, none⟩ = some u
  rw [hs]
  match j with
  | 0 => simp at hu; subst hu; exact h1
  | 1 => simp at hu; subst hu; exact h2
  | j + 2 => simp at hu
theorem By.of_ok {l : List Int} (h : okL (okI .u8) l) : L7.By l := fun c hc => by
  have := okI8.1 (h.2 c hc)
  omega
end Go.Rx
/-! What the document's answer and the laws hand back, and what they ask. -/
namespace Go.L7
open Go.Rx Go.Ab
def S29 (p : List api_Segment) : Bool := S26 p
def S30 (n : Int) : Bool := S27 n
def S14 (a : api_Attrs) : Bool := S13 a
def S20 (a b : api_Note) : Bool := decide (a = b)
def S33 (v : Int) : List Int := put4 v
def P31 (fl t : Int) (d : List Int) : Prop := d.length ≤ 70368744177664
def S31 (fl t : Int) (d : List Int) : List Int := (if 255 < (d.length : Int) then [IntKind.u8.wrap (w64 (fl + 16)), IntKind.u8.wrap t, IntKind.u8.wrap ((d.length : Int).tdiv 256), IntKind.u8.wrap ((d.length : Int).tmod 256)] else [IntKind.u8.wrap fl, IntKind.u8.wrap t, IntKind.u8.wrap d.length]) ++ d
def P32 (p : List api_Segment) : Prop := P23 p
def S32 (p : List api_Segment) : List Int := S23 p
def P16 (a : api_Attrs) : Prop := P12 a
def S16 (a : api_Attrs) : List Int := S12 a
def P55 (b : List Int) : Prop := 4 ≤ b.length ∧ By (b.take 4)
def S55 (b : List Int) : Int := ix b 0 * 16777216 + ix b 1 * 65536 + ix b 2 * 256 + ix b 3
def P54 (b : List Int) : Prop := P65 b
def S54 (b : List Int) : List api_Segment × Bool := S65 b
def P19 (b : List Int) : Prop := P17 b
def S19 (b : List Int) : api_Attrs × api_Note := S17 b
def P3 (a : api_Attrs) : Prop := api_Attrs.ok a
def S3 (a : api_Attrs) : Bool := true
def P4 (b : List Int) : Prop := By b
def S4 (b : List Int) : Bool := true
def P6 (a : api_Attrs) (k : Int) : Prop := api_Attrs.ok a ∧ 0 ≤ k ∧ k ≤ 255
def S6 (a : api_Attrs) (k : Int) : Bool := true
def PM (a : api_Attrs) (k : Int) : Prop := api_Attrs.ok a ∧ 0 ≤ k ∧ k ≤ 255
def S7 (a : api_Attrs) (k : Int) : Bool := true
def P8 (a : api_Attrs) (k m : Int) : Prop := api_Attrs.ok a ∧ 0 ≤ k ∧ k ≤ 255 ∧ 0 ≤ m ∧ m ≤ 255
def S8 (a : api_Attrs) (k m : Int) : Bool := true
def P9 (a : api_Attrs) (t f : Int) (d : List Int) : Prop := api_Attrs.ok a ∧ 0 ≤ t ∧ t ≤ 255 ∧ 0 ≤ f ∧ f ≤ 255 ∧ By d
def S9 (a : api_Attrs) (t f : Int) (d : List Int) : Bool := true
end Go.L7
namespace Go.Rx
open Go.Ab Go.L7
set_option maxRecDepth 100000
set_option maxHeartbeats 20000000
set_option linter.unusedVariables false
/-- interregnum/interregnumref05.GoodPath -/
noncomputable def C29 : Cfg S := { P := P7, inl := [], K := [], ann := [(29, [(8, .loop [(.sl 3, .int .i64), (.sl 5, .int .i64)]), (3, .loop [(.sl 3, .int .i64), (.sl 4, .int .i64)])])] }
abbrev W29 : CT S [4] [22] := (fun x0 => (none, S29 x0))
abbrev Ok29 : Prop := ConOk P7 29 (ctr P7 [22] [4] W29) ∧ ConMon (ctr P7 [22] [4] W29)
theorem q29 (x0 : List api_Segment) (v : HR S [4]) : (Xf C29 6 (emp 0) 29 (argsA C29 [⟨22, x0⟩]) (emp 0) (fun r _ => isR C29.P [4] v r) (fun _ _ => False)) =
 (LOOP (fun (h : Int × Int) (J : Int × Int → Prop) => bif decide (h.snd < (↑x0.length : Int)) then ((0 : Int) ≤ h.snd ∧ h.snd < (↑x0.length : Int)) ∧ (decide
 ((↑(ix x0 h.snd).fAS.length : Int) < (1 : Int)) = false → (0 : Int) ≤ h.snd ∧ h.snd < (↑x0.length : Int)) ∧ bif decide ((↑(ix x0 h.snd).fAS.length : Int) < (1
 : Int)) || decide ((255 : Int) < (↑(ix x0 h.snd).fAS.length : Int)) then false = v else LOOP (fun (h_1 : Int × Int) (J_1 : Int × Int → Prop) => ((0 : Int) ≤
 h.snd ∧ h.snd < (↑x0.length : Int)) ∧ bif decide (h_1.snd < (↑(ix x0 h.snd).fAS.length : Int)) then ((0 : Int) ≤ h.snd ∧ h.snd < (↑x0.length : Int)) ∧ ((0 :
 Int) ≤ h_1.snd ∧ h_1.snd < (↑(ix x0 h.snd).fAS.length : Int)) ∧ (decide (ix (ix x0 h.snd).fAS h_1.snd < (1 : Int)) = false → (0 : Int) ≤ h.snd ∧ h.snd <
 (↑x0.length : Int)) ∧ (decide (ix (ix x0 h.snd).fAS h_1.snd < (1 : Int)) = false → (0 : Int) ≤ h_1.snd ∧ h_1.snd < (↑(ix x0 h.snd).fAS.length : Int)) ∧ bif
 decide (ix (ix x0 h.snd).fAS h_1.snd < (1 : Int)) || decide ((4294967295 : Int) < ix (ix x0 h.snd).fAS h_1.snd) then false = v else J_1 (IntKind.i64.wrap
 (h_1.fst + (1 : Int)), IntKind.i64.wrap (h_1.snd + (1 : Int))) else J (h_1.fst, IntKind.i64.wrap (h.snd + (1 : Int)))) (h.fst, (0 : Int)) else decide (h.fst ≤
 (64 : Int)) = v) ((0 : Int), (0 : Int))) := by kernel_rfl
end Go.Rx
namespace Go.Rx
open Go.Ab Go.L7
set_option maxRecDepth 100000
set_option maxHeartbeats 20000000
set_option linter.unusedVariables false
/-- interregnum/interregnumref05.Hop -/
noncomputable def C30 : Cfg S := { P := P7, inl := [], K := [], ann := [] }
abbrev W30 : CT S [4] [23] := (fun x0 => (none, S30 x0))
abbrev Ok30 : Prop := ConOk P7 30 (ctr P7 [23] [4] W30) ∧ ConMon (ctr P7 [23] [4] W30)
theorem q30 (x0 : Int) (v : HR S [4]) : (Xf C30 6 (emp 0) 30 (argsA C30 [⟨23, x0⟩]) (emp 0) (fun r _ => isR C30.P [4] v r) (fun _ _ => False)) = ((!decide (x0
 = 0) && !decide (x0.fdiv (2 ^ 24) = 127) && decide (x0.fdiv (2 ^ 24) < 224)) = v) := by kernel_rfl
end Go.Rx
namespace Go.Rx
open Go.Ab Go.L7
set_option maxRecDepth 100000
set_option maxHeartbeats 20000000
set_option linter.unusedVariables false
/-- interregnum/interregnumref01.Four -/
noncomputable def C33 : Cfg S := { P := P7, inl := [], K := [], ann := [] }
abbrev W33 : CT S [30] [3] := (fun x0 => (none, S33 x0))
abbrev Ok33 : Prop := ConOk P7 33 (ctr P7 [3] [30] W33) ∧ ConMon (ctr P7 [3] [30] W33)
theorem q33 (x0 : Int) (v : HR S [30]) : (Xf C33 6 (emp 0) 33 (argsA C33 [⟨3, x0⟩]) (emp 0) (fun r _ => isR C33.P [30] v r) (fun _ _ => False)) =
 ([IntKind.u8.wrap (x0.fdiv (2 ^ 24)), IntKind.u8.wrap (x0.fdiv (2 ^ 16)), IntKind.u8.wrap (x0.fdiv (2 ^ 8)), IntKind.u8.wrap x0] = v) := by kernel_rfl
end Go.Rx
namespace Go.Rx
open Go.Ab Go.L7
set_option maxRecDepth 100000
set_option maxHeartbeats 20000000
set_option linter.unusedVariables false
/-- interregnum/interregnumref05.GoodAttrs -/
noncomputable def C14 : Cfg S := { P := P7, inl := [], K := [(29, ctr P7 [22] [4] (fun x0 => (none, S29 x0))), (30, ctr P7 [23] [4] (fun x0 => (none, S30 x0)))], ann := [(14, [(4, .loop [(.sl 3, .int .i64)])])] }
abbrev W14 : CT S [4] [27] := (fun x0 => (none, S14 x0))
abbrev Ok14 : Prop := ConOk P7 14 (ctr P7 [27] [4] W14) ∧ ConMon (ctr P7 [27] [4] W14)
theorem q14 (x0 : api_Attrs) (v : HR S [4]) : (Xf C14 6 (emp 0) 14 (argsA C14 [⟨27, x0⟩]) (emp 0) (fun r _ => isR C14.P [4] v r) (fun _ _ => False)) = (bif
 decide (x0.fOrigin < (0 : Int)) || decide ((2 : Int) < x0.fOrigin) then false = v else bif !S29 x0.fPath then false = v else bif !S30 x0.fNext || decide
 (x0.fMed < (-1 : Int)) || decide ((4294967295 : Int) < x0.fMed) || decide (x0.fPref < (-1 : Int)) || decide ((4294967295 : Int) < x0.fPref) || decide ((32 :
 Int) < (↑x0.fComms.length : Int)) then false = v else LOOP (fun (h : Int) (J : Int → Prop) => bif decide (h < (↑x0.fRaws.length : Int)) then ((0 : Int) ≤ h ∧
 h < (↑x0.fRaws.length : Int)) ∧ ((!(decide ((ix x0.fRaws h).fType = (6 : Int)) && decide ((ix x0.fRaws h).fFlags = (64 : Int)) && decide ((↑(ix x0.fRaws
 h).fData.length : Int) = (0 : Int))) && !(decide ((ix x0.fRaws h).fType = (7 : Int)) && decide ((ix x0.fRaws h).fFlags = (192 : Int)) && decide ((↑(ix
 x0.fRaws h).fData.length : Int) = (8 : Int))) && !(decide ((8 : Int) < (ix x0.fRaws h).fType) && decide ((ix x0.fRaws h).fType ≤ (255 : Int)) && decide ((ix
 x0.fRaws h).fFlags = (224 : Int)) && decide ((↑(ix x0.fRaws h).fData.length : Int) ≤ (255 : Int)))) = false → decide ((0 : Int) < h) = true → (0 : Int) ≤
 IntKind.i64.wrap (h - (1 : Int)) ∧ IntKind.i64.wrap (h - (1 : Int)) < (↑x0.fRaws.length : Int)) ∧ bif !(decide ((ix x0.fRaws h).fType = (6 : Int)) && decide
 ((ix x0.fRaws h).fFlags = (64 : Int)) && decide ((↑(ix x0.fRaws h).fData.length : Int) = (0 : Int))) && !(decide ((ix x0.fRaws h).fType = (7 : Int)) && decide
 ((ix x0.fRaws h).fFlags = (192 : Int)) && decide ((↑(ix x0.fRaws h).fData.length : Int) = (8 : Int))) && !(decide ((8 : Int) < (ix x0.fRaws h).fType) &&
 decide ((ix x0.fRaws h).fType ≤ (255 : Int)) && decide ((ix x0.fRaws h).fFlags = (224 : Int)) && decide ((↑(ix x0.fRaws h).fData.length : Int) ≤ (255 : Int)))
 || decide ((0 : Int) < h) && decide ((ix x0.fRaws h).fType ≤ (ix x0.fRaws (IntKind.i64.wrap (h - (1 : Int)))).fType) then false = v else J (IntKind.i64.wrap
 (h + (1 : Int))) else true = v) (0 : Int)) := by kernel_rfl
end Go.Rx
namespace Go.Rx
open Go.Ab Go.L7
set_option maxRecDepth 100000
set_option maxHeartbeats 20000000
set_option linter.unusedVariables false
/-- interregnum/interregnumref05.Path -/
noncomputable def C32 : Cfg S := { P := P7, inl := [], K := [(29, ctr P7 [22] [4] (fun x0 => (none, S29 x0))), (33, ctr P7 [3] [30] (fun x0 => (none, S33 x0)))], ann := [(32, [(6, .join [(.sl 3, .own 5)]), (10, .join [(.sl 5, .int .u8)]), (12, .loop [(.sl 3, .own 5), (.sl 6, .int .i64)]), (5, .loop [(.sl 3, .own 5), (.sl 4, .int .i64)])])] }
abbrev W32 : CT S [30] [22] := (fun x0 => (some (P32 x0), S32 x0))
abbrev Ok32 : Prop := ConOk P7 32 (ctr P7 [22] [30] W32) ∧ ConMon (ctr P7 [22] [30] W32)
theorem q32 (x0 : List api_Segment) (v : HR S [30]) : (Xf C32 6 (emp 0) 32 (argsA C32 [⟨22, x0⟩]) (emp 0) (fun r _ => isR C32.P [30] v r) (fun _ _ => False)) =
 (bif !S29 x0 then [] = v else LOOP (fun (h : List Int × Int) (J : List Int × Int → Prop) => bif decide (h.snd < ↑x0.length) then h.fst.length = h.fst.length ∧
 JP (fun (h_1 : List Int) => h_1.length = h_1.length ∧ J (h_1, IntKind.i64.wrap (h.snd + 1))) fun (J : List Int → Prop) => JP (fun (h_1 : Int) => (0 ≤ h.snd ∧
 h.snd < ↑x0.length) ∧ (h.fst.length = h.fst.length ∧ (h.fst.length + [h_1, IntKind.u8.wrap ↑(ix x0 h.snd).fAS.length].length) * 1 ≤ 140737488355328) ∧ ∀ (y :
 List (S.A 5)), y = h.fst ++ [h_1, IntKind.u8.wrap ↑(ix x0 h.snd).fAS.length] → y.length = y.length ∧ LOOP (fun (h_3 : List Int × Int) (J_1 : List Int × Int →
 Prop) => (0 ≤ h.snd ∧ h.snd < ↑x0.length) ∧ bif decide (h_3.snd < ↑(ix x0 h.snd).fAS.length) then (0 ≤ h.snd ∧ h.snd < ↑x0.length) ∧ (0 ≤ h_3.snd ∧ h_3.snd <
 ↑(ix x0 h.snd).fAS.length) ∧ (h_3.fst.length = h_3.fst.length ∧ (h_3.fst.length + (S33 (ix (ix x0 h.snd).fAS h_3.snd)).length) * 1 ≤ 140737488355328) ∧ ∀ (y :
 List (S.A 5)), y = h_3.fst ++ S33 (ix (ix x0 h.snd).fAS h_3.snd) → y.length = y.length ∧ J_1 (y, IntKind.i64.wrap (h_3.snd + 1)) else h_3.fst.length =
 h_3.fst.length ∧ J h_3.fst) (y, 0)) fun (J : Int → Prop) => (0 ≤ h.snd ∧ h.snd < ↑x0.length) ∧ bif (ix x0 h.snd).fSet then J 1 else J 2 else h.fst = v) ([],
 0)) := by kernel_rfl
end Go.Rx
namespace Go.Rx
open Go.Ab Go.L7
set_option maxRecDepth 100000
set_option maxHeartbeats 20000000
set_option linter.unusedVariables false
/-- interregnum/interregnumref05.SameNote -/
noncomputable def C20 : Cfg S := { P := P7, inl := [], K := [(15, ctr P7 [30, 30] [4] (fun x0 x1 => (none, S15 x0 x1)))], ann := [] }
abbrev W20 : CT S [4] [34, 34] := (fun x0 x1 => (none, S20 x0 x1))
abbrev Ok20 : Prop := ConOk P7 20 (ctr P7 [34, 34] [4] W20) ∧ ConMon (ctr P7 [34, 34] [4] W20)
theorem q20 (x0 : api_Note) (x1 : api_Note) (v : HR S [4]) : (Xf C20 6 (emp 0) 20 (argsA C20 [⟨34, x0⟩, ⟨34, x1⟩]) (emp 0) (fun r _ => isR C20.P [4] v r) (fun
 _ _ => False)) = (bif decide (x0.fCode = x1.fCode) && decide (x0.fSub = x1.fSub) then S15 x0.fData x1.fData = v else false = v) := by kernel_rfl
end Go.Rx
namespace Go.Rx
open Go.Ab Go.L7
set_option maxRecDepth 100000
set_option maxHeartbeats 20000000
set_option linter.unusedVariables false
/-- interregnum/interregnumref01.Num -/
noncomputable def C55 : Cfg S := { P := P7, inl := [], K := [], ann := [] }
abbrev W55 : CT S [3] [30] := (fun x0 => (some (P55 x0), S55 x0))
abbrev Ok55 : Prop := ConOk P7 55 (ctr P7 [30] [3] W55) ∧ ConMon (ctr P7 [30] [3] W55)
theorem q55 (x0 : List Int) (v : HR S [3]) : (Xf C55 6 (emp 0) 55 (argsA C55 [⟨30, x0⟩]) (emp 0) (fun r _ => isR C55.P [3] v r) (fun _ _ => False)) = (((0 :
 Int) ≤ (0 : Int) ∧ (0 : Int) < (↑x0.length : Int)) ∧ ((0 : Int) ≤ (1 : Int) ∧ (1 : Int) < (↑x0.length : Int)) ∧ ((0 : Int) ≤ (2 : Int) ∧ (2 : Int) <
 (↑x0.length : Int)) ∧ ((0 : Int) ≤ (3 : Int) ∧ (3 : Int) < (↑x0.length : Int)) ∧ IntKind.i64.wrap (IntKind.i64.wrap (IntKind.i64.wrap (IntKind.i64.wrap
 (IntKind.i64.wrap (ix x0 (0 : Int)) * (2 : Int) ^ nat_lit 24) + IntKind.i64.wrap (IntKind.i64.wrap (ix x0 (1 : Int)) * (2 : Int) ^ nat_lit 16)) +
 IntKind.i64.wrap (IntKind.i64.wrap (ix x0 (2 : Int)) * (2 : Int) ^ nat_lit 8)) + IntKind.i64.wrap (ix x0 (3 : Int))) = v) := by kernel_rfl
end Go.Rx
/-! The document's small functions. -/
namespace Go.Rx
open Go.Ab Go.L7
set_option linter.unusedVariables false
set_option linter.unusedSimpArgs false
set_option maxRecDepth 100000
theorem run30 : RunC C30 6 30 [4] [23] W30 [] := by
  intro (x : Int) hx _
  exact of_eq (q30 x _) rfl
theorem ok30 : Ok30 := con_ok (C := C30) kok_nil mx7 (by kernel_rfl) run30
theorem run33 : RunC C33 6 33 [30] [3] W33 [] := by
  intro (x : Int) hx _
  exact of_eq (q33 x _) rfl
theorem ok33 : Ok33 := con_ok (C := C33) kok_nil mx7 (by kernel_rfl) run33
theorem run20 : RunC C20 6 20 [4] [34, 34] W20 [] := by
  intro (x : api_Note) hx (y : api_Note) hy _
  refine of_eq (q20 x y _) (bif_of (fun h => ?_) (fun h => ?_))
  · simp only [Bool.and_eq_true, decide_eq_true_eq] at h
    cases x; cases y; simp_all [S15, S20]
  · refine (decide_eq_false fun e => ?_).symm
    subst e; simp at h
theorem ok20 : Ok20 := con_ok (C := C20) (kk1 ok15) mx7 (by kernel_rfl) run20
theorem w64_id {n : Int} (h : -9223372036854775808 ≤ n ∧ n < 9223372036854775808) : IntKind.i64.wrap n = n := wrap64 (by omega)
theorem run55 : RunC C55 6 55 [3] [30] W55 [] := by
  intro (x : List Int) hx hp
  obtain ⟨hl, hb⟩ : P55 x := hp _ rfl
  have g : ∀ i : Int, 0 ≤ i → i < 4 → 0 ≤ ix x i ∧ ix x i ≤ 255 := by
    intro i h1 h2
    have e : ix x i = ix (x.take 4) i := by
      unfold ix; rw [List.getD_eq_getElem?_getD, List.getD_eq_getElem?_getD, List.getElem?_take_of_lt (by omega)]
    rw [e]
    exact hb _ (ix_mem h1 (by rw [List.length_take]; omega))
  have g0 := g 0 (by omega) (by omega)
  have g1 := g 1 (by omega) (by omega)
  have g2 := g 2 (by omega) (by omega)
  have g3 := g 3 (by omega) (by omega)
  refine of_eq (q55 x _) ⟨⟨by omega, by omega⟩, ⟨by omega, by omega⟩, ⟨by omega, by omega⟩, ⟨by omega, by omega⟩, ?_⟩
  show _ = S55 x
  unfold S55
  rw [show (2 : Int) ^ (nat_lit 24) = 16777216 from rfl, show (2 : Int) ^ (nat_lit 16) = 65536 from rfl, show (2 : Int) ^ (nat_lit 8) = 256 from rfl]
  rw [w64_id (n := ix x 0) (by omega), w64_id (n := ix x 1) (by omega), w64_id (n := ix x 2) (by omega), w64_id (n := ix x 3) (by omega)]
  rw [w64_id (n := ix x 0 * 16777216) (by omega), w64_id (n := ix x 1 * 65536) (by omega), w64_id (n := ix x 2 * 256) (by omega)]
  rw [w64_id (n := ix x 0 * 16777216 + ix x 1 * 65536) (by omega), w64_id (n := ix x 0 * 16777216 + ix x 1 * 65536 + ix x 2 * 256) (by omega), w64_id (by omega)]
theorem ok55 : Ok55 := con_ok (C := C55) kok_nil mx7 (by kernel_rfl) run55
theorem w64_def (n : Int) : w64 n = (n + 9223372036854775808) % 18446744073709551616 - 9223372036854775808 := Go.Ab.wrap64 n
theorem w64_add (n m : Int) : w64 (w64 n + m) = w64 (n + m) := by rw [w64_def, w64_def, w64_def]; omega
theorem w64_w64 (n : Int) : w64 (w64 n) = w64 n := by rw [w64_def, w64_def]; omega
theorem run29 : RunC C29 6 29 [4] [22] W29 [] := by
  intro (x : List api_Segment) hx _
  have hp : x.length ≤ 9223372036854775807 := hx.1.1
  refine of_eq (q29 x (S26 x)) ?_
  generalize hv : S26 x = v
  unfold S26 at hv
  refine listLoop (l := x) hp (fun (n : Int) i => (n, i)) (fun y => y.2) (fun _ _ => rfl) (fun i r n => w64 n = n ∧ goodP r n = v) ⟨by decide, hv⟩ ?_ ?_
  · rintro n i s r J k1 k2 k3 k4 k5 ⟨k0, k6⟩ hJ
    refine bif_of (fun _ => ⟨⟨k1, k2⟩, fun _ => ⟨k1, k2⟩, ?_⟩) (fun h => absurd k2 (of_decide_eq_false h))
    simp only [k3]
    simp only [goodP] at k6
    refine bif_of (fun h => ?_) (fun h => ?_)
    · rw [if_pos (by simp only [Bool.or_eq_true, decide_eq_true_eq] at h; omega)] at k6
      exact k6
    · rw [if_neg (by simp only [Bool.or_eq_false_iff, decide_eq_false_iff_not] at h; omega)] at k6
      have hs : s.fAS.length ≤ 9223372036854775807 := by simp only [Bool.or_eq_false_iff, decide_eq_false_iff_not] at h; omega
      refine listLoop (l := s.fAS) hs (fun (n : Int) i => (n, i)) (fun y => y.2) (fun _ _ => rfl) (fun j r' m => (s.fAS.all asOk = r'.all asOk) ∧ m = w64 (n + j)) (s0 := n) ⟨rfl, by rw [Int.add_zero, k0]⟩ ?_ ?_
      · rintro m j a r' J' j1 j2 j3 j4 j5 ⟨j6, j7⟩ hJ'
        refine ⟨⟨k1, k2⟩, bif_of (fun _ => ⟨⟨k1, k2⟩, ⟨j1, j2⟩, fun _ => ⟨k1, k2⟩, fun _ => ⟨j1, j2⟩, ?_⟩) (fun h => absurd j2 (of_decide_eq_false h))⟩
        simp only [j3]
        refine bif_of (fun h => ?_) (fun h => hJ' _ ⟨?_, ?_⟩)
        · have : asOk a = false := by unfold asOk; simp at h ⊢; omega
          rw [j6] at k6
          simp only [List.all_cons, this, Bool.false_and] at k6
          rw [if_neg (by simp)] at k6
          exact k6
        · have : asOk a = true := by unfold asOk; simp at h ⊢; omega
          rw [j6]
          simp [this]
        · show w64 (m + 1) = _
          rw [j7, w64_add, Int.add_assoc]
      · rintro m j J' rfl ⟨j6, j7⟩
        refine ⟨⟨k1, k2⟩, bif_of (fun h => absurd (of_decide_eq_true h) (by simp)) (fun _ => hJ _ ⟨?_, ?_⟩)⟩
        · show w64 m = m
          rw [j7, w64_w64]
        · rw [j6] at k6
          simp only [List.all_nil, if_true] at k6
          show goodP r m = v
          rw [j7]; exact k6
  · rintro n i J rfl ⟨_, h⟩
    exact bif_of (fun h => absurd (of_decide_eq_true h) (by simp)) (fun _ => h)
theorem ok29 : Ok29 := con_ok (C := C29) kok_nil mx7 (by kernel_rfl) run29
/-- Raws one by one, as the document has them. -/
theorem S28_eq (r : api_Raw) : S28 r = !(!(decide (r.fType = 6) && decide (r.fFlags = 64) && decide ((r.fData.length : Int) = 0)) && !(decide (r.fType = 7) && decide (r.fFlags = 192) && decide ((r.fData.length : Int) = 8)) && !(decide (8 < r.fType) && decide (r.fType ≤ 255) && decide (r.fFlags = 224) && decide ((r.fData.length : Int) ≤ 255))) := by
  unfold S28
  by_cases h6 : r.fType = 6
  · rw [if_pos h6, h6]; simp
  · rw [if_neg h6]
    by_cases h7 : r.fType = 7
    · rw [if_pos h7, h7]; simp
    · rw [if_neg h7]; simp [h6, h7]
theorem run14 : RunC C14 6 14 [4] [27] W14 [] := by
  intro (x : api_Attrs) hx _
  have hr : x.fRaws.length ≤ 9223372036854775807 := hx.2.2.1.1
  refine of_eq (q14 x (S13 x)) ?_
  refine bif_of (fun h => ?_) (fun h1 => bif_of (fun h => ?_) fun h2 => bif_of (fun h => ?_) fun h3 => ?_)
  · simp [S13, h]
  · simp only [Bool.not_eq_true'] at h; change S26 x.fPath = false at h; simp [S13, h]
  · have : (S27 x.fNext && !decide (32 < (x.fComms.length : Int)) && (decide (-1 ≤ x.fMed) && decide (x.fMed ≤ 4294967295) && decide (-1 ≤ x.fPref) && decide (x.fPref ≤ 4294967295))) = false := by
      rw [Bool.eq_false_iff]
      intro hc
      simp only [Bool.and_eq_true, Bool.not_eq_true', decide_eq_true_eq, decide_eq_false_iff_not, Bool.or_eq_true] at h hc
      rcases h with ((((h | h) | h) | h) | h) | h
      · rw [show S30 x.fNext = S27 x.fNext from rfl, hc.1.1] at h; cases h
      all_goals omega
    refine (Bool.eq_false_iff.2 fun hc => ?_).symm
    unfold S13 at hc
    simp only [Bool.and_eq_true] at hc this
    rw [Bool.eq_false_iff] at this
    exact this (by simp only [Bool.and_eq_true]; exact ⟨⟨hc.1.1.1.2, hc.1.1.2⟩, hc.2⟩)
  · simp only [Bool.or_eq_false_iff, Bool.not_eq_false'] at h2 h3
    have hv : S13 x = rawsUp none x.fRaws := by
      have e1 : S26 x.fPath = true := h2
      have e2 : S27 x.fNext = true := h3.1.1.1.1.1
      have e3 : decide (-1 ≤ x.fMed) = true := decide_eq_true (by have := of_decide_eq_false h3.1.1.1.1.2; omega)
      have e4 : decide (x.fMed ≤ 4294967295) = true := decide_eq_true (by have := of_decide_eq_false h3.1.1.1.2; omega)
      have e5 : decide (-1 ≤ x.fPref) = true := decide_eq_true (by have := of_decide_eq_false h3.1.1.2; omega)
      have e6 : decide (x.fPref ≤ 4294967295) = true := decide_eq_true (by have := of_decide_eq_false h3.1.2; omega)
      unfold S13; rw [h1, e1, e2, h3.2, e3, e4, e5, e6]; simp
    rw [hv]
    refine listLoop (l := x.fRaws) hr (fun (_ : Unit) i => i) id (fun _ _ => rfl) (fun i r _ => rawsUp none x.fRaws = rawsUp (if i = 0 then none else some (ix x.fRaws (i - 1)).fType) r) (s0 := ()) rfl ?_ ?_
    · rintro _ i s r J k1 k2 k3 k4 k5 k6 hJ
      refine bif_of (fun _ => ⟨⟨k1, k2⟩, fun _ h => ?_, ?_⟩) (fun h => absurd k2 (of_decide_eq_false h))
      · have h := of_decide_eq_true h
        rw [wrap64 (by omega)]
        exact ⟨by omega, by omega⟩
      · rw [wrap64 (by omega)]
        simp only [k3]
        have hS := S28_eq s
        refine bif_of (fun h => ?_) (fun h => hJ () ?_)
        · have : rawsUp none x.fRaws = false := by
            rw [k6]
            rw [Bool.or_eq_true] at h
            rcases h with h | h
            · rw [h] at hS
              simp [rawsUp, hS]
            · simp only [Bool.and_eq_true, decide_eq_true_eq] at h
              rw [if_neg (by omega)]
              have : ¬ (ix x.fRaws (i - 1)).fType < s.fType := by omega
              simp [rawsUp, this]
          rw [this]
        · have e1 : (if i + 1 = 0 then none else some (ix x.fRaws (i + 1 - 1)).fType) = some s.fType := by rw [if_neg (by omega), show i + 1 - 1 = i by omega, k3]
          rw [k6, e1]
          rw [Bool.or_eq_false_iff] at h
          rw [h.1] at hS
          have h2 := h.2
          simp only [Bool.and_eq_false_iff, decide_eq_false_iff_not] at h2
          by_cases hi : i = 0
          · rw [if_pos hi]; simp [rawsUp, hS]
          · rw [if_neg hi]
            have : (ix x.fRaws (i - 1)).fType < s.fType := by omega
            simp [rawsUp, hS, this]
    · rintro _ i J rfl h
      refine bif_of (fun h => absurd (of_decide_eq_true h) (by simp)) (fun _ => ?_)
      rw [h]; simp [rawsUp]
theorem ok14 : Ok14 := con_ok (C := C14) (kok_cons ok29 (kk1 ok30)) mx7 (by kernel_rfl) run14
theorem u8_u32 (n k : Int) (hk : k = 1 ∨ k = 256 ∨ k = 65536 ∨ k = 16777216) : IntKind.u8.wrap ((IntKind.u32.wrap n).fdiv k) = IntKind.u8.wrap (n.fdiv k) := by
  have h8 : ∀ m : Int, IntKind.u8.wrap m = m % 256 := fun m => rfl
  have h32 : ∀ m : Int, IntKind.u32.wrap m = m % 4294967296 := fun m => rfl
  rw [h8, h8, h32]
  rcases hk with rfl | rfl | rfl | rfl
  · rw [Int.fdiv_eq_ediv_of_nonneg _ (by omega), Int.fdiv_eq_ediv_of_nonneg _ (by omega)]; omega
  · rw [Int.fdiv_eq_ediv_of_nonneg _ (by omega), Int.fdiv_eq_ediv_of_nonneg _ (by omega)]; omega
  · rw [Int.fdiv_eq_ediv_of_nonneg _ (by omega), Int.fdiv_eq_ediv_of_nonneg _ (by omega)]; omega
  · rw [Int.fdiv_eq_ediv_of_nonneg _ (by omega), Int.fdiv_eq_ediv_of_nonneg _ (by omega)]; omega
theorem put4_u32 (n : Int) : put4 (IntKind.u32.wrap n) = put4 n := by
  unfold put4
  have h0 := u8_u32 n 1 (by simp)
  rw [Int.fdiv_one, Int.fdiv_one] at h0
  have h1 := u8_u32 n 256 (by simp)
  have h2 := u8_u32 n 65536 (by simp)
  have h3 := u8_u32 n 16777216 (by simp)
  rw [show (2 : Int) ^ 8 = 256 from rfl, show (2 : Int) ^ 16 = 65536 from rfl, show (2 : Int) ^ 24 = 16777216 from rfl, h0, h1, h2, h3]
theorem run32 : RunC C32 6 32 [30] [22] W32 [] := by
  intro (x : List api_Segment) hx hp
  have hp : x.length ≤ 140737488355328 := hp _ rfl
  refine of_eq (q32 x (S23 x)) ?_
  refine bif_of (fun h => ?_) (fun h => ?_)
  · simp only [Bool.not_eq_true'] at h; change S26 x = false at h; simp [S23, h]
  · simp only [Bool.not_eq_false'] at h
    change S26 x = true at h
    have hv : S23 x = x.flatMap segB := by simp [S23, h]
    rw [hv]
    obtain ⟨g1, g2⟩ := goodP_spec x 0 h (Int.le_refl _) (by omega)
    have hlen : (x.flatMap segB).length ≤ 384 := by
      rw [seg_len]
      have := asSum_len x fun s hs => (g2 s hs).1
      omega
    revert hlen
    generalize hF : x.flatMap segB = F
    intro hlen
    refine listLoop (l := x) (by omega) (fun (o : List Int) i => (o, i)) (fun y => y.2) (fun _ _ => rfl) (fun i r o => o ++ r.flatMap segB = F) (s0 := []) (by simpa using hF) ?_ ?_
    · rintro o i s r J k1 k2 k3 k4 k5 k6 hJ
      refine bif_of (fun _ => ⟨rfl, JP.of (fun o' => o' ++ r.flatMap segB = F) (fun J' hJ' => ?_) (fun y hy => ⟨rfl, hJ _ hy⟩)⟩) (fun h => absurd k2 (of_decide_eq_false h))
      simp only [k3]
      refine JP.of (fun c => c = if s.fSet then 1 else 2) (fun J hJ => ⟨⟨k1, k2⟩, bif_of (fun h => hJ _ (by simp [h])) (fun h => hJ _ (by simp [h]))⟩) fun c hc => ⟨⟨k1, k2⟩, ?_⟩
      have hF1 : o.length ≤ 384 := by have := congrArg List.length k6; rw [List.length_append] at this; omega
      refine ⟨⟨by trivial, by show (o.length + 2) * 1 ≤ 140737488355328; omega⟩, fun (y : List Int) hy => ⟨by trivial, ?_⟩⟩
      obtain ⟨s1, s2, s3⟩ := g2 s k4
      have k7 : y ++ (s.fAS.flatMap fun n => put4 (IntKind.u32.wrap n)) ++ r.flatMap segB = F := by
        rw [← k6, List.flatMap_cons, hy, hc]
        simp [segB]
      refine listLoop (l := s.fAS) (by omega) (fun (o : List Int) i => (o, i)) (fun y => y.2) (fun _ _ => rfl) (fun i r' o => o ++ (r'.flatMap fun n => put4 (IntKind.u32.wrap n)) ++ r.flatMap segB = F) (s0 := y) k7 ?_ ?_
      · rintro o2 j n r' J2 j1 j2 j3 j4 j5 j6 hJ2
        have hF2 : o2.length ≤ 384 := by have := congrArg List.length j6; rw [List.length_append, List.length_append] at this; omega
        refine ⟨⟨k1, k2⟩, bif_of (fun _ => ⟨⟨k1, k2⟩, ⟨j1, j2⟩, ⟨by trivial, by show (o2.length + 4) * 1 ≤ 140737488355328; omega⟩, fun (z : List Int) hz => ⟨by trivial, ?_⟩⟩) (fun h => absurd j2 (of_decide_eq_false h))⟩
        refine hJ2 z ?_
        rw [← j6, hz]
        simp only [j3, S33]
        rw [List.flatMap_cons, put4_u32]
        simp
      · rintro o2 j J2 rfl j6
        refine ⟨⟨k1, k2⟩, bif_of (fun h => absurd (of_decide_eq_true h) (by simp)) (fun _ => ⟨by trivial, hJ' _ (by simpa using j6)⟩)⟩
    · rintro o i J rfl h
      refine bif_of (fun h => absurd (of_decide_eq_true h) (by simp)) (fun _ => ?_)
      simpa using h
theorem ok32 : Ok32 := con_ok (C := C32) (kok_cons ok29 (kk1 ok33)) mx7 (by kernel_rfl) run32
end Go.Rx
