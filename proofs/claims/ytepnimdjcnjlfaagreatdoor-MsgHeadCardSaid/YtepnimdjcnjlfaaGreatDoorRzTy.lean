import Derived.Test.YtepnimdjcnjlfaaGreatDoorAbAp
import Derived.Test.YtepnimdjcnjlfaaGreatDoorAbEq
import Derived.Test.YtepnimdjcnjlfaaGreatDoorAbRd
namespace Go.Ab
structure api_Caps where
  fFour : Bool
  fAS4 : Int
  fGR : Bool
  fRestarting : Bool
  fTime : Int
  fFamily : Bool
  fForward : Bool
  fLL : Bool
  fLLTime : Int
  deriving DecidableEq, Inhabited
def api_Caps.cells (x : api_Caps) : List PV := [.sc (.bool x.fFour), .sc (.int .i64 x.fAS4), .sc (.bool x.fGR), .sc (.bool x.fRestarting), .sc (.int .i64 x.fTime), .sc (.bool x.fFamily), .sc (.bool x.fForward), .sc (.bool x.fLL), .sc (.int .i64 x.fLLTime)]
def api_Caps.enc : Enc api_Caps := ⟨9, api_Caps.cells, fun _ => rfl⟩
def api_Caps.ok (x : api_Caps) : Prop := okB x.fFour ∧ okI .i64 x.fAS4 ∧ okB x.fGR ∧ okB x.fRestarting ∧ okI .i64 x.fTime ∧ okB x.fFamily ∧ okB x.fForward ∧ okB x.fLL ∧ okI .i64 x.fLLTime
def api_Caps.vals (x : api_Caps) : List Value := [.bool x.fFour, .int .i64 x.fAS4, .bool x.fGR, .bool x.fRestarting, .int .i64 x.fTime, .bool x.fFamily, .bool x.fForward, .bool x.fLL, .int .i64 x.fLLTime]
structure api_Open where
  fAS : Int
  fHold : Int
  fID : Int
  fCaps : api_Caps
  deriving DecidableEq, Inhabited
def api_Open.cells (x : api_Open) : List PV := [.sc (.int .i64 x.fAS), .sc (.int .i64 x.fHold), .sc (.int .u32 x.fID), .sc (.bool x.fCaps.fFour), .sc (.int .i64 x.fCaps.fAS4), .sc (.bool x.fCaps.fGR), .sc (.bool x.fCaps.fRestarting), .sc (.int .i64 x.fCaps.fTime), .sc (.bool x.fCaps.fFamily), .sc (.bool x.fCaps.fForward), .sc (.bool x.fCaps.fLL), .sc (.int .i64 x.fCaps.fLLTime)]
def api_Open.enc : Enc api_Open := ⟨12, api_Open.cells, fun _ => rfl⟩
def api_Open.ok (x : api_Open) : Prop := okI .i64 x.fAS ∧ okI .i64 x.fHold ∧ okI .u32 x.fID ∧ api_Caps.ok x.fCaps
def api_Open.vals (x : api_Open) : List Value := [.int .i64 x.fAS, .int .i64 x.fHold, .int .u32 x.fID, .bool x.fCaps.fFour, .int .i64 x.fCaps.fAS4, .bool x.fCaps.fGR, .bool x.fCaps.fRestarting, .int .i64 x.fCaps.fTime, .bool x.fCaps.fFamily, .bool x.fCaps.fForward, .bool x.fCaps.fLL, .int .i64 x.fCaps.fLLTime]
structure api_Note where
  fCode : Int
  fSub : Int
  fData : List Int
  deriving DecidableEq, Inhabited
def api_Note.cells (x : api_Note) : List PV := [.sc (.int .i64 x.fCode), .sc (.int .i64 x.fSub), .sem (SL (eI .u8) x.fData)]
def api_Note.enc : Enc api_Note := ⟨3, api_Note.cells, fun _ => rfl⟩
def api_Note.ok (x : api_Note) : Prop := okI .i64 x.fCode ∧ okI .i64 x.fSub ∧ okL (okI .u8) x.fData
structure api_Prefix where
  fAddr : Int
  fLen : Int
  deriving DecidableEq, Inhabited
def api_Prefix.cells (x : api_Prefix) : List PV := [.sc (.int .u32 x.fAddr), .sc (.int .i64 x.fLen)]
def api_Prefix.enc : Enc api_Prefix := ⟨2, api_Prefix.cells, fun _ => rfl⟩
def api_Prefix.ok (x : api_Prefix) : Prop := okI .u32 x.fAddr ∧ okI .i64 x.fLen
def api_Prefix.vals (x : api_Prefix) : List Value := [.int .u32 x.fAddr, .int .i64 x.fLen]
structure api_Segment where
  fSet : Bool
  fAS : List Int
  deriving DecidableEq, Inhabited
def api_Segment.cells (x : api_Segment) : List PV := [.sc (.bool x.fSet), .sem (SL (eI .i64) x.fAS)]
def api_Segment.enc : Enc api_Segment := ⟨2, api_Segment.cells, fun _ => rfl⟩
def api_Segment.ok (x : api_Segment) : Prop := okB x.fSet ∧ okL (okI .i64) x.fAS
structure api_Raw where
  fFlags : Int
  fType : Int
  fData : List Int
  deriving DecidableEq, Inhabited
def api_Raw.cells (x : api_Raw) : List PV := [.sc (.int .i64 x.fFlags), .sc (.int .i64 x.fType), .sem (SL (eI .u8) x.fData)]
def api_Raw.enc : Enc api_Raw := ⟨3, api_Raw.cells, fun _ => rfl⟩
def api_Raw.ok (x : api_Raw) : Prop := okI .i64 x.fFlags ∧ okI .i64 x.fType ∧ okL (okI .u8) x.fData
structure api_Attrs where
  fOrigin : Int
  fPath : List api_Segment
  fNext : Int
  fMed : Int
  fPref : Int
  fComms : List Int
  fRaws : List api_Raw
  deriving DecidableEq, Inhabited
def api_Attrs.cells (x : api_Attrs) : List PV := [.sc (.int .i64 x.fOrigin), .sem (SL api_Segment.enc x.fPath), .sc (.int .u32 x.fNext), .sc (.int .i64 x.fMed), .sc (.int .i64 x.fPref), .sem (SL (eI .u32) x.fComms), .sem (SL api_Raw.enc x.fRaws)]
def api_Attrs.enc : Enc api_Attrs := ⟨7, api_Attrs.cells, fun _ => rfl⟩
def api_Attrs.ok (x : api_Attrs) : Prop := okI .i64 x.fOrigin ∧ okL api_Segment.ok x.fPath ∧ okI .u32 x.fNext ∧ okI .i64 x.fMed ∧ okI .i64 x.fPref ∧ okL (okI .u32) x.fComms ∧ okL api_Raw.ok x.fRaws
structure api_Update where
  fGone : List api_Prefix
  fAttrs : api_Attrs
  fNlri : List api_Prefix
  deriving DecidableEq, Inhabited
def api_Update.cells (x : api_Update) : List PV := [.sem (SL api_Prefix.enc x.fGone), .sc (.int .i64 x.fAttrs.fOrigin), .sem (SL api_Segment.enc x.fAttrs.fPath), .sc (.int .u32 x.fAttrs.fNext), .sc (.int .i64 x.fAttrs.fMed), .sc (.int .i64 x.fAttrs.fPref), .sem (SL (eI .u32) x.fAttrs.fComms), .sem (SL api_Raw.enc x.fAttrs.fRaws), .sem (SL api_Prefix.enc x.fNlri)]
def api_Update.enc : Enc api_Update := ⟨9, api_Update.cells, fun _ => rfl⟩
def api_Update.ok (x : api_Update) : Prop := okL api_Prefix.ok x.fGone ∧ api_Attrs.ok x.fAttrs ∧ okL api_Prefix.ok x.fNlri
structure api_Msg where
  fKind : Int
  fOpen : api_Open
  fUpdate : api_Update
  fNote : api_Note
  deriving DecidableEq, Inhabited
def api_Msg.cells (x : api_Msg) : List PV := [.sc (.int .i64 x.fKind), .sc (.int .i64 x.fOpen.fAS), .sc (.int .i64 x.fOpen.fHold), .sc (.int .u32 x.fOpen.fID), .sc (.bool x.fOpen.fCaps.fFour), .sc (.int .i64 x.fOpen.fCaps.fAS4), .sc (.bool x.fOpen.fCaps.fGR), .sc (.bool x.fOpen.fCaps.fRestarting), .sc (.int .i64 x.fOpen.fCaps.fTime), .sc (.bool x.fOpen.fCaps.fFamily), .sc (.bool x.fOpen.fCaps.fForward), .sc (.bool x.fOpen.fCaps.fLL), .sc (.int .i64 x.fOpen.fCaps.fLLTime), .sem (SL api_Prefix.enc x.fUpdate.fGone), .sc (.int .i64 x.fUpdate.fAttrs.fOrigin), .sem (SL api_Segment.enc x.fUpdate.fAttrs.fPath), .sc (.int .u32 x.fUpdate.fAttrs.fNext), .sc (.int .i64 x.fUpdate.fAttrs.fMed), .sc (.int .i64 x.fUpdate.fAttrs.fPref), .sem (SL (eI .u32) x.fUpdate.fAttrs.fComms), .sem (SL api_Raw.enc x.fUpdate.fAttrs.fRaws), .sem (SL api_Prefix.enc x.fUpdate.fNlri), .sc (.int .i64 x.fNote.fCode), .sc (.int .i64 x.fNote.fSub), .sem (SL (eI .u8) x.fNote.fData)]
def api_Msg.enc : Enc api_Msg := ⟨25, api_Msg.cells, fun _ => rfl⟩
def api_Msg.ok (x : api_Msg) : Prop := okI .i64 x.fKind ∧ api_Open.ok x.fOpen ∧ api_Update.ok x.fUpdate ∧ api_Note.ok x.fNote
end Go.Ab
