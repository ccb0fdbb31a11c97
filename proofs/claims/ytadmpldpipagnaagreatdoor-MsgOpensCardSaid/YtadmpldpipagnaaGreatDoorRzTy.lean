import Derived.Test.YtadmpldpipagnaaGreatDoorAbAp
import Derived.Test.YtadmpldpipagnaaGreatDoorAbEq
import Derived.Test.YtadmpldpipagnaaGreatDoorAbRd
namespace Go.Ab
structure B0 where
 fFour:Bool
 fAS4:Int
 fGR:Bool
 fRestarting:Bool
 fTime:Int
 fFamily:Bool
 fForward:Bool
 fLL:Bool
 fLLTime:Int
 deriving DecidableEq,Inhabited
def B0.cells (x:B0):List PV:=[.sc (.bool x.fFour),.sc (.int .i64 x.fAS4),.sc (.bool x.fGR),.sc (.bool x.fRestarting),.sc (.int .i64 x.fTime),.sc (.bool x.fFamily),.sc (.bool x.fForward),.sc (.bool x.fLL),.sc (.int .i64 x.fLLTime)]
def B0.enc:Enc B0:=⟨9,B0.cells,fun _=>rfl⟩
def B0.ok (x:B0):Prop:=okB x.fFour ∧ okI .i64 x.fAS4 ∧ okB x.fGR ∧ okB x.fRestarting ∧ okI .i64 x.fTime ∧ okB x.fFamily ∧ okB x.fForward ∧ okB x.fLL ∧ okI .i64 x.fLLTime
def B0.vals (x:B0):List Value:=[.bool x.fFour,.int .i64 x.fAS4,.bool x.fGR,.bool x.fRestarting,.int .i64 x.fTime,.bool x.fFamily,.bool x.fForward,.bool x.fLL,.int .i64 x.fLLTime]
structure D1 where
 fAS:Int
 fHold:Int
 fID:Int
 fCaps:B0
 deriving DecidableEq,Inhabited
def D1.cells (x:D1):List PV:=[.sc (.int .i64 x.fAS),.sc (.int .i64 x.fHold),.sc (.int .u32 x.fID),.sc (.bool x.fCaps.fFour),.sc (.int .i64 x.fCaps.fAS4),.sc (.bool x.fCaps.fGR),.sc (.bool x.fCaps.fRestarting),.sc (.int .i64 x.fCaps.fTime),.sc (.bool x.fCaps.fFamily),.sc (.bool x.fCaps.fForward),.sc (.bool x.fCaps.fLL),.sc (.int .i64 x.fCaps.fLLTime)]
def D1.enc:Enc D1:=⟨12,D1.cells,fun _=>rfl⟩
def D1.ok (x:D1):Prop:=okI .i64 x.fAS ∧ okI .i64 x.fHold ∧ okI .u32 x.fID ∧ B0.ok x.fCaps
def D1.vals (x:D1):List Value:=[.int .i64 x.fAS,.int .i64 x.fHold,.int .u32 x.fID,.bool x.fCaps.fFour,.int .i64 x.fCaps.fAS4,.bool x.fCaps.fGR,.bool x.fCaps.fRestarting,.int .i64 x.fCaps.fTime,.bool x.fCaps.fFamily,.bool x.fCaps.fForward,.bool x.fCaps.fLL,.int .i64 x.fCaps.fLLTime]
structure A3 where
 fCode:Int
 fSub:Int
 fData:List Int
 deriving DecidableEq,Inhabited
def A3.cells (x:A3):List PV:=[.sc (.int .i64 x.fCode),.sc (.int .i64 x.fSub),.sem (SL (eI .u8) x.fData)]
def A3.enc:Enc A3:=⟨3,A3.cells,fun _=>rfl⟩
def A3.ok (x:A3):Prop:=okI .i64 x.fCode ∧ okI .i64 x.fSub ∧ okL (okI .u8) x.fData
structure L7 where
 fAddr:Int
 fLen:Int
 deriving DecidableEq,Inhabited
def L7.cells (x:L7):List PV:=[.sc (.int .u32 x.fAddr),.sc (.int .i64 x.fLen)]
def L7.enc:Enc L7:=⟨2,L7.cells,fun _=>rfl⟩
def L7.ok (x:L7):Prop:=okI .u32 x.fAddr ∧ okI .i64 x.fLen
def L7.vals (x:L7):List Value:=[.int .u32 x.fAddr,.int .i64 x.fLen]
structure O0 where
 fSet:Bool
 fAS:List Int
 deriving DecidableEq,Inhabited
def O0.cells (x:O0):List PV:=[.sc (.bool x.fSet),.sem (SL (eI .i64) x.fAS)]
def O0.enc:Enc O0:=⟨2,O0.cells,fun _=>rfl⟩
def O0.ok (x:O0):Prop:=okB x.fSet ∧ okL (okI .i64) x.fAS
structure U2 where
 fFlags:Int
 fType:Int
 fData:List Int
 deriving DecidableEq,Inhabited
def U2.cells (x:U2):List PV:=[.sc (.int .i64 x.fFlags),.sc (.int .i64 x.fType),.sem (SL (eI .u8) x.fData)]
def U2.enc:Enc U2:=⟨3,U2.cells,fun _=>rfl⟩
def U2.ok (x:U2):Prop:=okI .i64 x.fFlags ∧ okI .i64 x.fType ∧ okL (okI .u8) x.fData
structure A5 where
 fOrigin:Int
 fPath:List O0
 fNext:Int
 fMed:Int
 fPref:Int
 fComms:List Int
 fRaws:List U2
 deriving DecidableEq,Inhabited
def A5.cells (x:A5):List PV:=[.sc (.int .i64 x.fOrigin),.sem (SL O0.enc x.fPath),.sc (.int .u32 x.fNext),.sc (.int .i64 x.fMed),.sc (.int .i64 x.fPref),.sem (SL (eI .u32) x.fComms),.sem (SL U2.enc x.fRaws)]
def A5.enc:Enc A5:=⟨7,A5.cells,fun _=>rfl⟩
def A5.ok (x:A5):Prop:=okI .i64 x.fOrigin ∧ okL O0.ok x.fPath ∧ okI .u32 x.fNext ∧ okI .i64 x.fMed ∧ okI .i64 x.fPref ∧ okL (okI .u32) x.fComms ∧ okL U2.ok x.fRaws
structure A4 where
 fGone:List L7
 fAttrs:A5
 fNlri:List L7
 deriving DecidableEq,Inhabited
def A4.cells (x:A4):List PV:=[.sem (SL L7.enc x.fGone),.sc (.int .i64 x.fAttrs.fOrigin),.sem (SL O0.enc x.fAttrs.fPath),.sc (.int .u32 x.fAttrs.fNext),.sc (.int .i64 x.fAttrs.fMed),.sc (.int .i64 x.fAttrs.fPref),.sem (SL (eI .u32) x.fAttrs.fComms),.sem (SL U2.enc x.fAttrs.fRaws),.sem (SL L7.enc x.fNlri)]
def A4.enc:Enc A4:=⟨9,A4.cells,fun _=>rfl⟩
def A4.ok (x:A4):Prop:=okL L7.ok x.fGone ∧ A5.ok x.fAttrs ∧ okL L7.ok x.fNlri
structure A8 where
 fKind:Int
 fOpen:D1
 fUpdate:A4
 fNote:A3
 deriving DecidableEq,Inhabited
def A8.cells (x:A8):List PV:=[.sc (.int .i64 x.fKind),.sc (.int .i64 x.fOpen.fAS),.sc (.int .i64 x.fOpen.fHold),.sc (.int .u32 x.fOpen.fID),.sc (.bool x.fOpen.fCaps.fFour),.sc (.int .i64 x.fOpen.fCaps.fAS4),.sc (.bool x.fOpen.fCaps.fGR),.sc (.bool x.fOpen.fCaps.fRestarting),.sc (.int .i64 x.fOpen.fCaps.fTime),.sc (.bool x.fOpen.fCaps.fFamily),.sc (.bool x.fOpen.fCaps.fForward),.sc (.bool x.fOpen.fCaps.fLL),.sc (.int .i64 x.fOpen.fCaps.fLLTime),.sem (SL L7.enc x.fUpdate.fGone),.sc (.int .i64 x.fUpdate.fAttrs.fOrigin),.sem (SL O0.enc x.fUpdate.fAttrs.fPath),.sc (.int .u32 x.fUpdate.fAttrs.fNext),.sc (.int .i64 x.fUpdate.fAttrs.fMed),.sc (.int .i64 x.fUpdate.fAttrs.fPref),.sem (SL (eI .u32) x.fUpdate.fAttrs.fComms),.sem (SL U2.enc x.fUpdate.fAttrs.fRaws),.sem (SL L7.enc x.fUpdate.fNlri),.sc (.int .i64 x.fNote.fCode),.sc (.int .i64 x.fNote.fSub),.sem (SL (eI .u8) x.fNote.fData)]
def A8.enc:Enc A8:=⟨25,A8.cells,fun _=>rfl⟩
def A8.ok (x:A8):Prop:=okI .i64 x.fKind ∧ D1.ok x.fOpen ∧ A4.ok x.fUpdate ∧ A3.ok x.fNote
end Go.Ab
