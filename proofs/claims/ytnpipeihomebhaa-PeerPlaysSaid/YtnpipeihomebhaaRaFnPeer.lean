import Derived.Test.YtnpipeihomebhaaRaFnNego
namespace Go.Proofs.Ytnpipeihomebhaa
open Go.Ab
set_option linter.unusedSimpArgs false
set_option linter.unusedVariables false
/-- interregnum/peer.Conn -/
def peer_Conn (a0 : peer_Peer) : peer_Peer × Bool :=
  (bif !(decide ((a0.fState : Int) = 0)) then
    (a0, false)
  else
    ((⟨1, a0.fTheirs⟩ : peer_Peer), true))
set_option maxRecDepth 100000 in
set_option maxHeartbeats 4000000 in
theorem peer_Conn_pf_g (a0 : peer_Peer) : PG Try.prog 23 [] [] [.agg (peer_Peer.cells a0)] (fun _ : Unit => True) (fun _ => (fun (z : peer_Peer × Bool) => ⟨[], [], .tup [.agg (peer_Peer.cells z.1), .sc (.bool z.2)]⟩) (peer_Conn a0)) := by
  refine pg_of (N := 10) (l := [.cell 2 46, .tmp 3]) Try.func23 rfl rfl rfl (Nat.le_of_ble_eq_true rfl) fun w0 i0 F βs => ?_
  refine aw_seq ?_
  refine aw_region ?_
  refine al_op rfl (g_box (s := 1) (p := .agg (peer_Peer.cells a0)) (qs := (peer_Peer.cells a0)) rfl rfl rfl rfl rfl rfl rfl) ?_
  refine al_op rfl (g_alloc (s := 2) (z := zv46) (qs := zc46) rfl rfl rfl rfl z46 rfl rfl) ?_
  refine al_op rfl (g_assign (p := .sc (.bool false)) rfl rfl rfl rfl) ?_
  refine al_nil ?_
  refine aw_seq ?_
  refine aw_seq ?_
  refine aw_region ?_
  refine al_op rfl (g_fieldAddr (b := 1) (k := 0) (m := 0) rfl rfl rfl fld46_0 rfl rfl) ?_
  refine al_op rfl (g_load (s := 1) (off := 0) (ps := (peer_Peer.cells a0)) (p := .sc (.int .i64 a0.fState)) rfl rfl rfl ty3 rfl rfl rfl rfl rfl) ?_
  refine al_op rfl (g_bin (u1 := .int .i64 a0.fState) (u2 := .int .i64 0) (v := .bool (!(decide ((a0.fState : Int) = 0)))) rfl rfl rfl rfl rfl (fun _ => rfl)) ?_
  refine al_nil ?_
  refine aw_cond (b := !(decide ((a0.fState : Int) = 0))) rfl (fun k1 => ?_) (fun k1 => ?_)
  · skip
    refine aw_seq ?_
    refine aw_region ?_
    refine al_op rfl (g_load (s := 1) (off := 0) (ps := (peer_Peer.cells a0)) (p := .agg (peer_Peer.cells a0)) rfl rfl rfl ty46 rfl rfl rfl rfl rfl) ?_
    refine al_op rfl (g_store (s := 2) (off := 0) (ps := zc46) (p := .agg (peer_Peer.cells a0)) (qs := (peer_Peer.cells a0)) rfl rfl ty46 rfl rfl rfl rfl rfl rfl rfl) ?_
    refine al_op rfl (g_assign (p := .sc (.bool false)) rfl rfl rfl rfl) ?_
    refine al_nil ?_
    refine aw_ret ?_
    exact endG_mk (F := (fun (z : peer_Peer × Bool) => ⟨[], [], .tup [.agg (peer_Peer.cells z.1), .sc (.bool z.2)]⟩)) (z := (peer_Conn a0)) (v := (a0, false)) (bT k1 rfl) rfl (.two (.cell 2 46 2 13 true (peer_Peer.cells a0) (.agg (peer_Peer.cells a0)) rfl rfl ty46 rfl rfl rfl) (.one (.rfl _)) rfl (.tmp 3 (.sc (.bool false)) rfl) (.one (.rfl _)) rfl) trivial trivial
  · skip
    refine aw_skip ?_
    refine aw_seq ?_
    refine aw_region ?_
    refine al_op rfl (g_fieldAddr (b := 1) (k := 0) (m := 0) rfl rfl rfl fld46_0 rfl rfl) ?_
    refine al_op rfl (g_store (s := 1) (off := 0) (ps := (peer_Peer.cells a0)) (p := .sc (.int .i64 1)) (qs := [.sc (.int .i64 1), .sc (.int .i64 a0.fTheirs.fAS), .sc (.int .i64 a0.fTheirs.fHold), .sc (.int .u32 a0.fTheirs.fID), .sc (.bool a0.fTheirs.fCaps.fFour), .sc (.int .i64 a0.fTheirs.fCaps.fAS4), .sc (.bool a0.fTheirs.fCaps.fGR), .sc (.bool a0.fTheirs.fCaps.fRestarting), .sc (.int .i64 a0.fTheirs.fCaps.fTime), .sc (.bool a0.fTheirs.fCaps.fFamily), .sc (.bool a0.fTheirs.fCaps.fForward), .sc (.bool a0.fTheirs.fCaps.fLL), .sc (.int .i64 a0.fTheirs.fCaps.fLLTime)]) rfl rfl ty3 rfl rfl rfl rfl rfl rfl rfl) ?_
    refine al_nil ?_
    refine aw_seq ?_
    refine aw_region ?_
    refine al_op rfl (g_load (s := 1) (off := 0) (ps := [.sc (.int .i64 1), .sc (.int .i64 a0.fTheirs.fAS), .sc (.int .i64 a0.fTheirs.fHold), .sc (.int .u32 a0.fTheirs.fID), .sc (.bool a0.fTheirs.fCaps.fFour), .sc (.int .i64 a0.fTheirs.fCaps.fAS4), .sc (.bool a0.fTheirs.fCaps.fGR), .sc (.bool a0.fTheirs.fCaps.fRestarting), .sc (.int .i64 a0.fTheirs.fCaps.fTime), .sc (.bool a0.fTheirs.fCaps.fFamily), .sc (.bool a0.fTheirs.fCaps.fForward), .sc (.bool a0.fTheirs.fCaps.fLL), .sc (.int .i64 a0.fTheirs.fCaps.fLLTime)]) (p := .agg [.sc (.int .i64 1), .sc (.int .i64 a0.fTheirs.fAS), .sc (.int .i64 a0.fTheirs.fHold), .sc (.int .u32 a0.fTheirs.fID), .sc (.bool a0.fTheirs.fCaps.fFour), .sc (.int .i64 a0.fTheirs.fCaps.fAS4), .sc (.bool a0.fTheirs.fCaps.fGR), .sc (.bool a0.fTheirs.fCaps.fRestarting), .sc (.int .i64 a0.fTheirs.fCaps.fTime), .sc (.bool a0.fTheirs.fCaps.fFamily), .sc (.bool a0.fTheirs.fCaps.fForward), .sc (.bool a0.fTheirs.fCaps.fLL), .sc (.int .i64 a0.fTheirs.fCaps.fLLTime)]) rfl rfl rfl ty46 rfl rfl rfl rfl rfl) ?_
    refine al_op rfl (g_store (s := 2) (off := 0) (ps := zc46) (p := .agg [.sc (.int .i64 1), .sc (.int .i64 a0.fTheirs.fAS), .sc (.int .i64 a0.fTheirs.fHold), .sc (.int .u32 a0.fTheirs.fID), .sc (.bool a0.fTheirs.fCaps.fFour), .sc (.int .i64 a0.fTheirs.fCaps.fAS4), .sc (.bool a0.fTheirs.fCaps.fGR), .sc (.bool a0.fTheirs.fCaps.fRestarting), .sc (.int .i64 a0.fTheirs.fCaps.fTime), .sc (.bool a0.fTheirs.fCaps.fFamily), .sc (.bool a0.fTheirs.fCaps.fForward), .sc (.bool a0.fTheirs.fCaps.fLL), .sc (.int .i64 a0.fTheirs.fCaps.fLLTime)]) (qs := [.sc (.int .i64 1), .sc (.int .i64 a0.fTheirs.fAS), .sc (.int .i64 a0.fTheirs.fHold), .sc (.int .u32 a0.fTheirs.fID), .sc (.bool a0.fTheirs.fCaps.fFour), .sc (.int .i64 a0.fTheirs.fCaps.fAS4), .sc (.bool a0.fTheirs.fCaps.fGR), .sc (.bool a0.fTheirs.fCaps.fRestarting), .sc (.int .i64 a0.fTheirs.fCaps.fTime), .sc (.bool a0.fTheirs.fCaps.fFamily), .sc (.bool a0.fTheirs.fCaps.fForward), .sc (.bool a0.fTheirs.fCaps.fLL), .sc (.int .i64 a0.fTheirs.fCaps.fLLTime)]) rfl rfl ty46 rfl rfl rfl rfl rfl rfl rfl) ?_
    refine al_op rfl (g_assign (p := .sc (.bool true)) rfl rfl rfl rfl) ?_
    refine al_nil ?_
    refine aw_ret ?_
    exact endG_mk (F := (fun (z : peer_Peer × Bool) => ⟨[], [], .tup [.agg (peer_Peer.cells z.1), .sc (.bool z.2)]⟩)) (z := (peer_Conn a0)) (v := ((⟨1, a0.fTheirs⟩ : peer_Peer), true)) (bF k1 rfl) rfl (.two (.cell 2 46 2 13 true [.sc (.int .i64 1), .sc (.int .i64 a0.fTheirs.fAS), .sc (.int .i64 a0.fTheirs.fHold), .sc (.int .u32 a0.fTheirs.fID), .sc (.bool a0.fTheirs.fCaps.fFour), .sc (.int .i64 a0.fTheirs.fCaps.fAS4), .sc (.bool a0.fTheirs.fCaps.fGR), .sc (.bool a0.fTheirs.fCaps.fRestarting), .sc (.int .i64 a0.fTheirs.fCaps.fTime), .sc (.bool a0.fTheirs.fCaps.fFamily), .sc (.bool a0.fTheirs.fCaps.fForward), .sc (.bool a0.fTheirs.fCaps.fLL), .sc (.int .i64 a0.fTheirs.fCaps.fLLTime)] (.agg [.sc (.int .i64 1), .sc (.int .i64 a0.fTheirs.fAS), .sc (.int .i64 a0.fTheirs.fHold), .sc (.int .u32 a0.fTheirs.fID), .sc (.bool a0.fTheirs.fCaps.fFour), .sc (.int .i64 a0.fTheirs.fCaps.fAS4), .sc (.bool a0.fTheirs.fCaps.fGR), .sc (.bool a0.fTheirs.fCaps.fRestarting), .sc (.int .i64 a0.fTheirs.fCaps.fTime), .sc (.bool a0.fTheirs.fCaps.fFamily), .sc (.bool a0.fTheirs.fCaps.fForward), .sc (.bool a0.fTheirs.fCaps.fLL), .sc (.int .i64 a0.fTheirs.fCaps.fLLTime)]) rfl rfl ty46 rfl rfl rfl) (.one (.rfl _)) rfl (.tmp 3 (.sc (.bool true)) rfl) (.one (.rfl _)) rfl) trivial trivial
theorem peer_Conn_pf (a0 : peer_Peer) : PF Try.prog 23 [.agg (peer_Peer.cells a0)] (.tup [.agg (peer_Peer.cells ((peer_Conn a0).1)), .sc (.bool ((peer_Conn a0).2))]) := pf_ofG (peer_Conn_pf_g a0) rfl

/-- interregnum/peer.Reset -/
def peer_Reset (a0 : peer_Peer) : peer_Peer :=
  (⟨0, a0.fTheirs⟩ : peer_Peer)
set_option maxRecDepth 100000 in
set_option maxHeartbeats 4000000 in
theorem peer_Reset_pf_g (a0 : peer_Peer) : PG Try.prog 26 [] [] [.agg (peer_Peer.cells a0)] (fun _ : Unit => True) (fun _ => (fun (z : peer_Peer) => ⟨[], [], .agg (peer_Peer.cells z)⟩) (peer_Reset a0)) := by
  refine pg_of (N := 5) (l := [.cell 2 46]) Try.func26 rfl rfl rfl (Nat.le_of_ble_eq_true rfl) fun w0 i0 F βs => ?_
  refine aw_seq ?_
  refine aw_region ?_
  refine al_op rfl (g_box (s := 1) (p := .agg (peer_Peer.cells a0)) (qs := (peer_Peer.cells a0)) rfl rfl rfl rfl rfl rfl rfl) ?_
  refine al_op rfl (g_alloc (s := 2) (z := zv46) (qs := zc46) rfl rfl rfl rfl z46 rfl rfl) ?_
  refine al_nil ?_
  refine aw_seq ?_
  refine aw_region ?_
  refine al_op rfl (g_fieldAddr (b := 1) (k := 0) (m := 0) rfl rfl rfl fld46_0 rfl rfl) ?_
  refine al_op rfl (g_store (s := 1) (off := 0) (ps := (peer_Peer.cells a0)) (p := .sc (.int .i64 0)) (qs := [.sc (.int .i64 0), .sc (.int .i64 a0.fTheirs.fAS), .sc (.int .i64 a0.fTheirs.fHold), .sc (.int .u32 a0.fTheirs.fID), .sc (.bool a0.fTheirs.fCaps.fFour), .sc (.int .i64 a0.fTheirs.fCaps.fAS4), .sc (.bool a0.fTheirs.fCaps.fGR), .sc (.bool a0.fTheirs.fCaps.fRestarting), .sc (.int .i64 a0.fTheirs.fCaps.fTime), .sc (.bool a0.fTheirs.fCaps.fFamily), .sc (.bool a0.fTheirs.fCaps.fForward), .sc (.bool a0.fTheirs.fCaps.fLL), .sc (.int .i64 a0.fTheirs.fCaps.fLLTime)]) rfl rfl ty3 rfl rfl rfl rfl rfl rfl rfl) ?_
  refine al_nil ?_
  refine aw_seq ?_
  refine aw_region ?_
  refine al_op rfl (g_load (s := 1) (off := 0) (ps := [.sc (.int .i64 0), .sc (.int .i64 a0.fTheirs.fAS), .sc (.int .i64 a0.fTheirs.fHold), .sc (.int .u32 a0.fTheirs.fID), .sc (.bool a0.fTheirs.fCaps.fFour), .sc (.int .i64 a0.fTheirs.fCaps.fAS4), .sc (.bool a0.fTheirs.fCaps.fGR), .sc (.bool a0.fTheirs.fCaps.fRestarting), .sc (.int .i64 a0.fTheirs.fCaps.fTime), .sc (.bool a0.fTheirs.fCaps.fFamily), .sc (.bool a0.fTheirs.fCaps.fForward), .sc (.bool a0.fTheirs.fCaps.fLL), .sc (.int .i64 a0.fTheirs.fCaps.fLLTime)]) (p := .agg [.sc (.int .i64 0), .sc (.int .i64 a0.fTheirs.fAS), .sc (.int .i64 a0.fTheirs.fHold), .sc (.int .u32 a0.fTheirs.fID), .sc (.bool a0.fTheirs.fCaps.fFour), .sc (.int .i64 a0.fTheirs.fCaps.fAS4), .sc (.bool a0.fTheirs.fCaps.fGR), .sc (.bool a0.fTheirs.fCaps.fRestarting), .sc (.int .i64 a0.fTheirs.fCaps.fTime), .sc (.bool a0.fTheirs.fCaps.fFamily), .sc (.bool a0.fTheirs.fCaps.fForward), .sc (.bool a0.fTheirs.fCaps.fLL), .sc (.int .i64 a0.fTheirs.fCaps.fLLTime)]) rfl rfl rfl ty46 rfl rfl rfl rfl rfl) ?_
  refine al_op rfl (g_store (s := 2) (off := 0) (ps := zc46) (p := .agg [.sc (.int .i64 0), .sc (.int .i64 a0.fTheirs.fAS), .sc (.int .i64 a0.fTheirs.fHold), .sc (.int .u32 a0.fTheirs.fID), .sc (.bool a0.fTheirs.fCaps.fFour), .sc (.int .i64 a0.fTheirs.fCaps.fAS4), .sc (.bool a0.fTheirs.fCaps.fGR), .sc (.bool a0.fTheirs.fCaps.fRestarting), .sc (.int .i64 a0.fTheirs.fCaps.fTime), .sc (.bool a0.fTheirs.fCaps.fFamily), .sc (.bool a0.fTheirs.fCaps.fForward), .sc (.bool a0.fTheirs.fCaps.fLL), .sc (.int .i64 a0.fTheirs.fCaps.fLLTime)]) (qs := [.sc (.int .i64 0), .sc (.int .i64 a0.fTheirs.fAS), .sc (.int .i64 a0.fTheirs.fHold), .sc (.int .u32 a0.fTheirs.fID), .sc (.bool a0.fTheirs.fCaps.fFour), .sc (.int .i64 a0.fTheirs.fCaps.fAS4), .sc (.bool a0.fTheirs.fCaps.fGR), .sc (.bool a0.fTheirs.fCaps.fRestarting), .sc (.int .i64 a0.fTheirs.fCaps.fTime), .sc (.bool a0.fTheirs.fCaps.fFamily), .sc (.bool a0.fTheirs.fCaps.fForward), .sc (.bool a0.fTheirs.fCaps.fLL), .sc (.int .i64 a0.fTheirs.fCaps.fLLTime)]) rfl rfl ty46 rfl rfl rfl rfl rfl rfl rfl) ?_
  refine al_nil ?_
  refine aw_ret ?_
  exact endG_mk (F := (fun (z : peer_Peer) => ⟨[], [], .agg (peer_Peer.cells z)⟩)) (z := (peer_Reset a0)) (v := (⟨0, a0.fTheirs⟩ : peer_Peer)) rfl rfl (.one (.cell 2 46 2 13 true [.sc (.int .i64 0), .sc (.int .i64 a0.fTheirs.fAS), .sc (.int .i64 a0.fTheirs.fHold), .sc (.int .u32 a0.fTheirs.fID), .sc (.bool a0.fTheirs.fCaps.fFour), .sc (.int .i64 a0.fTheirs.fCaps.fAS4), .sc (.bool a0.fTheirs.fCaps.fGR), .sc (.bool a0.fTheirs.fCaps.fRestarting), .sc (.int .i64 a0.fTheirs.fCaps.fTime), .sc (.bool a0.fTheirs.fCaps.fFamily), .sc (.bool a0.fTheirs.fCaps.fForward), .sc (.bool a0.fTheirs.fCaps.fLL), .sc (.int .i64 a0.fTheirs.fCaps.fLLTime)] (.agg [.sc (.int .i64 0), .sc (.int .i64 a0.fTheirs.fAS), .sc (.int .i64 a0.fTheirs.fHold), .sc (.int .u32 a0.fTheirs.fID), .sc (.bool a0.fTheirs.fCaps.fFour), .sc (.int .i64 a0.fTheirs.fCaps.fAS4), .sc (.bool a0.fTheirs.fCaps.fGR), .sc (.bool a0.fTheirs.fCaps.fRestarting), .sc (.int .i64 a0.fTheirs.fCaps.fTime), .sc (.bool a0.fTheirs.fCaps.fFamily), .sc (.bool a0.fTheirs.fCaps.fForward), .sc (.bool a0.fTheirs.fCaps.fLL), .sc (.int .i64 a0.fTheirs.fCaps.fLLTime)]) rfl rfl ty46 rfl rfl rfl) (.one (.rfl _)) rfl) trivial trivial
theorem peer_Reset_pf (a0 : peer_Peer) : PF Try.prog 26 [.agg (peer_Peer.cells a0)] (.agg (peer_Peer.cells (peer_Reset a0))) := pf_ofG (peer_Reset_pf_g a0) rfl

/-- interregnum/peer.opened -/
def peer_opened (a0 : api_Config) (a1 : api_PeerConf) (a2 : peer_Peer) (a3 : api_Msg) : peer_Peer × Int × api_Note :=
  (bif !(decide ((a3.fKind : Int) = 1)) then
    ((peer_Reset a2), 4, (⟨5, 1, []⟩ : api_Note))
  else
    (bif !(decide (((nego_Check a0 a1 a3.fOpen).fCode : Int) = 0)) then
      ((peer_Reset a2), 4, (nego_Check a0 a1 a3.fOpen))
    else
      ((⟨2, a3.fOpen⟩ : peer_Peer), 1, (⟨0, 0, []⟩ : api_Note))))
set_option maxRecDepth 100000 in
set_option maxHeartbeats 4000000 in
theorem peer_opened_pf_g (a0 : api_Config) (a1 : api_PeerConf) (a2 : peer_Peer) (a3 : api_Msg) : PG Try.prog 37 [] [] [.agg (api_Config.cells a0), .agg (api_PeerConf.cells a1), .agg (peer_Peer.cells a2), .agg (api_Msg.cells a3)] (fun _ : Unit => True) (fun _ => (fun (z : peer_Peer × Int × api_Note) => ⟨[], [], .tup [.agg (peer_Peer.cells z.1), .sc (.int .i64 z.2.1), .agg (api_Note.cells z.2.2)]⟩) (peer_opened a0 a1 a2 a3)) := by
  refine pg_of (N := 33) (l := [.cell 8 46, .tmp 9, .cell 10 38]) Try.func37 rfl rfl rfl (Nat.le_of_ble_eq_true rfl) fun w0 i0 F βs => ?_
  refine aw_seq ?_
  refine aw_region ?_
  refine al_op rfl (g_box (s := 4) (p := .agg (api_Config.cells a0)) (qs := (api_Config.cells a0)) rfl rfl rfl rfl rfl rfl rfl) ?_
  refine al_op rfl (g_box (s := 5) (p := .agg (api_PeerConf.cells a1)) (qs := (api_PeerConf.cells a1)) rfl rfl rfl rfl rfl rfl rfl) ?_
  refine al_op rfl (g_box (s := 6) (p := .agg (peer_Peer.cells a2)) (qs := (peer_Peer.cells a2)) rfl rfl rfl rfl rfl rfl rfl) ?_
  refine al_op rfl (g_box (s := 7) (p := .agg (api_Msg.cells a3)) (qs := (api_Msg.cells a3)) rfl rfl rfl rfl rfl rfl rfl) ?_
  refine al_op rfl (g_alloc (s := 8) (z := zv46) (qs := zc46) rfl rfl rfl rfl z46 rfl rfl) ?_
  refine al_op rfl (g_assign (p := .sc (.int .i64 0)) rfl rfl rfl rfl) ?_
  refine al_op rfl (g_alloc (s := 10) (z := zv38) (qs := zc38) rfl rfl rfl rfl z38 rfl rfl) ?_
  refine al_nil ?_
  refine aw_seq ?_
  refine aw_seq ?_
  refine aw_region ?_
  refine al_op rfl (g_fieldAddr (b := 7) (k := 0) (m := 0) rfl rfl rfl fld60_0 rfl rfl) ?_
  refine al_op rfl (g_load (s := 7) (off := 0) (ps := (api_Msg.cells a3)) (p := .sc (.int .i64 a3.fKind)) rfl rfl rfl ty3 rfl rfl rfl rfl rfl) ?_
  refine al_op rfl (g_bin (u1 := .int .i64 a3.fKind) (u2 := .int .i64 1) (v := .bool (!(decide ((a3.fKind : Int) = 1)))) rfl rfl rfl rfl rfl (fun _ => rfl)) ?_
  refine al_nil ?_
  refine aw_cond (b := !(decide ((a3.fKind : Int) = 1))) rfl (fun k1 => ?_) (fun k1 => ?_)
  · skip
    refine aw_seq ?_
    refine aw_region ?_
    refine al_op rfl (g_load (s := 6) (off := 0) (ps := (peer_Peer.cells a2)) (p := .agg (peer_Peer.cells a2)) rfl rfl rfl ty46 rfl rfl rfl rfl rfl) ?_
    refine al_op rfl (g_call (fn := Try.f26) (xs := [.tmp 15]) (args := [.agg (peer_Peer.cells a2)]) (r := .agg (peer_Peer.cells (peer_Reset a2))) rfl rfl rfl Try.func26 rfl rfl rfl rfl rfl (peer_Reset_pf a2)) ?_
    refine al_op rfl (g_build (parts := [(0, .const (.int .i64 5)), (1, .const (.int .i64 1))]) (pps := [(0, .sc (.int .i64 5)), (1, .sc (.int .i64 1))]) (qs := [.sc (.int .i64 5), .sc (.int .i64 1), .sc (.slice none 0 0)]) rfl rfl rfl bld38 rfl rfl (by kernel_rfl)) ?_
    refine al_op rfl (g_store (s := 8) (off := 0) (ps := zc46) (p := .agg (peer_Peer.cells (peer_Reset a2))) (qs := (peer_Peer.cells (peer_Reset a2))) rfl rfl ty46 rfl rfl rfl rfl rfl rfl rfl) ?_
    refine al_op rfl (g_assign (p := .sc (.int .i64 4)) rfl rfl rfl rfl) ?_
    refine al_op rfl (g_store (s := 10) (off := 0) (ps := zc38) (p := .agg [.sc (.int .i64 5), .sc (.int .i64 1), .sc (.slice none 0 0)]) (qs := [.sc (.int .i64 5), .sc (.int .i64 1), .sc (.slice none 0 0)]) rfl rfl ty38 rfl rfl rfl rfl rfl rfl rfl) ?_
    refine al_nil ?_
    refine aw_ret ?_
    exact endG_mk (F := (fun (z : peer_Peer × Int × api_Note) => ⟨[], [], .tup [.agg (peer_Peer.cells z.1), .sc (.int .i64 z.2.1), .agg (api_Note.cells z.2.2)]⟩)) (z := (peer_opened a0 a1 a2 a3)) (v := ((peer_Reset a2), 4, (⟨5, 1, []⟩ : api_Note))) (bT k1 rfl) rfl (.three (.cell 8 46 8 13 true (peer_Peer.cells (peer_Reset a2)) (.agg (peer_Peer.cells (peer_Reset a2))) rfl rfl ty46 rfl rfl rfl) (.one (.rfl _)) rfl (.tmp 9 (.sc (.int .i64 4)) rfl) (.one (.rfl _)) rfl (.cell 10 38 10 3 true [.sc (.int .i64 5), .sc (.int .i64 1), .sc (.slice none 0 0)] (.agg [.sc (.int .i64 5), .sc (.int .i64 1), .sc (.slice none 0 0)]) rfl rfl ty38 rfl rfl rfl) (.agg (.cons (.rfl _) (.cons (.rfl _) (.cons (.nil _) .nil)))) rfl) trivial trivial
  · skip
    refine aw_skip ?_
    refine aw_seq ?_
    refine aw_seq ?_
    refine aw_region ?_
    refine al_op rfl (g_load (s := 4) (off := 0) (ps := (api_Config.cells a0)) (p := .agg (api_Config.cells a0)) rfl rfl rfl ty24 rfl rfl rfl rfl rfl) ?_
    refine al_op rfl (g_load (s := 5) (off := 0) (ps := (api_PeerConf.cells a1)) (p := .agg (api_PeerConf.cells a1)) rfl rfl rfl ty34 rfl rfl rfl rfl rfl) ?_
    refine al_op rfl (g_fieldAddr (b := 7) (k := 0) (m := 1) rfl rfl rfl fld60_1 rfl rfl) ?_
    refine al_op rfl (g_load (s := 7) (off := 1) (ps := (api_Msg.cells a3)) (p := .agg (api_Open.cells a3.fOpen)) rfl rfl rfl ty29 rfl rfl rfl rfl rfl) ?_
    refine al_op rfl (g_call (fn := Try.f18) (xs := [.tmp 18, .tmp 19, .tmp 21]) (args := [.agg (api_Config.cells a0), .agg (api_PeerConf.cells a1), .agg (api_Open.cells a3.fOpen)]) (r := .agg (api_Note.cells (nego_Check a0 a1 a3.fOpen))) rfl rfl rfl Try.func18 rfl rfl rfl rfl rfl (nego_Check_pf a0 a1 a3.fOpen)) ?_
    refine al_op rfl (g_alloc (s := 11) (z := zv38) (qs := zc38) rfl rfl rfl rfl z38 rfl rfl) ?_
    refine al_op rfl (g_store (s := 11) (off := 0) (ps := zc38) (p := .agg (api_Note.cells (nego_Check a0 a1 a3.fOpen))) (qs := (api_Note.cells (nego_Check a0 a1 a3.fOpen))) rfl rfl ty38 rfl rfl rfl rfl rfl rfl rfl) ?_
    refine al_nil ?_
    refine aw_seq ?_
    refine aw_region ?_
    refine al_op rfl (g_fieldAddr (b := 11) (k := 0) (m := 0) rfl rfl rfl fld38_0 rfl rfl) ?_
    refine al_op rfl (g_load (s := 11) (off := 0) (ps := (api_Note.cells (nego_Check a0 a1 a3.fOpen))) (p := .sc (.int .i64 ((nego_Check a0 a1 a3.fOpen).fCode))) rfl rfl rfl ty3 rfl rfl rfl rfl rfl) ?_
    refine al_op rfl (g_bin (u1 := .int .i64 ((nego_Check a0 a1 a3.fOpen).fCode)) (u2 := .int .i64 0) (v := .bool (!(decide (((nego_Check a0 a1 a3.fOpen).fCode : Int) = 0)))) rfl rfl rfl rfl rfl (fun _ => rfl)) ?_
    refine al_nil ?_
    refine aw_cond (b := !(decide (((nego_Check a0 a1 a3.fOpen).fCode : Int) = 0))) rfl (fun k2 => ?_) (fun k2 => ?_)
    · skip
      refine aw_seq ?_
      refine aw_plan { ds := [some 26, some 27, some 28, none, some 9, none], p := fun i => [.agg (peer_Peer.cells a2), .agg (peer_Peer.cells (peer_Reset a2)), .agg (api_Note.cells (nego_Check a0 a1 a3.fOpen)), .any, .sc (.int .i64 4), .any].getD i .any, al := [], st := [(3, 8, 0, (peer_Peer.cells (peer_Reset a2))), (5, 10, 0, (api_Note.cells (nego_Check a0 a1 a3.fOpen)))] } rfl rfl rfl rfl ?_ (fun bD hb => ?_)
      · refine ⟨fun bD hc hi hd => ?_, fun bD hc hi hd => ?_, fun bD hc hi hd => ?_, fun bD hc hi hd => ?_, fun bD hc hi hd => ?_, fun bD hc hi hd => ?_, trivial⟩
        · exact Plan.putStep (i := 0) (q := .agg (peer_Peer.cells a2)) rfl rfl rfl (gs_plain rfl (g_load (s := 6) (off := 0) (ps := (peer_Peer.cells a2)) (p := .agg (peer_Peer.cells a2)) rfl rfl rfl ty46 rfl rfl rfl rfl rfl))
        · exact Plan.putStep (i := 1) (q := .agg (peer_Peer.cells (peer_Reset a2))) rfl rfl rfl (gs_plain rfl (g_call (fn := Try.f26) (xs := [.tmp 26]) (args := [.agg (peer_Peer.cells a2)]) (r := .agg (peer_Peer.cells (peer_Reset a2))) rfl rfl rfl Try.func26 rfl rfl (congrS1 (b0 := .agg (peer_Peer.cells a2)) (gt (p := .agg (peer_Peer.cells a2)) (q := .any) (hd 0 (by decide)))) rfl rfl (peer_Reset_pf a2)))
        · exact Plan.putStep (i := 2) (q := .agg (api_Note.cells (nego_Check a0 a1 a3.fOpen))) rfl rfl rfl (gs_plain rfl (g_load (s := 11) (off := 0) (ps := (api_Note.cells (nego_Check a0 a1 a3.fOpen))) (p := .agg (api_Note.cells (nego_Check a0 a1 a3.fOpen))) rfl rfl rfl ty38 rfl rfl rfl rfl rfl))
        · exact pl_store (i := 3) (s := 8) (off := 0) (ps := zc46) (qs := (peer_Peer.cells (peer_Reset a2))) (p := .agg (peer_Peer.cells (peer_Reset a2))) rfl rfl rfl ty46 rfl (gt (p := .agg (peer_Peer.cells (peer_Reset a2))) (q := .any) (hd 1 (by decide))) (by exact planL_old (ps := zc46) (j := 3) rfl rfl rfl hi) rfl rfl rfl rfl rfl hi rfl rfl rfl
        · exact Plan.putStep (i := 4) (q := .sc (.int .i64 4)) rfl rfl rfl (gs_plain rfl (g_assign (p := .sc (.int .i64 4)) rfl rfl rfl rfl))
        · exact pl_store (i := 5) (s := 10) (off := 0) (ps := zc38) (qs := (api_Note.cells (nego_Check a0 a1 a3.fOpen))) (p := .agg (api_Note.cells (nego_Check a0 a1 a3.fOpen))) rfl rfl rfl ty38 rfl (gt (p := .agg (api_Note.cells (nego_Check a0 a1 a3.fOpen))) (q := .any) (hd 2 (by decide))) (by exact planL_old (ps := zc38) (j := 5) rfl rfl rfl hi) rfl rfl rfl rfl rfl hi rfl rfl rfl
      obtain rfl : bD = fun _ => true := funext hb
      refine aw_ret ?_
      exact endG_mk (F := (fun (z : peer_Peer × Int × api_Note) => ⟨[], [], .tup [.agg (peer_Peer.cells z.1), .sc (.int .i64 z.2.1), .agg (api_Note.cells z.2.2)]⟩)) (z := (peer_opened a0 a1 a2 a3)) (v := ((peer_Reset a2), 4, (nego_Check a0 a1 a3.fOpen))) (bF k1 (bT k2 rfl)) rfl (.three (.cell 8 46 8 13 true (peer_Peer.cells (peer_Reset a2)) (.agg (peer_Peer.cells (peer_Reset a2))) rfl rfl ty46 rfl rfl rfl) (.one (.rfl _)) rfl (.tmp 9 (.sc (.int .i64 4)) rfl) (.one (.rfl _)) rfl (.cell 10 38 10 3 true (api_Note.cells (nego_Check a0 a1 a3.fOpen)) (.agg (api_Note.cells (nego_Check a0 a1 a3.fOpen))) rfl rfl ty38 rfl rfl rfl) (.one (.rfl _)) rfl) trivial trivial
    · skip
      refine aw_skip ?_
      refine aw_seq ?_
      refine aw_region ?_
      refine al_op rfl (g_fieldAddr (b := 7) (k := 0) (m := 1) rfl rfl rfl fld60_1 rfl rfl) ?_
      refine al_op rfl (g_load (s := 7) (off := 1) (ps := (api_Msg.cells a3)) (p := .agg (api_Open.cells a3.fOpen)) rfl rfl rfl ty29 rfl rfl rfl rfl rfl) ?_
      refine al_op rfl (g_build (parts := [(0, .const (.int .i64 2)), (1, .tmp 30)]) (pps := [(0, .sc (.int .i64 2)), (1, .agg (api_Open.cells a3.fOpen))]) (qs := [.sc (.int .i64 2), .sc (.int .i64 a3.fOpen.fAS), .sc (.int .i64 a3.fOpen.fHold), .sc (.int .u32 a3.fOpen.fID), .sc (.bool a3.fOpen.fCaps.fFour), .sc (.int .i64 a3.fOpen.fCaps.fAS4), .sc (.bool a3.fOpen.fCaps.fGR), .sc (.bool a3.fOpen.fCaps.fRestarting), .sc (.int .i64 a3.fOpen.fCaps.fTime), .sc (.bool a3.fOpen.fCaps.fFamily), .sc (.bool a3.fOpen.fCaps.fForward), .sc (.bool a3.fOpen.fCaps.fLL), .sc (.int .i64 a3.fOpen.fCaps.fLLTime)]) rfl rfl rfl bld46 rfl rfl (by kernel_rfl)) ?_
      refine al_op rfl (g_build (parts := []) (pps := []) (qs := zc38) rfl rfl rfl bld38 rfl rfl (by kernel_rfl)) ?_
      refine al_op rfl (g_store (s := 8) (off := 0) (ps := zc46) (p := .agg [.sc (.int .i64 2), .sc (.int .i64 a3.fOpen.fAS), .sc (.int .i64 a3.fOpen.fHold), .sc (.int .u32 a3.fOpen.fID), .sc (.bool a3.fOpen.fCaps.fFour), .sc (.int .i64 a3.fOpen.fCaps.fAS4), .sc (.bool a3.fOpen.fCaps.fGR), .sc (.bool a3.fOpen.fCaps.fRestarting), .sc (.int .i64 a3.fOpen.fCaps.fTime), .sc (.bool a3.fOpen.fCaps.fFamily), .sc (.bool a3.fOpen.fCaps.fForward), .sc (.bool a3.fOpen.fCaps.fLL), .sc (.int .i64 a3.fOpen.fCaps.fLLTime)]) (qs := [.sc (.int .i64 2), .sc (.int .i64 a3.fOpen.fAS), .sc (.int .i64 a3.fOpen.fHold), .sc (.int .u32 a3.fOpen.fID), .sc (.bool a3.fOpen.fCaps.fFour), .sc (.int .i64 a3.fOpen.fCaps.fAS4), .sc (.bool a3.fOpen.fCaps.fGR), .sc (.bool a3.fOpen.fCaps.fRestarting), .sc (.int .i64 a3.fOpen.fCaps.fTime), .sc (.bool a3.fOpen.fCaps.fFamily), .sc (.bool a3.fOpen.fCaps.fForward), .sc (.bool a3.fOpen.fCaps.fLL), .sc (.int .i64 a3.fOpen.fCaps.fLLTime)]) rfl rfl ty46 rfl rfl rfl rfl rfl rfl rfl) ?_
      refine al_op rfl (g_assign (p := .sc (.int .i64 1)) rfl rfl rfl rfl) ?_
      refine al_op rfl (g_store (s := 10) (off := 0) (ps := zc38) (p := .agg zc38) (qs := zc38) rfl rfl ty38 rfl rfl rfl rfl rfl rfl rfl) ?_
      refine al_nil ?_
      refine aw_ret ?_
      exact endG_mk (F := (fun (z : peer_Peer × Int × api_Note) => ⟨[], [], .tup [.agg (peer_Peer.cells z.1), .sc (.int .i64 z.2.1), .agg (api_Note.cells z.2.2)]⟩)) (z := (peer_opened a0 a1 a2 a3)) (v := ((⟨2, a3.fOpen⟩ : peer_Peer), 1, (⟨0, 0, []⟩ : api_Note))) (bF k1 (bF k2 rfl)) rfl (.three (.cell 8 46 8 13 true [.sc (.int .i64 2), .sc (.int .i64 a3.fOpen.fAS), .sc (.int .i64 a3.fOpen.fHold), .sc (.int .u32 a3.fOpen.fID), .sc (.bool a3.fOpen.fCaps.fFour), .sc (.int .i64 a3.fOpen.fCaps.fAS4), .sc (.bool a3.fOpen.fCaps.fGR), .sc (.bool a3.fOpen.fCaps.fRestarting), .sc (.int .i64 a3.fOpen.fCaps.fTime), .sc (.bool a3.fOpen.fCaps.fFamily), .sc (.bool a3.fOpen.fCaps.fForward), .sc (.bool a3.fOpen.fCaps.fLL), .sc (.int .i64 a3.fOpen.fCaps.fLLTime)] (.agg [.sc (.int .i64 2), .sc (.int .i64 a3.fOpen.fAS), .sc (.int .i64 a3.fOpen.fHold), .sc (.int .u32 a3.fOpen.fID), .sc (.bool a3.fOpen.fCaps.fFour), .sc (.int .i64 a3.fOpen.fCaps.fAS4), .sc (.bool a3.fOpen.fCaps.fGR), .sc (.bool a3.fOpen.fCaps.fRestarting), .sc (.int .i64 a3.fOpen.fCaps.fTime), .sc (.bool a3.fOpen.fCaps.fFamily), .sc (.bool a3.fOpen.fCaps.fForward), .sc (.bool a3.fOpen.fCaps.fLL), .sc (.int .i64 a3.fOpen.fCaps.fLLTime)]) rfl rfl ty46 rfl rfl rfl) (.one (.rfl _)) rfl (.tmp 9 (.sc (.int .i64 1)) rfl) (.one (.rfl _)) rfl (.cell 10 38 10 3 true zc38 (.agg zc38) rfl rfl ty38 rfl rfl rfl) (.agg (.cons (.rfl _) (.cons (.rfl _) (.cons (.nil _) .nil)))) rfl) trivial trivial
theorem peer_opened_pf (a0 : api_Config) (a1 : api_PeerConf) (a2 : peer_Peer) (a3 : api_Msg) : PF Try.prog 37 [.agg (api_Config.cells a0), .agg (api_PeerConf.cells a1), .agg (peer_Peer.cells a2), .agg (api_Msg.cells a3)] (.tup [.agg (peer_Peer.cells ((peer_opened a0 a1 a2 a3).1)), .sc (.int .i64 ((peer_opened a0 a1 a2 a3).2.1)), .agg (api_Note.cells ((peer_opened a0 a1 a2 a3).2.2))]) := pf_ofG (peer_opened_pf_g a0 a1 a2 a3) rfl

/-- interregnum/peer.Take -/
def peer_Take (a0 : api_Config) (a1 : api_PeerConf) (a2 : peer_Peer) (a3 : api_Msg) : peer_Peer × Int × api_Note :=
  (bif decide ((a2.fState : Int) = 0) then
    (a2, 0, (⟨0, 0, []⟩ : api_Note))
  else
    (bif decide ((a3.fKind : Int) = 3) then
      ((peer_Reset a2), 4, (⟨0, 0, []⟩ : api_Note))
    else
      (bif decide ((a2.fState : Int) = 1) then
        (((peer_opened a0 a1 a2 a3).1), (peer_opened a0 a1 a2 a3).2.1, ((peer_opened a0 a1 a2 a3).2.2))
      else
        (bif (decide ((a3.fKind : Int) = 4)) && (decide ((a2.fState : Int) = 2)) then
          ((⟨3, a2.fTheirs⟩ : peer_Peer), 2, (⟨0, 0, []⟩ : api_Note))
        else
          (bif decide ((a3.fKind : Int) = 4) then
            (a2, 0, (⟨0, 0, []⟩ : api_Note))
          else
            (bif (decide ((a3.fKind : Int) = 2)) && (decide ((a2.fState : Int) = 3)) then
              (a2, 3, (⟨0, 0, []⟩ : api_Note))
            else
              ((peer_Reset a2), 4, (⟨5, a2.fState, []⟩ : api_Note))))))))
set_option maxRecDepth 100000 in
set_option maxHeartbeats 4000000 in
theorem peer_Take_pf_g (a0 : api_Config) (a1 : api_PeerConf) (a2 : peer_Peer) (a3 : api_Msg) : PG Try.prog 24 [] [] [.agg (api_Config.cells a0), .agg (api_PeerConf.cells a1), .agg (peer_Peer.cells a2), .agg (api_Msg.cells a3)] (fun _ : Unit => True) (fun _ => (fun (z : peer_Peer × Int × api_Note) => ⟨[], [], .tup [.agg (peer_Peer.cells z.1), .sc (.int .i64 z.2.1), .agg (api_Note.cells z.2.2)]⟩) (peer_Take a0 a1 a2 a3)) := by
  refine pg_of (N := 70) (l := [.cell 8 46, .tmp 9, .cell 10 38]) Try.func24 rfl rfl rfl (Nat.le_of_ble_eq_true rfl) fun w0 i0 F βs => ?_
  refine aw_seq ?_
  refine aw_region ?_
  refine al_op rfl (g_box (s := 4) (p := .agg (api_Config.cells a0)) (qs := (api_Config.cells a0)) rfl rfl rfl rfl rfl rfl rfl) ?_
  refine al_op rfl (g_box (s := 5) (p := .agg (api_PeerConf.cells a1)) (qs := (api_PeerConf.cells a1)) rfl rfl rfl rfl rfl rfl rfl) ?_
  refine al_op rfl (g_box (s := 6) (p := .agg (peer_Peer.cells a2)) (qs := (peer_Peer.cells a2)) rfl rfl rfl rfl rfl rfl rfl) ?_
  refine al_op rfl (g_box (s := 7) (p := .agg (api_Msg.cells a3)) (qs := (api_Msg.cells a3)) rfl rfl rfl rfl rfl rfl rfl) ?_
  refine al_op rfl (g_alloc (s := 8) (z := zv46) (qs := zc46) rfl rfl rfl rfl z46 rfl rfl) ?_
  refine al_op rfl (g_assign (p := .sc (.int .i64 0)) rfl rfl rfl rfl) ?_
  refine al_op rfl (g_alloc (s := 10) (z := zv38) (qs := zc38) rfl rfl rfl rfl z38 rfl rfl) ?_
  refine al_nil ?_
  refine aw_seq ?_
  refine aw_block ?_
  refine aw_seq ?_
  refine aw_region ?_
  refine al_op rfl (g_fieldAddr (b := 6) (k := 0) (m := 0) rfl rfl rfl fld46_0 rfl rfl) ?_
  refine al_op rfl (g_load (s := 6) (off := 0) (ps := (peer_Peer.cells a2)) (p := .sc (.int .i64 a2.fState)) rfl rfl rfl ty3 rfl rfl rfl rfl rfl) ?_
  refine al_op rfl (g_bin (u1 := .int .i64 a2.fState) (u2 := .int .i64 0) (v := .bool (decide ((a2.fState : Int) = 0))) rfl rfl rfl rfl rfl (fun _ => rfl)) ?_
  refine al_op rfl (g_assign (p := .sc (.bool (decide ((a2.fState : Int) = 0)))) rfl rfl rfl rfl) ?_
  refine al_nil ?_
  refine aw_cond (b := decide ((a2.fState : Int) = 0)) rfl (fun k1 => ?_) (fun k1 => ?_)
  · skip
    refine aw_seq ?_
    refine aw_region ?_
    refine al_op rfl (g_load (s := 6) (off := 0) (ps := (peer_Peer.cells a2)) (p := .agg (peer_Peer.cells a2)) rfl rfl rfl ty46 rfl rfl rfl rfl rfl) ?_
    refine al_op rfl (g_build (parts := []) (pps := []) (qs := zc38) rfl rfl rfl bld38 rfl rfl (by kernel_rfl)) ?_
    refine al_op rfl (g_store (s := 8) (off := 0) (ps := zc46) (p := .agg (peer_Peer.cells a2)) (qs := (peer_Peer.cells a2)) rfl rfl ty46 rfl rfl rfl rfl rfl rfl rfl) ?_
    refine al_op rfl (g_assign (p := .sc (.int .i64 0)) rfl rfl rfl rfl) ?_
    refine al_op rfl (g_store (s := 10) (off := 0) (ps := zc38) (p := .agg zc38) (qs := zc38) rfl rfl ty38 rfl rfl rfl rfl rfl rfl rfl) ?_
    refine al_nil ?_
    refine aw_ret ?_
    exact endG_mk (F := (fun (z : peer_Peer × Int × api_Note) => ⟨[], [], .tup [.agg (peer_Peer.cells z.1), .sc (.int .i64 z.2.1), .agg (api_Note.cells z.2.2)]⟩)) (z := (peer_Take a0 a1 a2 a3)) (v := (a2, 0, (⟨0, 0, []⟩ : api_Note))) (bT k1 rfl) rfl (.three (.cell 8 46 8 13 true (peer_Peer.cells a2) (.agg (peer_Peer.cells a2)) rfl rfl ty46 rfl rfl rfl) (.one (.rfl _)) rfl (.tmp 9 (.sc (.int .i64 0)) rfl) (.one (.rfl _)) rfl (.cell 10 38 10 3 true zc38 (.agg zc38) rfl rfl ty38 rfl rfl rfl) (.agg (.cons (.rfl _) (.cons (.rfl _) (.cons (.nil _) .nil)))) rfl) trivial trivial
  · skip
    refine aw_seq ?_
    refine aw_region ?_
    refine al_op rfl (g_fieldAddr (b := 7) (k := 0) (m := 0) rfl rfl rfl fld60_0 rfl rfl) ?_
    refine al_op rfl (g_load (s := 7) (off := 0) (ps := (api_Msg.cells a3)) (p := .sc (.int .i64 a3.fKind)) rfl rfl rfl ty3 rfl rfl rfl rfl rfl) ?_
    refine al_op rfl (g_bin (u1 := .int .i64 a3.fKind) (u2 := .int .i64 3) (v := .bool (decide ((a3.fKind : Int) = 3))) rfl rfl rfl rfl rfl (fun _ => rfl)) ?_
    refine al_op rfl (g_assign (p := .sc (.bool (decide ((a3.fKind : Int) = 3)))) rfl rfl rfl rfl) ?_
    refine al_nil ?_
    refine aw_cond (b := decide ((a3.fKind : Int) = 3)) rfl (fun k2 => ?_) (fun k2 => ?_)
    · skip
      refine aw_seq ?_
      refine aw_region ?_
      refine al_op rfl (g_load (s := 6) (off := 0) (ps := (peer_Peer.cells a2)) (p := .agg (peer_Peer.cells a2)) rfl rfl rfl ty46 rfl rfl rfl rfl rfl) ?_
      refine al_op rfl (g_call (fn := Try.f26) (xs := [.tmp 21]) (args := [.agg (peer_Peer.cells a2)]) (r := .agg (peer_Peer.cells (peer_Reset a2))) rfl rfl rfl Try.func26 rfl rfl rfl rfl rfl (peer_Reset_pf a2)) ?_
      refine al_op rfl (g_build (parts := []) (pps := []) (qs := zc38) rfl rfl rfl bld38 rfl rfl (by kernel_rfl)) ?_
      refine al_op rfl (g_store (s := 8) (off := 0) (ps := zc46) (p := .agg (peer_Peer.cells (peer_Reset a2))) (qs := (peer_Peer.cells (peer_Reset a2))) rfl rfl ty46 rfl rfl rfl rfl rfl rfl rfl) ?_
      refine al_op rfl (g_assign (p := .sc (.int .i64 4)) rfl rfl rfl rfl) ?_
      refine al_op rfl (g_store (s := 10) (off := 0) (ps := zc38) (p := .agg zc38) (qs := zc38) rfl rfl ty38 rfl rfl rfl rfl rfl rfl rfl) ?_
      refine al_nil ?_
      refine aw_ret ?_
      exact endG_mk (F := (fun (z : peer_Peer × Int × api_Note) => ⟨[], [], .tup [.agg (peer_Peer.cells z.1), .sc (.int .i64 z.2.1), .agg (api_Note.cells z.2.2)]⟩)) (z := (peer_Take a0 a1 a2 a3)) (v := ((peer_Reset a2), 4, (⟨0, 0, []⟩ : api_Note))) (bF k1 (bT k2 rfl)) rfl (.three (.cell 8 46 8 13 true (peer_Peer.cells (peer_Reset a2)) (.agg (peer_Peer.cells (peer_Reset a2))) rfl rfl ty46 rfl rfl rfl) (.one (.rfl _)) rfl (.tmp 9 (.sc (.int .i64 4)) rfl) (.one (.rfl _)) rfl (.cell 10 38 10 3 true zc38 (.agg zc38) rfl rfl ty38 rfl rfl rfl) (.agg (.cons (.rfl _) (.cons (.rfl _) (.cons (.nil _) .nil)))) rfl) trivial trivial
    · skip
      refine aw_seq ?_
      refine aw_region ?_
      refine al_op rfl (g_fieldAddr (b := 6) (k := 0) (m := 0) rfl rfl rfl fld46_0 rfl rfl) ?_
      refine al_op rfl (g_load (s := 6) (off := 0) (ps := (peer_Peer.cells a2)) (p := .sc (.int .i64 a2.fState)) rfl rfl rfl ty3 rfl rfl rfl rfl rfl) ?_
      refine al_op rfl (g_bin (u1 := .int .i64 a2.fState) (u2 := .int .i64 1) (v := .bool (decide ((a2.fState : Int) = 1))) rfl rfl rfl rfl rfl (fun _ => rfl)) ?_
      refine al_op rfl (g_assign (p := .sc (.bool (decide ((a2.fState : Int) = 1)))) rfl rfl rfl rfl) ?_
      refine al_nil ?_
      refine aw_cond (b := decide ((a2.fState : Int) = 1)) rfl (fun k3 => ?_) (fun k3 => ?_)
      · skip
        refine aw_seq ?_
        refine aw_region ?_
        refine al_op rfl (g_load (s := 4) (off := 0) (ps := (api_Config.cells a0)) (p := .agg (api_Config.cells a0)) rfl rfl rfl ty24 rfl rfl rfl rfl rfl) ?_
        refine al_op rfl (g_load (s := 5) (off := 0) (ps := (api_PeerConf.cells a1)) (p := .agg (api_PeerConf.cells a1)) rfl rfl rfl ty34 rfl rfl rfl rfl rfl) ?_
        refine al_op rfl (g_load (s := 6) (off := 0) (ps := (peer_Peer.cells a2)) (p := .agg (peer_Peer.cells a2)) rfl rfl rfl ty46 rfl rfl rfl rfl rfl) ?_
        refine al_op rfl (g_load (s := 7) (off := 0) (ps := (api_Msg.cells a3)) (p := .agg (api_Msg.cells a3)) rfl rfl rfl ty60 rfl rfl rfl rfl rfl) ?_
        refine al_op rfl (g_call (fn := Try.f37) (xs := [.tmp 28, .tmp 29, .tmp 30, .tmp 31]) (args := [.agg (api_Config.cells a0), .agg (api_PeerConf.cells a1), .agg (peer_Peer.cells a2), .agg (api_Msg.cells a3)]) (r := .tup [.agg (peer_Peer.cells ((peer_opened a0 a1 a2 a3).1)), .sc (.int .i64 ((peer_opened a0 a1 a2 a3).2.1)), .agg (api_Note.cells ((peer_opened a0 a1 a2 a3).2.2))]) rfl rfl rfl Try.func37 rfl rfl rfl rfl rfl (peer_opened_pf a0 a1 a2 a3)) ?_
        refine al_op rfl (g_extract (ps := [.agg (peer_Peer.cells ((peer_opened a0 a1 a2 a3).1)), .sc (.int .i64 ((peer_opened a0 a1 a2 a3).2.1)), .agg (api_Note.cells ((peer_opened a0 a1 a2 a3).2.2))]) (p := .agg (peer_Peer.cells ((peer_opened a0 a1 a2 a3).1))) rfl rfl rfl rfl rfl) ?_
        refine al_op rfl (g_extract (ps := [.agg (peer_Peer.cells ((peer_opened a0 a1 a2 a3).1)), .sc (.int .i64 ((peer_opened a0 a1 a2 a3).2.1)), .agg (api_Note.cells ((peer_opened a0 a1 a2 a3).2.2))]) (p := .sc (.int .i64 ((peer_opened a0 a1 a2 a3).2.1))) rfl rfl rfl rfl rfl) ?_
        refine al_op rfl (g_extract (ps := [.agg (peer_Peer.cells ((peer_opened a0 a1 a2 a3).1)), .sc (.int .i64 ((peer_opened a0 a1 a2 a3).2.1)), .agg (api_Note.cells ((peer_opened a0 a1 a2 a3).2.2))]) (p := .agg (api_Note.cells ((peer_opened a0 a1 a2 a3).2.2))) rfl rfl rfl rfl rfl) ?_
        refine al_op rfl (g_store (s := 8) (off := 0) (ps := zc46) (p := .agg (peer_Peer.cells ((peer_opened a0 a1 a2 a3).1))) (qs := (peer_Peer.cells ((peer_opened a0 a1 a2 a3).1))) rfl rfl ty46 rfl rfl rfl rfl rfl rfl rfl) ?_
        refine al_op rfl (g_assign (p := .sc (.int .i64 ((peer_opened a0 a1 a2 a3).2.1))) rfl rfl rfl rfl) ?_
        refine al_op rfl (g_store (s := 10) (off := 0) (ps := zc38) (p := .agg (api_Note.cells ((peer_opened a0 a1 a2 a3).2.2))) (qs := (api_Note.cells ((peer_opened a0 a1 a2 a3).2.2))) rfl rfl ty38 rfl rfl rfl rfl rfl rfl rfl) ?_
        refine al_nil ?_
        refine aw_ret ?_
        exact endG_mk (F := (fun (z : peer_Peer × Int × api_Note) => ⟨[], [], .tup [.agg (peer_Peer.cells z.1), .sc (.int .i64 z.2.1), .agg (api_Note.cells z.2.2)]⟩)) (z := (peer_Take a0 a1 a2 a3)) (v := (((peer_opened a0 a1 a2 a3).1), (peer_opened a0 a1 a2 a3).2.1, ((peer_opened a0 a1 a2 a3).2.2))) (bF k1 (bF k2 (bT k3 rfl))) rfl (.three (.cell 8 46 8 13 true (peer_Peer.cells ((peer_opened a0 a1 a2 a3).1)) (.agg (peer_Peer.cells ((peer_opened a0 a1 a2 a3).1))) rfl rfl ty46 rfl rfl rfl) (.one (.rfl _)) rfl (.tmp 9 (.sc (.int .i64 ((peer_opened a0 a1 a2 a3).2.1))) rfl) (.one (.rfl _)) rfl (.cell 10 38 10 3 true (api_Note.cells ((peer_opened a0 a1 a2 a3).2.2)) (.agg (api_Note.cells ((peer_opened a0 a1 a2 a3).2.2))) rfl rfl ty38 rfl rfl rfl) (.one (.rfl _)) rfl) trivial trivial
      · skip
        refine aw_seq ?_
        refine aw_region ?_
        refine al_op rfl (g_fieldAddr (b := 7) (k := 0) (m := 0) rfl rfl rfl fld60_0 rfl rfl) ?_
        refine al_op rfl (g_load (s := 7) (off := 0) (ps := (api_Msg.cells a3)) (p := .sc (.int .i64 a3.fKind)) rfl rfl rfl ty3 rfl rfl rfl rfl rfl) ?_
        refine al_op rfl (g_bin (u1 := .int .i64 a3.fKind) (u2 := .int .i64 4) (v := .bool (decide ((a3.fKind : Int) = 4))) rfl rfl rfl rfl rfl (fun _ => rfl)) ?_
        refine al_op rfl (g_move (p := .sc (.bool (decide ((a3.fKind : Int) = 4)))) rfl rfl rfl rfl) ?_
        refine al_gT (b := decide ((a3.fKind : Int) = 4)) (p := .loc 6 0) rfl rfl rfl rfl rfl rfl rfl (fun g4 => g_fieldAddr (b := 6) (k := 0) (m := 0) rfl rfl rfl fld46_0 rfl rfl) ?_
        refine al_gT (b := decide ((a3.fKind : Int) = 4)) (p := .sc (.int .i64 a2.fState)) rfl rfl rfl rfl rfl rfl rfl (fun g5 => g_load (s := 6) (off := 0) (ps := (peer_Peer.cells a2)) (p := .sc (.int .i64 a2.fState)) rfl rfl rfl ty3 (gt (p := .loc 6 0) (q := .any) g5) rfl rfl rfl rfl) ?_
        refine al_gT (b := decide ((a3.fKind : Int) = 4)) (p := .sc (.bool (decide ((a2.fState : Int) = 2)))) rfl rfl rfl rfl rfl rfl rfl (fun g6 => g_bin (u1 := .int .i64 a2.fState) (u2 := .int .i64 2) (v := .bool (decide ((a2.fState : Int) = 2))) rfl rfl rfl (gt (p := .sc (.int .i64 a2.fState)) (q := .any) g6) rfl (fun _ => rfl)) ?_
        refine al_op rfl (g_and (b := decide ((a3.fKind : Int) = 4)) (y := decide ((a2.fState : Int) = 2)) rfl rfl rfl rfl rfl) ?_
        refine al_op rfl (g_assign (p := .sc (.bool ((decide ((a3.fKind : Int) = 4)) && (decide ((a2.fState : Int) = 2))))) rfl rfl rfl rfl) ?_
        refine al_nil ?_
        refine aw_cond (b := (decide ((a3.fKind : Int) = 4)) && (decide ((a2.fState : Int) = 2))) rfl (fun k7 => ?_) (fun k7 => ?_)
        · skip
          refine aw_seq ?_
          refine aw_region ?_
          refine al_op rfl (g_fieldAddr (b := 6) (k := 0) (m := 0) rfl rfl rfl fld46_0 rfl rfl) ?_
          refine al_op rfl (g_store (s := 6) (off := 0) (ps := (peer_Peer.cells a2)) (p := .sc (.int .i64 3)) (qs := [.sc (.int .i64 3), .sc (.int .i64 a2.fTheirs.fAS), .sc (.int .i64 a2.fTheirs.fHold), .sc (.int .u32 a2.fTheirs.fID), .sc (.bool a2.fTheirs.fCaps.fFour), .sc (.int .i64 a2.fTheirs.fCaps.fAS4), .sc (.bool a2.fTheirs.fCaps.fGR), .sc (.bool a2.fTheirs.fCaps.fRestarting), .sc (.int .i64 a2.fTheirs.fCaps.fTime), .sc (.bool a2.fTheirs.fCaps.fFamily), .sc (.bool a2.fTheirs.fCaps.fForward), .sc (.bool a2.fTheirs.fCaps.fLL), .sc (.int .i64 a2.fTheirs.fCaps.fLLTime)]) rfl rfl ty3 rfl rfl rfl rfl rfl rfl rfl) ?_
          refine al_nil ?_
          refine aw_seq ?_
          refine aw_region ?_
          refine al_op rfl (g_load (s := 6) (off := 0) (ps := [.sc (.int .i64 3), .sc (.int .i64 a2.fTheirs.fAS), .sc (.int .i64 a2.fTheirs.fHold), .sc (.int .u32 a2.fTheirs.fID), .sc (.bool a2.fTheirs.fCaps.fFour), .sc (.int .i64 a2.fTheirs.fCaps.fAS4), .sc (.bool a2.fTheirs.fCaps.fGR), .sc (.bool a2.fTheirs.fCaps.fRestarting), .sc (.int .i64 a2.fTheirs.fCaps.fTime), .sc (.bool a2.fTheirs.fCaps.fFamily), .sc (.bool a2.fTheirs.fCaps.fForward), .sc (.bool a2.fTheirs.fCaps.fLL), .sc (.int .i64 a2.fTheirs.fCaps.fLLTime)]) (p := .agg [.sc (.int .i64 3), .sc (.int .i64 a2.fTheirs.fAS), .sc (.int .i64 a2.fTheirs.fHold), .sc (.int .u32 a2.fTheirs.fID), .sc (.bool a2.fTheirs.fCaps.fFour), .sc (.int .i64 a2.fTheirs.fCaps.fAS4), .sc (.bool a2.fTheirs.fCaps.fGR), .sc (.bool a2.fTheirs.fCaps.fRestarting), .sc (.int .i64 a2.fTheirs.fCaps.fTime), .sc (.bool a2.fTheirs.fCaps.fFamily), .sc (.bool a2.fTheirs.fCaps.fForward), .sc (.bool a2.fTheirs.fCaps.fLL), .sc (.int .i64 a2.fTheirs.fCaps.fLLTime)]) rfl rfl rfl ty46 rfl rfl rfl rfl rfl) ?_
          refine al_op rfl (g_build (parts := []) (pps := []) (qs := zc38) rfl rfl rfl bld38 rfl rfl (by kernel_rfl)) ?_
          refine al_op rfl (g_store (s := 8) (off := 0) (ps := zc46) (p := .agg [.sc (.int .i64 3), .sc (.int .i64 a2.fTheirs.fAS), .sc (.int .i64 a2.fTheirs.fHold), .sc (.int .u32 a2.fTheirs.fID), .sc (.bool a2.fTheirs.fCaps.fFour), .sc (.int .i64 a2.fTheirs.fCaps.fAS4), .sc (.bool a2.fTheirs.fCaps.fGR), .sc (.bool a2.fTheirs.fCaps.fRestarting), .sc (.int .i64 a2.fTheirs.fCaps.fTime), .sc (.bool a2.fTheirs.fCaps.fFamily), .sc (.bool a2.fTheirs.fCaps.fForward), .sc (.bool a2.fTheirs.fCaps.fLL), .sc (.int .i64 a2.fTheirs.fCaps.fLLTime)]) (qs := [.sc (.int .i64 3), .sc (.int .i64 a2.fTheirs.fAS), .sc (.int .i64 a2.fTheirs.fHold), .sc (.int .u32 a2.fTheirs.fID), .sc (.bool a2.fTheirs.fCaps.fFour), .sc (.int .i64 a2.fTheirs.fCaps.fAS4), .sc (.bool a2.fTheirs.fCaps.fGR), .sc (.bool a2.fTheirs.fCaps.fRestarting), .sc (.int .i64 a2.fTheirs.fCaps.fTime), .sc (.bool a2.fTheirs.fCaps.fFamily), .sc (.bool a2.fTheirs.fCaps.fForward), .sc (.bool a2.fTheirs.fCaps.fLL), .sc (.int .i64 a2.fTheirs.fCaps.fLLTime)]) rfl rfl ty46 rfl rfl rfl rfl rfl rfl rfl) ?_
          refine al_op rfl (g_assign (p := .sc (.int .i64 2)) rfl rfl rfl rfl) ?_
          refine al_op rfl (g_store (s := 10) (off := 0) (ps := zc38) (p := .agg zc38) (qs := zc38) rfl rfl ty38 rfl rfl rfl rfl rfl rfl rfl) ?_
          refine al_nil ?_
          refine aw_ret ?_
          exact endG_mk (F := (fun (z : peer_Peer × Int × api_Note) => ⟨[], [], .tup [.agg (peer_Peer.cells z.1), .sc (.int .i64 z.2.1), .agg (api_Note.cells z.2.2)]⟩)) (z := (peer_Take a0 a1 a2 a3)) (v := ((⟨3, a2.fTheirs⟩ : peer_Peer), 2, (⟨0, 0, []⟩ : api_Note))) (bF k1 (bF k2 (bF k3 (bT k7 rfl)))) rfl (.three (.cell 8 46 8 13 true [.sc (.int .i64 3), .sc (.int .i64 a2.fTheirs.fAS), .sc (.int .i64 a2.fTheirs.fHold), .sc (.int .u32 a2.fTheirs.fID), .sc (.bool a2.fTheirs.fCaps.fFour), .sc (.int .i64 a2.fTheirs.fCaps.fAS4), .sc (.bool a2.fTheirs.fCaps.fGR), .sc (.bool a2.fTheirs.fCaps.fRestarting), .sc (.int .i64 a2.fTheirs.fCaps.fTime), .sc (.bool a2.fTheirs.fCaps.fFamily), .sc (.bool a2.fTheirs.fCaps.fForward), .sc (.bool a2.fTheirs.fCaps.fLL), .sc (.int .i64 a2.fTheirs.fCaps.fLLTime)] (.agg [.sc (.int .i64 3), .sc (.int .i64 a2.fTheirs.fAS), .sc (.int .i64 a2.fTheirs.fHold), .sc (.int .u32 a2.fTheirs.fID), .sc (.bool a2.fTheirs.fCaps.fFour), .sc (.int .i64 a2.fTheirs.fCaps.fAS4), .sc (.bool a2.fTheirs.fCaps.fGR), .sc (.bool a2.fTheirs.fCaps.fRestarting), .sc (.int .i64 a2.fTheirs.fCaps.fTime), .sc (.bool a2.fTheirs.fCaps.fFamily), .sc (.bool a2.fTheirs.fCaps.fForward), .sc (.bool a2.fTheirs.fCaps.fLL), .sc (.int .i64 a2.fTheirs.fCaps.fLLTime)]) rfl rfl ty46 rfl rfl rfl) (.one (.rfl _)) rfl (.tmp 9 (.sc (.int .i64 2)) rfl) (.one (.rfl _)) rfl (.cell 10 38 10 3 true zc38 (.agg zc38) rfl rfl ty38 rfl rfl rfl) (.agg (.cons (.rfl _) (.cons (.rfl _) (.cons (.nil _) .nil)))) rfl) trivial trivial
        · skip
          refine aw_seq ?_
          refine aw_region ?_
          refine al_op rfl (g_fieldAddr (b := 7) (k := 0) (m := 0) rfl rfl rfl fld60_0 rfl rfl) ?_
          refine al_op rfl (g_load (s := 7) (off := 0) (ps := (api_Msg.cells a3)) (p := .sc (.int .i64 a3.fKind)) rfl rfl rfl ty3 rfl rfl rfl rfl rfl) ?_
          refine al_op rfl (g_bin (u1 := .int .i64 a3.fKind) (u2 := .int .i64 4) (v := .bool (decide ((a3.fKind : Int) = 4))) rfl rfl rfl rfl rfl (fun _ => rfl)) ?_
          refine al_op rfl (g_assign (p := .sc (.bool (decide ((a3.fKind : Int) = 4)))) rfl rfl rfl rfl) ?_
          refine al_nil ?_
          refine aw_cond (b := decide ((a3.fKind : Int) = 4)) rfl (fun k8 => ?_) (fun k8 => ?_)
          · skip
            refine aw_seq ?_
            refine aw_region ?_
            refine al_op rfl (g_load (s := 6) (off := 0) (ps := (peer_Peer.cells a2)) (p := .agg (peer_Peer.cells a2)) rfl rfl rfl ty46 rfl rfl rfl rfl rfl) ?_
            refine al_op rfl (g_build (parts := []) (pps := []) (qs := zc38) rfl rfl rfl bld38 rfl rfl (by kernel_rfl)) ?_
            refine al_op rfl (g_store (s := 8) (off := 0) (ps := zc46) (p := .agg (peer_Peer.cells a2)) (qs := (peer_Peer.cells a2)) rfl rfl ty46 rfl rfl rfl rfl rfl rfl rfl) ?_
            refine al_op rfl (g_assign (p := .sc (.int .i64 0)) rfl rfl rfl rfl) ?_
            refine al_op rfl (g_store (s := 10) (off := 0) (ps := zc38) (p := .agg zc38) (qs := zc38) rfl rfl ty38 rfl rfl rfl rfl rfl rfl rfl) ?_
            refine al_nil ?_
            refine aw_ret ?_
            exact endG_mk (F := (fun (z : peer_Peer × Int × api_Note) => ⟨[], [], .tup [.agg (peer_Peer.cells z.1), .sc (.int .i64 z.2.1), .agg (api_Note.cells z.2.2)]⟩)) (z := (peer_Take a0 a1 a2 a3)) (v := (a2, 0, (⟨0, 0, []⟩ : api_Note))) (bF k1 (bF k2 (bF k3 (bF k7 (bT k8 rfl))))) rfl (.three (.cell 8 46 8 13 true (peer_Peer.cells a2) (.agg (peer_Peer.cells a2)) rfl rfl ty46 rfl rfl rfl) (.one (.rfl _)) rfl (.tmp 9 (.sc (.int .i64 0)) rfl) (.one (.rfl _)) rfl (.cell 10 38 10 3 true zc38 (.agg zc38) rfl rfl ty38 rfl rfl rfl) (.agg (.cons (.rfl _) (.cons (.rfl _) (.cons (.nil _) .nil)))) rfl) trivial trivial
          · skip
            refine aw_seq ?_
            refine aw_region ?_
            refine al_op rfl (g_fieldAddr (b := 7) (k := 0) (m := 0) rfl rfl rfl fld60_0 rfl rfl) ?_
            refine al_op rfl (g_load (s := 7) (off := 0) (ps := (api_Msg.cells a3)) (p := .sc (.int .i64 a3.fKind)) rfl rfl rfl ty3 rfl rfl rfl rfl rfl) ?_
            refine al_op rfl (g_bin (u1 := .int .i64 a3.fKind) (u2 := .int .i64 2) (v := .bool (decide ((a3.fKind : Int) = 2))) rfl rfl rfl rfl rfl (fun _ => rfl)) ?_
            refine al_op rfl (g_move (p := .sc (.bool (decide ((a3.fKind : Int) = 2)))) rfl rfl rfl rfl) ?_
            refine al_gT (b := decide ((a3.fKind : Int) = 2)) (p := .loc 6 0) rfl rfl rfl rfl rfl rfl rfl (fun g9 => g_fieldAddr (b := 6) (k := 0) (m := 0) rfl rfl rfl fld46_0 rfl rfl) ?_
            refine al_gT (b := decide ((a3.fKind : Int) = 2)) (p := .sc (.int .i64 a2.fState)) rfl rfl rfl rfl rfl rfl rfl (fun g10 => g_load (s := 6) (off := 0) (ps := (peer_Peer.cells a2)) (p := .sc (.int .i64 a2.fState)) rfl rfl rfl ty3 (gt (p := .loc 6 0) (q := .any) g10) rfl rfl rfl rfl) ?_
            refine al_gT (b := decide ((a3.fKind : Int) = 2)) (p := .sc (.bool (decide ((a2.fState : Int) = 3)))) rfl rfl rfl rfl rfl rfl rfl (fun g11 => g_bin (u1 := .int .i64 a2.fState) (u2 := .int .i64 3) (v := .bool (decide ((a2.fState : Int) = 3))) rfl rfl rfl (gt (p := .sc (.int .i64 a2.fState)) (q := .any) g11) rfl (fun _ => rfl)) ?_
            refine al_op rfl (g_and (b := decide ((a3.fKind : Int) = 2)) (y := decide ((a2.fState : Int) = 3)) rfl rfl rfl rfl rfl) ?_
            refine al_op rfl (g_assign (p := .sc (.bool ((decide ((a3.fKind : Int) = 2)) && (decide ((a2.fState : Int) = 3))))) rfl rfl rfl rfl) ?_
            refine al_nil ?_
            refine aw_cond (b := (decide ((a3.fKind : Int) = 2)) && (decide ((a2.fState : Int) = 3))) rfl (fun k12 => ?_) (fun k12 => ?_)
            · skip
              refine aw_seq ?_
              refine aw_region ?_
              refine al_op rfl (g_load (s := 6) (off := 0) (ps := (peer_Peer.cells a2)) (p := .agg (peer_Peer.cells a2)) rfl rfl rfl ty46 rfl rfl rfl rfl rfl) ?_
              refine al_op rfl (g_build (parts := []) (pps := []) (qs := zc38) rfl rfl rfl bld38 rfl rfl (by kernel_rfl)) ?_
              refine al_op rfl (g_store (s := 8) (off := 0) (ps := zc46) (p := .agg (peer_Peer.cells a2)) (qs := (peer_Peer.cells a2)) rfl rfl ty46 rfl rfl rfl rfl rfl rfl rfl) ?_
              refine al_op rfl (g_assign (p := .sc (.int .i64 3)) rfl rfl rfl rfl) ?_
              refine al_op rfl (g_store (s := 10) (off := 0) (ps := zc38) (p := .agg zc38) (qs := zc38) rfl rfl ty38 rfl rfl rfl rfl rfl rfl rfl) ?_
              refine al_nil ?_
              refine aw_ret ?_
              exact endG_mk (F := (fun (z : peer_Peer × Int × api_Note) => ⟨[], [], .tup [.agg (peer_Peer.cells z.1), .sc (.int .i64 z.2.1), .agg (api_Note.cells z.2.2)]⟩)) (z := (peer_Take a0 a1 a2 a3)) (v := (a2, 3, (⟨0, 0, []⟩ : api_Note))) (bF k1 (bF k2 (bF k3 (bF k7 (bF k8 (bT k12 rfl)))))) rfl (.three (.cell 8 46 8 13 true (peer_Peer.cells a2) (.agg (peer_Peer.cells a2)) rfl rfl ty46 rfl rfl rfl) (.one (.rfl _)) rfl (.tmp 9 (.sc (.int .i64 3)) rfl) (.one (.rfl _)) rfl (.cell 10 38 10 3 true zc38 (.agg zc38) rfl rfl ty38 rfl rfl rfl) (.agg (.cons (.rfl _) (.cons (.rfl _) (.cons (.nil _) .nil)))) rfl) trivial trivial
            · skip
              refine aw_skip ?_
              refine aw_seq ?_
              refine aw_plan { ds := [some 65, some 66, some 67, some 68, some 69, none, some 9, none], p := fun i => [.agg (peer_Peer.cells a2), .agg (peer_Peer.cells (peer_Reset a2)), .loc 6 0, .sc (.int .i64 a2.fState), .agg [.sc (.int .i64 5), .sc (.int .i64 a2.fState), .sc (.slice none 0 0)], .any, .sc (.int .i64 4), .any].getD i .any, al := [], st := [(5, 8, 0, (peer_Peer.cells (peer_Reset a2))), (7, 10, 0, [.sc (.int .i64 5), .sc (.int .i64 a2.fState), .sc (.slice none 0 0)])] } rfl rfl rfl rfl ?_ (fun bD hb => ?_)
              · refine ⟨fun bD hc hi hd => ?_, fun bD hc hi hd => ?_, fun bD hc hi hd => ?_, fun bD hc hi hd => ?_, fun bD hc hi hd => ?_, fun bD hc hi hd => ?_, fun bD hc hi hd => ?_, fun bD hc hi hd => ?_, trivial⟩
                · exact Plan.putStep (i := 0) (q := .agg (peer_Peer.cells a2)) rfl rfl rfl (gs_plain rfl (g_load (s := 6) (off := 0) (ps := (peer_Peer.cells a2)) (p := .agg (peer_Peer.cells a2)) rfl rfl rfl ty46 rfl rfl rfl rfl rfl))
                · exact Plan.putStep (i := 1) (q := .agg (peer_Peer.cells (peer_Reset a2))) rfl rfl rfl (gs_plain rfl (g_call (fn := Try.f26) (xs := [.tmp 65]) (args := [.agg (peer_Peer.cells a2)]) (r := .agg (peer_Peer.cells (peer_Reset a2))) rfl rfl rfl Try.func26 rfl rfl (congrS1 (b0 := .agg (peer_Peer.cells a2)) (gt (p := .agg (peer_Peer.cells a2)) (q := .any) (hd 0 (by decide)))) rfl rfl (peer_Reset_pf a2)))
                · exact Plan.putStep (i := 2) (q := .loc 6 0) rfl rfl rfl (gs_plain rfl (g_fieldAddr (b := 6) (k := 0) (m := 0) rfl rfl rfl fld46_0 rfl rfl))
                · exact Plan.putStep (i := 3) (q := .sc (.int .i64 a2.fState)) rfl rfl rfl (gs_plain rfl (g_load (s := 6) (off := 0) (ps := (peer_Peer.cells a2)) (p := .sc (.int .i64 a2.fState)) rfl rfl rfl ty3 (gt (p := .loc 6 0) (q := .any) (hd 2 (by decide))) rfl rfl rfl rfl))
                · exact Plan.putStep (i := 4) (q := .agg [.sc (.int .i64 5), .sc (.int .i64 a2.fState), .sc (.slice none 0 0)]) rfl rfl rfl (gs_plain rfl (g_build (parts := [(0, .const (.int .i64 5)), (1, .tmp 68)]) (pps := [(0, .sc (.int .i64 5)), (1, .sc (.int .i64 a2.fState))]) (qs := [.sc (.int .i64 5), .sc (.int .i64 a2.fState), .sc (.slice none 0 0)]) rfl rfl rfl bld38 rfl (congr2 (b0 := .sc (.int .i64 5)) (b1 := .sc (.int .i64 a2.fState)) rfl (gt (p := .sc (.int .i64 a2.fState)) (q := .any) (hd 3 (by decide)))) (by kernel_rfl)))
                · exact pl_store (i := 5) (s := 8) (off := 0) (ps := zc46) (qs := (peer_Peer.cells (peer_Reset a2))) (p := .agg (peer_Peer.cells (peer_Reset a2))) rfl rfl rfl ty46 rfl (gt (p := .agg (peer_Peer.cells (peer_Reset a2))) (q := .any) (hd 1 (by decide))) (by exact planL_old (ps := zc46) (j := 5) rfl rfl rfl hi) rfl rfl rfl rfl rfl hi rfl rfl rfl
                · exact Plan.putStep (i := 6) (q := .sc (.int .i64 4)) rfl rfl rfl (gs_plain rfl (g_assign (p := .sc (.int .i64 4)) rfl rfl rfl rfl))
                · exact pl_store (i := 7) (s := 10) (off := 0) (ps := zc38) (qs := [.sc (.int .i64 5), .sc (.int .i64 a2.fState), .sc (.slice none 0 0)]) (p := .agg [.sc (.int .i64 5), .sc (.int .i64 a2.fState), .sc (.slice none 0 0)]) rfl rfl rfl ty38 rfl (gt (p := .agg [.sc (.int .i64 5), .sc (.int .i64 a2.fState), .sc (.slice none 0 0)]) (q := .any) (hd 4 (by decide))) (by exact planL_old (ps := zc38) (j := 7) rfl rfl rfl hi) rfl rfl rfl rfl rfl hi rfl rfl rfl
              obtain rfl : bD = fun _ => true := funext hb
              refine aw_ret ?_
              exact endG_mk (F := (fun (z : peer_Peer × Int × api_Note) => ⟨[], [], .tup [.agg (peer_Peer.cells z.1), .sc (.int .i64 z.2.1), .agg (api_Note.cells z.2.2)]⟩)) (z := (peer_Take a0 a1 a2 a3)) (v := ((peer_Reset a2), 4, (⟨5, a2.fState, []⟩ : api_Note))) (bF k1 (bF k2 (bF k3 (bF k7 (bF k8 (bF k12 rfl)))))) rfl (.three (.cell 8 46 8 13 true (peer_Peer.cells (peer_Reset a2)) (.agg (peer_Peer.cells (peer_Reset a2))) rfl rfl ty46 rfl rfl rfl) (.one (.rfl _)) rfl (.tmp 9 (.sc (.int .i64 4)) rfl) (.one (.rfl _)) rfl (.cell 10 38 10 3 true [.sc (.int .i64 5), .sc (.int .i64 a2.fState), .sc (.slice none 0 0)] (.agg [.sc (.int .i64 5), .sc (.int .i64 a2.fState), .sc (.slice none 0 0)]) rfl rfl ty38 rfl rfl rfl) (.agg (.cons (.rfl _) (.cons (.rfl _) (.cons (.nil _) .nil)))) rfl) trivial trivial
theorem peer_Take_pf (a0 : api_Config) (a1 : api_PeerConf) (a2 : peer_Peer) (a3 : api_Msg) : PF Try.prog 24 [.agg (api_Config.cells a0), .agg (api_PeerConf.cells a1), .agg (peer_Peer.cells a2), .agg (api_Msg.cells a3)] (.tup [.agg (peer_Peer.cells ((peer_Take a0 a1 a2 a3).1)), .sc (.int .i64 ((peer_Take a0 a1 a2 a3).2.1)), .agg (api_Note.cells ((peer_Take a0 a1 a2 a3).2.2))]) := pf_ofG (peer_Take_pf_g a0 a1 a2 a3) rfl

/-- interregnum/interregnumref11.Take -/
def ref11_Take (a0 : api_Config) (a1 : api_PeerConf) (a2 : Int) (a3 : api_Open) (a4 : api_Msg) : Int × api_Open × Int × api_Note :=
  (bif decide ((a2 : Int) = 0) then
    (0, a3, 0, (⟨0, 0, []⟩ : api_Note))
  else
    (bif decide ((a4.fKind : Int) = 3) then
      (0, a3, 4, (⟨0, 0, []⟩ : api_Note))
    else
      (bif decide ((a2 : Int) = 1) then
        (bif decide ((a4.fKind : Int) = 1) then
          (bif !(decide (((ref11_Check a0 a1 a4.fOpen).fCode : Int) = 0)) then
            (0, a3, 4, (ref11_Check a0 a1 a4.fOpen))
          else
            (2, a4.fOpen, 1, (⟨0, 0, []⟩ : api_Note)))
        else
          (0, a3, 4, (⟨5, a2, []⟩ : api_Note)))
      else
        (bif decide ((a2 : Int) = 2) then
          (bif decide ((a4.fKind : Int) = 4) then
            (3, a3, 2, (⟨0, 0, []⟩ : api_Note))
          else
            (0, a3, 4, (⟨5, a2, []⟩ : api_Note)))
        else
          (bif decide ((a2 : Int) = 3) then
            (bif decide ((a4.fKind : Int) = 4) then
              (3, a3, 0, (⟨0, 0, []⟩ : api_Note))
            else
              (bif decide ((a4.fKind : Int) = 2) then
                (3, a3, 3, (⟨0, 0, []⟩ : api_Note))
              else
                (0, a3, 4, (⟨5, a2, []⟩ : api_Note))))
          else
            (0, a3, 4, (⟨5, a2, []⟩ : api_Note)))))))
set_option maxRecDepth 100000 in
set_option maxHeartbeats 4000000 in
theorem ref11_Take_pf_g (a0 : api_Config) (a1 : api_PeerConf) (a2 : Int) (a3 : api_Open) (a4 : api_Msg) : PG Try.prog 25 [] [] [.agg (api_Config.cells a0), .agg (api_PeerConf.cells a1), .sc (.int .i64 a2), .agg (api_Open.cells a3), .agg (api_Msg.cells a4)] (fun _ : Unit => True) (fun _ => (fun (z : Int × api_Open × Int × api_Note) => ⟨[], [], .tup [.sc (.int .i64 z.1), .agg (api_Open.cells z.2.1), .sc (.int .i64 z.2.2.1), .agg (api_Note.cells z.2.2.2)]⟩) (ref11_Take a0 a1 a2 a3 a4)) := by
  refine pg_of (N := 65) (l := [.tmp 10, .cell 11 29, .tmp 12, .cell 13 38]) Try.func25 rfl rfl rfl (Nat.le_of_ble_eq_true rfl) fun w0 i0 F βs => ?_
  refine aw_seq ?_
  refine aw_region ?_
  refine al_op rfl (g_box (s := 5) (p := .agg (api_Config.cells a0)) (qs := (api_Config.cells a0)) rfl rfl rfl rfl rfl rfl rfl) ?_
  refine al_op rfl (g_box (s := 6) (p := .agg (api_PeerConf.cells a1)) (qs := (api_PeerConf.cells a1)) rfl rfl rfl rfl rfl rfl rfl) ?_
  refine al_op rfl (g_box (s := 8) (p := .agg (api_Open.cells a3)) (qs := (api_Open.cells a3)) rfl rfl rfl rfl rfl rfl rfl) ?_
  refine al_op rfl (g_box (s := 9) (p := .agg (api_Msg.cells a4)) (qs := (api_Msg.cells a4)) rfl rfl rfl rfl rfl rfl rfl) ?_
  refine al_op rfl (g_assign (p := .sc (.int .i64 0)) rfl rfl rfl rfl) ?_
  refine al_op rfl (g_alloc (s := 11) (z := zv29) (qs := zc29) rfl rfl rfl rfl z29 rfl rfl) ?_
  refine al_op rfl (g_assign (p := .sc (.int .i64 0)) rfl rfl rfl rfl) ?_
  refine al_op rfl (g_alloc (s := 13) (z := zv38) (qs := zc38) rfl rfl rfl rfl z38 rfl rfl) ?_
  refine al_nil ?_
  refine aw_seq ?_
  refine aw_seq ?_
  refine aw_region ?_
  refine al_op rfl (g_move (p := .sc (.int .i64 a2)) rfl rfl rfl rfl) ?_
  refine al_op rfl (g_bin (u1 := .int .i64 a2) (u2 := .int .i64 0) (v := .bool (decide ((a2 : Int) = 0))) rfl rfl rfl rfl rfl (fun _ => rfl)) ?_
  refine al_nil ?_
  refine aw_cond (b := decide ((a2 : Int) = 0)) rfl (fun k1 => ?_) (fun k1 => ?_)
  · skip
    refine aw_seq ?_
    refine aw_plan { ds := [some 17, some 18, some 10, none, some 12, none], p := fun i => [.agg (api_Open.cells a3), .agg zc38, .sc (.int .i64 0), .any, .sc (.int .i64 0), .any].getD i .any, al := [], st := [(3, 11, 0, (api_Open.cells a3)), (5, 13, 0, zc38)] } rfl rfl rfl rfl ?_ (fun bD hb => ?_)
    · refine ⟨fun bD hc hi hd => ?_, fun bD hc hi hd => ?_, fun bD hc hi hd => ?_, fun bD hc hi hd => ?_, fun bD hc hi hd => ?_, fun bD hc hi hd => ?_, trivial⟩
      · exact Plan.putStep (i := 0) (q := .agg (api_Open.cells a3)) rfl rfl rfl (gs_plain rfl (g_load (s := 8) (off := 0) (ps := (api_Open.cells a3)) (p := .agg (api_Open.cells a3)) rfl rfl rfl ty29 rfl rfl rfl rfl rfl))
      · exact Plan.putStep (i := 1) (q := .agg zc38) rfl rfl rfl (gs_plain rfl (g_build (parts := []) (pps := []) (qs := zc38) rfl rfl rfl bld38 rfl rfl (by kernel_rfl)))
      · exact Plan.putStep (i := 2) (q := .sc (.int .i64 0)) rfl rfl rfl (gs_plain rfl (g_assign (p := .sc (.int .i64 0)) rfl rfl rfl rfl))
      · exact pl_store (i := 3) (s := 11) (off := 0) (ps := zc29) (qs := (api_Open.cells a3)) (p := .agg (api_Open.cells a3)) rfl rfl rfl ty29 rfl (gt (p := .agg (api_Open.cells a3)) (q := .any) (hd 0 (by decide))) (by exact planL_old (ps := zc29) (j := 3) rfl rfl rfl hi) rfl rfl rfl rfl rfl hi rfl rfl rfl
      · exact Plan.putStep (i := 4) (q := .sc (.int .i64 0)) rfl rfl rfl (gs_plain rfl (g_assign (p := .sc (.int .i64 0)) rfl rfl rfl rfl))
      · exact pl_store (i := 5) (s := 13) (off := 0) (ps := zc38) (qs := zc38) (p := .agg zc38) rfl rfl rfl ty38 rfl (gt (p := .agg zc38) (q := .any) (hd 1 (by decide))) (by exact planL_old (ps := zc38) (j := 5) rfl rfl rfl hi) rfl rfl rfl rfl rfl hi rfl rfl rfl
    obtain rfl : bD = fun _ => true := funext hb
    refine aw_ret ?_
    exact endG_mk (F := (fun (z : Int × api_Open × Int × api_Note) => ⟨[], [], .tup [.sc (.int .i64 z.1), .agg (api_Open.cells z.2.1), .sc (.int .i64 z.2.2.1), .agg (api_Note.cells z.2.2.2)]⟩)) (z := (ref11_Take a0 a1 a2 a3 a4)) (v := (0, a3, 0, (⟨0, 0, []⟩ : api_Note))) (bT k1 rfl) rfl (.four (.tmp 10 (.sc (.int .i64 0)) rfl) (.one (.rfl _)) rfl (.cell 11 29 11 12 true (api_Open.cells a3) (.agg (api_Open.cells a3)) rfl rfl ty29 rfl rfl rfl) (.one (.rfl _)) rfl (.tmp 12 (.sc (.int .i64 0)) rfl) (.one (.rfl _)) rfl (.cell 13 38 13 3 true zc38 (.agg zc38) rfl rfl ty38 rfl rfl rfl) (.agg (.cons (.rfl _) (.cons (.rfl _) (.cons (.nil _) .nil)))) rfl) trivial trivial
  · skip
    refine aw_skip ?_
    refine aw_seq ?_
    refine aw_seq ?_
    refine aw_region ?_
    refine al_op rfl (g_fieldAddr (b := 9) (k := 0) (m := 0) rfl rfl rfl fld60_0 rfl rfl) ?_
    refine al_op rfl (g_load (s := 9) (off := 0) (ps := (api_Msg.cells a4)) (p := .sc (.int .i64 a4.fKind)) rfl rfl rfl ty3 rfl rfl rfl rfl rfl) ?_
    refine al_op rfl (g_bin (u1 := .int .i64 a4.fKind) (u2 := .int .i64 3) (v := .bool (decide ((a4.fKind : Int) = 3))) rfl rfl rfl rfl rfl (fun _ => rfl)) ?_
    refine al_nil ?_
    refine aw_cond (b := decide ((a4.fKind : Int) = 3)) rfl (fun k2 => ?_) (fun k2 => ?_)
    · skip
      refine aw_seq ?_
      refine aw_plan { ds := [some 22, some 23, some 10, none, some 12, none], p := fun i => [.agg (api_Open.cells a3), .agg zc38, .sc (.int .i64 0), .any, .sc (.int .i64 4), .any].getD i .any, al := [], st := [(3, 11, 0, (api_Open.cells a3)), (5, 13, 0, zc38)] } rfl rfl rfl rfl ?_ (fun bD hb => ?_)
      · refine ⟨fun bD hc hi hd => ?_, fun bD hc hi hd => ?_, fun bD hc hi hd => ?_, fun bD hc hi hd => ?_, fun bD hc hi hd => ?_, fun bD hc hi hd => ?_, trivial⟩
        · exact Plan.putStep (i := 0) (q := .agg (api_Open.cells a3)) rfl rfl rfl (gs_plain rfl (g_load (s := 8) (off := 0) (ps := (api_Open.cells a3)) (p := .agg (api_Open.cells a3)) rfl rfl rfl ty29 rfl rfl rfl rfl rfl))
        · exact Plan.putStep (i := 1) (q := .agg zc38) rfl rfl rfl (gs_plain rfl (g_build (parts := []) (pps := []) (qs := zc38) rfl rfl rfl bld38 rfl rfl (by kernel_rfl)))
        · exact Plan.putStep (i := 2) (q := .sc (.int .i64 0)) rfl rfl rfl (gs_plain rfl (g_assign (p := .sc (.int .i64 0)) rfl rfl rfl rfl))
        · exact pl_store (i := 3) (s := 11) (off := 0) (ps := zc29) (qs := (api_Open.cells a3)) (p := .agg (api_Open.cells a3)) rfl rfl rfl ty29 rfl (gt (p := .agg (api_Open.cells a3)) (q := .any) (hd 0 (by decide))) (by exact planL_old (ps := zc29) (j := 3) rfl rfl rfl hi) rfl rfl rfl rfl rfl hi rfl rfl rfl
        · exact Plan.putStep (i := 4) (q := .sc (.int .i64 4)) rfl rfl rfl (gs_plain rfl (g_assign (p := .sc (.int .i64 4)) rfl rfl rfl rfl))
        · exact pl_store (i := 5) (s := 13) (off := 0) (ps := zc38) (qs := zc38) (p := .agg zc38) rfl rfl rfl ty38 rfl (gt (p := .agg zc38) (q := .any) (hd 1 (by decide))) (by exact planL_old (ps := zc38) (j := 5) rfl rfl rfl hi) rfl rfl rfl rfl rfl hi rfl rfl rfl
      obtain rfl : bD = fun _ => true := funext hb
      refine aw_ret ?_
      exact endG_mk (F := (fun (z : Int × api_Open × Int × api_Note) => ⟨[], [], .tup [.sc (.int .i64 z.1), .agg (api_Open.cells z.2.1), .sc (.int .i64 z.2.2.1), .agg (api_Note.cells z.2.2.2)]⟩)) (z := (ref11_Take a0 a1 a2 a3 a4)) (v := (0, a3, 4, (⟨0, 0, []⟩ : api_Note))) (bF k1 (bT k2 rfl)) rfl (.four (.tmp 10 (.sc (.int .i64 0)) rfl) (.one (.rfl _)) rfl (.cell 11 29 11 12 true (api_Open.cells a3) (.agg (api_Open.cells a3)) rfl rfl ty29 rfl rfl rfl) (.one (.rfl _)) rfl (.tmp 12 (.sc (.int .i64 4)) rfl) (.one (.rfl _)) rfl (.cell 13 38 13 3 true zc38 (.agg zc38) rfl rfl ty38 rfl rfl rfl) (.agg (.cons (.rfl _) (.cons (.rfl _) (.cons (.nil _) .nil)))) rfl) trivial trivial
    · skip
      refine aw_skip ?_
      refine aw_seq ?_
      refine aw_seq ?_
      refine aw_region ?_
      refine al_op rfl (g_move (p := .sc (.int .i64 a2)) rfl rfl rfl rfl) ?_
      refine al_nil ?_
      refine aw_block ?_
      refine aw_seq ?_
      refine aw_region ?_
      refine al_op rfl (g_bin (u1 := .int .i64 a2) (u2 := .int .i64 1) (v := .bool (decide ((a2 : Int) = 1))) rfl rfl rfl rfl rfl (fun _ => rfl)) ?_
      refine al_op rfl (g_assign (p := .sc (.bool (decide ((a2 : Int) = 1)))) rfl rfl rfl rfl) ?_
      refine al_nil ?_
      refine aw_cond (b := decide ((a2 : Int) = 1)) rfl (fun k3 => ?_) (fun k3 => ?_)
      · skip
        refine aw_seq ?_
        refine aw_region ?_
        refine al_op rfl (g_fieldAddr (b := 9) (k := 0) (m := 0) rfl rfl rfl fld60_0 rfl rfl) ?_
        refine al_op rfl (g_load (s := 9) (off := 0) (ps := (api_Msg.cells a4)) (p := .sc (.int .i64 a4.fKind)) rfl rfl rfl ty3 rfl rfl rfl rfl rfl) ?_
        refine al_op rfl (g_bin (u1 := .int .i64 a4.fKind) (u2 := .int .i64 1) (v := .bool (decide ((a4.fKind : Int) = 1))) rfl rfl rfl rfl rfl (fun _ => rfl)) ?_
        refine al_nil ?_
        refine aw_cond (b := decide ((a4.fKind : Int) = 1)) rfl (fun k4 => ?_) (fun k4 => ?_)
        · skip
          refine aw_seq ?_
          refine aw_seq ?_
          refine aw_region ?_
          refine al_op rfl (g_load (s := 5) (off := 0) (ps := (api_Config.cells a0)) (p := .agg (api_Config.cells a0)) rfl rfl rfl ty24 rfl rfl rfl rfl rfl) ?_
          refine al_op rfl (g_load (s := 6) (off := 0) (ps := (api_PeerConf.cells a1)) (p := .agg (api_PeerConf.cells a1)) rfl rfl rfl ty34 rfl rfl rfl rfl rfl) ?_
          refine al_op rfl (g_fieldAddr (b := 9) (k := 0) (m := 1) rfl rfl rfl fld60_1 rfl rfl) ?_
          refine al_op rfl (g_load (s := 9) (off := 1) (ps := (api_Msg.cells a4)) (p := .agg (api_Open.cells a4.fOpen)) rfl rfl rfl ty29 rfl rfl rfl rfl rfl) ?_
          refine al_op rfl (g_call (fn := Try.f19) (xs := [.tmp 30, .tmp 31, .tmp 33]) (args := [.agg (api_Config.cells a0), .agg (api_PeerConf.cells a1), .agg (api_Open.cells a4.fOpen)]) (r := .agg (api_Note.cells (ref11_Check a0 a1 a4.fOpen))) rfl rfl rfl Try.func19 rfl rfl rfl rfl rfl (ref11_Check_pf a0 a1 a4.fOpen)) ?_
          refine al_op rfl (g_alloc (s := 14) (z := zv38) (qs := zc38) rfl rfl rfl rfl z38 rfl rfl) ?_
          refine al_op rfl (g_store (s := 14) (off := 0) (ps := zc38) (p := .agg (api_Note.cells (ref11_Check a0 a1 a4.fOpen))) (qs := (api_Note.cells (ref11_Check a0 a1 a4.fOpen))) rfl rfl ty38 rfl rfl rfl rfl rfl rfl rfl) ?_
          refine al_nil ?_
          refine aw_seq ?_
          refine aw_region ?_
          refine al_op rfl (g_fieldAddr (b := 14) (k := 0) (m := 0) rfl rfl rfl fld38_0 rfl rfl) ?_
          refine al_op rfl (g_load (s := 14) (off := 0) (ps := (api_Note.cells (ref11_Check a0 a1 a4.fOpen))) (p := .sc (.int .i64 ((ref11_Check a0 a1 a4.fOpen).fCode))) rfl rfl rfl ty3 rfl rfl rfl rfl rfl) ?_
          refine al_op rfl (g_bin (u1 := .int .i64 ((ref11_Check a0 a1 a4.fOpen).fCode)) (u2 := .int .i64 0) (v := .bool (!(decide (((ref11_Check a0 a1 a4.fOpen).fCode : Int) = 0)))) rfl rfl rfl rfl rfl (fun _ => rfl)) ?_
          refine al_nil ?_
          refine aw_cond (b := !(decide (((ref11_Check a0 a1 a4.fOpen).fCode : Int) = 0))) rfl (fun k5 => ?_) (fun k5 => ?_)
          · skip
            refine aw_seq ?_
            refine aw_plan { ds := [some 38, some 39, some 10, none, some 12, none], p := fun i => [.agg (api_Open.cells a3), .agg (api_Note.cells (ref11_Check a0 a1 a4.fOpen)), .sc (.int .i64 0), .any, .sc (.int .i64 4), .any].getD i .any, al := [], st := [(3, 11, 0, (api_Open.cells a3)), (5, 13, 0, (api_Note.cells (ref11_Check a0 a1 a4.fOpen)))] } rfl rfl rfl rfl ?_ (fun bD hb => ?_)
            · refine ⟨fun bD hc hi hd => ?_, fun bD hc hi hd => ?_, fun bD hc hi hd => ?_, fun bD hc hi hd => ?_, fun bD hc hi hd => ?_, fun bD hc hi hd => ?_, trivial⟩
              · exact Plan.putStep (i := 0) (q := .agg (api_Open.cells a3)) rfl rfl rfl (gs_plain rfl (g_load (s := 8) (off := 0) (ps := (api_Open.cells a3)) (p := .agg (api_Open.cells a3)) rfl rfl rfl ty29 rfl rfl rfl rfl rfl))
              · exact Plan.putStep (i := 1) (q := .agg (api_Note.cells (ref11_Check a0 a1 a4.fOpen))) rfl rfl rfl (gs_plain rfl (g_load (s := 14) (off := 0) (ps := (api_Note.cells (ref11_Check a0 a1 a4.fOpen))) (p := .agg (api_Note.cells (ref11_Check a0 a1 a4.fOpen))) rfl rfl rfl ty38 rfl rfl rfl rfl rfl))
              · exact Plan.putStep (i := 2) (q := .sc (.int .i64 0)) rfl rfl rfl (gs_plain rfl (g_assign (p := .sc (.int .i64 0)) rfl rfl rfl rfl))
              · exact pl_store (i := 3) (s := 11) (off := 0) (ps := zc29) (qs := (api_Open.cells a3)) (p := .agg (api_Open.cells a3)) rfl rfl rfl ty29 rfl (gt (p := .agg (api_Open.cells a3)) (q := .any) (hd 0 (by decide))) (by exact planL_old (ps := zc29) (j := 3) rfl rfl rfl hi) rfl rfl rfl rfl rfl hi rfl rfl rfl
              · exact Plan.putStep (i := 4) (q := .sc (.int .i64 4)) rfl rfl rfl (gs_plain rfl (g_assign (p := .sc (.int .i64 4)) rfl rfl rfl rfl))
              · exact pl_store (i := 5) (s := 13) (off := 0) (ps := zc38) (qs := (api_Note.cells (ref11_Check a0 a1 a4.fOpen))) (p := .agg (api_Note.cells (ref11_Check a0 a1 a4.fOpen))) rfl rfl rfl ty38 rfl (gt (p := .agg (api_Note.cells (ref11_Check a0 a1 a4.fOpen))) (q := .any) (hd 1 (by decide))) (by exact planL_old (ps := zc38) (j := 5) rfl rfl rfl hi) rfl rfl rfl rfl rfl hi rfl rfl rfl
            obtain rfl : bD = fun _ => true := funext hb
            refine aw_ret ?_
            exact endG_mk (F := (fun (z : Int × api_Open × Int × api_Note) => ⟨[], [], .tup [.sc (.int .i64 z.1), .agg (api_Open.cells z.2.1), .sc (.int .i64 z.2.2.1), .agg (api_Note.cells z.2.2.2)]⟩)) (z := (ref11_Take a0 a1 a2 a3 a4)) (v := (0, a3, 4, (ref11_Check a0 a1 a4.fOpen))) (bF k1 (bF k2 (bT k3 (bT k4 (bT k5 rfl))))) rfl (.four (.tmp 10 (.sc (.int .i64 0)) rfl) (.one (.rfl _)) rfl (.cell 11 29 11 12 true (api_Open.cells a3) (.agg (api_Open.cells a3)) rfl rfl ty29 rfl rfl rfl) (.one (.rfl _)) rfl (.tmp 12 (.sc (.int .i64 4)) rfl) (.one (.rfl _)) rfl (.cell 13 38 13 3 true (api_Note.cells (ref11_Check a0 a1 a4.fOpen)) (.agg (api_Note.cells (ref11_Check a0 a1 a4.fOpen))) rfl rfl ty38 rfl rfl rfl) (.one (.rfl _)) rfl) trivial trivial
          · skip
            refine aw_skip ?_
            refine aw_seq ?_
            refine aw_plan { ds := [some 40, some 41, some 42, some 10, none, some 12, none], p := fun i => [.loc 9 1, .agg (api_Open.cells a4.fOpen), .agg zc38, .sc (.int .i64 2), .any, .sc (.int .i64 1), .any].getD i .any, al := [], st := [(4, 11, 0, (api_Open.cells a4.fOpen)), (6, 13, 0, zc38)] } rfl rfl rfl rfl ?_ (fun bD hb => ?_)
            · refine ⟨fun bD hc hi hd => ?_, fun bD hc hi hd => ?_, fun bD hc hi hd => ?_, fun bD hc hi hd => ?_, fun bD hc hi hd => ?_, fun bD hc hi hd => ?_, fun bD hc hi hd => ?_, trivial⟩
              · exact Plan.putStep (i := 0) (q := .loc 9 1) rfl rfl rfl (gs_plain rfl (g_fieldAddr (b := 9) (k := 0) (m := 1) rfl rfl rfl fld60_1 rfl rfl))
              · exact Plan.putStep (i := 1) (q := .agg (api_Open.cells a4.fOpen)) rfl rfl rfl (gs_plain rfl (g_load (s := 9) (off := 1) (ps := (api_Msg.cells a4)) (p := .agg (api_Open.cells a4.fOpen)) rfl rfl rfl ty29 (gt (p := .loc 9 1) (q := .any) (hd 0 (by decide))) rfl rfl rfl rfl))
              · exact Plan.putStep (i := 2) (q := .agg zc38) rfl rfl rfl (gs_plain rfl (g_build (parts := []) (pps := []) (qs := zc38) rfl rfl rfl bld38 rfl rfl (by kernel_rfl)))
              · exact Plan.putStep (i := 3) (q := .sc (.int .i64 2)) rfl rfl rfl (gs_plain rfl (g_assign (p := .sc (.int .i64 2)) rfl rfl rfl rfl))
              · exact pl_store (i := 4) (s := 11) (off := 0) (ps := zc29) (qs := (api_Open.cells a4.fOpen)) (p := .agg (api_Open.cells a4.fOpen)) rfl rfl rfl ty29 rfl (gt (p := .agg (api_Open.cells a4.fOpen)) (q := .any) (hd 1 (by decide))) (by exact planL_old (ps := zc29) (j := 4) rfl rfl rfl hi) rfl rfl rfl rfl rfl hi rfl rfl rfl
              · exact Plan.putStep (i := 5) (q := .sc (.int .i64 1)) rfl rfl rfl (gs_plain rfl (g_assign (p := .sc (.int .i64 1)) rfl rfl rfl rfl))
              · exact pl_store (i := 6) (s := 13) (off := 0) (ps := zc38) (qs := zc38) (p := .agg zc38) rfl rfl rfl ty38 rfl (gt (p := .agg zc38) (q := .any) (hd 2 (by decide))) (by exact planL_old (ps := zc38) (j := 6) rfl rfl rfl hi) rfl rfl rfl rfl rfl hi rfl rfl rfl
            obtain rfl : bD = fun _ => true := funext hb
            refine aw_ret ?_
            exact endG_mk (F := (fun (z : Int × api_Open × Int × api_Note) => ⟨[], [], .tup [.sc (.int .i64 z.1), .agg (api_Open.cells z.2.1), .sc (.int .i64 z.2.2.1), .agg (api_Note.cells z.2.2.2)]⟩)) (z := (ref11_Take a0 a1 a2 a3 a4)) (v := (2, a4.fOpen, 1, (⟨0, 0, []⟩ : api_Note))) (bF k1 (bF k2 (bT k3 (bT k4 (bF k5 rfl))))) rfl (.four (.tmp 10 (.sc (.int .i64 2)) rfl) (.one (.rfl _)) rfl (.cell 11 29 11 12 true (api_Open.cells a4.fOpen) (.agg (api_Open.cells a4.fOpen)) rfl rfl ty29 rfl rfl rfl) (.one (.rfl _)) rfl (.tmp 12 (.sc (.int .i64 1)) rfl) (.one (.rfl _)) rfl (.cell 13 38 13 3 true zc38 (.agg zc38) rfl rfl ty38 rfl rfl rfl) (.agg (.cons (.rfl _) (.cons (.rfl _) (.cons (.nil _) .nil)))) rfl) trivial trivial
        · skip
          refine aw_skip ?_
          refine aw_seq ?_
          refine aw_plan { ds := [some 62, some 63, some 64, some 10, none, some 12, none], p := fun i => [.agg (api_Open.cells a3), .sc (.int .i64 a2), .agg [.sc (.int .i64 5), .sc (.int .i64 a2), .sc (.slice none 0 0)], .sc (.int .i64 0), .any, .sc (.int .i64 4), .any].getD i .any, al := [], st := [(4, 11, 0, (api_Open.cells a3)), (6, 13, 0, [.sc (.int .i64 5), .sc (.int .i64 a2), .sc (.slice none 0 0)])] } rfl rfl rfl rfl ?_ (fun bD hb => ?_)
          · refine ⟨fun bD hc hi hd => ?_, fun bD hc hi hd => ?_, fun bD hc hi hd => ?_, fun bD hc hi hd => ?_, fun bD hc hi hd => ?_, fun bD hc hi hd => ?_, fun bD hc hi hd => ?_, trivial⟩
            · exact Plan.putStep (i := 0) (q := .agg (api_Open.cells a3)) rfl rfl rfl (gs_plain rfl (g_load (s := 8) (off := 0) (ps := (api_Open.cells a3)) (p := .agg (api_Open.cells a3)) rfl rfl rfl ty29 rfl rfl rfl rfl rfl))
            · exact Plan.putStep (i := 1) (q := .sc (.int .i64 a2)) rfl rfl rfl (gs_plain rfl (g_move (p := .sc (.int .i64 a2)) rfl rfl rfl rfl))
            · exact Plan.putStep (i := 2) (q := .agg [.sc (.int .i64 5), .sc (.int .i64 a2), .sc (.slice none 0 0)]) rfl rfl rfl (gs_plain rfl (g_build (parts := [(0, .const (.int .i64 5)), (1, .tmp 63)]) (pps := [(0, .sc (.int .i64 5)), (1, .sc (.int .i64 a2))]) (qs := [.sc (.int .i64 5), .sc (.int .i64 a2), .sc (.slice none 0 0)]) rfl rfl rfl bld38 rfl (congr2 (b0 := .sc (.int .i64 5)) (b1 := .sc (.int .i64 a2)) rfl (gt (p := .sc (.int .i64 a2)) (q := .any) (hd 1 (by decide)))) (by kernel_rfl)))
            · exact Plan.putStep (i := 3) (q := .sc (.int .i64 0)) rfl rfl rfl (gs_plain rfl (g_assign (p := .sc (.int .i64 0)) rfl rfl rfl rfl))
            · exact pl_store (i := 4) (s := 11) (off := 0) (ps := zc29) (qs := (api_Open.cells a3)) (p := .agg (api_Open.cells a3)) rfl rfl rfl ty29 rfl (gt (p := .agg (api_Open.cells a3)) (q := .any) (hd 0 (by decide))) (by exact planL_old (ps := zc29) (j := 4) rfl rfl rfl hi) rfl rfl rfl rfl rfl hi rfl rfl rfl
            · exact Plan.putStep (i := 5) (q := .sc (.int .i64 4)) rfl rfl rfl (gs_plain rfl (g_assign (p := .sc (.int .i64 4)) rfl rfl rfl rfl))
            · exact pl_store (i := 6) (s := 13) (off := 0) (ps := zc38) (qs := [.sc (.int .i64 5), .sc (.int .i64 a2), .sc (.slice none 0 0)]) (p := .agg [.sc (.int .i64 5), .sc (.int .i64 a2), .sc (.slice none 0 0)]) rfl rfl rfl ty38 rfl (gt (p := .agg [.sc (.int .i64 5), .sc (.int .i64 a2), .sc (.slice none 0 0)]) (q := .any) (hd 2 (by decide))) (by exact planL_old (ps := zc38) (j := 6) rfl rfl rfl hi) rfl rfl rfl rfl rfl hi rfl rfl rfl
          obtain rfl : bD = fun _ => true := funext hb
          refine aw_ret ?_
          exact endG_mk (F := (fun (z : Int × api_Open × Int × api_Note) => ⟨[], [], .tup [.sc (.int .i64 z.1), .agg (api_Open.cells z.2.1), .sc (.int .i64 z.2.2.1), .agg (api_Note.cells z.2.2.2)]⟩)) (z := (ref11_Take a0 a1 a2 a3 a4)) (v := (0, a3, 4, (⟨5, a2, []⟩ : api_Note))) (bF k1 (bF k2 (bT k3 (bF k4 rfl)))) rfl (.four (.tmp 10 (.sc (.int .i64 0)) rfl) (.one (.rfl _)) rfl (.cell 11 29 11 12 true (api_Open.cells a3) (.agg (api_Open.cells a3)) rfl rfl ty29 rfl rfl rfl) (.one (.rfl _)) rfl (.tmp 12 (.sc (.int .i64 4)) rfl) (.one (.rfl _)) rfl (.cell 13 38 13 3 true [.sc (.int .i64 5), .sc (.int .i64 a2), .sc (.slice none 0 0)] (.agg [.sc (.int .i64 5), .sc (.int .i64 a2), .sc (.slice none 0 0)]) rfl rfl ty38 rfl rfl rfl) (.agg (.cons (.rfl _) (.cons (.rfl _) (.cons (.nil _) .nil)))) rfl) trivial trivial
      · skip
        refine aw_seq ?_
        refine aw_region ?_
        refine al_op rfl (g_bin (u1 := .int .i64 a2) (u2 := .int .i64 2) (v := .bool (decide ((a2 : Int) = 2))) rfl rfl rfl rfl rfl (fun _ => rfl)) ?_
        refine al_op rfl (g_assign (p := .sc (.bool (decide ((a2 : Int) = 2)))) rfl rfl rfl rfl) ?_
        refine al_nil ?_
        refine aw_cond (b := decide ((a2 : Int) = 2)) rfl (fun k6 => ?_) (fun k6 => ?_)
        · skip
          refine aw_seq ?_
          refine aw_region ?_
          refine al_op rfl (g_fieldAddr (b := 9) (k := 0) (m := 0) rfl rfl rfl fld60_0 rfl rfl) ?_
          refine al_op rfl (g_load (s := 9) (off := 0) (ps := (api_Msg.cells a4)) (p := .sc (.int .i64 a4.fKind)) rfl rfl rfl ty3 rfl rfl rfl rfl rfl) ?_
          refine al_op rfl (g_bin (u1 := .int .i64 a4.fKind) (u2 := .int .i64 4) (v := .bool (decide ((a4.fKind : Int) = 4))) rfl rfl rfl rfl rfl (fun _ => rfl)) ?_
          refine al_nil ?_
          refine aw_cond (b := decide ((a4.fKind : Int) = 4)) rfl (fun k7 => ?_) (fun k7 => ?_)
          · skip
            refine aw_seq ?_
            refine aw_plan { ds := [some 48, some 49, some 10, none, some 12, none], p := fun i => [.agg (api_Open.cells a3), .agg zc38, .sc (.int .i64 3), .any, .sc (.int .i64 2), .any].getD i .any, al := [], st := [(3, 11, 0, (api_Open.cells a3)), (5, 13, 0, zc38)] } rfl rfl rfl rfl ?_ (fun bD hb => ?_)
            · refine ⟨fun bD hc hi hd => ?_, fun bD hc hi hd => ?_, fun bD hc hi hd => ?_, fun bD hc hi hd => ?_, fun bD hc hi hd => ?_, fun bD hc hi hd => ?_, trivial⟩
              · exact Plan.putStep (i := 0) (q := .agg (api_Open.cells a3)) rfl rfl rfl (gs_plain rfl (g_load (s := 8) (off := 0) (ps := (api_Open.cells a3)) (p := .agg (api_Open.cells a3)) rfl rfl rfl ty29 rfl rfl rfl rfl rfl))
              · exact Plan.putStep (i := 1) (q := .agg zc38) rfl rfl rfl (gs_plain rfl (g_build (parts := []) (pps := []) (qs := zc38) rfl rfl rfl bld38 rfl rfl (by kernel_rfl)))
              · exact Plan.putStep (i := 2) (q := .sc (.int .i64 3)) rfl rfl rfl (gs_plain rfl (g_assign (p := .sc (.int .i64 3)) rfl rfl rfl rfl))
              · exact pl_store (i := 3) (s := 11) (off := 0) (ps := zc29) (qs := (api_Open.cells a3)) (p := .agg (api_Open.cells a3)) rfl rfl rfl ty29 rfl (gt (p := .agg (api_Open.cells a3)) (q := .any) (hd 0 (by decide))) (by exact planL_old (ps := zc29) (j := 3) rfl rfl rfl hi) rfl rfl rfl rfl rfl hi rfl rfl rfl
              · exact Plan.putStep (i := 4) (q := .sc (.int .i64 2)) rfl rfl rfl (gs_plain rfl (g_assign (p := .sc (.int .i64 2)) rfl rfl rfl rfl))
              · exact pl_store (i := 5) (s := 13) (off := 0) (ps := zc38) (qs := zc38) (p := .agg zc38) rfl rfl rfl ty38 rfl (gt (p := .agg zc38) (q := .any) (hd 1 (by decide))) (by exact planL_old (ps := zc38) (j := 5) rfl rfl rfl hi) rfl rfl rfl rfl rfl hi rfl rfl rfl
            obtain rfl : bD = fun _ => true := funext hb
            refine aw_ret ?_
            exact endG_mk (F := (fun (z : Int × api_Open × Int × api_Note) => ⟨[], [], .tup [.sc (.int .i64 z.1), .agg (api_Open.cells z.2.1), .sc (.int .i64 z.2.2.1), .agg (api_Note.cells z.2.2.2)]⟩)) (z := (ref11_Take a0 a1 a2 a3 a4)) (v := (3, a3, 2, (⟨0, 0, []⟩ : api_Note))) (bF k1 (bF k2 (bF k3 (bT k6 (bT k7 rfl))))) rfl (.four (.tmp 10 (.sc (.int .i64 3)) rfl) (.one (.rfl _)) rfl (.cell 11 29 11 12 true (api_Open.cells a3) (.agg (api_Open.cells a3)) rfl rfl ty29 rfl rfl rfl) (.one (.rfl _)) rfl (.tmp 12 (.sc (.int .i64 2)) rfl) (.one (.rfl _)) rfl (.cell 13 38 13 3 true zc38 (.agg zc38) rfl rfl ty38 rfl rfl rfl) (.agg (.cons (.rfl _) (.cons (.rfl _) (.cons (.nil _) .nil)))) rfl) trivial trivial
          · skip
            refine aw_skip ?_
            refine aw_seq ?_
            refine aw_plan { ds := [some 62, some 63, some 64, some 10, none, some 12, none], p := fun i => [.agg (api_Open.cells a3), .sc (.int .i64 a2), .agg [.sc (.int .i64 5), .sc (.int .i64 a2), .sc (.slice none 0 0)], .sc (.int .i64 0), .any, .sc (.int .i64 4), .any].getD i .any, al := [], st := [(4, 11, 0, (api_Open.cells a3)), (6, 13, 0, [.sc (.int .i64 5), .sc (.int .i64 a2), .sc (.slice none 0 0)])] } rfl rfl rfl rfl ?_ (fun bD hb => ?_)
            · refine ⟨fun bD hc hi hd => ?_, fun bD hc hi hd => ?_, fun bD hc hi hd => ?_, fun bD hc hi hd => ?_, fun bD hc hi hd => ?_, fun bD hc hi hd => ?_, fun bD hc hi hd => ?_, trivial⟩
              · exact Plan.putStep (i := 0) (q := .agg (api_Open.cells a3)) rfl rfl rfl (gs_plain rfl (g_load (s := 8) (off := 0) (ps := (api_Open.cells a3)) (p := .agg (api_Open.cells a3)) rfl rfl rfl ty29 rfl rfl rfl rfl rfl))
              · exact Plan.putStep (i := 1) (q := .sc (.int .i64 a2)) rfl rfl rfl (gs_plain rfl (g_move (p := .sc (.int .i64 a2)) rfl rfl rfl rfl))
              · exact Plan.putStep (i := 2) (q := .agg [.sc (.int .i64 5), .sc (.int .i64 a2), .sc (.slice none 0 0)]) rfl rfl rfl (gs_plain rfl (g_build (parts := [(0, .const (.int .i64 5)), (1, .tmp 63)]) (pps := [(0, .sc (.int .i64 5)), (1, .sc (.int .i64 a2))]) (qs := [.sc (.int .i64 5), .sc (.int .i64 a2), .sc (.slice none 0 0)]) rfl rfl rfl bld38 rfl (congr2 (b0 := .sc (.int .i64 5)) (b1 := .sc (.int .i64 a2)) rfl (gt (p := .sc (.int .i64 a2)) (q := .any) (hd 1 (by decide)))) (by kernel_rfl)))
              · exact Plan.putStep (i := 3) (q := .sc (.int .i64 0)) rfl rfl rfl (gs_plain rfl (g_assign (p := .sc (.int .i64 0)) rfl rfl rfl rfl))
              · exact pl_store (i := 4) (s := 11) (off := 0) (ps := zc29) (qs := (api_Open.cells a3)) (p := .agg (api_Open.cells a3)) rfl rfl rfl ty29 rfl (gt (p := .agg (api_Open.cells a3)) (q := .any) (hd 0 (by decide))) (by exact planL_old (ps := zc29) (j := 4) rfl rfl rfl hi) rfl rfl rfl rfl rfl hi rfl rfl rfl
              · exact Plan.putStep (i := 5) (q := .sc (.int .i64 4)) rfl rfl rfl (gs_plain rfl (g_assign (p := .sc (.int .i64 4)) rfl rfl rfl rfl))
              · exact pl_store (i := 6) (s := 13) (off := 0) (ps := zc38) (qs := [.sc (.int .i64 5), .sc (.int .i64 a2), .sc (.slice none 0 0)]) (p := .agg [.sc (.int .i64 5), .sc (.int .i64 a2), .sc (.slice none 0 0)]) rfl rfl rfl ty38 rfl (gt (p := .agg [.sc (.int .i64 5), .sc (.int .i64 a2), .sc (.slice none 0 0)]) (q := .any) (hd 2 (by decide))) (by exact planL_old (ps := zc38) (j := 6) rfl rfl rfl hi) rfl rfl rfl rfl rfl hi rfl rfl rfl
            obtain rfl : bD = fun _ => true := funext hb
            refine aw_ret ?_
            exact endG_mk (F := (fun (z : Int × api_Open × Int × api_Note) => ⟨[], [], .tup [.sc (.int .i64 z.1), .agg (api_Open.cells z.2.1), .sc (.int .i64 z.2.2.1), .agg (api_Note.cells z.2.2.2)]⟩)) (z := (ref11_Take a0 a1 a2 a3 a4)) (v := (0, a3, 4, (⟨5, a2, []⟩ : api_Note))) (bF k1 (bF k2 (bF k3 (bT k6 (bF k7 rfl))))) rfl (.four (.tmp 10 (.sc (.int .i64 0)) rfl) (.one (.rfl _)) rfl (.cell 11 29 11 12 true (api_Open.cells a3) (.agg (api_Open.cells a3)) rfl rfl ty29 rfl rfl rfl) (.one (.rfl _)) rfl (.tmp 12 (.sc (.int .i64 4)) rfl) (.one (.rfl _)) rfl (.cell 13 38 13 3 true [.sc (.int .i64 5), .sc (.int .i64 a2), .sc (.slice none 0 0)] (.agg [.sc (.int .i64 5), .sc (.int .i64 a2), .sc (.slice none 0 0)]) rfl rfl ty38 rfl rfl rfl) (.agg (.cons (.rfl _) (.cons (.rfl _) (.cons (.nil _) .nil)))) rfl) trivial trivial
        · skip
          refine aw_seq ?_
          refine aw_region ?_
          refine al_op rfl (g_bin (u1 := .int .i64 a2) (u2 := .int .i64 3) (v := .bool (decide ((a2 : Int) = 3))) rfl rfl rfl rfl rfl (fun _ => rfl)) ?_
          refine al_op rfl (g_assign (p := .sc (.bool (decide ((a2 : Int) = 3)))) rfl rfl rfl rfl) ?_
          refine al_nil ?_
          refine aw_cond (b := decide ((a2 : Int) = 3)) rfl (fun k8 => ?_) (fun k8 => ?_)
          · skip
            refine aw_seq ?_
            refine aw_seq ?_
            refine aw_region ?_
            refine al_op rfl (g_fieldAddr (b := 9) (k := 0) (m := 0) rfl rfl rfl fld60_0 rfl rfl) ?_
            refine al_op rfl (g_load (s := 9) (off := 0) (ps := (api_Msg.cells a4)) (p := .sc (.int .i64 a4.fKind)) rfl rfl rfl ty3 rfl rfl rfl rfl rfl) ?_
            refine al_op rfl (g_bin (u1 := .int .i64 a4.fKind) (u2 := .int .i64 4) (v := .bool (decide ((a4.fKind : Int) = 4))) rfl rfl rfl rfl rfl (fun _ => rfl)) ?_
            refine al_nil ?_
            refine aw_cond (b := decide ((a4.fKind : Int) = 4)) rfl (fun k9 => ?_) (fun k9 => ?_)
            · skip
              refine aw_seq ?_
              refine aw_plan { ds := [some 55, some 56, some 10, none, some 12, none], p := fun i => [.agg (api_Open.cells a3), .agg zc38, .sc (.int .i64 3), .any, .sc (.int .i64 0), .any].getD i .any, al := [], st := [(3, 11, 0, (api_Open.cells a3)), (5, 13, 0, zc38)] } rfl rfl rfl rfl ?_ (fun bD hb => ?_)
              · refine ⟨fun bD hc hi hd => ?_, fun bD hc hi hd => ?_, fun bD hc hi hd => ?_, fun bD hc hi hd => ?_, fun bD hc hi hd => ?_, fun bD hc hi hd => ?_, trivial⟩
                · exact Plan.putStep (i := 0) (q := .agg (api_Open.cells a3)) rfl rfl rfl (gs_plain rfl (g_load (s := 8) (off := 0) (ps := (api_Open.cells a3)) (p := .agg (api_Open.cells a3)) rfl rfl rfl ty29 rfl rfl rfl rfl rfl))
                · exact Plan.putStep (i := 1) (q := .agg zc38) rfl rfl rfl (gs_plain rfl (g_build (parts := []) (pps := []) (qs := zc38) rfl rfl rfl bld38 rfl rfl (by kernel_rfl)))
                · exact Plan.putStep (i := 2) (q := .sc (.int .i64 3)) rfl rfl rfl (gs_plain rfl (g_assign (p := .sc (.int .i64 3)) rfl rfl rfl rfl))
                · exact pl_store (i := 3) (s := 11) (off := 0) (ps := zc29) (qs := (api_Open.cells a3)) (p := .agg (api_Open.cells a3)) rfl rfl rfl ty29 rfl (gt (p := .agg (api_Open.cells a3)) (q := .any) (hd 0 (by decide))) (by exact planL_old (ps := zc29) (j := 3) rfl rfl rfl hi) rfl rfl rfl rfl rfl hi rfl rfl rfl
                · exact Plan.putStep (i := 4) (q := .sc (.int .i64 0)) rfl rfl rfl (gs_plain rfl (g_assign (p := .sc (.int .i64 0)) rfl rfl rfl rfl))
                · exact pl_store (i := 5) (s := 13) (off := 0) (ps := zc38) (qs := zc38) (p := .agg zc38) rfl rfl rfl ty38 rfl (gt (p := .agg zc38) (q := .any) (hd 1 (by decide))) (by exact planL_old (ps := zc38) (j := 5) rfl rfl rfl hi) rfl rfl rfl rfl rfl hi rfl rfl rfl
              obtain rfl : bD = fun _ => true := funext hb
              refine aw_ret ?_
              exact endG_mk (F := (fun (z : Int × api_Open × Int × api_Note) => ⟨[], [], .tup [.sc (.int .i64 z.1), .agg (api_Open.cells z.2.1), .sc (.int .i64 z.2.2.1), .agg (api_Note.cells z.2.2.2)]⟩)) (z := (ref11_Take a0 a1 a2 a3 a4)) (v := (3, a3, 0, (⟨0, 0, []⟩ : api_Note))) (bF k1 (bF k2 (bF k3 (bF k6 (bT k8 (bT k9 rfl)))))) rfl (.four (.tmp 10 (.sc (.int .i64 3)) rfl) (.one (.rfl _)) rfl (.cell 11 29 11 12 true (api_Open.cells a3) (.agg (api_Open.cells a3)) rfl rfl ty29 rfl rfl rfl) (.one (.rfl _)) rfl (.tmp 12 (.sc (.int .i64 0)) rfl) (.one (.rfl _)) rfl (.cell 13 38 13 3 true zc38 (.agg zc38) rfl rfl ty38 rfl rfl rfl) (.agg (.cons (.rfl _) (.cons (.rfl _) (.cons (.nil _) .nil)))) rfl) trivial trivial
            · skip
              refine aw_skip ?_
              refine aw_seq ?_
              refine aw_region ?_
              refine al_op rfl (g_fieldAddr (b := 9) (k := 0) (m := 0) rfl rfl rfl fld60_0 rfl rfl) ?_
              refine al_op rfl (g_load (s := 9) (off := 0) (ps := (api_Msg.cells a4)) (p := .sc (.int .i64 a4.fKind)) rfl rfl rfl ty3 rfl rfl rfl rfl rfl) ?_
              refine al_op rfl (g_bin (u1 := .int .i64 a4.fKind) (u2 := .int .i64 2) (v := .bool (decide ((a4.fKind : Int) = 2))) rfl rfl rfl rfl rfl (fun _ => rfl)) ?_
              refine al_nil ?_
              refine aw_cond (b := decide ((a4.fKind : Int) = 2)) rfl (fun k10 => ?_) (fun k10 => ?_)
              · skip
                refine aw_seq ?_
                refine aw_plan { ds := [some 60, some 61, some 10, none, some 12, none], p := fun i => [.agg (api_Open.cells a3), .agg zc38, .sc (.int .i64 3), .any, .sc (.int .i64 3), .any].getD i .any, al := [], st := [(3, 11, 0, (api_Open.cells a3)), (5, 13, 0, zc38)] } rfl rfl rfl rfl ?_ (fun bD hb => ?_)
                · refine ⟨fun bD hc hi hd => ?_, fun bD hc hi hd => ?_, fun bD hc hi hd => ?_, fun bD hc hi hd => ?_, fun bD hc hi hd => ?_, fun bD hc hi hd => ?_, trivial⟩
                  · exact Plan.putStep (i := 0) (q := .agg (api_Open.cells a3)) rfl rfl rfl (gs_plain rfl (g_load (s := 8) (off := 0) (ps := (api_Open.cells a3)) (p := .agg (api_Open.cells a3)) rfl rfl rfl ty29 rfl rfl rfl rfl rfl))
                  · exact Plan.putStep (i := 1) (q := .agg zc38) rfl rfl rfl (gs_plain rfl (g_build (parts := []) (pps := []) (qs := zc38) rfl rfl rfl bld38 rfl rfl (by kernel_rfl)))
                  · exact Plan.putStep (i := 2) (q := .sc (.int .i64 3)) rfl rfl rfl (gs_plain rfl (g_assign (p := .sc (.int .i64 3)) rfl rfl rfl rfl))
                  · exact pl_store (i := 3) (s := 11) (off := 0) (ps := zc29) (qs := (api_Open.cells a3)) (p := .agg (api_Open.cells a3)) rfl rfl rfl ty29 rfl (gt (p := .agg (api_Open.cells a3)) (q := .any) (hd 0 (by decide))) (by exact planL_old (ps := zc29) (j := 3) rfl rfl rfl hi) rfl rfl rfl rfl rfl hi rfl rfl rfl
                  · exact Plan.putStep (i := 4) (q := .sc (.int .i64 3)) rfl rfl rfl (gs_plain rfl (g_assign (p := .sc (.int .i64 3)) rfl rfl rfl rfl))
                  · exact pl_store (i := 5) (s := 13) (off := 0) (ps := zc38) (qs := zc38) (p := .agg zc38) rfl rfl rfl ty38 rfl (gt (p := .agg zc38) (q := .any) (hd 1 (by decide))) (by exact planL_old (ps := zc38) (j := 5) rfl rfl rfl hi) rfl rfl rfl rfl rfl hi rfl rfl rfl
                obtain rfl : bD = fun _ => true := funext hb
                refine aw_ret ?_
                exact endG_mk (F := (fun (z : Int × api_Open × Int × api_Note) => ⟨[], [], .tup [.sc (.int .i64 z.1), .agg (api_Open.cells z.2.1), .sc (.int .i64 z.2.2.1), .agg (api_Note.cells z.2.2.2)]⟩)) (z := (ref11_Take a0 a1 a2 a3 a4)) (v := (3, a3, 3, (⟨0, 0, []⟩ : api_Note))) (bF k1 (bF k2 (bF k3 (bF k6 (bT k8 (bF k9 (bT k10 rfl))))))) rfl (.four (.tmp 10 (.sc (.int .i64 3)) rfl) (.one (.rfl _)) rfl (.cell 11 29 11 12 true (api_Open.cells a3) (.agg (api_Open.cells a3)) rfl rfl ty29 rfl rfl rfl) (.one (.rfl _)) rfl (.tmp 12 (.sc (.int .i64 3)) rfl) (.one (.rfl _)) rfl (.cell 13 38 13 3 true zc38 (.agg zc38) rfl rfl ty38 rfl rfl rfl) (.agg (.cons (.rfl _) (.cons (.rfl _) (.cons (.nil _) .nil)))) rfl) trivial trivial
              · skip
                refine aw_skip ?_
                refine aw_seq ?_
                refine aw_plan { ds := [some 62, some 63, some 64, some 10, none, some 12, none], p := fun i => [.agg (api_Open.cells a3), .sc (.int .i64 a2), .agg [.sc (.int .i64 5), .sc (.int .i64 a2), .sc (.slice none 0 0)], .sc (.int .i64 0), .any, .sc (.int .i64 4), .any].getD i .any, al := [], st := [(4, 11, 0, (api_Open.cells a3)), (6, 13, 0, [.sc (.int .i64 5), .sc (.int .i64 a2), .sc (.slice none 0 0)])] } rfl rfl rfl rfl ?_ (fun bD hb => ?_)
                · refine ⟨fun bD hc hi hd => ?_, fun bD hc hi hd => ?_, fun bD hc hi hd => ?_, fun bD hc hi hd => ?_, fun bD hc hi hd => ?_, fun bD hc hi hd => ?_, fun bD hc hi hd => ?_, trivial⟩
                  · exact Plan.putStep (i := 0) (q := .agg (api_Open.cells a3)) rfl rfl rfl (gs_plain rfl (g_load (s := 8) (off := 0) (ps := (api_Open.cells a3)) (p := .agg (api_Open.cells a3)) rfl rfl rfl ty29 rfl rfl rfl rfl rfl))
                  · exact Plan.putStep (i := 1) (q := .sc (.int .i64 a2)) rfl rfl rfl (gs_plain rfl (g_move (p := .sc (.int .i64 a2)) rfl rfl rfl rfl))
                  · exact Plan.putStep (i := 2) (q := .agg [.sc (.int .i64 5), .sc (.int .i64 a2), .sc (.slice none 0 0)]) rfl rfl rfl (gs_plain rfl (g_build (parts := [(0, .const (.int .i64 5)), (1, .tmp 63)]) (pps := [(0, .sc (.int .i64 5)), (1, .sc (.int .i64 a2))]) (qs := [.sc (.int .i64 5), .sc (.int .i64 a2), .sc (.slice none 0 0)]) rfl rfl rfl bld38 rfl (congr2 (b0 := .sc (.int .i64 5)) (b1 := .sc (.int .i64 a2)) rfl (gt (p := .sc (.int .i64 a2)) (q := .any) (hd 1 (by decide)))) (by kernel_rfl)))
                  · exact Plan.putStep (i := 3) (q := .sc (.int .i64 0)) rfl rfl rfl (gs_plain rfl (g_assign (p := .sc (.int .i64 0)) rfl rfl rfl rfl))
                  · exact pl_store (i := 4) (s := 11) (off := 0) (ps := zc29) (qs := (api_Open.cells a3)) (p := .agg (api_Open.cells a3)) rfl rfl rfl ty29 rfl (gt (p := .agg (api_Open.cells a3)) (q := .any) (hd 0 (by decide))) (by exact planL_old (ps := zc29) (j := 4) rfl rfl rfl hi) rfl rfl rfl rfl rfl hi rfl rfl rfl
                  · exact Plan.putStep (i := 5) (q := .sc (.int .i64 4)) rfl rfl rfl (gs_plain rfl (g_assign (p := .sc (.int .i64 4)) rfl rfl rfl rfl))
                  · exact pl_store (i := 6) (s := 13) (off := 0) (ps := zc38) (qs := [.sc (.int .i64 5), .sc (.int .i64 a2), .sc (.slice none 0 0)]) (p := .agg [.sc (.int .i64 5), .sc (.int .i64 a2), .sc (.slice none 0 0)]) rfl rfl rfl ty38 rfl (gt (p := .agg [.sc (.int .i64 5), .sc (.int .i64 a2), .sc (.slice none 0 0)]) (q := .any) (hd 2 (by decide))) (by exact planL_old (ps := zc38) (j := 6) rfl rfl rfl hi) rfl rfl rfl rfl rfl hi rfl rfl rfl
                obtain rfl : bD = fun _ => true := funext hb
                refine aw_ret ?_
                exact endG_mk (F := (fun (z : Int × api_Open × Int × api_Note) => ⟨[], [], .tup [.sc (.int .i64 z.1), .agg (api_Open.cells z.2.1), .sc (.int .i64 z.2.2.1), .agg (api_Note.cells z.2.2.2)]⟩)) (z := (ref11_Take a0 a1 a2 a3 a4)) (v := (0, a3, 4, (⟨5, a2, []⟩ : api_Note))) (bF k1 (bF k2 (bF k3 (bF k6 (bT k8 (bF k9 (bF k10 rfl))))))) rfl (.four (.tmp 10 (.sc (.int .i64 0)) rfl) (.one (.rfl _)) rfl (.cell 11 29 11 12 true (api_Open.cells a3) (.agg (api_Open.cells a3)) rfl rfl ty29 rfl rfl rfl) (.one (.rfl _)) rfl (.tmp 12 (.sc (.int .i64 4)) rfl) (.one (.rfl _)) rfl (.cell 13 38 13 3 true [.sc (.int .i64 5), .sc (.int .i64 a2), .sc (.slice none 0 0)] (.agg [.sc (.int .i64 5), .sc (.int .i64 a2), .sc (.slice none 0 0)]) rfl rfl ty38 rfl rfl rfl) (.agg (.cons (.rfl _) (.cons (.rfl _) (.cons (.nil _) .nil)))) rfl) trivial trivial
          · skip
            refine aw_skip ?_
            refine aw_seq ?_
            refine aw_plan { ds := [some 62, some 63, some 64, some 10, none, some 12, none], p := fun i => [.agg (api_Open.cells a3), .sc (.int .i64 a2), .agg [.sc (.int .i64 5), .sc (.int .i64 a2), .sc (.slice none 0 0)], .sc (.int .i64 0), .any, .sc (.int .i64 4), .any].getD i .any, al := [], st := [(4, 11, 0, (api_Open.cells a3)), (6, 13, 0, [.sc (.int .i64 5), .sc (.int .i64 a2), .sc (.slice none 0 0)])] } rfl rfl rfl rfl ?_ (fun bD hb => ?_)
            · refine ⟨fun bD hc hi hd => ?_, fun bD hc hi hd => ?_, fun bD hc hi hd => ?_, fun bD hc hi hd => ?_, fun bD hc hi hd => ?_, fun bD hc hi hd => ?_, fun bD hc hi hd => ?_, trivial⟩
              · exact Plan.putStep (i := 0) (q := .agg (api_Open.cells a3)) rfl rfl rfl (gs_plain rfl (g_load (s := 8) (off := 0) (ps := (api_Open.cells a3)) (p := .agg (api_Open.cells a3)) rfl rfl rfl ty29 rfl rfl rfl rfl rfl))
              · exact Plan.putStep (i := 1) (q := .sc (.int .i64 a2)) rfl rfl rfl (gs_plain rfl (g_move (p := .sc (.int .i64 a2)) rfl rfl rfl rfl))
              · exact Plan.putStep (i := 2) (q := .agg [.sc (.int .i64 5), .sc (.int .i64 a2), .sc (.slice none 0 0)]) rfl rfl rfl (gs_plain rfl (g_build (parts := [(0, .const (.int .i64 5)), (1, .tmp 63)]) (pps := [(0, .sc (.int .i64 5)), (1, .sc (.int .i64 a2))]) (qs := [.sc (.int .i64 5), .sc (.int .i64 a2), .sc (.slice none 0 0)]) rfl rfl rfl bld38 rfl (congr2 (b0 := .sc (.int .i64 5)) (b1 := .sc (.int .i64 a2)) rfl (gt (p := .sc (.int .i64 a2)) (q := .any) (hd 1 (by decide)))) (by kernel_rfl)))
              · exact Plan.putStep (i := 3) (q := .sc (.int .i64 0)) rfl rfl rfl (gs_plain rfl (g_assign (p := .sc (.int .i64 0)) rfl rfl rfl rfl))
              · exact pl_store (i := 4) (s := 11) (off := 0) (ps := zc29) (qs := (api_Open.cells a3)) (p := .agg (api_Open.cells a3)) rfl rfl rfl ty29 rfl (gt (p := .agg (api_Open.cells a3)) (q := .any) (hd 0 (by decide))) (by exact planL_old (ps := zc29) (j := 4) rfl rfl rfl hi) rfl rfl rfl rfl rfl hi rfl rfl rfl
              · exact Plan.putStep (i := 5) (q := .sc (.int .i64 4)) rfl rfl rfl (gs_plain rfl (g_assign (p := .sc (.int .i64 4)) rfl rfl rfl rfl))
              · exact pl_store (i := 6) (s := 13) (off := 0) (ps := zc38) (qs := [.sc (.int .i64 5), .sc (.int .i64 a2), .sc (.slice none 0 0)]) (p := .agg [.sc (.int .i64 5), .sc (.int .i64 a2), .sc (.slice none 0 0)]) rfl rfl rfl ty38 rfl (gt (p := .agg [.sc (.int .i64 5), .sc (.int .i64 a2), .sc (.slice none 0 0)]) (q := .any) (hd 2 (by decide))) (by exact planL_old (ps := zc38) (j := 6) rfl rfl rfl hi) rfl rfl rfl rfl rfl hi rfl rfl rfl
            obtain rfl : bD = fun _ => true := funext hb
            refine aw_ret ?_
            exact endG_mk (F := (fun (z : Int × api_Open × Int × api_Note) => ⟨[], [], .tup [.sc (.int .i64 z.1), .agg (api_Open.cells z.2.1), .sc (.int .i64 z.2.2.1), .agg (api_Note.cells z.2.2.2)]⟩)) (z := (ref11_Take a0 a1 a2 a3 a4)) (v := (0, a3, 4, (⟨5, a2, []⟩ : api_Note))) (bF k1 (bF k2 (bF k3 (bF k6 (bF k8 rfl))))) rfl (.four (.tmp 10 (.sc (.int .i64 0)) rfl) (.one (.rfl _)) rfl (.cell 11 29 11 12 true (api_Open.cells a3) (.agg (api_Open.cells a3)) rfl rfl ty29 rfl rfl rfl) (.one (.rfl _)) rfl (.tmp 12 (.sc (.int .i64 4)) rfl) (.one (.rfl _)) rfl (.cell 13 38 13 3 true [.sc (.int .i64 5), .sc (.int .i64 a2), .sc (.slice none 0 0)] (.agg [.sc (.int .i64 5), .sc (.int .i64 a2), .sc (.slice none 0 0)]) rfl rfl ty38 rfl rfl rfl) (.agg (.cons (.rfl _) (.cons (.rfl _) (.cons (.nil _) .nil)))) rfl) trivial trivial
theorem ref11_Take_pf (a0 : api_Config) (a1 : api_PeerConf) (a2 : Int) (a3 : api_Open) (a4 : api_Msg) : PF Try.prog 25 [.agg (api_Config.cells a0), .agg (api_PeerConf.cells a1), .sc (.int .i64 a2), .agg (api_Open.cells a3), .agg (api_Msg.cells a4)] (.tup [.sc (.int .i64 ((ref11_Take a0 a1 a2 a3 a4).1)), .agg (api_Open.cells ((ref11_Take a0 a1 a2 a3 a4).2.1)), .sc (.int .i64 ((ref11_Take a0 a1 a2 a3 a4).2.2.1)), .agg (api_Note.cells ((ref11_Take a0 a1 a2 a3 a4).2.2.2))]) := pf_ofG (ref11_Take_pf_g a0 a1 a2 a3 a4) rfl

/-- interregnum/interregnumlaw19.answers -/
def law19_answers  : Bool :=
  (((((peer_Conn (⟨0, (⟨0, 0, 0, (⟨false, 0, false, false, 0, false, false, false, 0⟩ : api_Caps)⟩ : api_Open)⟩ : peer_Peer)).2) && (decide ((((peer_Conn (⟨0, (⟨0, 0, 0, (⟨false, 0, false, false, 0, false, false, false, 0⟩ : api_Caps)⟩ : api_Open)⟩ : peer_Peer)).1).fState : Int) = 1))) && (decide (((peer_Take (⟨0, 0, 0, 0, 0, 0, 0, 0⟩ : api_Config) (⟨0, 0, [], []⟩ : api_PeerConf) ((peer_Conn (⟨0, (⟨0, 0, 0, (⟨false, 0, false, false, 0, false, false, false, 0⟩ : api_Caps)⟩ : api_Open)⟩ : peer_Peer)).1) (⟨4, (⟨0, 0, 0, (⟨false, 0, false, false, 0, false, false, false, 0⟩ : api_Caps)⟩ : api_Open), (⟨[], (⟨0, [], 0, 0, 0, [], []⟩ : api_Attrs), []⟩ : api_Update), (⟨0, 0, []⟩ : api_Note)⟩ : api_Msg)).2.1 : Int) = 4))) && (decide ((((peer_Take (⟨0, 0, 0, 0, 0, 0, 0, 0⟩ : api_Config) (⟨0, 0, [], []⟩ : api_PeerConf) ((peer_Conn (⟨0, (⟨0, 0, 0, (⟨false, 0, false, false, 0, false, false, false, 0⟩ : api_Caps)⟩ : api_Open)⟩ : peer_Peer)).1) (⟨4, (⟨0, 0, 0, (⟨false, 0, false, false, 0, false, false, false, 0⟩ : api_Caps)⟩ : api_Open), (⟨[], (⟨0, [], 0, 0, 0, [], []⟩ : api_Attrs), []⟩ : api_Update), (⟨0, 0, []⟩ : api_Note)⟩ : api_Msg)).2.2).fCode : Int) = 5))) && (decide ((((peer_Take (⟨0, 0, 0, 0, 0, 0, 0, 0⟩ : api_Config) (⟨0, 0, [], []⟩ : api_PeerConf) ((peer_Conn (⟨0, (⟨0, 0, 0, (⟨false, 0, false, false, 0, false, false, false, 0⟩ : api_Caps)⟩ : api_Open)⟩ : peer_Peer)).1) (⟨4, (⟨0, 0, 0, (⟨false, 0, false, false, 0, false, false, false, 0⟩ : api_Caps)⟩ : api_Open), (⟨[], (⟨0, [], 0, 0, 0, [], []⟩ : api_Attrs), []⟩ : api_Update), (⟨0, 0, []⟩ : api_Note)⟩ : api_Msg)).2.2).fSub : Int) = 1))
set_option maxRecDepth 100000 in
set_option maxHeartbeats 4000000 in
theorem law19_answers_pf_g  : PG Try.prog 22 [] [] [] (fun _ : Unit => True) (fun _ => (fun (z : Bool) => ⟨[], [], .sc (.bool z)⟩) law19_answers) := by
  refine pg_of (N := 40) (l := [.tmp 0]) Try.func22 rfl rfl rfl (Nat.le_of_ble_eq_true rfl) fun w0 i0 F βs => ?_
  refine aw_seq ?_
  refine aw_region ?_
  refine al_op rfl (g_assign (p := .sc (.bool false)) rfl rfl rfl rfl) ?_
  refine al_nil ?_
  refine aw_seq ?_
  refine aw_region ?_
  refine al_op rfl (g_build (parts := []) (pps := []) (qs := zc46) rfl rfl rfl bld46 rfl rfl (by kernel_rfl)) ?_
  refine al_op rfl (g_call (fn := Try.f23) (xs := [.tmp 7]) (args := [.agg zc46]) (r := .tup [.agg (peer_Peer.cells ((peer_Conn (⟨0, (⟨0, 0, 0, (⟨false, 0, false, false, 0, false, false, false, 0⟩ : api_Caps)⟩ : api_Open)⟩ : peer_Peer)).1)), .sc (.bool ((peer_Conn (⟨0, (⟨0, 0, 0, (⟨false, 0, false, false, 0, false, false, false, 0⟩ : api_Caps)⟩ : api_Open)⟩ : peer_Peer)).2))]) rfl rfl rfl Try.func23 rfl rfl rfl rfl rfl (peer_Conn_pf (⟨0, (⟨0, 0, 0, (⟨false, 0, false, false, 0, false, false, false, 0⟩ : api_Caps)⟩ : api_Open)⟩ : peer_Peer))) ?_
  refine al_op rfl (g_move (p := .tup [.agg (peer_Peer.cells ((peer_Conn (⟨0, (⟨0, 0, 0, (⟨false, 0, false, false, 0, false, false, false, 0⟩ : api_Caps)⟩ : api_Open)⟩ : peer_Peer)).1)), .sc (.bool ((peer_Conn (⟨0, (⟨0, 0, 0, (⟨false, 0, false, false, 0, false, false, false, 0⟩ : api_Caps)⟩ : api_Open)⟩ : peer_Peer)).2))]) rfl rfl rfl rfl) ?_
  refine al_op rfl (g_extract (ps := [.agg (peer_Peer.cells ((peer_Conn (⟨0, (⟨0, 0, 0, (⟨false, 0, false, false, 0, false, false, false, 0⟩ : api_Caps)⟩ : api_Open)⟩ : peer_Peer)).1)), .sc (.bool ((peer_Conn (⟨0, (⟨0, 0, 0, (⟨false, 0, false, false, 0, false, false, false, 0⟩ : api_Caps)⟩ : api_Open)⟩ : peer_Peer)).2))]) (p := .agg (peer_Peer.cells ((peer_Conn (⟨0, (⟨0, 0, 0, (⟨false, 0, false, false, 0, false, false, false, 0⟩ : api_Caps)⟩ : api_Open)⟩ : peer_Peer)).1))) rfl rfl rfl rfl rfl) ?_
  refine al_op rfl (g_extract (ps := [.agg (peer_Peer.cells ((peer_Conn (⟨0, (⟨0, 0, 0, (⟨false, 0, false, false, 0, false, false, false, 0⟩ : api_Caps)⟩ : api_Open)⟩ : peer_Peer)).1)), .sc (.bool ((peer_Conn (⟨0, (⟨0, 0, 0, (⟨false, 0, false, false, 0, false, false, false, 0⟩ : api_Caps)⟩ : api_Open)⟩ : peer_Peer)).2))]) (p := .sc (.bool ((peer_Conn (⟨0, (⟨0, 0, 0, (⟨false, 0, false, false, 0, false, false, false, 0⟩ : api_Caps)⟩ : api_Open)⟩ : peer_Peer)).2))) rfl rfl rfl rfl rfl) ?_
  refine al_op rfl (g_alloc (s := 1) (z := zv46) (qs := zc46) rfl rfl rfl rfl z46 rfl rfl) ?_
  refine al_op rfl (g_store (s := 1) (off := 0) (ps := zc46) (p := .agg (peer_Peer.cells ((peer_Conn (⟨0, (⟨0, 0, 0, (⟨false, 0, false, false, 0, false, false, false, 0⟩ : api_Caps)⟩ : api_Open)⟩ : peer_Peer)).1))) (qs := (peer_Peer.cells ((peer_Conn (⟨0, (⟨0, 0, 0, (⟨false, 0, false, false, 0, false, false, false, 0⟩ : api_Caps)⟩ : api_Open)⟩ : peer_Peer)).1))) rfl rfl ty46 rfl rfl rfl rfl rfl rfl rfl) ?_
  refine al_op rfl (g_assign (p := .sc (.bool ((peer_Conn (⟨0, (⟨0, 0, 0, (⟨false, 0, false, false, 0, false, false, false, 0⟩ : api_Caps)⟩ : api_Open)⟩ : peer_Peer)).2))) rfl rfl rfl rfl) ?_
  refine al_nil ?_
  refine aw_seq ?_
  refine aw_region ?_
  refine al_op rfl (g_build (parts := []) (pps := []) (qs := zc24) rfl rfl rfl bld24 rfl rfl (by kernel_rfl)) ?_
  refine al_op rfl (g_build (parts := []) (pps := []) (qs := [.sc (.int .i64 0), .sc (.int .i64 0), .sc (.slice none 0 0), .sc (.slice none 0 0)]) rfl rfl rfl bld34 rfl rfl (by kernel_rfl)) ?_
  refine al_op rfl (g_load (s := 1) (off := 0) (ps := (peer_Peer.cells ((peer_Conn (⟨0, (⟨0, 0, 0, (⟨false, 0, false, false, 0, false, false, false, 0⟩ : api_Caps)⟩ : api_Open)⟩ : peer_Peer)).1))) (p := .agg (peer_Peer.cells ((peer_Conn (⟨0, (⟨0, 0, 0, (⟨false, 0, false, false, 0, false, false, false, 0⟩ : api_Caps)⟩ : api_Open)⟩ : peer_Peer)).1))) rfl rfl rfl ty46 rfl rfl rfl rfl rfl) ?_
  refine al_op rfl (g_build (parts := [(0, .const (.int .i64 4))]) (pps := [(0, .sc (.int .i64 4))]) (qs := [.sc (.int .i64 4), .sc (.int .i64 0), .sc (.int .i64 0), .sc (.int .u32 0), .sc (.bool false), .sc (.int .i64 0), .sc (.bool false), .sc (.bool false), .sc (.int .i64 0), .sc (.bool false), .sc (.bool false), .sc (.bool false), .sc (.int .i64 0), .sc (.slice none 0 0), .sc (.int .i64 0), .sc (.slice none 0 0), .sc (.int .u32 0), .sc (.int .i64 0), .sc (.int .i64 0), .sc (.slice none 0 0), .sc (.slice none 0 0), .sc (.slice none 0 0), .sc (.int .i64 0), .sc (.int .i64 0), .sc (.slice none 0 0)]) rfl rfl rfl bld60 rfl rfl (by kernel_rfl)) ?_
  refine al_op rfl (g_call (fn := Try.f24) (xs := [.tmp 12, .tmp 13, .tmp 14, .tmp 15]) (args := [.agg zc24, .agg [.sc (.int .i64 0), .sc (.int .i64 0), .sc (.slice none 0 0), .sc (.slice none 0 0)], .agg (peer_Peer.cells ((peer_Conn (⟨0, (⟨0, 0, 0, (⟨false, 0, false, false, 0, false, false, false, 0⟩ : api_Caps)⟩ : api_Open)⟩ : peer_Peer)).1)), .agg [.sc (.int .i64 4), .sc (.int .i64 0), .sc (.int .i64 0), .sc (.int .u32 0), .sc (.bool false), .sc (.int .i64 0), .sc (.bool false), .sc (.bool false), .sc (.int .i64 0), .sc (.bool false), .sc (.bool false), .sc (.bool false), .sc (.int .i64 0), .sc (.slice none 0 0), .sc (.int .i64 0), .sc (.slice none 0 0), .sc (.int .u32 0), .sc (.int .i64 0), .sc (.int .i64 0), .sc (.slice none 0 0), .sc (.slice none 0 0), .sc (.slice none 0 0), .sc (.int .i64 0), .sc (.int .i64 0), .sc (.slice none 0 0)]]) (r := .tup [.agg (peer_Peer.cells ((peer_Take (⟨0, 0, 0, 0, 0, 0, 0, 0⟩ : api_Config) (⟨0, 0, [], []⟩ : api_PeerConf) ((peer_Conn (⟨0, (⟨0, 0, 0, (⟨false, 0, false, false, 0, false, false, false, 0⟩ : api_Caps)⟩ : api_Open)⟩ : peer_Peer)).1) (⟨4, (⟨0, 0, 0, (⟨false, 0, false, false, 0, false, false, false, 0⟩ : api_Caps)⟩ : api_Open), (⟨[], (⟨0, [], 0, 0, 0, [], []⟩ : api_Attrs), []⟩ : api_Update), (⟨0, 0, []⟩ : api_Note)⟩ : api_Msg)).1)), .sc (.int .i64 ((peer_Take (⟨0, 0, 0, 0, 0, 0, 0, 0⟩ : api_Config) (⟨0, 0, [], []⟩ : api_PeerConf) ((peer_Conn (⟨0, (⟨0, 0, 0, (⟨false, 0, false, false, 0, false, false, false, 0⟩ : api_Caps)⟩ : api_Open)⟩ : peer_Peer)).1) (⟨4, (⟨0, 0, 0, (⟨false, 0, false, false, 0, false, false, false, 0⟩ : api_Caps)⟩ : api_Open), (⟨[], (⟨0, [], 0, 0, 0, [], []⟩ : api_Attrs), []⟩ : api_Update), (⟨0, 0, []⟩ : api_Note)⟩ : api_Msg)).2.1)), .agg (api_Note.cells ((peer_Take (⟨0, 0, 0, 0, 0, 0, 0, 0⟩ : api_Config) (⟨0, 0, [], []⟩ : api_PeerConf) ((peer_Conn (⟨0, (⟨0, 0, 0, (⟨false, 0, false, false, 0, false, false, false, 0⟩ : api_Caps)⟩ : api_Open)⟩ : peer_Peer)).1) (⟨4, (⟨0, 0, 0, (⟨false, 0, false, false, 0, false, false, false, 0⟩ : api_Caps)⟩ : api_Open), (⟨[], (⟨0, [], 0, 0, 0, [], []⟩ : api_Attrs), []⟩ : api_Update), (⟨0, 0, []⟩ : api_Note)⟩ : api_Msg)).2.2))]) rfl rfl rfl Try.func24 rfl rfl rfl rfl rfl (pf_weak (peer_Take_pf (⟨0, 0, 0, 0, 0, 0, 0, 0⟩ : api_Config) (⟨0, 0, [], []⟩ : api_PeerConf) ((peer_Conn (⟨0, (⟨0, 0, 0, (⟨false, 0, false, false, 0, false, false, false, 0⟩ : api_Caps)⟩ : api_Open)⟩ : peer_Peer)).1) (⟨4, (⟨0, 0, 0, (⟨false, 0, false, false, 0, false, false, false, 0⟩ : api_Caps)⟩ : api_Open), (⟨[], (⟨0, [], 0, 0, 0, [], []⟩ : api_Attrs), []⟩ : api_Update), (⟨0, 0, []⟩ : api_Note)⟩ : api_Msg)) (.cons (.one (.rfl _)) (.cons (.agg (.cons (.rfl _) (.cons (.rfl _) (.cons (.nil _) (.cons (.nil _) .nil))))) (.cons (.one (.rfl _)) (.cons (.agg (.cons (.rfl _) (.cons (.rfl _) (.cons (.rfl _) (.cons (.rfl _) (.cons (.rfl _) (.cons (.rfl _) (.cons (.rfl _) (.cons (.rfl _) (.cons (.rfl _) (.cons (.rfl _) (.cons (.rfl _) (.cons (.rfl _) (.cons (.rfl _) (.cons (.nil _) (.cons (.rfl _) (.cons (.nil _) (.cons (.rfl _) (.cons (.rfl _) (.cons (.rfl _) (.cons (.nil _) (.cons (.nil _) (.cons (.nil _) (.cons (.rfl _) (.cons (.rfl _) (.cons (.nil _) .nil)))))))))))))))))))))))))) .nil)))))) ?_
  refine al_op rfl (g_move (p := .tup [.agg (peer_Peer.cells ((peer_Take (⟨0, 0, 0, 0, 0, 0, 0, 0⟩ : api_Config) (⟨0, 0, [], []⟩ : api_PeerConf) ((peer_Conn (⟨0, (⟨0, 0, 0, (⟨false, 0, false, false, 0, false, false, false, 0⟩ : api_Caps)⟩ : api_Open)⟩ : peer_Peer)).1) (⟨4, (⟨0, 0, 0, (⟨false, 0, false, false, 0, false, false, false, 0⟩ : api_Caps)⟩ : api_Open), (⟨[], (⟨0, [], 0, 0, 0, [], []⟩ : api_Attrs), []⟩ : api_Update), (⟨0, 0, []⟩ : api_Note)⟩ : api_Msg)).1)), .sc (.int .i64 ((peer_Take (⟨0, 0, 0, 0, 0, 0, 0, 0⟩ : api_Config) (⟨0, 0, [], []⟩ : api_PeerConf) ((peer_Conn (⟨0, (⟨0, 0, 0, (⟨false, 0, false, false, 0, false, false, false, 0⟩ : api_Caps)⟩ : api_Open)⟩ : peer_Peer)).1) (⟨4, (⟨0, 0, 0, (⟨false, 0, false, false, 0, false, false, false, 0⟩ : api_Caps)⟩ : api_Open), (⟨[], (⟨0, [], 0, 0, 0, [], []⟩ : api_Attrs), []⟩ : api_Update), (⟨0, 0, []⟩ : api_Note)⟩ : api_Msg)).2.1)), .agg (api_Note.cells ((peer_Take (⟨0, 0, 0, 0, 0, 0, 0, 0⟩ : api_Config) (⟨0, 0, [], []⟩ : api_PeerConf) ((peer_Conn (⟨0, (⟨0, 0, 0, (⟨false, 0, false, false, 0, false, false, false, 0⟩ : api_Caps)⟩ : api_Open)⟩ : peer_Peer)).1) (⟨4, (⟨0, 0, 0, (⟨false, 0, false, false, 0, false, false, false, 0⟩ : api_Caps)⟩ : api_Open), (⟨[], (⟨0, [], 0, 0, 0, [], []⟩ : api_Attrs), []⟩ : api_Update), (⟨0, 0, []⟩ : api_Note)⟩ : api_Msg)).2.2))]) rfl rfl rfl rfl) ?_
  refine al_op rfl (g_extract (ps := [.agg (peer_Peer.cells ((peer_Take (⟨0, 0, 0, 0, 0, 0, 0, 0⟩ : api_Config) (⟨0, 0, [], []⟩ : api_PeerConf) ((peer_Conn (⟨0, (⟨0, 0, 0, (⟨false, 0, false, false, 0, false, false, false, 0⟩ : api_Caps)⟩ : api_Open)⟩ : peer_Peer)).1) (⟨4, (⟨0, 0, 0, (⟨false, 0, false, false, 0, false, false, false, 0⟩ : api_Caps)⟩ : api_Open), (⟨[], (⟨0, [], 0, 0, 0, [], []⟩ : api_Attrs), []⟩ : api_Update), (⟨0, 0, []⟩ : api_Note)⟩ : api_Msg)).1)), .sc (.int .i64 ((peer_Take (⟨0, 0, 0, 0, 0, 0, 0, 0⟩ : api_Config) (⟨0, 0, [], []⟩ : api_PeerConf) ((peer_Conn (⟨0, (⟨0, 0, 0, (⟨false, 0, false, false, 0, false, false, false, 0⟩ : api_Caps)⟩ : api_Open)⟩ : peer_Peer)).1) (⟨4, (⟨0, 0, 0, (⟨false, 0, false, false, 0, false, false, false, 0⟩ : api_Caps)⟩ : api_Open), (⟨[], (⟨0, [], 0, 0, 0, [], []⟩ : api_Attrs), []⟩ : api_Update), (⟨0, 0, []⟩ : api_Note)⟩ : api_Msg)).2.1)), .agg (api_Note.cells ((peer_Take (⟨0, 0, 0, 0, 0, 0, 0, 0⟩ : api_Config) (⟨0, 0, [], []⟩ : api_PeerConf) ((peer_Conn (⟨0, (⟨0, 0, 0, (⟨false, 0, false, false, 0, false, false, false, 0⟩ : api_Caps)⟩ : api_Open)⟩ : peer_Peer)).1) (⟨4, (⟨0, 0, 0, (⟨false, 0, false, false, 0, false, false, false, 0⟩ : api_Caps)⟩ : api_Open), (⟨[], (⟨0, [], 0, 0, 0, [], []⟩ : api_Attrs), []⟩ : api_Update), (⟨0, 0, []⟩ : api_Note)⟩ : api_Msg)).2.2))]) (p := .agg (peer_Peer.cells ((peer_Take (⟨0, 0, 0, 0, 0, 0, 0, 0⟩ : api_Config) (⟨0, 0, [], []⟩ : api_PeerConf) ((peer_Conn (⟨0, (⟨0, 0, 0, (⟨false, 0, false, false, 0, false, false, false, 0⟩ : api_Caps)⟩ : api_Open)⟩ : peer_Peer)).1) (⟨4, (⟨0, 0, 0, (⟨false, 0, false, false, 0, false, false, false, 0⟩ : api_Caps)⟩ : api_Open), (⟨[], (⟨0, [], 0, 0, 0, [], []⟩ : api_Attrs), []⟩ : api_Update), (⟨0, 0, []⟩ : api_Note)⟩ : api_Msg)).1))) rfl rfl rfl rfl rfl) ?_
  refine al_op rfl (g_extract (ps := [.agg (peer_Peer.cells ((peer_Take (⟨0, 0, 0, 0, 0, 0, 0, 0⟩ : api_Config) (⟨0, 0, [], []⟩ : api_PeerConf) ((peer_Conn (⟨0, (⟨0, 0, 0, (⟨false, 0, false, false, 0, false, false, false, 0⟩ : api_Caps)⟩ : api_Open)⟩ : peer_Peer)).1) (⟨4, (⟨0, 0, 0, (⟨false, 0, false, false, 0, false, false, false, 0⟩ : api_Caps)⟩ : api_Open), (⟨[], (⟨0, [], 0, 0, 0, [], []⟩ : api_Attrs), []⟩ : api_Update), (⟨0, 0, []⟩ : api_Note)⟩ : api_Msg)).1)), .sc (.int .i64 ((peer_Take (⟨0, 0, 0, 0, 0, 0, 0, 0⟩ : api_Config) (⟨0, 0, [], []⟩ : api_PeerConf) ((peer_Conn (⟨0, (⟨0, 0, 0, (⟨false, 0, false, false, 0, false, false, false, 0⟩ : api_Caps)⟩ : api_Open)⟩ : peer_Peer)).1) (⟨4, (⟨0, 0, 0, (⟨false, 0, false, false, 0, false, false, false, 0⟩ : api_Caps)⟩ : api_Open), (⟨[], (⟨0, [], 0, 0, 0, [], []⟩ : api_Attrs), []⟩ : api_Update), (⟨0, 0, []⟩ : api_Note)⟩ : api_Msg)).2.1)), .agg (api_Note.cells ((peer_Take (⟨0, 0, 0, 0, 0, 0, 0, 0⟩ : api_Config) (⟨0, 0, [], []⟩ : api_PeerConf) ((peer_Conn (⟨0, (⟨0, 0, 0, (⟨false, 0, false, false, 0, false, false, false, 0⟩ : api_Caps)⟩ : api_Open)⟩ : peer_Peer)).1) (⟨4, (⟨0, 0, 0, (⟨false, 0, false, false, 0, false, false, false, 0⟩ : api_Caps)⟩ : api_Open), (⟨[], (⟨0, [], 0, 0, 0, [], []⟩ : api_Attrs), []⟩ : api_Update), (⟨0, 0, []⟩ : api_Note)⟩ : api_Msg)).2.2))]) (p := .sc (.int .i64 ((peer_Take (⟨0, 0, 0, 0, 0, 0, 0, 0⟩ : api_Config) (⟨0, 0, [], []⟩ : api_PeerConf) ((peer_Conn (⟨0, (⟨0, 0, 0, (⟨false, 0, false, false, 0, false, false, false, 0⟩ : api_Caps)⟩ : api_Open)⟩ : peer_Peer)).1) (⟨4, (⟨0, 0, 0, (⟨false, 0, false, false, 0, false, false, false, 0⟩ : api_Caps)⟩ : api_Open), (⟨[], (⟨0, [], 0, 0, 0, [], []⟩ : api_Attrs), []⟩ : api_Update), (⟨0, 0, []⟩ : api_Note)⟩ : api_Msg)).2.1))) rfl rfl rfl rfl rfl) ?_
  refine al_op rfl (g_extract (ps := [.agg (peer_Peer.cells ((peer_Take (⟨0, 0, 0, 0, 0, 0, 0, 0⟩ : api_Config) (⟨0, 0, [], []⟩ : api_PeerConf) ((peer_Conn (⟨0, (⟨0, 0, 0, (⟨false, 0, false, false, 0, false, false, false, 0⟩ : api_Caps)⟩ : api_Open)⟩ : peer_Peer)).1) (⟨4, (⟨0, 0, 0, (⟨false, 0, false, false, 0, false, false, false, 0⟩ : api_Caps)⟩ : api_Open), (⟨[], (⟨0, [], 0, 0, 0, [], []⟩ : api_Attrs), []⟩ : api_Update), (⟨0, 0, []⟩ : api_Note)⟩ : api_Msg)).1)), .sc (.int .i64 ((peer_Take (⟨0, 0, 0, 0, 0, 0, 0, 0⟩ : api_Config) (⟨0, 0, [], []⟩ : api_PeerConf) ((peer_Conn (⟨0, (⟨0, 0, 0, (⟨false, 0, false, false, 0, false, false, false, 0⟩ : api_Caps)⟩ : api_Open)⟩ : peer_Peer)).1) (⟨4, (⟨0, 0, 0, (⟨false, 0, false, false, 0, false, false, false, 0⟩ : api_Caps)⟩ : api_Open), (⟨[], (⟨0, [], 0, 0, 0, [], []⟩ : api_Attrs), []⟩ : api_Update), (⟨0, 0, []⟩ : api_Note)⟩ : api_Msg)).2.1)), .agg (api_Note.cells ((peer_Take (⟨0, 0, 0, 0, 0, 0, 0, 0⟩ : api_Config) (⟨0, 0, [], []⟩ : api_PeerConf) ((peer_Conn (⟨0, (⟨0, 0, 0, (⟨false, 0, false, false, 0, false, false, false, 0⟩ : api_Caps)⟩ : api_Open)⟩ : peer_Peer)).1) (⟨4, (⟨0, 0, 0, (⟨false, 0, false, false, 0, false, false, false, 0⟩ : api_Caps)⟩ : api_Open), (⟨[], (⟨0, [], 0, 0, 0, [], []⟩ : api_Attrs), []⟩ : api_Update), (⟨0, 0, []⟩ : api_Note)⟩ : api_Msg)).2.2))]) (p := .agg (api_Note.cells ((peer_Take (⟨0, 0, 0, 0, 0, 0, 0, 0⟩ : api_Config) (⟨0, 0, [], []⟩ : api_PeerConf) ((peer_Conn (⟨0, (⟨0, 0, 0, (⟨false, 0, false, false, 0, false, false, false, 0⟩ : api_Caps)⟩ : api_Open)⟩ : peer_Peer)).1) (⟨4, (⟨0, 0, 0, (⟨false, 0, false, false, 0, false, false, false, 0⟩ : api_Caps)⟩ : api_Open), (⟨[], (⟨0, [], 0, 0, 0, [], []⟩ : api_Attrs), []⟩ : api_Update), (⟨0, 0, []⟩ : api_Note)⟩ : api_Msg)).2.2))) rfl rfl rfl rfl rfl) ?_
  refine al_op rfl (g_alloc (s := 3) (z := zv46) (qs := zc46) rfl rfl rfl rfl z46 rfl rfl) ?_
  refine al_op rfl (g_alloc (s := 5) (z := zv38) (qs := zc38) rfl rfl rfl rfl z38 rfl rfl) ?_
  refine al_op rfl (g_store (s := 3) (off := 0) (ps := zc46) (p := .agg (peer_Peer.cells ((peer_Take (⟨0, 0, 0, 0, 0, 0, 0, 0⟩ : api_Config) (⟨0, 0, [], []⟩ : api_PeerConf) ((peer_Conn (⟨0, (⟨0, 0, 0, (⟨false, 0, false, false, 0, false, false, false, 0⟩ : api_Caps)⟩ : api_Open)⟩ : peer_Peer)).1) (⟨4, (⟨0, 0, 0, (⟨false, 0, false, false, 0, false, false, false, 0⟩ : api_Caps)⟩ : api_Open), (⟨[], (⟨0, [], 0, 0, 0, [], []⟩ : api_Attrs), []⟩ : api_Update), (⟨0, 0, []⟩ : api_Note)⟩ : api_Msg)).1))) (qs := (peer_Peer.cells ((peer_Take (⟨0, 0, 0, 0, 0, 0, 0, 0⟩ : api_Config) (⟨0, 0, [], []⟩ : api_PeerConf) ((peer_Conn (⟨0, (⟨0, 0, 0, (⟨false, 0, false, false, 0, false, false, false, 0⟩ : api_Caps)⟩ : api_Open)⟩ : peer_Peer)).1) (⟨4, (⟨0, 0, 0, (⟨false, 0, false, false, 0, false, false, false, 0⟩ : api_Caps)⟩ : api_Open), (⟨[], (⟨0, [], 0, 0, 0, [], []⟩ : api_Attrs), []⟩ : api_Update), (⟨0, 0, []⟩ : api_Note)⟩ : api_Msg)).1))) rfl rfl ty46 rfl rfl rfl rfl rfl rfl rfl) ?_
  refine al_op rfl (g_assign (p := .sc (.int .i64 ((peer_Take (⟨0, 0, 0, 0, 0, 0, 0, 0⟩ : api_Config) (⟨0, 0, [], []⟩ : api_PeerConf) ((peer_Conn (⟨0, (⟨0, 0, 0, (⟨false, 0, false, false, 0, false, false, false, 0⟩ : api_Caps)⟩ : api_Open)⟩ : peer_Peer)).1) (⟨4, (⟨0, 0, 0, (⟨false, 0, false, false, 0, false, false, false, 0⟩ : api_Caps)⟩ : api_Open), (⟨[], (⟨0, [], 0, 0, 0, [], []⟩ : api_Attrs), []⟩ : api_Update), (⟨0, 0, []⟩ : api_Note)⟩ : api_Msg)).2.1))) rfl rfl rfl rfl) ?_
  refine al_op rfl (g_store (s := 5) (off := 0) (ps := zc38) (p := .agg (api_Note.cells ((peer_Take (⟨0, 0, 0, 0, 0, 0, 0, 0⟩ : api_Config) (⟨0, 0, [], []⟩ : api_PeerConf) ((peer_Conn (⟨0, (⟨0, 0, 0, (⟨false, 0, false, false, 0, false, false, false, 0⟩ : api_Caps)⟩ : api_Open)⟩ : peer_Peer)).1) (⟨4, (⟨0, 0, 0, (⟨false, 0, false, false, 0, false, false, false, 0⟩ : api_Caps)⟩ : api_Open), (⟨[], (⟨0, [], 0, 0, 0, [], []⟩ : api_Attrs), []⟩ : api_Update), (⟨0, 0, []⟩ : api_Note)⟩ : api_Msg)).2.2))) (qs := (api_Note.cells ((peer_Take (⟨0, 0, 0, 0, 0, 0, 0, 0⟩ : api_Config) (⟨0, 0, [], []⟩ : api_PeerConf) ((peer_Conn (⟨0, (⟨0, 0, 0, (⟨false, 0, false, false, 0, false, false, false, 0⟩ : api_Caps)⟩ : api_Open)⟩ : peer_Peer)).1) (⟨4, (⟨0, 0, 0, (⟨false, 0, false, false, 0, false, false, false, 0⟩ : api_Caps)⟩ : api_Open), (⟨[], (⟨0, [], 0, 0, 0, [], []⟩ : api_Attrs), []⟩ : api_Update), (⟨0, 0, []⟩ : api_Note)⟩ : api_Msg)).2.2))) rfl rfl ty38 rfl rfl rfl rfl rfl rfl rfl) ?_
  refine al_nil ?_
  refine aw_seq ?_
  refine aw_region ?_
  refine al_op rfl (g_move (p := .sc (.bool ((peer_Conn (⟨0, (⟨0, 0, 0, (⟨false, 0, false, false, 0, false, false, false, 0⟩ : api_Caps)⟩ : api_Open)⟩ : peer_Peer)).2))) rfl rfl rfl rfl) ?_
  refine al_op rfl (g_move (p := .sc (.bool ((peer_Conn (⟨0, (⟨0, 0, 0, (⟨false, 0, false, false, 0, false, false, false, 0⟩ : api_Caps)⟩ : api_Open)⟩ : peer_Peer)).2))) rfl rfl rfl rfl) ?_
  refine al_gT (b := (peer_Conn (⟨0, (⟨0, 0, 0, (⟨false, 0, false, false, 0, false, false, false, 0⟩ : api_Caps)⟩ : api_Open)⟩ : peer_Peer)).2) (p := .loc 1 0) rfl rfl rfl rfl rfl rfl rfl (fun g1 => g_fieldAddr (b := 1) (k := 0) (m := 0) rfl rfl rfl fld46_0 rfl rfl) ?_
  refine al_gT (b := (peer_Conn (⟨0, (⟨0, 0, 0, (⟨false, 0, false, false, 0, false, false, false, 0⟩ : api_Caps)⟩ : api_Open)⟩ : peer_Peer)).2) (p := .sc (.int .i64 (((peer_Conn (⟨0, (⟨0, 0, 0, (⟨false, 0, false, false, 0, false, false, false, 0⟩ : api_Caps)⟩ : api_Open)⟩ : peer_Peer)).1).fState))) rfl rfl rfl rfl rfl rfl rfl (fun g2 => g_load (s := 1) (off := 0) (ps := (peer_Peer.cells ((peer_Conn (⟨0, (⟨0, 0, 0, (⟨false, 0, false, false, 0, false, false, false, 0⟩ : api_Caps)⟩ : api_Open)⟩ : peer_Peer)).1))) (p := .sc (.int .i64 (((peer_Conn (⟨0, (⟨0, 0, 0, (⟨false, 0, false, false, 0, false, false, false, 0⟩ : api_Caps)⟩ : api_Open)⟩ : peer_Peer)).1).fState))) rfl rfl rfl ty3 (gt (p := .loc 1 0) (q := .any) g2) rfl rfl rfl rfl) ?_
  refine al_gT (b := (peer_Conn (⟨0, (⟨0, 0, 0, (⟨false, 0, false, false, 0, false, false, false, 0⟩ : api_Caps)⟩ : api_Open)⟩ : peer_Peer)).2) (p := .sc (.bool (decide ((((peer_Conn (⟨0, (⟨0, 0, 0, (⟨false, 0, false, false, 0, false, false, false, 0⟩ : api_Caps)⟩ : api_Open)⟩ : peer_Peer)).1).fState : Int) = 1)))) rfl rfl rfl rfl rfl rfl rfl (fun g3 => g_bin (u1 := .int .i64 (((peer_Conn (⟨0, (⟨0, 0, 0, (⟨false, 0, false, false, 0, false, false, false, 0⟩ : api_Caps)⟩ : api_Open)⟩ : peer_Peer)).1).fState)) (u2 := .int .i64 1) (v := .bool (decide ((((peer_Conn (⟨0, (⟨0, 0, 0, (⟨false, 0, false, false, 0, false, false, false, 0⟩ : api_Caps)⟩ : api_Open)⟩ : peer_Peer)).1).fState : Int) = 1))) rfl rfl rfl (gt (p := .sc (.int .i64 (((peer_Conn (⟨0, (⟨0, 0, 0, (⟨false, 0, false, false, 0, false, false, false, 0⟩ : api_Caps)⟩ : api_Open)⟩ : peer_Peer)).1).fState))) (q := .any) g3) rfl (fun _ => rfl)) ?_
  refine al_op rfl (g_and (b := (peer_Conn (⟨0, (⟨0, 0, 0, (⟨false, 0, false, false, 0, false, false, false, 0⟩ : api_Caps)⟩ : api_Open)⟩ : peer_Peer)).2) (y := decide ((((peer_Conn (⟨0, (⟨0, 0, 0, (⟨false, 0, false, false, 0, false, false, false, 0⟩ : api_Caps)⟩ : api_Open)⟩ : peer_Peer)).1).fState : Int) = 1)) rfl rfl rfl rfl rfl) ?_
  refine al_op rfl (g_move (p := .sc (.bool (((peer_Conn (⟨0, (⟨0, 0, 0, (⟨false, 0, false, false, 0, false, false, false, 0⟩ : api_Caps)⟩ : api_Open)⟩ : peer_Peer)).2) && (decide ((((peer_Conn (⟨0, (⟨0, 0, 0, (⟨false, 0, false, false, 0, false, false, false, 0⟩ : api_Caps)⟩ : api_Open)⟩ : peer_Peer)).1).fState : Int) = 1))))) rfl rfl rfl rfl) ?_
  refine al_gT (b := ((peer_Conn (⟨0, (⟨0, 0, 0, (⟨false, 0, false, false, 0, false, false, false, 0⟩ : api_Caps)⟩ : api_Open)⟩ : peer_Peer)).2) && (decide ((((peer_Conn (⟨0, (⟨0, 0, 0, (⟨false, 0, false, false, 0, false, false, false, 0⟩ : api_Caps)⟩ : api_Open)⟩ : peer_Peer)).1).fState : Int) = 1))) (p := .sc (.int .i64 ((peer_Take (⟨0, 0, 0, 0, 0, 0, 0, 0⟩ : api_Config) (⟨0, 0, [], []⟩ : api_PeerConf) ((peer_Conn (⟨0, (⟨0, 0, 0, (⟨false, 0, false, false, 0, false, false, false, 0⟩ : api_Caps)⟩ : api_Open)⟩ : peer_Peer)).1) (⟨4, (⟨0, 0, 0, (⟨false, 0, false, false, 0, false, false, false, 0⟩ : api_Caps)⟩ : api_Open), (⟨[], (⟨0, [], 0, 0, 0, [], []⟩ : api_Attrs), []⟩ : api_Update), (⟨0, 0, []⟩ : api_Note)⟩ : api_Msg)).2.1))) rfl rfl rfl rfl rfl rfl rfl (fun g4 => g_move (p := .sc (.int .i64 ((peer_Take (⟨0, 0, 0, 0, 0, 0, 0, 0⟩ : api_Config) (⟨0, 0, [], []⟩ : api_PeerConf) ((peer_Conn (⟨0, (⟨0, 0, 0, (⟨false, 0, false, false, 0, false, false, false, 0⟩ : api_Caps)⟩ : api_Open)⟩ : peer_Peer)).1) (⟨4, (⟨0, 0, 0, (⟨false, 0, false, false, 0, false, false, false, 0⟩ : api_Caps)⟩ : api_Open), (⟨[], (⟨0, [], 0, 0, 0, [], []⟩ : api_Attrs), []⟩ : api_Update), (⟨0, 0, []⟩ : api_Note)⟩ : api_Msg)).2.1))) rfl rfl rfl rfl) ?_
  refine al_gT (b := ((peer_Conn (⟨0, (⟨0, 0, 0, (⟨false, 0, false, false, 0, false, false, false, 0⟩ : api_Caps)⟩ : api_Open)⟩ : peer_Peer)).2) && (decide ((((peer_Conn (⟨0, (⟨0, 0, 0, (⟨false, 0, false, false, 0, false, false, false, 0⟩ : api_Caps)⟩ : api_Open)⟩ : peer_Peer)).1).fState : Int) = 1))) (p := .sc (.bool (decide (((peer_Take (⟨0, 0, 0, 0, 0, 0, 0, 0⟩ : api_Config) (⟨0, 0, [], []⟩ : api_PeerConf) ((peer_Conn (⟨0, (⟨0, 0, 0, (⟨false, 0, false, false, 0, false, false, false, 0⟩ : api_Caps)⟩ : api_Open)⟩ : peer_Peer)).1) (⟨4, (⟨0, 0, 0, (⟨false, 0, false, false, 0, false, false, false, 0⟩ : api_Caps)⟩ : api_Open), (⟨[], (⟨0, [], 0, 0, 0, [], []⟩ : api_Attrs), []⟩ : api_Update), (⟨0, 0, []⟩ : api_Note)⟩ : api_Msg)).2.1 : Int) = 4)))) rfl rfl rfl rfl rfl rfl rfl (fun g5 => g_bin (u1 := .int .i64 ((peer_Take (⟨0, 0, 0, 0, 0, 0, 0, 0⟩ : api_Config) (⟨0, 0, [], []⟩ : api_PeerConf) ((peer_Conn (⟨0, (⟨0, 0, 0, (⟨false, 0, false, false, 0, false, false, false, 0⟩ : api_Caps)⟩ : api_Open)⟩ : peer_Peer)).1) (⟨4, (⟨0, 0, 0, (⟨false, 0, false, false, 0, false, false, false, 0⟩ : api_Caps)⟩ : api_Open), (⟨[], (⟨0, [], 0, 0, 0, [], []⟩ : api_Attrs), []⟩ : api_Update), (⟨0, 0, []⟩ : api_Note)⟩ : api_Msg)).2.1)) (u2 := .int .i64 4) (v := .bool (decide (((peer_Take (⟨0, 0, 0, 0, 0, 0, 0, 0⟩ : api_Config) (⟨0, 0, [], []⟩ : api_PeerConf) ((peer_Conn (⟨0, (⟨0, 0, 0, (⟨false, 0, false, false, 0, false, false, false, 0⟩ : api_Caps)⟩ : api_Open)⟩ : peer_Peer)).1) (⟨4, (⟨0, 0, 0, (⟨false, 0, false, false, 0, false, false, false, 0⟩ : api_Caps)⟩ : api_Open), (⟨[], (⟨0, [], 0, 0, 0, [], []⟩ : api_Attrs), []⟩ : api_Update), (⟨0, 0, []⟩ : api_Note)⟩ : api_Msg)).2.1 : Int) = 4))) rfl rfl rfl (gt (p := .sc (.int .i64 ((peer_Take (⟨0, 0, 0, 0, 0, 0, 0, 0⟩ : api_Config) (⟨0, 0, [], []⟩ : api_PeerConf) ((peer_Conn (⟨0, (⟨0, 0, 0, (⟨false, 0, false, false, 0, false, false, false, 0⟩ : api_Caps)⟩ : api_Open)⟩ : peer_Peer)).1) (⟨4, (⟨0, 0, 0, (⟨false, 0, false, false, 0, false, false, false, 0⟩ : api_Caps)⟩ : api_Open), (⟨[], (⟨0, [], 0, 0, 0, [], []⟩ : api_Attrs), []⟩ : api_Update), (⟨0, 0, []⟩ : api_Note)⟩ : api_Msg)).2.1))) (q := .any) g5) rfl (fun _ => rfl)) ?_
  refine al_op rfl (g_and (b := ((peer_Conn (⟨0, (⟨0, 0, 0, (⟨false, 0, false, false, 0, false, false, false, 0⟩ : api_Caps)⟩ : api_Open)⟩ : peer_Peer)).2) && (decide ((((peer_Conn (⟨0, (⟨0, 0, 0, (⟨false, 0, false, false, 0, false, false, false, 0⟩ : api_Caps)⟩ : api_Open)⟩ : peer_Peer)).1).fState : Int) = 1))) (y := decide (((peer_Take (⟨0, 0, 0, 0, 0, 0, 0, 0⟩ : api_Config) (⟨0, 0, [], []⟩ : api_PeerConf) ((peer_Conn (⟨0, (⟨0, 0, 0, (⟨false, 0, false, false, 0, false, false, false, 0⟩ : api_Caps)⟩ : api_Open)⟩ : peer_Peer)).1) (⟨4, (⟨0, 0, 0, (⟨false, 0, false, false, 0, false, false, false, 0⟩ : api_Caps)⟩ : api_Open), (⟨[], (⟨0, [], 0, 0, 0, [], []⟩ : api_Attrs), []⟩ : api_Update), (⟨0, 0, []⟩ : api_Note)⟩ : api_Msg)).2.1 : Int) = 4)) rfl rfl rfl rfl rfl) ?_
  refine al_op rfl (g_move (p := .sc (.bool ((((peer_Conn (⟨0, (⟨0, 0, 0, (⟨false, 0, false, false, 0, false, false, false, 0⟩ : api_Caps)⟩ : api_Open)⟩ : peer_Peer)).2) && (decide ((((peer_Conn (⟨0, (⟨0, 0, 0, (⟨false, 0, false, false, 0, false, false, false, 0⟩ : api_Caps)⟩ : api_Open)⟩ : peer_Peer)).1).fState : Int) = 1))) && (decide (((peer_Take (⟨0, 0, 0, 0, 0, 0, 0, 0⟩ : api_Config) (⟨0, 0, [], []⟩ : api_PeerConf) ((peer_Conn (⟨0, (⟨0, 0, 0, (⟨false, 0, false, false, 0, false, false, false, 0⟩ : api_Caps)⟩ : api_Open)⟩ : peer_Peer)).1) (⟨4, (⟨0, 0, 0, (⟨false, 0, false, false, 0, false, false, false, 0⟩ : api_Caps)⟩ : api_Open), (⟨[], (⟨0, [], 0, 0, 0, [], []⟩ : api_Attrs), []⟩ : api_Update), (⟨0, 0, []⟩ : api_Note)⟩ : api_Msg)).2.1 : Int) = 4))))) rfl rfl rfl rfl) ?_
  refine al_gT (b := (((peer_Conn (⟨0, (⟨0, 0, 0, (⟨false, 0, false, false, 0, false, false, false, 0⟩ : api_Caps)⟩ : api_Open)⟩ : peer_Peer)).2) && (decide ((((peer_Conn (⟨0, (⟨0, 0, 0, (⟨false, 0, false, false, 0, false, false, false, 0⟩ : api_Caps)⟩ : api_Open)⟩ : peer_Peer)).1).fState : Int) = 1))) && (decide (((peer_Take (⟨0, 0, 0, 0, 0, 0, 0, 0⟩ : api_Config) (⟨0, 0, [], []⟩ : api_PeerConf) ((peer_Conn (⟨0, (⟨0, 0, 0, (⟨false, 0, false, false, 0, false, false, false, 0⟩ : api_Caps)⟩ : api_Open)⟩ : peer_Peer)).1) (⟨4, (⟨0, 0, 0, (⟨false, 0, false, false, 0, false, false, false, 0⟩ : api_Caps)⟩ : api_Open), (⟨[], (⟨0, [], 0, 0, 0, [], []⟩ : api_Attrs), []⟩ : api_Update), (⟨0, 0, []⟩ : api_Note)⟩ : api_Msg)).2.1 : Int) = 4))) (p := .loc 5 0) rfl rfl rfl rfl rfl rfl rfl (fun g6 => g_fieldAddr (b := 5) (k := 0) (m := 0) rfl rfl rfl fld38_0 rfl rfl) ?_
  refine al_gT (b := (((peer_Conn (⟨0, (⟨0, 0, 0, (⟨false, 0, false, false, 0, false, false, false, 0⟩ : api_Caps)⟩ : api_Open)⟩ : peer_Peer)).2) && (decide ((((peer_Conn (⟨0, (⟨0, 0, 0, (⟨false, 0, false, false, 0, false, false, false, 0⟩ : api_Caps)⟩ : api_Open)⟩ : peer_Peer)).1).fState : Int) = 1))) && (decide (((peer_Take (⟨0, 0, 0, 0, 0, 0, 0, 0⟩ : api_Config) (⟨0, 0, [], []⟩ : api_PeerConf) ((peer_Conn (⟨0, (⟨0, 0, 0, (⟨false, 0, false, false, 0, false, false, false, 0⟩ : api_Caps)⟩ : api_Open)⟩ : peer_Peer)).1) (⟨4, (⟨0, 0, 0, (⟨false, 0, false, false, 0, false, false, false, 0⟩ : api_Caps)⟩ : api_Open), (⟨[], (⟨0, [], 0, 0, 0, [], []⟩ : api_Attrs), []⟩ : api_Update), (⟨0, 0, []⟩ : api_Note)⟩ : api_Msg)).2.1 : Int) = 4))) (p := .sc (.int .i64 (((peer_Take (⟨0, 0, 0, 0, 0, 0, 0, 0⟩ : api_Config) (⟨0, 0, [], []⟩ : api_PeerConf) ((peer_Conn (⟨0, (⟨0, 0, 0, (⟨false, 0, false, false, 0, false, false, false, 0⟩ : api_Caps)⟩ : api_Open)⟩ : peer_Peer)).1) (⟨4, (⟨0, 0, 0, (⟨false, 0, false, false, 0, false, false, false, 0⟩ : api_Caps)⟩ : api_Open), (⟨[], (⟨0, [], 0, 0, 0, [], []⟩ : api_Attrs), []⟩ : api_Update), (⟨0, 0, []⟩ : api_Note)⟩ : api_Msg)).2.2).fCode))) rfl rfl rfl rfl rfl rfl rfl (fun g7 => g_load (s := 5) (off := 0) (ps := (api_Note.cells ((peer_Take (⟨0, 0, 0, 0, 0, 0, 0, 0⟩ : api_Config) (⟨0, 0, [], []⟩ : api_PeerConf) ((peer_Conn (⟨0, (⟨0, 0, 0, (⟨false, 0, false, false, 0, false, false, false, 0⟩ : api_Caps)⟩ : api_Open)⟩ : peer_Peer)).1) (⟨4, (⟨0, 0, 0, (⟨false, 0, false, false, 0, false, false, false, 0⟩ : api_Caps)⟩ : api_Open), (⟨[], (⟨0, [], 0, 0, 0, [], []⟩ : api_Attrs), []⟩ : api_Update), (⟨0, 0, []⟩ : api_Note)⟩ : api_Msg)).2.2))) (p := .sc (.int .i64 (((peer_Take (⟨0, 0, 0, 0, 0, 0, 0, 0⟩ : api_Config) (⟨0, 0, [], []⟩ : api_PeerConf) ((peer_Conn (⟨0, (⟨0, 0, 0, (⟨false, 0, false, false, 0, false, false, false, 0⟩ : api_Caps)⟩ : api_Open)⟩ : peer_Peer)).1) (⟨4, (⟨0, 0, 0, (⟨false, 0, false, false, 0, false, false, false, 0⟩ : api_Caps)⟩ : api_Open), (⟨[], (⟨0, [], 0, 0, 0, [], []⟩ : api_Attrs), []⟩ : api_Update), (⟨0, 0, []⟩ : api_Note)⟩ : api_Msg)).2.2).fCode))) rfl rfl rfl ty3 (gt (p := .loc 5 0) (q := .any) g7) rfl rfl rfl rfl) ?_
  refine al_gT (b := (((peer_Conn (⟨0, (⟨0, 0, 0, (⟨false, 0, false, false, 0, false, false, false, 0⟩ : api_Caps)⟩ : api_Open)⟩ : peer_Peer)).2) && (decide ((((peer_Conn (⟨0, (⟨0, 0, 0, (⟨false, 0, false, false, 0, false, false, false, 0⟩ : api_Caps)⟩ : api_Open)⟩ : peer_Peer)).1).fState : Int) = 1))) && (decide (((peer_Take (⟨0, 0, 0, 0, 0, 0, 0, 0⟩ : api_Config) (⟨0, 0, [], []⟩ : api_PeerConf) ((peer_Conn (⟨0, (⟨0, 0, 0, (⟨false, 0, false, false, 0, false, false, false, 0⟩ : api_Caps)⟩ : api_Open)⟩ : peer_Peer)).1) (⟨4, (⟨0, 0, 0, (⟨false, 0, false, false, 0, false, false, false, 0⟩ : api_Caps)⟩ : api_Open), (⟨[], (⟨0, [], 0, 0, 0, [], []⟩ : api_Attrs), []⟩ : api_Update), (⟨0, 0, []⟩ : api_Note)⟩ : api_Msg)).2.1 : Int) = 4))) (p := .sc (.bool (decide ((((peer_Take (⟨0, 0, 0, 0, 0, 0, 0, 0⟩ : api_Config) (⟨0, 0, [], []⟩ : api_PeerConf) ((peer_Conn (⟨0, (⟨0, 0, 0, (⟨false, 0, false, false, 0, false, false, false, 0⟩ : api_Caps)⟩ : api_Open)⟩ : peer_Peer)).1) (⟨4, (⟨0, 0, 0, (⟨false, 0, false, false, 0, false, false, false, 0⟩ : api_Caps)⟩ : api_Open), (⟨[], (⟨0, [], 0, 0, 0, [], []⟩ : api_Attrs), []⟩ : api_Update), (⟨0, 0, []⟩ : api_Note)⟩ : api_Msg)).2.2).fCode : Int) = 5)))) rfl rfl rfl rfl rfl rfl rfl (fun g8 => g_bin (u1 := .int .i64 (((peer_Take (⟨0, 0, 0, 0, 0, 0, 0, 0⟩ : api_Config) (⟨0, 0, [], []⟩ : api_PeerConf) ((peer_Conn (⟨0, (⟨0, 0, 0, (⟨false, 0, false, false, 0, false, false, false, 0⟩ : api_Caps)⟩ : api_Open)⟩ : peer_Peer)).1) (⟨4, (⟨0, 0, 0, (⟨false, 0, false, false, 0, false, false, false, 0⟩ : api_Caps)⟩ : api_Open), (⟨[], (⟨0, [], 0, 0, 0, [], []⟩ : api_Attrs), []⟩ : api_Update), (⟨0, 0, []⟩ : api_Note)⟩ : api_Msg)).2.2).fCode)) (u2 := .int .i64 5) (v := .bool (decide ((((peer_Take (⟨0, 0, 0, 0, 0, 0, 0, 0⟩ : api_Config) (⟨0, 0, [], []⟩ : api_PeerConf) ((peer_Conn (⟨0, (⟨0, 0, 0, (⟨false, 0, false, false, 0, false, false, false, 0⟩ : api_Caps)⟩ : api_Open)⟩ : peer_Peer)).1) (⟨4, (⟨0, 0, 0, (⟨false, 0, false, false, 0, false, false, false, 0⟩ : api_Caps)⟩ : api_Open), (⟨[], (⟨0, [], 0, 0, 0, [], []⟩ : api_Attrs), []⟩ : api_Update), (⟨0, 0, []⟩ : api_Note)⟩ : api_Msg)).2.2).fCode : Int) = 5))) rfl rfl rfl (gt (p := .sc (.int .i64 (((peer_Take (⟨0, 0, 0, 0, 0, 0, 0, 0⟩ : api_Config) (⟨0, 0, [], []⟩ : api_PeerConf) ((peer_Conn (⟨0, (⟨0, 0, 0, (⟨false, 0, false, false, 0, false, false, false, 0⟩ : api_Caps)⟩ : api_Open)⟩ : peer_Peer)).1) (⟨4, (⟨0, 0, 0, (⟨false, 0, false, false, 0, false, false, false, 0⟩ : api_Caps)⟩ : api_Open), (⟨[], (⟨0, [], 0, 0, 0, [], []⟩ : api_Attrs), []⟩ : api_Update), (⟨0, 0, []⟩ : api_Note)⟩ : api_Msg)).2.2).fCode))) (q := .any) g8) rfl (fun _ => rfl)) ?_
  refine al_op rfl (g_and (b := (((peer_Conn (⟨0, (⟨0, 0, 0, (⟨false, 0, false, false, 0, false, false, false, 0⟩ : api_Caps)⟩ : api_Open)⟩ : peer_Peer)).2) && (decide ((((peer_Conn (⟨0, (⟨0, 0, 0, (⟨false, 0, false, false, 0, false, false, false, 0⟩ : api_Caps)⟩ : api_Open)⟩ : peer_Peer)).1).fState : Int) = 1))) && (decide (((peer_Take (⟨0, 0, 0, 0, 0, 0, 0, 0⟩ : api_Config) (⟨0, 0, [], []⟩ : api_PeerConf) ((peer_Conn (⟨0, (⟨0, 0, 0, (⟨false, 0, false, false, 0, false, false, false, 0⟩ : api_Caps)⟩ : api_Open)⟩ : peer_Peer)).1) (⟨4, (⟨0, 0, 0, (⟨false, 0, false, false, 0, false, false, false, 0⟩ : api_Caps)⟩ : api_Open), (⟨[], (⟨0, [], 0, 0, 0, [], []⟩ : api_Attrs), []⟩ : api_Update), (⟨0, 0, []⟩ : api_Note)⟩ : api_Msg)).2.1 : Int) = 4))) (y := decide ((((peer_Take (⟨0, 0, 0, 0, 0, 0, 0, 0⟩ : api_Config) (⟨0, 0, [], []⟩ : api_PeerConf) ((peer_Conn (⟨0, (⟨0, 0, 0, (⟨false, 0, false, false, 0, false, false, false, 0⟩ : api_Caps)⟩ : api_Open)⟩ : peer_Peer)).1) (⟨4, (⟨0, 0, 0, (⟨false, 0, false, false, 0, false, false, false, 0⟩ : api_Caps)⟩ : api_Open), (⟨[], (⟨0, [], 0, 0, 0, [], []⟩ : api_Attrs), []⟩ : api_Update), (⟨0, 0, []⟩ : api_Note)⟩ : api_Msg)).2.2).fCode : Int) = 5)) rfl rfl rfl rfl rfl) ?_
  refine al_op rfl (g_move (p := .sc (.bool (((((peer_Conn (⟨0, (⟨0, 0, 0, (⟨false, 0, false, false, 0, false, false, false, 0⟩ : api_Caps)⟩ : api_Open)⟩ : peer_Peer)).2) && (decide ((((peer_Conn (⟨0, (⟨0, 0, 0, (⟨false, 0, false, false, 0, false, false, false, 0⟩ : api_Caps)⟩ : api_Open)⟩ : peer_Peer)).1).fState : Int) = 1))) && (decide (((peer_Take (⟨0, 0, 0, 0, 0, 0, 0, 0⟩ : api_Config) (⟨0, 0, [], []⟩ : api_PeerConf) ((peer_Conn (⟨0, (⟨0, 0, 0, (⟨false, 0, false, false, 0, false, false, false, 0⟩ : api_Caps)⟩ : api_Open)⟩ : peer_Peer)).1) (⟨4, (⟨0, 0, 0, (⟨false, 0, false, false, 0, false, false, false, 0⟩ : api_Caps)⟩ : api_Open), (⟨[], (⟨0, [], 0, 0, 0, [], []⟩ : api_Attrs), []⟩ : api_Update), (⟨0, 0, []⟩ : api_Note)⟩ : api_Msg)).2.1 : Int) = 4))) && (decide ((((peer_Take (⟨0, 0, 0, 0, 0, 0, 0, 0⟩ : api_Config) (⟨0, 0, [], []⟩ : api_PeerConf) ((peer_Conn (⟨0, (⟨0, 0, 0, (⟨false, 0, false, false, 0, false, false, false, 0⟩ : api_Caps)⟩ : api_Open)⟩ : peer_Peer)).1) (⟨4, (⟨0, 0, 0, (⟨false, 0, false, false, 0, false, false, false, 0⟩ : api_Caps)⟩ : api_Open), (⟨[], (⟨0, [], 0, 0, 0, [], []⟩ : api_Attrs), []⟩ : api_Update), (⟨0, 0, []⟩ : api_Note)⟩ : api_Msg)).2.2).fCode : Int) = 5))))) rfl rfl rfl rfl) ?_
  refine al_gT (b := ((((peer_Conn (⟨0, (⟨0, 0, 0, (⟨false, 0, false, false, 0, false, false, false, 0⟩ : api_Caps)⟩ : api_Open)⟩ : peer_Peer)).2) && (decide ((((peer_Conn (⟨0, (⟨0, 0, 0, (⟨false, 0, false, false, 0, false, false, false, 0⟩ : api_Caps)⟩ : api_Open)⟩ : peer_Peer)).1).fState : Int) = 1))) && (decide (((peer_Take (⟨0, 0, 0, 0, 0, 0, 0, 0⟩ : api_Config) (⟨0, 0, [], []⟩ : api_PeerConf) ((peer_Conn (⟨0, (⟨0, 0, 0, (⟨false, 0, false, false, 0, false, false, false, 0⟩ : api_Caps)⟩ : api_Open)⟩ : peer_Peer)).1) (⟨4, (⟨0, 0, 0, (⟨false, 0, false, false, 0, false, false, false, 0⟩ : api_Caps)⟩ : api_Open), (⟨[], (⟨0, [], 0, 0, 0, [], []⟩ : api_Attrs), []⟩ : api_Update), (⟨0, 0, []⟩ : api_Note)⟩ : api_Msg)).2.1 : Int) = 4))) && (decide ((((peer_Take (⟨0, 0, 0, 0, 0, 0, 0, 0⟩ : api_Config) (⟨0, 0, [], []⟩ : api_PeerConf) ((peer_Conn (⟨0, (⟨0, 0, 0, (⟨false, 0, false, false, 0, false, false, false, 0⟩ : api_Caps)⟩ : api_Open)⟩ : peer_Peer)).1) (⟨4, (⟨0, 0, 0, (⟨false, 0, false, false, 0, false, false, false, 0⟩ : api_Caps)⟩ : api_Open), (⟨[], (⟨0, [], 0, 0, 0, [], []⟩ : api_Attrs), []⟩ : api_Update), (⟨0, 0, []⟩ : api_Note)⟩ : api_Msg)).2.2).fCode : Int) = 5))) (p := .loc 5 1) rfl rfl rfl rfl rfl rfl rfl (fun g9 => g_fieldAddr (b := 5) (k := 0) (m := 1) rfl rfl rfl fld38_1 rfl rfl) ?_
  refine al_gT (b := ((((peer_Conn (⟨0, (⟨0, 0, 0, (⟨false, 0, false, false, 0, false, false, false, 0⟩ : api_Caps)⟩ : api_Open)⟩ : peer_Peer)).2) && (decide ((((peer_Conn (⟨0, (⟨0, 0, 0, (⟨false, 0, false, false, 0, false, false, false, 0⟩ : api_Caps)⟩ : api_Open)⟩ : peer_Peer)).1).fState : Int) = 1))) && (decide (((peer_Take (⟨0, 0, 0, 0, 0, 0, 0, 0⟩ : api_Config) (⟨0, 0, [], []⟩ : api_PeerConf) ((peer_Conn (⟨0, (⟨0, 0, 0, (⟨false, 0, false, false, 0, false, false, false, 0⟩ : api_Caps)⟩ : api_Open)⟩ : peer_Peer)).1) (⟨4, (⟨0, 0, 0, (⟨false, 0, false, false, 0, false, false, false, 0⟩ : api_Caps)⟩ : api_Open), (⟨[], (⟨0, [], 0, 0, 0, [], []⟩ : api_Attrs), []⟩ : api_Update), (⟨0, 0, []⟩ : api_Note)⟩ : api_Msg)).2.1 : Int) = 4))) && (decide ((((peer_Take (⟨0, 0, 0, 0, 0, 0, 0, 0⟩ : api_Config) (⟨0, 0, [], []⟩ : api_PeerConf) ((peer_Conn (⟨0, (⟨0, 0, 0, (⟨false, 0, false, false, 0, false, false, false, 0⟩ : api_Caps)⟩ : api_Open)⟩ : peer_Peer)).1) (⟨4, (⟨0, 0, 0, (⟨false, 0, false, false, 0, false, false, false, 0⟩ : api_Caps)⟩ : api_Open), (⟨[], (⟨0, [], 0, 0, 0, [], []⟩ : api_Attrs), []⟩ : api_Update), (⟨0, 0, []⟩ : api_Note)⟩ : api_Msg)).2.2).fCode : Int) = 5))) (p := .sc (.int .i64 (((peer_Take (⟨0, 0, 0, 0, 0, 0, 0, 0⟩ : api_Config) (⟨0, 0, [], []⟩ : api_PeerConf) ((peer_Conn (⟨0, (⟨0, 0, 0, (⟨false, 0, false, false, 0, false, false, false, 0⟩ : api_Caps)⟩ : api_Open)⟩ : peer_Peer)).1) (⟨4, (⟨0, 0, 0, (⟨false, 0, false, false, 0, false, false, false, 0⟩ : api_Caps)⟩ : api_Open), (⟨[], (⟨0, [], 0, 0, 0, [], []⟩ : api_Attrs), []⟩ : api_Update), (⟨0, 0, []⟩ : api_Note)⟩ : api_Msg)).2.2).fSub))) rfl rfl rfl rfl rfl rfl rfl (fun g10 => g_load (s := 5) (off := 1) (ps := (api_Note.cells ((peer_Take (⟨0, 0, 0, 0, 0, 0, 0, 0⟩ : api_Config) (⟨0, 0, [], []⟩ : api_PeerConf) ((peer_Conn (⟨0, (⟨0, 0, 0, (⟨false, 0, false, false, 0, false, false, false, 0⟩ : api_Caps)⟩ : api_Open)⟩ : peer_Peer)).1) (⟨4, (⟨0, 0, 0, (⟨false, 0, false, false, 0, false, false, false, 0⟩ : api_Caps)⟩ : api_Open), (⟨[], (⟨0, [], 0, 0, 0, [], []⟩ : api_Attrs), []⟩ : api_Update), (⟨0, 0, []⟩ : api_Note)⟩ : api_Msg)).2.2))) (p := .sc (.int .i64 (((peer_Take (⟨0, 0, 0, 0, 0, 0, 0, 0⟩ : api_Config) (⟨0, 0, [], []⟩ : api_PeerConf) ((peer_Conn (⟨0, (⟨0, 0, 0, (⟨false, 0, false, false, 0, false, false, false, 0⟩ : api_Caps)⟩ : api_Open)⟩ : peer_Peer)).1) (⟨4, (⟨0, 0, 0, (⟨false, 0, false, false, 0, false, false, false, 0⟩ : api_Caps)⟩ : api_Open), (⟨[], (⟨0, [], 0, 0, 0, [], []⟩ : api_Attrs), []⟩ : api_Update), (⟨0, 0, []⟩ : api_Note)⟩ : api_Msg)).2.2).fSub))) rfl rfl rfl ty3 (gt (p := .loc 5 1) (q := .any) g10) rfl rfl rfl rfl) ?_
  refine al_gT (b := ((((peer_Conn (⟨0, (⟨0, 0, 0, (⟨false, 0, false, false, 0, false, false, false, 0⟩ : api_Caps)⟩ : api_Open)⟩ : peer_Peer)).2) && (decide ((((peer_Conn (⟨0, (⟨0, 0, 0, (⟨false, 0, false, false, 0, false, false, false, 0⟩ : api_Caps)⟩ : api_Open)⟩ : peer_Peer)).1).fState : Int) = 1))) && (decide (((peer_Take (⟨0, 0, 0, 0, 0, 0, 0, 0⟩ : api_Config) (⟨0, 0, [], []⟩ : api_PeerConf) ((peer_Conn (⟨0, (⟨0, 0, 0, (⟨false, 0, false, false, 0, false, false, false, 0⟩ : api_Caps)⟩ : api_Open)⟩ : peer_Peer)).1) (⟨4, (⟨0, 0, 0, (⟨false, 0, false, false, 0, false, false, false, 0⟩ : api_Caps)⟩ : api_Open), (⟨[], (⟨0, [], 0, 0, 0, [], []⟩ : api_Attrs), []⟩ : api_Update), (⟨0, 0, []⟩ : api_Note)⟩ : api_Msg)).2.1 : Int) = 4))) && (decide ((((peer_Take (⟨0, 0, 0, 0, 0, 0, 0, 0⟩ : api_Config) (⟨0, 0, [], []⟩ : api_PeerConf) ((peer_Conn (⟨0, (⟨0, 0, 0, (⟨false, 0, false, false, 0, false, false, false, 0⟩ : api_Caps)⟩ : api_Open)⟩ : peer_Peer)).1) (⟨4, (⟨0, 0, 0, (⟨false, 0, false, false, 0, false, false, false, 0⟩ : api_Caps)⟩ : api_Open), (⟨[], (⟨0, [], 0, 0, 0, [], []⟩ : api_Attrs), []⟩ : api_Update), (⟨0, 0, []⟩ : api_Note)⟩ : api_Msg)).2.2).fCode : Int) = 5))) (p := .sc (.bool (decide ((((peer_Take (⟨0, 0, 0, 0, 0, 0, 0, 0⟩ : api_Config) (⟨0, 0, [], []⟩ : api_PeerConf) ((peer_Conn (⟨0, (⟨0, 0, 0, (⟨false, 0, false, false, 0, false, false, false, 0⟩ : api_Caps)⟩ : api_Open)⟩ : peer_Peer)).1) (⟨4, (⟨0, 0, 0, (⟨false, 0, false, false, 0, false, false, false, 0⟩ : api_Caps)⟩ : api_Open), (⟨[], (⟨0, [], 0, 0, 0, [], []⟩ : api_Attrs), []⟩ : api_Update), (⟨0, 0, []⟩ : api_Note)⟩ : api_Msg)).2.2).fSub : Int) = 1)))) rfl rfl rfl rfl rfl rfl rfl (fun g11 => g_bin (u1 := .int .i64 (((peer_Take (⟨0, 0, 0, 0, 0, 0, 0, 0⟩ : api_Config) (⟨0, 0, [], []⟩ : api_PeerConf) ((peer_Conn (⟨0, (⟨0, 0, 0, (⟨false, 0, false, false, 0, false, false, false, 0⟩ : api_Caps)⟩ : api_Open)⟩ : peer_Peer)).1) (⟨4, (⟨0, 0, 0, (⟨false, 0, false, false, 0, false, false, false, 0⟩ : api_Caps)⟩ : api_Open), (⟨[], (⟨0, [], 0, 0, 0, [], []⟩ : api_Attrs), []⟩ : api_Update), (⟨0, 0, []⟩ : api_Note)⟩ : api_Msg)).2.2).fSub)) (u2 := .int .i64 1) (v := .bool (decide ((((peer_Take (⟨0, 0, 0, 0, 0, 0, 0, 0⟩ : api_Config) (⟨0, 0, [], []⟩ : api_PeerConf) ((peer_Conn (⟨0, (⟨0, 0, 0, (⟨false, 0, false, false, 0, false, false, false, 0⟩ : api_Caps)⟩ : api_Open)⟩ : peer_Peer)).1) (⟨4, (⟨0, 0, 0, (⟨false, 0, false, false, 0, false, false, false, 0⟩ : api_Caps)⟩ : api_Open), (⟨[], (⟨0, [], 0, 0, 0, [], []⟩ : api_Attrs), []⟩ : api_Update), (⟨0, 0, []⟩ : api_Note)⟩ : api_Msg)).2.2).fSub : Int) = 1))) rfl rfl rfl (gt (p := .sc (.int .i64 (((peer_Take (⟨0, 0, 0, 0, 0, 0, 0, 0⟩ : api_Config) (⟨0, 0, [], []⟩ : api_PeerConf) ((peer_Conn (⟨0, (⟨0, 0, 0, (⟨false, 0, false, false, 0, false, false, false, 0⟩ : api_Caps)⟩ : api_Open)⟩ : peer_Peer)).1) (⟨4, (⟨0, 0, 0, (⟨false, 0, false, false, 0, false, false, false, 0⟩ : api_Caps)⟩ : api_Open), (⟨[], (⟨0, [], 0, 0, 0, [], []⟩ : api_Attrs), []⟩ : api_Update), (⟨0, 0, []⟩ : api_Note)⟩ : api_Msg)).2.2).fSub))) (q := .any) g11) rfl (fun _ => rfl)) ?_
  refine al_op rfl (g_and (b := ((((peer_Conn (⟨0, (⟨0, 0, 0, (⟨false, 0, false, false, 0, false, false, false, 0⟩ : api_Caps)⟩ : api_Open)⟩ : peer_Peer)).2) && (decide ((((peer_Conn (⟨0, (⟨0, 0, 0, (⟨false, 0, false, false, 0, false, false, false, 0⟩ : api_Caps)⟩ : api_Open)⟩ : peer_Peer)).1).fState : Int) = 1))) && (decide (((peer_Take (⟨0, 0, 0, 0, 0, 0, 0, 0⟩ : api_Config) (⟨0, 0, [], []⟩ : api_PeerConf) ((peer_Conn (⟨0, (⟨0, 0, 0, (⟨false, 0, false, false, 0, false, false, false, 0⟩ : api_Caps)⟩ : api_Open)⟩ : peer_Peer)).1) (⟨4, (⟨0, 0, 0, (⟨false, 0, false, false, 0, false, false, false, 0⟩ : api_Caps)⟩ : api_Open), (⟨[], (⟨0, [], 0, 0, 0, [], []⟩ : api_Attrs), []⟩ : api_Update), (⟨0, 0, []⟩ : api_Note)⟩ : api_Msg)).2.1 : Int) = 4))) && (decide ((((peer_Take (⟨0, 0, 0, 0, 0, 0, 0, 0⟩ : api_Config) (⟨0, 0, [], []⟩ : api_PeerConf) ((peer_Conn (⟨0, (⟨0, 0, 0, (⟨false, 0, false, false, 0, false, false, false, 0⟩ : api_Caps)⟩ : api_Open)⟩ : peer_Peer)).1) (⟨4, (⟨0, 0, 0, (⟨false, 0, false, false, 0, false, false, false, 0⟩ : api_Caps)⟩ : api_Open), (⟨[], (⟨0, [], 0, 0, 0, [], []⟩ : api_Attrs), []⟩ : api_Update), (⟨0, 0, []⟩ : api_Note)⟩ : api_Msg)).2.2).fCode : Int) = 5))) (y := decide ((((peer_Take (⟨0, 0, 0, 0, 0, 0, 0, 0⟩ : api_Config) (⟨0, 0, [], []⟩ : api_PeerConf) ((peer_Conn (⟨0, (⟨0, 0, 0, (⟨false, 0, false, false, 0, false, false, false, 0⟩ : api_Caps)⟩ : api_Open)⟩ : peer_Peer)).1) (⟨4, (⟨0, 0, 0, (⟨false, 0, false, false, 0, false, false, false, 0⟩ : api_Caps)⟩ : api_Open), (⟨[], (⟨0, [], 0, 0, 0, [], []⟩ : api_Attrs), []⟩ : api_Update), (⟨0, 0, []⟩ : api_Note)⟩ : api_Msg)).2.2).fSub : Int) = 1)) rfl rfl rfl rfl rfl) ?_
  refine al_op rfl (g_assign (p := .sc (.bool ((((((peer_Conn (⟨0, (⟨0, 0, 0, (⟨false, 0, false, false, 0, false, false, false, 0⟩ : api_Caps)⟩ : api_Open)⟩ : peer_Peer)).2) && (decide ((((peer_Conn (⟨0, (⟨0, 0, 0, (⟨false, 0, false, false, 0, false, false, false, 0⟩ : api_Caps)⟩ : api_Open)⟩ : peer_Peer)).1).fState : Int) = 1))) && (decide (((peer_Take (⟨0, 0, 0, 0, 0, 0, 0, 0⟩ : api_Config) (⟨0, 0, [], []⟩ : api_PeerConf) ((peer_Conn (⟨0, (⟨0, 0, 0, (⟨false, 0, false, false, 0, false, false, false, 0⟩ : api_Caps)⟩ : api_Open)⟩ : peer_Peer)).1) (⟨4, (⟨0, 0, 0, (⟨false, 0, false, false, 0, false, false, false, 0⟩ : api_Caps)⟩ : api_Open), (⟨[], (⟨0, [], 0, 0, 0, [], []⟩ : api_Attrs), []⟩ : api_Update), (⟨0, 0, []⟩ : api_Note)⟩ : api_Msg)).2.1 : Int) = 4))) && (decide ((((peer_Take (⟨0, 0, 0, 0, 0, 0, 0, 0⟩ : api_Config) (⟨0, 0, [], []⟩ : api_PeerConf) ((peer_Conn (⟨0, (⟨0, 0, 0, (⟨false, 0, false, false, 0, false, false, false, 0⟩ : api_Caps)⟩ : api_Open)⟩ : peer_Peer)).1) (⟨4, (⟨0, 0, 0, (⟨false, 0, false, false, 0, false, false, false, 0⟩ : api_Caps)⟩ : api_Open), (⟨[], (⟨0, [], 0, 0, 0, [], []⟩ : api_Attrs), []⟩ : api_Update), (⟨0, 0, []⟩ : api_Note)⟩ : api_Msg)).2.2).fCode : Int) = 5))) && (decide ((((peer_Take (⟨0, 0, 0, 0, 0, 0, 0, 0⟩ : api_Config) (⟨0, 0, [], []⟩ : api_PeerConf) ((peer_Conn (⟨0, (⟨0, 0, 0, (⟨false, 0, false, false, 0, false, false, false, 0⟩ : api_Caps)⟩ : api_Open)⟩ : peer_Peer)).1) (⟨4, (⟨0, 0, 0, (⟨false, 0, false, false, 0, false, false, false, 0⟩ : api_Caps)⟩ : api_Open), (⟨[], (⟨0, [], 0, 0, 0, [], []⟩ : api_Attrs), []⟩ : api_Update), (⟨0, 0, []⟩ : api_Note)⟩ : api_Msg)).2.2).fSub : Int) = 1))))) rfl rfl rfl rfl) ?_
  refine al_nil ?_
  refine aw_ret ?_
  exact endG_mk (F := (fun (z : Bool) => ⟨[], [], .sc (.bool z)⟩)) (z := law19_answers) (v := (((((peer_Conn (⟨0, (⟨0, 0, 0, (⟨false, 0, false, false, 0, false, false, false, 0⟩ : api_Caps)⟩ : api_Open)⟩ : peer_Peer)).2) && (decide ((((peer_Conn (⟨0, (⟨0, 0, 0, (⟨false, 0, false, false, 0, false, false, false, 0⟩ : api_Caps)⟩ : api_Open)⟩ : peer_Peer)).1).fState : Int) = 1))) && (decide (((peer_Take (⟨0, 0, 0, 0, 0, 0, 0, 0⟩ : api_Config) (⟨0, 0, [], []⟩ : api_PeerConf) ((peer_Conn (⟨0, (⟨0, 0, 0, (⟨false, 0, false, false, 0, false, false, false, 0⟩ : api_Caps)⟩ : api_Open)⟩ : peer_Peer)).1) (⟨4, (⟨0, 0, 0, (⟨false, 0, false, false, 0, false, false, false, 0⟩ : api_Caps)⟩ : api_Open), (⟨[], (⟨0, [], 0, 0, 0, [], []⟩ : api_Attrs), []⟩ : api_Update), (⟨0, 0, []⟩ : api_Note)⟩ : api_Msg)).2.1 : Int) = 4))) && (decide ((((peer_Take (⟨0, 0, 0, 0, 0, 0, 0, 0⟩ : api_Config) (⟨0, 0, [], []⟩ : api_PeerConf) ((peer_Conn (⟨0, (⟨0, 0, 0, (⟨false, 0, false, false, 0, false, false, false, 0⟩ : api_Caps)⟩ : api_Open)⟩ : peer_Peer)).1) (⟨4, (⟨0, 0, 0, (⟨false, 0, false, false, 0, false, false, false, 0⟩ : api_Caps)⟩ : api_Open), (⟨[], (⟨0, [], 0, 0, 0, [], []⟩ : api_Attrs), []⟩ : api_Update), (⟨0, 0, []⟩ : api_Note)⟩ : api_Msg)).2.2).fCode : Int) = 5))) && (decide ((((peer_Take (⟨0, 0, 0, 0, 0, 0, 0, 0⟩ : api_Config) (⟨0, 0, [], []⟩ : api_PeerConf) ((peer_Conn (⟨0, (⟨0, 0, 0, (⟨false, 0, false, false, 0, false, false, false, 0⟩ : api_Caps)⟩ : api_Open)⟩ : peer_Peer)).1) (⟨4, (⟨0, 0, 0, (⟨false, 0, false, false, 0, false, false, false, 0⟩ : api_Caps)⟩ : api_Open), (⟨[], (⟨0, [], 0, 0, 0, [], []⟩ : api_Attrs), []⟩ : api_Update), (⟨0, 0, []⟩ : api_Note)⟩ : api_Msg)).2.2).fSub : Int) = 1))) rfl rfl (.one (.tmp 0 (.sc (.bool ((((((peer_Conn (⟨0, (⟨0, 0, 0, (⟨false, 0, false, false, 0, false, false, false, 0⟩ : api_Caps)⟩ : api_Open)⟩ : peer_Peer)).2) && (decide ((((peer_Conn (⟨0, (⟨0, 0, 0, (⟨false, 0, false, false, 0, false, false, false, 0⟩ : api_Caps)⟩ : api_Open)⟩ : peer_Peer)).1).fState : Int) = 1))) && (decide (((peer_Take (⟨0, 0, 0, 0, 0, 0, 0, 0⟩ : api_Config) (⟨0, 0, [], []⟩ : api_PeerConf) ((peer_Conn (⟨0, (⟨0, 0, 0, (⟨false, 0, false, false, 0, false, false, false, 0⟩ : api_Caps)⟩ : api_Open)⟩ : peer_Peer)).1) (⟨4, (⟨0, 0, 0, (⟨false, 0, false, false, 0, false, false, false, 0⟩ : api_Caps)⟩ : api_Open), (⟨[], (⟨0, [], 0, 0, 0, [], []⟩ : api_Attrs), []⟩ : api_Update), (⟨0, 0, []⟩ : api_Note)⟩ : api_Msg)).2.1 : Int) = 4))) && (decide ((((peer_Take (⟨0, 0, 0, 0, 0, 0, 0, 0⟩ : api_Config) (⟨0, 0, [], []⟩ : api_PeerConf) ((peer_Conn (⟨0, (⟨0, 0, 0, (⟨false, 0, false, false, 0, false, false, false, 0⟩ : api_Caps)⟩ : api_Open)⟩ : peer_Peer)).1) (⟨4, (⟨0, 0, 0, (⟨false, 0, false, false, 0, false, false, false, 0⟩ : api_Caps)⟩ : api_Open), (⟨[], (⟨0, [], 0, 0, 0, [], []⟩ : api_Attrs), []⟩ : api_Update), (⟨0, 0, []⟩ : api_Note)⟩ : api_Msg)).2.2).fCode : Int) = 5))) && (decide ((((peer_Take (⟨0, 0, 0, 0, 0, 0, 0, 0⟩ : api_Config) (⟨0, 0, [], []⟩ : api_PeerConf) ((peer_Conn (⟨0, (⟨0, 0, 0, (⟨false, 0, false, false, 0, false, false, false, 0⟩ : api_Caps)⟩ : api_Open)⟩ : peer_Peer)).1) (⟨4, (⟨0, 0, 0, (⟨false, 0, false, false, 0, false, false, false, 0⟩ : api_Caps)⟩ : api_Open), (⟨[], (⟨0, [], 0, 0, 0, [], []⟩ : api_Attrs), []⟩ : api_Update), (⟨0, 0, []⟩ : api_Note)⟩ : api_Msg)).2.2).fSub : Int) = 1))))) rfl) (.one (.rfl _)) rfl) trivial trivial
theorem law19_answers_pf  : PF Try.prog 22 [] (.sc (.bool law19_answers)) := pf_ofG (law19_answers_pf_g) rfl
theorem law19_true : law19_answers = true := by decide
end Go.Proofs.Ytnpipeihomebhaa
