/- the document's shape: small words, short directions. -/
import Derived.Test.YtkjellhkamfciaaShH
namespace Go.Proofs.Ytkjellhkamfciaa.Sx
open Go
set_option maxRecDepth 20000
set_option linter.unusedVariables false
set_option linter.unusedSimpArgs false
noncomputable def _root_.Go.Proofs.Ytkjellhkamfciaa.M.dsize {α : Type} (n : Int) (k0 : Int → Option α) : Option α :=
  if cLt n (0 : Int) = true then k0 (IntKind.wrap .i64 ((0 : Int) - n)) else k0 n
theorem dsize_eq {α : Type} (n : Int) (Q : SV → Hp → Option α) : callI E look_awake (exec E look_awake noLps 400) 49 ([SV.int .i64 n]) ([]) Q = M.dsize n (fun (x0 : Int) => Q (SV.int .i64 x0) ([])) := by kernel_rfl
def dsize_sp : List AS := [.val (.int .i64 0)]
noncomputable def _root_.Go.Proofs.Ytkjellhkamfciaa.V.dsize_r0 (n : Int) : Int :=
  if cLt n (0 : Int) = true then IntKind.wrap .i64 ((0 : Int) - n) else n
theorem dsize_val {α : Type} (n : Int) (k0 : Int → Option α) : M.dsize n k0 = k0 (V.dsize_r0 n) := by
  unfold M.dsize V.dsize_r0
  repeat' first | rfl | (split <;> rename_i h <;> first | simp only [if_pos h] | simp only [if_neg h] | skip)
noncomputable def dsize_c {α : Type} (ds : List D) (Q : SV → Hp → Option α) : Option α :=
  dI ds fun n ds => dE ds (Q (SV.int .i64 (V.dsize_r0 n)) ([]))
theorem dsize_c_ok {α : Type} : FnOk E.P 49 (fEnt (α := α) dsize_sp dsize_c) :=
  fEnt_ok E (look_awake_ok) (exec_sound E E_ok (look_awake_ok) (noLps_ok _) 400) fun ds Q r h => by
    unfold dsize_c at h
    obtain ⟨n, ds, rfl, h1⟩ := dI_inv h
    obtain ⟨rfl, hE⟩ := dE_inv h1
    exact ⟨[SV.int .i64 n], [], fun vs => by kernel_rfl, (dsize_eq n Q).trans ((dsize_val n (fun (x0 : Int) => Q (SV.int .i64 x0) ([]))).trans hE)⟩
noncomputable def dsize_go {α : Type} (ds : List D) (Q : SV → Hp → Option α) : Option α :=
  dI ds fun n ds => dE ds (M.dsize n (fun (x0 : Int) => Q (SV.int .i64 x0) ([])))
theorem dsize_ok {α : Type} : FnOk E.P 49 (fEnt (α := α) dsize_sp dsize_go) :=
  fEnt_ok E (look_awake_ok) (exec_sound E E_ok (look_awake_ok) (noLps_ok _) 400) fun ds Q r h => by
    unfold dsize_go at h
    obtain ⟨n, ds, rfl, h1⟩ := dI_inv h
    obtain ⟨rfl, hE⟩ := dE_inv h1
    exact ⟨[SV.int .i64 n], [], fun vs => by kernel_rfl, (dsize_eq n Q).trans hE⟩
noncomputable def look_dsize {α : Type} : LookF α := addFn 49 (fEnt dsize_sp dsize_c) look_awake
theorem look_dsize_ok {α : Type} : LookOk E.P (look_dsize (α := α)) := addFn_ok dsize_c_ok (look_awake_ok)
noncomputable def _root_.Go.Proofs.Ytkjellhkamfciaa.M.din {α : Type} (n : Int) (lo : Int) (hi : Int) (k0 : Bool → Option α) : Option α :=
  if cLe lo n = true then k0 (cLe n hi) else k0 false
theorem din_eq {α : Type} (n : Int) (lo : Int) (hi : Int) (Q : SV → Hp → Option α) : callI E look_dsize (exec E look_dsize noLps 400) 47 ([SV.int .i64 n, SV.int .i64 lo, SV.int .i64 hi]) ([]) Q = M.din n lo hi (fun (x1 : Bool) => Q (SV.bool x1) ([])) := by kernel_rfl
def din_sp : List AS := [.val (.int .i64 0), .val (.int .i64 0), .val (.int .i64 0)]
noncomputable def din_go {α : Type} (ds : List D) (Q : SV → Hp → Option α) : Option α :=
  dI ds fun n ds => dI ds fun lo ds => dI ds fun hi ds => dE ds (M.din n lo hi (fun (x1 : Bool) => Q (SV.bool x1) ([])))
theorem din_ok {α : Type} : FnOk E.P 47 (fEnt (α := α) din_sp din_go) :=
  fEnt_ok E (look_dsize_ok) (exec_sound E E_ok (look_dsize_ok) (noLps_ok _) 400) fun ds Q r h => by
    unfold din_go at h
    obtain ⟨n, ds, rfl, h1⟩ := dI_inv h
    obtain ⟨lo, ds, rfl, h2⟩ := dI_inv h1
    obtain ⟨hi, ds, rfl, h3⟩ := dI_inv h2
    obtain ⟨rfl, hE⟩ := dE_inv h3
    exact ⟨[SV.int .i64 n, SV.int .i64 lo, SV.int .i64 hi], [], fun vs => by kernel_rfl, (din_eq n lo hi Q).trans hE⟩
theorem din_v {α : Type} (n lo hi : Int) (k0 : Bool → Option α) : M.din n lo hi k0 = k0 (V.shwithin_r0 n lo hi) := by
  unfold M.din V.shwithin_r0
  repeat' first | rfl | split
noncomputable def din_h {α : Type} (ds : List D) (Q : SV → Hp → Option α) : Option α :=
  dI ds fun n ds => dI ds fun lo ds => dI ds fun hi ds => dE ds (Q (.bool (V.shwithin_r0 n lo hi)) ([]))
theorem din_h_ok {α : Type} : FnOk E.P 47 (fEnt (α := α) din_sp din_h) :=
  fEnt_ok E (look_dsize_ok) (exec_sound E E_ok (look_dsize_ok) (noLps_ok _) 400) fun ds Q r h => by
    unfold din_h at h
    obtain ⟨n, ds, rfl, h1⟩ := dI_inv h
    obtain ⟨lo, ds, rfl, h2⟩ := dI_inv h1
    obtain ⟨hi, ds, rfl, h3⟩ := dI_inv h2
    obtain ⟨rfl, hE⟩ := dE_inv h3
    exact ⟨[SV.int .i64 n, SV.int .i64 lo, SV.int .i64 hi], [], fun vs => by kernel_rfl, (din_eq n lo hi Q).trans ((din_v n lo hi _).trans hE)⟩
noncomputable def look_din {α : Type} : LookF α := addFn 47 (fEnt din_sp din_h) look_dsize
theorem look_din_ok {α : Type} : LookOk E.P (look_din (α := α)) := addFn_ok din_h_ok (look_dsize_ok)
noncomputable def _root_.Go.Proofs.Ytkjellhkamfciaa.M.dminus {α : Type} (ax : Int) (ay : Int) (az : Int) (bx : Int) (b_y : Int) (bz : Int) (k0 : Int → Int → Int → Option α) : Option α :=
  k0 (IntKind.wrap .i64 (ax - bx)) (IntKind.wrap .i64 (ay - b_y)) (IntKind.wrap .i64 (az - bz))
theorem dminus_eq {α : Type} (ax : Int) (ay : Int) (az : Int) (bx : Int) (b_y : Int) (bz : Int) (Q : SV → Hp → Option α) : callI E look_din (exec E look_din noLps 400) 59 ([SV.agg [SV.int .i64 ax, SV.int .i64 ay, SV.int .i64 az], SV.agg [SV.int .i64 bx, SV.int .i64 b_y, SV.int .i64 bz]]) ([]) Q = M.dminus ax ay az bx b_y bz (fun (x2 : Int) (x3 : Int) (x4 : Int) => Q (SV.agg [SV.int .i64 x2, SV.int .i64 x3, SV.int .i64 x4]) ([])) := by kernel_rfl
def dminus_sp : List AS := [.val (.agg [.int .i64 0, .int .i64 0, .int .i64 0]), .val (.agg [.int .i64 0, .int .i64 0, .int .i64 0])]
noncomputable def dminus_go {α : Type} (ds : List D) (Q : SV → Hp → Option α) : Option α :=
  dI ds fun ax ds => dI ds fun ay ds => dI ds fun az ds => dI ds fun bx ds => dI ds fun b_y ds => dI ds fun bz ds => dE ds (M.dminus ax ay az bx b_y bz (fun (x2 : Int) (x3 : Int) (x4 : Int) => Q (SV.agg [SV.int .i64 x2, SV.int .i64 x3, SV.int .i64 x4]) ([])))
theorem dminus_ok {α : Type} : FnOk E.P 59 (fEnt (α := α) dminus_sp dminus_go) :=
  fEnt_ok E (look_din_ok) (exec_sound E E_ok (look_din_ok) (noLps_ok _) 400) fun ds Q r h => by
    unfold dminus_go at h
    obtain ⟨ax, ds, rfl, h1⟩ := dI_inv h
    obtain ⟨ay, ds, rfl, h2⟩ := dI_inv h1
    obtain ⟨az, ds, rfl, h3⟩ := dI_inv h2
    obtain ⟨bx, ds, rfl, h4⟩ := dI_inv h3
    obtain ⟨b_y, ds, rfl, h5⟩ := dI_inv h4
    obtain ⟨bz, ds, rfl, h6⟩ := dI_inv h5
    obtain ⟨rfl, hE⟩ := dE_inv h6
    exact ⟨[SV.agg [SV.int .i64 ax, SV.int .i64 ay, SV.int .i64 az], SV.agg [SV.int .i64 bx, SV.int .i64 b_y, SV.int .i64 bz]], [], fun vs => by kernel_rfl, (dminus_eq ax ay az bx b_y bz Q).trans hE⟩
noncomputable def dminus_h {α : Type} (ds : List D) (Q : SV → Hp → Option α) : Option α :=
  dI ds fun ax ds => dI ds fun ay ds => dI ds fun az ds => dI ds fun bx ds => dI ds fun b_y ds => dI ds fun bz ds => dE ds (Q (.agg [.int .i64 (V.pSub (ax, ay, az) (bx, b_y, bz)).1, .int .i64 (V.pSub (ax, ay, az) (bx, b_y, bz)).2.1, .int .i64 (V.pSub (ax, ay, az) (bx, b_y, bz)).2.2]) ([]))
theorem dminus_h_ok {α : Type} : FnOk E.P 59 (fEnt (α := α) dminus_sp dminus_h) :=
  fEnt_ok E (look_din_ok) (exec_sound E E_ok (look_din_ok) (noLps_ok _) 400) fun ds Q r h => by
    unfold dminus_h at h
    obtain ⟨ax, ds, rfl, h1⟩ := dI_inv h
    obtain ⟨ay, ds, rfl, h2⟩ := dI_inv h1
    obtain ⟨az, ds, rfl, h3⟩ := dI_inv h2
    obtain ⟨bx, ds, rfl, h4⟩ := dI_inv h3
    obtain ⟨b_y, ds, rfl, h5⟩ := dI_inv h4
    obtain ⟨bz, ds, rfl, h6⟩ := dI_inv h5
    obtain ⟨rfl, hE⟩ := dE_inv h6
    exact ⟨[SV.agg [SV.int .i64 ax, SV.int .i64 ay, SV.int .i64 az], SV.agg [SV.int .i64 bx, SV.int .i64 b_y, SV.int .i64 bz]], [], fun vs => by kernel_rfl, (dminus_eq ax ay az bx b_y bz Q).trans ((rfl).trans hE)⟩
noncomputable def look_dminus {α : Type} : LookF α := addFn 59 (fEnt dminus_sp dminus_h) look_din
theorem look_dminus_ok {α : Type} : LookOk E.P (look_dminus (α := α)) := addFn_ok dminus_h_ok (look_din_ok)
noncomputable def _root_.Go.Proofs.Ytkjellhkamfciaa.M.dcross {α : Type} (ax : Int) (ay : Int) (az : Int) (bx : Int) (b_y : Int) (bz : Int) (k0 : Int → Int → Int → Option α) : Option α :=
  k0 (IntKind.wrap .i64 (IntKind.wrap .i64 (ay * bz) - IntKind.wrap .i64 (az * b_y))) (IntKind.wrap .i64 (IntKind.wrap .i64 (az * bx) - IntKind.wrap .i64 (ax * bz))) (IntKind.wrap .i64 (IntKind.wrap .i64 (ax * b_y) - IntKind.wrap .i64 (ay * bx)))
theorem dcross_eq {α : Type} (ax : Int) (ay : Int) (az : Int) (bx : Int) (b_y : Int) (bz : Int) (Q : SV → Hp → Option α) : callI E look_dminus (exec E look_dminus noLps 400) 79 ([SV.agg [SV.int .i64 ax, SV.int .i64 ay, SV.int .i64 az], SV.agg [SV.int .i64 bx, SV.int .i64 b_y, SV.int .i64 bz]]) ([]) Q = M.dcross ax ay az bx b_y bz (fun (x5 : Int) (x6 : Int) (x7 : Int) => Q (SV.agg [SV.int .i64 x5, SV.int .i64 x6, SV.int .i64 x7]) ([])) := by kernel_rfl
def dcross_sp : List AS := [.val (.agg [.int .i64 0, .int .i64 0, .int .i64 0]), .val (.agg [.int .i64 0, .int .i64 0, .int .i64 0])]
noncomputable def dcross_go {α : Type} (ds : List D) (Q : SV → Hp → Option α) : Option α :=
  dI ds fun ax ds => dI ds fun ay ds => dI ds fun az ds => dI ds fun bx ds => dI ds fun b_y ds => dI ds fun bz ds => dE ds (M.dcross ax ay az bx b_y bz (fun (x5 : Int) (x6 : Int) (x7 : Int) => Q (SV.agg [SV.int .i64 x5, SV.int .i64 x6, SV.int .i64 x7]) ([])))
theorem dcross_ok {α : Type} : FnOk E.P 79 (fEnt (α := α) dcross_sp dcross_go) :=
  fEnt_ok E (look_dminus_ok) (exec_sound E E_ok (look_dminus_ok) (noLps_ok _) 400) fun ds Q r h => by
    unfold dcross_go at h
    obtain ⟨ax, ds, rfl, h1⟩ := dI_inv h
    obtain ⟨ay, ds, rfl, h2⟩ := dI_inv h1
    obtain ⟨az, ds, rfl, h3⟩ := dI_inv h2
    obtain ⟨bx, ds, rfl, h4⟩ := dI_inv h3
    obtain ⟨b_y, ds, rfl, h5⟩ := dI_inv h4
    obtain ⟨bz, ds, rfl, h6⟩ := dI_inv h5
    obtain ⟨rfl, hE⟩ := dE_inv h6
    exact ⟨[SV.agg [SV.int .i64 ax, SV.int .i64 ay, SV.int .i64 az], SV.agg [SV.int .i64 bx, SV.int .i64 b_y, SV.int .i64 bz]], [], fun vs => by kernel_rfl, (dcross_eq ax ay az bx b_y bz Q).trans hE⟩
noncomputable def dcross_h {α : Type} (ds : List D) (Q : SV → Hp → Option α) : Option α :=
  dI ds fun ax ds => dI ds fun ay ds => dI ds fun az ds => dI ds fun bx ds => dI ds fun b_y ds => dI ds fun bz ds => dE ds (Q (.agg [.int .i64 (V.pCross (ax, ay, az) (bx, b_y, bz)).1, .int .i64 (V.pCross (ax, ay, az) (bx, b_y, bz)).2.1, .int .i64 (V.pCross (ax, ay, az) (bx, b_y, bz)).2.2]) ([]))
theorem dcross_h_ok {α : Type} : FnOk E.P 79 (fEnt (α := α) dcross_sp dcross_h) :=
  fEnt_ok E (look_dminus_ok) (exec_sound E E_ok (look_dminus_ok) (noLps_ok _) 400) fun ds Q r h => by
    unfold dcross_h at h
    obtain ⟨ax, ds, rfl, h1⟩ := dI_inv h
    obtain ⟨ay, ds, rfl, h2⟩ := dI_inv h1
    obtain ⟨az, ds, rfl, h3⟩ := dI_inv h2
    obtain ⟨bx, ds, rfl, h4⟩ := dI_inv h3
    obtain ⟨b_y, ds, rfl, h5⟩ := dI_inv h4
    obtain ⟨bz, ds, rfl, h6⟩ := dI_inv h5
    obtain ⟨rfl, hE⟩ := dE_inv h6
    exact ⟨[SV.agg [SV.int .i64 ax, SV.int .i64 ay, SV.int .i64 az], SV.agg [SV.int .i64 bx, SV.int .i64 b_y, SV.int .i64 bz]], [], fun vs => by kernel_rfl, (dcross_eq ax ay az bx b_y bz Q).trans ((rfl).trans hE)⟩
noncomputable def look_dcross {α : Type} : LookF α := addFn 79 (fEnt dcross_sp dcross_h) look_dminus
theorem look_dcross_ok {α : Type} : LookOk E.P (look_dcross (α := α)) := addFn_ok dcross_h_ok (look_dminus_ok)
noncomputable def _root_.Go.Proofs.Ytkjellhkamfciaa.M.ddot {α : Type} (ax : Int) (ay : Int) (az : Int) (bx : Int) (b_y : Int) (bz : Int) (k0 : Int → Option α) : Option α :=
  k0 (IntKind.wrap .i64 (IntKind.wrap .i64 (IntKind.wrap .i64 (ax * bx) + IntKind.wrap .i64 (ay * b_y)) + IntKind.wrap .i64 (az * bz)))
theorem ddot_eq {α : Type} (ax : Int) (ay : Int) (az : Int) (bx : Int) (b_y : Int) (bz : Int) (Q : SV → Hp → Option α) : callI E look_dcross (exec E look_dcross noLps 400) 58 ([SV.agg [SV.int .i64 ax, SV.int .i64 ay, SV.int .i64 az], SV.agg [SV.int .i64 bx, SV.int .i64 b_y, SV.int .i64 bz]]) ([]) Q = M.ddot ax ay az bx b_y bz (fun (x8 : Int) => Q (SV.int .i64 x8) ([])) := by kernel_rfl
def ddot_sp : List AS := [.val (.agg [.int .i64 0, .int .i64 0, .int .i64 0]), .val (.agg [.int .i64 0, .int .i64 0, .int .i64 0])]
noncomputable def ddot_go {α : Type} (ds : List D) (Q : SV → Hp → Option α) : Option α :=
  dI ds fun ax ds => dI ds fun ay ds => dI ds fun az ds => dI ds fun bx ds => dI ds fun b_y ds => dI ds fun bz ds => dE ds (M.ddot ax ay az bx b_y bz (fun (x8 : Int) => Q (SV.int .i64 x8) ([])))
theorem ddot_ok {α : Type} : FnOk E.P 58 (fEnt (α := α) ddot_sp ddot_go) :=
  fEnt_ok E (look_dcross_ok) (exec_sound E E_ok (look_dcross_ok) (noLps_ok _) 400) fun ds Q r h => by
    unfold ddot_go at h
    obtain ⟨ax, ds, rfl, h1⟩ := dI_inv h
    obtain ⟨ay, ds, rfl, h2⟩ := dI_inv h1
    obtain ⟨az, ds, rfl, h3⟩ := dI_inv h2
    obtain ⟨bx, ds, rfl, h4⟩ := dI_inv h3
    obtain ⟨b_y, ds, rfl, h5⟩ := dI_inv h4
    obtain ⟨bz, ds, rfl, h6⟩ := dI_inv h5
    obtain ⟨rfl, hE⟩ := dE_inv h6
    exact ⟨[SV.agg [SV.int .i64 ax, SV.int .i64 ay, SV.int .i64 az], SV.agg [SV.int .i64 bx, SV.int .i64 b_y, SV.int .i64 bz]], [], fun vs => by kernel_rfl, (ddot_eq ax ay az bx b_y bz Q).trans hE⟩
noncomputable def ddot_h {α : Type} (ds : List D) (Q : SV → Hp → Option α) : Option α :=
  dI ds fun ax ds => dI ds fun ay ds => dI ds fun az ds => dI ds fun bx ds => dI ds fun b_y ds => dI ds fun bz ds => dE ds (Q (.int .i64 (V.pDot (ax, ay, az) (bx, b_y, bz))) ([]))
theorem ddot_h_ok {α : Type} : FnOk E.P 58 (fEnt (α := α) ddot_sp ddot_h) :=
  fEnt_ok E (look_dcross_ok) (exec_sound E E_ok (look_dcross_ok) (noLps_ok _) 400) fun ds Q r h => by
    unfold ddot_h at h
    obtain ⟨ax, ds, rfl, h1⟩ := dI_inv h
    obtain ⟨ay, ds, rfl, h2⟩ := dI_inv h1
    obtain ⟨az, ds, rfl, h3⟩ := dI_inv h2
    obtain ⟨bx, ds, rfl, h4⟩ := dI_inv h3
    obtain ⟨b_y, ds, rfl, h5⟩ := dI_inv h4
    obtain ⟨bz, ds, rfl, h6⟩ := dI_inv h5
    obtain ⟨rfl, hE⟩ := dE_inv h6
    exact ⟨[SV.agg [SV.int .i64 ax, SV.int .i64 ay, SV.int .i64 az], SV.agg [SV.int .i64 bx, SV.int .i64 b_y, SV.int .i64 bz]], [], fun vs => by kernel_rfl, (ddot_eq ax ay az bx b_y bz Q).trans ((rfl).trans hE)⟩
noncomputable def look_ddot {α : Type} : LookF α := addFn 58 (fEnt ddot_sp ddot_h) look_dcross
theorem look_ddot_ok {α : Type} : LookOk E.P (look_ddot (α := α)) := addFn_ok ddot_h_ok (look_dcross_ok)
noncomputable def _root_.Go.Proofs.Ytkjellhkamfciaa.M.dbare_l0_step {α : Type} (kn : Int → Int → Option α) (k1 : Int → Option α) (x38 : Int) (x39 : Int) : Option α :=
  if (!cEq x39 (0 : Int)) = true then if x39 = (0 : Int) then none else kn x39 (Int.tmod x38 x39) else k1 x38
noncomputable def _root_.Go.Proofs.Ytkjellhkamfciaa.M.dbare_l0 {α : Type} (k1 : Int → Option α) : Nat → Int → Int → Option α
  | 0, _, _ => none
  | n + 1, x38, x39 => M.dbare_l0_step (M.dbare_l0 k1 n) k1 x38 x39
theorem dbare_l0_step_eq {α : Type} (x37 : Int) (x38 : Int) (x39 : Int) (x40 : Int) (x41 : Int) (x42 : Int) (x43 : Int) (x44 : Int) (x45 : Int) (x46 : List Int) (Q : Ex → St → Option α) : (loopStep E (exec E look_ddot noLps 400) 48 [false, false, true, true, false, false, true, false, false, true, false, true, true, true] 0 (codeAt E.P 48 [false, false, true, true, false, false, true, false, false, true, false, true, true, true])) (St.mk (none :: some (SV.ptr (nat_lit 0) (nat_lit 0)) :: some (SV.ptr (nat_lit 1) (nat_lit 0)) :: none :: some (SV.sl (nat_lit 2)) :: some (SV.int .i64 x37) :: some (SV.int .i64 x38) :: some (SV.int .i64 x39) :: nn 44 ([]))
  [.cells [SV.int .i64 x40, SV.int .i64 x41, SV.int .i64 x42] (nat_lit 23), .cells [SV.int .i64 x43, SV.int .i64 x44, SV.int .i64 x45] (nat_lit 23), .seq (K.int IntKind.i64) x46 (nat_lit 3)]) Q = M.dbare_l0_step (fun (x48 : Int) (x49 : Int) => Q .normal (St.mk (none :: some (SV.ptr (nat_lit 0) (nat_lit 0)) :: some (SV.ptr (nat_lit 1) (nat_lit 0)) :: none :: some (SV.sl (nat_lit 2)) :: some (SV.int .i64 x37) :: some (SV.int .i64 x48) :: some (SV.int .i64 x49) :: nn 44 ([]))
  [.cells [SV.int .i64 x40, SV.int .i64 x41, SV.int .i64 x42] (nat_lit 23), .cells [SV.int .i64 x43, SV.int .i64 x44, SV.int .i64 x45] (nat_lit 23), .seq (K.int IntKind.i64) x46 (nat_lit 3)])) (fun (x47 : Int) => Q (.exit 2) (St.mk (none :: some (SV.ptr (nat_lit 0) (nat_lit 0)) :: some (SV.ptr (nat_lit 1) (nat_lit 0)) :: none :: some (SV.sl (nat_lit 2)) :: some (SV.int .i64 x37) :: some (SV.int .i64 x47) :: nn 45 ([]))
  [.cells [SV.int .i64 x40, SV.int .i64 x41, SV.int .i64 x42] (nat_lit 23), .cells [SV.int .i64 x43, SV.int .i64 x44, SV.int .i64 x45] (nat_lit 23), .seq (K.int IntKind.i64) x46 (nat_lit 3)])) x38 x39 := by kernel_rfl
theorem dbare_l0_iter {α : Type} (x37 : Int) (x40 : Int) (x41 : Int) (x42 : Int) (x43 : Int) (x44 : Int) (x45 : Int) (x46 : List Int) (Q : Ex → St → Option α) : ∀ (n : Nat) (x38 : Int) (x39 : Int), iter (loopStep E (exec E look_ddot noLps 400) 48 [false, false, true, true, false, false, true, false, false, true, false, true, true, true] 0 (codeAt E.P 48 [false, false, true, true, false, false, true, false, false, true, false, true, true, true])) n (St.mk (none :: some (SV.ptr (nat_lit 0) (nat_lit 0)) :: some (SV.ptr (nat_lit 1) (nat_lit 0)) :: none :: some (SV.sl (nat_lit 2)) :: some (SV.int .i64 x37) :: some (SV.int .i64 x38) :: some (SV.int .i64 x39) :: nn 44 ([]))
  [.cells [SV.int .i64 x40, SV.int .i64 x41, SV.int .i64 x42] (nat_lit 23), .cells [SV.int .i64 x43, SV.int .i64 x44, SV.int .i64 x45] (nat_lit 23), .seq (K.int IntKind.i64) x46 (nat_lit 3)]) Q = M.dbare_l0 (fun (x47 : Int) => Q (.exit 2) (St.mk (none :: some (SV.ptr (nat_lit 0) (nat_lit 0)) :: some (SV.ptr (nat_lit 1) (nat_lit 0)) :: none :: some (SV.sl (nat_lit 2)) :: some (SV.int .i64 x37) :: some (SV.int .i64 x47) :: nn 45 ([]))
  [.cells [SV.int .i64 x40, SV.int .i64 x41, SV.int .i64 x42] (nat_lit 23), .cells [SV.int .i64 x43, SV.int .i64 x44, SV.int .i64 x45] (nat_lit 23), .seq (K.int IntKind.i64) x46 (nat_lit 3)])) n x38 x39
  | 0, _, _ => rfl
  | n + 1, x38, x39 => (dbare_l0_step_eq x37 x38 x39 x40 x41 x42 x43 x44 x45 x46 (iterK (loopStep E (exec E look_ddot noLps 400) 48 [false, false, true, true, false, false, true, false, false, true, false, true, true, true] 0 (codeAt E.P 48 [false, false, true, true, false, false, true, false, false, true, false, true, true, true])) n Q)).trans (congrArg (fun kn => M.dbare_l0_step kn (fun (x47 : Int) => Q (.exit 2) (St.mk (none :: some (SV.ptr (nat_lit 0) (nat_lit 0)) :: some (SV.ptr (nat_lit 1) (nat_lit 0)) :: none :: some (SV.sl (nat_lit 2)) :: some (SV.int .i64 x37) :: some (SV.int .i64 x47) :: nn 45 ([]))
  [.cells [SV.int .i64 x40, SV.int .i64 x41, SV.int .i64 x42] (nat_lit 23), .cells [SV.int .i64 x43, SV.int .i64 x44, SV.int .i64 x45] (nat_lit 23), .seq (K.int IntKind.i64) x46 (nat_lit 3)])) x38 x39) (funext fun x38 => funext fun x39 => dbare_l0_iter x37 x40 x41 x42 x43 x44 x45 x46 Q n x38 x39))
noncomputable def dbare_l0_go {α : Type} (ds : List D) (Q : Ex → St → Option α) : Option α :=
  dI ds fun x37 ds => dI ds fun x38 ds => dI ds fun x39 ds => dI ds fun x40 ds => dI ds fun x41 ds => dI ds fun x42 ds => dI ds fun x43 ds => dI ds fun x44 ds => dI ds fun x45 ds => dL (K.int IntKind.i64) ds fun x46 ds => dE ds (M.dbare_l0 (fun (x47 : Int) => Q (.exit 2) (St.mk (none :: some (SV.ptr (nat_lit 0) (nat_lit 0)) :: some (SV.ptr (nat_lit 1) (nat_lit 0)) :: none :: some (SV.sl (nat_lit 2)) :: some (SV.int .i64 x37) :: some (SV.int .i64 x47) :: nn 45 ([]))
  [.cells [SV.int .i64 x40, SV.int .i64 x41, SV.int .i64 x42] (nat_lit 23), .cells [SV.int .i64 x43, SV.int .i64 x44, SV.int .i64 x45] (nat_lit 23), .seq (K.int IntKind.i64) x46 (nat_lit 3)])) (100 + x46.length) x38 x39)
theorem dbare_l0_ok {α : Type} : LoopOk E.P 48 [false, false, true, true, false, false, true, false, false, true, false, true, true, true] 0 (lEnt (α := α) (St.mk (none :: some (SV.ptr (nat_lit 0) (nat_lit 0)) :: some (SV.ptr (nat_lit 1) (nat_lit 0)) :: none :: some (SV.sl (nat_lit 2)) :: some (SV.int .i64 (0 : Int)) :: some (SV.int .i64 (0 : Int)) :: some (SV.int .i64 (0 : Int)) :: nn 44 ([]))
  [.cells [SV.int .i64 (0 : Int), SV.int .i64 (0 : Int), SV.int .i64 (0 : Int)] (nat_lit 23), .cells [SV.int .i64 (0 : Int), SV.int .i64 (0 : Int), SV.int .i64 (0 : Int)] (nat_lit 23), .seq (K.int IntKind.i64) [] (nat_lit 3)]) dbare_l0_go) :=
  lEnt_ok E (exec_sound E E_ok (look_ddot_ok) (noLps_ok _) 400) fun ds Q r h S hS => by
    unfold dbare_l0_go at h
    obtain ⟨x37, ds, rfl, h1⟩ := dI_inv h
    obtain ⟨x38, ds, rfl, h2⟩ := dI_inv h1
    obtain ⟨x39, ds, rfl, h3⟩ := dI_inv h2
    obtain ⟨x40, ds, rfl, h4⟩ := dI_inv h3
    obtain ⟨x41, ds, rfl, h5⟩ := dI_inv h4
    obtain ⟨x42, ds, rfl, h6⟩ := dI_inv h5
    obtain ⟨x43, ds, rfl, h7⟩ := dI_inv h6
    obtain ⟨x44, ds, rfl, h8⟩ := dI_inv h7
    obtain ⟨x45, ds, rfl, h9⟩ := dI_inv h8
    obtain ⟨x46, ds, rfl, h10⟩ := dL_inv h9
    obtain ⟨rfl, hE⟩ := dE_inv h10
    have e : fillS (St.mk (none :: some (SV.ptr (nat_lit 0) (nat_lit 0)) :: some (SV.ptr (nat_lit 1) (nat_lit 0)) :: none :: some (SV.sl (nat_lit 2)) :: some (SV.int .i64 (0 : Int)) :: some (SV.int .i64 (0 : Int)) :: some (SV.int .i64 (0 : Int)) :: nn 44 ([]))
  [.cells [SV.int .i64 (0 : Int), SV.int .i64 (0 : Int), SV.int .i64 (0 : Int)] (nat_lit 23), .cells [SV.int .i64 (0 : Int), SV.int .i64 (0 : Int), SV.int .i64 (0 : Int)] (nat_lit 23), .seq (K.int IntKind.i64) [] (nat_lit 3)]) [.i x37, .i x38, .i x39, .i x40, .i x41, .i x42, .i x43, .i x44, .i x45, .l (K.int IntKind.i64) x46] = some (St.mk (none :: some (SV.ptr (nat_lit 0) (nat_lit 0)) :: some (SV.ptr (nat_lit 1) (nat_lit 0)) :: none :: some (SV.sl (nat_lit 2)) :: some (SV.int .i64 x37) :: some (SV.int .i64 x38) :: some (SV.int .i64 x39) :: nn 44 ([]))
  [.cells [SV.int .i64 x40, SV.int .i64 x41, SV.int .i64 x42] (nat_lit 23), .cells [SV.int .i64 x43, SV.int .i64 x44, SV.int .i64 x45] (nat_lit 23), .seq (K.int IntKind.i64) x46 (nat_lit 3)]) := by kernel_rfl
    rw [e] at hS
    cases hS
    exact ⟨_, (dbare_l0_iter x37 x40 x41 x42 x43 x44 x45 x46 Q _ x38 x39).trans hE⟩
noncomputable def dbare_l0_lps {α : Type} : LookL α := addLp 48 [false, false, true, true, false, false, true, false, false, true, false, true, true, true] 0 (lEnt (St.mk (none :: some (SV.ptr (nat_lit 0) (nat_lit 0)) :: some (SV.ptr (nat_lit 1) (nat_lit 0)) :: none :: some (SV.sl (nat_lit 2)) :: some (SV.int .i64 (0 : Int)) :: some (SV.int .i64 (0 : Int)) :: some (SV.int .i64 (0 : Int)) :: nn 44 ([]))
  [.cells [SV.int .i64 (0 : Int), SV.int .i64 (0 : Int), SV.int .i64 (0 : Int)] (nat_lit 23), .cells [SV.int .i64 (0 : Int), SV.int .i64 (0 : Int), SV.int .i64 (0 : Int)] (nat_lit 23), .seq (K.int IntKind.i64) [] (nat_lit 3)]) dbare_l0_go) noLps
theorem dbare_l0_lps_ok {α : Type} : LoopsOk E.P (dbare_l0_lps (α := α)) := addLp_ok dbare_l0_ok (noLps_ok _)

noncomputable def _root_.Go.Proofs.Ytkjellhkamfciaa.M.dbare_l1_step {α : Type} (x58 : List Int) (kn : Int → Int → Option α) (k1 : Int → Option α) (x50 : Int) (x51 : Int) : Option α :=
  if cLt x51 (3 : Int) = true then if (0 : Int) ≤ x51 ∧ x51 < (↑(List.length x58) : Int) then M.dbare_l0 (fun (x59 : Int) ↦ kn x59 (IntKind.wrap .i64 (x51 + (1 : Int)))) ((100 : Nat) + List.length x58) x50 (List.getD x58 (Int.toNat x51) (0 : Int)) else none else k1 x50
noncomputable def _root_.Go.Proofs.Ytkjellhkamfciaa.M.dbare_l1 {α : Type} (x58 : List Int) (k1 : Int → Option α) : Nat → Int → Int → Option α
  | 0, _, _ => none
  | n + 1, x50, x51 => M.dbare_l1_step x58 (M.dbare_l1 x58 k1 n) k1 x50 x51
theorem dbare_l1_step_eq {α : Type} (x50 : Int) (x51 : Int) (x52 : Int) (x53 : Int) (x54 : Int) (x55 : Int) (x56 : Int) (x57 : Int) (x58 : List Int) (Q : Ex → St → Option α) : (loopStep E (exec E look_ddot dbare_l0_lps 400) 48 [false, true, false, true, true, true] 0 (codeAt E.P 48 [false, true, false, true, true, true])) (St.mk (none :: some (SV.ptr (nat_lit 0) (nat_lit 0)) :: some (SV.ptr (nat_lit 1) (nat_lit 0)) :: some (SV.int .i64 x50) :: some (SV.sl (nat_lit 2)) :: some (SV.int .i64 x51) :: nn 46 ([]))
  [.cells [SV.int .i64 x52, SV.int .i64 x53, SV.int .i64 x54] (nat_lit 23), .cells [SV.int .i64 x55, SV.int .i64 x56, SV.int .i64 x57] (nat_lit 23), .seq (K.int IntKind.i64) x58 (nat_lit 3)]) Q = M.dbare_l1_step x58 (fun (x61 : Int) (x62 : Int) => Q .normal (St.mk (none :: some (SV.ptr (nat_lit 0) (nat_lit 0)) :: some (SV.ptr (nat_lit 1) (nat_lit 0)) :: some (SV.int .i64 x61) :: some (SV.sl (nat_lit 2)) :: some (SV.int .i64 x62) :: nn 46 ([]))
  [.cells [SV.int .i64 x52, SV.int .i64 x53, SV.int .i64 x54] (nat_lit 23), .cells [SV.int .i64 x55, SV.int .i64 x56, SV.int .i64 x57] (nat_lit 23), .seq (K.int IntKind.i64) x58 (nat_lit 3)])) (fun (x60 : Int) => Q (.exit 0) (St.mk (none :: some (SV.ptr (nat_lit 0) (nat_lit 0)) :: some (SV.ptr (nat_lit 1) (nat_lit 0)) :: some (SV.int .i64 x60) :: nn 48 ([]))
  [.cells [SV.int .i64 x52, SV.int .i64 x53, SV.int .i64 x54] (nat_lit 23), .cells [SV.int .i64 x55, SV.int .i64 x56, SV.int .i64 x57] (nat_lit 23)])) x50 x51 := by kernel_rfl
theorem dbare_l1_iter {α : Type} (x52 : Int) (x53 : Int) (x54 : Int) (x55 : Int) (x56 : Int) (x57 : Int) (x58 : List Int) (Q : Ex → St → Option α) : ∀ (n : Nat) (x50 : Int) (x51 : Int), iter (loopStep E (exec E look_ddot dbare_l0_lps 400) 48 [false, true, false, true, true, true] 0 (codeAt E.P 48 [false, true, false, true, true, true])) n (St.mk (none :: some (SV.ptr (nat_lit 0) (nat_lit 0)) :: some (SV.ptr (nat_lit 1) (nat_lit 0)) :: some (SV.int .i64 x50) :: some (SV.sl (nat_lit 2)) :: some (SV.int .i64 x51) :: nn 46 ([]))
  [.cells [SV.int .i64 x52, SV.int .i64 x53, SV.int .i64 x54] (nat_lit 23), .cells [SV.int .i64 x55, SV.int .i64 x56, SV.int .i64 x57] (nat_lit 23), .seq (K.int IntKind.i64) x58 (nat_lit 3)]) Q = M.dbare_l1 x58 (fun (x60 : Int) => Q (.exit 0) (St.mk (none :: some (SV.ptr (nat_lit 0) (nat_lit 0)) :: some (SV.ptr (nat_lit 1) (nat_lit 0)) :: some (SV.int .i64 x60) :: nn 48 ([]))
  [.cells [SV.int .i64 x52, SV.int .i64 x53, SV.int .i64 x54] (nat_lit 23), .cells [SV.int .i64 x55, SV.int .i64 x56, SV.int .i64 x57] (nat_lit 23)])) n x50 x51
  | 0, _, _ => rfl
  | n + 1, x50, x51 => (dbare_l1_step_eq x50 x51 x52 x53 x54 x55 x56 x57 x58 (iterK (loopStep E (exec E look_ddot dbare_l0_lps 400) 48 [false, true, false, true, true, true] 0 (codeAt E.P 48 [false, true, false, true, true, true])) n Q)).trans (congrArg (fun kn => M.dbare_l1_step x58 kn (fun (x60 : Int) => Q (.exit 0) (St.mk (none :: some (SV.ptr (nat_lit 0) (nat_lit 0)) :: some (SV.ptr (nat_lit 1) (nat_lit 0)) :: some (SV.int .i64 x60) :: nn 48 ([]))
  [.cells [SV.int .i64 x52, SV.int .i64 x53, SV.int .i64 x54] (nat_lit 23), .cells [SV.int .i64 x55, SV.int .i64 x56, SV.int .i64 x57] (nat_lit 23)])) x50 x51) (funext fun x50 => funext fun x51 => dbare_l1_iter x52 x53 x54 x55 x56 x57 x58 Q n x50 x51))
noncomputable def dbare_l1_go {α : Type} (ds : List D) (Q : Ex → St → Option α) : Option α :=
  dI ds fun x50 ds => dI ds fun x51 ds => dI ds fun x52 ds => dI ds fun x53 ds => dI ds fun x54 ds => dI ds fun x55 ds => dI ds fun x56 ds => dI ds fun x57 ds => dL (K.int IntKind.i64) ds fun x58 ds => dE ds (M.dbare_l1 x58 (fun (x60 : Int) => Q (.exit 0) (St.mk (none :: some (SV.ptr (nat_lit 0) (nat_lit 0)) :: some (SV.ptr (nat_lit 1) (nat_lit 0)) :: some (SV.int .i64 x60) :: nn 48 ([]))
  [.cells [SV.int .i64 x52, SV.int .i64 x53, SV.int .i64 x54] (nat_lit 23), .cells [SV.int .i64 x55, SV.int .i64 x56, SV.int .i64 x57] (nat_lit 23)])) (100 + x58.length) x50 x51)
theorem dbare_l1_ok {α : Type} : LoopOk E.P 48 [false, true, false, true, true, true] 0 (lEnt (α := α) (St.mk (none :: some (SV.ptr (nat_lit 0) (nat_lit 0)) :: some (SV.ptr (nat_lit 1) (nat_lit 0)) :: some (SV.int .i64 (0 : Int)) :: some (SV.sl (nat_lit 2)) :: some (SV.int .i64 (0 : Int)) :: nn 46 ([]))
  [.cells [SV.int .i64 (0 : Int), SV.int .i64 (0 : Int), SV.int .i64 (0 : Int)] (nat_lit 23), .cells [SV.int .i64 (0 : Int), SV.int .i64 (0 : Int), SV.int .i64 (0 : Int)] (nat_lit 23), .seq (K.int IntKind.i64) [] (nat_lit 3)]) dbare_l1_go) :=
  lEnt_ok E (exec_sound E E_ok (look_ddot_ok) (dbare_l0_lps_ok) 400) fun ds Q r h S hS => by
    unfold dbare_l1_go at h
    obtain ⟨x50, ds, rfl, h1⟩ := dI_inv h
    obtain ⟨x51, ds, rfl, h2⟩ := dI_inv h1
    obtain ⟨x52, ds, rfl, h3⟩ := dI_inv h2
    obtain ⟨x53, ds, rfl, h4⟩ := dI_inv h3
    obtain ⟨x54, ds, rfl, h5⟩ := dI_inv h4
    obtain ⟨x55, ds, rfl, h6⟩ := dI_inv h5
    obtain ⟨x56, ds, rfl, h7⟩ := dI_inv h6
    obtain ⟨x57, ds, rfl, h8⟩ := dI_inv h7
    obtain ⟨x58, ds, rfl, h9⟩ := dL_inv h8
    obtain ⟨rfl, hE⟩ := dE_inv h9
    have e : fillS (St.mk (none :: some (SV.ptr (nat_lit 0) (nat_lit 0)) :: some (SV.ptr (nat_lit 1) (nat_lit 0)) :: some (SV.int .i64 (0 : Int)) :: some (SV.sl (nat_lit 2)) :: some (SV.int .i64 (0 : Int)) :: nn 46 ([]))
  [.cells [SV.int .i64 (0 : Int), SV.int .i64 (0 : Int), SV.int .i64 (0 : Int)] (nat_lit 23), .cells [SV.int .i64 (0 : Int), SV.int .i64 (0 : Int), SV.int .i64 (0 : Int)] (nat_lit 23), .seq (K.int IntKind.i64) [] (nat_lit 3)]) [.i x50, .i x51, .i x52, .i x53, .i x54, .i x55, .i x56, .i x57, .l (K.int IntKind.i64) x58] = some (St.mk (none :: some (SV.ptr (nat_lit 0) (nat_lit 0)) :: some (SV.ptr (nat_lit 1) (nat_lit 0)) :: some (SV.int .i64 x50) :: some (SV.sl (nat_lit 2)) :: some (SV.int .i64 x51) :: nn 46 ([]))
  [.cells [SV.int .i64 x52, SV.int .i64 x53, SV.int .i64 x54] (nat_lit 23), .cells [SV.int .i64 x55, SV.int .i64 x56, SV.int .i64 x57] (nat_lit 23), .seq (K.int IntKind.i64) x58 (nat_lit 3)]) := by kernel_rfl
    rw [e] at hS
    cases hS
    exact ⟨_, (dbare_l1_iter x52 x53 x54 x55 x56 x57 x58 Q _ x50 x51).trans hE⟩
noncomputable def dbare_l1_lps {α : Type} : LookL α := addLp 48 [false, true, false, true, true, true] 0 (lEnt (St.mk (none :: some (SV.ptr (nat_lit 0) (nat_lit 0)) :: some (SV.ptr (nat_lit 1) (nat_lit 0)) :: some (SV.int .i64 (0 : Int)) :: some (SV.sl (nat_lit 2)) :: some (SV.int .i64 (0 : Int)) :: nn 46 ([]))
  [.cells [SV.int .i64 (0 : Int), SV.int .i64 (0 : Int), SV.int .i64 (0 : Int)] (nat_lit 23), .cells [SV.int .i64 (0 : Int), SV.int .i64 (0 : Int), SV.int .i64 (0 : Int)] (nat_lit 23), .seq (K.int IntKind.i64) [] (nat_lit 3)]) dbare_l1_go) dbare_l0_lps
theorem dbare_l1_lps_ok {α : Type} : LoopsOk E.P (dbare_l1_lps (α := α)) := addLp_ok dbare_l1_ok (dbare_l0_lps_ok)

noncomputable def _root_.Go.Proofs.Ytkjellhkamfciaa.M.dbare {α : Type} (ax : Int) (ay : Int) (az : Int) (k0 : Int → Int → Int → Option α) : Option α :=
  M.dbare_l1 [V.dsize_r0 ax, V.dsize_r0 ay, V.dsize_r0 az] (fun (x63 : Int) ↦ if cEq x63 (0 : Int) = true then k0 ax ay az else if x63 = (0 : Int) then none else if x63 = (0 : Int) then none else if x63 = (0 : Int) then none else k0 (IntKind.wrap .i64 (Int.tdiv ax x63)) (IntKind.wrap .i64 (Int.tdiv ay x63)) (IntKind.wrap .i64 (Int.tdiv az x63))) ((100 : Nat) + ((2 : Nat) + (1 : Nat))) (0 : Int) (0 : Int)
theorem dbare_eq {α : Type} (ax : Int) (ay : Int) (az : Int) (Q : SV → Hp → Option α) : callI E look_ddot (exec E look_ddot dbare_l1_lps 400) 48 ([SV.agg [SV.int .i64 ax, SV.int .i64 ay, SV.int .i64 az]]) ([]) Q = M.dbare ax ay az (fun (x64 : Int) (x65 : Int) (x66 : Int) => Q (SV.agg [SV.int .i64 x64, SV.int .i64 x65, SV.int .i64 x66]) ([])) := by kernel_rfl
def dbare_sp : List AS := [.val (.agg [.int .i64 0, .int .i64 0, .int .i64 0])]
noncomputable def dbare_go {α : Type} (ds : List D) (Q : SV → Hp → Option α) : Option α :=
  dI ds fun ax ds => dI ds fun ay ds => dI ds fun az ds => dE ds (M.dbare ax ay az (fun (x64 : Int) (x65 : Int) (x66 : Int) => Q (SV.agg [SV.int .i64 x64, SV.int .i64 x65, SV.int .i64 x66]) ([])))
theorem dbare_ok {α : Type} : FnOk E.P 48 (fEnt (α := α) dbare_sp dbare_go) :=
  fEnt_ok E (look_ddot_ok) (exec_sound E E_ok (look_ddot_ok) (dbare_l1_lps_ok) 400) fun ds Q r h => by
    unfold dbare_go at h
    obtain ⟨ax, ds, rfl, h1⟩ := dI_inv h
    obtain ⟨ay, ds, rfl, h2⟩ := dI_inv h1
    obtain ⟨az, ds, rfl, h3⟩ := dI_inv h2
    obtain ⟨rfl, hE⟩ := dE_inv h3
    exact ⟨[SV.agg [SV.int .i64 ax, SV.int .i64 ay, SV.int .i64 az]], [], fun vs => by kernel_rfl, (dbare_eq ax ay az Q).trans hE⟩
theorem dgcd_val {α : Type} (k1 : Int → Option α) : ∀ (k f a b : Nat), b < 2 ^ k → 2 * k + 1 ≤ f → M.dbare_l0 k1 f (a : Int) (b : Int) = k1 ((Nat.gcd a b : Nat) : Int) := by
  intro k
  induction k with
  | zero =>
    intro f a b hb hf
    obtain ⟨f, rfl⟩ : ∃ g, f = g + 1 := ⟨f - 1, by omega⟩
    have h0 : b = 0 := by simp at hb; exact hb
    subst h0
    simp [M.dbare_l0, M.dbare_l0_step, cEq_eq]
  | succ k ih =>
    intro f a b hb hf
    obtain ⟨f, rfl⟩ : ∃ g, f = g + 2 := ⟨f - 2, by omega⟩
    by_cases h0 : b = 0
    · subst h0
      simp [M.dbare_l0, M.dbare_l0_step, cEq_eq]
    · have hbi : (b : Int) ≠ 0 := by omega
      have t1 : Int.tmod (a : Int) (b : Int) = ((a % b : Nat) : Int) := rfl
      by_cases h1 : a % b = 0
      · have e : Nat.gcd a b = b := by rw [Nat.gcd_comm, Nat.gcd_rec, h1, Nat.gcd_zero_left]
        simp [M.dbare_l0, M.dbare_l0_step, cEq_eq, hbi, t1, h1, e, h0]
      · have h1i : ((a % b : Nat) : Int) ≠ 0 := by omega
        have t2 : Int.tmod (b : Int) ((a % b : Nat) : Int) = ((b % (a % b) : Nat) : Int) := rfl
        have hh := mod_half (Nat.pos_of_ne_zero h1) (Nat.mod_lt a (Nat.pos_of_ne_zero h0))
        have e : Nat.gcd (a % b) (b % (a % b)) = Nat.gcd a b := by rw [Nat.gcd_comm (a % b), ← Nat.gcd_rec, ← Nat.gcd_rec, Nat.gcd_comm]
        have hi := ih f (a % b) (b % (a % b)) (by rw [Nat.pow_succ] at hb; omega) (by omega)
        rw [e] at hi
        rw [← hi]
        show M.dbare_l0_step _ k1 _ _ = _
        unfold M.dbare_l0_step
        rw [cEq_eq, if_pos (by simpa using h0), if_neg hbi, t1]
        show M.dbare_l0_step _ k1 _ _ = _
        unfold M.dbare_l0_step
        rw [cEq_eq, if_pos (by simp only [Bool.not_eq_true', beq_eq_false_iff_ne, ne_eq]; exact h1i), if_neg h1i, t2]
theorem dsz_abs {n : Int} (h : -9223372036854775807 ≤ n ∧ n ≤ 9223372036854775807) : V.dsize_r0 n = (n.natAbs : Int) := by
  unfold V.dsize_r0
  rw [cLt_eq, IntWalk.i64_in _ (by omega)]
  by_cases hn : n < 0
  · rw [if_pos (by simpa using hn)]; omega
  · rw [if_neg (by simpa using hn)]; omega
noncomputable def _root_.Go.Proofs.Ytkjellhkamfciaa.V.brB (p : P3) : Bool := hid (!bigP p 4398046511104)
noncomputable def _root_.Go.Proofs.Ytkjellhkamfciaa.V.pBare (p : P3) : P3 := hid (bareP p)
theorem brB_iff {p : P3} : V.brB p = true ↔ bigP p 4398046511104 = false := by unfold V.brB; rw [hid_eq]; simp
theorem dbare_v {α : Type} (ax ay az : Int) (hg : V.brB (ax, ay, az) = true) (k0 : Int → Int → Int → Option α) : M.dbare ax ay az k0 = k0 (V.pBare (ax, ay, az)).1 (V.pBare (ax, ay, az)).2.1 (V.pBare (ax, ay, az)).2.2 := by
  have hb := brB_iff.1 hg
  obtain ⟨h1, h2, h3⟩ := bigP_false hb
  simp only at h1 h2 h3
  unfold M.dbare V.pBare
  rw [hid_eq, dsz_abs (by omega), dsz_abs (by omega), dsz_abs (by omega)]
  have w0 : IntKind.wrap .i64 (0 + 1) = 1 := by decide
  have w1 : IntKind.wrap .i64 (1 + 1) = 2 := by decide
  have w2 : IntKind.wrap .i64 (2 + 1) = 3 := by decide
  have l0 : cLt (0 : Int) 3 = true := by rw [cLt_eq]; decide
  have l1 : cLt (1 : Int) 3 = true := by rw [cLt_eq]; decide
  have l2 : cLt (2 : Int) 3 = true := by rw [cLt_eq]; decide
  have l3 : ¬ cLt (3 : Int) 3 = true := by rw [cLt_eq]; decide
  have c0 : (0 : Int) ≤ 0 ∧ (0 : Int) < ((List.length [(ax.natAbs : Int), (ay.natAbs : Int), (az.natAbs : Int)] : Nat) : Int) := by simp
  have c1 : (0 : Int) ≤ 1 ∧ (1 : Int) < ((List.length [(ax.natAbs : Int), (ay.natAbs : Int), (az.natAbs : Int)] : Nat) : Int) := by simp
  have c2 : (0 : Int) ≤ 2 ∧ (2 : Int) < ((List.length [(ax.natAbs : Int), (ay.natAbs : Int), (az.natAbs : Int)] : Nat) : Int) := by simp
  rw [show (100 : Nat) + (2 + 1) = 99 + 4 from rfl]
  unfold M.dbare_l1 M.dbare_l1_step
  rw [if_pos l0, if_pos c0]
  refine Eq.trans (dgcd_val _ 49 _ 0 ax.natAbs (by omega) (by simp)) ?_
  rw [w0]
  unfold M.dbare_l1 M.dbare_l1_step
  rw [if_pos l1, if_pos c1]
  refine Eq.trans (dgcd_val _ 49 _ _ ay.natAbs (by omega) (by simp)) ?_
  rw [w1]
  unfold M.dbare_l1 M.dbare_l1_step
  rw [if_pos l2, if_pos c2]
  refine Eq.trans (dgcd_val _ 49 _ _ az.natAbs (by omega) (by simp)) ?_
  rw [w2]
  unfold M.dbare_l1 M.dbare_l1_step
  have hgd : Nat.gcd (Nat.gcd ax.natAbs ay.natAbs) az.natAbs = gcd3 (ax, ay, az) := rfl
  rw [if_neg l3, Nat.gcd_zero_left, hgd]
  show (if cEq ((gcd3 (ax, ay, az) : Nat) : Int) 0 = true then k0 ax ay az else if ((gcd3 (ax, ay, az) : Nat) : Int) = 0 then none else if ((gcd3 (ax, ay, az) : Nat) : Int) = 0 then none else if ((gcd3 (ax, ay, az) : Nat) : Int) = 0 then none else k0 (IntKind.wrap .i64 (Int.tdiv ax (gcd3 (ax, ay, az)))) (IntKind.wrap .i64 (Int.tdiv ay (gcd3 (ax, ay, az)))) (IntKind.wrap .i64 (Int.tdiv az (gcd3 (ax, ay, az))))) = _
  by_cases h0 : (ax, ay, az) = ((0, 0, 0) : P3)
  · cases h0
    rw [if_pos (by rw [cEq_eq]; decide)]
    rfl
  · have hp := gcd3_pos h0
    have hq : (gcd3 (ax, ay, az) : Int) ≠ 0 := by omega
    rw [if_neg (by rw [cEq_eq]; simpa using hq)]
    have hd := bigP_false (bigP_div (gcd3 (ax, ay, az)) hb)
    simp only [divP] at hd
    rw [if_neg hq, if_neg hq, if_neg hq]
    rw [IntWalk.i64_in _ (by omega), IntWalk.i64_in _ (by omega), IntWalk.i64_in _ (by omega)]
    rfl
noncomputable def dbare_h {α : Type} (ds : List D) (Q : SV → Hp → Option α) : Option α :=
  dI ds fun ax ds => dI ds fun ay ds => dI ds fun az ds => dE ds (if V.brB (ax, ay, az) = true then Q (.agg [.int .i64 (V.pBare (ax, ay, az)).1, .int .i64 (V.pBare (ax, ay, az)).2.1, .int .i64 (V.pBare (ax, ay, az)).2.2]) ([]) else none)
theorem dbare_h_ok {α : Type} : FnOk E.P 48 (fEnt (α := α) dbare_sp dbare_h) :=
  fEnt_ok E (look_ddot_ok) (exec_sound E E_ok (look_ddot_ok) (dbare_l1_lps_ok) 400) fun ds Q r h => by
    unfold dbare_h at h
    obtain ⟨ax, ds, rfl, h1⟩ := dI_inv h
    obtain ⟨ay, ds, rfl, h2⟩ := dI_inv h1
    obtain ⟨az, ds, rfl, h3⟩ := dI_inv h2
    obtain ⟨rfl, hE⟩ := dE_inv h3
    split at hE
    · rename_i hg
      exact ⟨[SV.agg [SV.int .i64 ax, SV.int .i64 ay, SV.int .i64 az]], [], fun vs => by kernel_rfl, (dbare_eq ax ay az Q).trans ((dbare_v ax ay az hg _).trans hE)⟩
    · cases hE
noncomputable def look_dbare {α : Type} : LookF α := addFn 48 (fEnt dbare_sp dbare_h) look_ddot
theorem look_dbare_ok {α : Type} : LookOk E.P (look_dbare (α := α)) := addFn_ok dbare_h_ok (look_ddot_ok)
end Go.Proofs.Ytkjellhkamfciaa.Sx
