/- shape: directions. -/
import Derived.Test.YtkjellhkamfciaaFxG
import Derived.Test.YtkjellhkamfciaaFxP
namespace Go.Proofs.Ytkjellhkamfciaa.Sx
open Go
set_option maxRecDepth 20000
set_option linter.unusedVariables false
set_option linter.unusedSimpArgs false
abbrev P3 := Int × Int × Int
/-- (Hidden, so that no checker reckons it.) -/
noncomputable def hid {τ : Type} (x : τ) : τ := Classical.choose (⟨x, rfl⟩ : ∃ r : τ, r = x)
theorem hid_eq {τ : Type} (x : τ) : hid x = x := Classical.choose_spec (⟨x, rfl⟩ : ∃ r : τ, r = x)
def _root_.Go.Proofs.Ytkjellhkamfciaa.V.pSub (a b : P3) : P3 := (IntKind.wrap .i64 (a.1 - b.1), IntKind.wrap .i64 (a.2.1 - b.2.1), IntKind.wrap .i64 (a.2.2 - b.2.2))
def _root_.Go.Proofs.Ytkjellhkamfciaa.V.pCross (a b : P3) : P3 := (IntKind.wrap .i64 (IntKind.wrap .i64 (a.2.1 * b.2.2) - IntKind.wrap .i64 (a.2.2 * b.2.1)), IntKind.wrap .i64 (IntKind.wrap .i64 (a.2.2 * b.1) - IntKind.wrap .i64 (a.1 * b.2.2)), IntKind.wrap .i64 (IntKind.wrap .i64 (a.1 * b.2.1) - IntKind.wrap .i64 (a.2.1 * b.1)))
def _root_.Go.Proofs.Ytkjellhkamfciaa.V.pDot (a b : P3) : Int := IntKind.wrap .i64 (IntKind.wrap .i64 (IntKind.wrap .i64 (a.1 * b.1) + IntKind.wrap .i64 (a.2.1 * b.2.1)) + IntKind.wrap .i64 (a.2.2 * b.2.2))
noncomputable def _root_.Go.Proofs.Ytkjellhkamfciaa.M.shminus {α : Type} (ax : Int) (ay : Int) (az : Int) (bx : Int) (b_y : Int) (bz : Int) (k0 : Int → Int → Int → Option α) : Option α :=
  k0 (IntKind.wrap .i64 (ax - bx)) (IntKind.wrap .i64 (ay - b_y)) (IntKind.wrap .i64 (az - bz))
theorem shminus_eq {α : Type} (ax : Int) (ay : Int) (az : Int) (bx : Int) (b_y : Int) (bz : Int) (Q : SV → Hp → Option α) : callI E look_ratio (exec E look_ratio noLps 400) 51 ([SV.agg [SV.int .i64 ax, SV.int .i64 ay, SV.int .i64 az], SV.agg [SV.int .i64 bx, SV.int .i64 b_y, SV.int .i64 bz]]) ([]) Q = M.shminus ax ay az bx b_y bz (fun (x0 : Int) (x1 : Int) (x2 : Int) => Q (SV.agg [SV.int .i64 x0, SV.int .i64 x1, SV.int .i64 x2]) ([])) := by kernel_rfl
def shminus_sp : List AS := [.val (.agg [.int .i64 0, .int .i64 0, .int .i64 0]), .val (.agg [.int .i64 0, .int .i64 0, .int .i64 0])]
noncomputable def shminus_go {α : Type} (ds : List D) (Q : SV → Hp → Option α) : Option α :=
  dI ds fun ax ds => dI ds fun ay ds => dI ds fun az ds => dI ds fun bx ds => dI ds fun b_y ds => dI ds fun bz ds => dE ds (M.shminus ax ay az bx b_y bz (fun (x0 : Int) (x1 : Int) (x2 : Int) => Q (SV.agg [SV.int .i64 x0, SV.int .i64 x1, SV.int .i64 x2]) ([])))
theorem shminus_ok {α : Type} : FnOk E.P 51 (fEnt (α := α) shminus_sp shminus_go) :=
  fEnt_ok E (look_ratio_ok) (exec_sound E E_ok (look_ratio_ok) (noLps_ok _) 400) fun ds Q r h => by
    unfold shminus_go at h
    obtain ⟨ax, ds, rfl, h1⟩ := dI_inv h
    obtain ⟨ay, ds, rfl, h2⟩ := dI_inv h1
    obtain ⟨az, ds, rfl, h3⟩ := dI_inv h2
    obtain ⟨bx, ds, rfl, h4⟩ := dI_inv h3
    obtain ⟨b_y, ds, rfl, h5⟩ := dI_inv h4
    obtain ⟨bz, ds, rfl, h6⟩ := dI_inv h5
    obtain ⟨rfl, hE⟩ := dE_inv h6
    exact ⟨[SV.agg [SV.int .i64 ax, SV.int .i64 ay, SV.int .i64 az], SV.agg [SV.int .i64 bx, SV.int .i64 b_y, SV.int .i64 bz]], [], fun vs => by kernel_rfl, (shminus_eq ax ay az bx b_y bz Q).trans hE⟩
noncomputable def shminus_h {α : Type} (ds : List D) (Q : SV → Hp → Option α) : Option α :=
  dI ds fun ax ds => dI ds fun ay ds => dI ds fun az ds => dI ds fun bx ds => dI ds fun b_y ds => dI ds fun bz ds => dE ds (Q (.agg [.int .i64 (V.pSub (ax, ay, az) (bx, b_y, bz)).1, .int .i64 (V.pSub (ax, ay, az) (bx, b_y, bz)).2.1, .int .i64 (V.pSub (ax, ay, az) (bx, b_y, bz)).2.2]) ([]))
theorem shminus_h_ok {α : Type} : FnOk E.P 51 (fEnt (α := α) shminus_sp shminus_h) :=
  fEnt_ok E (look_ratio_ok) (exec_sound E E_ok (look_ratio_ok) (noLps_ok _) 400) fun ds Q r h => by
    unfold shminus_h at h
    obtain ⟨ax, ds, rfl, h1⟩ := dI_inv h
    obtain ⟨ay, ds, rfl, h2⟩ := dI_inv h1
    obtain ⟨az, ds, rfl, h3⟩ := dI_inv h2
    obtain ⟨bx, ds, rfl, h4⟩ := dI_inv h3
    obtain ⟨b_y, ds, rfl, h5⟩ := dI_inv h4
    obtain ⟨bz, ds, rfl, h6⟩ := dI_inv h5
    obtain ⟨rfl, hE⟩ := dE_inv h6
    exact ⟨[SV.agg [SV.int .i64 ax, SV.int .i64 ay, SV.int .i64 az], SV.agg [SV.int .i64 bx, SV.int .i64 b_y, SV.int .i64 bz]], [], fun vs => by kernel_rfl, (shminus_eq ax ay az bx b_y bz Q).trans ((rfl).trans hE)⟩
noncomputable def look_shminus {α : Type} : LookF α := addFn 51 (fEnt shminus_sp shminus_h) look_ratio
theorem look_shminus_ok {α : Type} : LookOk E.P (look_shminus (α := α)) := addFn_ok shminus_h_ok (look_ratio_ok)
noncomputable def _root_.Go.Proofs.Ytkjellhkamfciaa.M.shcross {α : Type} (ax : Int) (ay : Int) (az : Int) (bx : Int) (b_y : Int) (bz : Int) (k0 : Int → Int → Int → Option α) : Option α :=
  k0 (IntKind.wrap .i64 (IntKind.wrap .i64 (ay * bz) - IntKind.wrap .i64 (az * b_y))) (IntKind.wrap .i64 (IntKind.wrap .i64 (az * bx) - IntKind.wrap .i64 (ax * bz))) (IntKind.wrap .i64 (IntKind.wrap .i64 (ax * b_y) - IntKind.wrap .i64 (ay * bx)))
theorem shcross_eq {α : Type} (ax : Int) (ay : Int) (az : Int) (bx : Int) (b_y : Int) (bz : Int) (Q : SV → Hp → Option α) : callI E look_shminus (exec E look_shminus noLps 400) 52 ([SV.agg [SV.int .i64 ax, SV.int .i64 ay, SV.int .i64 az], SV.agg [SV.int .i64 bx, SV.int .i64 b_y, SV.int .i64 bz]]) ([]) Q = M.shcross ax ay az bx b_y bz (fun (x3 : Int) (x4 : Int) (x5 : Int) => Q (SV.agg [SV.int .i64 x3, SV.int .i64 x4, SV.int .i64 x5]) ([])) := by kernel_rfl
def shcross_sp : List AS := [.val (.agg [.int .i64 0, .int .i64 0, .int .i64 0]), .val (.agg [.int .i64 0, .int .i64 0, .int .i64 0])]
noncomputable def shcross_go {α : Type} (ds : List D) (Q : SV → Hp → Option α) : Option α :=
  dI ds fun ax ds => dI ds fun ay ds => dI ds fun az ds => dI ds fun bx ds => dI ds fun b_y ds => dI ds fun bz ds => dE ds (M.shcross ax ay az bx b_y bz (fun (x3 : Int) (x4 : Int) (x5 : Int) => Q (SV.agg [SV.int .i64 x3, SV.int .i64 x4, SV.int .i64 x5]) ([])))
theorem shcross_ok {α : Type} : FnOk E.P 52 (fEnt (α := α) shcross_sp shcross_go) :=
  fEnt_ok E (look_shminus_ok) (exec_sound E E_ok (look_shminus_ok) (noLps_ok _) 400) fun ds Q r h => by
    unfold shcross_go at h
    obtain ⟨ax, ds, rfl, h1⟩ := dI_inv h
    obtain ⟨ay, ds, rfl, h2⟩ := dI_inv h1
    obtain ⟨az, ds, rfl, h3⟩ := dI_inv h2
    obtain ⟨bx, ds, rfl, h4⟩ := dI_inv h3
    obtain ⟨b_y, ds, rfl, h5⟩ := dI_inv h4
    obtain ⟨bz, ds, rfl, h6⟩ := dI_inv h5
    obtain ⟨rfl, hE⟩ := dE_inv h6
    exact ⟨[SV.agg [SV.int .i64 ax, SV.int .i64 ay, SV.int .i64 az], SV.agg [SV.int .i64 bx, SV.int .i64 b_y, SV.int .i64 bz]], [], fun vs => by kernel_rfl, (shcross_eq ax ay az bx b_y bz Q).trans hE⟩
noncomputable def shcross_h {α : Type} (ds : List D) (Q : SV → Hp → Option α) : Option α :=
  dI ds fun ax ds => dI ds fun ay ds => dI ds fun az ds => dI ds fun bx ds => dI ds fun b_y ds => dI ds fun bz ds => dE ds (Q (.agg [.int .i64 (V.pCross (ax, ay, az) (bx, b_y, bz)).1, .int .i64 (V.pCross (ax, ay, az) (bx, b_y, bz)).2.1, .int .i64 (V.pCross (ax, ay, az) (bx, b_y, bz)).2.2]) ([]))
theorem shcross_h_ok {α : Type} : FnOk E.P 52 (fEnt (α := α) shcross_sp shcross_h) :=
  fEnt_ok E (look_shminus_ok) (exec_sound E E_ok (look_shminus_ok) (noLps_ok _) 400) fun ds Q r h => by
    unfold shcross_h at h
    obtain ⟨ax, ds, rfl, h1⟩ := dI_inv h
    obtain ⟨ay, ds, rfl, h2⟩ := dI_inv h1
    obtain ⟨az, ds, rfl, h3⟩ := dI_inv h2
    obtain ⟨bx, ds, rfl, h4⟩ := dI_inv h3
    obtain ⟨b_y, ds, rfl, h5⟩ := dI_inv h4
    obtain ⟨bz, ds, rfl, h6⟩ := dI_inv h5
    obtain ⟨rfl, hE⟩ := dE_inv h6
    exact ⟨[SV.agg [SV.int .i64 ax, SV.int .i64 ay, SV.int .i64 az], SV.agg [SV.int .i64 bx, SV.int .i64 b_y, SV.int .i64 bz]], [], fun vs => by kernel_rfl, (shcross_eq ax ay az bx b_y bz Q).trans ((rfl).trans hE)⟩
noncomputable def look_shcross {α : Type} : LookF α := addFn 52 (fEnt shcross_sp shcross_h) look_shminus
theorem look_shcross_ok {α : Type} : LookOk E.P (look_shcross (α := α)) := addFn_ok shcross_h_ok (look_shminus_ok)
noncomputable def _root_.Go.Proofs.Ytkjellhkamfciaa.M.shdot {α : Type} (ax : Int) (ay : Int) (az : Int) (bx : Int) (b_y : Int) (bz : Int) (k0 : Int → Option α) : Option α :=
  k0 (IntKind.wrap .i64 (IntKind.wrap .i64 (IntKind.wrap .i64 (ax * bx) + IntKind.wrap .i64 (ay * b_y)) + IntKind.wrap .i64 (az * bz)))
theorem shdot_eq {α : Type} (ax : Int) (ay : Int) (az : Int) (bx : Int) (b_y : Int) (bz : Int) (Q : SV → Hp → Option α) : callI E look_shcross (exec E look_shcross noLps 400) 55 ([SV.agg [SV.int .i64 ax, SV.int .i64 ay, SV.int .i64 az], SV.agg [SV.int .i64 bx, SV.int .i64 b_y, SV.int .i64 bz]]) ([]) Q = M.shdot ax ay az bx b_y bz (fun (x6 : Int) => Q (SV.int .i64 x6) ([])) := by kernel_rfl
def shdot_sp : List AS := [.val (.agg [.int .i64 0, .int .i64 0, .int .i64 0]), .val (.agg [.int .i64 0, .int .i64 0, .int .i64 0])]
noncomputable def shdot_go {α : Type} (ds : List D) (Q : SV → Hp → Option α) : Option α :=
  dI ds fun ax ds => dI ds fun ay ds => dI ds fun az ds => dI ds fun bx ds => dI ds fun b_y ds => dI ds fun bz ds => dE ds (M.shdot ax ay az bx b_y bz (fun (x6 : Int) => Q (SV.int .i64 x6) ([])))
theorem shdot_ok {α : Type} : FnOk E.P 55 (fEnt (α := α) shdot_sp shdot_go) :=
  fEnt_ok E (look_shcross_ok) (exec_sound E E_ok (look_shcross_ok) (noLps_ok _) 400) fun ds Q r h => by
    unfold shdot_go at h
    obtain ⟨ax, ds, rfl, h1⟩ := dI_inv h
    obtain ⟨ay, ds, rfl, h2⟩ := dI_inv h1
    obtain ⟨az, ds, rfl, h3⟩ := dI_inv h2
    obtain ⟨bx, ds, rfl, h4⟩ := dI_inv h3
    obtain ⟨b_y, ds, rfl, h5⟩ := dI_inv h4
    obtain ⟨bz, ds, rfl, h6⟩ := dI_inv h5
    obtain ⟨rfl, hE⟩ := dE_inv h6
    exact ⟨[SV.agg [SV.int .i64 ax, SV.int .i64 ay, SV.int .i64 az], SV.agg [SV.int .i64 bx, SV.int .i64 b_y, SV.int .i64 bz]], [], fun vs => by kernel_rfl, (shdot_eq ax ay az bx b_y bz Q).trans hE⟩
noncomputable def shdot_h {α : Type} (ds : List D) (Q : SV → Hp → Option α) : Option α :=
  dI ds fun ax ds => dI ds fun ay ds => dI ds fun az ds => dI ds fun bx ds => dI ds fun b_y ds => dI ds fun bz ds => dE ds (Q (.int .i64 (V.pDot (ax, ay, az) (bx, b_y, bz))) ([]))
theorem shdot_h_ok {α : Type} : FnOk E.P 55 (fEnt (α := α) shdot_sp shdot_h) :=
  fEnt_ok E (look_shcross_ok) (exec_sound E E_ok (look_shcross_ok) (noLps_ok _) 400) fun ds Q r h => by
    unfold shdot_h at h
    obtain ⟨ax, ds, rfl, h1⟩ := dI_inv h
    obtain ⟨ay, ds, rfl, h2⟩ := dI_inv h1
    obtain ⟨az, ds, rfl, h3⟩ := dI_inv h2
    obtain ⟨bx, ds, rfl, h4⟩ := dI_inv h3
    obtain ⟨b_y, ds, rfl, h5⟩ := dI_inv h4
    obtain ⟨bz, ds, rfl, h6⟩ := dI_inv h5
    obtain ⟨rfl, hE⟩ := dE_inv h6
    exact ⟨[SV.agg [SV.int .i64 ax, SV.int .i64 ay, SV.int .i64 az], SV.agg [SV.int .i64 bx, SV.int .i64 b_y, SV.int .i64 bz]], [], fun vs => by kernel_rfl, (shdot_eq ax ay az bx b_y bz Q).trans ((rfl).trans hE)⟩
noncomputable def look_shdot {α : Type} : LookF α := addFn 55 (fEnt shdot_sp shdot_h) look_shcross
theorem look_shdot_ok {α : Type} : LookOk E.P (look_shdot (α := α)) := addFn_ok shdot_h_ok (look_shcross_ok)
noncomputable def _root_.Go.Proofs.Ytkjellhkamfciaa.M.shbeyond {α : Type} (ax : Int) (ay : Int) (az : Int) (n : Int) (k0 : Bool → Option α) : Option α :=
  if cLt n (if az > if ay > ax then ay else ax then az else if ay > ax then ay else ax) = true then k0 true else k0 (cLt (if az < if ay < ax then ay else ax then az else if ay < ax then ay else ax) (IntKind.wrap .i64 ((0 : Int) - n)))
theorem shbeyond_eq {α : Type} (ax : Int) (ay : Int) (az : Int) (n : Int) (Q : SV → Hp → Option α) : callI E look_shdot (exec E look_shdot noLps 400) 24 ([SV.agg [SV.int .i64 ax, SV.int .i64 ay, SV.int .i64 az], SV.int .i64 n]) ([]) Q = M.shbeyond ax ay az n (fun (x7 : Bool) => Q (SV.bool x7) ([])) := by kernel_rfl
def shbeyond_sp : List AS := [.val (.agg [.int .i64 0, .int .i64 0, .int .i64 0]), .val (.int .i64 0)]
noncomputable def _root_.Go.Proofs.Ytkjellhkamfciaa.V.shbeyond_r0 (ax : Int) (ay : Int) (az : Int) (n : Int) : Bool :=
  if cLt n (if az > if ay > ax then ay else ax then az else if ay > ax then ay else ax) = true then true else cLt (if az < if ay < ax then ay else ax then az else if ay < ax then ay else ax) (IntKind.wrap .i64 ((0 : Int) - n))
theorem shbeyond_val {α : Type} (ax : Int) (ay : Int) (az : Int) (n : Int) (k0 : Bool → Option α) : M.shbeyond ax ay az n k0 = k0 (V.shbeyond_r0 ax ay az n) := by
  unfold M.shbeyond V.shbeyond_r0
  repeat' first | rfl | (split <;> rename_i h <;> first | simp only [if_pos h] | simp only [if_neg h] | skip)
noncomputable def shbeyond_c {α : Type} (ds : List D) (Q : SV → Hp → Option α) : Option α :=
  dI ds fun ax ds => dI ds fun ay ds => dI ds fun az ds => dI ds fun n ds => dE ds (Q (SV.bool (V.shbeyond_r0 ax ay az n)) ([]))
theorem shbeyond_c_ok {α : Type} : FnOk E.P 24 (fEnt (α := α) shbeyond_sp shbeyond_c) :=
  fEnt_ok E (look_shdot_ok) (exec_sound E E_ok (look_shdot_ok) (noLps_ok _) 400) fun ds Q r h => by
    unfold shbeyond_c at h
    obtain ⟨ax, ds, rfl, h1⟩ := dI_inv h
    obtain ⟨ay, ds, rfl, h2⟩ := dI_inv h1
    obtain ⟨az, ds, rfl, h3⟩ := dI_inv h2
    obtain ⟨n, ds, rfl, h4⟩ := dI_inv h3
    obtain ⟨rfl, hE⟩ := dE_inv h4
    exact ⟨[SV.agg [SV.int .i64 ax, SV.int .i64 ay, SV.int .i64 az], SV.int .i64 n], [], fun vs => by kernel_rfl, (shbeyond_eq ax ay az n Q).trans ((shbeyond_val ax ay az n (fun (x7 : Bool) => Q (SV.bool x7) ([]))).trans hE)⟩
noncomputable def shbeyond_go {α : Type} (ds : List D) (Q : SV → Hp → Option α) : Option α :=
  dI ds fun ax ds => dI ds fun ay ds => dI ds fun az ds => dI ds fun n ds => dE ds (M.shbeyond ax ay az n (fun (x7 : Bool) => Q (SV.bool x7) ([])))
theorem shbeyond_ok {α : Type} : FnOk E.P 24 (fEnt (α := α) shbeyond_sp shbeyond_go) :=
  fEnt_ok E (look_shdot_ok) (exec_sound E E_ok (look_shdot_ok) (noLps_ok _) 400) fun ds Q r h => by
    unfold shbeyond_go at h
    obtain ⟨ax, ds, rfl, h1⟩ := dI_inv h
    obtain ⟨ay, ds, rfl, h2⟩ := dI_inv h1
    obtain ⟨az, ds, rfl, h3⟩ := dI_inv h2
    obtain ⟨n, ds, rfl, h4⟩ := dI_inv h3
    obtain ⟨rfl, hE⟩ := dE_inv h4
    exact ⟨[SV.agg [SV.int .i64 ax, SV.int .i64 ay, SV.int .i64 az], SV.int .i64 n], [], fun vs => by kernel_rfl, (shbeyond_eq ax ay az n Q).trans hE⟩
noncomputable def look_shbeyond {α : Type} : LookF α := addFn 24 (fEnt shbeyond_sp shbeyond_c) look_shdot
theorem look_shbeyond_ok {α : Type} : LookOk E.P (look_shbeyond (α := α)) := addFn_ok shbeyond_c_ok (look_shdot_ok)
noncomputable def _root_.Go.Proofs.Ytkjellhkamfciaa.M.shwithin {α : Type} (n : Int) (lo : Int) (hi : Int) (k0 : Bool → Option α) : Option α :=
  if cLe lo n = true then k0 (cLe n hi) else k0 false
theorem shwithin_eq {α : Type} (n : Int) (lo : Int) (hi : Int) (Q : SV → Hp → Option α) : callI E look_shbeyond (exec E look_shbeyond noLps 400) 23 ([SV.int .i64 n, SV.int .i64 lo, SV.int .i64 hi]) ([]) Q = M.shwithin n lo hi (fun (x8 : Bool) => Q (SV.bool x8) ([])) := by kernel_rfl
def shwithin_sp : List AS := [.val (.int .i64 0), .val (.int .i64 0), .val (.int .i64 0)]
noncomputable def _root_.Go.Proofs.Ytkjellhkamfciaa.V.shwithin_r0 (n : Int) (lo : Int) (hi : Int) : Bool :=
  if cLe lo n = true then cLe n hi else false
theorem shwithin_val {α : Type} (n : Int) (lo : Int) (hi : Int) (k0 : Bool → Option α) : M.shwithin n lo hi k0 = k0 (V.shwithin_r0 n lo hi) := by
  unfold M.shwithin V.shwithin_r0
  repeat' first | rfl | (split <;> rename_i h <;> first | simp only [if_pos h] | simp only [if_neg h] | skip)
noncomputable def shwithin_c {α : Type} (ds : List D) (Q : SV → Hp → Option α) : Option α :=
  dI ds fun n ds => dI ds fun lo ds => dI ds fun hi ds => dE ds (Q (SV.bool (V.shwithin_r0 n lo hi)) ([]))
theorem shwithin_c_ok {α : Type} : FnOk E.P 23 (fEnt (α := α) shwithin_sp shwithin_c) :=
  fEnt_ok E (look_shbeyond_ok) (exec_sound E E_ok (look_shbeyond_ok) (noLps_ok _) 400) fun ds Q r h => by
    unfold shwithin_c at h
    obtain ⟨n, ds, rfl, h1⟩ := dI_inv h
    obtain ⟨lo, ds, rfl, h2⟩ := dI_inv h1
    obtain ⟨hi, ds, rfl, h3⟩ := dI_inv h2
    obtain ⟨rfl, hE⟩ := dE_inv h3
    exact ⟨[SV.int .i64 n, SV.int .i64 lo, SV.int .i64 hi], [], fun vs => by kernel_rfl, (shwithin_eq n lo hi Q).trans ((shwithin_val n lo hi (fun (x8 : Bool) => Q (SV.bool x8) ([]))).trans hE)⟩
noncomputable def shwithin_go {α : Type} (ds : List D) (Q : SV → Hp → Option α) : Option α :=
  dI ds fun n ds => dI ds fun lo ds => dI ds fun hi ds => dE ds (M.shwithin n lo hi (fun (x8 : Bool) => Q (SV.bool x8) ([])))
theorem shwithin_ok {α : Type} : FnOk E.P 23 (fEnt (α := α) shwithin_sp shwithin_go) :=
  fEnt_ok E (look_shbeyond_ok) (exec_sound E E_ok (look_shbeyond_ok) (noLps_ok _) 400) fun ds Q r h => by
    unfold shwithin_go at h
    obtain ⟨n, ds, rfl, h1⟩ := dI_inv h
    obtain ⟨lo, ds, rfl, h2⟩ := dI_inv h1
    obtain ⟨hi, ds, rfl, h3⟩ := dI_inv h2
    obtain ⟨rfl, hE⟩ := dE_inv h3
    exact ⟨[SV.int .i64 n, SV.int .i64 lo, SV.int .i64 hi], [], fun vs => by kernel_rfl, (shwithin_eq n lo hi Q).trans hE⟩
noncomputable def look_shwithin {α : Type} : LookF α := addFn 23 (fEnt shwithin_sp shwithin_c) look_shbeyond
theorem look_shwithin_ok {α : Type} : LookOk E.P (look_shwithin (α := α)) := addFn_ok shwithin_c_ok (look_shbeyond_ok)
noncomputable def _root_.Go.Proofs.Ytkjellhkamfciaa.M.shof {α : Type} (d : Int) (ax : Int) (ay : Int) (az : Int) (k0 : Int → Int → Int → Option α) : Option α :=
  if d = (0 : Int) then none else if d = (0 : Int) then none else if d = (0 : Int) then none else k0 (IntKind.wrap .i64 (Int.tdiv ax d)) (IntKind.wrap .i64 (Int.tdiv ay d)) (IntKind.wrap .i64 (Int.tdiv az d))
theorem shof_eq {α : Type} (d : Int) (ax : Int) (ay : Int) (az : Int) (Q : SV → Hp → Option α) : callI E look_shwithin (exec E look_shwithin noLps 400) 46 ([SV.int .i64 d, SV.agg [SV.int .i64 ax, SV.int .i64 ay, SV.int .i64 az]]) ([]) Q = M.shof d ax ay az (fun (x9 : Int) (x10 : Int) (x11 : Int) => Q (SV.agg [SV.int .i64 x9, SV.int .i64 x10, SV.int .i64 x11]) ([])) := by kernel_rfl
def shof_sp : List AS := [.val (.int .i64 0), .val (.agg [.int .i64 0, .int .i64 0, .int .i64 0])]
noncomputable def _root_.Go.Proofs.Ytkjellhkamfciaa.V.shof_g (d : Int) (ax : Int) (ay : Int) (az : Int) : Bool :=
  if d = (0 : Int) then false else if d = (0 : Int) then false else if d = (0 : Int) then false else true
noncomputable def _root_.Go.Proofs.Ytkjellhkamfciaa.V.shof_r0 (d : Int) (ax : Int) (ay : Int) (az : Int) : Int :=
  if d = (0 : Int) then (0 : Int) else if d = (0 : Int) then (0 : Int) else if d = (0 : Int) then (0 : Int) else IntKind.wrap .i64 (Int.tdiv ax d)
noncomputable def _root_.Go.Proofs.Ytkjellhkamfciaa.V.shof_r1 (d : Int) (ax : Int) (ay : Int) (az : Int) : Int :=
  if d = (0 : Int) then (0 : Int) else if d = (0 : Int) then (0 : Int) else if d = (0 : Int) then (0 : Int) else IntKind.wrap .i64 (Int.tdiv ay d)
noncomputable def _root_.Go.Proofs.Ytkjellhkamfciaa.V.shof_r2 (d : Int) (ax : Int) (ay : Int) (az : Int) : Int :=
  if d = (0 : Int) then (0 : Int) else if d = (0 : Int) then (0 : Int) else if d = (0 : Int) then (0 : Int) else IntKind.wrap .i64 (Int.tdiv az d)
theorem shof_val {α : Type} (d : Int) (ax : Int) (ay : Int) (az : Int) (k0 : Int → Int → Int → Option α) : M.shof d ax ay az k0 = if V.shof_g d ax ay az = true then k0 (V.shof_r0 d ax ay az) (V.shof_r1 d ax ay az) (V.shof_r2 d ax ay az) else none := by
  unfold M.shof V.shof_g V.shof_r0 V.shof_r1 V.shof_r2
  repeat' first | rfl | (split <;> rename_i h <;> first | simp only [if_pos h] | simp only [if_neg h] | skip)
noncomputable def shof_c {α : Type} (ds : List D) (Q : SV → Hp → Option α) : Option α :=
  dI ds fun d ds => dI ds fun ax ds => dI ds fun ay ds => dI ds fun az ds => dE ds (if V.shof_g d ax ay az = true then Q (SV.agg [SV.int .i64 (V.shof_r0 d ax ay az), SV.int .i64 (V.shof_r1 d ax ay az), SV.int .i64 (V.shof_r2 d ax ay az)]) ([]) else none)
theorem shof_c_ok {α : Type} : FnOk E.P 46 (fEnt (α := α) shof_sp shof_c) :=
  fEnt_ok E (look_shwithin_ok) (exec_sound E E_ok (look_shwithin_ok) (noLps_ok _) 400) fun ds Q r h => by
    unfold shof_c at h
    obtain ⟨d, ds, rfl, h1⟩ := dI_inv h
    obtain ⟨ax, ds, rfl, h2⟩ := dI_inv h1
    obtain ⟨ay, ds, rfl, h3⟩ := dI_inv h2
    obtain ⟨az, ds, rfl, h4⟩ := dI_inv h3
    obtain ⟨rfl, hE⟩ := dE_inv h4
    exact ⟨[SV.int .i64 d, SV.agg [SV.int .i64 ax, SV.int .i64 ay, SV.int .i64 az]], [], fun vs => by kernel_rfl, (shof_eq d ax ay az Q).trans ((shof_val d ax ay az (fun (x9 : Int) (x10 : Int) (x11 : Int) => Q (SV.agg [SV.int .i64 x9, SV.int .i64 x10, SV.int .i64 x11]) ([]))).trans hE)⟩
noncomputable def shof_go {α : Type} (ds : List D) (Q : SV → Hp → Option α) : Option α :=
  dI ds fun d ds => dI ds fun ax ds => dI ds fun ay ds => dI ds fun az ds => dE ds (M.shof d ax ay az (fun (x9 : Int) (x10 : Int) (x11 : Int) => Q (SV.agg [SV.int .i64 x9, SV.int .i64 x10, SV.int .i64 x11]) ([])))
theorem shof_ok {α : Type} : FnOk E.P 46 (fEnt (α := α) shof_sp shof_go) :=
  fEnt_ok E (look_shwithin_ok) (exec_sound E E_ok (look_shwithin_ok) (noLps_ok _) 400) fun ds Q r h => by
    unfold shof_go at h
    obtain ⟨d, ds, rfl, h1⟩ := dI_inv h
    obtain ⟨ax, ds, rfl, h2⟩ := dI_inv h1
    obtain ⟨ay, ds, rfl, h3⟩ := dI_inv h2
    obtain ⟨az, ds, rfl, h4⟩ := dI_inv h3
    obtain ⟨rfl, hE⟩ := dE_inv h4
    exact ⟨[SV.int .i64 d, SV.agg [SV.int .i64 ax, SV.int .i64 ay, SV.int .i64 az]], [], fun vs => by kernel_rfl, (shof_eq d ax ay az Q).trans hE⟩
noncomputable def look_shof {α : Type} : LookF α := addFn 46 (fEnt shof_sp shof_c) look_shwithin
theorem look_shof_ok {α : Type} : LookOk E.P (look_shof (α := α)) := addFn_ok shof_c_ok (look_shwithin_ok)
noncomputable def _root_.Go.Proofs.Ytkjellhkamfciaa.M.shgcd_l0_step {α : Type} (kn : Int → Int → Option α) (k1 : Int → Option α) (x14 : Int) (x15 : Int) : Option α :=
  if (!cEq x15 (0 : Int)) = true then if x15 = (0 : Int) then none else kn x15 (Int.tmod x14 x15) else k1 x14
noncomputable def _root_.Go.Proofs.Ytkjellhkamfciaa.M.shgcd_l0 {α : Type} (k1 : Int → Option α) : Nat → Int → Int → Option α
  | 0, _, _ => none
  | n + 1, x14, x15 => M.shgcd_l0_step (M.shgcd_l0 k1 n) k1 x14 x15
theorem shgcd_l0_step_eq {α : Type} (x14 : Int) (x15 : Int) (Q : Ex → St → Option α) : (loopStep E (exec E look_shof noLps 400) 76 [false, false, true] 0 (codeAt E.P 76 [false, false, true])) (St.mk (some (SV.int .i64 x14) :: some (SV.int .i64 x15) :: nn 13 ([])) []) Q = M.shgcd_l0_step (fun (x17 : Int) (x18 : Int) => Q .normal (St.mk (some (SV.int .i64 x17) :: some (SV.int .i64 x18) :: nn 13 ([])) [])) (fun (x16 : Int) => Q (.exit 0) (St.mk (some (SV.int .i64 x16) :: nn 14 ([])) [])) x14 x15 := by kernel_rfl
theorem shgcd_l0_iter {α : Type} (Q : Ex → St → Option α) : ∀ (n : Nat) (x14 : Int) (x15 : Int), iter (loopStep E (exec E look_shof noLps 400) 76 [false, false, true] 0 (codeAt E.P 76 [false, false, true])) n (St.mk (some (SV.int .i64 x14) :: some (SV.int .i64 x15) :: nn 13 ([])) []) Q = M.shgcd_l0 (fun (x16 : Int) => Q (.exit 0) (St.mk (some (SV.int .i64 x16) :: nn 14 ([])) [])) n x14 x15
  | 0, _, _ => rfl
  | n + 1, x14, x15 => (shgcd_l0_step_eq x14 x15 (iterK (loopStep E (exec E look_shof noLps 400) 76 [false, false, true] 0 (codeAt E.P 76 [false, false, true])) n Q)).trans (congrArg (fun kn => M.shgcd_l0_step kn (fun (x16 : Int) => Q (.exit 0) (St.mk (some (SV.int .i64 x16) :: nn 14 ([])) [])) x14 x15) (funext fun x14 => funext fun x15 => shgcd_l0_iter Q n x14 x15))
noncomputable def shgcd_l0_go {α : Type} (ds : List D) (Q : Ex → St → Option α) : Option α :=
  dI ds fun x14 ds => dI ds fun x15 ds => dE ds (M.shgcd_l0 (fun (x16 : Int) => Q (.exit 0) (St.mk (some (SV.int .i64 x16) :: nn 14 ([])) [])) (100) x14 x15)
theorem shgcd_l0_ok {α : Type} : LoopOk E.P 76 [false, false, true] 0 (lEnt (α := α) (St.mk (some (SV.int .i64 (0 : Int)) :: some (SV.int .i64 (0 : Int)) :: nn 13 ([])) []) shgcd_l0_go) :=
  lEnt_ok E (exec_sound E E_ok (look_shof_ok) (noLps_ok _) 400) fun ds Q r h S hS => by
    unfold shgcd_l0_go at h
    obtain ⟨x14, ds, rfl, h1⟩ := dI_inv h
    obtain ⟨x15, ds, rfl, h2⟩ := dI_inv h1
    obtain ⟨rfl, hE⟩ := dE_inv h2
    have e : fillS (St.mk (some (SV.int .i64 (0 : Int)) :: some (SV.int .i64 (0 : Int)) :: nn 13 ([])) []) [.i x14, .i x15] = some (St.mk (some (SV.int .i64 x14) :: some (SV.int .i64 x15) :: nn 13 ([])) []) := by kernel_rfl
    rw [e] at hS
    cases hS
    exact ⟨_, (shgcd_l0_iter Q _ x14 x15).trans hE⟩
noncomputable def shgcd_l0_lps {α : Type} : LookL α := addLp 76 [false, false, true] 0 (lEnt (St.mk (some (SV.int .i64 (0 : Int)) :: some (SV.int .i64 (0 : Int)) :: nn 13 ([])) []) shgcd_l0_go) noLps
theorem shgcd_l0_lps_ok {α : Type} : LoopsOk E.P (shgcd_l0_lps (α := α)) := addLp_ok shgcd_l0_ok (noLps_ok _)

noncomputable def _root_.Go.Proofs.Ytkjellhkamfciaa.M.shgcd {α : Type} (a : Int) (b : Int) (k0 : Int → Option α) : Option α :=
  M.shgcd_l0 (fun (x19 : Int) ↦ k0 (if IntKind.wrap .i64 ((0 : Int) - x19) > x19 then IntKind.wrap .i64 ((0 : Int) - x19) else x19)) (100 : Nat) a b
theorem shgcd_eq {α : Type} (a : Int) (b : Int) (Q : SV → Hp → Option α) : callI E look_shof (exec E look_shof shgcd_l0_lps 400) 76 ([SV.int .i64 a, SV.int .i64 b]) ([]) Q = M.shgcd a b (fun (x20 : Int) => Q (SV.int .i64 x20) ([])) := by kernel_rfl
def shgcd_sp : List AS := [.val (.int .i64 0), .val (.int .i64 0)]
noncomputable def shgcd_go {α : Type} (ds : List D) (Q : SV → Hp → Option α) : Option α :=
  dI ds fun a ds => dI ds fun b ds => dE ds (M.shgcd a b (fun (x20 : Int) => Q (SV.int .i64 x20) ([])))
theorem shgcd_ok {α : Type} : FnOk E.P 76 (fEnt (α := α) shgcd_sp shgcd_go) :=
  fEnt_ok E (look_shof_ok) (exec_sound E E_ok (look_shof_ok) (shgcd_l0_lps_ok) 400) fun ds Q r h => by
    unfold shgcd_go at h
    obtain ⟨a, ds, rfl, h1⟩ := dI_inv h
    obtain ⟨b, ds, rfl, h2⟩ := dI_inv h1
    obtain ⟨rfl, hE⟩ := dE_inv h2
    exact ⟨[SV.int .i64 a, SV.int .i64 b], [], fun vs => by kernel_rfl, (shgcd_eq a b Q).trans hE⟩
theorem mod_half {b r : Nat} (h0 : 0 < r) (h1 : r < b) : 2 * (b % r) < b := by
  have h2 := Nat.mod_lt b h0
  have h3 := Nat.div_add_mod b r
  have h4 : 1 ≤ b / r := Nat.div_pos (Nat.le_of_lt h1) h0
  have h5 : r * 1 ≤ r * (b / r) := Nat.mul_le_mul_left r h4
  omega
theorem shgcd_l0_val {α : Type} (k1 : Int → Option α) : ∀ (k f : Nat) (a b : Int), b.natAbs < 2 ^ k → 2 * k + 1 ≤ f → ∃ r : Int, M.shgcd_l0 k1 f a b = k1 r ∧ r.natAbs = Nat.gcd a.natAbs b.natAbs := by
  intro k
  induction k with
  | zero =>
    intro f a b hb hf
    obtain ⟨f, rfl⟩ : ∃ g, f = g + 1 := ⟨f - 1, by omega⟩
    have h0 : b = 0 := by simp at hb; exact hb
    subst h0
    exact ⟨a, by simp [M.shgcd_l0, M.shgcd_l0_step, cEq_eq], by simp⟩
  | succ k ih =>
    intro f a b hb hf
    obtain ⟨f, rfl⟩ : ∃ g, f = g + 2 := ⟨f - 2, by omega⟩
    by_cases h0 : b = 0
    · subst h0
      exact ⟨a, by simp [M.shgcd_l0, M.shgcd_l0_step, cEq_eq], by simp⟩
    · by_cases h1 : Int.tmod a b = 0
      · refine ⟨b, by simp [M.shgcd_l0, M.shgcd_l0_step, cEq_eq, h0, h1], ?_⟩
        have e : a.natAbs % b.natAbs = 0 := by rw [← Int.natAbs_tmod, h1]; rfl
        rw [Nat.gcd_comm, Nat.gcd_rec, e, Nat.gcd_zero_left]
      · have hr1 : (Int.tmod a b).natAbs = a.natAbs % b.natAbs := Int.natAbs_tmod ..
        have hr2 : (Int.tmod b (Int.tmod a b)).natAbs = b.natAbs % (a.natAbs % b.natAbs) := by rw [Int.natAbs_tmod, hr1]
        have hb0 : 0 < b.natAbs := Int.natAbs_pos.2 h0
        have hlt := Nat.mod_lt a.natAbs hb0
        have hp : 0 < a.natAbs % b.natAbs := by rw [← hr1]; exact Int.natAbs_pos.2 h1
        have hh := mod_half hp hlt
        obtain ⟨r, e1, e2⟩ := ih f (Int.tmod a b) (Int.tmod b (Int.tmod a b)) (by rw [hr2]; rw [Nat.pow_succ] at hb; omega) (by omega)
        refine ⟨r, ?_, ?_⟩
        · rw [← e1]
          simp [M.shgcd_l0, M.shgcd_l0_step, cEq_eq, h0, h1]
        · rw [e2, hr1, hr2, Nat.gcd_comm, ← Nat.gcd_rec, ← Nat.gcd_rec, Nat.gcd_comm]
/-- (By choice, so that no checker reckons it.) -/
noncomputable def _root_.Go.Proofs.Ytkjellhkamfciaa.V.gcdI (a b : Int) : Int := Classical.choose (⟨((Nat.gcd a.natAbs b.natAbs : Nat) : Int), rfl⟩ : ∃ r : Int, r = ((Nat.gcd a.natAbs b.natAbs : Nat) : Int))
theorem gcdI_eq (a b : Int) : V.gcdI a b = ((Nat.gcd a.natAbs b.natAbs : Nat) : Int) := Classical.choose_spec (⟨((Nat.gcd a.natAbs b.natAbs : Nat) : Int), rfl⟩ : ∃ r : Int, r = ((Nat.gcd a.natAbs b.natAbs : Nat) : Int))
theorem shgcd_v {α : Type} (a b : Int) (hg : (-9223372036854775808 < a ∧ a < 9223372036854775808) ∧ -562949953421312 < b ∧ b < 562949953421312) (k0 : Int → Option α) : M.shgcd a b k0 = k0 (V.gcdI a b) := by
  unfold M.shgcd
  obtain ⟨r, e1, e2⟩ := shgcd_l0_val (fun (x19 : Int) => k0 (if IntKind.wrap IntKind.i64 ((0 : Int) - x19) > x19 then IntKind.wrap IntKind.i64 ((0 : Int) - x19) else x19)) 49 100 a b (by omega) (by omega)
  rw [e1]
  have hr : r.natAbs < 9223372036854775808 := by
    rw [e2]
    by_cases h0 : b = 0
    · subst h0; simp; omega
    · have := Nat.gcd_le_right a.natAbs (Int.natAbs_pos.2 h0); omega
  rw [IntWalk.i64_in (0 - r) (by omega)]
  rw [gcdI_eq, ← e2]
  congr 1
  split <;> omega
noncomputable def shgcd_h {α : Type} (ds : List D) (Q : SV → Hp → Option α) : Option α :=
  dI ds fun a ds => dI ds fun b ds => dE ds (if (-9223372036854775808 < a ∧ a < 9223372036854775808) ∧ -562949953421312 < b ∧ b < 562949953421312 then Q (.int .i64 (V.gcdI a b)) ([]) else none)
theorem shgcd_h_ok {α : Type} : FnOk E.P 76 (fEnt (α := α) shgcd_sp shgcd_h) :=
  fEnt_ok E (look_shof_ok) (exec_sound E E_ok (look_shof_ok) (shgcd_l0_lps_ok) 400) fun ds Q r h => by
    unfold shgcd_h at h
    obtain ⟨a, ds, rfl, h1⟩ := dI_inv h
    obtain ⟨b, ds, rfl, h2⟩ := dI_inv h1
    obtain ⟨rfl, hE⟩ := dE_inv h2
    split at hE
    · rename_i hg
      exact ⟨[SV.int .i64 a, SV.int .i64 b], [], fun vs => by kernel_rfl, (shgcd_eq a b Q).trans ((shgcd_v a b hg _).trans hE)⟩
    · cases hE
noncomputable def look_shgcd {α : Type} : LookF α := addFn 76 (fEnt shgcd_sp shgcd_h) look_shof
theorem look_shgcd_ok {α : Type} : LookOk E.P (look_shgcd (α := α)) := addFn_ok shgcd_h_ok (look_shof_ok)
end Go.Proofs.Ytkjellhkamfciaa.Sx
