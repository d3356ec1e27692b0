/- The document's products and quotients are the program's. -/
import Derived.Test.YtkjellhkamfciaaFxR7
import Derived.Test.YtkjellhkamfciaaFxP
namespace Go.Proofs.Ytkjellhkamfciaa.Sx
open Go
set_option maxRecDepth 20000
set_option linter.unusedVariables false
set_option linter.unusedSimpArgs false
theorem mMul_rR (a b : Int) : V.mMul a b = V.rRatio a b 4294967296 := by
  unfold V.mMul V.rRatio
  have e1 : isG 4294967296 = false := by decide
  have e2 : ((4294967296 : Int) == 0) = false := by decide
  rw [e1, e2, Bool.or_false, Bool.false_or, fdiv_pos _ _ (by decide)]
theorem mDiv_rR (a b : Int) : V.mDiv a b = V.rRatio a 4294967296 b := by
  rw [mDivF]
  unfold V.rRatio
  have e1 : isG 4294967296 = false := by decide
  rw [e1, Bool.or_false]
noncomputable def _root_.Go.Proofs.Ytkjellhkamfciaa.M.rmul2 {α : Type} (bad : Bool) (a : Int) (b : Int) (k0 : Int → Bool → Option α) : Option α :=
  k0 (V.rmul_r0 bad a b) (V.rmul_r1 bad a b)
theorem rmul2_eq {α : Type} (bad : Bool) (a : Int) (b : Int) (Q : SV → Hp → Option α) : callI E look_rmul (exec E look_rmul noLps 400) 41 ([SV.ptr (nat_lit 0) (nat_lit 0), SV.int .i64 a, SV.int .i64 b]) ([.cells [SV.bool bad] (nat_lit 68)]) Q = M.rmul2 bad a b (fun (x0 : Int) (x1 : Bool) => Q (SV.int .i64 x0) ([.cells [SV.bool x1] (nat_lit 68)])) := by kernel_rfl
def rmul2_sp : List AS := [.ptr 68 [.bool false], .val (.int .i64 0), .val (.int .i64 0)]
noncomputable def rmul2_go {α : Type} (ds : List D) (Q : SV → Hp → Option α) : Option α :=
  dB ds fun bad ds => dI ds fun a ds => dI ds fun b ds => dE ds (M.rmul2 bad a b (fun (x0 : Int) (x1 : Bool) => Q (SV.int .i64 x0) ([.cells [SV.bool x1] (nat_lit 68)])))
theorem rmul2_ok {α : Type} : FnOk E.P 41 (fEnt (α := α) rmul2_sp rmul2_go) :=
  fEnt_ok E (look_rmul_ok) (exec_sound E E_ok (look_rmul_ok) (noLps_ok _) 400) fun ds Q r h => by
    unfold rmul2_go at h
    obtain ⟨bad, ds, rfl, h1⟩ := dB_inv h
    obtain ⟨a, ds, rfl, h2⟩ := dI_inv h1
    obtain ⟨b, ds, rfl, h3⟩ := dI_inv h2
    obtain ⟨rfl, hE⟩ := dE_inv h3
    exact ⟨[SV.ptr (nat_lit 0) (nat_lit 0), SV.int .i64 a, SV.int .i64 b], [.cells [SV.bool bad] (nat_lit 68)], fun vs => by kernel_rfl, (rmul2_eq bad a b Q).trans hE⟩
theorem rmul2_v {α : Type} (bad : Bool) (a b : Int) (k0 : Int → Bool → Option α) : M.rmul2 bad a b k0 = k0 (V.gv (V.mMul a b)) (V.gn (V.mMul a b) bad) := by
  rw [mMul_rR]; rfl
noncomputable def rmul2_h {α : Type} (ds : List D) (Q : SV → Hp → Option α) : Option α :=
  dB ds fun bad ds => dI ds fun a ds => dI ds fun b ds => dE ds (Q (.int .i64 (V.gv (V.mMul a b))) ([.cells [.bool (V.gn (V.mMul a b) bad)] 68]))
theorem rmul2_h_ok {α : Type} : FnOk E.P 41 (fEnt (α := α) rmul2_sp rmul2_h) :=
  fEnt_ok E (look_rmul_ok) (exec_sound E E_ok (look_rmul_ok) (noLps_ok _) 400) fun ds Q r h => by
    unfold rmul2_h at h
    obtain ⟨bad, ds, rfl, h1⟩ := dB_inv h
    obtain ⟨a, ds, rfl, h2⟩ := dI_inv h1
    obtain ⟨b, ds, rfl, h3⟩ := dI_inv h2
    obtain ⟨rfl, hE⟩ := dE_inv h3
    exact ⟨[SV.ptr (nat_lit 0) (nat_lit 0), SV.int .i64 a, SV.int .i64 b], [.cells [SV.bool bad] (nat_lit 68)], fun vs => by kernel_rfl, (rmul2_eq bad a b Q).trans ((rmul2_v bad a b _).trans hE)⟩
noncomputable def look_rmul2 {α : Type} : LookF α := addFn 41 (fEnt rmul2_sp rmul2_h) look_rmul
theorem look_rmul2_ok {α : Type} : LookOk E.P (look_rmul2 (α := α)) := addFn_ok rmul2_h_ok (look_rmul_ok)
end Go.Proofs.Ytkjellhkamfciaa.Sx
