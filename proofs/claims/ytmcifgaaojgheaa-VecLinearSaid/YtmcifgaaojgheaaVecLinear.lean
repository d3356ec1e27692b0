/- VecLinear: its run tells true. -/
import Derived.Test.YtmcifgaaojgheaaVecC
namespace Go.Proofs.Ytmcifgaaojgheaa.Sx
open Go
set_option maxRecDepth 20000
set_option linter.unusedVariables false
set_option linter.unusedSimpArgs false
noncomputable def _root_.Go.Proofs.Ytmcifgaaojgheaa.M.vlinearL_l0_step {α : Type} (x5 : List Int) (kn : Int → Option α) (k0 : Option α) (k2 : Option α) (x4 : Int) : Option α :=
  if cLt x4 (3 : Int) = true then if (0 : Int) ≤ x4 ∧ x4 < (↑(List.length x5) : Int) then if (!cEq (List.getD x5 (Int.toNat x4) (0 : Int)) (0 : Int)) = true then if (0 : Int) ≤ x4 ∧ x4 < (↑(List.length x5) : Int) then if (!cEq (List.getD x5 (Int.toNat x4) (0 : Int)) (1 : Int)) = true then k0 else kn (IntKind.wrap IntKind.i64 (x4 + (1 : Int))) else none else kn (IntKind.wrap IntKind.i64 (x4 + (1 : Int))) else none else k2
noncomputable def _root_.Go.Proofs.Ytmcifgaaojgheaa.M.vlinearL_l0 {α : Type} (x5 : List Int) (k0 : Option α) (k2 : Option α) : Nat → Int → Option α
  | 0, _ => none
  | n + 1, x4 => Go.Proofs.Ytmcifgaaojgheaa.M.vlinearL_l0_step x5 (Go.Proofs.Ytmcifgaaojgheaa.M.vlinearL_l0 x5 k0 k2 n) k0 k2 x4
theorem vlinearL_l0_step_eq {α : Type} (x3 : Bool) (x4 : Int) (x5 : List Int) (Q : Ex → St → Option α) : (loopStep E (exec E look_awake noLps 400) 5 [false, true, false, true, true, true, true, true, true, true] 0 (codeAt E.P 5 [false, true, false, true, true, true, true, true, true, true])) (St.mk [none, none, none, none, none, none, none, some (SV.bool x3), none, none, none, some (SV.sl (nat_lit 0)), some (SV.int IntKind.i64 x4), none, none, none, none, none, none, none, none, none, none, none, none, none, none, none, none, none, none, none, none, none, none, none, none, none, none, none, none, none, none, none, none, none, none, none, none, none, none, none, none, none, none, none, none, none, none, none, none, none, none, none, none, none, none, none, none, none, none]
  [SObj.seq (K.int IntKind.i64) x5 (nat_lit 3)]) Q = Go.Proofs.Ytmcifgaaojgheaa.M.vlinearL_l0_step x5 (fun (x6 : Int) => Q .normal (St.mk [none, none, none, none, none, none, none, some (SV.bool x3), none, none, none, some (SV.sl (nat_lit 0)), some (SV.int IntKind.i64 x6), none, none, none, none, none, none, none, none, none, none, none, none, none, none, none, none, none, none, none, none, none, none, none, none, none, none, none, none, none, none, none, none, none, none, none, none, none, none, none, none, none, none, none, none, none, none, none, none, none, none, none, none, none, none, none, none, none, none]
  [SObj.seq (K.int IntKind.i64) x5 (nat_lit 3)])) (Q .ret (St.mk [none, none, none, none, none, none, some (SV.bool false), some (SV.bool x3), none, none, none, none, none, none, none, none, none, none, none, none, none, none, none, none, none, none, none, none, none, none, none, none, none, none, none, none, none, none, none, none, none, none, none, none, none, none, none, none, none, none, none, none, none, none, none, none, none, none, none, none, none, none, none, none, none, none, none, none, none, none, none] [])) (Q (.exit 0) (St.mk [none, none, none, none, none, none, none, some (SV.bool x3), none, none, none, none, none, none, none, none, none, none, none, none, none, none, none, none, none, none, none, none, none, none, none, none, none, none, none, none, none, none, none, none, none, none, none, none, none, none, none, none, none, none, none, none, none, none, none, none, none, none, none, none, none, none, none, none, none, none, none, none, none, none, none] [])) x4 := by kernel_rfl
theorem vlinearL_l0_iter {α : Type} (x3 : Bool) (x5 : List Int) (Q : Ex → St → Option α) : ∀ (n : Nat) (x4 : Int), iter (loopStep E (exec E look_awake noLps 400) 5 [false, true, false, true, true, true, true, true, true, true] 0 (codeAt E.P 5 [false, true, false, true, true, true, true, true, true, true])) n (St.mk [none, none, none, none, none, none, none, some (SV.bool x3), none, none, none, some (SV.sl (nat_lit 0)), some (SV.int IntKind.i64 x4), none, none, none, none, none, none, none, none, none, none, none, none, none, none, none, none, none, none, none, none, none, none, none, none, none, none, none, none, none, none, none, none, none, none, none, none, none, none, none, none, none, none, none, none, none, none, none, none, none, none, none, none, none, none, none, none, none, none]
  [SObj.seq (K.int IntKind.i64) x5 (nat_lit 3)]) Q = Go.Proofs.Ytmcifgaaojgheaa.M.vlinearL_l0 x5 (Q .ret (St.mk [none, none, none, none, none, none, some (SV.bool false), some (SV.bool x3), none, none, none, none, none, none, none, none, none, none, none, none, none, none, none, none, none, none, none, none, none, none, none, none, none, none, none, none, none, none, none, none, none, none, none, none, none, none, none, none, none, none, none, none, none, none, none, none, none, none, none, none, none, none, none, none, none, none, none, none, none, none, none] [])) (Q (.exit 0) (St.mk [none, none, none, none, none, none, none, some (SV.bool x3), none, none, none, none, none, none, none, none, none, none, none, none, none, none, none, none, none, none, none, none, none, none, none, none, none, none, none, none, none, none, none, none, none, none, none, none, none, none, none, none, none, none, none, none, none, none, none, none, none, none, none, none, none, none, none, none, none, none, none, none, none, none, none] [])) n x4
  | 0, _ => rfl
  | n + 1, x4 => (vlinearL_l0_step_eq x3 x4 x5 (iterK (loopStep E (exec E look_awake noLps 400) 5 [false, true, false, true, true, true, true, true, true, true] 0 (codeAt E.P 5 [false, true, false, true, true, true, true, true, true, true])) n Q)).trans (congrArg (fun kn => Go.Proofs.Ytmcifgaaojgheaa.M.vlinearL_l0_step x5 kn (Q .ret (St.mk [none, none, none, none, none, none, some (SV.bool false), some (SV.bool x3), none, none, none, none, none, none, none, none, none, none, none, none, none, none, none, none, none, none, none, none, none, none, none, none, none, none, none, none, none, none, none, none, none, none, none, none, none, none, none, none, none, none, none, none, none, none, none, none, none, none, none, none, none, none, none, none, none, none, none, none, none, none, none] [])) (Q (.exit 0) (St.mk [none, none, none, none, none, none, none, some (SV.bool x3), none, none, none, none, none, none, none, none, none, none, none, none, none, none, none, none, none, none, none, none, none, none, none, none, none, none, none, none, none, none, none, none, none, none, none, none, none, none, none, none, none, none, none, none, none, none, none, none, none, none, none, none, none, none, none, none, none, none, none, none, none, none, none] [])) x4) (funext fun x4 => vlinearL_l0_iter x3 x5 Q n x4))
noncomputable def vlinearL_l0_go {α : Type} (ds : List D) (Q : Ex → St → Option α) : Option α :=
  dB ds fun x3 ds => dI ds fun x4 ds => dL (K.int IntKind.i64) ds fun x5 ds => dE ds (Go.Proofs.Ytmcifgaaojgheaa.M.vlinearL_l0 x5 (Q .ret (St.mk [none, none, none, none, none, none, some (SV.bool false), some (SV.bool x3), none, none, none, none, none, none, none, none, none, none, none, none, none, none, none, none, none, none, none, none, none, none, none, none, none, none, none, none, none, none, none, none, none, none, none, none, none, none, none, none, none, none, none, none, none, none, none, none, none, none, none, none, none, none, none, none, none, none, none, none, none, none, none] [])) (Q (.exit 0) (St.mk [none, none, none, none, none, none, none, some (SV.bool x3), none, none, none, none, none, none, none, none, none, none, none, none, none, none, none, none, none, none, none, none, none, none, none, none, none, none, none, none, none, none, none, none, none, none, none, none, none, none, none, none, none, none, none, none, none, none, none, none, none, none, none, none, none, none, none, none, none, none, none, none, none, none, none] [])) (100 + x5.length) x4)
theorem vlinearL_l0_ok {α : Type} : LoopOk E.P 5 [false, true, false, true, true, true, true, true, true, true] 0 (lEnt (α := α) (St.mk [none, none, none, none, none, none, none, some (SV.bool false), none, none, none, some (SV.sl (nat_lit 0)), some (SV.int IntKind.i64 (0 : Int)), none, none, none, none, none, none, none, none, none, none, none, none, none, none, none, none, none, none, none, none, none, none, none, none, none, none, none, none, none, none, none, none, none, none, none, none, none, none, none, none, none, none, none, none, none, none, none, none, none, none, none, none, none, none, none, none, none, none]
  [SObj.seq (K.int IntKind.i64) [] (nat_lit 3)]) vlinearL_l0_go) :=
  lEnt_ok E (exec_sound E E_ok (look_awake_ok) (noLps_ok _) 400) fun ds Q r h S hS => by
    unfold vlinearL_l0_go at h
    obtain ⟨x3, ds, rfl, h1⟩ := dB_inv h
    obtain ⟨x4, ds, rfl, h2⟩ := dI_inv h1
    obtain ⟨x5, ds, rfl, h3⟩ := dL_inv h2
    obtain ⟨rfl, hE⟩ := dE_inv h3
    have e : fillS (St.mk [none, none, none, none, none, none, none, some (SV.bool false), none, none, none, some (SV.sl (nat_lit 0)), some (SV.int IntKind.i64 (0 : Int)), none, none, none, none, none, none, none, none, none, none, none, none, none, none, none, none, none, none, none, none, none, none, none, none, none, none, none, none, none, none, none, none, none, none, none, none, none, none, none, none, none, none, none, none, none, none, none, none, none, none, none, none, none, none, none, none, none, none]
  [SObj.seq (K.int IntKind.i64) [] (nat_lit 3)]) [.b x3, .i x4, .l (K.int IntKind.i64) x5] = some (St.mk [none, none, none, none, none, none, none, some (SV.bool x3), none, none, none, some (SV.sl (nat_lit 0)), some (SV.int IntKind.i64 x4), none, none, none, none, none, none, none, none, none, none, none, none, none, none, none, none, none, none, none, none, none, none, none, none, none, none, none, none, none, none, none, none, none, none, none, none, none, none, none, none, none, none, none, none, none, none, none, none, none, none, none, none, none, none, none, none, none, none]
  [SObj.seq (K.int IntKind.i64) x5 (nat_lit 3)]) := by kernel_rfl
    rw [e] at hS
    cases hS
    exact ⟨_, (vlinearL_l0_iter x3 x5 Q _ x4).trans hE⟩
noncomputable def vlinearL_l0_lps {α : Type} : LookL α := addLp 5 [false, true, false, true, true, true, true, true, true, true] 0 (lEnt (St.mk [none, none, none, none, none, none, none, some (SV.bool false), none, none, none, some (SV.sl (nat_lit 0)), some (SV.int IntKind.i64 (0 : Int)), none, none, none, none, none, none, none, none, none, none, none, none, none, none, none, none, none, none, none, none, none, none, none, none, none, none, none, none, none, none, none, none, none, none, none, none, none, none, none, none, none, none, none, none, none, none, none, none, none, none, none, none, none, none, none, none, none, none]
  [SObj.seq (K.int IntKind.i64) [] (nat_lit 3)]) vlinearL_l0_go) noLps
theorem vlinearL_l0_lps_ok {α : Type} : LoopsOk E.P (vlinearL_l0_lps (α := α)) := addLp_ok vlinearL_l0_ok (noLps_ok _)

noncomputable def _root_.Go.Proofs.Ytmcifgaaojgheaa.M.vlinearL {α : Type} (m0 : Int) (m1 : Int) (m2 : Int) (m3 : Int) (m4 : Int) (m5 : Int) (m6 : Int) (m7 : Int) (m8 : Int) (ax : Int) (ay : Int) (az : Int) (bx : Int) (b_y : Int) (bz : Int) (k0 : Bool → Option α) : Option α :=
  if
    V.on (V.tAdd (V.x3 (V.tTurn ((m0, m1, m2), (m3, m4, m5), m6, m7, m8) (ax, ay, az)), V.y3 (V.tTurn ((m0, m1, m2), (m3, m4, m5), m6, m7, m8) (ax, ay, az)), V.z3 (V.tTurn ((m0, m1, m2), (m3, m4, m5), m6, m7, m8) (ax, ay, az))) (V.x3 (V.tTurn ((m0, m1, m2), (m3, m4, m5), m6, m7, m8) (bx, b_y, bz)), V.y3 (V.tTurn ((m0, m1, m2), (m3, m4, m5), m6, m7, m8) (bx, b_y, bz)), V.z3 (V.tTurn ((m0, m1, m2), (m3, m4, m5), m6, m7, m8) (bx, b_y, bz))))
        (V.on (V.tTurn ((m0, m1, m2), (m3, m4, m5), m6, m7, m8) (bx, b_y, bz)) (V.on (V.tTurn ((m0, m1, m2), (m3, m4, m5), m6, m7, m8) (ax, ay, az)) (V.on (V.tTurn ((m0, m1, m2), (m3, m4, m5), m6, m7, m8) (V.x3 (V.tAdd (ax, ay, az) (bx, b_y, bz)), V.y3 (V.tAdd (ax, ay, az) (bx, b_y, bz)), V.z3 (V.tAdd (ax, ay, az) (bx, b_y, bz)))) (V.on (V.tAdd (ax, ay, az) (bx, b_y, bz)) false)))) =
      true then
  k0 true
else
  M.vlinearL_l0
    [IntKind.wrap IntKind.i64
        (V.x3 (V.tTurn ((m0, m1, m2), (m3, m4, m5), m6, m7, m8) (V.x3 (V.tAdd (ax, ay, az) (bx, b_y, bz)), V.y3 (V.tAdd (ax, ay, az) (bx, b_y, bz)), V.z3 (V.tAdd (ax, ay, az) (bx, b_y, bz)))) -
          V.x3 (V.tAdd (V.x3 (V.tTurn ((m0, m1, m2), (m3, m4, m5), m6, m7, m8) (ax, ay, az)), V.y3 (V.tTurn ((m0, m1, m2), (m3, m4, m5), m6, m7, m8) (ax, ay, az)), V.z3 (V.tTurn ((m0, m1, m2), (m3, m4, m5), m6, m7, m8) (ax, ay, az))) (V.x3 (V.tTurn ((m0, m1, m2), (m3, m4, m5), m6, m7, m8) (bx, b_y, bz)), V.y3 (V.tTurn ((m0, m1, m2), (m3, m4, m5), m6, m7, m8) (bx, b_y, bz)), V.z3 (V.tTurn ((m0, m1, m2), (m3, m4, m5), m6, m7, m8) (bx, b_y, bz))))),
      IntKind.wrap IntKind.i64
        (V.y3 (V.tTurn ((m0, m1, m2), (m3, m4, m5), m6, m7, m8) (V.x3 (V.tAdd (ax, ay, az) (bx, b_y, bz)), V.y3 (V.tAdd (ax, ay, az) (bx, b_y, bz)), V.z3 (V.tAdd (ax, ay, az) (bx, b_y, bz)))) -
          V.y3 (V.tAdd (V.x3 (V.tTurn ((m0, m1, m2), (m3, m4, m5), m6, m7, m8) (ax, ay, az)), V.y3 (V.tTurn ((m0, m1, m2), (m3, m4, m5), m6, m7, m8) (ax, ay, az)), V.z3 (V.tTurn ((m0, m1, m2), (m3, m4, m5), m6, m7, m8) (ax, ay, az))) (V.x3 (V.tTurn ((m0, m1, m2), (m3, m4, m5), m6, m7, m8) (bx, b_y, bz)), V.y3 (V.tTurn ((m0, m1, m2), (m3, m4, m5), m6, m7, m8) (bx, b_y, bz)), V.z3 (V.tTurn ((m0, m1, m2), (m3, m4, m5), m6, m7, m8) (bx, b_y, bz))))),
      IntKind.wrap IntKind.i64
        (V.z3 (V.tTurn ((m0, m1, m2), (m3, m4, m5), m6, m7, m8) (V.x3 (V.tAdd (ax, ay, az) (bx, b_y, bz)), V.y3 (V.tAdd (ax, ay, az) (bx, b_y, bz)), V.z3 (V.tAdd (ax, ay, az) (bx, b_y, bz)))) -
          V.z3 (V.tAdd (V.x3 (V.tTurn ((m0, m1, m2), (m3, m4, m5), m6, m7, m8) (ax, ay, az)), V.y3 (V.tTurn ((m0, m1, m2), (m3, m4, m5), m6, m7, m8) (ax, ay, az)), V.z3 (V.tTurn ((m0, m1, m2), (m3, m4, m5), m6, m7, m8) (ax, ay, az))) (V.x3 (V.tTurn ((m0, m1, m2), (m3, m4, m5), m6, m7, m8) (bx, b_y, bz)), V.y3 (V.tTurn ((m0, m1, m2), (m3, m4, m5), m6, m7, m8) (bx, b_y, bz)), V.z3 (V.tTurn ((m0, m1, m2), (m3, m4, m5), m6, m7, m8) (bx, b_y, bz)))))]
    (k0 false) (k0 true) ((100 : Nat) + ((2 : Nat) + (1 : Nat))) (0 : Int)
theorem vlinearL_eq {α : Type} (m0 : Int) (m1 : Int) (m2 : Int) (m3 : Int) (m4 : Int) (m5 : Int) (m6 : Int) (m7 : Int) (m8 : Int) (ax : Int) (ay : Int) (az : Int) (bx : Int) (b_y : Int) (bz : Int) (Q : SV → Hp → Option α) : callI E look_awake (exec E look_awake vlinearL_l0_lps 400) 5 ([SV.agg [SV.int IntKind.i64 m0, SV.int IntKind.i64 m1, SV.int IntKind.i64 m2, SV.int IntKind.i64 m3, SV.int IntKind.i64 m4, SV.int IntKind.i64 m5, SV.int IntKind.i64 m6, SV.int IntKind.i64 m7, SV.int IntKind.i64 m8], SV.agg [SV.int IntKind.i64 ax, SV.int IntKind.i64 ay, SV.int IntKind.i64 az], SV.agg [SV.int IntKind.i64 bx, SV.int IntKind.i64 b_y, SV.int IntKind.i64 bz]]) ([]) Q = Go.Proofs.Ytmcifgaaojgheaa.M.vlinearL m0 m1 m2 m3 m4 m5 m6 m7 m8 ax ay az bx b_y bz (fun (x7 : Bool) => Q (SV.bool x7) ([])) := by kernel_rfl
def vlinearL_sp : List AS := [.val (.agg [.int .i64 0, .int .i64 0, .int .i64 0, .int .i64 0, .int .i64 0, .int .i64 0, .int .i64 0, .int .i64 0, .int .i64 0]), .val (.agg [.int .i64 0, .int .i64 0, .int .i64 0]), .val (.agg [.int .i64 0, .int .i64 0, .int .i64 0])]
noncomputable def vlinearL_go {α : Type} (ds : List D) (Q : SV → Hp → Option α) : Option α :=
  dI ds fun m0 ds => dI ds fun m1 ds => dI ds fun m2 ds => dI ds fun m3 ds => dI ds fun m4 ds => dI ds fun m5 ds => dI ds fun m6 ds => dI ds fun m7 ds => dI ds fun m8 ds => dI ds fun ax ds => dI ds fun ay ds => dI ds fun az ds => dI ds fun bx ds => dI ds fun b_y ds => dI ds fun bz ds => dE ds (Go.Proofs.Ytmcifgaaojgheaa.M.vlinearL m0 m1 m2 m3 m4 m5 m6 m7 m8 ax ay az bx b_y bz (fun (x7 : Bool) => Q (SV.bool x7) ([])))
theorem vlinearL_ok {α : Type} : FnOk E.P 5 (fEnt (α := α) vlinearL_sp vlinearL_go) :=
  fEnt_ok E (look_awake_ok) (exec_sound E E_ok (look_awake_ok) (vlinearL_l0_lps_ok) 400) fun ds Q r h => by
    unfold vlinearL_go at h
    obtain ⟨m0, ds, rfl, h1⟩ := dI_inv h
    obtain ⟨m1, ds, rfl, h2⟩ := dI_inv h1
    obtain ⟨m2, ds, rfl, h3⟩ := dI_inv h2
    obtain ⟨m3, ds, rfl, h4⟩ := dI_inv h3
    obtain ⟨m4, ds, rfl, h5⟩ := dI_inv h4
    obtain ⟨m5, ds, rfl, h6⟩ := dI_inv h5
    obtain ⟨m6, ds, rfl, h7⟩ := dI_inv h6
    obtain ⟨m7, ds, rfl, h8⟩ := dI_inv h7
    obtain ⟨m8, ds, rfl, h9⟩ := dI_inv h8
    obtain ⟨ax, ds, rfl, h10⟩ := dI_inv h9
    obtain ⟨ay, ds, rfl, h11⟩ := dI_inv h10
    obtain ⟨az, ds, rfl, h12⟩ := dI_inv h11
    obtain ⟨bx, ds, rfl, h13⟩ := dI_inv h12
    obtain ⟨b_y, ds, rfl, h14⟩ := dI_inv h13
    obtain ⟨bz, ds, rfl, h15⟩ := dI_inv h14
    obtain ⟨rfl, hE⟩ := dE_inv h15
    exact ⟨[SV.agg [SV.int IntKind.i64 m0, SV.int IntKind.i64 m1, SV.int IntKind.i64 m2, SV.int IntKind.i64 m3, SV.int IntKind.i64 m4, SV.int IntKind.i64 m5, SV.int IntKind.i64 m6, SV.int IntKind.i64 m7, SV.int IntKind.i64 m8], SV.agg [SV.int IntKind.i64 ax, SV.int IntKind.i64 ay, SV.int IntKind.i64 az], SV.agg [SV.int IntKind.i64 bx, SV.int IntKind.i64 b_y, SV.int IntKind.i64 bz]], [], fun vs => by kernel_rfl, (vlinearL_eq m0 m1 m2 m3 m4 m5 m6 m7 m8 ax ay az bx b_y bz Q).trans hE⟩
--##
theorem linear_loop {α : Type} (p q r : Int) (hp : p = 0 ∨ p = 1) (hq : q = 0 ∨ q = 1) (hr : r = 0 ∨ r = 1) (k0 k2 : Option α) (n : Nat) : M.vlinearL_l0 [p, q, r] k0 k2 (n + 4) 0 = k2 := by
  have w1 : IntKind.wrap .i64 1 = 1 := by decide
  have w2 : IntKind.wrap .i64 2 = 2 := by decide
  have w3 : IntKind.wrap .i64 3 = 3 := by decide
  rcases hp with rfl | rfl <;> rcases hq with rfl | rfl <;> rcases hr with rfl | rfl <;>
    simp [M.vlinearL_l0, M.vlinearL_l0_step, cLt_eq, cEq_eq, w1, w2, w3]
theorem linear_part {r : V.T3} {a b c : V.T3} {s m n t : Int} (hc : c.1 = a.1 + b.1 ∧ c.2.1 = a.2.1 + b.2.1 ∧ c.2.2 = a.2.2 + b.2.2) (hs : V.tDot r c = some s) (hm : V.tDot r a = some m) (hn : V.tDot r b = some n) (ht : V.mAdd m n = some t) :
    IntKind.wrap .i64 (s - t) = 0 ∨ IntKind.wrap .i64 (s - t) = 1 := by
  obtain ⟨_, _, _, _, _, _, gs, es⟩ := mDot3_some.1 hs
  obtain ⟨_, _, _, _, _, _, gm, em⟩ := mDot3_some.1 hm
  obtain ⟨_, _, _, _, _, _, gn, en⟩ := mDot3_some.1 hn
  obtain ⟨_, _, gt, et⟩ := mAdd_some.1 ht
  unfold Gd at gs gt
  rw [IntWalk.i64_in _ (by omega)]
  rw [hc.1, hc.2.1, hc.2.2] at es
  have e : r.1 * (a.1 + b.1) + (r.2.1 * (a.2.1 + b.2.1) + r.2.2 * (a.2.2 + b.2.2)) = (r.1 * a.1 + (r.2.1 * a.2.1 + r.2.2 * a.2.2)) + (r.1 * b.1 + (r.2.1 * b.2.1 + r.2.2 * b.2.2)) := by grind
  rw [e] at es
  generalize r.1 * a.1 + (r.2.1 * a.2.1 + r.2.2 * a.2.2) = x at *
  generalize r.1 * b.1 + (r.2.1 * b.2.1 + r.2.2 * b.2.2) = y at *
  omega
theorem vlinearL_v {α : Type} (m0 m1 m2 m3 m4 m5 m6 m7 m8 ax ay az bx b_y bz : Int) (k0 : Bool → Option α) : M.vlinearL m0 m1 m2 m3 m4 m5 m6 m7 m8 ax ay az bx b_y bz k0 = k0 true := by
  unfold M.vlinearL
  split
  · rfl
  · rename_i hf
    try simp only [V.q3_eta] at hf ⊢
    rw [Bool.not_eq_true, onF, onF, onF, onF, onF] at hf
    obtain ⟨⟨t, ht⟩, ⟨b, hb⟩, ⟨a, ha⟩, ⟨s, hs⟩, ⟨c, hc⟩, _⟩ := hf
    rw [ha, hb] at ht
    rw [hc] at hs
    change V.tAdd a b = some t at ht
    change V.tTurn _ c = some s at hs
    simp only [ha, hb, hc, V.x3, V.y3, V.z3, V.q3, Option.getD_some]
    simp only [ht, hs, Option.getD_some]
    obtain ⟨c1, c2, c3⟩ := tAdd_some.1 hc
    have hC : c.1 = ax + bx ∧ c.2.1 = ay + b_y ∧ c.2.2 = az + bz := ⟨(mAdd_some.1 c1).2.2.2, (mAdd_some.1 c2).2.2.2, (mAdd_some.1 c3).2.2.2⟩
    obtain ⟨s1, s2, s3⟩ := tTurn_some.1 hs
    obtain ⟨a1, a2, a3⟩ := tTurn_some.1 ha
    obtain ⟨b1, b2, b3⟩ := tTurn_some.1 hb
    obtain ⟨t1, t2, t3⟩ := tAdd_some.1 ht
    rw [show (100 : Nat) + (2 + 1) = 99 + 4 from rfl, linear_loop _ _ _ (linear_part hC s1 a1 b1 t1) (linear_part hC s2 a2 b2 t2) (linear_part hC s3 a3 b3 t3)]
noncomputable def vlinearL_h {α : Type} (ds : List D) (Q : SV → Hp → Option α) : Option α :=
  dI ds fun m0 ds => dI ds fun m1 ds => dI ds fun m2 ds => dI ds fun m3 ds => dI ds fun m4 ds => dI ds fun m5 ds => dI ds fun m6 ds => dI ds fun m7 ds => dI ds fun m8 ds => dI ds fun ax ds => dI ds fun ay ds => dI ds fun az ds => dI ds fun bx ds => dI ds fun b_y ds => dI ds fun bz ds => dE ds (Q (.bool true) ([]))
theorem vlinearL_h_ok {α : Type} : FnOk E.P 5 (fEnt (α := α) vlinearL_sp vlinearL_h) :=
  fEnt_ok E (look_awake_ok) (exec_sound E E_ok (look_awake_ok) (vlinearL_l0_lps_ok) 400) fun ds Q r h => by
    unfold vlinearL_h at h
    obtain ⟨m0, ds, rfl, h1⟩ := dI_inv h
    obtain ⟨m1, ds, rfl, h2⟩ := dI_inv h1
    obtain ⟨m2, ds, rfl, h3⟩ := dI_inv h2
    obtain ⟨m3, ds, rfl, h4⟩ := dI_inv h3
    obtain ⟨m4, ds, rfl, h5⟩ := dI_inv h4
    obtain ⟨m5, ds, rfl, h6⟩ := dI_inv h5
    obtain ⟨m6, ds, rfl, h7⟩ := dI_inv h6
    obtain ⟨m7, ds, rfl, h8⟩ := dI_inv h7
    obtain ⟨m8, ds, rfl, h9⟩ := dI_inv h8
    obtain ⟨ax, ds, rfl, h10⟩ := dI_inv h9
    obtain ⟨ay, ds, rfl, h11⟩ := dI_inv h10
    obtain ⟨az, ds, rfl, h12⟩ := dI_inv h11
    obtain ⟨bx, ds, rfl, h13⟩ := dI_inv h12
    obtain ⟨b_y, ds, rfl, h14⟩ := dI_inv h13
    obtain ⟨bz, ds, rfl, h15⟩ := dI_inv h14
    obtain ⟨rfl, hE⟩ := dE_inv h15
    exact ⟨[SV.agg [SV.int IntKind.i64 m0, SV.int IntKind.i64 m1, SV.int IntKind.i64 m2, SV.int IntKind.i64 m3, SV.int IntKind.i64 m4, SV.int IntKind.i64 m5, SV.int IntKind.i64 m6, SV.int IntKind.i64 m7, SV.int IntKind.i64 m8], SV.agg [SV.int IntKind.i64 ax, SV.int IntKind.i64 ay, SV.int IntKind.i64 az], SV.agg [SV.int IntKind.i64 bx, SV.int IntKind.i64 b_y, SV.int IntKind.i64 bz]], [], fun vs => by kernel_rfl, (vlinearL_eq m0 m1 m2 m3 m4 m5 m6 m7 m8 ax ay az bx b_y bz Q).trans ((vlinearL_v m0 m1 m2 m3 m4 m5 m6 m7 m8 ax ay az bx b_y bz _).trans hE)⟩
end Go.Proofs.Ytmcifgaaojgheaa.Sx
