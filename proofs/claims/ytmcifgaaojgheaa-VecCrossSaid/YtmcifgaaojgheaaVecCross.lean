/- VecCross: its run tells true. -/
import Derived.Test.YtmcifgaaojgheaaVecC
namespace Go.Proofs.Ytmcifgaaojgheaa.Sx
open Go
set_option maxRecDepth 20000
set_option linter.unusedVariables false
set_option linter.unusedSimpArgs false
noncomputable def _root_.Go.Proofs.Ytmcifgaaojgheaa.M.vcrossL_l0_step {α : Type} (x13 : List Int) (kn : Int → Option α) (k0 : Option α) (k2 : Option α) (x8 : Int) : Option α :=
  if cLt x8 (3 : Int) = true then if (0 : Int) ≤ x8 ∧ x8 < (↑(List.length x13) : Int) then if (!cEq (List.getD x13 (Int.toNat x8) (0 : Int)) (0 : Int)) = true then if (0 : Int) ≤ x8 ∧ x8 < (↑(List.length x13) : Int) then if (!cEq (List.getD x13 (Int.toNat x8) (0 : Int)) (-1 : Int)) = true then k0 else kn (IntKind.wrap IntKind.i64 (x8 + (1 : Int))) else none else kn (IntKind.wrap IntKind.i64 (x8 + (1 : Int))) else none else k2
noncomputable def _root_.Go.Proofs.Ytmcifgaaojgheaa.M.vcrossL_l0 {α : Type} (x13 : List Int) (k0 : Option α) (k2 : Option α) : Nat → Int → Option α
  | 0, _ => none
  | n + 1, x8 => Go.Proofs.Ytmcifgaaojgheaa.M.vcrossL_l0_step x13 (Go.Proofs.Ytmcifgaaojgheaa.M.vcrossL_l0 x13 k0 k2 n) k0 k2 x8
theorem vcrossL_l0_step_eq {α : Type} (x7 : Bool) (x8 : Int) (x9 : Int) (x10 : Int) (x11 : Int) (x12 : Bool) (x13 : List Int) (Q : Ex → St → Option α) : (loopStep E (exec E look_awake noLps 400) 3 [false, true, false, true, true, true, true, true, true, true] 0 (codeAt E.P 3 [false, true, false, true, true, true, true, true, true, true])) (St.mk
  [none, none, some (SV.ptr (nat_lit 0) (nat_lit 0)), none, none, some (SV.bool x7), some (SV.ptr (nat_lit 1) (nat_lit 0)), none, none, some (SV.sl (nat_lit 2)), some (SV.int IntKind.i64 x8), none, none, none, none, none, none, none, none, none, none, none, none, none, none, none, none, none, none, none, none, none, none, none, none, none, none, none, none, none, none, none, none, none, none, none, none, none, none, none, none, none, none, none, none, none, none, none, none, none, none, none,
    none, none, none, none, none, none, none, none]
  [SObj.cells [SV.int IntKind.i64 x9, SV.int IntKind.i64 x10, SV.int IntKind.i64 x11] (nat_lit 23), SObj.cells [SV.bool x12] (nat_lit 27), SObj.seq (K.int IntKind.i64) x13 (nat_lit 3)]) Q = Go.Proofs.Ytmcifgaaojgheaa.M.vcrossL_l0_step x13 (fun (x14 : Int) => Q .normal (St.mk
  [none, none, some (SV.ptr (nat_lit 0) (nat_lit 0)), none, none, some (SV.bool x7), some (SV.ptr (nat_lit 1) (nat_lit 0)), none, none, some (SV.sl (nat_lit 2)), some (SV.int IntKind.i64 x14), none, none, none, none, none, none, none, none, none, none, none, none, none, none, none, none, none, none, none, none, none, none, none, none, none, none, none, none, none, none, none, none, none, none, none, none, none, none, none, none, none, none, none, none, none, none, none, none, none, none, none,
    none, none, none, none, none, none, none, none]
  [SObj.cells [SV.int IntKind.i64 x9, SV.int IntKind.i64 x10, SV.int IntKind.i64 x11] (nat_lit 23), SObj.cells [SV.bool x12] (nat_lit 27), SObj.seq (K.int IntKind.i64) x13 (nat_lit 3)])) (Q .ret (St.mk
  [none, none, some (SV.ptr (nat_lit 0) (nat_lit 0)), none, some (SV.bool false), some (SV.bool x7), some (SV.ptr (nat_lit 1) (nat_lit 0)), none, none, none, none, none, none, none, none, none, none, none, none, none, none, none, none, none, none, none, none, none, none, none, none, none, none, none, none, none, none, none, none, none, none, none, none, none, none, none, none, none, none, none, none, none, none, none, none, none, none, none, none, none, none, none, none, none, none, none, none,
    none, none, none]
  [SObj.cells [SV.int IntKind.i64 x9, SV.int IntKind.i64 x10, SV.int IntKind.i64 x11] (nat_lit 23), SObj.cells [SV.bool x12] (nat_lit 27)])) (Q (.exit 0) (St.mk
  [none, none, some (SV.ptr (nat_lit 0) (nat_lit 0)), none, none, some (SV.bool x7), some (SV.ptr (nat_lit 1) (nat_lit 0)), none, none, none, none, none, none, none, none, none, none, none, none, none, none, none, none, none, none, none, none, none, none, none, none, none, none, none, none, none, none, none, none, none, none, none, none, none, none, none, none, none, none, none, none, none, none, none, none, none, none, none, none, none, none, none, none, none, none, none, none, none, none,
    none]
  [SObj.cells [SV.int IntKind.i64 x9, SV.int IntKind.i64 x10, SV.int IntKind.i64 x11] (nat_lit 23), SObj.cells [SV.bool x12] (nat_lit 27)])) x8 := by kernel_rfl
theorem vcrossL_l0_iter {α : Type} (x7 : Bool) (x9 : Int) (x10 : Int) (x11 : Int) (x12 : Bool) (x13 : List Int) (Q : Ex → St → Option α) : ∀ (n : Nat) (x8 : Int), iter (loopStep E (exec E look_awake noLps 400) 3 [false, true, false, true, true, true, true, true, true, true] 0 (codeAt E.P 3 [false, true, false, true, true, true, true, true, true, true])) n (St.mk
  [none, none, some (SV.ptr (nat_lit 0) (nat_lit 0)), none, none, some (SV.bool x7), some (SV.ptr (nat_lit 1) (nat_lit 0)), none, none, some (SV.sl (nat_lit 2)), some (SV.int IntKind.i64 x8), none, none, none, none, none, none, none, none, none, none, none, none, none, none, none, none, none, none, none, none, none, none, none, none, none, none, none, none, none, none, none, none, none, none, none, none, none, none, none, none, none, none, none, none, none, none, none, none, none, none, none,
    none, none, none, none, none, none, none, none]
  [SObj.cells [SV.int IntKind.i64 x9, SV.int IntKind.i64 x10, SV.int IntKind.i64 x11] (nat_lit 23), SObj.cells [SV.bool x12] (nat_lit 27), SObj.seq (K.int IntKind.i64) x13 (nat_lit 3)]) Q = Go.Proofs.Ytmcifgaaojgheaa.M.vcrossL_l0 x13 (Q .ret (St.mk
  [none, none, some (SV.ptr (nat_lit 0) (nat_lit 0)), none, some (SV.bool false), some (SV.bool x7), some (SV.ptr (nat_lit 1) (nat_lit 0)), none, none, none, none, none, none, none, none, none, none, none, none, none, none, none, none, none, none, none, none, none, none, none, none, none, none, none, none, none, none, none, none, none, none, none, none, none, none, none, none, none, none, none, none, none, none, none, none, none, none, none, none, none, none, none, none, none, none, none, none,
    none, none, none]
  [SObj.cells [SV.int IntKind.i64 x9, SV.int IntKind.i64 x10, SV.int IntKind.i64 x11] (nat_lit 23), SObj.cells [SV.bool x12] (nat_lit 27)])) (Q (.exit 0) (St.mk
  [none, none, some (SV.ptr (nat_lit 0) (nat_lit 0)), none, none, some (SV.bool x7), some (SV.ptr (nat_lit 1) (nat_lit 0)), none, none, none, none, none, none, none, none, none, none, none, none, none, none, none, none, none, none, none, none, none, none, none, none, none, none, none, none, none, none, none, none, none, none, none, none, none, none, none, none, none, none, none, none, none, none, none, none, none, none, none, none, none, none, none, none, none, none, none, none, none, none,
    none]
  [SObj.cells [SV.int IntKind.i64 x9, SV.int IntKind.i64 x10, SV.int IntKind.i64 x11] (nat_lit 23), SObj.cells [SV.bool x12] (nat_lit 27)])) n x8
  | 0, _ => rfl
  | n + 1, x8 => (vcrossL_l0_step_eq x7 x8 x9 x10 x11 x12 x13 (iterK (loopStep E (exec E look_awake noLps 400) 3 [false, true, false, true, true, true, true, true, true, true] 0 (codeAt E.P 3 [false, true, false, true, true, true, true, true, true, true])) n Q)).trans (congrArg (fun kn => Go.Proofs.Ytmcifgaaojgheaa.M.vcrossL_l0_step x13 kn (Q .ret (St.mk
  [none, none, some (SV.ptr (nat_lit 0) (nat_lit 0)), none, some (SV.bool false), some (SV.bool x7), some (SV.ptr (nat_lit 1) (nat_lit 0)), none, none, none, none, none, none, none, none, none, none, none, none, none, none, none, none, none, none, none, none, none, none, none, none, none, none, none, none, none, none, none, none, none, none, none, none, none, none, none, none, none, none, none, none, none, none, none, none, none, none, none, none, none, none, none, none, none, none, none, none,
    none, none, none]
  [SObj.cells [SV.int IntKind.i64 x9, SV.int IntKind.i64 x10, SV.int IntKind.i64 x11] (nat_lit 23), SObj.cells [SV.bool x12] (nat_lit 27)])) (Q (.exit 0) (St.mk
  [none, none, some (SV.ptr (nat_lit 0) (nat_lit 0)), none, none, some (SV.bool x7), some (SV.ptr (nat_lit 1) (nat_lit 0)), none, none, none, none, none, none, none, none, none, none, none, none, none, none, none, none, none, none, none, none, none, none, none, none, none, none, none, none, none, none, none, none, none, none, none, none, none, none, none, none, none, none, none, none, none, none, none, none, none, none, none, none, none, none, none, none, none, none, none, none, none, none,
    none]
  [SObj.cells [SV.int IntKind.i64 x9, SV.int IntKind.i64 x10, SV.int IntKind.i64 x11] (nat_lit 23), SObj.cells [SV.bool x12] (nat_lit 27)])) x8) (funext fun x8 => vcrossL_l0_iter x7 x9 x10 x11 x12 x13 Q n x8))
noncomputable def vcrossL_l0_go {α : Type} (ds : List D) (Q : Ex → St → Option α) : Option α :=
  dB ds fun x7 ds => dI ds fun x8 ds => dI ds fun x9 ds => dI ds fun x10 ds => dI ds fun x11 ds => dB ds fun x12 ds => dL (K.int IntKind.i64) ds fun x13 ds => dE ds (Go.Proofs.Ytmcifgaaojgheaa.M.vcrossL_l0 x13 (Q .ret (St.mk
  [none, none, some (SV.ptr (nat_lit 0) (nat_lit 0)), none, some (SV.bool false), some (SV.bool x7), some (SV.ptr (nat_lit 1) (nat_lit 0)), none, none, none, none, none, none, none, none, none, none, none, none, none, none, none, none, none, none, none, none, none, none, none, none, none, none, none, none, none, none, none, none, none, none, none, none, none, none, none, none, none, none, none, none, none, none, none, none, none, none, none, none, none, none, none, none, none, none, none, none,
    none, none, none]
  [SObj.cells [SV.int IntKind.i64 x9, SV.int IntKind.i64 x10, SV.int IntKind.i64 x11] (nat_lit 23), SObj.cells [SV.bool x12] (nat_lit 27)])) (Q (.exit 0) (St.mk
  [none, none, some (SV.ptr (nat_lit 0) (nat_lit 0)), none, none, some (SV.bool x7), some (SV.ptr (nat_lit 1) (nat_lit 0)), none, none, none, none, none, none, none, none, none, none, none, none, none, none, none, none, none, none, none, none, none, none, none, none, none, none, none, none, none, none, none, none, none, none, none, none, none, none, none, none, none, none, none, none, none, none, none, none, none, none, none, none, none, none, none, none, none, none, none, none, none, none,
    none]
  [SObj.cells [SV.int IntKind.i64 x9, SV.int IntKind.i64 x10, SV.int IntKind.i64 x11] (nat_lit 23), SObj.cells [SV.bool x12] (nat_lit 27)])) (100 + x13.length) x8)
theorem vcrossL_l0_ok {α : Type} : LoopOk E.P 3 [false, true, false, true, true, true, true, true, true, true] 0 (lEnt (α := α) (St.mk
  [none, none, some (SV.ptr (nat_lit 0) (nat_lit 0)), none, none, some (SV.bool false), some (SV.ptr (nat_lit 1) (nat_lit 0)), none, none, some (SV.sl (nat_lit 2)), some (SV.int IntKind.i64 (0 : Int)), none, none, none, none, none, none, none, none, none, none, none, none, none, none, none, none, none, none, none, none, none, none, none, none, none, none, none, none, none, none, none, none, none, none, none, none, none, none, none, none, none, none, none, none, none, none, none, none, none,
    none, none, none, none, none, none, none, none, none, none]
  [SObj.cells [SV.int IntKind.i64 (0 : Int), SV.int IntKind.i64 (0 : Int), SV.int IntKind.i64 (0 : Int)] (nat_lit 23), SObj.cells [SV.bool false] (nat_lit 27), SObj.seq (K.int IntKind.i64) [] (nat_lit 3)]) vcrossL_l0_go) :=
  lEnt_ok E (exec_sound E E_ok (look_awake_ok) (noLps_ok _) 400) fun ds Q r h S hS => by
    unfold vcrossL_l0_go at h
    obtain ⟨x7, ds, rfl, h1⟩ := dB_inv h
    obtain ⟨x8, ds, rfl, h2⟩ := dI_inv h1
    obtain ⟨x9, ds, rfl, h3⟩ := dI_inv h2
    obtain ⟨x10, ds, rfl, h4⟩ := dI_inv h3
    obtain ⟨x11, ds, rfl, h5⟩ := dI_inv h4
    obtain ⟨x12, ds, rfl, h6⟩ := dB_inv h5
    obtain ⟨x13, ds, rfl, h7⟩ := dL_inv h6
    obtain ⟨rfl, hE⟩ := dE_inv h7
    have e : fillS (St.mk
  [none, none, some (SV.ptr (nat_lit 0) (nat_lit 0)), none, none, some (SV.bool false), some (SV.ptr (nat_lit 1) (nat_lit 0)), none, none, some (SV.sl (nat_lit 2)), some (SV.int IntKind.i64 (0 : Int)), none, none, none, none, none, none, none, none, none, none, none, none, none, none, none, none, none, none, none, none, none, none, none, none, none, none, none, none, none, none, none, none, none, none, none, none, none, none, none, none, none, none, none, none, none, none, none, none, none,
    none, none, none, none, none, none, none, none, none, none]
  [SObj.cells [SV.int IntKind.i64 (0 : Int), SV.int IntKind.i64 (0 : Int), SV.int IntKind.i64 (0 : Int)] (nat_lit 23), SObj.cells [SV.bool false] (nat_lit 27), SObj.seq (K.int IntKind.i64) [] (nat_lit 3)]) [.b x7, .i x8, .i x9, .i x10, .i x11, .b x12, .l (K.int IntKind.i64) x13] = some (St.mk
  [none, none, some (SV.ptr (nat_lit 0) (nat_lit 0)), none, none, some (SV.bool x7), some (SV.ptr (nat_lit 1) (nat_lit 0)), none, none, some (SV.sl (nat_lit 2)), some (SV.int IntKind.i64 x8), none, none, none, none, none, none, none, none, none, none, none, none, none, none, none, none, none, none, none, none, none, none, none, none, none, none, none, none, none, none, none, none, none, none, none, none, none, none, none, none, none, none, none, none, none, none, none, none, none, none, none,
    none, none, none, none, none, none, none, none]
  [SObj.cells [SV.int IntKind.i64 x9, SV.int IntKind.i64 x10, SV.int IntKind.i64 x11] (nat_lit 23), SObj.cells [SV.bool x12] (nat_lit 27), SObj.seq (K.int IntKind.i64) x13 (nat_lit 3)]) := by kernel_rfl
    rw [e] at hS
    cases hS
    exact ⟨_, (vcrossL_l0_iter x7 x9 x10 x11 x12 x13 Q _ x8).trans hE⟩
noncomputable def vcrossL_l0_lps {α : Type} : LookL α := addLp 3 [false, true, false, true, true, true, true, true, true, true] 0 (lEnt (St.mk
  [none, none, some (SV.ptr (nat_lit 0) (nat_lit 0)), none, none, some (SV.bool false), some (SV.ptr (nat_lit 1) (nat_lit 0)), none, none, some (SV.sl (nat_lit 2)), some (SV.int IntKind.i64 (0 : Int)), none, none, none, none, none, none, none, none, none, none, none, none, none, none, none, none, none, none, none, none, none, none, none, none, none, none, none, none, none, none, none, none, none, none, none, none, none, none, none, none, none, none, none, none, none, none, none, none, none,
    none, none, none, none, none, none, none, none, none, none]
  [SObj.cells [SV.int IntKind.i64 (0 : Int), SV.int IntKind.i64 (0 : Int), SV.int IntKind.i64 (0 : Int)] (nat_lit 23), SObj.cells [SV.bool false] (nat_lit 27), SObj.seq (K.int IntKind.i64) [] (nat_lit 3)]) vcrossL_l0_go) noLps
theorem vcrossL_l0_lps_ok {α : Type} : LoopsOk E.P (vcrossL_l0_lps (α := α)) := addLp_ok vcrossL_l0_ok (noLps_ok _)

noncomputable def _root_.Go.Proofs.Ytmcifgaaojgheaa.M.vcrossL {α : Type} (ax : Int) (ay : Int) (az : Int) (bx : Int) (b_y : Int) (bz : Int) (k0 : Bool → Option α) : Option α :=
  if V.on (V.tCross (bx, b_y, bz) (ax, ay, az)) (V.on (V.tCross (ax, ay, az) (bx, b_y, bz)) false) = true then k0 true
else
  M.vcrossL_l0 [IntKind.wrap IntKind.i64 (V.x3 (V.tCross (ax, ay, az) (bx, b_y, bz)) + V.x3 (V.tCross (bx, b_y, bz) (ax, ay, az))), IntKind.wrap IntKind.i64 (V.y3 (V.tCross (ax, ay, az) (bx, b_y, bz)) + V.y3 (V.tCross (bx, b_y, bz) (ax, ay, az))), IntKind.wrap IntKind.i64 (V.z3 (V.tCross (ax, ay, az) (bx, b_y, bz)) + V.z3 (V.tCross (bx, b_y, bz) (ax, ay, az)))] (k0 false)
    (k0 (cEq (V.x3 (V.tCross (ax, ay, az) (ax, ay, az))) (0 : Int) && (cEq (V.y3 (V.tCross (ax, ay, az) (ax, ay, az))) (0 : Int) && (cEq (V.z3 (V.tCross (ax, ay, az) (ax, ay, az))) (0 : Int) && true)))) ((100 : Nat) + ((2 : Nat) + (1 : Nat))) (0 : Int)
theorem vcrossL_eq {α : Type} (ax : Int) (ay : Int) (az : Int) (bx : Int) (b_y : Int) (bz : Int) (Q : SV → Hp → Option α) : callI E look_awake (exec E look_awake vcrossL_l0_lps 400) 3 ([SV.agg [SV.int IntKind.i64 ax, SV.int IntKind.i64 ay, SV.int IntKind.i64 az], SV.agg [SV.int IntKind.i64 bx, SV.int IntKind.i64 b_y, SV.int IntKind.i64 bz]]) ([]) Q = Go.Proofs.Ytmcifgaaojgheaa.M.vcrossL ax ay az bx b_y bz (fun (x15 : Bool) => Q (SV.bool x15) ([])) := by kernel_rfl
def vcrossL_sp : List AS := [.val (.agg [.int .i64 0, .int .i64 0, .int .i64 0]), .val (.agg [.int .i64 0, .int .i64 0, .int .i64 0])]
noncomputable def vcrossL_go {α : Type} (ds : List D) (Q : SV → Hp → Option α) : Option α :=
  dI ds fun ax ds => dI ds fun ay ds => dI ds fun az ds => dI ds fun bx ds => dI ds fun b_y ds => dI ds fun bz ds => dE ds (Go.Proofs.Ytmcifgaaojgheaa.M.vcrossL ax ay az bx b_y bz (fun (x15 : Bool) => Q (SV.bool x15) ([])))
theorem vcrossL_ok {α : Type} : FnOk E.P 3 (fEnt (α := α) vcrossL_sp vcrossL_go) :=
  fEnt_ok E (look_awake_ok) (exec_sound E E_ok (look_awake_ok) (vcrossL_l0_lps_ok) 400) fun ds Q r h => by
    unfold vcrossL_go at h
    obtain ⟨ax, ds, rfl, h1⟩ := dI_inv h
    obtain ⟨ay, ds, rfl, h2⟩ := dI_inv h1
    obtain ⟨az, ds, rfl, h3⟩ := dI_inv h2
    obtain ⟨bx, ds, rfl, h4⟩ := dI_inv h3
    obtain ⟨b_y, ds, rfl, h5⟩ := dI_inv h4
    obtain ⟨bz, ds, rfl, h6⟩ := dI_inv h5
    obtain ⟨rfl, hE⟩ := dE_inv h6
    exact ⟨[SV.agg [SV.int IntKind.i64 ax, SV.int IntKind.i64 ay, SV.int IntKind.i64 az], SV.agg [SV.int IntKind.i64 bx, SV.int IntKind.i64 b_y, SV.int IntKind.i64 bz]], [], fun vs => by kernel_rfl, (vcrossL_eq ax ay az bx b_y bz Q).trans hE⟩
--##
theorem cross_loop {α : Type} (p q r : Int) (hp : p = 0 ∨ p = -1) (hq : q = 0 ∨ q = -1) (hr : r = 0 ∨ r = -1) (k0 k2 : Option α) (n : Nat) : M.vcrossL_l0 [p, q, r] k0 k2 (n + 4) 0 = k2 := by
  have w1 : IntKind.wrap .i64 1 = 1 := by decide
  have w2 : IntKind.wrap .i64 2 = 2 := by decide
  have w3 : IntKind.wrap .i64 3 = 3 := by decide
  rcases hp with rfl | rfl <;> rcases hq with rfl | rfl <;> rcases hr with rfl | rfl <;>
    simp [M.vcrossL_l0, M.vcrossL_l0_step, cLt_eq, cEq_eq, w1, w2, w3]
theorem cross_flip {x y z w m n : Int} (h1 : V.mDot [x, y] [z, -w] = some m) (h2 : V.mDot [w, z] [y, -x] = some n) : IntKind.wrap .i64 (m + n) = 0 ∨ IntKind.wrap .i64 (m + n) = -1 := by
  have a := mDot2_some.1 h1
  have b := mDot2_some.1 h2
  obtain ⟨_, _, _, _, gm, hm⟩ := a
  obtain ⟨_, _, _, _, gn, hn⟩ := b
  unfold Gd at gm gn
  rw [IntWalk.i64_in _ (by omega)]
  have e : w * y + z * -x = -(x * z + y * -w) := by grind
  rw [e] at hn
  generalize x * z + y * -w = d at *
  omega
theorem cross_self {x y m : Int} (h1 : V.mDot [x, y] [y, -x] = some m) : m = 0 := by
  obtain ⟨_, _, _, _, _, hm⟩ := mDot2_some.1 h1
  have e : x * y + y * -x = 0 := by grind
  rw [e] at hm; simpa using hm
theorem vcross_same (a : V.T3) : V.q3 (V.tCross a a) = (0, 0, 0) := by
  cases h : V.tCross a a with
  | none => rfl
  | some t =>
    obtain ⟨x, y, z⟩ := t
    obtain ⟨h1, h2, h3⟩ := tCross_some.1 h
    have e1 := cross_self h1; have e2 := cross_self h2; have e3 := cross_self h3
    simp at e1 e2 e3
    subst e1; subst e2; subst e3; rfl
theorem vcrossL_v {α : Type} (ax ay az bx b_y bz : Int) (k0 : Bool → Option α) : M.vcrossL ax ay az bx b_y bz k0 = k0 true := by
  unfold M.vcrossL
  split
  · rfl
  · rename_i hf
    rw [Bool.not_eq_true, onF, onF] at hf
    obtain ⟨⟨t, ht⟩, ⟨s, hs⟩, _⟩ := hf
    obtain ⟨t1, t2, t3⟩ := tCross_some.1 ht
    obtain ⟨s1, s2, s3⟩ := tCross_some.1 hs
    simp only [ht, hs, V.x3, V.y3, V.z3, vcross_same, V.q3, Option.getD_some]
    have e := vcross_same (ax, ay, az)
    unfold V.q3 at e
    simp only [e]
    rw [show (100 : Nat) + (2 + 1) = 99 + 4 from rfl, cross_loop _ _ _ (cross_flip s1 t1) (cross_flip s2 t2) (cross_flip s3 t3)]
    simp [cEq_eq]
noncomputable def vcrossL_h {α : Type} (ds : List D) (Q : SV → Hp → Option α) : Option α :=
  dI ds fun ax ds => dI ds fun ay ds => dI ds fun az ds => dI ds fun bx ds => dI ds fun b_y ds => dI ds fun bz ds => dE ds (Q (.bool true) ([]))
theorem vcrossL_h_ok {α : Type} : FnOk E.P 3 (fEnt (α := α) vcrossL_sp vcrossL_h) :=
  fEnt_ok E (look_awake_ok) (exec_sound E E_ok (look_awake_ok) (vcrossL_l0_lps_ok) 400) fun ds Q r h => by
    unfold vcrossL_h at h
    obtain ⟨ax, ds, rfl, h1⟩ := dI_inv h
    obtain ⟨ay, ds, rfl, h2⟩ := dI_inv h1
    obtain ⟨az, ds, rfl, h3⟩ := dI_inv h2
    obtain ⟨bx, ds, rfl, h4⟩ := dI_inv h3
    obtain ⟨b_y, ds, rfl, h5⟩ := dI_inv h4
    obtain ⟨bz, ds, rfl, h6⟩ := dI_inv h5
    obtain ⟨rfl, hE⟩ := dE_inv h6
    exact ⟨[SV.agg [SV.int IntKind.i64 ax, SV.int IntKind.i64 ay, SV.int IntKind.i64 az], SV.agg [SV.int IntKind.i64 bx, SV.int IntKind.i64 b_y, SV.int IntKind.i64 bz]], [], fun vs => by kernel_rfl, (vcrossL_eq ax ay az bx b_y bz Q).trans ((vcrossL_v ax ay az bx b_y bz _).trans hE)⟩
end Go.Proofs.Ytmcifgaaojgheaa.Sx
