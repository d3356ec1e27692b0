/- FxTogether: its run tells true. -/
import Derived.Test.YtdkkbbpmjpcfkaaFxH
namespace Go.Proofs.Ytdkkbbpmjpcfkaa.Sx
open Go
set_option linter.unusedVariables false
set_option linter.unusedSimpArgs false
noncomputable def _root_.Go.Proofs.Ytdkkbbpmjpcfkaa.M.together_l0_step {α : Type} (x12 : List Int) (x14 : List Int) (x16 : Int) (kn : Int → Int → Bool → Option α) (k1 : Int → Bool → Option α) (x17 : Int) (x18 : Int) (x19 : Bool) : Option α :=
  if cLt x18 x16 = true then
  if (0 : Int) ≤ x18 ∧ x18 < (↑(List.length x12) : Int) then
    if (0 : Int) ≤ x18 ∧ x18 < (↑(List.length x14) : Int) then
      kn (V.gv (V.mAdd x17 (V.gv (V.mMul (List.getD x12 (Int.toNat x18) (0 : Int)) (List.getD x14 (Int.toNat x18) (0 : Int)))))) (IntKind.wrap IntKind.i64 (x18 + (1 : Int)))
        (V.gn (V.mAdd x17 (V.gv (V.mMul (List.getD x12 (Int.toNat x18) (0 : Int)) (List.getD x14 (Int.toNat x18) (0 : Int)))))
          (V.gn (V.mMul (List.getD x12 (Int.toNat x18) (0 : Int)) (List.getD x14 (Int.toNat x18) (0 : Int))) x19))
    else none
  else none
else k1 x17 x19
noncomputable def _root_.Go.Proofs.Ytdkkbbpmjpcfkaa.M.together_l0 {α : Type} (x12 : List Int) (x14 : List Int) (x16 : Int) (k1 : Int → Bool → Option α) : Nat → Int → Int → Bool → Option α
  | 0, _, _, _ => none
  | n + 1, x17, x18, x19 => Go.Proofs.Ytdkkbbpmjpcfkaa.M.together_l0_step x12 x14 x16 (Go.Proofs.Ytdkkbbpmjpcfkaa.M.together_l0 x12 x14 x16 k1 n) k1 x17 x18 x19
theorem together_l0_step_eq {α : Type} (x11 : Value) (x12 : List Int) (x13 : Value) (x14 : List Int) (x15 : Bool) (x16 : Int) (x17 : Int) (x18 : Int) (x19 : Bool) (Q : Ex → St → Option α) : (loopStep E (exec E look_awake noLps 400) 10 [false, true, false, true, true, true, true, true, true, true, true] 0 (codeAt E.P 10 [false, true, false, true, true, true, true, true, true, true, true])) (St.mk
  [some (SV.ros x11 (K.int IntKind.i64) x12), some (SV.ros x13 (K.int IntKind.i64) x14), none, none, none, some (SV.bool x15), some (SV.int IntKind.i64 x16),
    some (SV.ptr (nat_lit 0) (nat_lit 0)), some (SV.int IntKind.i64 x17), some (SV.int IntKind.i64 x18), none, none, none, none, none, none, none, none, none, none, none, none,
    none, none, none, none, none, none, none, none, none, none, none, none, none, none, none, none, none, none, none, none, none, none, none, none, none, none, none, none, none,
    none, none, none, none, none, none, none, none, none, none, none, none, none, none, none, none, none, none, none, none, none, none, none, none]
  [SObj.cells [SV.bool x19] (nat_lit 25)]) Q = Go.Proofs.Ytdkkbbpmjpcfkaa.M.together_l0_step x12 x14 x16 (fun (x22 : Int) (x23 : Int) (x24 : Bool) => Q .normal (St.mk
  [some (SV.ros x11 (K.int IntKind.i64) x12), some (SV.ros x13 (K.int IntKind.i64) x14), none, none, none, some (SV.bool x15), some (SV.int IntKind.i64 x16),
    some (SV.ptr (nat_lit 0) (nat_lit 0)), some (SV.int IntKind.i64 x22), some (SV.int IntKind.i64 x23), none, none, none, none, none, none, none, none, none, none, none, none,
    none, none, none, none, none, none, none, none, none, none, none, none, none, none, none, none, none, none, none, none, none, none, none, none, none, none, none, none, none,
    none, none, none, none, none, none, none, none, none, none, none, none, none, none, none, none, none, none, none, none, none, none, none, none]
  [SObj.cells [SV.bool x24] (nat_lit 25)])) (fun (x20 : Int) (x21 : Bool) => Q (.exit 0) (St.mk
  [some (SV.ros x11 (K.int IntKind.i64) x12), some (SV.ros x13 (K.int IntKind.i64) x14), none, none, none, some (SV.bool x15), some (SV.int IntKind.i64 x16),
    some (SV.ptr (nat_lit 0) (nat_lit 0)), some (SV.int IntKind.i64 x20), none, none, none, none, none, none, none, none, none, none, none, none, none, none, none, none, none,
    none, none, none, none, none, none, none, none, none, none, none, none, none, none, none, none, none, none, none, none, none, none, none, none, none, none, none, none, none,
    none, none, none, none, none, none, none, none, none, none, none, none, none, none, none, none, none, none, none, none]
  [SObj.cells [SV.bool x21] (nat_lit 25)])) x17 x18 x19 := by kernel_rfl
theorem together_l0_iter {α : Type} (x11 : Value) (x12 : List Int) (x13 : Value) (x14 : List Int) (x15 : Bool) (x16 : Int) (Q : Ex → St → Option α) : ∀ (n : Nat) (x17 : Int) (x18 : Int) (x19 : Bool), iter (loopStep E (exec E look_awake noLps 400) 10 [false, true, false, true, true, true, true, true, true, true, true] 0 (codeAt E.P 10 [false, true, false, true, true, true, true, true, true, true, true])) n (St.mk
  [some (SV.ros x11 (K.int IntKind.i64) x12), some (SV.ros x13 (K.int IntKind.i64) x14), none, none, none, some (SV.bool x15), some (SV.int IntKind.i64 x16),
    some (SV.ptr (nat_lit 0) (nat_lit 0)), some (SV.int IntKind.i64 x17), some (SV.int IntKind.i64 x18), none, none, none, none, none, none, none, none, none, none, none, none,
    none, none, none, none, none, none, none, none, none, none, none, none, none, none, none, none, none, none, none, none, none, none, none, none, none, none, none, none, none,
    none, none, none, none, none, none, none, none, none, none, none, none, none, none, none, none, none, none, none, none, none, none, none, none]
  [SObj.cells [SV.bool x19] (nat_lit 25)]) Q = Go.Proofs.Ytdkkbbpmjpcfkaa.M.together_l0 x12 x14 x16 (fun (x20 : Int) (x21 : Bool) => Q (.exit 0) (St.mk
  [some (SV.ros x11 (K.int IntKind.i64) x12), some (SV.ros x13 (K.int IntKind.i64) x14), none, none, none, some (SV.bool x15), some (SV.int IntKind.i64 x16),
    some (SV.ptr (nat_lit 0) (nat_lit 0)), some (SV.int IntKind.i64 x20), none, none, none, none, none, none, none, none, none, none, none, none, none, none, none, none, none,
    none, none, none, none, none, none, none, none, none, none, none, none, none, none, none, none, none, none, none, none, none, none, none, none, none, none, none, none, none,
    none, none, none, none, none, none, none, none, none, none, none, none, none, none, none, none, none, none, none, none]
  [SObj.cells [SV.bool x21] (nat_lit 25)])) n x17 x18 x19
  | 0, _, _, _ => rfl
  | n + 1, x17, x18, x19 => (together_l0_step_eq x11 x12 x13 x14 x15 x16 x17 x18 x19 (iterK (loopStep E (exec E look_awake noLps 400) 10 [false, true, false, true, true, true, true, true, true, true, true] 0 (codeAt E.P 10 [false, true, false, true, true, true, true, true, true, true, true])) n Q)).trans (congrArg (fun kn => Go.Proofs.Ytdkkbbpmjpcfkaa.M.together_l0_step x12 x14 x16 kn (fun (x20 : Int) (x21 : Bool) => Q (.exit 0) (St.mk
  [some (SV.ros x11 (K.int IntKind.i64) x12), some (SV.ros x13 (K.int IntKind.i64) x14), none, none, none, some (SV.bool x15), some (SV.int IntKind.i64 x16),
    some (SV.ptr (nat_lit 0) (nat_lit 0)), some (SV.int IntKind.i64 x20), none, none, none, none, none, none, none, none, none, none, none, none, none, none, none, none, none,
    none, none, none, none, none, none, none, none, none, none, none, none, none, none, none, none, none, none, none, none, none, none, none, none, none, none, none, none, none,
    none, none, none, none, none, none, none, none, none, none, none, none, none, none, none, none, none, none, none, none]
  [SObj.cells [SV.bool x21] (nat_lit 25)])) x17 x18 x19) (funext fun x17 => funext fun x18 => funext fun x19 => together_l0_iter x11 x12 x13 x14 x15 x16 Q n x17 x18 x19))
noncomputable def together_l0_go {α : Type} (ds : List D) (Q : Ex → St → Option α) : Option α :=
  dV ds fun x11 ds => dL (K.int IntKind.i64) ds fun x12 ds => dV ds fun x13 ds => dL (K.int IntKind.i64) ds fun x14 ds => dB ds fun x15 ds => dI ds fun x16 ds => dI ds fun x17 ds => dI ds fun x18 ds => dB ds fun x19 ds => dE ds (Go.Proofs.Ytdkkbbpmjpcfkaa.M.together_l0 x12 x14 x16 (fun (x20 : Int) (x21 : Bool) => Q (.exit 0) (St.mk
  [some (SV.ros x11 (K.int IntKind.i64) x12), some (SV.ros x13 (K.int IntKind.i64) x14), none, none, none, some (SV.bool x15), some (SV.int IntKind.i64 x16),
    some (SV.ptr (nat_lit 0) (nat_lit 0)), some (SV.int IntKind.i64 x20), none, none, none, none, none, none, none, none, none, none, none, none, none, none, none, none, none,
    none, none, none, none, none, none, none, none, none, none, none, none, none, none, none, none, none, none, none, none, none, none, none, none, none, none, none, none, none,
    none, none, none, none, none, none, none, none, none, none, none, none, none, none, none, none, none, none, none, none]
  [SObj.cells [SV.bool x21] (nat_lit 25)])) (100 + x12.length + x14.length) x17 x18 x19)
theorem together_l0_ok {α : Type} : LoopOk E.P 10 [false, true, false, true, true, true, true, true, true, true, true] 0 (lEnt (α := α) (St.mk
  [some (SV.ros undef (K.int IntKind.i64) []), some (SV.ros undef (K.int IntKind.i64) []), none, none, none, some (SV.bool false), some (SV.int IntKind.i64 (0 : Int)),
    some (SV.ptr (nat_lit 0) (nat_lit 0)), some (SV.int IntKind.i64 (0 : Int)), some (SV.int IntKind.i64 (0 : Int)), none, none, none, none, none, none, none, none, none, none,
    none, none, none, none, none, none, none, none, none, none, none, none, none, none, none, none, none, none, none, none, none, none, none, none, none, none, none, none, none,
    none, none, none, none, none, none, none, none, none, none, none, none, none, none, none, none, none, none, none, none, none, none, none, none, none, none]
  [SObj.cells [SV.bool false] (nat_lit 25)]) together_l0_go) :=
  lEnt_ok E (exec_sound E E_ok (look_awake_ok) (noLps_ok _) 400) fun ds Q r h S hS => by
    unfold together_l0_go at h
    obtain ⟨x11, ds, rfl, h1⟩ := dV_inv h
    obtain ⟨x12, ds, rfl, h2⟩ := dL_inv h1
    obtain ⟨x13, ds, rfl, h3⟩ := dV_inv h2
    obtain ⟨x14, ds, rfl, h4⟩ := dL_inv h3
    obtain ⟨x15, ds, rfl, h5⟩ := dB_inv h4
    obtain ⟨x16, ds, rfl, h6⟩ := dI_inv h5
    obtain ⟨x17, ds, rfl, h7⟩ := dI_inv h6
    obtain ⟨x18, ds, rfl, h8⟩ := dI_inv h7
    obtain ⟨x19, ds, rfl, h9⟩ := dB_inv h8
    obtain ⟨rfl, hE⟩ := dE_inv h9
    have e : fillS (St.mk
  [some (SV.ros undef (K.int IntKind.i64) []), some (SV.ros undef (K.int IntKind.i64) []), none, none, none, some (SV.bool false), some (SV.int IntKind.i64 (0 : Int)),
    some (SV.ptr (nat_lit 0) (nat_lit 0)), some (SV.int IntKind.i64 (0 : Int)), some (SV.int IntKind.i64 (0 : Int)), none, none, none, none, none, none, none, none, none, none,
    none, none, none, none, none, none, none, none, none, none, none, none, none, none, none, none, none, none, none, none, none, none, none, none, none, none, none, none, none,
    none, none, none, none, none, none, none, none, none, none, none, none, none, none, none, none, none, none, none, none, none, none, none, none, none, none]
  [SObj.cells [SV.bool false] (nat_lit 25)]) [.v x11, .l (K.int IntKind.i64) x12, .v x13, .l (K.int IntKind.i64) x14, .b x15, .i x16, .i x17, .i x18, .b x19] = some (St.mk
  [some (SV.ros x11 (K.int IntKind.i64) x12), some (SV.ros x13 (K.int IntKind.i64) x14), none, none, none, some (SV.bool x15), some (SV.int IntKind.i64 x16),
    some (SV.ptr (nat_lit 0) (nat_lit 0)), some (SV.int IntKind.i64 x17), some (SV.int IntKind.i64 x18), none, none, none, none, none, none, none, none, none, none, none, none,
    none, none, none, none, none, none, none, none, none, none, none, none, none, none, none, none, none, none, none, none, none, none, none, none, none, none, none, none, none,
    none, none, none, none, none, none, none, none, none, none, none, none, none, none, none, none, none, none, none, none, none, none, none, none]
  [SObj.cells [SV.bool x19] (nat_lit 25)]) := by kernel_rfl
    rw [e] at hS
    cases hS
    exact ⟨_, (together_l0_iter x11 x12 x13 x14 x15 x16 Q _ x17 x18 x19).trans hE⟩
noncomputable def together_l0_lps {α : Type} : LookL α := addLp 10 [false, true, false, true, true, true, true, true, true, true, true] 0 (lEnt (St.mk
  [some (SV.ros undef (K.int IntKind.i64) []), some (SV.ros undef (K.int IntKind.i64) []), none, none, none, some (SV.bool false), some (SV.int IntKind.i64 (0 : Int)),
    some (SV.ptr (nat_lit 0) (nat_lit 0)), some (SV.int IntKind.i64 (0 : Int)), some (SV.int IntKind.i64 (0 : Int)), none, none, none, none, none, none, none, none, none, none,
    none, none, none, none, none, none, none, none, none, none, none, none, none, none, none, none, none, none, none, none, none, none, none, none, none, none, none, none, none,
    none, none, none, none, none, none, none, none, none, none, none, none, none, none, none, none, none, none, none, none, none, none, none, none, none, none]
  [SObj.cells [SV.bool false] (nat_lit 25)]) together_l0_go) noLps
theorem together_l0_lps_ok {α : Type} : LoopsOk E.P (together_l0_lps (α := α)) := addLp_ok together_l0_ok (noLps_ok _)

noncomputable def _root_.Go.Proofs.Ytdkkbbpmjpcfkaa.M.together {α : Type} (a : List Int) (b : List Int) (k0 : Bool → Option α) : Option α :=
  if
    ((0 : Int) ≤
        if (8 : Int) < if (↑(List.length b) : Int) < (↑(List.length a) : Int) then (↑(List.length b) : Int) else (↑(List.length a) : Int) then (8 : Int)
        else if (↑(List.length b) : Int) < (↑(List.length a) : Int) then (↑(List.length b) : Int) else (↑(List.length a) : Int)) ∧
      (if (8 : Int) < if (↑(List.length b) : Int) < (↑(List.length a) : Int) then (↑(List.length b) : Int) else (↑(List.length a) : Int) then (8 : Int)
        else if (↑(List.length b) : Int) < (↑(List.length a) : Int) then (↑(List.length b) : Int) else (↑(List.length a) : Int)) ≤
        (↑(List.length a) : Int) then
  if
      ((0 : Int) ≤
          if (8 : Int) < if (↑(List.length b) : Int) < (↑(List.length a) : Int) then (↑(List.length b) : Int) else (↑(List.length a) : Int) then (8 : Int)
          else if (↑(List.length b) : Int) < (↑(List.length a) : Int) then (↑(List.length b) : Int) else (↑(List.length a) : Int)) ∧
        (if (8 : Int) < if (↑(List.length b) : Int) < (↑(List.length a) : Int) then (↑(List.length b) : Int) else (↑(List.length a) : Int) then (8 : Int)
          else if (↑(List.length b) : Int) < (↑(List.length a) : Int) then (↑(List.length b) : Int) else (↑(List.length a) : Int)) ≤
          (↑(List.length b) : Int) then
    if
        List.length
            (List.take
              (Int.toNat
                (if (8 : Int) < if (↑(List.length b) : Int) < (↑(List.length a) : Int) then (↑(List.length b) : Int) else (↑(List.length a) : Int) then (8 : Int)
                else if (↑(List.length b) : Int) < (↑(List.length a) : Int) then (↑(List.length b) : Int) else (↑(List.length a) : Int)))
              a) <
          (9223372036854775808 : Nat) then
      if
          V.anyG
              (List.take
                (Int.toNat
                  (if (8 : Int) < if (↑(List.length b) : Int) < (↑(List.length a) : Int) then (↑(List.length b) : Int) else (↑(List.length a) : Int) then (8 : Int)
                  else if (↑(List.length b) : Int) < (↑(List.length a) : Int) then (↑(List.length b) : Int) else (↑(List.length a) : Int)))
                a) =
            true then
        k0 true
      else
        if
            List.length
                (List.take
                  (Int.toNat
                    (if (8 : Int) < if (↑(List.length b) : Int) < (↑(List.length a) : Int) then (↑(List.length b) : Int) else (↑(List.length a) : Int) then (8 : Int)
                    else if (↑(List.length b) : Int) < (↑(List.length a) : Int) then (↑(List.length b) : Int) else (↑(List.length a) : Int)))
                  b) <
              (9223372036854775808 : Nat) then
          if
              V.anyG
                  (List.take
                    (Int.toNat
                      (if (8 : Int) < if (↑(List.length b) : Int) < (↑(List.length a) : Int) then (↑(List.length b) : Int) else (↑(List.length a) : Int) then (8 : Int)
                      else if (↑(List.length b) : Int) < (↑(List.length a) : Int) then (↑(List.length b) : Int) else (↑(List.length a) : Int)))
                    b) =
                true then
            k0 true
          else
            M.together_l0
              (List.take
                (Int.toNat
                  (if (8 : Int) < if (↑(List.length b) : Int) < (↑(List.length a) : Int) then (↑(List.length b) : Int) else (↑(List.length a) : Int) then (8 : Int)
                  else if (↑(List.length b) : Int) < (↑(List.length a) : Int) then (↑(List.length b) : Int) else (↑(List.length a) : Int)))
                a)
              (List.take
                (Int.toNat
                  (if (8 : Int) < if (↑(List.length b) : Int) < (↑(List.length a) : Int) then (↑(List.length b) : Int) else (↑(List.length a) : Int) then (8 : Int)
                  else if (↑(List.length b) : Int) < (↑(List.length a) : Int) then (↑(List.length b) : Int) else (↑(List.length a) : Int)))
                b)
              (if (8 : Int) < if (↑(List.length b) : Int) < (↑(List.length a) : Int) then (↑(List.length b) : Int) else (↑(List.length a) : Int) then (8 : Int)
              else if (↑(List.length b) : Int) < (↑(List.length a) : Int) then (↑(List.length b) : Int) else (↑(List.length a) : Int))
              (fun (x27 : Int) (x28 : Bool) ↦
                if
                    V.gn
                        (V.mDot
                          (List.take
                            (Int.toNat
                              (if (8 : Int) < if (↑(List.length b) : Int) < (↑(List.length a) : Int) then (↑(List.length b) : Int) else (↑(List.length a) : Int) then (8 : Int)
                              else if (↑(List.length b) : Int) < (↑(List.length a) : Int) then (↑(List.length b) : Int) else (↑(List.length a) : Int)))
                            a)
                          (List.take
                            (Int.toNat
                              (if (8 : Int) < if (↑(List.length b) : Int) < (↑(List.length a) : Int) then (↑(List.length b) : Int) else (↑(List.length a) : Int) then (8 : Int)
                              else if (↑(List.length b) : Int) < (↑(List.length a) : Int) then (↑(List.length b) : Int) else (↑(List.length a) : Int)))
                            b))
                        x28 =
                      true then
                  k0 true
                else
                  if
                      cLe x27
                          (V.gv
                            (V.mDot
                              (List.take
                                (Int.toNat
                                  (if (8 : Int) < if (↑(List.length b) : Int) < (↑(List.length a) : Int) then (↑(List.length b) : Int) else (↑(List.length a) : Int) then (8 : Int)
                                  else if (↑(List.length b) : Int) < (↑(List.length a) : Int) then (↑(List.length b) : Int) else (↑(List.length a) : Int)))
                                a)
                              (List.take
                                (Int.toNat
                                  (if (8 : Int) < if (↑(List.length b) : Int) < (↑(List.length a) : Int) then (↑(List.length b) : Int) else (↑(List.length a) : Int) then (8 : Int)
                                  else if (↑(List.length b) : Int) < (↑(List.length a) : Int) then (↑(List.length b) : Int) else (↑(List.length a) : Int)))
                                b))) =
                        true then
                    k0
                      (cLe
                        (IntKind.wrap IntKind.i64
                          (V.gv
                              (V.mDot
                                (List.take
                                  (Int.toNat
                                    (if (8 : Int) < if (↑(List.length b) : Int) < (↑(List.length a) : Int) then (↑(List.length b) : Int) else (↑(List.length a) : Int) then
                                      (8 : Int)
                                    else if (↑(List.length b) : Int) < (↑(List.length a) : Int) then (↑(List.length b) : Int) else (↑(List.length a) : Int)))
                                  a)
                                (List.take
                                  (Int.toNat
                                    (if (8 : Int) < if (↑(List.length b) : Int) < (↑(List.length a) : Int) then (↑(List.length b) : Int) else (↑(List.length a) : Int) then
                                      (8 : Int)
                                    else if (↑(List.length b) : Int) < (↑(List.length a) : Int) then (↑(List.length b) : Int) else (↑(List.length a) : Int)))
                                  b)) -
                            x27))
                        (if
                            (0 : Int) >
                              IntKind.wrap IntKind.i64
                                ((if (8 : Int) < if (↑(List.length b) : Int) < (↑(List.length a) : Int) then (↑(List.length b) : Int) else (↑(List.length a) : Int) then (8 : Int)
                                  else if (↑(List.length b) : Int) < (↑(List.length a) : Int) then (↑(List.length b) : Int) else (↑(List.length a) : Int)) -
                                  (1 : Int)) then
                          (0 : Int)
                        else
                          IntKind.wrap IntKind.i64
                            ((if (8 : Int) < if (↑(List.length b) : Int) < (↑(List.length a) : Int) then (↑(List.length b) : Int) else (↑(List.length a) : Int) then (8 : Int)
                              else if (↑(List.length b) : Int) < (↑(List.length a) : Int) then (↑(List.length b) : Int) else (↑(List.length a) : Int)) -
                              (1 : Int))))
                  else k0 false)
              ((100 : Nat) +
                  List.length
                    (List.take
                      (Int.toNat
                        (if (8 : Int) < if (↑(List.length b) : Int) < (↑(List.length a) : Int) then (↑(List.length b) : Int) else (↑(List.length a) : Int) then (8 : Int)
                        else if (↑(List.length b) : Int) < (↑(List.length a) : Int) then (↑(List.length b) : Int) else (↑(List.length a) : Int)))
                      a) +
                List.length
                  (List.take
                    (Int.toNat
                      (if (8 : Int) < if (↑(List.length b) : Int) < (↑(List.length a) : Int) then (↑(List.length b) : Int) else (↑(List.length a) : Int) then (8 : Int)
                      else if (↑(List.length b) : Int) < (↑(List.length a) : Int) then (↑(List.length b) : Int) else (↑(List.length a) : Int)))
                    b))
              (0 : Int) (0 : Int) false
        else none
    else none
  else none
else none
theorem together_eq {α : Type} (a : List Int) (b : List Int) (v25 : Value) (v26 : Value) (Q : SV → Hp → Option α) : callI E look_awake (exec E look_awake together_l0_lps 400) 10 ([SV.ros v25 (K.int IntKind.i64) a, SV.ros v26 (K.int IntKind.i64) b]) ([]) Q = Go.Proofs.Ytdkkbbpmjpcfkaa.M.together a b (fun (x29 : Bool) => Q (SV.bool x29) ([])) := by kernel_rfl
def together_sp : List AS := [.ro (.int .i64), .ro (.int .i64)]
theorem gnf {o : Option Int} {bad : Bool} (h : V.gn o bad = false) : (∃ n, o = some n) ∧ bad = false := by
  unfold V.gn at h
  cases o with
  | none => simp at h
  | some n => simp at h; exact ⟨⟨n, rfl⟩, h⟩
theorem tlI {n m : Int} (h : V.tl n = some m) : m = n ∧ isG n = false := by
  unfold V.tl at h
  cases hg : isG n <;> simp_all
theorem mMulI {a b m : Int} (h : V.mMul a b = some m) : m = a * b / 4294967296 := by
  unfold V.mMul at h
  split at h
  · cases h
  · exact (tlI h).1
theorem mAddI {a b m : Int} (h : V.mAdd a b = some m) : m = a + b := by
  unfold V.mAdd at h
  split at h
  · cases h
  · exact (tlI h).1
theorem mDotI {a b : List Int} {m : Int} (h : V.mDot a b = some m) : m = V.dotZ a b / 4294967296 ∧ isG m = false := by
  unfold V.mDot at h
  split at h
  · cases h
  · obtain ⟨h1, h2⟩ := tlI h
    rw [h1]; exact ⟨rfl, h2⟩
def tog : List Int → List Int → Int → Bool → Int × Bool
  | x :: A, y :: B, s, bad => tog A B (V.gv (V.mAdd s (V.gv (V.mMul x y)))) (V.gn (V.mAdd s (V.gv (V.mMul x y))) (V.gn (V.mMul x y) bad))
  | _, _, s, bad => (s, bad)
def flo : List Int → List Int → Int
  | x :: A, y :: B => x * y / 4294967296 + flo A B
  | _, _ => 0
theorem tog_flo : ∀ (A B : List Int) (s : Int) (bad : Bool), (tog A B s bad).2 = false → bad = false ∧ (tog A B s bad).1 = s + flo A B
  | x :: A, y :: B, s, bad, h => by
    unfold tog at h ⊢
    unfold flo
    obtain ⟨h1, h2⟩ := tog_flo A B _ _ h
    obtain ⟨⟨m, hm⟩, h3⟩ := gnf h1
    obtain ⟨⟨n, hn⟩, h4⟩ := gnf h3
    refine ⟨h4, ?_⟩
    rw [h2]
    rw [hn] at hm ⊢
    rw [hm]
    have e1 := mMulI hn
    have e2 := mAddI hm
    simp only [V.gv, Option.getD_some] at e2 ⊢
    omega
  | [], _, s, bad, h => by simp [tog, flo] at h ⊢; exact h
  | _ :: _, [], s, bad, h => by simp [tog, flo] at h ⊢; exact h
theorem flo_dot : ∀ (A B : List Int), 4294967296 * flo A B ≤ V.dotZ A B ∧ V.dotZ A B ≤ 4294967296 * flo A B + 4294967295 * (A.length : Int)
  | [], B => by simp [flo, V.dotZ]
  | x :: A, [] => by simp [flo, V.dotZ]; omega
  | x :: A, y :: B => by
    have := flo_dot A B
    rw [dotZ_cons, List.length_cons]
    unfold flo
    push_cast
    generalize x * y = p
    omega
theorem tog_drop (A B : List Int) (i : Nat) (h1 : i < A.length) (h2 : i < B.length) (s : Int) (bad : Bool) :
    tog (A.drop i) (B.drop i) s bad = tog (A.drop (i + 1)) (B.drop (i + 1)) (V.gv (V.mAdd s (V.gv (V.mMul (A.getD i 0) (B.getD i 0))))) (V.gn (V.mAdd s (V.gv (V.mMul (A.getD i 0) (B.getD i 0)))) (V.gn (V.mMul (A.getD i 0) (B.getD i 0)) bad)) := by
  rw [List.drop_eq_getElem_cons h1, List.drop_eq_getElem_cons h2]
  simp [tog, List.getD_eq_getElem?_getD, h1, h2]
theorem together_l0_val {α : Type} (A B : List Int) (hl : A.length < 9223372036854775808) (hab : A.length = B.length) (k1 : Int → Bool → Option α) : ∀ (fuel i : Nat) (s : Int) (bad : Bool), i ≤ A.length → A.length - i < fuel →
    M.together_l0 A B (A.length : Int) k1 fuel s (i : Int) bad = k1 (tog (A.drop i) (B.drop i) s bad).1 (tog (A.drop i) (B.drop i) s bad).2
  | 0, i, s, bad, h1, h2 => by omega
  | n + 1, i, s, bad, h1, h2 => by
    unfold M.together_l0 M.together_l0_step
    by_cases hi : i < A.length
    · have ih := fun s bad => together_l0_val A B hl hab k1 n (i + 1) s bad (by omega) (by omega)
      rw [IntWalk.i64_in _ (by omega : -9223372036854775808 ≤ (i : Int) + 1 ∧ (i : Int) + 1 ≤ 9223372036854775807)]
      push_cast at ih
      have g1 : (i : Int) < (A.length : Int) := by omega
      have g2 : (i : Int) < (B.length : Int) := by omega
      simp only [cLt_eq, getD_toNat, g1, g2, decide_true, if_true, Int.natCast_nonneg, and_self]
      rw [ih, tog_drop A B i hi (by omega)]
    · have : i = A.length := by omega
      subst this
      have e : B.drop A.length = [] := by rw [hab]; simp
      simp [cLt_eq, tog]
theorem together_v {α : Type} (a b : List Int) (k0 : Bool → Option α) : M.together a b k0 = k0 true := by
  unfold M.together
  obtain ⟨N, hN⟩ : ∃ N : Nat, N = min (min a.length b.length) 8 := ⟨_, rfl⟩
  have e1 : (if (8 : Int) < if (↑(List.length b) : Int) < (↑(List.length a) : Int) then (↑(List.length b) : Int) else (↑(List.length a) : Int) then (8 : Int)
        else if (↑(List.length b) : Int) < (↑(List.length a) : Int) then (↑(List.length b) : Int) else (↑(List.length a) : Int)) = (N : Int) := by
    rw [hN]; split <;> split <;> omega
  simp only [e1, Int.toNat_natCast]
  have la : (a.take N).length = N := by rw [List.length_take]; omega
  have lb : (b.take N).length = N := by rw [List.length_take]; omega
  rw [if_pos (by omega), if_pos (by omega), if_pos (by omega)]
  generalize ha : a.take N = A at *
  generalize hb : b.take N = B at *
  split
  · rfl
  rw [if_pos (by omega)]
  split
  · rfl
  have hv := together_l0_val A B (by omega) (by omega) (fun x27 x28 => if V.gn (V.mDot A B) x28 = true then k0 true
                else if cLe x27 (V.gv (V.mDot A B)) = true then k0 (cLe (IntKind.wrap IntKind.i64 (V.gv (V.mDot A B) - x27)) (if (0 : Int) > IntKind.wrap IntKind.i64 ((N : Int) - 1) then (0 : Int) else IntKind.wrap IntKind.i64 ((N : Int) - 1)))
                  else k0 false) (100 + A.length + B.length) 0 0 false (by omega) (by omega)
  rw [la, Int.natCast_zero] at hv
  rw [la]
  refine hv.trans ?_
  simp only [List.drop_zero]
  cases hg : V.gn (V.mDot A B) (tog A B 0 false).2 with
  | true => simp
  | false =>
    obtain ⟨⟨d, hd⟩, h2⟩ := gnf hg
    obtain ⟨_, h3⟩ := tog_flo A B 0 false h2
    obtain ⟨h4, h5⟩ := mDotI hd
    have h6 := flo_dot A B
    have h7 := (isG_false d).1 h5
    rw [la] at h6
    rw [h3, hd]
    simp only [V.gv, Option.getD_some, cLe_eq, Bool.false_eq_true, if_false]
    have g1 : 0 + flo A B ≤ d := by omega
    have g2 : d - (0 + flo A B) ≤ (if (0 : Int) > (N : Int) - 1 then 0 else (N : Int) - 1) := by
      split <;> omega
    have hN8 : N ≤ 8 := by omega
    have g3 : d - (0 + flo A B) ≤ 8 := by split at g2 <;> omega
    rw [IntWalk.i64_in ((N : Int) - 1) (by omega), IntWalk.i64_in (d - (0 + flo A B)) (by omega)]
    simp only [g1, g2, decide_true, if_true]
noncomputable def together_h {α : Type} (ds : List D) (Q : SV → Hp → Option α) : Option α :=
  dL (K.int IntKind.i64) ds fun a ds => dL (K.int IntKind.i64) ds fun b ds => dE ds (Q (.bool true) ([]))
theorem together_h_ok {α : Type} : FnOk E.P 10 (fEnt (α := α) together_sp together_h) :=
  fEntR_ok E (look_awake_ok) (exec_sound E E_ok (look_awake_ok) (together_l0_lps_ok) 400) fun ds Q r h => by
    unfold together_h at h
    obtain ⟨a, ds, rfl, h1⟩ := dL_inv h
    obtain ⟨b, ds, rfl, h2⟩ := dL_inv h1
    obtain ⟨rfl, hE⟩ := dE_inv h2
    exact ⟨_, _, hE, fun vs => ⟨_, _, by kernel_rfl, (together_eq a b (vs.headD undef) (vs.tail.headD undef) _).trans (together_v a b _)⟩⟩
end Go.Proofs.Ytdkkbbpmjpcfkaa.Sx
