/- FxScripts: its run tells true. -/
import Derived.Test.YtdkkbbpmjpcfkaaFxH
namespace Go.Proofs.Ytdkkbbpmjpcfkaa.Sx
open Go
set_option linter.unusedVariables false
set_option linter.unusedSimpArgs false
noncomputable def _root_.Go.Proofs.Ytdkkbbpmjpcfkaa.M.scripts_l0_step {α : Type} (x8 : List V3) (kn : Bool → Int → Bool → Option α) (k0 : Option α) (k2 : Option α) (x10 : Bool) (x11 : Int) (x12 : Bool) : Option α :=
  if cLt x11 (↑(List.length x8) : Int) = true then
  if (0 : Int) ≤ x11 ∧ x11 < (↑(List.length x8) : Int) then
    if (0 : Int) ≤ x11 ∧ x11 < (↑(List.length x8) : Int) then
      if (0 : Int) ≤ x11 ∧ x11 < (↑(List.length x8) : Int) then
        if cEq (Int.tmod x11 (5 : Int)) (0 : Int) = true then
          if x10 = true then
            if
                (!cEq
                      (V.gv
                        (V.mAdd (V3.X (List.getD x8 (Int.toNat x11) (V3.mk (0 : Int) (0 : Int) (0 : Int))))
                          (V3.Y (List.getD x8 (Int.toNat x11) (V3.mk (0 : Int) (0 : Int) (0 : Int))))))
                      (V.gv
                        (V.mAdd (V3.X (List.getD x8 (Int.toNat x11) (V3.mk (0 : Int) (0 : Int) (0 : Int))))
                          (V3.Y (List.getD x8 (Int.toNat x11) (V3.mk (0 : Int) (0 : Int) (0 : Int))))))) =
                  true then
              k0
            else
              if
                  (!V.gn
                          (V.mAdd (V3.X (List.getD x8 (Int.toNat x11) (V3.mk (0 : Int) (0 : Int) (0 : Int))))
                            (V3.Y (List.getD x8 (Int.toNat x11) (V3.mk (0 : Int) (0 : Int) (0 : Int)))))
                          x12 ==
                        true) =
                    true then
                k0
              else
                kn true (IntKind.wrap IntKind.i64 (x11 + (1 : Int)))
                  (V.gn
                    (V.mAdd (V3.X (List.getD x8 (Int.toNat x11) (V3.mk (0 : Int) (0 : Int) (0 : Int)))) (V3.Y (List.getD x8 (Int.toNat x11) (V3.mk (0 : Int) (0 : Int) (0 : Int)))))
                    x12)
          else
            if
                (!cEq
                      (V.gv
                        (V.mAdd (V3.X (List.getD x8 (Int.toNat x11) (V3.mk (0 : Int) (0 : Int) (0 : Int))))
                          (V3.Y (List.getD x8 (Int.toNat x11) (V3.mk (0 : Int) (0 : Int) (0 : Int))))))
                      (V.gv
                        (V.mAdd (V3.X (List.getD x8 (Int.toNat x11) (V3.mk (0 : Int) (0 : Int) (0 : Int))))
                          (V3.Y (List.getD x8 (Int.toNat x11) (V3.mk (0 : Int) (0 : Int) (0 : Int))))))) =
                  true then
              k0
            else
              if
                  (!V.gn
                          (V.mAdd (V3.X (List.getD x8 (Int.toNat x11) (V3.mk (0 : Int) (0 : Int) (0 : Int))))
                            (V3.Y (List.getD x8 (Int.toNat x11) (V3.mk (0 : Int) (0 : Int) (0 : Int)))))
                          x12 ==
                        V.gn
                          (V.mAdd (V3.X (List.getD x8 (Int.toNat x11) (V3.mk (0 : Int) (0 : Int) (0 : Int))))
                            (V3.Y (List.getD x8 (Int.toNat x11) (V3.mk (0 : Int) (0 : Int) (0 : Int)))))
                          false) =
                    true then
                k0
              else
                kn
                  (V.gn
                    (V.mAdd (V3.X (List.getD x8 (Int.toNat x11) (V3.mk (0 : Int) (0 : Int) (0 : Int)))) (V3.Y (List.getD x8 (Int.toNat x11) (V3.mk (0 : Int) (0 : Int) (0 : Int)))))
                    false)
                  (IntKind.wrap IntKind.i64 (x11 + (1 : Int)))
                  (V.gn
                    (V.mAdd (V3.X (List.getD x8 (Int.toNat x11) (V3.mk (0 : Int) (0 : Int) (0 : Int)))) (V3.Y (List.getD x8 (Int.toNat x11) (V3.mk (0 : Int) (0 : Int) (0 : Int)))))
                    x12)
        else
          if cEq (Int.tmod x11 (5 : Int)) (1 : Int) = true then
            if x10 = true then
              if
                  (!cEq
                        (V.gv
                          (V.mMul (V3.X (List.getD x8 (Int.toNat x11) (V3.mk (0 : Int) (0 : Int) (0 : Int))))
                            (V3.Y (List.getD x8 (Int.toNat x11) (V3.mk (0 : Int) (0 : Int) (0 : Int))))))
                        (V.gv
                          (V.mMul (V3.X (List.getD x8 (Int.toNat x11) (V3.mk (0 : Int) (0 : Int) (0 : Int))))
                            (V3.Y (List.getD x8 (Int.toNat x11) (V3.mk (0 : Int) (0 : Int) (0 : Int))))))) =
                    true then
                k0
              else
                if
                    (!V.gn
                            (V.mMul (V3.X (List.getD x8 (Int.toNat x11) (V3.mk (0 : Int) (0 : Int) (0 : Int))))
                              (V3.Y (List.getD x8 (Int.toNat x11) (V3.mk (0 : Int) (0 : Int) (0 : Int)))))
                            x12 ==
                          true) =
                      true then
                  k0
                else
                  kn true (IntKind.wrap IntKind.i64 (x11 + (1 : Int)))
                    (V.gn
                      (V.mMul (V3.X (List.getD x8 (Int.toNat x11) (V3.mk (0 : Int) (0 : Int) (0 : Int))))
                        (V3.Y (List.getD x8 (Int.toNat x11) (V3.mk (0 : Int) (0 : Int) (0 : Int)))))
                      x12)
            else
              if
                  (!cEq
                        (V.gv
                          (V.mMul (V3.X (List.getD x8 (Int.toNat x11) (V3.mk (0 : Int) (0 : Int) (0 : Int))))
                            (V3.Y (List.getD x8 (Int.toNat x11) (V3.mk (0 : Int) (0 : Int) (0 : Int))))))
                        (V.gv
                          (V.mMul (V3.X (List.getD x8 (Int.toNat x11) (V3.mk (0 : Int) (0 : Int) (0 : Int))))
                            (V3.Y (List.getD x8 (Int.toNat x11) (V3.mk (0 : Int) (0 : Int) (0 : Int))))))) =
                    true then
                k0
              else
                if
                    (!V.gn
                            (V.mMul (V3.X (List.getD x8 (Int.toNat x11) (V3.mk (0 : Int) (0 : Int) (0 : Int))))
                              (V3.Y (List.getD x8 (Int.toNat x11) (V3.mk (0 : Int) (0 : Int) (0 : Int)))))
                            x12 ==
                          V.gn
                            (V.mMul (V3.X (List.getD x8 (Int.toNat x11) (V3.mk (0 : Int) (0 : Int) (0 : Int))))
                              (V3.Y (List.getD x8 (Int.toNat x11) (V3.mk (0 : Int) (0 : Int) (0 : Int)))))
                            false) =
                      true then
                  k0
                else
                  kn
                    (V.gn
                      (V.mMul (V3.X (List.getD x8 (Int.toNat x11) (V3.mk (0 : Int) (0 : Int) (0 : Int))))
                        (V3.Y (List.getD x8 (Int.toNat x11) (V3.mk (0 : Int) (0 : Int) (0 : Int)))))
                      false)
                    (IntKind.wrap IntKind.i64 (x11 + (1 : Int)))
                    (V.gn
                      (V.mMul (V3.X (List.getD x8 (Int.toNat x11) (V3.mk (0 : Int) (0 : Int) (0 : Int))))
                        (V3.Y (List.getD x8 (Int.toNat x11) (V3.mk (0 : Int) (0 : Int) (0 : Int)))))
                      x12)
          else
            if cEq (Int.tmod x11 (5 : Int)) (2 : Int) = true then
              if x10 = true then
                if
                    (!cEq
                          (V.gv
                            (V.mRatio (V3.X (List.getD x8 (Int.toNat x11) (V3.mk (0 : Int) (0 : Int) (0 : Int))))
                              (V3.Y (List.getD x8 (Int.toNat x11) (V3.mk (0 : Int) (0 : Int) (0 : Int))))
                              (V3.Z (List.getD x8 (Int.toNat x11) (V3.mk (0 : Int) (0 : Int) (0 : Int))))))
                          (V.gv
                            (V.mRatio (V3.X (List.getD x8 (Int.toNat x11) (V3.mk (0 : Int) (0 : Int) (0 : Int))))
                              (V3.Y (List.getD x8 (Int.toNat x11) (V3.mk (0 : Int) (0 : Int) (0 : Int))))
                              (V3.Z (List.getD x8 (Int.toNat x11) (V3.mk (0 : Int) (0 : Int) (0 : Int))))))) =
                      true then
                  k0
                else
                  if
                      (!V.gn
                              (V.mRatio (V3.X (List.getD x8 (Int.toNat x11) (V3.mk (0 : Int) (0 : Int) (0 : Int))))
                                (V3.Y (List.getD x8 (Int.toNat x11) (V3.mk (0 : Int) (0 : Int) (0 : Int))))
                                (V3.Z (List.getD x8 (Int.toNat x11) (V3.mk (0 : Int) (0 : Int) (0 : Int)))))
                              x12 ==
                            true) =
                        true then
                    k0
                  else
                    kn true (IntKind.wrap IntKind.i64 (x11 + (1 : Int)))
                      (V.gn
                        (V.mRatio (V3.X (List.getD x8 (Int.toNat x11) (V3.mk (0 : Int) (0 : Int) (0 : Int))))
                          (V3.Y (List.getD x8 (Int.toNat x11) (V3.mk (0 : Int) (0 : Int) (0 : Int)))) (V3.Z (List.getD x8 (Int.toNat x11) (V3.mk (0 : Int) (0 : Int) (0 : Int)))))
                        x12)
              else
                if
                    (!cEq
                          (V.gv
                            (V.mRatio (V3.X (List.getD x8 (Int.toNat x11) (V3.mk (0 : Int) (0 : Int) (0 : Int))))
                              (V3.Y (List.getD x8 (Int.toNat x11) (V3.mk (0 : Int) (0 : Int) (0 : Int))))
                              (V3.Z (List.getD x8 (Int.toNat x11) (V3.mk (0 : Int) (0 : Int) (0 : Int))))))
                          (V.gv
                            (V.mRatio (V3.X (List.getD x8 (Int.toNat x11) (V3.mk (0 : Int) (0 : Int) (0 : Int))))
                              (V3.Y (List.getD x8 (Int.toNat x11) (V3.mk (0 : Int) (0 : Int) (0 : Int))))
                              (V3.Z (List.getD x8 (Int.toNat x11) (V3.mk (0 : Int) (0 : Int) (0 : Int))))))) =
                      true then
                  k0
                else
                  if
                      (!V.gn
                              (V.mRatio (V3.X (List.getD x8 (Int.toNat x11) (V3.mk (0 : Int) (0 : Int) (0 : Int))))
                                (V3.Y (List.getD x8 (Int.toNat x11) (V3.mk (0 : Int) (0 : Int) (0 : Int))))
                                (V3.Z (List.getD x8 (Int.toNat x11) (V3.mk (0 : Int) (0 : Int) (0 : Int)))))
                              x12 ==
                            V.gn
                              (V.mRatio (V3.X (List.getD x8 (Int.toNat x11) (V3.mk (0 : Int) (0 : Int) (0 : Int))))
                                (V3.Y (List.getD x8 (Int.toNat x11) (V3.mk (0 : Int) (0 : Int) (0 : Int))))
                                (V3.Z (List.getD x8 (Int.toNat x11) (V3.mk (0 : Int) (0 : Int) (0 : Int)))))
                              false) =
                        true then
                    k0
                  else
                    kn
                      (V.gn
                        (V.mRatio (V3.X (List.getD x8 (Int.toNat x11) (V3.mk (0 : Int) (0 : Int) (0 : Int))))
                          (V3.Y (List.getD x8 (Int.toNat x11) (V3.mk (0 : Int) (0 : Int) (0 : Int)))) (V3.Z (List.getD x8 (Int.toNat x11) (V3.mk (0 : Int) (0 : Int) (0 : Int)))))
                        false)
                      (IntKind.wrap IntKind.i64 (x11 + (1 : Int)))
                      (V.gn
                        (V.mRatio (V3.X (List.getD x8 (Int.toNat x11) (V3.mk (0 : Int) (0 : Int) (0 : Int))))
                          (V3.Y (List.getD x8 (Int.toNat x11) (V3.mk (0 : Int) (0 : Int) (0 : Int)))) (V3.Z (List.getD x8 (Int.toNat x11) (V3.mk (0 : Int) (0 : Int) (0 : Int)))))
                        x12)
            else
              if cEq (Int.tmod x11 (5 : Int)) (3 : Int) = true then
                if x10 = true then
                  if
                      (!cEq
                            (V.gv
                              (V.mNorm
                                [V3.X (List.getD x8 (Int.toNat x11) (V3.mk (0 : Int) (0 : Int) (0 : Int))),
                                  V3.Y (List.getD x8 (Int.toNat x11) (V3.mk (0 : Int) (0 : Int) (0 : Int))),
                                  V3.Z (List.getD x8 (Int.toNat x11) (V3.mk (0 : Int) (0 : Int) (0 : Int)))]))
                            (V.gv
                              (V.mNorm
                                [V3.X (List.getD x8 (Int.toNat x11) (V3.mk (0 : Int) (0 : Int) (0 : Int))),
                                  V3.Y (List.getD x8 (Int.toNat x11) (V3.mk (0 : Int) (0 : Int) (0 : Int))),
                                  V3.Z (List.getD x8 (Int.toNat x11) (V3.mk (0 : Int) (0 : Int) (0 : Int)))]))) =
                        true then
                    k0
                  else
                    if
                        (!V.gn
                                (V.mNorm
                                  [V3.X (List.getD x8 (Int.toNat x11) (V3.mk (0 : Int) (0 : Int) (0 : Int))),
                                    V3.Y (List.getD x8 (Int.toNat x11) (V3.mk (0 : Int) (0 : Int) (0 : Int))),
                                    V3.Z (List.getD x8 (Int.toNat x11) (V3.mk (0 : Int) (0 : Int) (0 : Int)))])
                                x12 ==
                              true) =
                          true then
                      k0
                    else
                      kn true (IntKind.wrap IntKind.i64 (x11 + (1 : Int)))
                        (V.gn
                          (V.mNorm
                            [V3.X (List.getD x8 (Int.toNat x11) (V3.mk (0 : Int) (0 : Int) (0 : Int))), V3.Y (List.getD x8 (Int.toNat x11) (V3.mk (0 : Int) (0 : Int) (0 : Int))),
                              V3.Z (List.getD x8 (Int.toNat x11) (V3.mk (0 : Int) (0 : Int) (0 : Int)))])
                          x12)
                else
                  if
                      (!cEq
                            (V.gv
                              (V.mNorm
                                [V3.X (List.getD x8 (Int.toNat x11) (V3.mk (0 : Int) (0 : Int) (0 : Int))),
                                  V3.Y (List.getD x8 (Int.toNat x11) (V3.mk (0 : Int) (0 : Int) (0 : Int))),
                                  V3.Z (List.getD x8 (Int.toNat x11) (V3.mk (0 : Int) (0 : Int) (0 : Int)))]))
                            (V.gv
                              (V.mNorm
                                [V3.X (List.getD x8 (Int.toNat x11) (V3.mk (0 : Int) (0 : Int) (0 : Int))),
                                  V3.Y (List.getD x8 (Int.toNat x11) (V3.mk (0 : Int) (0 : Int) (0 : Int))),
                                  V3.Z (List.getD x8 (Int.toNat x11) (V3.mk (0 : Int) (0 : Int) (0 : Int)))]))) =
                        true then
                    k0
                  else
                    if
                        (!V.gn
                                (V.mNorm
                                  [V3.X (List.getD x8 (Int.toNat x11) (V3.mk (0 : Int) (0 : Int) (0 : Int))),
                                    V3.Y (List.getD x8 (Int.toNat x11) (V3.mk (0 : Int) (0 : Int) (0 : Int))),
                                    V3.Z (List.getD x8 (Int.toNat x11) (V3.mk (0 : Int) (0 : Int) (0 : Int)))])
                                x12 ==
                              V.gn
                                (V.mNorm
                                  [V3.X (List.getD x8 (Int.toNat x11) (V3.mk (0 : Int) (0 : Int) (0 : Int))),
                                    V3.Y (List.getD x8 (Int.toNat x11) (V3.mk (0 : Int) (0 : Int) (0 : Int))),
                                    V3.Z (List.getD x8 (Int.toNat x11) (V3.mk (0 : Int) (0 : Int) (0 : Int)))])
                                false) =
                          true then
                      k0
                    else
                      kn
                        (V.gn
                          (V.mNorm
                            [V3.X (List.getD x8 (Int.toNat x11) (V3.mk (0 : Int) (0 : Int) (0 : Int))), V3.Y (List.getD x8 (Int.toNat x11) (V3.mk (0 : Int) (0 : Int) (0 : Int))),
                              V3.Z (List.getD x8 (Int.toNat x11) (V3.mk (0 : Int) (0 : Int) (0 : Int)))])
                          false)
                        (IntKind.wrap IntKind.i64 (x11 + (1 : Int)))
                        (V.gn
                          (V.mNorm
                            [V3.X (List.getD x8 (Int.toNat x11) (V3.mk (0 : Int) (0 : Int) (0 : Int))), V3.Y (List.getD x8 (Int.toNat x11) (V3.mk (0 : Int) (0 : Int) (0 : Int))),
                              V3.Z (List.getD x8 (Int.toNat x11) (V3.mk (0 : Int) (0 : Int) (0 : Int)))])
                          x12)
              else
                if x10 = true then
                  if
                      (!cEq (V.gv (V.mRoot (V3.X (List.getD x8 (Int.toNat x11) (V3.mk (0 : Int) (0 : Int) (0 : Int))))))
                            (V.gv (V.mRoot (V3.X (List.getD x8 (Int.toNat x11) (V3.mk (0 : Int) (0 : Int) (0 : Int))))))) =
                        true then
                    k0
                  else
                    if (!V.gn (V.mRoot (V3.X (List.getD x8 (Int.toNat x11) (V3.mk (0 : Int) (0 : Int) (0 : Int))))) x12 == true) = true then k0
                    else kn true (IntKind.wrap IntKind.i64 (x11 + (1 : Int))) (V.gn (V.mRoot (V3.X (List.getD x8 (Int.toNat x11) (V3.mk (0 : Int) (0 : Int) (0 : Int))))) x12)
                else
                  if
                      (!cEq (V.gv (V.mRoot (V3.X (List.getD x8 (Int.toNat x11) (V3.mk (0 : Int) (0 : Int) (0 : Int))))))
                            (V.gv (V.mRoot (V3.X (List.getD x8 (Int.toNat x11) (V3.mk (0 : Int) (0 : Int) (0 : Int))))))) =
                        true then
                    k0
                  else
                    if
                        (!V.gn (V.mRoot (V3.X (List.getD x8 (Int.toNat x11) (V3.mk (0 : Int) (0 : Int) (0 : Int))))) x12 ==
                              V.gn (V.mRoot (V3.X (List.getD x8 (Int.toNat x11) (V3.mk (0 : Int) (0 : Int) (0 : Int))))) false) =
                          true then
                      k0
                    else
                      kn (V.gn (V.mRoot (V3.X (List.getD x8 (Int.toNat x11) (V3.mk (0 : Int) (0 : Int) (0 : Int))))) false) (IntKind.wrap IntKind.i64 (x11 + (1 : Int)))
                        (V.gn (V.mRoot (V3.X (List.getD x8 (Int.toNat x11) (V3.mk (0 : Int) (0 : Int) (0 : Int))))) x12)
      else none
    else none
  else none
else k2
noncomputable def _root_.Go.Proofs.Ytdkkbbpmjpcfkaa.M.scripts_l0 {α : Type} (x8 : List V3) (k0 : Option α) (k2 : Option α) : Nat → Bool → Int → Bool → Option α
  | 0, _, _, _ => none
  | n + 1, x10, x11, x12 => Go.Proofs.Ytdkkbbpmjpcfkaa.M.scripts_l0_step x8 (Go.Proofs.Ytdkkbbpmjpcfkaa.M.scripts_l0 x8 k0 k2 n) k0 k2 x10 x11 x12
theorem scripts_l0_step_eq {α : Type} (x7 : Value) (x8 : List V3) (x9 : Bool) (x10 : Bool) (x11 : Int) (x12 : Bool) (Q : Ex → St → Option α) : (loopStep E (exec E look_awake noLps 400) 4 [false, true, false, true, true, true, true] 0 (codeAt E.P 4 [false, true, false, true, true, true, true])) (St.mk
  [some (SV.ros x7 K.v3 x8), none, none, some (SV.bool x9), some (SV.ptr (nat_lit 0) (nat_lit 0)), some (SV.bool x10), some (SV.int IntKind.i64 x11), none, none, none, none, none,
    none, none, none, none, none, none, none, none, none, none, none, none, none, none, none, none, none, none, none, none, none, none, none, none, none, none, none, none, none,
    none, none, none, none, none, none, none, none, none, none, none, none, none, none, none, none, none, none, none, none, none, none, none, none, none, none, none, none, none,
    none, none, none, none, none, none, none, none, none, none, none, none, none, none, none, none, none, none, none, none, none, none, none, none, none, none, none, none, none,
    none, none, none, none, none, none, none, none, none, none, none, none, none]
  [SObj.cells [SV.bool x12] (nat_lit 25)]) Q = Go.Proofs.Ytdkkbbpmjpcfkaa.M.scripts_l0_step x8 (fun (x13 : Bool) (x14 : Int) (x15 : Bool) => Q .normal (St.mk
  [some (SV.ros x7 K.v3 x8), none, none, some (SV.bool x9), some (SV.ptr (nat_lit 0) (nat_lit 0)), some (SV.bool x13), some (SV.int IntKind.i64 x14), none, none, none, none, none,
    none, none, none, none, none, none, none, none, none, none, none, none, none, none, none, none, none, none, none, none, none, none, none, none, none, none, none, none, none,
    none, none, none, none, none, none, none, none, none, none, none, none, none, none, none, none, none, none, none, none, none, none, none, none, none, none, none, none, none,
    none, none, none, none, none, none, none, none, none, none, none, none, none, none, none, none, none, none, none, none, none, none, none, none, none, none, none, none, none,
    none, none, none, none, none, none, none, none, none, none, none, none, none]
  [SObj.cells [SV.bool x15] (nat_lit 25)])) (Q .ret (St.mk
  [none, none, some (SV.bool false), some (SV.bool x9), none, none, none, none, none, none, none, none, none, none, none, none, none, none, none, none, none, none, none, none,
    none, none, none, none, none, none, none, none, none, none, none, none, none, none, none, none, none, none, none, none, none, none, none, none, none, none, none, none, none,
    none, none, none, none, none, none, none, none, none, none, none, none, none, none, none, none, none, none, none, none, none, none, none, none, none, none, none, none, none,
    none, none, none, none, none, none, none, none, none, none, none, none, none, none, none, none, none, none, none, none, none, none, none, none, none, none, none, none, none,
    none]
  [])) (Q (.exit 0) (St.mk
  [none, none, none, some (SV.bool x9), none, none, none, none, none, none, none, none, none, none, none, none, none, none, none, none, none, none, none, none, none, none, none,
    none, none, none, none, none, none, none, none, none, none, none, none, none, none, none, none, none, none, none, none, none, none, none, none, none, none, none, none, none,
    none, none, none, none, none, none, none, none, none, none, none, none, none, none, none, none, none, none, none, none, none, none, none, none, none, none, none, none, none,
    none, none, none, none, none, none, none, none, none, none, none, none, none, none, none, none, none, none, none, none, none, none, none, none, none, none, none]
  [])) x10 x11 x12 := by kernel_rfl
theorem scripts_l0_iter {α : Type} (x7 : Value) (x8 : List V3) (x9 : Bool) (Q : Ex → St → Option α) : ∀ (n : Nat) (x10 : Bool) (x11 : Int) (x12 : Bool), iter (loopStep E (exec E look_awake noLps 400) 4 [false, true, false, true, true, true, true] 0 (codeAt E.P 4 [false, true, false, true, true, true, true])) n (St.mk
  [some (SV.ros x7 K.v3 x8), none, none, some (SV.bool x9), some (SV.ptr (nat_lit 0) (nat_lit 0)), some (SV.bool x10), some (SV.int IntKind.i64 x11), none, none, none, none, none,
    none, none, none, none, none, none, none, none, none, none, none, none, none, none, none, none, none, none, none, none, none, none, none, none, none, none, none, none, none,
    none, none, none, none, none, none, none, none, none, none, none, none, none, none, none, none, none, none, none, none, none, none, none, none, none, none, none, none, none,
    none, none, none, none, none, none, none, none, none, none, none, none, none, none, none, none, none, none, none, none, none, none, none, none, none, none, none, none, none,
    none, none, none, none, none, none, none, none, none, none, none, none, none]
  [SObj.cells [SV.bool x12] (nat_lit 25)]) Q = Go.Proofs.Ytdkkbbpmjpcfkaa.M.scripts_l0 x8 (Q .ret (St.mk
  [none, none, some (SV.bool false), some (SV.bool x9), none, none, none, none, none, none, none, none, none, none, none, none, none, none, none, none, none, none, none, none,
    none, none, none, none, none, none, none, none, none, none, none, none, none, none, none, none, none, none, none, none, none, none, none, none, none, none, none, none, none,
    none, none, none, none, none, none, none, none, none, none, none, none, none, none, none, none, none, none, none, none, none, none, none, none, none, none, none, none, none,
    none, none, none, none, none, none, none, none, none, none, none, none, none, none, none, none, none, none, none, none, none, none, none, none, none, none, none, none, none,
    none]
  [])) (Q (.exit 0) (St.mk
  [none, none, none, some (SV.bool x9), none, none, none, none, none, none, none, none, none, none, none, none, none, none, none, none, none, none, none, none, none, none, none,
    none, none, none, none, none, none, none, none, none, none, none, none, none, none, none, none, none, none, none, none, none, none, none, none, none, none, none, none, none,
    none, none, none, none, none, none, none, none, none, none, none, none, none, none, none, none, none, none, none, none, none, none, none, none, none, none, none, none, none,
    none, none, none, none, none, none, none, none, none, none, none, none, none, none, none, none, none, none, none, none, none, none, none, none, none, none, none]
  [])) n x10 x11 x12
  | 0, _, _, _ => rfl
  | n + 1, x10, x11, x12 => (scripts_l0_step_eq x7 x8 x9 x10 x11 x12 (iterK (loopStep E (exec E look_awake noLps 400) 4 [false, true, false, true, true, true, true] 0 (codeAt E.P 4 [false, true, false, true, true, true, true])) n Q)).trans (congrArg (fun kn => Go.Proofs.Ytdkkbbpmjpcfkaa.M.scripts_l0_step x8 kn (Q .ret (St.mk
  [none, none, some (SV.bool false), some (SV.bool x9), none, none, none, none, none, none, none, none, none, none, none, none, none, none, none, none, none, none, none, none,
    none, none, none, none, none, none, none, none, none, none, none, none, none, none, none, none, none, none, none, none, none, none, none, none, none, none, none, none, none,
    none, none, none, none, none, none, none, none, none, none, none, none, none, none, none, none, none, none, none, none, none, none, none, none, none, none, none, none, none,
    none, none, none, none, none, none, none, none, none, none, none, none, none, none, none, none, none, none, none, none, none, none, none, none, none, none, none, none, none,
    none]
  [])) (Q (.exit 0) (St.mk
  [none, none, none, some (SV.bool x9), none, none, none, none, none, none, none, none, none, none, none, none, none, none, none, none, none, none, none, none, none, none, none,
    none, none, none, none, none, none, none, none, none, none, none, none, none, none, none, none, none, none, none, none, none, none, none, none, none, none, none, none, none,
    none, none, none, none, none, none, none, none, none, none, none, none, none, none, none, none, none, none, none, none, none, none, none, none, none, none, none, none, none,
    none, none, none, none, none, none, none, none, none, none, none, none, none, none, none, none, none, none, none, none, none, none, none, none, none, none, none]
  [])) x10 x11 x12) (funext fun x10 => funext fun x11 => funext fun x12 => scripts_l0_iter x7 x8 x9 Q n x10 x11 x12))
noncomputable def scripts_l0_go {α : Type} (ds : List D) (Q : Ex → St → Option α) : Option α :=
  dV ds fun x7 ds => dL (K.v3) ds fun x8 ds => dB ds fun x9 ds => dB ds fun x10 ds => dI ds fun x11 ds => dB ds fun x12 ds => dE ds (Go.Proofs.Ytdkkbbpmjpcfkaa.M.scripts_l0 x8 (Q .ret (St.mk
  [none, none, some (SV.bool false), some (SV.bool x9), none, none, none, none, none, none, none, none, none, none, none, none, none, none, none, none, none, none, none, none,
    none, none, none, none, none, none, none, none, none, none, none, none, none, none, none, none, none, none, none, none, none, none, none, none, none, none, none, none, none,
    none, none, none, none, none, none, none, none, none, none, none, none, none, none, none, none, none, none, none, none, none, none, none, none, none, none, none, none, none,
    none, none, none, none, none, none, none, none, none, none, none, none, none, none, none, none, none, none, none, none, none, none, none, none, none, none, none, none, none,
    none]
  [])) (Q (.exit 0) (St.mk
  [none, none, none, some (SV.bool x9), none, none, none, none, none, none, none, none, none, none, none, none, none, none, none, none, none, none, none, none, none, none, none,
    none, none, none, none, none, none, none, none, none, none, none, none, none, none, none, none, none, none, none, none, none, none, none, none, none, none, none, none, none,
    none, none, none, none, none, none, none, none, none, none, none, none, none, none, none, none, none, none, none, none, none, none, none, none, none, none, none, none, none,
    none, none, none, none, none, none, none, none, none, none, none, none, none, none, none, none, none, none, none, none, none, none, none, none, none, none, none]
  [])) (100 + x8.length) x10 x11 x12)
theorem scripts_l0_ok {α : Type} : LoopOk E.P 4 [false, true, false, true, true, true, true] 0 (lEnt (α := α) (St.mk
  [some (SV.ros undef K.v3 []), none, none, some (SV.bool false), some (SV.ptr (nat_lit 0) (nat_lit 0)), some (SV.bool false), some (SV.int IntKind.i64 (0 : Int)), none, none,
    none, none, none, none, none, none, none, none, none, none, none, none, none, none, none, none, none, none, none, none, none, none, none, none, none, none, none, none, none,
    none, none, none, none, none, none, none, none, none, none, none, none, none, none, none, none, none, none, none, none, none, none, none, none, none, none, none, none, none,
    none, none, none, none, none, none, none, none, none, none, none, none, none, none, none, none, none, none, none, none, none, none, none, none, none, none, none, none, none,
    none, none, none, none, none, none, none, none, none, none, none, none, none, none, none, none]
  [SObj.cells [SV.bool false] (nat_lit 25)]) scripts_l0_go) :=
  lEnt_ok E (exec_sound E E_ok (look_awake_ok) (noLps_ok _) 400) fun ds Q r h S hS => by
    unfold scripts_l0_go at h
    obtain ⟨x7, ds, rfl, h1⟩ := dV_inv h
    obtain ⟨x8, ds, rfl, h2⟩ := dL_inv h1
    obtain ⟨x9, ds, rfl, h3⟩ := dB_inv h2
    obtain ⟨x10, ds, rfl, h4⟩ := dB_inv h3
    obtain ⟨x11, ds, rfl, h5⟩ := dI_inv h4
    obtain ⟨x12, ds, rfl, h6⟩ := dB_inv h5
    obtain ⟨rfl, hE⟩ := dE_inv h6
    have e : fillS (St.mk
  [some (SV.ros undef K.v3 []), none, none, some (SV.bool false), some (SV.ptr (nat_lit 0) (nat_lit 0)), some (SV.bool false), some (SV.int IntKind.i64 (0 : Int)), none, none,
    none, none, none, none, none, none, none, none, none, none, none, none, none, none, none, none, none, none, none, none, none, none, none, none, none, none, none, none, none,
    none, none, none, none, none, none, none, none, none, none, none, none, none, none, none, none, none, none, none, none, none, none, none, none, none, none, none, none, none,
    none, none, none, none, none, none, none, none, none, none, none, none, none, none, none, none, none, none, none, none, none, none, none, none, none, none, none, none, none,
    none, none, none, none, none, none, none, none, none, none, none, none, none, none, none, none]
  [SObj.cells [SV.bool false] (nat_lit 25)]) [.v x7, .l (K.v3) x8, .b x9, .b x10, .i x11, .b x12] = some (St.mk
  [some (SV.ros x7 K.v3 x8), none, none, some (SV.bool x9), some (SV.ptr (nat_lit 0) (nat_lit 0)), some (SV.bool x10), some (SV.int IntKind.i64 x11), none, none, none, none, none,
    none, none, none, none, none, none, none, none, none, none, none, none, none, none, none, none, none, none, none, none, none, none, none, none, none, none, none, none, none,
    none, none, none, none, none, none, none, none, none, none, none, none, none, none, none, none, none, none, none, none, none, none, none, none, none, none, none, none, none,
    none, none, none, none, none, none, none, none, none, none, none, none, none, none, none, none, none, none, none, none, none, none, none, none, none, none, none, none, none,
    none, none, none, none, none, none, none, none, none, none, none, none, none]
  [SObj.cells [SV.bool x12] (nat_lit 25)]) := by kernel_rfl
    rw [e] at hS
    cases hS
    exact ⟨_, (scripts_l0_iter x7 x8 x9 Q _ x10 x11 x12).trans hE⟩
noncomputable def scripts_l0_lps {α : Type} : LookL α := addLp 4 [false, true, false, true, true, true, true] 0 (lEnt (St.mk
  [some (SV.ros undef K.v3 []), none, none, some (SV.bool false), some (SV.ptr (nat_lit 0) (nat_lit 0)), some (SV.bool false), some (SV.int IntKind.i64 (0 : Int)), none, none,
    none, none, none, none, none, none, none, none, none, none, none, none, none, none, none, none, none, none, none, none, none, none, none, none, none, none, none, none, none,
    none, none, none, none, none, none, none, none, none, none, none, none, none, none, none, none, none, none, none, none, none, none, none, none, none, none, none, none, none,
    none, none, none, none, none, none, none, none, none, none, none, none, none, none, none, none, none, none, none, none, none, none, none, none, none, none, none, none, none,
    none, none, none, none, none, none, none, none, none, none, none, none, none, none, none, none]
  [SObj.cells [SV.bool false] (nat_lit 25)]) scripts_l0_go) noLps
theorem scripts_l0_lps_ok {α : Type} : LoopsOk E.P (scripts_l0_lps (α := α)) := addLp_ok scripts_l0_ok (noLps_ok _)

noncomputable def _root_.Go.Proofs.Ytdkkbbpmjpcfkaa.M.scripts {α : Type} (l : List V3) (k0 : Bool → Option α) : Option α :=
  M.scripts_l0 l (k0 false) (k0 true) ((100 : Nat) + List.length l) false (0 : Int) false
theorem scripts_eq {α : Type} (l : List V3) (v16 : Value) (Q : SV → Hp → Option α) : callI E look_awake (exec E look_awake scripts_l0_lps 400) 4 ([SV.ros v16 K.v3 l]) ([]) Q = Go.Proofs.Ytdkkbbpmjpcfkaa.M.scripts l (fun (x17 : Bool) => Q (SV.bool x17) ([])) := by kernel_rfl
def scripts_sp : List AS := [.ro (.v3)]
theorem scr {α : Type} {o : Option Int} {s : Bool} {kn : Bool → Int → Bool → Option α} {k0 : Option α} {i : Int} :
    (if s = true then (if (!cEq (V.gv o) (V.gv o)) = true then k0 else if (!(V.gn o s == true)) = true then k0 else kn true i (V.gn o s))
      else (if (!cEq (V.gv o) (V.gv o)) = true then k0 else if (!(V.gn o s == V.gn o false)) = true then k0 else kn (V.gn o false) i (V.gn o s))) = kn (V.gn o s) i (V.gn o s) := by
  cases s <;> simp [cEq_eq, V.gn]
theorem scripts_l0_val {α : Type} (l : List V3) (hl : l.length < 9223372036854775808) (k0 k2 : Option α) : ∀ (fuel i : Nat) (s : Bool), i ≤ l.length → l.length - i < fuel → M.scripts_l0 l k0 k2 fuel s (i : Int) s = k2
  | 0, i, s, h1, h2 => by omega
  | n + 1, i, s, h1, h2 => by
    unfold M.scripts_l0 M.scripts_l0_step
    by_cases hi : i < l.length
    · have ih : ∀ s, M.scripts_l0 l k0 k2 n s ((i : Int) + 1) s = k2 := fun s => by
        have := scripts_l0_val l hl k0 k2 n (i + 1) s (by omega) (by omega)
        push_cast at this
        exact this
      rw [IntWalk.i64_in _ (by omega : -9223372036854775808 ≤ (i : Int) + 1 ∧ (i : Int) + 1 ≤ 9223372036854775807)]
      have hlt : (i : Int) < (l.length : Int) := by omega
      simp only [scr, ih, cLt_eq, hlt, decide_true, if_true, Int.natCast_nonneg, and_self, ite_self]
    · have : i = l.length := by omega
      subst this
      simp [cLt_eq]
theorem scripts_v {α : Type} (l : List V3) (hl : l.length < 9223372036854775808) (k0 : Bool → Option α) : M.scripts l k0 = k0 true := by
  unfold M.scripts
  have := scripts_l0_val l hl (k0 false) (k0 true) (100 + l.length) 0 false (by omega) (by omega)
  rw [Int.natCast_zero] at this
  exact this
noncomputable def scripts_h {α : Type} (ds : List D) (Q : SV → Hp → Option α) : Option α :=
  dL (K.v3) ds fun l ds => dE ds (if l.length < 9223372036854775808 then Q (.bool true) ([]) else none)
theorem scripts_h_ok {α : Type} : FnOk E.P 4 (fEnt (α := α) scripts_sp scripts_h) :=
  fEntR_ok E (look_awake_ok) (exec_sound E E_ok (look_awake_ok) (scripts_l0_lps_ok) 400) fun ds Q r h => by
    unfold scripts_h at h
    obtain ⟨l, ds, rfl, h1⟩ := dL_inv h
    obtain ⟨rfl, hE⟩ := dE_inv h1
    split at hE
    · rename_i hg
      exact ⟨_, _, hE, fun vs => ⟨_, _, by kernel_rfl, (scripts_eq l (vs.headD undef) _).trans (scripts_v l hg _)⟩⟩
    · cases hE
end Go.Proofs.Ytdkkbbpmjpcfkaa.Sx
