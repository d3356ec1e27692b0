/- fx: ratios, sums of products, norms. -/
import Derived.Test.YtkjellhkamfciaaFxE
namespace Go.Proofs.Ytkjellhkamfciaa.Sx
open Go
set_option maxRecDepth 20000
set_option linter.unusedVariables false
set_option linter.unusedSimpArgs false
noncomputable def _root_.Go.Proofs.Ytkjellhkamfciaa.M.ratio {α : Type} (bad : Bool) (a : Int) (b : Int) (c : Int) (k0 : Int → Bool → Option α) : Option α :=
  if cEq c (0 : Int) = true then k0 (0 : Int) true
else
  if V.anyG [a, b, c] = true then k0 (0 : Int) true
  else
    if cLt c (0 : Int) = true then
      if V.minus_g (V.times_r0 a b) (V.times_r1 a b) = true then
        if V.neg_r0 (V.minus_r0 (V.times_r0 a b) (V.times_r1 a b)) (V.minus_r1 (V.times_r0 a b) (V.times_r1 a b)) = true then
          if V.minus_g (V.minus_r0 (V.times_r0 a b) (V.times_r1 a b)) (V.minus_r1 (V.times_r0 a b) (V.times_r1 a b)) = true then
            if cLe (IntKind.wrap IntKind.u64 (IntKind.wrap .i64 ((0 : Int) - c))) (V.minus_r0 (V.minus_r0 (V.times_r0 a b) (V.times_r1 a b)) (V.minus_r1 (V.times_r0 a b) (V.times_r1 a b))) = true then k0 (0 : Int) true
            else
              if
                  ((0 : Int) ≤ V.minus_r0 (V.minus_r0 (V.times_r0 a b) (V.times_r1 a b)) (V.minus_r1 (V.times_r0 a b) (V.times_r1 a b)) ∧ V.minus_r0 (V.minus_r0 (V.times_r0 a b) (V.times_r1 a b)) (V.minus_r1 (V.times_r0 a b) (V.times_r1 a b)) < IntKind.wrap IntKind.u64 (IntKind.wrap .i64 ((0 : Int) - c)) ∧ IntKind.wrap IntKind.u64 (IntKind.wrap .i64 ((0 : Int) - c)) < (18446744073709551616 : Int)) ∧
                    (0 : Int) ≤ V.minus_r1 (V.minus_r0 (V.times_r0 a b) (V.times_r1 a b)) (V.minus_r1 (V.times_r0 a b) (V.times_r1 a b)) ∧ V.minus_r1 (V.minus_r0 (V.times_r0 a b) (V.times_r1 a b)) (V.minus_r1 (V.times_r0 a b) (V.times_r1 a b)) < (18446744073709551616 : Int) then
                if V.neg_r0 (V.minus_r0 (V.times_r0 a b) (V.times_r1 a b)) (V.minus_r1 (V.times_r0 a b) (V.times_r1 a b)) = true then
                  if cLt (0 : Int) ((V.minus_r0 (V.minus_r0 (V.times_r0 a b) (V.times_r1 a b)) (V.minus_r1 (V.times_r0 a b) (V.times_r1 a b)) * (18446744073709551616 : Int) + V.minus_r1 (V.minus_r0 (V.times_r0 a b) (V.times_r1 a b)) (V.minus_r1 (V.times_r0 a b) (V.times_r1 a b))) % IntKind.wrap IntKind.u64 (IntKind.wrap .i64 ((0 : Int) - c))) = true then
                    if cLt (4611686018427387903 : Int) (IntKind.wrap IntKind.u64 ((V.minus_r0 (V.minus_r0 (V.times_r0 a b) (V.times_r1 a b)) (V.minus_r1 (V.times_r0 a b) (V.times_r1 a b)) * (18446744073709551616 : Int) + V.minus_r1 (V.minus_r0 (V.times_r0 a b) (V.times_r1 a b)) (V.minus_r1 (V.times_r0 a b) (V.times_r1 a b))) / IntKind.wrap IntKind.u64 (IntKind.wrap .i64 ((0 : Int) - c)) + (1 : Int))) = true then k0 (0 : Int) true
                    else
                      if V.neg_r0 (V.minus_r0 (V.times_r0 a b) (V.times_r1 a b)) (V.minus_r1 (V.times_r0 a b) (V.times_r1 a b)) = true then
                        k0 (IntKind.wrap .i64 ((0 : Int) - IntKind.wrap .i64 (IntKind.wrap IntKind.u64 ((V.minus_r0 (V.minus_r0 (V.times_r0 a b) (V.times_r1 a b)) (V.minus_r1 (V.times_r0 a b) (V.times_r1 a b)) * (18446744073709551616 : Int) + V.minus_r1 (V.minus_r0 (V.times_r0 a b) (V.times_r1 a b)) (V.minus_r1 (V.times_r0 a b) (V.times_r1 a b))) / IntKind.wrap IntKind.u64 (IntKind.wrap .i64 ((0 : Int) - c)) + (1 : Int))))) bad
                      else k0 (IntKind.wrap .i64 (IntKind.wrap IntKind.u64 ((V.minus_r0 (V.minus_r0 (V.times_r0 a b) (V.times_r1 a b)) (V.minus_r1 (V.times_r0 a b) (V.times_r1 a b)) * (18446744073709551616 : Int) + V.minus_r1 (V.minus_r0 (V.times_r0 a b) (V.times_r1 a b)) (V.minus_r1 (V.times_r0 a b) (V.times_r1 a b))) / IntKind.wrap IntKind.u64 (IntKind.wrap .i64 ((0 : Int) - c)) + (1 : Int)))) bad
                  else
                    if cLt (4611686018427387903 : Int) ((V.minus_r0 (V.minus_r0 (V.times_r0 a b) (V.times_r1 a b)) (V.minus_r1 (V.times_r0 a b) (V.times_r1 a b)) * (18446744073709551616 : Int) + V.minus_r1 (V.minus_r0 (V.times_r0 a b) (V.times_r1 a b)) (V.minus_r1 (V.times_r0 a b) (V.times_r1 a b))) / IntKind.wrap IntKind.u64 (IntKind.wrap .i64 ((0 : Int) - c))) = true then k0 (0 : Int) true
                    else
                      if V.neg_r0 (V.minus_r0 (V.times_r0 a b) (V.times_r1 a b)) (V.minus_r1 (V.times_r0 a b) (V.times_r1 a b)) = true then
                        k0 (IntKind.wrap .i64 ((0 : Int) - IntKind.wrap .i64 ((V.minus_r0 (V.minus_r0 (V.times_r0 a b) (V.times_r1 a b)) (V.minus_r1 (V.times_r0 a b) (V.times_r1 a b)) * (18446744073709551616 : Int) + V.minus_r1 (V.minus_r0 (V.times_r0 a b) (V.times_r1 a b)) (V.minus_r1 (V.times_r0 a b) (V.times_r1 a b))) / IntKind.wrap IntKind.u64 (IntKind.wrap .i64 ((0 : Int) - c))))) bad
                      else k0 (IntKind.wrap .i64 ((V.minus_r0 (V.minus_r0 (V.times_r0 a b) (V.times_r1 a b)) (V.minus_r1 (V.times_r0 a b) (V.times_r1 a b)) * (18446744073709551616 : Int) + V.minus_r1 (V.minus_r0 (V.times_r0 a b) (V.times_r1 a b)) (V.minus_r1 (V.times_r0 a b) (V.times_r1 a b))) / IntKind.wrap IntKind.u64 (IntKind.wrap .i64 ((0 : Int) - c)))) bad
                else
                  if cLt (4611686018427387903 : Int) ((V.minus_r0 (V.minus_r0 (V.times_r0 a b) (V.times_r1 a b)) (V.minus_r1 (V.times_r0 a b) (V.times_r1 a b)) * (18446744073709551616 : Int) + V.minus_r1 (V.minus_r0 (V.times_r0 a b) (V.times_r1 a b)) (V.minus_r1 (V.times_r0 a b) (V.times_r1 a b))) / IntKind.wrap IntKind.u64 (IntKind.wrap .i64 ((0 : Int) - c))) = true then k0 (0 : Int) true
                  else
                    if V.neg_r0 (V.minus_r0 (V.times_r0 a b) (V.times_r1 a b)) (V.minus_r1 (V.times_r0 a b) (V.times_r1 a b)) = true then
                      k0 (IntKind.wrap .i64 ((0 : Int) - IntKind.wrap .i64 ((V.minus_r0 (V.minus_r0 (V.times_r0 a b) (V.times_r1 a b)) (V.minus_r1 (V.times_r0 a b) (V.times_r1 a b)) * (18446744073709551616 : Int) + V.minus_r1 (V.minus_r0 (V.times_r0 a b) (V.times_r1 a b)) (V.minus_r1 (V.times_r0 a b) (V.times_r1 a b))) / IntKind.wrap IntKind.u64 (IntKind.wrap .i64 ((0 : Int) - c))))) bad
                    else k0 (IntKind.wrap .i64 ((V.minus_r0 (V.minus_r0 (V.times_r0 a b) (V.times_r1 a b)) (V.minus_r1 (V.times_r0 a b) (V.times_r1 a b)) * (18446744073709551616 : Int) + V.minus_r1 (V.minus_r0 (V.times_r0 a b) (V.times_r1 a b)) (V.minus_r1 (V.times_r0 a b) (V.times_r1 a b))) / IntKind.wrap IntKind.u64 (IntKind.wrap .i64 ((0 : Int) - c)))) bad
              else none
          else none
        else
          if cLe (IntKind.wrap IntKind.u64 (IntKind.wrap .i64 ((0 : Int) - c))) (V.minus_r0 (V.times_r0 a b) (V.times_r1 a b)) = true then k0 (0 : Int) true
          else
            if ((0 : Int) ≤ V.minus_r0 (V.times_r0 a b) (V.times_r1 a b) ∧ V.minus_r0 (V.times_r0 a b) (V.times_r1 a b) < IntKind.wrap IntKind.u64 (IntKind.wrap .i64 ((0 : Int) - c)) ∧ IntKind.wrap IntKind.u64 (IntKind.wrap .i64 ((0 : Int) - c)) < (18446744073709551616 : Int)) ∧ (0 : Int) ≤ V.minus_r1 (V.times_r0 a b) (V.times_r1 a b) ∧ V.minus_r1 (V.times_r0 a b) (V.times_r1 a b) < (18446744073709551616 : Int) then
              if V.neg_r0 (V.minus_r0 (V.times_r0 a b) (V.times_r1 a b)) (V.minus_r1 (V.times_r0 a b) (V.times_r1 a b)) = true then
                if cLt (0 : Int) ((V.minus_r0 (V.times_r0 a b) (V.times_r1 a b) * (18446744073709551616 : Int) + V.minus_r1 (V.times_r0 a b) (V.times_r1 a b)) % IntKind.wrap IntKind.u64 (IntKind.wrap .i64 ((0 : Int) - c))) = true then
                  if cLt (4611686018427387903 : Int) (IntKind.wrap IntKind.u64 ((V.minus_r0 (V.times_r0 a b) (V.times_r1 a b) * (18446744073709551616 : Int) + V.minus_r1 (V.times_r0 a b) (V.times_r1 a b)) / IntKind.wrap IntKind.u64 (IntKind.wrap .i64 ((0 : Int) - c)) + (1 : Int))) = true then k0 (0 : Int) true
                  else
                    if V.neg_r0 (V.minus_r0 (V.times_r0 a b) (V.times_r1 a b)) (V.minus_r1 (V.times_r0 a b) (V.times_r1 a b)) = true then k0 (IntKind.wrap .i64 ((0 : Int) - IntKind.wrap .i64 (IntKind.wrap IntKind.u64 ((V.minus_r0 (V.times_r0 a b) (V.times_r1 a b) * (18446744073709551616 : Int) + V.minus_r1 (V.times_r0 a b) (V.times_r1 a b)) / IntKind.wrap IntKind.u64 (IntKind.wrap .i64 ((0 : Int) - c)) + (1 : Int))))) bad
                    else k0 (IntKind.wrap .i64 (IntKind.wrap IntKind.u64 ((V.minus_r0 (V.times_r0 a b) (V.times_r1 a b) * (18446744073709551616 : Int) + V.minus_r1 (V.times_r0 a b) (V.times_r1 a b)) / IntKind.wrap IntKind.u64 (IntKind.wrap .i64 ((0 : Int) - c)) + (1 : Int)))) bad
                else
                  if cLt (4611686018427387903 : Int) ((V.minus_r0 (V.times_r0 a b) (V.times_r1 a b) * (18446744073709551616 : Int) + V.minus_r1 (V.times_r0 a b) (V.times_r1 a b)) / IntKind.wrap IntKind.u64 (IntKind.wrap .i64 ((0 : Int) - c))) = true then k0 (0 : Int) true
                  else
                    if V.neg_r0 (V.minus_r0 (V.times_r0 a b) (V.times_r1 a b)) (V.minus_r1 (V.times_r0 a b) (V.times_r1 a b)) = true then k0 (IntKind.wrap .i64 ((0 : Int) - IntKind.wrap .i64 ((V.minus_r0 (V.times_r0 a b) (V.times_r1 a b) * (18446744073709551616 : Int) + V.minus_r1 (V.times_r0 a b) (V.times_r1 a b)) / IntKind.wrap IntKind.u64 (IntKind.wrap .i64 ((0 : Int) - c))))) bad
                    else k0 (IntKind.wrap .i64 ((V.minus_r0 (V.times_r0 a b) (V.times_r1 a b) * (18446744073709551616 : Int) + V.minus_r1 (V.times_r0 a b) (V.times_r1 a b)) / IntKind.wrap IntKind.u64 (IntKind.wrap .i64 ((0 : Int) - c)))) bad
              else
                if cLt (4611686018427387903 : Int) ((V.minus_r0 (V.times_r0 a b) (V.times_r1 a b) * (18446744073709551616 : Int) + V.minus_r1 (V.times_r0 a b) (V.times_r1 a b)) / IntKind.wrap IntKind.u64 (IntKind.wrap .i64 ((0 : Int) - c))) = true then k0 (0 : Int) true
                else
                  if V.neg_r0 (V.minus_r0 (V.times_r0 a b) (V.times_r1 a b)) (V.minus_r1 (V.times_r0 a b) (V.times_r1 a b)) = true then k0 (IntKind.wrap .i64 ((0 : Int) - IntKind.wrap .i64 ((V.minus_r0 (V.times_r0 a b) (V.times_r1 a b) * (18446744073709551616 : Int) + V.minus_r1 (V.times_r0 a b) (V.times_r1 a b)) / IntKind.wrap IntKind.u64 (IntKind.wrap .i64 ((0 : Int) - c))))) bad
                  else k0 (IntKind.wrap .i64 ((V.minus_r0 (V.times_r0 a b) (V.times_r1 a b) * (18446744073709551616 : Int) + V.minus_r1 (V.times_r0 a b) (V.times_r1 a b)) / IntKind.wrap IntKind.u64 (IntKind.wrap .i64 ((0 : Int) - c)))) bad
            else none
      else none
    else
      if V.neg_r0 (V.times_r0 a b) (V.times_r1 a b) = true then
        if V.minus_g (V.times_r0 a b) (V.times_r1 a b) = true then
          if cLe (IntKind.wrap IntKind.u64 c) (V.minus_r0 (V.times_r0 a b) (V.times_r1 a b)) = true then k0 (0 : Int) true
          else
            if ((0 : Int) ≤ V.minus_r0 (V.times_r0 a b) (V.times_r1 a b) ∧ V.minus_r0 (V.times_r0 a b) (V.times_r1 a b) < IntKind.wrap IntKind.u64 c ∧ IntKind.wrap IntKind.u64 c < (18446744073709551616 : Int)) ∧ (0 : Int) ≤ V.minus_r1 (V.times_r0 a b) (V.times_r1 a b) ∧ V.minus_r1 (V.times_r0 a b) (V.times_r1 a b) < (18446744073709551616 : Int) then
              if V.neg_r0 (V.times_r0 a b) (V.times_r1 a b) = true then
                if cLt (0 : Int) ((V.minus_r0 (V.times_r0 a b) (V.times_r1 a b) * (18446744073709551616 : Int) + V.minus_r1 (V.times_r0 a b) (V.times_r1 a b)) % IntKind.wrap IntKind.u64 c) = true then
                  if cLt (4611686018427387903 : Int) (IntKind.wrap IntKind.u64 ((V.minus_r0 (V.times_r0 a b) (V.times_r1 a b) * (18446744073709551616 : Int) + V.minus_r1 (V.times_r0 a b) (V.times_r1 a b)) / IntKind.wrap IntKind.u64 c + (1 : Int))) = true then k0 (0 : Int) true
                  else
                    if V.neg_r0 (V.times_r0 a b) (V.times_r1 a b) = true then k0 (IntKind.wrap .i64 ((0 : Int) - IntKind.wrap .i64 (IntKind.wrap IntKind.u64 ((V.minus_r0 (V.times_r0 a b) (V.times_r1 a b) * (18446744073709551616 : Int) + V.minus_r1 (V.times_r0 a b) (V.times_r1 a b)) / IntKind.wrap IntKind.u64 c + (1 : Int))))) bad
                    else k0 (IntKind.wrap .i64 (IntKind.wrap IntKind.u64 ((V.minus_r0 (V.times_r0 a b) (V.times_r1 a b) * (18446744073709551616 : Int) + V.minus_r1 (V.times_r0 a b) (V.times_r1 a b)) / IntKind.wrap IntKind.u64 c + (1 : Int)))) bad
                else
                  if cLt (4611686018427387903 : Int) ((V.minus_r0 (V.times_r0 a b) (V.times_r1 a b) * (18446744073709551616 : Int) + V.minus_r1 (V.times_r0 a b) (V.times_r1 a b)) / IntKind.wrap IntKind.u64 c) = true then k0 (0 : Int) true
                  else
                    if V.neg_r0 (V.times_r0 a b) (V.times_r1 a b) = true then k0 (IntKind.wrap .i64 ((0 : Int) - IntKind.wrap .i64 ((V.minus_r0 (V.times_r0 a b) (V.times_r1 a b) * (18446744073709551616 : Int) + V.minus_r1 (V.times_r0 a b) (V.times_r1 a b)) / IntKind.wrap IntKind.u64 c))) bad
                    else k0 (IntKind.wrap .i64 ((V.minus_r0 (V.times_r0 a b) (V.times_r1 a b) * (18446744073709551616 : Int) + V.minus_r1 (V.times_r0 a b) (V.times_r1 a b)) / IntKind.wrap IntKind.u64 c)) bad
              else
                if cLt (4611686018427387903 : Int) ((V.minus_r0 (V.times_r0 a b) (V.times_r1 a b) * (18446744073709551616 : Int) + V.minus_r1 (V.times_r0 a b) (V.times_r1 a b)) / IntKind.wrap IntKind.u64 c) = true then k0 (0 : Int) true
                else
                  if V.neg_r0 (V.times_r0 a b) (V.times_r1 a b) = true then k0 (IntKind.wrap .i64 ((0 : Int) - IntKind.wrap .i64 ((V.minus_r0 (V.times_r0 a b) (V.times_r1 a b) * (18446744073709551616 : Int) + V.minus_r1 (V.times_r0 a b) (V.times_r1 a b)) / IntKind.wrap IntKind.u64 c))) bad else k0 (IntKind.wrap .i64 ((V.minus_r0 (V.times_r0 a b) (V.times_r1 a b) * (18446744073709551616 : Int) + V.minus_r1 (V.times_r0 a b) (V.times_r1 a b)) / IntKind.wrap IntKind.u64 c)) bad
            else none
        else none
      else
        if cLe (IntKind.wrap IntKind.u64 c) (V.times_r0 a b) = true then k0 (0 : Int) true
        else
          if ((0 : Int) ≤ V.times_r0 a b ∧ V.times_r0 a b < IntKind.wrap IntKind.u64 c ∧ IntKind.wrap IntKind.u64 c < (18446744073709551616 : Int)) ∧ (0 : Int) ≤ V.times_r1 a b ∧ V.times_r1 a b < (18446744073709551616 : Int) then
            if V.neg_r0 (V.times_r0 a b) (V.times_r1 a b) = true then
              if cLt (0 : Int) ((V.times_r0 a b * (18446744073709551616 : Int) + V.times_r1 a b) % IntKind.wrap IntKind.u64 c) = true then
                if cLt (4611686018427387903 : Int) (IntKind.wrap IntKind.u64 ((V.times_r0 a b * (18446744073709551616 : Int) + V.times_r1 a b) / IntKind.wrap IntKind.u64 c + (1 : Int))) = true then k0 (0 : Int) true
                else if V.neg_r0 (V.times_r0 a b) (V.times_r1 a b) = true then k0 (IntKind.wrap .i64 ((0 : Int) - IntKind.wrap .i64 (IntKind.wrap IntKind.u64 ((V.times_r0 a b * (18446744073709551616 : Int) + V.times_r1 a b) / IntKind.wrap IntKind.u64 c + (1 : Int))))) bad else k0 (IntKind.wrap .i64 (IntKind.wrap IntKind.u64 ((V.times_r0 a b * (18446744073709551616 : Int) + V.times_r1 a b) / IntKind.wrap IntKind.u64 c + (1 : Int)))) bad
              else
                if cLt (4611686018427387903 : Int) ((V.times_r0 a b * (18446744073709551616 : Int) + V.times_r1 a b) / IntKind.wrap IntKind.u64 c) = true then k0 (0 : Int) true
                else if V.neg_r0 (V.times_r0 a b) (V.times_r1 a b) = true then k0 (IntKind.wrap .i64 ((0 : Int) - IntKind.wrap .i64 ((V.times_r0 a b * (18446744073709551616 : Int) + V.times_r1 a b) / IntKind.wrap IntKind.u64 c))) bad else k0 (IntKind.wrap .i64 ((V.times_r0 a b * (18446744073709551616 : Int) + V.times_r1 a b) / IntKind.wrap IntKind.u64 c)) bad
            else
              if cLt (4611686018427387903 : Int) ((V.times_r0 a b * (18446744073709551616 : Int) + V.times_r1 a b) / IntKind.wrap IntKind.u64 c) = true then k0 (0 : Int) true
              else if V.neg_r0 (V.times_r0 a b) (V.times_r1 a b) = true then k0 (IntKind.wrap .i64 ((0 : Int) - IntKind.wrap .i64 ((V.times_r0 a b * (18446744073709551616 : Int) + V.times_r1 a b) / IntKind.wrap IntKind.u64 c))) bad else k0 (IntKind.wrap .i64 ((V.times_r0 a b * (18446744073709551616 : Int) + V.times_r1 a b) / IntKind.wrap IntKind.u64 c)) bad
          else none
theorem ratio_eq {α : Type} (bad : Bool) (a : Int) (b : Int) (c : Int) (Q : SV → Hp → Option α) : callI E look_mul (exec E look_mul noLps 400) 34 ([SV.ptr (nat_lit 0) (nat_lit 0), SV.int .i64 a, SV.int .i64 b, SV.int .i64 c]) ([.cells [SV.bool bad] (nat_lit 62)]) Q = M.ratio bad a b c (fun (x0 : Int) (x1 : Bool) => Q (SV.int .i64 x0) ([.cells [SV.bool x1] (nat_lit 62)])) := by kernel_rfl
def ratio_sp : List AS := [.ptr 62 [.bool false], .val (.int .i64 0), .val (.int .i64 0), .val (.int .i64 0)]
noncomputable def ratio_go {α : Type} (ds : List D) (Q : SV → Hp → Option α) : Option α :=
  dB ds fun bad ds => dI ds fun a ds => dI ds fun b ds => dI ds fun c ds => dE ds (M.ratio bad a b c (fun (x0 : Int) (x1 : Bool) => Q (SV.int .i64 x0) ([.cells [SV.bool x1] (nat_lit 62)])))
theorem ratio_ok {α : Type} : FnOk E.P 34 (fEnt (α := α) ratio_sp ratio_go) :=
  fEnt_ok E (look_mul_ok) (exec_sound E E_ok (look_mul_ok) (noLps_ok _) 400) fun ds Q r h => by
    unfold ratio_go at h
    obtain ⟨bad, ds, rfl, h1⟩ := dB_inv h
    obtain ⟨a, ds, rfl, h2⟩ := dI_inv h1
    obtain ⟨b, ds, rfl, h3⟩ := dI_inv h2
    obtain ⟨c, ds, rfl, h4⟩ := dI_inv h3
    obtain ⟨rfl, hE⟩ := dE_inv h4
    exact ⟨[SV.ptr (nat_lit 0) (nat_lit 0), SV.int .i64 a, SV.int .i64 b, SV.int .i64 c], [.cells [SV.bool bad] (nat_lit 62)], fun vs => by kernel_rfl, (ratio_eq bad a b c Q).trans hE⟩
/-- What Ratio does once the signs are taken away. -/
noncomputable def tailF {α : Type} (neg : Bool) (hi lo cc : Int) (bad : Bool) (k0 : Int → Bool → Option α) : Option α :=
  if cLe cc hi = true then k0 (0 : Int) true
  else
    if (0 ≤ hi ∧ hi < cc ∧ cc < 18446744073709551616) ∧ 0 ≤ lo ∧ lo < 18446744073709551616 then
      if neg = true then
        if cLt (0 : Int) ((hi * 18446744073709551616 + lo) % cc) = true then
          if cLt (4611686018427387903 : Int) (IntKind.wrap IntKind.u64 ((hi * 18446744073709551616 + lo) / cc + 1)) = true then k0 (0 : Int) true
          else
            if neg = true then k0 (IntKind.wrap IntKind.i64 ((0 : Int) - IntKind.wrap IntKind.i64 (IntKind.wrap IntKind.u64 ((hi * 18446744073709551616 + lo) / cc + 1)))) bad
            else k0 (IntKind.wrap IntKind.i64 (IntKind.wrap IntKind.u64 ((hi * 18446744073709551616 + lo) / cc + 1))) bad
        else
          if cLt (4611686018427387903 : Int) ((hi * 18446744073709551616 + lo) / cc) = true then k0 (0 : Int) true
          else
            if neg = true then k0 (IntKind.wrap IntKind.i64 ((0 : Int) - IntKind.wrap IntKind.i64 ((hi * 18446744073709551616 + lo) / cc))) bad
            else k0 (IntKind.wrap IntKind.i64 ((hi * 18446744073709551616 + lo) / cc)) bad
      else
        if cLt (4611686018427387903 : Int) ((hi * 18446744073709551616 + lo) / cc) = true then k0 (0 : Int) true
        else
          if neg = true then k0 (IntKind.wrap IntKind.i64 ((0 : Int) - IntKind.wrap IntKind.i64 ((hi * 18446744073709551616 + lo) / cc))) bad
          else k0 (IntKind.wrap IntKind.i64 ((hi * 18446744073709551616 + lo) / cc)) bad
    else none
theorem tailF_v {α : Type} (neg : Bool) (x cc : Int) (bad : Bool) (k0 : Int → Bool → Option α) (hc0 : 0 < cc) (hc1 : cc ≤ 4611686018427387903) (hx0 : 0 ≤ x) (hx1 : x < 170141183460469231731687303715884105728) :
    tailF neg (hiW x) (loW x) cc bad k0 = k0 (V.gv (V.qF (if neg then -x else x) cc)) (V.gn (V.qF (if neg then -x else x) cc) bad) := by
  unfold tailF
  have a1 := hiW_lo x
  have a2 := loW_lo x
  rw [hilo hx0 (by omega)]
  have hd : x / cc * cc + x % cc = x := Int.ediv_mul_add_emod x cc
  have hm0 : 0 ≤ x % cc := Int.emod_nonneg x (by omega)
  have hm1 : x % cc < cc := Int.emod_lt_of_pos x hc0
  have hq0 : 0 ≤ x / cc := Int.ediv_nonneg hx0 (by omega)
  have hd2 : (-x) / cc * cc + (-x) % cc = -x := Int.ediv_mul_add_emod (-x) cc
  have hn0 : 0 ≤ (-x) % cc := Int.emod_nonneg (-x) (by omega)
  have hn1 : (-x) % cc < cc := Int.emod_lt_of_pos (-x) hc0
  have hneg : (-x) / cc = if 0 < x % cc then -(x / cc) - 1 else -(x / cc) := by
    split
    · rename_i h
      apply Int.ediv_eq_iff_of_pos hc0 |>.2
      have e : (-(x / cc) - 1) * cc = -(x / cc * cc) - cc := by grind
      constructor <;> grind
    · rename_i h
      have e : x = cc * (x / cc) := by rw [Int.mul_comm]; omega
      have : -x = cc * (-(x / cc)) := by rw [Int.mul_neg, ← e]
      rw [this, Int.mul_ediv_cancel_left _ (by omega)]
  have hnm : ((-x) % cc = 0) ↔ x % cc = 0 := by
    constructor
    · intro h
      rw [hneg] at hd2
      split at hd2
      · have e : (-(x / cc) - 1) * cc = -(x / cc * cc) - cc := by grind
        omega
      · omega
    · intro h
      rw [hneg, if_neg (by omega)] at hd2
      have e : (-(x / cc)) * cc = -(x / cc * cc) := by grind
      omega
  simp only [cLe_eq, cLt_eq]
  have hbig : cc ≤ hiW x → 18446744073709551616 ≤ x / cc := by
    intro h1
    apply Int.le_ediv_of_mul_le hc0
    have : 18446744073709551616 * cc ≤ 18446744073709551616 * hiW x := Int.mul_le_mul_of_nonneg_left h1 (by decide)
    unfold hiW at this
    omega
  have hsmall : ¬ cc ≤ hiW x → x / cc < 18446744073709551616 := by
    intro h1
    apply Int.ediv_lt_of_lt_mul hc0
    have : 18446744073709551616 * (hiW x + 1) ≤ 18446744073709551616 * cc := Int.mul_le_mul_of_nonneg_left (by omega) (by decide)
    unfold hiW at this
    omega
  cases neg with
  | false =>
    simp only [Bool.false_eq_true, if_false]
    unfold V.qF V.tl V.gv V.gn
    have hne : (x / cc == -18446744073709551616) = false := by
      simp only [beq_eq_false_iff_ne, ne_eq]; omega
    rw [hne]
    simp only [Bool.false_and, Bool.false_eq_true, if_false]
    by_cases h1 : cc ≤ hiW x
    · have : isG (x / cc) = true := by rw [isG_iff]; have := hbig h1; omega
      simp [h1, this]
    · have hq1 := hsmall h1
      simp only [h1, decide_false, Bool.false_eq_true, if_false]
      rw [if_pos ⟨⟨a1.1, by omega, by omega⟩, a2⟩]
      by_cases c1 : 4611686018427387903 < x / cc
      · have : isG (x / cc) = true := by rw [isG_iff]; omega
        simp [c1, this]
      · have : isG (x / cc) = false := by rw [isG_false]; omega
        rw [IntWalk.i64_in _ (by omega)]
        simp [c1, this]
  | true =>
    simp only [if_true]
    unfold V.qF V.tl V.gv V.gn
    by_cases h1 : cc ≤ hiW x
    · have hb := hbig h1
      simp only [h1, decide_true, if_true]
      have hg : isG ((-x) / cc) = true := by rw [isG_iff, hneg]; split <;> omega
      have hne : ((-x) / cc == -18446744073709551616 && (-x) % cc != 0) = false := by
        by_cases h : (-x) % cc = 0
        · simp [h]
        · have : 0 < x % cc := by
            rw [hnm] at h; omega
          rw [hneg, if_pos this]
          simp only [Bool.and_eq_false_iff, beq_eq_false_iff_ne, ne_eq]
          left; omega
      simp [hne, hg]
    · have hq1 := hsmall h1
      simp only [h1, decide_false, Bool.false_eq_true, if_false]
      rw [if_pos ⟨⟨a1.1, by omega, by omega⟩, a2⟩]
      by_cases c0 : 0 < x % cc
      · rw [hneg, if_pos c0]
        have hn : ((-x) % cc != 0) = true := by
          simp only [bne_iff_ne, ne_eq]
          rw [hnm]; omega
        rw [hn, Bool.and_true]
        simp only [c0, decide_true, if_true]
        generalize x / cc = q at *
        by_cases c2 : q = 18446744073709551615
        · subst c2
          have e : IntKind.wrap .u64 (18446744073709551615 + 1) = 0 := by rw [IntKind.wrap_u64]; rfl
          rw [e]
          have e2 : (-18446744073709551615 - 1 == (-18446744073709551616 : Int)) = true := by decide
          rw [e2, IntWalk.i64_in 0 (by omega)]
          simp only [Int.sub_zero, if_true]
          rw [IntWalk.i64_in 0 (by omega)]
          rfl
        · have e2 : (-q - 1 == (-18446744073709551616 : Int)) = false := by
            simp only [beq_eq_false_iff_ne, ne_eq]; omega
          rw [e2, u64_in' (by omega : 0 ≤ q + 1) (by omega)]
          by_cases c1 : 4611686018427387903 < q + 1
          · have : isG (-q - 1) = true := by rw [isG_iff]; omega
            simp [c1, this]
          · have : isG (-q - 1) = false := by rw [isG_false]; omega
            rw [IntWalk.i64_in (q + 1) (by omega), IntWalk.i64_in _ (by omega)]
            simp only [c1, this, decide_false, Bool.false_eq_true, if_false]
            rw [show (0 : Int) - (q + 1) = -q - 1 by omega]
            rfl
      · rw [hneg, if_neg c0]
        have hn : ((-x) % cc != 0) = false := by
          simp only [bne_eq_false_iff_eq]
          rw [hnm]; omega
        rw [hn, Bool.and_false]
        simp only [c0, decide_false, Bool.false_eq_true, if_false]
        generalize x / cc = q at *
        by_cases c1 : 4611686018427387903 < q
        · have : isG (-q) = true := by rw [isG_iff]; omega
          simp [c1, this]
        · have : isG (-q) = false := by rw [isG_false]; omega
          rw [IntWalk.i64_in q (by omega), IntWalk.i64_in _ (by omega)]
          simp only [c1, this, decide_false, Bool.false_eq_true, if_false]
          rw [show (0 : Int) - q = -q by omega]
          rfl
theorem ratio_tail {α : Type} (bad : Bool) (a b c : Int) (k0 : Int → Bool → Option α) : M.ratio bad a b c k0 =
    if cEq c 0 = true then k0 0 true else if V.anyG [a, b, c] = true then k0 0 true else
      if cLt c 0 = true then
        (if V.minus_g (V.times_r0 a b) (V.times_r1 a b) = true then
          (if V.neg_r0 (V.minus_r0 (V.times_r0 a b) (V.times_r1 a b)) (V.minus_r1 (V.times_r0 a b) (V.times_r1 a b)) = true then
            (if V.minus_g (V.minus_r0 (V.times_r0 a b) (V.times_r1 a b)) (V.minus_r1 (V.times_r0 a b) (V.times_r1 a b)) = true then
              tailF (V.neg_r0 (V.minus_r0 (V.times_r0 a b) (V.times_r1 a b)) (V.minus_r1 (V.times_r0 a b) (V.times_r1 a b))) (V.minus_r0 (V.minus_r0 (V.times_r0 a b) (V.times_r1 a b)) (V.minus_r1 (V.times_r0 a b) (V.times_r1 a b))) (V.minus_r1 (V.minus_r0 (V.times_r0 a b) (V.times_r1 a b)) (V.minus_r1 (V.times_r0 a b) (V.times_r1 a b))) (IntKind.wrap .u64 (IntKind.wrap .i64 (0 - c))) bad k0
            else none)
          else tailF (V.neg_r0 (V.minus_r0 (V.times_r0 a b) (V.times_r1 a b)) (V.minus_r1 (V.times_r0 a b) (V.times_r1 a b))) (V.minus_r0 (V.times_r0 a b) (V.times_r1 a b)) (V.minus_r1 (V.times_r0 a b) (V.times_r1 a b)) (IntKind.wrap .u64 (IntKind.wrap .i64 (0 - c))) bad k0)
        else none)
      else
        (if V.neg_r0 (V.times_r0 a b) (V.times_r1 a b) = true then
          (if V.minus_g (V.times_r0 a b) (V.times_r1 a b) = true then
            tailF (V.neg_r0 (V.times_r0 a b) (V.times_r1 a b)) (V.minus_r0 (V.times_r0 a b) (V.times_r1 a b)) (V.minus_r1 (V.times_r0 a b) (V.times_r1 a b)) (IntKind.wrap .u64 c) bad k0
          else none)
        else tailF (V.neg_r0 (V.times_r0 a b) (V.times_r1 a b)) (V.times_r0 a b) (V.times_r1 a b) (IntKind.wrap .u64 c) bad k0) := rfl
theorem ratio_v {α : Type} (bad : Bool) (a b c : Int) (k0 : Int → Bool → Option α) : M.ratio bad a b c k0 = k0 (V.gv (V.mRatio a b c)) (V.gn (V.mRatio a b c) bad) := by
  rw [ratio_tail, anyG3, cEq_eq, cLt_eq]
  unfold V.mRatio
  by_cases hc : c = 0
  · simp [hc, V.gv, V.gn]
  have hc' : (c == 0) = false := by simpa using hc
  cases hG : (isG a || isG b || isG c) with
  | true =>
    rw [hc', Bool.false_or, hG]
    simp [V.gv, V.gn]
  | false =>
    rw [hc', Bool.false_or, hG]
    simp only [Bool.false_eq_true, if_false]
    simp only [Bool.or_eq_false_iff] at hG
    obtain ⟨t0, t1⟩ := times_eq' (G_R hG.1.1) (G_R hG.1.2)
    have hp := prod_G hG.1.1 hG.1.2
    have hcb := (isG_false c).1 hG.2
    rw [t0, t1]
    generalize a * b = x at *
    obtain ⟨m0, m1, m2⟩ := minus_eq' x
    have n0 := neg_eq' (x := x) (by omega) (by omega)
    have n1 := neg_eq' (x := -x) (by omega) (by omega)
    obtain ⟨mm0, mm1, mm2⟩ := minus_eq' (-x)
    rw [Int.neg_neg] at mm1 mm2
    by_cases hn : c < 0
    · have ec : IntKind.wrap .u64 (IntKind.wrap .i64 (0 - c)) = -c := by
        rw [IntWalk.i64_in _ (by omega), u64_in' (by omega) (by omega)]; omega
      simp only [hn, decide_true, if_true, m0, m1, m2, n1, mm0, mm1, mm2, ec]
      by_cases hx : -x < 0
      · simp only [hx, decide_true, if_true]
        rw [tailF_v true x (-c) bad k0 (by omega) (by omega) (by omega) (by omega)]
        simp
      · simp only [hx, decide_false, Bool.false_eq_true, if_false]
        rw [tailF_v false (-x) (-c) bad k0 (by omega) (by omega) (by omega) (by omega)]
        simp
    · have ec : IntKind.wrap .u64 c = c := u64_in' (by omega) (by omega)
      simp only [hn, decide_false, Bool.false_eq_true, if_false, m0, m1, m2, n0, ec]
      by_cases hx : x < 0
      · simp only [hx, decide_true, if_true]
        rw [tailF_v true (-x) c bad k0 (by omega) (by omega) (by omega) (by omega)]
        simp
      · simp only [hx, decide_false, Bool.false_eq_true, if_false]
        rw [tailF_v false x c bad k0 (by omega) (by omega) (by omega) (by omega)]
        simp
noncomputable def ratio_h {α : Type} (ds : List D) (Q : SV → Hp → Option α) : Option α :=
  dB ds fun bad ds => dI ds fun a ds => dI ds fun b ds => dI ds fun c ds => dE ds (Q (.int .i64 (V.gv (V.mRatio a b c))) ([.cells [.bool (V.gn (V.mRatio a b c) bad)] 62]))
theorem ratio_h_ok {α : Type} : FnOk E.P 34 (fEnt (α := α) ratio_sp ratio_h) :=
  fEnt_ok E (look_mul_ok) (exec_sound E E_ok (look_mul_ok) (noLps_ok _) 400) fun ds Q r h => by
    unfold ratio_h at h
    obtain ⟨bad, ds, rfl, h1⟩ := dB_inv h
    obtain ⟨a, ds, rfl, h2⟩ := dI_inv h1
    obtain ⟨b, ds, rfl, h3⟩ := dI_inv h2
    obtain ⟨c, ds, rfl, h4⟩ := dI_inv h3
    obtain ⟨rfl, hE⟩ := dE_inv h4
    exact ⟨[SV.ptr (nat_lit 0) (nat_lit 0), SV.int .i64 a, SV.int .i64 b, SV.int .i64 c], [.cells [SV.bool bad] (nat_lit 62)], fun vs => by kernel_rfl, (ratio_eq bad a b c Q).trans ((ratio_v bad a b c _).trans hE)⟩
noncomputable def look_ratio {α : Type} : LookF α := addFn 34 (fEnt ratio_sp ratio_h) look_mul
theorem look_ratio_ok {α : Type} : LookOk E.P (look_ratio (α := α)) := addFn_ok ratio_h_ok (look_mul_ok)
end Go.Proofs.Ytkjellhkamfciaa.Sx
