/- The document's own roots, sums of products, norms. -/
import Derived.Test.YtkjellhkamfciaaFxR6
namespace Go.Proofs.Ytkjellhkamfciaa.Sx
open Go
set_option linter.unusedVariables false
set_option linter.unusedSimpArgs false
theorem sm_facts {a b : List Int} (hl : a.length ≤ 8) (ha : V.anyG a = false) (hb : V.anyG b = false) : V.ok8 (V.smD a b) = true ∧ wv (V.smN a b) (V.smD a b) = V.dotZ a b ∧ val (V.smD a b) ≤ 170141183460469231731687303715884105728 := by
  obtain ⟨h1, h2, h3⟩ := smF_val a b false (List.replicate 8 0) 0 ha hb (by decide) (by decide) (by omega)
  refine ⟨h1, ?_, ?_⟩
  · unfold V.smN V.smD
    rw [h2]
    have : wv false (List.replicate 8 (0 : Int)) = 0 := by decide
    omega
  · unfold V.smD
    omega
end Go.Proofs.Ytkjellhkamfciaa.Sx
