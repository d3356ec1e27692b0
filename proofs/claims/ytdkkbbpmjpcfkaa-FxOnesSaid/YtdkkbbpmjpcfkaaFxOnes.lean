/- FxOnes: its run tells true. -/
import Derived.Test.YtdkkbbpmjpcfkaaFxH
namespace Go.Proofs.Ytdkkbbpmjpcfkaa.Sx
open Go
set_option linter.unusedVariables false
set_option linter.unusedSimpArgs false
noncomputable def _root_.Go.Proofs.Ytdkkbbpmjpcfkaa.M.ones {α : Type} (a : Int) (b : Int) (k0 : Bool → Option α) : Option α :=
  if V.anyG [a, b] = true then k0 true
else
  if (!cEq (V.gv (V.mMul a (4294967296 : Int))) a) = true then k0 false
  else
    if (!cEq (V.gv (V.mDiv a (4294967296 : Int))) a) = true then k0 false
    else
      if (!cEq (V.gv (V.mAdd a (0 : Int))) a) = true then k0 false
      else
        if (!cEq (V.gv (V.mSub a a)) (0 : Int)) = true then k0 false
        else
          if V.gn (V.mSub a a) (V.gn (V.mAdd a (0 : Int)) (V.gn (V.mDiv a (4294967296 : Int)) (V.gn (V.mMul a (4294967296 : Int)) false))) = true then k0 false
          else
            if (!cEq b (0 : Int)) = true then
              if (!cEq (V.gv (V.mRatio a b b)) a) = true then k0 false
              else
                if cLt (Int.tmod a (536870912 : Int)) (0 : Int) = true then
                  if cEq (V.gv (V.mNorm [a])) (if IntKind.wrap IntKind.i64 ((0 : Int) - a) > a then IntKind.wrap IntKind.i64 ((0 : Int) - a) else a) = true then
                    if
                        cEq (V.gv (V.mNorm [IntKind.wrap IntKind.i64 ((0 : Int) - Int.tmod a (536870912 : Int)), (0 : Int), (0 : Int)]))
                            (IntKind.wrap IntKind.i64 ((0 : Int) - Int.tmod a (536870912 : Int))) =
                          true then
                      if cEq (V.gv (V.mRoot (0 : Int))) (0 : Int) = true then
                        k0
                          !V.gn (V.mRoot (0 : Int))
                              (V.gn (V.mNorm [IntKind.wrap IntKind.i64 ((0 : Int) - Int.tmod a (536870912 : Int)), (0 : Int), (0 : Int)])
                                (V.gn (V.mNorm [a])
                                  (V.gn (V.mRatio a b b)
                                    (V.gn (V.mSub a a) (V.gn (V.mAdd a (0 : Int)) (V.gn (V.mDiv a (4294967296 : Int)) (V.gn (V.mMul a (4294967296 : Int)) false)))))))
                      else k0 false
                    else k0 false
                  else k0 false
                else
                  if cEq (V.gv (V.mNorm [a])) (if IntKind.wrap IntKind.i64 ((0 : Int) - a) > a then IntKind.wrap IntKind.i64 ((0 : Int) - a) else a) = true then
                    if cEq (V.gv (V.mNorm [Int.tmod a (536870912 : Int), (0 : Int), (0 : Int)])) (Int.tmod a (536870912 : Int)) = true then
                      if cEq (V.gv (V.mRoot (0 : Int))) (0 : Int) = true then
                        k0
                          !V.gn (V.mRoot (0 : Int))
                              (V.gn (V.mNorm [Int.tmod a (536870912 : Int), (0 : Int), (0 : Int)])
                                (V.gn (V.mNorm [a])
                                  (V.gn (V.mRatio a b b)
                                    (V.gn (V.mSub a a) (V.gn (V.mAdd a (0 : Int)) (V.gn (V.mDiv a (4294967296 : Int)) (V.gn (V.mMul a (4294967296 : Int)) false)))))))
                      else k0 false
                    else k0 false
                  else k0 false
            else
              if cLt (Int.tmod a (536870912 : Int)) (0 : Int) = true then
                if cEq (V.gv (V.mNorm [a])) (if IntKind.wrap IntKind.i64 ((0 : Int) - a) > a then IntKind.wrap IntKind.i64 ((0 : Int) - a) else a) = true then
                  if
                      cEq (V.gv (V.mNorm [IntKind.wrap IntKind.i64 ((0 : Int) - Int.tmod a (536870912 : Int)), (0 : Int), (0 : Int)]))
                          (IntKind.wrap IntKind.i64 ((0 : Int) - Int.tmod a (536870912 : Int))) =
                        true then
                    if cEq (V.gv (V.mRoot (0 : Int))) (0 : Int) = true then
                      k0
                        !V.gn (V.mRoot (0 : Int))
                            (V.gn (V.mNorm [IntKind.wrap IntKind.i64 ((0 : Int) - Int.tmod a (536870912 : Int)), (0 : Int), (0 : Int)])
                              (V.gn (V.mNorm [a]) (V.gn (V.mSub a a) (V.gn (V.mAdd a (0 : Int)) (V.gn (V.mDiv a (4294967296 : Int)) (V.gn (V.mMul a (4294967296 : Int)) false))))))
                    else k0 false
                  else k0 false
                else k0 false
              else
                if cEq (V.gv (V.mNorm [a])) (if IntKind.wrap IntKind.i64 ((0 : Int) - a) > a then IntKind.wrap IntKind.i64 ((0 : Int) - a) else a) = true then
                  if cEq (V.gv (V.mNorm [Int.tmod a (536870912 : Int), (0 : Int), (0 : Int)])) (Int.tmod a (536870912 : Int)) = true then
                    if cEq (V.gv (V.mRoot (0 : Int))) (0 : Int) = true then
                      k0
                        !V.gn (V.mRoot (0 : Int))
                            (V.gn (V.mNorm [Int.tmod a (536870912 : Int), (0 : Int), (0 : Int)])
                              (V.gn (V.mNorm [a]) (V.gn (V.mSub a a) (V.gn (V.mAdd a (0 : Int)) (V.gn (V.mDiv a (4294967296 : Int)) (V.gn (V.mMul a (4294967296 : Int)) false))))))
                    else k0 false
                  else k0 false
                else k0 false
theorem ones_eq {α : Type} (a : Int) (b : Int) (Q : SV → Hp → Option α) : callI E look_awake (exec E look_awake noLps 400) 9 ([SV.int IntKind.i64 a, SV.int IntKind.i64 b]) ([]) Q = Go.Proofs.Ytdkkbbpmjpcfkaa.M.ones a b (fun (x0 : Bool) => Q (SV.bool x0) ([])) := by kernel_rfl
def ones_sp : List AS := [.val (.int .i64 0), .val (.int .i64 0)]
noncomputable def ones_go {α : Type} (ds : List D) (Q : SV → Hp → Option α) : Option α :=
  dI ds fun a ds => dI ds fun b ds => dE ds (Go.Proofs.Ytdkkbbpmjpcfkaa.M.ones a b (fun (x0 : Bool) => Q (SV.bool x0) ([])))
theorem ones_ok {α : Type} : FnOk E.P 9 (fEnt (α := α) ones_sp ones_go) :=
  fEnt_ok E (look_awake_ok) (exec_sound E E_ok (look_awake_ok) (noLps_ok _) 400) fun ds Q r h => by
    unfold ones_go at h
    obtain ⟨a, ds, rfl, h1⟩ := dI_inv h
    obtain ⟨b, ds, rfl, h2⟩ := dI_inv h1
    obtain ⟨rfl, hE⟩ := dE_inv h2
    exact ⟨[SV.int IntKind.i64 a, SV.int IntKind.i64 b], [], fun vs => by kernel_rfl, (ones_eq a b Q).trans hE⟩
theorem tl_ok {n : Int} (h : isG n = false) : V.tl n = some n := by unfold V.tl; simp [h]
theorem one1 {a : Int} (h : isG a = false) : V.mMul a 4294967296 = some a := by
  unfold V.mMul
  have e : isG 4294967296 = false := by decide
  simp only [h, e, Bool.or_self, Bool.false_eq_true, if_false]
  rw [show a * 4294967296 / 4294967296 = a by omega]
  exact tl_ok h
theorem qF_self {a b : Int} (h : isG a = false) (hb : 0 < b) : V.qF (a * b) b = some a := by
  unfold V.qF
  rw [Int.mul_ediv_cancel _ (by omega)]
  have : (a * b % b != 0) = false := by simp
  rw [this, Bool.and_false]
  simp only [Bool.false_eq_true, if_false]
  exact tl_ok h
theorem one2 {a b : Int} (h : isG a = false) (hb : isG b = false) (h0 : b ≠ 0) : V.mRatio a b b = some a := by
  unfold V.mRatio
  have e : (b == 0) = false := by simpa using h0
  simp only [h, hb, e, Bool.or_self, Bool.false_eq_true, if_false]
  by_cases hn : b < 0
  · simp only [hn, if_true]
    rw [← Int.mul_neg]
    exact qF_self h (by omega)
  · simp only [hn, if_false]
    exact qF_self h (by omega)
theorem one3 {a : Int} (h : isG a = false) : V.mAdd a 0 = some a := by
  unfold V.mAdd
  have e : isG 0 = false := by decide
  simp only [h, e, Bool.or_self, Bool.false_eq_true, if_false, Int.add_zero]
  exact tl_ok h
theorem one4 {a : Int} (h : isG a = false) : V.mSub a a = some 0 := by
  unfold V.mSub
  simp only [h, Bool.or_self, Bool.false_eq_true, if_false, Int.sub_self]
  rfl
theorem rt_sq {x s : Int} (hs : 0 ≤ s) (hs2 : s ≤ 4611686018427387903) (h : x = s * s) : V.mRt x = some s := by
  unfold V.mRt
  have : V.isq x = s := isq_eq ⟨hs, by rw [h]; exact Int.le_refl _, by rw [h]; grind⟩
  rw [this, if_neg (by omega)]
theorem one5 {a s : Int} (h : isG a = false) (hs : 0 ≤ s) (hs2 : s ≤ 4611686018427387903) (ha : a * a = s * s) : V.mNorm [a] = some s := by
  unfold V.mNorm
  rw [anyG1, h]
  simp only [List.length_cons, List.length_nil, Bool.or_false]
  rw [if_neg (by simp)]
  exact rt_sq hs hs2 (by simp [V.dotZ, ha])
theorem one6 {n : Int} (h0 : 0 ≤ n) (h1 : n < 536870912) : V.mNorm [n, 0, 0] = some n := by
  unfold V.mNorm
  have h : isG n = false := by rw [isG_false]; omega
  have e : isG 0 = false := by decide
  rw [anyG3, h, e]
  simp only [List.length_cons, List.length_nil, Bool.or_false]
  rw [if_neg (by simp)]
  exact rt_sq h0 (by omega) (by simp [V.dotZ])
theorem one7 : V.mRoot 0 = some 0 := by
  unfold V.mRoot
  rw [if_neg (by decide)]
  exact rt_sq (by decide) (by decide) (by decide)
theorem tmod_lt (a : Int) : (0 ≤ a → Int.tmod a 536870912 = a % 536870912) ∧ (a < 0 → Int.tmod a 536870912 = -((-a) % 536870912)) := by
  refine ⟨fun h => Int.tmod_eq_emod_of_nonneg h, fun h => ?_⟩
  have := Int.neg_tmod (-a) 536870912
  rw [Int.neg_neg] at this
  rw [this, Int.tmod_eq_emod_of_nonneg (by omega)]
theorem ones_v {α : Type} (a b : Int) (k0 : Bool → Option α) : M.ones a b k0 = k0 true := by
  unfold M.ones
  rw [anyG2]
  cases hG : (isG a || isG b) with
  | true => rfl
  | false =>
    simp only [Bool.or_eq_false_iff] at hG
    obtain ⟨ga, gb⟩ := hG
    have hb := (isG_false a).1 ga
    have e2 : V.mDiv a 4294967296 = some a := one2 ga (by decide) (by decide)
    have ew : IntKind.wrap IntKind.i64 ((0 : Int) - a) = -a := by rw [IntWalk.i64_in _ (by omega)]; omega
    have e6 : V.mNorm [a] = some (if -a > a then -a else a) := by
      split
      · exact one5 ga (by omega) (by omega) (by rw [Int.neg_mul_neg])
      · exact one5 ga (by omega) (by omega) rfl
    have et := tmod_lt a
    have et2 : -536870912 < Int.tmod a 536870912 ∧ Int.tmod a 536870912 < 536870912 := by
      by_cases h : 0 ≤ a
      · rw [et.1 h]; omega
      · rw [et.2 (by omega)]; omega
    generalize Int.tmod a 536870912 = t at *
    have ew2 : IntKind.wrap IntKind.i64 ((0 : Int) - t) = -t := by rw [IntWalk.i64_in _ (by omega)]; omega
    simp only [one1 ga, e2, one3 ga, one4 ga, e6, one7, ew, ew2, V.gv, V.gn, Option.getD_some, Option.isNone_some, Bool.false_or, Bool.or_false, cEq_eq, cLt_eq, beq_self_eq_true, Bool.not_true, Bool.false_eq_true, if_false, if_true, Bool.not_false]
    by_cases h0 : b = 0
    · subst h0
      simp only [beq_self_eq_true, Bool.not_true, Bool.false_eq_true, if_false]
      by_cases ht : t < 0
      · simp only [ht, decide_true, if_true, one6 (show 0 ≤ -t by omega) (by omega), Option.getD_some, Option.isNone_some, beq_self_eq_true, Bool.not_false, Bool.false_or]
      · simp only [ht, decide_false, Bool.false_eq_true, if_false, one6 (show 0 ≤ t by omega) (by omega), Option.getD_some, Option.isNone_some, beq_self_eq_true, Bool.not_false, if_true, Bool.false_or]
    · have e : (b == 0) = false := by simpa using h0
      simp only [e, Bool.not_false, if_true, one2 ga gb h0, Option.getD_some, Option.isNone_some, beq_self_eq_true, Bool.not_true, Bool.false_eq_true, if_false]
      by_cases ht : t < 0
      · simp only [ht, decide_true, if_true, one6 (show 0 ≤ -t by omega) (by omega), Option.getD_some, Option.isNone_some, beq_self_eq_true, Bool.not_false, Bool.false_or]
      · simp only [ht, decide_false, Bool.false_eq_true, if_false, one6 (show 0 ≤ t by omega) (by omega), Option.getD_some, Option.isNone_some, beq_self_eq_true, Bool.not_false, if_true, Bool.false_or]
noncomputable def ones_h {α : Type} (ds : List D) (Q : SV → Hp → Option α) : Option α :=
  dI ds fun a ds => dI ds fun b ds => dE ds (Q (.bool true) ([]))
theorem ones_h_ok {α : Type} : FnOk E.P 9 (fEnt (α := α) ones_sp ones_h) :=
  fEnt_ok E (look_awake_ok) (exec_sound E E_ok (look_awake_ok) (noLps_ok _) 400) fun ds Q r h => by
    unfold ones_h at h
    obtain ⟨a, ds, rfl, h1⟩ := dI_inv h
    obtain ⟨b, ds, rfl, h2⟩ := dI_inv h1
    obtain ⟨rfl, hE⟩ := dE_inv h2
    exact ⟨[SV.int IntKind.i64 a, SV.int IntKind.i64 b], [], fun vs => by kernel_rfl, (ones_eq a b Q).trans ((ones_v a b _).trans hE)⟩
end Go.Proofs.Ytdkkbbpmjpcfkaa.Sx
