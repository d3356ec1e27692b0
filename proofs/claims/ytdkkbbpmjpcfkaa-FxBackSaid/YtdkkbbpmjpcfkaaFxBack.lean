/- FxBack: its run tells true. -/
import Derived.Test.YtdkkbbpmjpcfkaaFxH
namespace Go.Proofs.Ytdkkbbpmjpcfkaa.Sx
open Go
set_option linter.unusedVariables false
set_option linter.unusedSimpArgs false
noncomputable def _root_.Go.Proofs.Ytdkkbbpmjpcfkaa.M.back {α : Type} (a : Int) (b : Int) (c : Int) (k0 : Bool → Option α) : Option α :=
  if (!V.gn (V.mAdd (V.gv (V.mSub a b)) b) (V.gn (V.mSub a b) (V.gn (V.mSub (V.gv (V.mAdd a b)) b) (V.gn (V.mAdd a b) false)))) = true then
  if (!cEq (V.gv (V.mSub (V.gv (V.mAdd a b)) b)) a) = true then k0 false
  else
    if (!cEq (V.gv (V.mAdd (V.gv (V.mSub a b)) b)) a) = true then k0 false
    else
      if cEq (V.gv (V.mMul a b)) (V.gv (V.mMul b a)) = true then
        if cEq (V.gv (V.mRatio a b c)) (V.gv (V.mRatio b a c)) = true then
          if (V.gn (V.mRatio a b c) (V.gn (V.mMul a b) false) == V.gn (V.mRatio b a c) (V.gn (V.mMul b a) false)) = true then k0 (cEq (V.gv (V.mMul a b)) (V.gv (V.mMul a b)))
          else k0 false
        else k0 false
      else k0 false
else
  if cEq (V.gv (V.mMul a b)) (V.gv (V.mMul b a)) = true then
    if cEq (V.gv (V.mRatio a b c)) (V.gv (V.mRatio b a c)) = true then
      if (V.gn (V.mRatio a b c) (V.gn (V.mMul a b) false) == V.gn (V.mRatio b a c) (V.gn (V.mMul b a) false)) = true then k0 (cEq (V.gv (V.mMul a b)) (V.gv (V.mMul a b)))
      else k0 false
    else k0 false
  else k0 false
theorem back_eq {α : Type} (a : Int) (b : Int) (c : Int) (Q : SV → Hp → Option α) : callI E look_awake (exec E look_awake noLps 400) 11 ([SV.int IntKind.i64 a, SV.int IntKind.i64 b, SV.int IntKind.i64 c]) ([]) Q = Go.Proofs.Ytdkkbbpmjpcfkaa.M.back a b c (fun (x0 : Bool) => Q (SV.bool x0) ([])) := by kernel_rfl
def back_sp : List AS := [.val (.int .i64 0), .val (.int .i64 0), .val (.int .i64 0)]
noncomputable def _root_.Go.Proofs.Ytdkkbbpmjpcfkaa.V.back_r0 (a : Int) (b : Int) (c : Int) : Bool :=
  if (!V.gn (V.mAdd (V.gv (V.mSub a b)) b) (V.gn (V.mSub a b) (V.gn (V.mSub (V.gv (V.mAdd a b)) b) (V.gn (V.mAdd a b) false)))) = true then
  if (!cEq (V.gv (V.mSub (V.gv (V.mAdd a b)) b)) a) = true then false
  else
    if (!cEq (V.gv (V.mAdd (V.gv (V.mSub a b)) b)) a) = true then false
    else
      if cEq (V.gv (V.mMul a b)) (V.gv (V.mMul b a)) = true then
        if cEq (V.gv (V.mRatio a b c)) (V.gv (V.mRatio b a c)) = true then
          if (V.gn (V.mRatio a b c) (V.gn (V.mMul a b) false) == V.gn (V.mRatio b a c) (V.gn (V.mMul b a) false)) = true then cEq (V.gv (V.mMul a b)) (V.gv (V.mMul a b)) else false
        else false
      else false
else
  if cEq (V.gv (V.mMul a b)) (V.gv (V.mMul b a)) = true then
    if cEq (V.gv (V.mRatio a b c)) (V.gv (V.mRatio b a c)) = true then
      if (V.gn (V.mRatio a b c) (V.gn (V.mMul a b) false) == V.gn (V.mRatio b a c) (V.gn (V.mMul b a) false)) = true then cEq (V.gv (V.mMul a b)) (V.gv (V.mMul a b)) else false
    else false
  else false
theorem back_val {α : Type} (a : Int) (b : Int) (c : Int) (k0 : Bool → Option α) : Go.Proofs.Ytdkkbbpmjpcfkaa.M.back a b c k0 = k0 (Go.Proofs.Ytdkkbbpmjpcfkaa.V.back_r0 a b c) := by
  unfold Go.Proofs.Ytdkkbbpmjpcfkaa.M.back Go.Proofs.Ytdkkbbpmjpcfkaa.V.back_r0
  repeat' first | rfl | (split <;> rename_i h <;> first | simp only [if_pos h] | simp only [if_neg h] | skip)
noncomputable def back_c {α : Type} (ds : List D) (Q : SV → Hp → Option α) : Option α :=
  dI ds fun a ds => dI ds fun b ds => dI ds fun c ds => dE ds (Q (SV.bool (Go.Proofs.Ytdkkbbpmjpcfkaa.V.back_r0 a b c)) ([]))
theorem back_c_ok {α : Type} : FnOk E.P 11 (fEnt (α := α) back_sp back_c) :=
  fEnt_ok E (look_awake_ok) (exec_sound E E_ok (look_awake_ok) (noLps_ok _) 400) fun ds Q r h => by
    unfold back_c at h
    obtain ⟨a, ds, rfl, h1⟩ := dI_inv h
    obtain ⟨b, ds, rfl, h2⟩ := dI_inv h1
    obtain ⟨c, ds, rfl, h3⟩ := dI_inv h2
    obtain ⟨rfl, hE⟩ := dE_inv h3
    exact ⟨[SV.int IntKind.i64 a, SV.int IntKind.i64 b, SV.int IntKind.i64 c], [], fun vs => by kernel_rfl, (back_eq a b c Q).trans ((back_val a b c (fun (x0 : Bool) => Q (SV.bool x0) ([]))).trans hE)⟩
noncomputable def back_go {α : Type} (ds : List D) (Q : SV → Hp → Option α) : Option α :=
  dI ds fun a ds => dI ds fun b ds => dI ds fun c ds => dE ds (Go.Proofs.Ytdkkbbpmjpcfkaa.M.back a b c (fun (x0 : Bool) => Q (SV.bool x0) ([])))
theorem back_ok {α : Type} : FnOk E.P 11 (fEnt (α := α) back_sp back_go) :=
  fEnt_ok E (look_awake_ok) (exec_sound E E_ok (look_awake_ok) (noLps_ok _) 400) fun ds Q r h => by
    unfold back_go at h
    obtain ⟨a, ds, rfl, h1⟩ := dI_inv h
    obtain ⟨b, ds, rfl, h2⟩ := dI_inv h1
    obtain ⟨c, ds, rfl, h3⟩ := dI_inv h2
    obtain ⟨rfl, hE⟩ := dE_inv h3
    exact ⟨[SV.int IntKind.i64 a, SV.int IntKind.i64 b, SV.int IntKind.i64 c], [], fun vs => by kernel_rfl, (back_eq a b c Q).trans hE⟩
theorem mMul_comm (a b : Int) : V.mMul a b = V.mMul b a := by unfold V.mMul; rw [Bool.or_comm, Int.mul_comm]
theorem mRatio_comm (a b c : Int) : V.mRatio a b c = V.mRatio b a c := by
  unfold V.mRatio
  rw [Int.mul_comm a b, Bool.or_assoc (c == 0), Bool.or_comm (isG a), ← Bool.or_assoc]
theorem back_v {α : Type} (a b c : Int) (k0 : Bool → Option α) : M.back a b c k0 = k0 true := by
  unfold M.back
  rw [mMul_comm b a, mRatio_comm b a c]
  simp only [cEq_eq, beq_self_eq_true, if_true]
  cases hf : V.gn (V.mAdd (V.gv (V.mSub a b)) b) (V.gn (V.mSub a b) (V.gn (V.mSub (V.gv (V.mAdd a b)) b) (V.gn (V.mAdd a b) false))) with
  | true => simp
  | false =>
    simp only [V.gn, Bool.or_eq_false_iff, and_true] at hf
    obtain ⟨h1, h2, h3, h4⟩ := hf
    have e1 : V.gv (V.mAdd a b) = a + b := by
      unfold V.mAdd V.tl V.gv at *
      split at h4 <;> simp_all
      all_goals try (split at h4 <;> simp_all)
      all_goals try omega
    have e2 : V.gv (V.mSub a b) = a - b := by
      unfold V.mSub V.tl V.gv at *
      split at h2 <;> simp_all
      all_goals try (split at h2 <;> simp_all)
      all_goals try omega
    rw [e1] at h3 ⊢
    rw [e2] at h1 ⊢
    have e3 : V.gv (V.mSub (a + b) b) = a := by
      unfold V.mSub V.tl V.gv at *
      split at h3 <;> simp_all
      all_goals try (split at h3 <;> simp_all)
      all_goals try omega
    have e4 : V.gv (V.mAdd (a - b) b) = a := by
      unfold V.mAdd V.tl V.gv at *
      split at h1 <;> simp_all
      all_goals try (split at h1 <;> simp_all)
      all_goals try omega
    simp [e3, e4]
noncomputable def back_h {α : Type} (ds : List D) (Q : SV → Hp → Option α) : Option α :=
  dI ds fun a ds => dI ds fun b ds => dI ds fun c ds => dE ds (Q (.bool true) ([]))
theorem back_h_ok {α : Type} : FnOk E.P 11 (fEnt (α := α) back_sp back_h) :=
  fEnt_ok E (look_awake_ok) (exec_sound E E_ok (look_awake_ok) (noLps_ok _) 400) fun ds Q r h => by
    unfold back_h at h
    obtain ⟨a, ds, rfl, h1⟩ := dI_inv h
    obtain ⟨b, ds, rfl, h2⟩ := dI_inv h1
    obtain ⟨c, ds, rfl, h3⟩ := dI_inv h2
    obtain ⟨rfl, hE⟩ := dE_inv h3
    exact ⟨[SV.int IntKind.i64 a, SV.int IntKind.i64 b, SV.int IntKind.i64 c], [], fun vs => by kernel_rfl, (back_eq a b c Q).trans ((back_v a b c _).trans hE)⟩
end Go.Proofs.Ytdkkbbpmjpcfkaa.Sx
