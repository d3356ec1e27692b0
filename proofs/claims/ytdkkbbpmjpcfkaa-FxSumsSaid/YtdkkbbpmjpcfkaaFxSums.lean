/- FxSums: its run tells true. -/
import Derived.Test.YtdkkbbpmjpcfkaaFxH
import Derived.Test.YtdkkbbpmjpcfkaaFxR6
namespace Go.Proofs.Ytdkkbbpmjpcfkaa.Sx
open Go
set_option linter.unusedVariables false
set_option linter.unusedSimpArgs false
noncomputable def look_FxSums_awake {α : Type} : LookF α := addFn 12 (fEnt awake_sp awake_h) look_rdiv
theorem look_FxSums_awake_ok {α : Type} : LookOk E.P (look_FxSums_awake (α := α)) := addFn_ok awake_h_ok (look_rdiv_ok)
noncomputable def look_FxSums_add {α : Type} : LookF α := addFn 17 (fEnt add_sp add_h) look_FxSums_awake
theorem look_FxSums_add_ok {α : Type} : LookOk E.P (look_FxSums_add (α := α)) := addFn_ok add_h_ok (look_FxSums_awake_ok)
noncomputable def look_FxSums_sub {α : Type} : LookF α := addFn 26 (fEnt sub_sp sub_h) look_FxSums_add
theorem look_FxSums_sub_ok {α : Type} : LookOk E.P (look_FxSums_sub (α := α)) := addFn_ok sub_h_ok (look_FxSums_add_ok)
noncomputable def look_FxSums_mul {α : Type} : LookF α := addFn 18 (fEnt mul_sp mul_h) look_FxSums_sub
theorem look_FxSums_mul_ok {α : Type} : LookOk E.P (look_FxSums_mul (α := α)) := addFn_ok mul_h_ok (look_FxSums_sub_ok)
noncomputable def look_FxSums_div {α : Type} : LookF α := addFn 29 (fEnt div_sp div_h) look_FxSums_mul
theorem look_FxSums_div_ok {α : Type} : LookOk E.P (look_FxSums_div (α := α)) := addFn_ok div_h_ok (look_FxSums_mul_ok)
theorem mMul_r (a b : Int) : V.mMul a b = V.rRatio a b 4294967296 := by
  unfold V.mMul V.rRatio
  have e1 : isG 4294967296 = false := by decide
  have e2 : ((4294967296 : Int) == 0) = false := by decide
  rw [e1, e2, Bool.or_false, Bool.false_or, fdiv_pos _ _ (by decide)]
theorem qF_tl {a c : Int} (ha : -4611686018427387903 ≤ a ∧ a ≤ 4611686018427387903) (hc : 0 < c) : V.qF (a * 4294967296) c = V.tl (a * 4294967296 / c) := by
  unfold V.qF
  have h1 : a * 4294967296 / c * c + a * 4294967296 % c = a * 4294967296 := Int.ediv_mul_add_emod _ c
  have h2 : 0 ≤ a * 4294967296 % c := Int.emod_nonneg _ (by omega)
  have h3 : a * 4294967296 % c < c := Int.emod_lt_of_pos _ hc
  have : (a * 4294967296 / c == -18446744073709551616 && a * 4294967296 % c != 0) = false := by
    by_cases h : a * 4294967296 / c = -18446744073709551616
    · rw [h] at h1
      have : a * 4294967296 % c = 0 := by omega
      simp [this]
    · have : (a * 4294967296 / c == -18446744073709551616) = false := by simpa using h
      simp [this]
  rw [this]
  simp
theorem mDiv_r (a b : Int) : V.mDiv a b = V.rRatio a 4294967296 b := by
  unfold V.mDiv V.mRatio V.rRatio
  cases hG : (b == 0 || isG a || isG 4294967296 || isG b) with
  | true => simp
  | false =>
    simp only [Bool.false_eq_true, if_false]
    simp only [Bool.or_eq_false_iff] at hG
    have ha := (isG_false a).1 hG.1.1.2
    have h0 : ¬ b = 0 := by simpa using hG.1.1.1
    by_cases hb : b < 0
    · simp only [hb, if_true]
      rw [← Int.neg_mul, qF_tl (by omega) (by omega), ← Int.neg_fdiv_neg, fdiv_pos _ _ (by omega), Int.neg_mul]
    · simp only [hb, if_false]
      rw [qF_tl ha (by omega), fdiv_pos _ _ (by omega)]
noncomputable def _root_.Go.Proofs.Ytdkkbbpmjpcfkaa.M.sums_l0_step {α : Type} (x4 : Int) (x5 : Int) (kn : Int → Option α) (k0 : Option α) (k2 : Option α) (x7 : Int) : Option α :=
  if cLt x7 (4 : Int) = true then
  if cEq x7 (0 : Int) = true then
    if (!cEq (V.gv (V.mAdd x4 x5)) (V.gv (V.mAdd x4 x5))) = true then k0
    else if (!V.gn (V.mAdd x4 x5) false == V.gn (V.mAdd x4 x5) false) = true then k0 else kn (IntKind.wrap IntKind.i64 (x7 + (1 : Int)))
  else
    if cEq x7 (1 : Int) = true then
      if (!cEq (V.gv (V.mSub x4 x5)) (V.gv (V.mSub x4 x5))) = true then k0
      else if (!V.gn (V.mSub x4 x5) false == V.gn (V.mSub x4 x5) false) = true then k0 else kn (IntKind.wrap IntKind.i64 (x7 + (1 : Int)))
    else
      if cEq x7 (2 : Int) = true then
        if (!cEq (V.gv (V.mMul x4 x5)) (V.rmul_r0 false x4 x5)) = true then k0
        else if (!V.gn (V.mMul x4 x5) false == V.rmul_r1 false x4 x5) = true then k0 else kn (IntKind.wrap IntKind.i64 (x7 + (1 : Int)))
      else
        if (!cEq (V.gv (V.mDiv x4 x5)) (V.rdiv_r0 false x4 x5)) = true then k0
        else if (!V.gn (V.mDiv x4 x5) false == V.rdiv_r1 false x4 x5) = true then k0 else kn (IntKind.wrap IntKind.i64 (x7 + (1 : Int)))
else k2
noncomputable def _root_.Go.Proofs.Ytdkkbbpmjpcfkaa.M.sums_l0 {α : Type} (x4 : Int) (x5 : Int) (k0 : Option α) (k2 : Option α) : Nat → Int → Option α
  | 0, _ => none
  | n + 1, x7 => Go.Proofs.Ytdkkbbpmjpcfkaa.M.sums_l0_step x4 x5 (Go.Proofs.Ytdkkbbpmjpcfkaa.M.sums_l0 x4 x5 k0 k2 n) k0 k2 x7
theorem sums_l0_step_eq {α : Type} (x4 : Int) (x5 : Int) (x6 : Bool) (x7 : Int) (Q : Ex → St → Option α) : (loopStep E (exec E look_FxSums_div noLps 400) 7 [false, true, false, true, true] 0 (codeAt E.P 7 [false, true, false, true, true])) (St.mk
  [some (SV.int IntKind.i64 x4), some (SV.int IntKind.i64 x5), none, none, none, some (SV.bool x6), some (SV.int IntKind.i64 x7), none, none, none, none, none, none, none, none,
    none, none, none, none, none, none, none, none, none, none, none, none, none, none, none, none, none, none, none, none, none, none, none, none, none, none, none, none, none,
    none, none, none, none, none, none, none, none, none, none, none, none, none, none, none, none, none, none, none, none, none, none, none, none, none, none, none, none, none,
    none]
  []) Q = Go.Proofs.Ytdkkbbpmjpcfkaa.M.sums_l0_step x4 x5 (fun (x8 : Int) => Q .normal (St.mk
  [some (SV.int IntKind.i64 x4), some (SV.int IntKind.i64 x5), none, none, none, some (SV.bool x6), some (SV.int IntKind.i64 x8), none, none, none, none, none, none, none, none,
    none, none, none, none, none, none, none, none, none, none, none, none, none, none, none, none, none, none, none, none, none, none, none, none, none, none, none, none, none,
    none, none, none, none, none, none, none, none, none, none, none, none, none, none, none, none, none, none, none, none, none, none, none, none, none, none, none, none, none,
    none]
  [])) (Q .ret (St.mk
  [none, none, none, none, some (SV.bool false), some (SV.bool x6), none, none, none, none, none, none, none, none, none, none, none, none, none, none, none, none, none, none,
    none, none, none, none, none, none, none, none, none, none, none, none, none, none, none, none, none, none, none, none, none, none, none, none, none, none, none, none, none,
    none, none, none, none, none, none, none, none, none, none, none, none, none, none, none, none, none, none, none, none, none]
  [])) (Q (.exit 0) (St.mk
  [none, none, none, none, none, some (SV.bool x6), none, none, none, none, none, none, none, none, none, none, none, none, none, none, none, none, none, none, none, none, none,
    none, none, none, none, none, none, none, none, none, none, none, none, none, none, none, none, none, none, none, none, none, none, none, none, none, none, none, none, none,
    none, none, none, none, none, none, none, none, none, none, none, none, none, none, none, none, none, none]
  [])) x7 := by kernel_rfl
theorem sums_l0_iter {α : Type} (x4 : Int) (x5 : Int) (x6 : Bool) (Q : Ex → St → Option α) : ∀ (n : Nat) (x7 : Int), iter (loopStep E (exec E look_FxSums_div noLps 400) 7 [false, true, false, true, true] 0 (codeAt E.P 7 [false, true, false, true, true])) n (St.mk
  [some (SV.int IntKind.i64 x4), some (SV.int IntKind.i64 x5), none, none, none, some (SV.bool x6), some (SV.int IntKind.i64 x7), none, none, none, none, none, none, none, none,
    none, none, none, none, none, none, none, none, none, none, none, none, none, none, none, none, none, none, none, none, none, none, none, none, none, none, none, none, none,
    none, none, none, none, none, none, none, none, none, none, none, none, none, none, none, none, none, none, none, none, none, none, none, none, none, none, none, none, none,
    none]
  []) Q = Go.Proofs.Ytdkkbbpmjpcfkaa.M.sums_l0 x4 x5 (Q .ret (St.mk
  [none, none, none, none, some (SV.bool false), some (SV.bool x6), none, none, none, none, none, none, none, none, none, none, none, none, none, none, none, none, none, none,
    none, none, none, none, none, none, none, none, none, none, none, none, none, none, none, none, none, none, none, none, none, none, none, none, none, none, none, none, none,
    none, none, none, none, none, none, none, none, none, none, none, none, none, none, none, none, none, none, none, none, none]
  [])) (Q (.exit 0) (St.mk
  [none, none, none, none, none, some (SV.bool x6), none, none, none, none, none, none, none, none, none, none, none, none, none, none, none, none, none, none, none, none, none,
    none, none, none, none, none, none, none, none, none, none, none, none, none, none, none, none, none, none, none, none, none, none, none, none, none, none, none, none, none,
    none, none, none, none, none, none, none, none, none, none, none, none, none, none, none, none, none, none]
  [])) n x7
  | 0, _ => rfl
  | n + 1, x7 => (sums_l0_step_eq x4 x5 x6 x7 (iterK (loopStep E (exec E look_FxSums_div noLps 400) 7 [false, true, false, true, true] 0 (codeAt E.P 7 [false, true, false, true, true])) n Q)).trans (congrArg (fun kn => Go.Proofs.Ytdkkbbpmjpcfkaa.M.sums_l0_step x4 x5 kn (Q .ret (St.mk
  [none, none, none, none, some (SV.bool false), some (SV.bool x6), none, none, none, none, none, none, none, none, none, none, none, none, none, none, none, none, none, none,
    none, none, none, none, none, none, none, none, none, none, none, none, none, none, none, none, none, none, none, none, none, none, none, none, none, none, none, none, none,
    none, none, none, none, none, none, none, none, none, none, none, none, none, none, none, none, none, none, none, none, none]
  [])) (Q (.exit 0) (St.mk
  [none, none, none, none, none, some (SV.bool x6), none, none, none, none, none, none, none, none, none, none, none, none, none, none, none, none, none, none, none, none, none,
    none, none, none, none, none, none, none, none, none, none, none, none, none, none, none, none, none, none, none, none, none, none, none, none, none, none, none, none, none,
    none, none, none, none, none, none, none, none, none, none, none, none, none, none, none, none, none, none]
  [])) x7) (funext fun x7 => sums_l0_iter x4 x5 x6 Q n x7))
noncomputable def sums_l0_go {α : Type} (ds : List D) (Q : Ex → St → Option α) : Option α :=
  dI ds fun x4 ds => dI ds fun x5 ds => dB ds fun x6 ds => dI ds fun x7 ds => dE ds (Go.Proofs.Ytdkkbbpmjpcfkaa.M.sums_l0 x4 x5 (Q .ret (St.mk
  [none, none, none, none, some (SV.bool false), some (SV.bool x6), none, none, none, none, none, none, none, none, none, none, none, none, none, none, none, none, none, none,
    none, none, none, none, none, none, none, none, none, none, none, none, none, none, none, none, none, none, none, none, none, none, none, none, none, none, none, none, none,
    none, none, none, none, none, none, none, none, none, none, none, none, none, none, none, none, none, none, none, none, none]
  [])) (Q (.exit 0) (St.mk
  [none, none, none, none, none, some (SV.bool x6), none, none, none, none, none, none, none, none, none, none, none, none, none, none, none, none, none, none, none, none, none,
    none, none, none, none, none, none, none, none, none, none, none, none, none, none, none, none, none, none, none, none, none, none, none, none, none, none, none, none, none,
    none, none, none, none, none, none, none, none, none, none, none, none, none, none, none, none, none, none]
  [])) (100) x7)
theorem sums_l0_ok {α : Type} : LoopOk E.P 7 [false, true, false, true, true] 0 (lEnt (α := α) (St.mk
  [some (SV.int IntKind.i64 (0 : Int)), some (SV.int IntKind.i64 (0 : Int)), none, none, none, some (SV.bool false), some (SV.int IntKind.i64 (0 : Int)), none, none, none, none,
    none, none, none, none, none, none, none, none, none, none, none, none, none, none, none, none, none, none, none, none, none, none, none, none, none, none, none, none, none,
    none, none, none, none, none, none, none, none, none, none, none, none, none, none, none, none, none, none, none, none, none, none, none, none, none, none, none, none, none,
    none, none, none, none, none]
  []) sums_l0_go) :=
  lEnt_ok E (exec_sound E E_ok (look_FxSums_div_ok) (noLps_ok _) 400) fun ds Q r h S hS => by
    unfold sums_l0_go at h
    obtain ⟨x4, ds, rfl, h1⟩ := dI_inv h
    obtain ⟨x5, ds, rfl, h2⟩ := dI_inv h1
    obtain ⟨x6, ds, rfl, h3⟩ := dB_inv h2
    obtain ⟨x7, ds, rfl, h4⟩ := dI_inv h3
    obtain ⟨rfl, hE⟩ := dE_inv h4
    have e : fillS (St.mk
  [some (SV.int IntKind.i64 (0 : Int)), some (SV.int IntKind.i64 (0 : Int)), none, none, none, some (SV.bool false), some (SV.int IntKind.i64 (0 : Int)), none, none, none, none,
    none, none, none, none, none, none, none, none, none, none, none, none, none, none, none, none, none, none, none, none, none, none, none, none, none, none, none, none, none,
    none, none, none, none, none, none, none, none, none, none, none, none, none, none, none, none, none, none, none, none, none, none, none, none, none, none, none, none, none,
    none, none, none, none, none]
  []) [.i x4, .i x5, .b x6, .i x7] = some (St.mk
  [some (SV.int IntKind.i64 x4), some (SV.int IntKind.i64 x5), none, none, none, some (SV.bool x6), some (SV.int IntKind.i64 x7), none, none, none, none, none, none, none, none,
    none, none, none, none, none, none, none, none, none, none, none, none, none, none, none, none, none, none, none, none, none, none, none, none, none, none, none, none, none,
    none, none, none, none, none, none, none, none, none, none, none, none, none, none, none, none, none, none, none, none, none, none, none, none, none, none, none, none, none,
    none]
  []) := by kernel_rfl
    rw [e] at hS
    cases hS
    exact ⟨_, (sums_l0_iter x4 x5 x6 Q _ x7).trans hE⟩
noncomputable def sums_l0_lps {α : Type} : LookL α := addLp 7 [false, true, false, true, true] 0 (lEnt (St.mk
  [some (SV.int IntKind.i64 (0 : Int)), some (SV.int IntKind.i64 (0 : Int)), none, none, none, some (SV.bool false), some (SV.int IntKind.i64 (0 : Int)), none, none, none, none,
    none, none, none, none, none, none, none, none, none, none, none, none, none, none, none, none, none, none, none, none, none, none, none, none, none, none, none, none, none,
    none, none, none, none, none, none, none, none, none, none, none, none, none, none, none, none, none, none, none, none, none, none, none, none, none, none, none, none, none,
    none, none, none, none, none]
  []) sums_l0_go) noLps
theorem sums_l0_lps_ok {α : Type} : LoopsOk E.P (sums_l0_lps (α := α)) := addLp_ok sums_l0_ok (noLps_ok _)

noncomputable def _root_.Go.Proofs.Ytdkkbbpmjpcfkaa.M.sums {α : Type} (a : Int) (b : Int) (k0 : Bool → Option α) : Option α :=
  M.sums_l0 a b (k0 false) (k0 true) (100 : Nat) (0 : Int)
theorem sums_eq {α : Type} (a : Int) (b : Int) (Q : SV → Hp → Option α) : callI E look_FxSums_div (exec E look_FxSums_div sums_l0_lps 400) 7 ([SV.int IntKind.i64 a, SV.int IntKind.i64 b]) ([]) Q = Go.Proofs.Ytdkkbbpmjpcfkaa.M.sums a b (fun (x9 : Bool) => Q (SV.bool x9) ([])) := by kernel_rfl
def sums_sp : List AS := [.val (.int .i64 0), .val (.int .i64 0)]
noncomputable def sums_go {α : Type} (ds : List D) (Q : SV → Hp → Option α) : Option α :=
  dI ds fun a ds => dI ds fun b ds => dE ds (Go.Proofs.Ytdkkbbpmjpcfkaa.M.sums a b (fun (x9 : Bool) => Q (SV.bool x9) ([])))
theorem sums_ok {α : Type} : FnOk E.P 7 (fEnt (α := α) sums_sp sums_go) :=
  fEnt_ok E (look_FxSums_div_ok) (exec_sound E E_ok (look_FxSums_div_ok) (sums_l0_lps_ok) 400) fun ds Q r h => by
    unfold sums_go at h
    obtain ⟨a, ds, rfl, h1⟩ := dI_inv h
    obtain ⟨b, ds, rfl, h2⟩ := dI_inv h1
    obtain ⟨rfl, hE⟩ := dE_inv h2
    exact ⟨[SV.int IntKind.i64 a, SV.int IntKind.i64 b], [], fun vs => by kernel_rfl, (sums_eq a b Q).trans hE⟩
theorem sums_step {α : Type} (a b : Int) (kn : Int → Option α) (k0 k2 : Option α) (i : Int) : M.sums_l0_step a b kn k0 k2 i = if i < 4 then kn (IntKind.wrap .i64 (i + 1)) else k2 := by
  unfold M.sums_l0_step V.rmul_r0 V.rmul_r1 V.rdiv_r0 V.rdiv_r1
  rw [← mMul_r, ← mDiv_r]
  simp only [cEq_eq, cLt_eq, beq_self_eq_true, Bool.not_true, Bool.false_eq_true, if_false, ite_self, decide_eq_true_eq]
theorem sums_v {α : Type} (a b : Int) (k0 : Bool → Option α) : M.sums a b k0 = k0 true := by
  unfold M.sums
  have st : ∀ (f : Nat) (i j : Int), i < 4 → IntKind.wrap .i64 (i + 1) = j → M.sums_l0 a b (k0 false) (k0 true) (f + 1) i = M.sums_l0 a b (k0 false) (k0 true) f j := by
    intro f i j hi hj
    conv => lhs; unfold M.sums_l0
    rw [sums_step, if_pos hi, hj]
  rw [st 99 0 1 (by decide) (by decide), st 98 1 2 (by decide) (by decide), st 97 2 3 (by decide) (by decide), st 96 3 4 (by decide) (by decide)]
  conv => lhs; unfold M.sums_l0
  rw [sums_step, if_neg (by decide)]
noncomputable def sums_h {α : Type} (ds : List D) (Q : SV → Hp → Option α) : Option α :=
  dI ds fun a ds => dI ds fun b ds => dE ds (Q (.bool true) ([]))
theorem sums_h_ok {α : Type} : FnOk E.P 7 (fEnt (α := α) sums_sp sums_h) :=
  fEnt_ok E (look_FxSums_div_ok) (exec_sound E E_ok (look_FxSums_div_ok) (sums_l0_lps_ok) 400) fun ds Q r h => by
    unfold sums_h at h
    obtain ⟨a, ds, rfl, h1⟩ := dI_inv h
    obtain ⟨b, ds, rfl, h2⟩ := dI_inv h1
    obtain ⟨rfl, hE⟩ := dE_inv h2
    exact ⟨[SV.int IntKind.i64 a, SV.int IntKind.i64 b], [], fun vs => by kernel_rfl, (sums_eq a b Q).trans ((sums_v a b _).trans hE)⟩
end Go.Proofs.Ytdkkbbpmjpcfkaa.Sx
