/- The document's own roots, sums of products, norms. -/
import Derived.Test.YtmcifgaaojgheaaFxR6
namespace Go.Proofs.Ytmcifgaaojgheaa.Sx
open Go
set_option maxRecDepth 20000
set_option linter.unusedVariables false
set_option linter.unusedSimpArgs false
noncomputable def _root_.Go.Proofs.Ytmcifgaaojgheaa.M.rdot {α : Type} (bad : Bool) (a : List Int) (b : List Int) (k0 : Int → Bool → Option α) : Option α :=
  if (!cEq (↑(List.length a) : Int) (↑(List.length b) : Int)) = true then k0 (V.tells_r0 bad (0 : Int) false) (V.tells_r1 bad (0 : Int) false)
else
  if cLt (8 : Int) (↑(List.length a) : Int) = true then k0 (V.tells_r0 bad (0 : Int) false) (V.tells_r1 bad (0 : Int) false)
  else
    if List.length a < (9223372036854775808 : Nat) then
      if List.length b < (9223372036854775808 : Nat) then
        if V.anyG a = true then k0 (V.tells_r0 bad (0 : Int) false) (V.tells_r1 bad (0 : Int) false)
        else
          if V.anyG b = true then k0 (V.tells_r0 bad (0 : Int) false) (V.tells_r1 bad (0 : Int) false)
          else
            if (List.length a < (9223372036854775808 : Nat) ∧ List.length a = List.length b) ∧ V.anyG a = false ∧ V.anyG b = false then
              if V.ok8 (V.smD a b) = true ∧ ¬(4294967296 : Int) = (0 : Int) ∧ (-4611686018427387903 : Int) ≤ (4294967296 : Int) ∧ (4294967296 : Int) ≤ (4611686018427387903 : Int) then k0 (V.tells_r0 bad (V.gv (V.dn (V.smN a b) (V.smD a b) (4294967296 : Int))) (V.sm (V.dn (V.smN a b) (V.smD a b) (4294967296 : Int)))) (V.tells_r1 bad (V.gv (V.dn (V.smN a b) (V.smD a b) (4294967296 : Int))) (V.sm (V.dn (V.smN a b) (V.smD a b) (4294967296 : Int)))) else none
            else none
      else none
    else none
theorem rdot_eq {α : Type} (bad : Bool) (a : List Int) (b : List Int) (v0 : Value) (v1 : Value) (Q : SV → Hp → Option α) : callI E look_rdiv (exec E look_rdiv noLps 400) 71 ([SV.ptr (nat_lit 0) (nat_lit 0), SV.ros v0 (K.int IntKind.i64) a, SV.ros v1 (K.int IntKind.i64) b]) ([SObj.cells [SV.bool bad] (nat_lit 51)]) Q = Go.Proofs.Ytmcifgaaojgheaa.M.rdot bad a b (fun (x2 : Int) (x3 : Bool) => Q (SV.int IntKind.i64 x2) ([SObj.cells [SV.bool x3] (nat_lit 51)])) := by kernel_rfl
def rdot_sp : List AS := [.ptr 51 [.bool false], .ro (.int .i64), .ro (.int .i64)]
theorem sm_facts {a b : List Int} (hl : a.length ≤ 8) (ha : V.anyG a = false) (hb : V.anyG b = false) : V.ok8 (V.smD a b) = true ∧ wv (V.smN a b) (V.smD a b) = V.dotZ a b ∧ val (V.smD a b) ≤ 170141183460469231731687303715884105728 := by
  obtain ⟨h1, h2, h3⟩ := smF_val a b false (List.replicate 8 0) 0 ha hb (by decide) (by decide) (by omega)
  refine ⟨h1, ?_, ?_⟩
  · unfold V.smN V.smD
    rw [h2]
    have : wv false (List.replicate 8 (0 : Int)) = 0 := by decide
    omega
  · unfold V.smD
    omega
theorem rdot_v {α : Type} (bad : Bool) (a b : List Int) (k0 : Int → Bool → Option α) : M.rdot bad a b k0 = k0 (V.gv (V.mDot a b)) (V.gn (V.mDot a b) bad) := by
  unfold M.rdot V.mDot
  rw [cEq_eq, cLt_eq]
  have none1 := (tells_none bad 0).1
  have none2 := (tells_none bad 0).2
  by_cases h1 : a.length = b.length
  · have e1 : ((a.length : Int) == (b.length : Int)) = true := by simp [h1]
    have e2 : (a.length != b.length) = false := by simp [h1]
    rw [e1, e2]
    by_cases h2 : 8 < a.length
    · have : (8 : Int) < (a.length : Int) := by omega
      simp only [h2, this, decide_true, if_true, Bool.not_true, Bool.false_eq_true, if_false, Bool.false_or, Bool.true_or, none1, none2]
    · have : ¬ (8 : Int) < (a.length : Int) := by omega
      have l1 : a.length < 9223372036854775808 := by omega
      have l2 : b.length < 9223372036854775808 := by omega
      simp only [this, h2, l1, l2, if_true, decide_false, Bool.not_true, Bool.false_or, Bool.false_eq_true, if_false]
      cases ga : V.anyG a with
      | true => simp only [if_true, Bool.true_or, none1, none2]
      | false => cases gb : V.anyG b with
        | true => simp only [if_true, Bool.or_true, Bool.false_eq_true, if_false, none1, none2]
        | false =>
          obtain ⟨s1, s2, s3⟩ := sm_facts (by omega) ga gb
          simp only [Bool.false_eq_true, if_false, Bool.or_self]
          rw [if_pos ⟨⟨trivial, h1⟩, trivial, trivial⟩, if_pos ⟨s1, by decide, by decide, by decide⟩]
          unfold V.dn
          rw [s2, fdiv_pos _ _ (by decide)]
          obtain ⟨t1, t2⟩ := tells_o bad (o := V.tl (V.dotZ a b / 4294967296)) (fun n h => tl_G h)
          rw [t1, t2]
  · have e1 : ((a.length : Int) == (b.length : Int)) = false := by
      simp only [beq_eq_false_iff_ne, ne_eq]; omega
    have e2 : (a.length != b.length) = true := by simp [h1]
    rw [e1, e2]
    simp only [Bool.not_false, if_true, Bool.true_or, none1, none2]
noncomputable def rdot_h {α : Type} (ds : List D) (Q : SV → Hp → Option α) : Option α :=
  dB ds fun bad ds => dL (K.int IntKind.i64) ds fun a ds => dL (K.int IntKind.i64) ds fun b ds => dE ds (Q (.int .i64 (V.gv (V.mDot a b))) ([.cells [.bool (V.gn (V.mDot a b) bad)] 51]))
theorem rdot_h_ok {α : Type} : FnOk E.P 71 (fEnt (α := α) rdot_sp rdot_h) :=
  fEntR_ok E (look_rdiv_ok) (exec_sound E E_ok (look_rdiv_ok) (noLps_ok _) 400) fun ds Q r h => by
    unfold rdot_h at h
    obtain ⟨bad, ds, rfl, h1⟩ := dB_inv h
    obtain ⟨a, ds, rfl, h2⟩ := dL_inv h1
    obtain ⟨b, ds, rfl, h3⟩ := dL_inv h2
    obtain ⟨rfl, hE⟩ := dE_inv h3
    exact ⟨_, _, hE, fun vs => ⟨_, _, by kernel_rfl, (rdot_eq bad a b (vs.tail.headD undef) (vs.tail.tail.headD undef) _).trans (rdot_v bad a b _)⟩⟩
noncomputable def look_rdot {α : Type} : LookF α := addFn 71 (fEnt rdot_sp rdot_h) look_rdiv
theorem look_rdot_ok {α : Type} : LookOk E.P (look_rdot (α := α)) := addFn_ok rdot_h_ok (look_rdiv_ok)
noncomputable def _root_.Go.Proofs.Ytmcifgaaojgheaa.M.rnorm {α : Type} (bad : Bool) (l : List Int) (k0 : Int → Bool → Option α) : Option α :=
  if cLt (8 : Int) (↑(List.length l) : Int) = true then k0 (V.tells_r0 bad (0 : Int) false) (V.tells_r1 bad (0 : Int) false)
else
  if List.length l < (9223372036854775808 : Nat) then
    if V.anyG l = true then k0 (V.tells_r0 bad (0 : Int) false) (V.tells_r1 bad (0 : Int) false)
    else if (List.length l < (9223372036854775808 : Nat) ∧ List.length l = List.length l) ∧ V.anyG l = false ∧ V.anyG l = false then if V.smN l l = false ∧ V.ok8 (V.smD l l) = true ∧ V.vl (V.smD l l) < (1569275433846670190958947355801916604025588861116008628224 : Int) then k0 (V.tells_r0 bad (V.gv (V.mRt (V.vl (V.smD l l)))) (V.sm (V.mRt (V.vl (V.smD l l))))) (V.tells_r1 bad (V.gv (V.mRt (V.vl (V.smD l l)))) (V.sm (V.mRt (V.vl (V.smD l l))))) else none else none
  else none
theorem rnorm_eq {α : Type} (bad : Bool) (l : List Int) (v4 : Value) (Q : SV → Hp → Option α) : callI E look_rdot (exec E look_rdot noLps 400) 72 ([SV.ptr (nat_lit 0) (nat_lit 0), SV.ros v4 (K.int IntKind.i64) l]) ([SObj.cells [SV.bool bad] (nat_lit 51)]) Q = Go.Proofs.Ytmcifgaaojgheaa.M.rnorm bad l (fun (x5 : Int) (x6 : Bool) => Q (SV.int IntKind.i64 x5) ([SObj.cells [SV.bool x6] (nat_lit 51)])) := by kernel_rfl
def rnorm_sp : List AS := [.ptr 51 [.bool false], .ro (.int .i64)]
theorem rnorm_v {α : Type} (bad : Bool) (l : List Int) (k0 : Int → Bool → Option α) : M.rnorm bad l k0 = k0 (V.gv (V.mNorm l)) (V.gn (V.mNorm l) bad) := by
  unfold M.rnorm V.mNorm
  rw [cLt_eq]
  have none1 := (tells_none bad 0).1
  have none2 := (tells_none bad 0).2
  by_cases h2 : 8 < l.length
  · have : (8 : Int) < (l.length : Int) := by omega
    simp only [h2, this, decide_true, if_true, Bool.true_or, none1, none2]
  · have : ¬ (8 : Int) < (l.length : Int) := by omega
    have l1 : l.length < 9223372036854775808 := by omega
    simp only [this, h2, l1, if_true, decide_false, Bool.false_or, Bool.false_eq_true, if_false]
    cases ga : V.anyG l with
    | true => simp only [if_true, none1, none2]
    | false =>
      obtain ⟨s1, s2, s3⟩ := sm_facts (a := l) (b := l) (by omega) ga ga
      have hN : V.smN l l = false := smF_sq l _
      have hv : V.vl (V.smD l l) = V.dotZ l l := by
        rw [hN] at s2
        unfold wv at s2
        simpa [V.vl] using s2
      have s3' : V.vl (V.smD l l) ≤ 170141183460469231731687303715884105728 := s3
      simp only [Bool.false_eq_true, if_false, and_self, if_true]
      rw [if_pos ⟨hN, s1, by omega⟩, hv]
      obtain ⟨t1, t2⟩ := tells_o bad (o := V.mRt (V.dotZ l l)) (fun n h => mRt_G h)
      rw [t1, t2]
noncomputable def rnorm_h {α : Type} (ds : List D) (Q : SV → Hp → Option α) : Option α :=
  dB ds fun bad ds => dL (K.int IntKind.i64) ds fun l ds => dE ds (Q (.int .i64 (V.gv (V.mNorm l))) ([.cells [.bool (V.gn (V.mNorm l) bad)] 51]))
theorem rnorm_h_ok {α : Type} : FnOk E.P 72 (fEnt (α := α) rnorm_sp rnorm_h) :=
  fEntR_ok E (look_rdot_ok) (exec_sound E E_ok (look_rdot_ok) (noLps_ok _) 400) fun ds Q r h => by
    unfold rnorm_h at h
    obtain ⟨bad, ds, rfl, h1⟩ := dB_inv h
    obtain ⟨l, ds, rfl, h2⟩ := dL_inv h1
    obtain ⟨rfl, hE⟩ := dE_inv h2
    exact ⟨_, _, hE, fun vs => ⟨_, _, by kernel_rfl, (rnorm_eq bad l (vs.tail.headD undef) _).trans (rnorm_v bad l _)⟩⟩
noncomputable def look_rnorm {α : Type} : LookF α := addFn 72 (fEnt rnorm_sp rnorm_h) look_rdot
theorem look_rnorm_ok {α : Type} : LookOk E.P (look_rnorm (α := α)) := addFn_ok rnorm_h_ok (look_rdot_ok)
end Go.Proofs.Ytmcifgaaojgheaa.Sx
