/- shape: what stands in a list of points. -/
import Derived.Test.YtkjellhkamfciaaShB
namespace Go.Proofs.Ytkjellhkamfciaa.Sx
open Go
set_option maxRecDepth 20000
set_option linter.unusedVariables false
set_option linter.unusedSimpArgs false
/-- Short enough a list. (By choice, so that no checker reckons it.) -/
noncomputable def _root_.Go.Proofs.Ytkjellhkamfciaa.V.lenB (n : Nat) : Bool := hid (decide (n < 1099511627776))
theorem lenB_lt {n : Nat} (h : V.lenB n = true) : n < 1099511627776 := by unfold V.lenB at h; rw [hid_eq] at h; simpa using h
theorem lenB_of {n : Nat} (h : n < 1099511627776) : V.lenB n = true := by unfold V.lenB; rw [hid_eq]; simpa using h
theorem w_next {i : Nat} (h : i < 1099511627776) : IntKind.wrap .i64 ((i : Int) + 1) = ((i + 1 : Nat) : Int) := by
  rw [IntWalk.i64_in _ (by omega)]; rfl
theorem toNat_nat (i : Nat) : Int.toNat (i : Int) = i := rfl
theorem inB {i n : Nat} (h : i < n) : ((0 : Int) ≤ (i : Int) ∧ (i : Int) < (n : Int)) = True := eq_true (by omega)
theorem cLt_nat (i n : Nat) : cLt (i : Int) (n : Int) = decide (i < n) := by
  rw [cLt_eq]; congr 1; exact propext (by omega)
def pt (l : List P3) (i : Nat) : P3 := l.getD i (0, 0, 0)
theorem pt_eq (l : List P3) (i : Nat) (h : i < l.length) : pt l i = l[i] := by simp [pt, List.getD_eq_getElem?_getD, h]
theorem drop_pt (l : List P3) (i : Nat) (h : i < l.length) : l.drop i = pt l i :: l.drop (i + 1) := by rw [pt_eq l i h, List.drop_eq_getElem_cons h]
theorem pt_mem (l : List P3) (i : Nat) (h : i < l.length) : pt l i ∈ l := by rw [pt_eq l i h]; exact List.getElem_mem h
theorem eq3 (x y z : Int) (q : P3) : (cEq x q.1 && (cEq y q.2.1 && (cEq z q.2.2 && true))) = decide ((x, y, z) = q) := by
  obtain ⟨a, b, c⟩ := q
  rw [Bool.eq_iff_iff]
  simp [cEq_eq]
/-- Where a point stands in a list, counted from i; -1: nowhere. -/
def idxF (p : P3) : List P3 → Nat → Int
  | [], _ => -1
  | q :: l, i => if p = q then (i : Int) else idxF p l (i + 1)
noncomputable def _root_.Go.Proofs.Ytkjellhkamfciaa.V.idxP (l : List P3) (p : P3) : Int := hid (idxF p l 0)
def _root_.Go.Proofs.Ytkjellhkamfciaa.V.hasP (l : List P3) (p : P3) : Bool := decide (p ∈ l)
theorem idxF_cons (p q : P3) (l : List P3) (i : Nat) : idxF p (q :: l) i = if p = q then (i : Int) else idxF p l (i + 1) := rfl
theorem idxF_has (p : P3) : ∀ (l : List P3) (i : Nat), decide ((0 : Int) ≤ idxF p l i) = decide (p ∈ l)
  | [], i => by simp [idxF]
  | q :: l, i => by
    rw [idxF_cons]
    by_cases h : p = q
    · simp [h]
    · simp only [if_neg h, List.mem_cons, h, false_or]; exact idxF_has p l (i + 1)
noncomputable def _root_.Go.Proofs.Ytkjellhkamfciaa.M.index_l0_step {α : Type} (x9 : L3) (x10 : Int) (x12 : Int) (x13 : Int) (x14 : Int) (kn : Int → Option α) (k0 : Int → Option α) (k2 : Option α) (x11 : Int) : Option α :=
  if cLt x11 x10 = true then if (0 : Int) ≤ x11 ∧ x11 < (↑(List.length x9) : Int) then if (cEq x12 (Prod.fst (List.getD x9 (Int.toNat x11) ((0 : Int), (0 : Int), (0 : Int)))) && (cEq x13 (Prod.fst (Prod.snd (List.getD x9 (Int.toNat x11) ((0 : Int), (0 : Int), (0 : Int))))) && (cEq x14 (Prod.snd (Prod.snd (List.getD x9 (Int.toNat x11) ((0 : Int), (0 : Int), (0 : Int))))) && true))) = true then k0 x11 else kn (IntKind.wrap .i64 (x11 + (1 : Int))) else none else k2
noncomputable def _root_.Go.Proofs.Ytkjellhkamfciaa.M.index_l0 {α : Type} (x9 : L3) (x10 : Int) (x12 : Int) (x13 : Int) (x14 : Int) (k0 : Int → Option α) (k2 : Option α) : Nat → Int → Option α
  | 0, _ => none
  | n + 1, x11 => M.index_l0_step x9 x10 x12 x13 x14 (M.index_l0 x9 x10 x12 x13 x14 k0 k2 n) k0 k2 x11
theorem index_l0_step_eq {α : Type} (x8 : Value) (x9 : L3) (x10 : Int) (x11 : Int) (x12 : Int) (x13 : Int) (x14 : Int) (Q : Ex → St → Option α) : (loopStep E (exec E look_short noLps 400) 77 [false, true, false, true] 0 (codeAt E.P 77 [false, true, false, true])) (St.mk (some (SV.ros x8 kP x9) :: none :: none :: some (SV.ptr (nat_lit 0) (nat_lit 0)) :: nn 3 (some (SV.int .i64 x10) :: some (SV.int .i64 x11) :: nn 10 ([]))) [.cells [SV.int .i64 x12, SV.int .i64 x13, SV.int .i64 x14] (nat_lit 23)]) Q = M.index_l0_step x9 x10 x12 x13 x14 (fun (x16 : Int) => Q .normal (St.mk (some (SV.ros x8 kP x9) :: none :: none :: some (SV.ptr (nat_lit 0) (nat_lit 0)) :: nn 3 (some (SV.int .i64 x10) :: some (SV.int .i64 x16) :: nn 10 ([]))) [.cells [SV.int .i64 x12, SV.int .i64 x13, SV.int .i64 x14] (nat_lit 23)])) (fun (x15 : Int) => Q .ret (St.mk (nn 4 (some (SV.int .i64 x15) :: nn 14 ([]))) [])) (Q (.exit 0) (St.mk (nn 19 ([])) [])) x11 := by kernel_rfl
theorem index_l0_iter {α : Type} (x8 : Value) (x9 : L3) (x10 : Int) (x12 : Int) (x13 : Int) (x14 : Int) (Q : Ex → St → Option α) : ∀ (n : Nat) (x11 : Int), iter (loopStep E (exec E look_short noLps 400) 77 [false, true, false, true] 0 (codeAt E.P 77 [false, true, false, true])) n (St.mk (some (SV.ros x8 kP x9) :: none :: none :: some (SV.ptr (nat_lit 0) (nat_lit 0)) :: nn 3 (some (SV.int .i64 x10) :: some (SV.int .i64 x11) :: nn 10 ([]))) [.cells [SV.int .i64 x12, SV.int .i64 x13, SV.int .i64 x14] (nat_lit 23)]) Q = M.index_l0 x9 x10 x12 x13 x14 (fun (x15 : Int) => Q .ret (St.mk (nn 4 (some (SV.int .i64 x15) :: nn 14 ([]))) [])) (Q (.exit 0) (St.mk (nn 19 ([])) [])) n x11
  | 0, _ => rfl
  | n + 1, x11 => (index_l0_step_eq x8 x9 x10 x11 x12 x13 x14 (iterK (loopStep E (exec E look_short noLps 400) 77 [false, true, false, true] 0 (codeAt E.P 77 [false, true, false, true])) n Q)).trans (congrArg (fun kn => M.index_l0_step x9 x10 x12 x13 x14 kn (fun (x15 : Int) => Q .ret (St.mk (nn 4 (some (SV.int .i64 x15) :: nn 14 ([]))) [])) (Q (.exit 0) (St.mk (nn 19 ([])) [])) x11) (funext fun x11 => index_l0_iter x8 x9 x10 x12 x13 x14 Q n x11))
noncomputable def index_l0_go {α : Type} (ds : List D) (Q : Ex → St → Option α) : Option α :=
  dV ds fun x8 ds => dL kP ds fun x9 ds => dI ds fun x10 ds => dI ds fun x11 ds => dI ds fun x12 ds => dI ds fun x13 ds => dI ds fun x14 ds => dE ds (M.index_l0 x9 x10 x12 x13 x14 (fun (x15 : Int) => Q .ret (St.mk (nn 4 (some (SV.int .i64 x15) :: nn 14 ([]))) [])) (Q (.exit 0) (St.mk (nn 19 ([])) [])) (100 + x9.length) x11)
theorem index_l0_ok {α : Type} : LoopOk E.P 77 [false, true, false, true] 0 (lEnt (α := α) (St.mk (some (SV.ros undef kP []) :: none :: none :: some (SV.ptr (nat_lit 0) (nat_lit 0)) :: nn 3 (some (SV.int .i64 (0 : Int)) :: some (SV.int .i64 (0 : Int)) :: nn 10 ([]))) [.cells [SV.int .i64 (0 : Int), SV.int .i64 (0 : Int), SV.int .i64 (0 : Int)] (nat_lit 23)]) index_l0_go) :=
  lEnt_ok E (exec_sound E E_ok (look_short_ok) (noLps_ok _) 400) fun ds Q r h S hS => by
    unfold index_l0_go at h
    obtain ⟨x8, ds, rfl, h1⟩ := dV_inv h
    obtain ⟨x9, ds, rfl, h2⟩ := dL_inv h1
    obtain ⟨x10, ds, rfl, h3⟩ := dI_inv h2
    obtain ⟨x11, ds, rfl, h4⟩ := dI_inv h3
    obtain ⟨x12, ds, rfl, h5⟩ := dI_inv h4
    obtain ⟨x13, ds, rfl, h6⟩ := dI_inv h5
    obtain ⟨x14, ds, rfl, h7⟩ := dI_inv h6
    obtain ⟨rfl, hE⟩ := dE_inv h7
    have e : fillS (St.mk (some (SV.ros undef kP []) :: none :: none :: some (SV.ptr (nat_lit 0) (nat_lit 0)) :: nn 3 (some (SV.int .i64 (0 : Int)) :: some (SV.int .i64 (0 : Int)) :: nn 10 ([]))) [.cells [SV.int .i64 (0 : Int), SV.int .i64 (0 : Int), SV.int .i64 (0 : Int)] (nat_lit 23)]) [.v x8, .l kP x9, .i x10, .i x11, .i x12, .i x13, .i x14] = some (St.mk (some (SV.ros x8 kP x9) :: none :: none :: some (SV.ptr (nat_lit 0) (nat_lit 0)) :: nn 3 (some (SV.int .i64 x10) :: some (SV.int .i64 x11) :: nn 10 ([]))) [.cells [SV.int .i64 x12, SV.int .i64 x13, SV.int .i64 x14] (nat_lit 23)]) := by kernel_rfl
    rw [e] at hS
    cases hS
    exact ⟨_, (index_l0_iter x8 x9 x10 x12 x13 x14 Q _ x11).trans hE⟩
noncomputable def index_l0_lps {α : Type} : LookL α := addLp 77 [false, true, false, true] 0 (lEnt (St.mk (some (SV.ros undef kP []) :: none :: none :: some (SV.ptr (nat_lit 0) (nat_lit 0)) :: nn 3 (some (SV.int .i64 (0 : Int)) :: some (SV.int .i64 (0 : Int)) :: nn 10 ([]))) [.cells [SV.int .i64 (0 : Int), SV.int .i64 (0 : Int), SV.int .i64 (0 : Int)] (nat_lit 23)]) index_l0_go) noLps
theorem index_l0_lps_ok {α : Type} : LoopsOk E.P (index_l0_lps (α := α)) := addLp_ok index_l0_ok (noLps_ok _)

noncomputable def _root_.Go.Proofs.Ytkjellhkamfciaa.M.index {α : Type} (l : L3) (x : Int) (y : Int) (z : Int) (k0 : Int → Option α) : Option α :=
  M.index_l0 l (↑(List.length l) : Int) x y z (fun (x18 : Int) ↦ k0 x18) (k0 (-1 : Int)) ((100 : Nat) + List.length l) (0 : Int)
theorem index_eq {α : Type} (l : L3) (x : Int) (y : Int) (z : Int) (v17 : Value) (Q : SV → Hp → Option α) : callI E look_short (exec E look_short index_l0_lps 400) 77 ([SV.ros v17 kP l, SV.agg [SV.int .i64 x, SV.int .i64 y, SV.int .i64 z]]) ([]) Q = M.index l x y z (fun (x19 : Int) => Q (SV.int .i64 x19) ([])) := by kernel_rfl
def index_sp : List AS := [.ro (.st (.i .i64) [.i .i64, .i .i64]), .val (.agg [.int .i64 0, .int .i64 0, .int .i64 0])]
theorem index_l0_val {α : Type} (l : List P3) (hl : l.length < 1099511627776) (x y z : Int) (k0 : Int → Option α) : ∀ (fuel i : Nat), i ≤ l.length → l.length - i < fuel →
    M.index_l0 l (l.length : Int) x y z k0 (k0 (-1)) fuel (i : Int) = k0 (idxF (x, y, z) (l.drop i) i)
  | 0, i, h1, h2 => by omega
  | f + 1, i, h1, h2 => by
    unfold M.index_l0 M.index_l0_step
    rw [cLt_nat]
    by_cases hi : i < l.length
    · have ih := index_l0_val l hl x y z k0 f (i + 1) (by omega) (by omega)
      rw [w_next (by omega), ih]
      simp only [hi, decide_true, if_true, inB hi, toNat_nat, eq3, decide_eq_true_eq]
      rw [drop_pt l i hi, idxF_cons]
      show (if (x, y, z) = pt l i then _ else _) = _
      split <;> rfl
    · have : i = l.length := by omega
      subst this
      simp [idxF]
theorem index_v {α : Type} (l : List P3) (x y z : Int) (hg : V.lenB l.length = true) (k0 : Int → Option α) : M.index l x y z k0 = k0 (V.idxP l (x, y, z)) := by
  unfold M.index V.idxP
  rw [hid_eq]
  exact index_l0_val l (lenB_lt hg) x y z k0 _ 0 (by omega) (by omega)
noncomputable def index_h {α : Type} (ds : List D) (Q : SV → Hp → Option α) : Option α :=
  dL kP ds fun l ds => dI ds fun x ds => dI ds fun y ds => dI ds fun z ds => dE ds (if V.lenB l.length = true then Q (.int .i64 (V.idxP l (x, y, z))) ([]) else none)
theorem index_h_ok {α : Type} : FnOk E.P 77 (fEnt (α := α) index_sp index_h) :=
  fEntR_ok E (look_short_ok) (exec_sound E E_ok (look_short_ok) (index_l0_lps_ok) 400) fun ds Q r h => by
    unfold index_h at h
    obtain ⟨l, ds, rfl, h1⟩ := dL_inv h
    obtain ⟨x, ds, rfl, h2⟩ := dI_inv h1
    obtain ⟨y, ds, rfl, h3⟩ := dI_inv h2
    obtain ⟨z, ds, rfl, h4⟩ := dI_inv h3
    obtain ⟨rfl, hE⟩ := dE_inv h4
    split at hE
    · rename_i hg
      exact ⟨_, _, hE, fun vs => ⟨_, _, by kernel_rfl, (index_eq l x y z (vs.headD undef) _).trans (index_v l x y z hg _)⟩⟩
    · cases hE
noncomputable def look_index {α : Type} : LookF α := addFn 77 (fEnt index_sp index_h) look_short
theorem look_index_ok {α : Type} : LookOk E.P (look_index (α := α)) := addFn_ok index_h_ok (look_short_ok)
noncomputable def _root_.Go.Proofs.Ytkjellhkamfciaa.M.contains {α : Type} (l : L3) (x : Int) (y : Int) (z : Int) (k0 : Bool → Option α) : Option α :=
  if V.lenB (List.length l) = true then k0 (cLe (0 : Int) (V.idxP l (x, y, z))) else none
theorem contains_eq {α : Type} (l : L3) (x : Int) (y : Int) (z : Int) (v20 : Value) (Q : SV → Hp → Option α) : callI E look_index (exec E look_index noLps 400) 50 ([SV.ros v20 kP l, SV.agg [SV.int .i64 x, SV.int .i64 y, SV.int .i64 z]]) ([]) Q = M.contains l x y z (fun (x21 : Bool) => Q (SV.bool x21) ([])) := by kernel_rfl
def contains_sp : List AS := [.ro (.st (.i .i64) [.i .i64, .i .i64]), .val (.agg [.int .i64 0, .int .i64 0, .int .i64 0])]
theorem contains_v {α : Type} (l : List P3) (x y z : Int) (hg : V.lenB l.length = true) (k0 : Bool → Option α) : M.contains l x y z k0 = k0 (V.hasP l (x, y, z)) := by
  unfold M.contains V.hasP V.idxP
  rw [if_pos hg, hid_eq, cLe_eq, idxF_has]
noncomputable def contains_h {α : Type} (ds : List D) (Q : SV → Hp → Option α) : Option α :=
  dL kP ds fun l ds => dI ds fun x ds => dI ds fun y ds => dI ds fun z ds => dE ds (if V.lenB l.length = true then Q (.bool (V.hasP l (x, y, z))) ([]) else none)
theorem contains_h_ok {α : Type} : FnOk E.P 50 (fEnt (α := α) contains_sp contains_h) :=
  fEntR_ok E (look_index_ok) (exec_sound E E_ok (look_index_ok) (noLps_ok _) 400) fun ds Q r h => by
    unfold contains_h at h
    obtain ⟨l, ds, rfl, h1⟩ := dL_inv h
    obtain ⟨x, ds, rfl, h2⟩ := dI_inv h1
    obtain ⟨y, ds, rfl, h3⟩ := dI_inv h2
    obtain ⟨z, ds, rfl, h4⟩ := dI_inv h3
    obtain ⟨rfl, hE⟩ := dE_inv h4
    split at hE
    · rename_i hg
      exact ⟨_, _, hE, fun vs => ⟨_, _, by kernel_rfl, (contains_eq l x y z (vs.headD undef) _).trans (contains_v l x y z hg _)⟩⟩
    · cases hE
noncomputable def look_contains {α : Type} : LookF α := addFn 50 (fEnt contains_sp contains_h) look_index
theorem look_contains_ok {α : Type} : LookOk E.P (look_contains (α := α)) := addFn_ok contains_h_ok (look_index_ok)
noncomputable def _root_.Go.Proofs.Ytkjellhkamfciaa.M.clone {α : Type} (l : L3) (v22 : Value) (k0 : L3 → Option α) : Option α :=
  if (nilV v22 && List.isEmpty l) = true then k0 [] else if ((0 : Nat) + List.length l) * (24 : Nat) ≤ (140737488355328 : Nat) then k0 ([] ++ l) else none
theorem clone_eq {α : Type} (l : L3) (v22 : Value) (Q : SV → Hp → Option α) : callI E look_contains (exec E look_contains noLps 400) 29 ([SV.ros v22 kP l]) ([]) Q = M.clone l v22 (fun (x23 : L3) => Q (SV.sl (nat_lit 0)) ([.seq kP x23 (nat_lit 23)])) := by kernel_rfl
def clone_sp : List AS := [.ro (.st (.i .i64) [.i .i64, .i .i64])]
theorem clone_v {α : Type} (l : List P3) (v : Value) (hg : V.lenB l.length = true) (k0 : List P3 → Option α) : M.clone l v k0 = k0 l := by
  unfold M.clone
  have := lenB_lt hg
  rw [if_pos (by omega : ((0 : Nat) + l.length) * 24 ≤ 140737488355328)]
  split
  · rename_i h
    simp only [Bool.and_eq_true, List.isEmpty_iff] at h
    rw [h.2]
  · rfl
noncomputable def clone_h {α : Type} (ds : List D) (Q : SV → Hp → Option α) : Option α :=
  dL kP ds fun l ds => dE ds (if V.lenB l.length = true then Q (.sl 0) ([.seq (.st (.i .i64) [.i .i64, .i .i64]) l 23]) else none)
theorem clone_h_ok {α : Type} : FnOk E.P 29 (fEnt (α := α) clone_sp clone_h) :=
  fEntR_ok E (look_contains_ok) (exec_sound E E_ok (look_contains_ok) (noLps_ok _) 400) fun ds Q r h => by
    unfold clone_h at h
    obtain ⟨l, ds, rfl, h1⟩ := dL_inv h
    obtain ⟨rfl, hE⟩ := dE_inv h1
    split at hE
    · rename_i hg
      exact ⟨_, _, hE, fun vs => ⟨_, _, by kernel_rfl, (clone_eq l (vs.headD undef) _).trans (clone_v l _ hg _)⟩⟩
    · cases hE
noncomputable def look_clone {α : Type} : LookF α := addFn 29 (fEnt clone_sp clone_h) look_contains
theorem look_clone_ok {α : Type} : LookOk E.P (look_clone (α := α)) := addFn_ok clone_h_ok (look_contains_ok)
noncomputable def _root_.Go.Proofs.Ytkjellhkamfciaa.M.side_l0_step {α : Type} (x40 : L3) (x41 : Int) (x43 : Int) (x44 : Int) (x45 : Int) (x46 : Int) (x47 : Int) (x48 : Int) (kn : Int → Int → Int → Option α) (k1 : Int → Int → Option α) (x37 : Int) (x38 : Int) (x42 : Int) : Option α :=
  if cLt x42 x41 = true then
  if (0 : Int) ≤ x42 ∧ x42 < (↑(List.length x40) : Int) then
    kn (if V.pDot (x43, x44, x45) (V.pSub (List.getD x40 (Int.toNat x42) ((0 : Int), (0 : Int), (0 : Int))) (x46, x47, x48)) < x37 then V.pDot (x43, x44, x45) (V.pSub (List.getD x40 (Int.toNat x42) ((0 : Int), (0 : Int), (0 : Int))) (x46, x47, x48)) else x37)
      (if V.pDot (x43, x44, x45) (V.pSub (List.getD x40 (Int.toNat x42) ((0 : Int), (0 : Int), (0 : Int))) (x46, x47, x48)) > x38 then V.pDot (x43, x44, x45) (V.pSub (List.getD x40 (Int.toNat x42) ((0 : Int), (0 : Int), (0 : Int))) (x46, x47, x48)) else x38) (IntKind.wrap .i64 (x42 + (1 : Int)))
  else none
else k1 x37 x38
noncomputable def _root_.Go.Proofs.Ytkjellhkamfciaa.M.side_l0 {α : Type} (x40 : L3) (x41 : Int) (x43 : Int) (x44 : Int) (x45 : Int) (x46 : Int) (x47 : Int) (x48 : Int) (k1 : Int → Int → Option α) : Nat → Int → Int → Int → Option α
  | 0, _, _, _ => none
  | n + 1, x37, x38, x42 => M.side_l0_step x40 x41 x43 x44 x45 x46 x47 x48 (M.side_l0 x40 x41 x43 x44 x45 x46 x47 x48 k1 n) k1 x37 x38 x42
theorem side_l0_step_eq {α : Type} (x37 : Int) (x38 : Int) (x39 : Value) (x40 : L3) (x41 : Int) (x42 : Int) (x43 : Int) (x44 : Int) (x45 : Int) (x46 : Int) (x47 : Int) (x48 : Int) (Q : Ex → St → Option α) : (loopStep E (exec E look_clone noLps 400) 60 [false, true, false, true, true] 0 (codeAt E.P 60 [false, true, false, true, true])) (St.mk (nn 4 (some (SV.ptr (nat_lit 0) (nat_lit 0)) :: some (SV.ptr (nat_lit 1) (nat_lit 0)) :: none :: some (SV.int .i64 x37) :: some (SV.int .i64 x38) :: nn 3 (some (SV.ros x39 kP x40) :: some (SV.int .i64 x41) :: some (SV.int .i64 x42) :: nn 21 ([]))))
  [.cells [SV.int .i64 x43, SV.int .i64 x44, SV.int .i64 x45] (nat_lit 23), .cells [SV.int .i64 x46, SV.int .i64 x47, SV.int .i64 x48] (nat_lit 23)]) Q = M.side_l0_step x40 x41 x43 x44 x45 x46 x47 x48 (fun (x51 : Int) (x52 : Int) (x53 : Int) => Q .normal (St.mk (nn 4 (some (SV.ptr (nat_lit 0) (nat_lit 0)) :: some (SV.ptr (nat_lit 1) (nat_lit 0)) :: none :: some (SV.int .i64 x51) :: some (SV.int .i64 x52) :: nn 3 (some (SV.ros x39 kP x40) :: some (SV.int .i64 x41) :: some (SV.int .i64 x53) :: nn 21 ([]))))
  [.cells [SV.int .i64 x43, SV.int .i64 x44, SV.int .i64 x45] (nat_lit 23), .cells [SV.int .i64 x46, SV.int .i64 x47, SV.int .i64 x48] (nat_lit 23)])) (fun (x49 : Int) (x50 : Int) => Q (.exit 0) (St.mk (nn 7 (some (SV.int .i64 x49) :: some (SV.int .i64 x50) :: nn 27 ([]))) [])) x37 x38 x42 := by kernel_rfl
theorem side_l0_iter {α : Type} (x39 : Value) (x40 : L3) (x41 : Int) (x43 : Int) (x44 : Int) (x45 : Int) (x46 : Int) (x47 : Int) (x48 : Int) (Q : Ex → St → Option α) : ∀ (n : Nat) (x37 : Int) (x38 : Int) (x42 : Int), iter (loopStep E (exec E look_clone noLps 400) 60 [false, true, false, true, true] 0 (codeAt E.P 60 [false, true, false, true, true])) n (St.mk (nn 4 (some (SV.ptr (nat_lit 0) (nat_lit 0)) :: some (SV.ptr (nat_lit 1) (nat_lit 0)) :: none :: some (SV.int .i64 x37) :: some (SV.int .i64 x38) :: nn 3 (some (SV.ros x39 kP x40) :: some (SV.int .i64 x41) :: some (SV.int .i64 x42) :: nn 21 ([]))))
  [.cells [SV.int .i64 x43, SV.int .i64 x44, SV.int .i64 x45] (nat_lit 23), .cells [SV.int .i64 x46, SV.int .i64 x47, SV.int .i64 x48] (nat_lit 23)]) Q = M.side_l0 x40 x41 x43 x44 x45 x46 x47 x48 (fun (x49 : Int) (x50 : Int) => Q (.exit 0) (St.mk (nn 7 (some (SV.int .i64 x49) :: some (SV.int .i64 x50) :: nn 27 ([]))) [])) n x37 x38 x42
  | 0, _, _, _ => rfl
  | n + 1, x37, x38, x42 => (side_l0_step_eq x37 x38 x39 x40 x41 x42 x43 x44 x45 x46 x47 x48 (iterK (loopStep E (exec E look_clone noLps 400) 60 [false, true, false, true, true] 0 (codeAt E.P 60 [false, true, false, true, true])) n Q)).trans (congrArg (fun kn => M.side_l0_step x40 x41 x43 x44 x45 x46 x47 x48 kn (fun (x49 : Int) (x50 : Int) => Q (.exit 0) (St.mk (nn 7 (some (SV.int .i64 x49) :: some (SV.int .i64 x50) :: nn 27 ([]))) [])) x37 x38 x42) (funext fun x37 => funext fun x38 => funext fun x42 => side_l0_iter x39 x40 x41 x43 x44 x45 x46 x47 x48 Q n x37 x38 x42))
noncomputable def side_l0_go {α : Type} (ds : List D) (Q : Ex → St → Option α) : Option α :=
  dI ds fun x37 ds => dI ds fun x38 ds => dV ds fun x39 ds => dL kP ds fun x40 ds => dI ds fun x41 ds => dI ds fun x42 ds => dI ds fun x43 ds => dI ds fun x44 ds => dI ds fun x45 ds => dI ds fun x46 ds => dI ds fun x47 ds => dI ds fun x48 ds => dE ds (M.side_l0 x40 x41 x43 x44 x45 x46 x47 x48 (fun (x49 : Int) (x50 : Int) => Q (.exit 0) (St.mk (nn 7 (some (SV.int .i64 x49) :: some (SV.int .i64 x50) :: nn 27 ([]))) [])) (100 + x40.length) x37 x38 x42)
theorem side_l0_ok {α : Type} : LoopOk E.P 60 [false, true, false, true, true] 0 (lEnt (α := α) (St.mk (nn 4 (some (SV.ptr (nat_lit 0) (nat_lit 0)) :: some (SV.ptr (nat_lit 1) (nat_lit 0)) :: none :: some (SV.int .i64 (0 : Int)) :: some (SV.int .i64 (0 : Int)) :: nn 3 (some (SV.ros undef kP []) :: some (SV.int .i64 (0 : Int)) :: some (SV.int .i64 (0 : Int)) :: nn 21 ([]))))
  [.cells [SV.int .i64 (0 : Int), SV.int .i64 (0 : Int), SV.int .i64 (0 : Int)] (nat_lit 23), .cells [SV.int .i64 (0 : Int), SV.int .i64 (0 : Int), SV.int .i64 (0 : Int)] (nat_lit 23)]) side_l0_go) :=
  lEnt_ok E (exec_sound E E_ok (look_clone_ok) (noLps_ok _) 400) fun ds Q r h S hS => by
    unfold side_l0_go at h
    obtain ⟨x37, ds, rfl, h1⟩ := dI_inv h
    obtain ⟨x38, ds, rfl, h2⟩ := dI_inv h1
    obtain ⟨x39, ds, rfl, h3⟩ := dV_inv h2
    obtain ⟨x40, ds, rfl, h4⟩ := dL_inv h3
    obtain ⟨x41, ds, rfl, h5⟩ := dI_inv h4
    obtain ⟨x42, ds, rfl, h6⟩ := dI_inv h5
    obtain ⟨x43, ds, rfl, h7⟩ := dI_inv h6
    obtain ⟨x44, ds, rfl, h8⟩ := dI_inv h7
    obtain ⟨x45, ds, rfl, h9⟩ := dI_inv h8
    obtain ⟨x46, ds, rfl, h10⟩ := dI_inv h9
    obtain ⟨x47, ds, rfl, h11⟩ := dI_inv h10
    obtain ⟨x48, ds, rfl, h12⟩ := dI_inv h11
    obtain ⟨rfl, hE⟩ := dE_inv h12
    have e : fillS (St.mk (nn 4 (some (SV.ptr (nat_lit 0) (nat_lit 0)) :: some (SV.ptr (nat_lit 1) (nat_lit 0)) :: none :: some (SV.int .i64 (0 : Int)) :: some (SV.int .i64 (0 : Int)) :: nn 3 (some (SV.ros undef kP []) :: some (SV.int .i64 (0 : Int)) :: some (SV.int .i64 (0 : Int)) :: nn 21 ([]))))
  [.cells [SV.int .i64 (0 : Int), SV.int .i64 (0 : Int), SV.int .i64 (0 : Int)] (nat_lit 23), .cells [SV.int .i64 (0 : Int), SV.int .i64 (0 : Int), SV.int .i64 (0 : Int)] (nat_lit 23)]) [.i x37, .i x38, .v x39, .l kP x40, .i x41, .i x42, .i x43, .i x44, .i x45, .i x46, .i x47, .i x48] = some (St.mk (nn 4 (some (SV.ptr (nat_lit 0) (nat_lit 0)) :: some (SV.ptr (nat_lit 1) (nat_lit 0)) :: none :: some (SV.int .i64 x37) :: some (SV.int .i64 x38) :: nn 3 (some (SV.ros x39 kP x40) :: some (SV.int .i64 x41) :: some (SV.int .i64 x42) :: nn 21 ([]))))
  [.cells [SV.int .i64 x43, SV.int .i64 x44, SV.int .i64 x45] (nat_lit 23), .cells [SV.int .i64 x46, SV.int .i64 x47, SV.int .i64 x48] (nat_lit 23)]) := by kernel_rfl
    rw [e] at hS
    cases hS
    exact ⟨_, (side_l0_iter x39 x40 x41 x43 x44 x45 x46 x47 x48 Q _ x37 x38 x42).trans hE⟩
noncomputable def side_l0_lps {α : Type} : LookL α := addLp 60 [false, true, false, true, true] 0 (lEnt (St.mk (nn 4 (some (SV.ptr (nat_lit 0) (nat_lit 0)) :: some (SV.ptr (nat_lit 1) (nat_lit 0)) :: none :: some (SV.int .i64 (0 : Int)) :: some (SV.int .i64 (0 : Int)) :: nn 3 (some (SV.ros undef kP []) :: some (SV.int .i64 (0 : Int)) :: some (SV.int .i64 (0 : Int)) :: nn 21 ([]))))
  [.cells [SV.int .i64 (0 : Int), SV.int .i64 (0 : Int), SV.int .i64 (0 : Int)] (nat_lit 23), .cells [SV.int .i64 (0 : Int), SV.int .i64 (0 : Int), SV.int .i64 (0 : Int)] (nat_lit 23)]) side_l0_go) noLps
theorem side_l0_lps_ok {α : Type} : LoopsOk E.P (side_l0_lps (α := α)) := addLp_ok side_l0_ok (noLps_ok _)

noncomputable def _root_.Go.Proofs.Ytkjellhkamfciaa.M.side {α : Type} (l : L3) (nx : Int) (ny : Int) (nz : Int) (ax : Int) (ay : Int) (az : Int) (k0 : Int → Option α) : Option α :=
  M.side_l0 l (↑(List.length l) : Int) nx ny nz ax ay az (fun (x55 x56 : Int) ↦ if cLe x56 (0 : Int) = true then k0 (1 : Int) else if cLe (0 : Int) x55 = true then k0 (-1 : Int) else k0 (0 : Int)) ((100 : Nat) + List.length l) (0 : Int) (0 : Int) (0 : Int)
theorem side_eq {α : Type} (l : L3) (nx : Int) (ny : Int) (nz : Int) (ax : Int) (ay : Int) (az : Int) (v54 : Value) (Q : SV → Hp → Option α) : callI E look_clone (exec E look_clone side_l0_lps 400) 60 ([SV.ros v54 kP l, SV.agg [SV.int .i64 nx, SV.int .i64 ny, SV.int .i64 nz], SV.agg [SV.int .i64 ax, SV.int .i64 ay, SV.int .i64 az]]) ([]) Q = M.side l nx ny nz ax ay az (fun (x57 : Int) => Q (SV.int .i64 x57) ([])) := by kernel_rfl
def side_sp : List AS := [.ro (.st (.i .i64) [.i .i64, .i .i64]), .val (.agg [.int .i64 0, .int .i64 0, .int .i64 0]), .val (.agg [.int .i64 0, .int .i64 0, .int .i64 0])]
/-- How far a point is ahead of a plane. -/
def ahead (n a p : P3) : Int := V.pDot n (V.pSub p a)
def _root_.Go.Proofs.Ytkjellhkamfciaa.V.sideP (l : List P3) (n a : P3) : Int := if ∀ p ∈ l, ahead n a p ≤ 0 then 1 else if ∀ p ∈ l, 0 ≤ ahead n a p then -1 else 0
def minF (n a : P3) (l : List P3) (m : Int) : Int := l.foldl (fun m p => if ahead n a p < m then ahead n a p else m) m
def maxF (n a : P3) (l : List P3) (m : Int) : Int := l.foldl (fun m p => if ahead n a p > m then ahead n a p else m) m
theorem minF_ge (n a : P3) : ∀ (l : List P3) (m : Int), 0 ≤ minF n a l m ↔ 0 ≤ m ∧ ∀ p ∈ l, 0 ≤ ahead n a p
  | [], m => by simp [minF]
  | p :: l, m => by
    have := minF_ge n a l (if ahead n a p < m then ahead n a p else m)
    unfold minF at this ⊢
    rw [List.foldl_cons, this]
    simp only [List.mem_cons, forall_eq_or_imp]
    split <;> constructor <;> rintro ⟨h1, h2⟩ <;> first | exact ⟨by omega, h1, h2⟩ | exact ⟨by omega, by omega, h2⟩ | exact ⟨h2.1, h2.2⟩ | exact ⟨h1, h2.2⟩
theorem maxF_le (n a : P3) : ∀ (l : List P3) (m : Int), maxF n a l m ≤ 0 ↔ m ≤ 0 ∧ ∀ p ∈ l, ahead n a p ≤ 0
  | [], m => by simp [maxF]
  | p :: l, m => by
    have := maxF_le n a l (if ahead n a p > m then ahead n a p else m)
    unfold maxF at this ⊢
    rw [List.foldl_cons, this]
    simp only [List.mem_cons, forall_eq_or_imp]
    split <;> constructor <;> rintro ⟨h1, h2⟩ <;> first | exact ⟨by omega, h1, h2⟩ | exact ⟨by omega, by omega, h2⟩ | exact ⟨h2.1, h2.2⟩ | exact ⟨h1, h2.2⟩
theorem side_l0_val {α : Type} (l : List P3) (hl : l.length < 1099511627776) (n a : P3) (k1 : Int → Int → Option α) : ∀ (fuel i : Nat) (lo hi : Int), i ≤ l.length → l.length - i < fuel →
    M.side_l0 l (l.length : Int) n.1 n.2.1 n.2.2 a.1 a.2.1 a.2.2 k1 fuel lo hi (i : Int) = k1 (minF n a (l.drop i) lo) (maxF n a (l.drop i) hi)
  | 0, i, lo, hi, h1, h2 => by omega
  | f + 1, i, lo, hi, h1, h2 => by
    unfold M.side_l0 M.side_l0_step
    rw [cLt_nat]
    by_cases hx : i < l.length
    · rw [w_next (by omega), side_l0_val l hl n a k1 f (i + 1) _ _ (by omega) (by omega)]
      simp only [hx, decide_true, if_true, inB hx, toNat_nat]
      rw [drop_pt l i hx]
      rfl
    · have : i = l.length := by omega
      subst this
      simp [minF, maxF]
theorem side_v {α : Type} (l : List P3) (nx ny nz ax ay az : Int) (hg : V.lenB l.length = true) (k0 : Int → Option α) : M.side l nx ny nz ax ay az k0 = k0 (V.sideP l (nx, ny, nz) (ax, ay, az)) := by
  unfold M.side V.sideP
  have := side_l0_val l (lenB_lt hg) (nx, ny, nz) (ax, ay, az) (fun (x53 x54 : Int) => if cLe x54 (0 : Int) = true then k0 (1 : Int) else if cLe (0 : Int) x53 = true then k0 (-1 : Int) else k0 (0 : Int)) (100 + l.length) 0 0 0 (by omega) (by omega)
  simp only at this
  refine this.trans ?_
  simp only [cLe_eq, decide_eq_true_eq, minF_ge, maxF_le, Int.le_refl, true_and, List.drop_zero]
  split
  · rfl
  · split <;> rfl
noncomputable def side_h {α : Type} (ds : List D) (Q : SV → Hp → Option α) : Option α :=
  dL kP ds fun l ds => dI ds fun nx ds => dI ds fun ny ds => dI ds fun nz ds => dI ds fun ax ds => dI ds fun ay ds => dI ds fun az ds => dE ds (if V.lenB l.length = true then Q (.int .i64 (V.sideP l (nx, ny, nz) (ax, ay, az))) ([]) else none)
theorem side_h_ok {α : Type} : FnOk E.P 60 (fEnt (α := α) side_sp side_h) :=
  fEntR_ok E (look_clone_ok) (exec_sound E E_ok (look_clone_ok) (side_l0_lps_ok) 400) fun ds Q r h => by
    unfold side_h at h
    obtain ⟨l, ds, rfl, h1⟩ := dL_inv h
    obtain ⟨nx, ds, rfl, h2⟩ := dI_inv h1
    obtain ⟨ny, ds, rfl, h3⟩ := dI_inv h2
    obtain ⟨nz, ds, rfl, h4⟩ := dI_inv h3
    obtain ⟨ax, ds, rfl, h5⟩ := dI_inv h4
    obtain ⟨ay, ds, rfl, h6⟩ := dI_inv h5
    obtain ⟨az, ds, rfl, h7⟩ := dI_inv h6
    obtain ⟨rfl, hE⟩ := dE_inv h7
    split at hE
    · rename_i hg
      exact ⟨_, _, hE, fun vs => ⟨_, _, by kernel_rfl, (side_eq l nx ny nz ax ay az (vs.headD undef) _).trans (side_v l nx ny nz ax ay az hg _)⟩⟩
    · cases hE
noncomputable def look_side {α : Type} : LookF α := addFn 60 (fEnt side_sp side_h) look_clone
theorem look_side_ok {α : Type} : LookOk E.P (look_side (α := α)) := addFn_ok side_h_ok (look_clone_ok)
/-- All unlike, and not too far. -/
def _root_.Go.Proofs.Ytkjellhkamfciaa.V.apartP (l : List P3) : Bool := decide ((∀ p ∈ l, bigP p 65536 = false) ∧ l.Nodup)
end Go.Proofs.Ytkjellhkamfciaa.Sx
