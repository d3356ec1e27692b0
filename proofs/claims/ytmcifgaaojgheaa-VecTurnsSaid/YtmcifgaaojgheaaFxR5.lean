/- The document's own numbers: RootOf, Sum. -/
import Derived.Test.YtmcifgaaojgheaaFxR4
namespace Go.Proofs.Ytmcifgaaojgheaa.Sx
open Go
set_option maxRecDepth 20000
set_option linter.unusedVariables false
set_option linter.unusedSimpArgs false
theorem anyG_cons' (x : Int) (l : List Int) : V.anyG (x :: l) = (isG x || V.anyG l) := by simp [V.anyG]
noncomputable def _root_.Go.Proofs.Ytmcifgaaojgheaa.M.rootOf_l0_step {α : Type} (x6 : Bool) (x7 : List Int) (kn : Int → Int → Option α) (k1 : Int → Option α) (x4 : Int) (x5 : Int) : Option α :=
  if cLt (0 : Int) x5 = true then
  if (-9223372036854775808 : Int) ≤ IntKind.wrap IntKind.i64 (x4 + x5) ∧ IntKind.wrap IntKind.i64 (x4 + x5) < (9223372036854775808 : Int) then
    if V.ok8 (V.ofN (IntKind.wrap IntKind.i64 (x4 + x5))) = true ∧ V.ok8 (V.ofN (IntKind.wrap IntKind.i64 (x4 + x5))) = true then
      if V.two x7 (V.tmD (V.ofN (IntKind.wrap IntKind.i64 (x4 + x5))) (V.ofN (IntKind.wrap IntKind.i64 (x4 + x5)))) = true then
        if (!V.ls x6 x7 (V.tmN (decide (IntKind.wrap IntKind.i64 (x4 + x5) < (0 : Int))) (decide (IntKind.wrap IntKind.i64 (x4 + x5) < (0 : Int)))) (V.tmD (V.ofN (IntKind.wrap IntKind.i64 (x4 + x5))) (V.ofN (IntKind.wrap IntKind.i64 (x4 + x5))))) = true then kn (IntKind.wrap IntKind.i64 (x4 + x5)) (IntKind.wrap IntKind.i64 (Int.tdiv x5 (2 : Int))) else kn x4 (IntKind.wrap IntKind.i64 (Int.tdiv x5 (2 : Int)))
      else none
    else none
  else none
else k1 x4
noncomputable def _root_.Go.Proofs.Ytmcifgaaojgheaa.M.rootOf_l0 {α : Type} (x6 : Bool) (x7 : List Int) (k1 : Int → Option α) : Nat → Int → Int → Option α
  | 0, _, _ => none
  | n + 1, x4, x5 => Go.Proofs.Ytmcifgaaojgheaa.M.rootOf_l0_step x6 x7 (Go.Proofs.Ytmcifgaaojgheaa.M.rootOf_l0 x6 x7 k1 n) k1 x4 x5
theorem rootOf_l0_step_eq {α : Type} (x4 : Int) (x5 : Int) (x6 : Bool) (x7 : List Int) (Q : Ex → St → Option α) : (loopStep E (exec E look_down noLps 400) 87 [false, true, false, true, true, true, true, true] 0 (codeAt E.P 87 [false, true, false, true, true, true, true, true])) (St.mk [none, some (SV.ptr (nat_lit 0) (nat_lit 0)), none, none, none, none, some (SV.int IntKind.i64 x4), some (SV.int IntKind.i64 x5), none, none, none, none, none, none, none, none, none, none, none, none, none, none, none, none, none, none, none, none, none, none, none, none, none, none, none, none, none] [SObj.cells [SV.bool x6, SV.arr (K.int IntKind.i64) x7 (nat_lit 8)] (nat_lit 101)]) Q = Go.Proofs.Ytmcifgaaojgheaa.M.rootOf_l0_step x6 x7 (fun (x9 : Int) (x10 : Int) => Q .normal (St.mk [none, some (SV.ptr (nat_lit 0) (nat_lit 0)), none, none, none, none, some (SV.int IntKind.i64 x9), some (SV.int IntKind.i64 x10), none, none, none, none, none, none, none, none, none, none, none, none, none, none, none, none, none, none, none, none, none, none, none, none, none, none, none, none, none] [SObj.cells [SV.bool x6, SV.arr (K.int IntKind.i64) x7 (nat_lit 8)] (nat_lit 101)])) (fun (x8 : Int) => Q (.exit 0) (St.mk [none, none, none, none, none, none, some (SV.int IntKind.i64 x8), none, none, none, none, none, none, none, none, none, none, none, none, none, none, none, none, none, none, none, none, none, none, none, none, none, none, none, none, none, none] [])) x4 x5 := by kernel_rfl
theorem rootOf_l0_iter {α : Type} (x6 : Bool) (x7 : List Int) (Q : Ex → St → Option α) : ∀ (n : Nat) (x4 : Int) (x5 : Int), iter (loopStep E (exec E look_down noLps 400) 87 [false, true, false, true, true, true, true, true] 0 (codeAt E.P 87 [false, true, false, true, true, true, true, true])) n (St.mk [none, some (SV.ptr (nat_lit 0) (nat_lit 0)), none, none, none, none, some (SV.int IntKind.i64 x4), some (SV.int IntKind.i64 x5), none, none, none, none, none, none, none, none, none, none, none, none, none, none, none, none, none, none, none, none, none, none, none, none, none, none, none, none, none] [SObj.cells [SV.bool x6, SV.arr (K.int IntKind.i64) x7 (nat_lit 8)] (nat_lit 101)]) Q = Go.Proofs.Ytmcifgaaojgheaa.M.rootOf_l0 x6 x7 (fun (x8 : Int) => Q (.exit 0) (St.mk [none, none, none, none, none, none, some (SV.int IntKind.i64 x8), none, none, none, none, none, none, none, none, none, none, none, none, none, none, none, none, none, none, none, none, none, none, none, none, none, none, none, none, none, none] [])) n x4 x5
  | 0, _, _ => rfl
  | n + 1, x4, x5 => (rootOf_l0_step_eq x4 x5 x6 x7 (iterK (loopStep E (exec E look_down noLps 400) 87 [false, true, false, true, true, true, true, true] 0 (codeAt E.P 87 [false, true, false, true, true, true, true, true])) n Q)).trans (congrArg (fun kn => Go.Proofs.Ytmcifgaaojgheaa.M.rootOf_l0_step x6 x7 kn (fun (x8 : Int) => Q (.exit 0) (St.mk [none, none, none, none, none, none, some (SV.int IntKind.i64 x8), none, none, none, none, none, none, none, none, none, none, none, none, none, none, none, none, none, none, none, none, none, none, none, none, none, none, none, none, none, none] [])) x4 x5) (funext fun x4 => funext fun x5 => rootOf_l0_iter x6 x7 Q n x4 x5))
noncomputable def rootOf_l0_go {α : Type} (ds : List D) (Q : Ex → St → Option α) : Option α :=
  dI ds fun x4 ds => dI ds fun x5 ds => dB ds fun x6 ds => dL (K.int IntKind.i64) ds fun x7 ds => dE ds (Go.Proofs.Ytmcifgaaojgheaa.M.rootOf_l0 x6 x7 (fun (x8 : Int) => Q (.exit 0) (St.mk [none, none, none, none, none, none, some (SV.int IntKind.i64 x8), none, none, none, none, none, none, none, none, none, none, none, none, none, none, none, none, none, none, none, none, none, none, none, none, none, none, none, none, none, none] [])) (100 + x7.length) x4 x5)
theorem rootOf_l0_ok {α : Type} : LoopOk E.P 87 [false, true, false, true, true, true, true, true] 0 (lEnt (α := α) (St.mk [none, some (SV.ptr (nat_lit 0) (nat_lit 0)), none, none, none, none, some (SV.int IntKind.i64 (0 : Int)), some (SV.int IntKind.i64 (0 : Int)), none, none, none, none, none, none, none, none, none, none, none, none, none, none, none, none, none, none, none, none, none, none, none, none, none, none, none, none, none] [SObj.cells [SV.bool false, SV.arr (K.int IntKind.i64) [] (nat_lit 8)] (nat_lit 101)]) rootOf_l0_go) :=
  lEnt_ok E (exec_sound E E_ok (look_down_ok) (noLps_ok _) 400) fun ds Q r h S hS => by
    unfold rootOf_l0_go at h
    obtain ⟨x4, ds, rfl, h1⟩ := dI_inv h
    obtain ⟨x5, ds, rfl, h2⟩ := dI_inv h1
    obtain ⟨x6, ds, rfl, h3⟩ := dB_inv h2
    obtain ⟨x7, ds, rfl, h4⟩ := dL_inv h3
    obtain ⟨rfl, hE⟩ := dE_inv h4
    have e : fillS (St.mk [none, some (SV.ptr (nat_lit 0) (nat_lit 0)), none, none, none, none, some (SV.int IntKind.i64 (0 : Int)), some (SV.int IntKind.i64 (0 : Int)), none, none, none, none, none, none, none, none, none, none, none, none, none, none, none, none, none, none, none, none, none, none, none, none, none, none, none, none, none] [SObj.cells [SV.bool false, SV.arr (K.int IntKind.i64) [] (nat_lit 8)] (nat_lit 101)]) [.i x4, .i x5, .b x6, .l (K.int IntKind.i64) x7] = some (St.mk [none, some (SV.ptr (nat_lit 0) (nat_lit 0)), none, none, none, none, some (SV.int IntKind.i64 x4), some (SV.int IntKind.i64 x5), none, none, none, none, none, none, none, none, none, none, none, none, none, none, none, none, none, none, none, none, none, none, none, none, none, none, none, none, none] [SObj.cells [SV.bool x6, SV.arr (K.int IntKind.i64) x7 (nat_lit 8)] (nat_lit 101)]) := by kernel_rfl
    rw [e] at hS
    cases hS
    exact ⟨_, (rootOf_l0_iter x6 x7 Q _ x4 x5).trans hE⟩
noncomputable def rootOf_l0_lps {α : Type} : LookL α := addLp 87 [false, true, false, true, true, true, true, true] 0 (lEnt (St.mk [none, some (SV.ptr (nat_lit 0) (nat_lit 0)), none, none, none, none, some (SV.int IntKind.i64 (0 : Int)), some (SV.int IntKind.i64 (0 : Int)), none, none, none, none, none, none, none, none, none, none, none, none, none, none, none, none, none, none, none, none, none, none, none, none, none, none, none, none, none] [SObj.cells [SV.bool false, SV.arr (K.int IntKind.i64) [] (nat_lit 8)] (nat_lit 101)]) rootOf_l0_go) noLps
theorem rootOf_l0_lps_ok {α : Type} : LoopsOk E.P (rootOf_l0_lps (α := α)) := addLp_ok rootOf_l0_ok (noLps_ok _)

noncomputable def _root_.Go.Proofs.Ytmcifgaaojgheaa.M.rootOf {α : Type} (neg : Bool) (d : List Int) (k0 : Int → Bool → Option α) : Option α :=
  if V.ok8 (V.ofN (4611686018427387904 : Int)) = true ∧ V.ok8 (V.ofN (4611686018427387904 : Int)) = true then
  if V.two d (V.tmD (V.ofN (4611686018427387904 : Int)) (V.ofN (4611686018427387904 : Int))) = true then if (!V.ls neg d (V.tmN (decide ((4611686018427387904 : Int) < (0 : Int))) (decide ((4611686018427387904 : Int) < (0 : Int)))) (V.tmD (V.ofN (4611686018427387904 : Int)) (V.ofN (4611686018427387904 : Int)))) = true then k0 (0 : Int) false else M.rootOf_l0 neg d (fun (x11 : Int) ↦ k0 x11 true) ((100 : Nat) + List.length d) (0 : Int) (2305843009213693952 : Int) else none
else none
theorem rootOf_eq {α : Type} (neg : Bool) (d : List Int) (Q : SV → Hp → Option α) : callI E look_down (exec E look_down rootOf_l0_lps 400) 87 ([SV.agg [SV.bool neg, SV.arr (K.int IntKind.i64) d (nat_lit 8)]]) ([]) Q = Go.Proofs.Ytmcifgaaojgheaa.M.rootOf neg d (fun (x12 : Int) (x13 : Bool) => Q (SV.tup [SV.int IntKind.i64 x12, SV.bool x13]) ([])) := by kernel_rfl
def rootOf_sp : List AS := [.val (.agg [.bool false, .arr (.int .i64) [] 8])]
noncomputable def rootOf_go {α : Type} (ds : List D) (Q : SV → Hp → Option α) : Option α :=
  dB ds fun neg ds => dL (K.int IntKind.i64) ds fun d ds => dE ds (Go.Proofs.Ytmcifgaaojgheaa.M.rootOf neg d (fun (x12 : Int) (x13 : Bool) => Q (SV.tup [SV.int IntKind.i64 x12, SV.bool x13]) ([])))
theorem rootOf_ok {α : Type} : FnOk E.P 87 (fEnt (α := α) rootOf_sp rootOf_go) :=
  fEnt_ok E (look_down_ok) (exec_sound E E_ok (look_down_ok) (rootOf_l0_lps_ok) 400) fun ds Q r h => by
    unfold rootOf_go at h
    obtain ⟨neg, ds, rfl, h1⟩ := dB_inv h
    obtain ⟨d, ds, rfl, h2⟩ := dL_inv h1
    obtain ⟨rfl, hE⟩ := dE_inv h2
    exact ⟨[SV.agg [SV.bool neg, SV.arr (K.int IntKind.i64) d (nat_lit 8)]], [], fun vs => by kernel_rfl, (rootOf_eq neg d Q).trans hE⟩
theorem ofN_prod {x y : Int} (hx : isG x = false) (hy : isG y = false) : val (V.ofN x) * val (V.ofN y) ≤ 21267647932558653966460912964485513216 ∧ V.ok8 (V.tmD (V.ofN x) (V.ofN y)) = true ∧ val (V.tmD (V.ofN x) (V.ofN y)) ≤ 21267647932558653966460912964485513216 ∧
    wv (V.tmN (decide (x < 0)) (decide (y < 0))) (V.tmD (V.ofN x) (V.ofN y)) = x * y := by
  rw [isG_false] at hx hy
  have ex := ofN_val (n := x) (by omega)
  have ey := ofN_val (n := y) (by omega)
  have bx : 0 ≤ val (V.ofN x) ∧ val (V.ofN x) ≤ 4611686018427387903 := by rw [ex]; split <;> omega
  have bY : 0 ≤ val (V.ofN y) ∧ val (V.ofN y) ≤ 4611686018427387903 := by rw [ey]; split <;> omega
  have hp : val (V.ofN x) * val (V.ofN y) ≤ 4611686018427387903 * 4611686018427387903 := Int.mul_le_mul bx.2 bY.2 bY.1 (by omega)
  have ok := tmD_ok (ofN_ok x) (ofN_ok y)
  have hv := tmD_val (ofN_ok x) (ofN_ok y) (by omega)
  refine ⟨by omega, ok, by rw [hv]; omega, ?_⟩
  rw [tm_val _ _ (ofN_ok x) (ofN_ok y) (by omega)]
  unfold wv
  rw [ex, ey]
  by_cases h1 : x < 0 <;> by_cases h2 : y < 0 <;> simp [h1, h2]
theorem sq_ls {d : List Int} {t : Int} (hd : V.ok8 d = true) (h0 : 0 ≤ t) (h1 : t ≤ 4611686018427387904) (hs : val d < 1569275433846670190958947355801916604025588861116008628224) :
    V.two d (V.tmD (V.ofN t) (V.ofN t)) = true ∧ V.ls false d (V.tmN (decide (t < 0)) (decide (t < 0))) (V.tmD (V.ofN t) (V.ofN t)) = decide (val d < t * t) := by
  have ex := ofN_val (n := t) (by omega)
  rw [if_neg (by omega)] at ex
  have hp : t * t ≤ 4611686018427387904 * 4611686018427387904 := Int.mul_le_mul h1 h1 h0 (by omega)
  have ok := tmD_ok (ofN_ok t) (ofN_ok t)
  have hv := tmD_val (ofN_ok t) (ofN_ok t) (by rw [ex]; omega)
  rw [ex] at hv
  have hn : ¬ t < 0 := by omega
  refine ⟨?_, ?_⟩
  · unfold V.two
    rw [hd, ok, hv]
    simp only [Bool.and_self, Bool.true_and, decide_eq_true_eq]
    omega
  · unfold V.ls wv V.tmN
    simp [hn, hv]
theorem rootOf_l0_val {α : Type} (d : List Int) (hd : V.ok8 d = true) (hs : val d < 1569275433846670190958947355801916604025588861116008628224) (k1 : Int → Option α) : ∀ (m fuel : Nat) (r : Int), m ≤ 62 → m < fuel → 0 ≤ r → r + 2 ^ m ≤ 4611686018427387904 → r * r ≤ val d → val d < (r + 2 ^ m) * (r + 2 ^ m) →
    M.rootOf_l0 false d k1 fuel r (bitOf m) = k1 (V.isq (val d))
  | 0, fuel, r, h1, h2, hr, hb, l1, l2 => by
    obtain ⟨f, rfl⟩ : ∃ f, fuel = f + 1 := ⟨fuel - 1, by omega⟩
    unfold M.rootOf_l0 M.rootOf_l0_step
    rw [bitOf0, cLt_eq]
    simp only [Int.lt_irrefl, decide_false, Bool.false_eq_true, if_false]
    rw [isq_eq ⟨hr, l1, by simpa using l2⟩]
  | m + 1, fuel, r, h1, h2, hr, hb, l1, l2 => by
    obtain ⟨f, rfl⟩ : ∃ f, fuel = f + 1 := ⟨fuel - 1, by omega⟩
    have hp := p2 m
    have hps : (2 : Int) ^ (m + 1) = 2 * 2 ^ m := by rw [Int.pow_succ]; omega
    rw [hps] at hb l2
    obtain ⟨s1, s2⟩ := sq_ls (t := r + 2 ^ m) hd (by omega) (by omega) hs
    unfold M.rootOf_l0 M.rootOf_l0_step
    rw [bitOfS, cLt_eq, IntWalk.i64_in (r + 2 ^ m) (by omega), bitOf_half]
    have w : IntKind.wrap .i64 (bitOf m) = bitOf m := by
      apply IntWalk.i64_in
      cases m with
      | zero => rw [bitOf0]; omega
      | succ k =>
        rw [bitOfS]
        have g1 := p2 k
        have g2 : (2 : Int) ^ (k + 1) = 2 * 2 ^ k := by rw [Int.pow_succ]; omega
        omega
    have hrng : (-9223372036854775808 : Int) ≤ r + 2 ^ m ∧ r + 2 ^ m < 9223372036854775808 := by omega
    simp only [hp, decide_true, if_true, hrng, and_self, ofN_ok, s1, s2, w]
    by_cases hlt : val d < (r + 2 ^ m) * (r + 2 ^ m)
    · simp only [hlt, decide_true, Bool.not_true, Bool.false_eq_true, if_false]
      exact rootOf_l0_val d hd hs k1 m f r (by omega) (by omega) hr (by omega) l1 hlt
    · simp only [hlt, decide_false, Bool.not_false, if_true]
      exact rootOf_l0_val d hd hs k1 m f (r + 2 ^ m) (by omega) (by omega) (by omega) (by omega) (by omega) (by
        rw [show r + 2 ^ m + 2 ^ m = r + 2 * 2 ^ m by omega]; exact l2)
theorem p62 : (2 : Int) ^ 62 = 4611686018427387904 := by kernel_rfl
theorem p61 : (2305843009213693952 : Int) = bitOf 62 := by kernel_rfl
theorem isq_big {x : Int} (h0 : 0 ≤ x) : (4611686018427387903 < V.isq x) ↔ ¬ x < 4611686018427387904 * 4611686018427387904 := by
  have hex : ∀ n : Nat, ∃ r : Int, 0 ≤ r ∧ r * r ≤ (n : Int) ∧ (n : Int) < (r + 1) * (r + 1) := by
    intro n
    induction n with
    | zero => exact ⟨0, by decide, by decide, by decide⟩
    | succ n ih =>
      obtain ⟨r, h0, h1, h2⟩ := ih
      by_cases h : ((n + 1 : Nat) : Int) < (r + 1) * (r + 1)
      · exact ⟨r, h0, by push_cast; omega, h⟩
      · refine ⟨r + 1, by omega, by omega, ?_⟩
        have e : (r + 1 + 1) * (r + 1 + 1) = (r + 1) * (r + 1) + 2 * r + 3 := by grind
        push_cast at h ⊢
        omega
  obtain ⟨n, rfl⟩ := Int.eq_ofNat_of_zero_le h0
  obtain ⟨r, hr⟩ := hex n
  rw [isq_eq hr]
  constructor
  · intro h
    have : 4611686018427387904 * 4611686018427387904 ≤ r * r := Int.mul_le_mul (by omega) (by omega) (by omega) (by omega)
    omega
  · intro h
    by_cases hlt : 4611686018427387903 < r
    · exact hlt
    · have : (r + 1) * (r + 1) ≤ 4611686018427387904 * 4611686018427387904 := Int.mul_le_mul (by omega) (by omega) (by omega) (by omega)
      omega
theorem rootOf_v {α : Type} (d : List Int) (hd : V.ok8 d = true) (hs : val d < 1569275433846670190958947355801916604025588861116008628224) (k0 : Int → Bool → Option α) : M.rootOf false d k0 = k0 (V.gv (V.mRt (val d))) (V.sm (V.mRt (val d))) := by
  unfold M.rootOf V.mRt
  have v := val_bound (ok8_iff.1 hd).2
  obtain ⟨s1, s2⟩ := sq_ls (t := 4611686018427387904) hd (by omega) (by omega) hs
  have big := isq_big v.1
  rw [if_pos s1, s2]
  by_cases h : val d < 4611686018427387904 * 4611686018427387904
  · have hb : ¬ 4611686018427387903 < V.isq (val d) := fun hc => (big.1 hc) h
    simp only [h, decide_true, Bool.not_true, Bool.false_eq_true, if_false, hb]
    rw [p61, rootOf_l0_val d hd hs _ 62 (100 + d.length) 0 (by omega) (by omega) (by omega) (by rw [p62]; omega) (by omega) (by rw [p62]; simpa using h)]
    rfl
  · have hb : 4611686018427387903 < V.isq (val d) := big.2 h
    simp only [h, decide_false, Bool.not_false, if_true, hb]
    rfl
def _root_.Go.Proofs.Ytmcifgaaojgheaa.V.vl (d : List Int) : Int := val d
theorem rootOf_g {α : Type} (n : Bool) (d : List Int) (h : n = false ∧ V.ok8 d = true ∧ V.vl d < 1569275433846670190958947355801916604025588861116008628224) (k0 : Int → Bool → Option α) : M.rootOf n d k0 = k0 (V.gv (V.mRt (V.vl d))) (V.sm (V.mRt (V.vl d))) := by
  rw [h.1]; exact rootOf_v d h.2.1 h.2.2 k0
noncomputable def rootOf_h {α : Type} (ds : List D) (Q : SV → Hp → Option α) : Option α :=
  dB ds fun neg ds => dL (K.int IntKind.i64) ds fun d ds => dE ds (if neg = false ∧ V.ok8 d = true ∧ V.vl d < 1569275433846670190958947355801916604025588861116008628224 then Q (.tup [.int .i64 (V.gv (V.mRt (V.vl d))), .bool (V.sm (V.mRt (V.vl d)))]) ([]) else none)
theorem rootOf_h_ok {α : Type} : FnOk E.P 87 (fEnt (α := α) rootOf_sp rootOf_h) :=
  fEnt_ok E (look_down_ok) (exec_sound E E_ok (look_down_ok) (rootOf_l0_lps_ok) 400) fun ds Q r h => by
    unfold rootOf_h at h
    obtain ⟨neg, ds, rfl, h1⟩ := dB_inv h
    obtain ⟨d, ds, rfl, h2⟩ := dL_inv h1
    obtain ⟨rfl, hE⟩ := dE_inv h2
    split at hE
    · rename_i hg
      exact ⟨[SV.agg [SV.bool neg, SV.arr (K.int IntKind.i64) d (nat_lit 8)]], [], fun vs => by kernel_rfl, (rootOf_eq neg d Q).trans ((rootOf_g neg d hg _).trans hE)⟩
    · cases hE
noncomputable def look_rootOf {α : Type} : LookF α := addFn 87 (fEnt rootOf_sp rootOf_h) look_down
theorem look_rootOf_ok {α : Type} : LookOk E.P (look_rootOf (α := α)) := addFn_ok rootOf_h_ok (look_down_ok)
noncomputable def _root_.Go.Proofs.Ytmcifgaaojgheaa.M.rsum_l0_step {α : Type} (x26 : List Int) (x28 : List Int) (kn : Int → Bool → List Int → Option α) (k1 : Bool → List Int → Option α) (x29 : Int) (x32 : Bool) (x33 : List Int) : Option α :=
  if cLt x29 (↑(List.length x26) : Int) = true then
  if (0 : Int) ≤ x29 ∧ x29 < (↑(List.length x26) : Int) then
    if (-9223372036854775808 : Int) ≤ List.getD x26 (Int.toNat x29) (0 : Int) ∧ List.getD x26 (Int.toNat x29) (0 : Int) < (9223372036854775808 : Int) then
      if (0 : Int) ≤ x29 ∧ x29 < (↑(List.length x28) : Int) then
        if (-9223372036854775808 : Int) ≤ List.getD x28 (Int.toNat x29) (0 : Int) ∧ List.getD x28 (Int.toNat x29) (0 : Int) < (9223372036854775808 : Int) then
          if V.ok8 (V.ofN (List.getD x26 (Int.toNat x29) (0 : Int))) = true ∧ V.ok8 (V.ofN (List.getD x28 (Int.toNat x29) (0 : Int))) = true then
            if V.ok8 x33 = true ∧ V.ok8 (V.tmD (V.ofN (List.getD x26 (Int.toNat x29) (0 : Int))) (V.ofN (List.getD x28 (Int.toNat x29) (0 : Int)))) = true then
              kn (IntKind.wrap IntKind.i64 (x29 + (1 : Int))) (V.plN x32 x33 (V.tmN (decide (List.getD x26 (Int.toNat x29) (0 : Int) < (0 : Int))) (decide (List.getD x28 (Int.toNat x29) (0 : Int) < (0 : Int)))) (V.tmD (V.ofN (List.getD x26 (Int.toNat x29) (0 : Int))) (V.ofN (List.getD x28 (Int.toNat x29) (0 : Int)))))
                (V.plD x32 x33 (V.tmN (decide (List.getD x26 (Int.toNat x29) (0 : Int) < (0 : Int))) (decide (List.getD x28 (Int.toNat x29) (0 : Int) < (0 : Int)))) (V.tmD (V.ofN (List.getD x26 (Int.toNat x29) (0 : Int))) (V.ofN (List.getD x28 (Int.toNat x29) (0 : Int)))))
            else none
          else none
        else none
      else none
    else none
  else none
else k1 x32 x33
noncomputable def _root_.Go.Proofs.Ytmcifgaaojgheaa.M.rsum_l0 {α : Type} (x26 : List Int) (x28 : List Int) (k1 : Bool → List Int → Option α) : Nat → Int → Bool → List Int → Option α
  | 0, _, _, _ => none
  | n + 1, x29, x32, x33 => Go.Proofs.Ytmcifgaaojgheaa.M.rsum_l0_step x26 x28 (Go.Proofs.Ytmcifgaaojgheaa.M.rsum_l0 x26 x28 k1 n) k1 x29 x32 x33
theorem rsum_l0_step_eq {α : Type} (x25 : Value) (x26 : List Int) (x27 : Value) (x28 : List Int) (x29 : Int) (x30 : Bool) (x31 : List Int) (x32 : Bool) (x33 : List Int) (Q : Ex → St → Option α) : (loopStep E (exec E look_rootOf noLps 400) 86 [false, true, false, true, true] 0 (codeAt E.P 86 [false, true, false, true, true])) (St.mk [some (SV.ros x25 (K.int IntKind.i64) x26), some (SV.ros x27 (K.int IntKind.i64) x28), none, none, some (SV.ptr (nat_lit 0) (nat_lit 0)), some (SV.ptr (nat_lit 1) (nat_lit 0)), some (SV.int IntKind.i64 x29), none, none, none, none, none, none, none, none, none, none, none, none, none, none, none, none, none, none, none, none]
  [SObj.cells [SV.bool x30, SV.arr (K.int IntKind.i64) x31 (nat_lit 8)] (nat_lit 101), SObj.cells [SV.bool x32, SV.arr (K.int IntKind.i64) x33 (nat_lit 8)] (nat_lit 101)]) Q = Go.Proofs.Ytmcifgaaojgheaa.M.rsum_l0_step x26 x28 (fun (x36 : Int) (x37 : Bool) (x38 : List Int) => Q .normal (St.mk [some (SV.ros x25 (K.int IntKind.i64) x26), some (SV.ros x27 (K.int IntKind.i64) x28), none, none, some (SV.ptr (nat_lit 0) (nat_lit 0)), some (SV.ptr (nat_lit 1) (nat_lit 0)), some (SV.int IntKind.i64 x36), none, none, none, none, none, none, none, none, none, none, none, none, none, none, none, none, none, none, none, none]
  [SObj.cells [SV.bool x30, SV.arr (K.int IntKind.i64) x31 (nat_lit 8)] (nat_lit 101), SObj.cells [SV.bool x37, SV.arr (K.int IntKind.i64) x38 (nat_lit 8)] (nat_lit 101)])) (fun (x34 : Bool) (x35 : List Int) => Q (.exit 0) (St.mk [none, none, none, none, some (SV.ptr (nat_lit 0) (nat_lit 0)), some (SV.ptr (nat_lit 1) (nat_lit 0)), none, none, none, none, none, none, none, none, none, none, none, none, none, none, none, none, none, none, none, none, none] [SObj.cells [SV.bool x30, SV.arr (K.int IntKind.i64) x31 (nat_lit 8)] (nat_lit 101), SObj.cells [SV.bool x34, SV.arr (K.int IntKind.i64) x35 (nat_lit 8)] (nat_lit 101)])) x29 x32 x33 := by kernel_rfl
theorem rsum_l0_iter {α : Type} (x25 : Value) (x26 : List Int) (x27 : Value) (x28 : List Int) (x30 : Bool) (x31 : List Int) (Q : Ex → St → Option α) : ∀ (n : Nat) (x29 : Int) (x32 : Bool) (x33 : List Int), iter (loopStep E (exec E look_rootOf noLps 400) 86 [false, true, false, true, true] 0 (codeAt E.P 86 [false, true, false, true, true])) n (St.mk [some (SV.ros x25 (K.int IntKind.i64) x26), some (SV.ros x27 (K.int IntKind.i64) x28), none, none, some (SV.ptr (nat_lit 0) (nat_lit 0)), some (SV.ptr (nat_lit 1) (nat_lit 0)), some (SV.int IntKind.i64 x29), none, none, none, none, none, none, none, none, none, none, none, none, none, none, none, none, none, none, none, none]
  [SObj.cells [SV.bool x30, SV.arr (K.int IntKind.i64) x31 (nat_lit 8)] (nat_lit 101), SObj.cells [SV.bool x32, SV.arr (K.int IntKind.i64) x33 (nat_lit 8)] (nat_lit 101)]) Q = Go.Proofs.Ytmcifgaaojgheaa.M.rsum_l0 x26 x28 (fun (x34 : Bool) (x35 : List Int) => Q (.exit 0) (St.mk [none, none, none, none, some (SV.ptr (nat_lit 0) (nat_lit 0)), some (SV.ptr (nat_lit 1) (nat_lit 0)), none, none, none, none, none, none, none, none, none, none, none, none, none, none, none, none, none, none, none, none, none] [SObj.cells [SV.bool x30, SV.arr (K.int IntKind.i64) x31 (nat_lit 8)] (nat_lit 101), SObj.cells [SV.bool x34, SV.arr (K.int IntKind.i64) x35 (nat_lit 8)] (nat_lit 101)])) n x29 x32 x33
  | 0, _, _, _ => rfl
  | n + 1, x29, x32, x33 => (rsum_l0_step_eq x25 x26 x27 x28 x29 x30 x31 x32 x33 (iterK (loopStep E (exec E look_rootOf noLps 400) 86 [false, true, false, true, true] 0 (codeAt E.P 86 [false, true, false, true, true])) n Q)).trans (congrArg (fun kn => Go.Proofs.Ytmcifgaaojgheaa.M.rsum_l0_step x26 x28 kn (fun (x34 : Bool) (x35 : List Int) => Q (.exit 0) (St.mk [none, none, none, none, some (SV.ptr (nat_lit 0) (nat_lit 0)), some (SV.ptr (nat_lit 1) (nat_lit 0)), none, none, none, none, none, none, none, none, none, none, none, none, none, none, none, none, none, none, none, none, none] [SObj.cells [SV.bool x30, SV.arr (K.int IntKind.i64) x31 (nat_lit 8)] (nat_lit 101), SObj.cells [SV.bool x34, SV.arr (K.int IntKind.i64) x35 (nat_lit 8)] (nat_lit 101)])) x29 x32 x33) (funext fun x29 => funext fun x32 => funext fun x33 => rsum_l0_iter x25 x26 x27 x28 x30 x31 Q n x29 x32 x33))
noncomputable def rsum_l0_go {α : Type} (ds : List D) (Q : Ex → St → Option α) : Option α :=
  dV ds fun x25 ds => dL (K.int IntKind.i64) ds fun x26 ds => dV ds fun x27 ds => dL (K.int IntKind.i64) ds fun x28 ds => dI ds fun x29 ds => dB ds fun x30 ds => dL (K.int IntKind.i64) ds fun x31 ds => dB ds fun x32 ds => dL (K.int IntKind.i64) ds fun x33 ds => dE ds (Go.Proofs.Ytmcifgaaojgheaa.M.rsum_l0 x26 x28 (fun (x34 : Bool) (x35 : List Int) => Q (.exit 0) (St.mk [none, none, none, none, some (SV.ptr (nat_lit 0) (nat_lit 0)), some (SV.ptr (nat_lit 1) (nat_lit 0)), none, none, none, none, none, none, none, none, none, none, none, none, none, none, none, none, none, none, none, none, none] [SObj.cells [SV.bool x30, SV.arr (K.int IntKind.i64) x31 (nat_lit 8)] (nat_lit 101), SObj.cells [SV.bool x34, SV.arr (K.int IntKind.i64) x35 (nat_lit 8)] (nat_lit 101)])) (100 + x26.length + x28.length + x31.length + x33.length) x29 x32 x33)
theorem rsum_l0_ok {α : Type} : LoopOk E.P 86 [false, true, false, true, true] 0 (lEnt (α := α) (St.mk [some (SV.ros undef (K.int IntKind.i64) []), some (SV.ros undef (K.int IntKind.i64) []), none, none, some (SV.ptr (nat_lit 0) (nat_lit 0)), some (SV.ptr (nat_lit 1) (nat_lit 0)), some (SV.int IntKind.i64 (0 : Int)), none, none, none, none, none, none, none, none, none, none, none, none, none, none, none, none, none, none, none, none]
  [SObj.cells [SV.bool false, SV.arr (K.int IntKind.i64) [] (nat_lit 8)] (nat_lit 101), SObj.cells [SV.bool false, SV.arr (K.int IntKind.i64) [] (nat_lit 8)] (nat_lit 101)]) rsum_l0_go) :=
  lEnt_ok E (exec_sound E E_ok (look_rootOf_ok) (noLps_ok _) 400) fun ds Q r h S hS => by
    unfold rsum_l0_go at h
    obtain ⟨x25, ds, rfl, h1⟩ := dV_inv h
    obtain ⟨x26, ds, rfl, h2⟩ := dL_inv h1
    obtain ⟨x27, ds, rfl, h3⟩ := dV_inv h2
    obtain ⟨x28, ds, rfl, h4⟩ := dL_inv h3
    obtain ⟨x29, ds, rfl, h5⟩ := dI_inv h4
    obtain ⟨x30, ds, rfl, h6⟩ := dB_inv h5
    obtain ⟨x31, ds, rfl, h7⟩ := dL_inv h6
    obtain ⟨x32, ds, rfl, h8⟩ := dB_inv h7
    obtain ⟨x33, ds, rfl, h9⟩ := dL_inv h8
    obtain ⟨rfl, hE⟩ := dE_inv h9
    have e : fillS (St.mk [some (SV.ros undef (K.int IntKind.i64) []), some (SV.ros undef (K.int IntKind.i64) []), none, none, some (SV.ptr (nat_lit 0) (nat_lit 0)), some (SV.ptr (nat_lit 1) (nat_lit 0)), some (SV.int IntKind.i64 (0 : Int)), none, none, none, none, none, none, none, none, none, none, none, none, none, none, none, none, none, none, none, none]
  [SObj.cells [SV.bool false, SV.arr (K.int IntKind.i64) [] (nat_lit 8)] (nat_lit 101), SObj.cells [SV.bool false, SV.arr (K.int IntKind.i64) [] (nat_lit 8)] (nat_lit 101)]) [.v x25, .l (K.int IntKind.i64) x26, .v x27, .l (K.int IntKind.i64) x28, .i x29, .b x30, .l (K.int IntKind.i64) x31, .b x32, .l (K.int IntKind.i64) x33] = some (St.mk [some (SV.ros x25 (K.int IntKind.i64) x26), some (SV.ros x27 (K.int IntKind.i64) x28), none, none, some (SV.ptr (nat_lit 0) (nat_lit 0)), some (SV.ptr (nat_lit 1) (nat_lit 0)), some (SV.int IntKind.i64 x29), none, none, none, none, none, none, none, none, none, none, none, none, none, none, none, none, none, none, none, none]
  [SObj.cells [SV.bool x30, SV.arr (K.int IntKind.i64) x31 (nat_lit 8)] (nat_lit 101), SObj.cells [SV.bool x32, SV.arr (K.int IntKind.i64) x33 (nat_lit 8)] (nat_lit 101)]) := by kernel_rfl
    rw [e] at hS
    cases hS
    exact ⟨_, (rsum_l0_iter x25 x26 x27 x28 x30 x31 Q _ x29 x32 x33).trans hE⟩
noncomputable def rsum_l0_lps {α : Type} : LookL α := addLp 86 [false, true, false, true, true] 0 (lEnt (St.mk [some (SV.ros undef (K.int IntKind.i64) []), some (SV.ros undef (K.int IntKind.i64) []), none, none, some (SV.ptr (nat_lit 0) (nat_lit 0)), some (SV.ptr (nat_lit 1) (nat_lit 0)), some (SV.int IntKind.i64 (0 : Int)), none, none, none, none, none, none, none, none, none, none, none, none, none, none, none, none, none, none, none, none]
  [SObj.cells [SV.bool false, SV.arr (K.int IntKind.i64) [] (nat_lit 8)] (nat_lit 101), SObj.cells [SV.bool false, SV.arr (K.int IntKind.i64) [] (nat_lit 8)] (nat_lit 101)]) rsum_l0_go) noLps
theorem rsum_l0_lps_ok {α : Type} : LoopsOk E.P (rsum_l0_lps (α := α)) := addLp_ok rsum_l0_ok (noLps_ok _)

noncomputable def _root_.Go.Proofs.Ytmcifgaaojgheaa.M.rsum {α : Type} (a : List Int) (b : List Int) (k0 : Bool → List Int → Option α) : Option α :=
  M.rsum_l0 a b (fun (x41 : Bool) (x42 : List Int) ↦ k0 x41 x42) ((100 : Nat) + List.length a + List.length b + (8 : Nat) + (8 : Nat)) (0 : Int) false (List.replicate (8 : Nat) (0 : Int))
theorem rsum_eq {α : Type} (a : List Int) (b : List Int) (v39 : Value) (v40 : Value) (Q : SV → Hp → Option α) : callI E look_rootOf (exec E look_rootOf rsum_l0_lps 400) 86 ([SV.ros v39 (K.int IntKind.i64) a, SV.ros v40 (K.int IntKind.i64) b]) ([]) Q = Go.Proofs.Ytmcifgaaojgheaa.M.rsum a b (fun (x43 : Bool) (x44 : List Int) => Q (SV.agg [SV.bool x43, SV.arr (K.int IntKind.i64) x44 (nat_lit 8)]) ([])) := by kernel_rfl
def rsum_sp : List AS := [.ro (.int .i64), .ro (.int .i64)]
noncomputable def smF : List Int → List Int → Bool → List Int → Bool × List Int
  | x :: a, y :: b, n, D => smF a b (V.plN n D (V.tmN (decide (x < 0)) (decide (y < 0))) (V.tmD (V.ofN x) (V.ofN y))) (V.plD n D (V.tmN (decide (x < 0)) (decide (y < 0))) (V.tmD (V.ofN x) (V.ofN y)))
  | _, _, n, D => (n, D)
theorem smF_val : ∀ (a b : List Int) (n : Bool) (D : List Int) (K : Nat), V.anyG a = false → V.anyG b = false → V.ok8 D = true → val D ≤ 21267647932558653966460912964485513216 * (K : Int) → K + a.length ≤ 16 →
    V.ok8 (smF a b n D).2 = true ∧ wv (smF a b n D).1 (smF a b n D).2 = wv n D + V.dotZ a b ∧ val (smF a b n D).2 ≤ 21267647932558653966460912964485513216 * ((K + a.length : Nat) : Int)
  | [], b, n, D, K, _, _, hD, hv, hK => by simp [smF, V.dotZ, hD]; exact hv
  | x :: a, [], n, D, K, _, _, hD, hv, hK => by simp [smF, V.dotZ, hD]; omega
  | x :: a, y :: b, n, D, K, ha, hb, hD, hv, hK => by
    rw [anyG_cons', Bool.or_eq_false_iff] at ha hb
    obtain ⟨p1, p2, p3, p4⟩ := ofN_prod ha.1 hb.1
    simp only [List.length_cons] at hK ⊢
    obtain ⟨q1, q2⟩ := pl_val n (V.tmN (decide (x < 0)) (decide (y < 0))) hD p2 (by omega)
    have ok := plD_ok n (V.tmN (decide (x < 0)) (decide (y < 0))) hD p2
    obtain ⟨r1, r2, r3⟩ := smF_val a b _ _ (K + 1) ha.2 hb.2 ok (by push_cast; omega) (by omega)
    rw [smF]
    refine ⟨r1, ?_, ?_⟩
    · rw [r2, q1, p4]
      simp only [V.dotZ, List.zipWith_cons_cons, List.sum_cons]
      omega
    · rw [show K + (a.length + 1) = K + 1 + a.length by omega]; exact r3
theorem smF_sq : ∀ (a : List Int) (D : List Int), (smF a a false D).1 = false
  | [], D => rfl
  | x :: a, D => by
    rw [smF]
    have : V.plN false D (V.tmN (decide (x < 0)) (decide (x < 0))) (V.tmD (V.ofN x) (V.ofN x)) = false := by unfold V.plN V.tmN; simp
    rw [this]
    exact smF_sq a _
theorem smF_drop (a b : List Int) (i : Nat) (h1 : i < a.length) (h2 : i < b.length) (n : Bool) (D : List Int) :
    smF (a.drop i) (b.drop i) n D = smF (a.drop (i + 1)) (b.drop (i + 1)) (V.plN n D (V.tmN (decide (a.getD i 0 < 0)) (decide (b.getD i 0 < 0))) (V.tmD (V.ofN (a.getD i 0)) (V.ofN (b.getD i 0)))) (V.plD n D (V.tmN (decide (a.getD i 0 < 0)) (decide (b.getD i 0 < 0))) (V.tmD (V.ofN (a.getD i 0)) (V.ofN (b.getD i 0)))) := by
  rw [drop_getD h1, drop_getD h2, smF]
theorem anyG_getG {l : List Int} (h : V.anyG l = false) (i : Nat) : isG (l.getD i 0) = false := by
  unfold V.anyG at h
  by_cases hi : i < l.length
  · have := List.any_eq_false.1 h (l[i]) (List.getElem_mem hi)
    simpa [List.getD_eq_getElem?_getD, hi] using this
  · have e : l.getD i 0 = 0 := by simp [List.getD_eq_getElem?_getD, hi]
    rw [e]; decide
theorem rsum_l0_val {α : Type} (a b : List Int) (hl : a.length < 9223372036854775808) (hab : a.length = b.length) (ha : V.anyG a = false) (hb : V.anyG b = false) (k1 : Bool → List Int → Option α) : ∀ (fuel i : Nat) (n : Bool) (D : List Int), i ≤ a.length → a.length - i < fuel → V.ok8 D = true →
    M.rsum_l0 a b k1 fuel (i : Int) n D = k1 (smF (a.drop i) (b.drop i) n D).1 (smF (a.drop i) (b.drop i) n D).2
  | 0, i, n, D, h1, h2, _ => by omega
  | f + 1, i, n, D, h1, h2, hD => by
    unfold M.rsum_l0 M.rsum_l0_step
    rw [cLt_eq]
    by_cases hi : i < a.length
    · have ga := anyG_getG ha i
      have gb := anyG_getG hb i
      have ra := (isG_false _).1 ga
      have rb := (isG_false _).1 gb
      obtain ⟨p1, p2, p3, p4⟩ := ofN_prod ga gb
      have c1 : (i : Int) < (a.length : Int) := by omega
      have c2 : (i : Int) < (b.length : Int) := by omega
      rw [smF_drop a b i hi (by omega)]
      simp only [Int.toNat_natCast]
      have r1 : (-9223372036854775808 : Int) ≤ a.getD i 0 ∧ a.getD i 0 < 9223372036854775808 := by omega
      have r2 : (-9223372036854775808 : Int) ≤ b.getD i 0 ∧ b.getD i 0 < 9223372036854775808 := by omega
      simp only [c1, c2, r1, r2, Int.natCast_nonneg, decide_true, if_true, and_self, ofN_ok, hD, p2]
      rw [IntWalk.i64_in ((i : Int) + 1) (by omega)]
      have := rsum_l0_val a b hl hab ha hb k1 f (i + 1) (V.plN n D (V.tmN (decide (a.getD i 0 < 0)) (decide (b.getD i 0 < 0))) (V.tmD (V.ofN (a.getD i 0)) (V.ofN (b.getD i 0)))) (V.plD n D (V.tmN (decide (a.getD i 0 < 0)) (decide (b.getD i 0 < 0))) (V.tmD (V.ofN (a.getD i 0)) (V.ofN (b.getD i 0)))) (by omega) (by omega) (plD_ok n (V.tmN (decide (a.getD i 0 < 0)) (decide (b.getD i 0 < 0))) hD p2)
      push_cast at this
      exact this
    · have : i = a.length := by omega
      subst this
      simp [smF]
noncomputable def _root_.Go.Proofs.Ytmcifgaaojgheaa.V.smN (a b : List Int) : Bool := (smF a b false (List.replicate 8 0)).1
noncomputable def _root_.Go.Proofs.Ytmcifgaaojgheaa.V.smD (a b : List Int) : List Int := (smF a b false (List.replicate 8 0)).2
theorem rsum_v {α : Type} (a b : List Int) (hl : a.length < 9223372036854775808) (hab : a.length = b.length) (ha : V.anyG a = false) (hb : V.anyG b = false) (k0 : Bool → List Int → Option α) : M.rsum a b k0 = k0 (V.smN a b) (V.smD a b) := by
  unfold M.rsum V.smN V.smD
  have := rsum_l0_val a b hl hab ha hb (fun x y => k0 x y) (100 + a.length + b.length + 8 + 8) 0 false (List.replicate 8 0) (by omega) (by omega) (by decide)
  simp only [Int.natCast_zero, List.drop_zero] at this
  exact this
noncomputable def rsum_h {α : Type} (ds : List D) (Q : SV → Hp → Option α) : Option α :=
  dL (K.int IntKind.i64) ds fun a ds => dL (K.int IntKind.i64) ds fun b ds => dE ds (if (a.length < 9223372036854775808 ∧ a.length = b.length) ∧ V.anyG a = false ∧ V.anyG b = false then Q (.agg [.bool (V.smN a b), .arr (.int .i64) (V.smD a b) 8]) ([]) else none)
theorem rsum_h_ok {α : Type} : FnOk E.P 86 (fEnt (α := α) rsum_sp rsum_h) :=
  fEntR_ok E (look_rootOf_ok) (exec_sound E E_ok (look_rootOf_ok) (rsum_l0_lps_ok) 400) fun ds Q r h => by
    unfold rsum_h at h
    obtain ⟨a, ds, rfl, h1⟩ := dL_inv h
    obtain ⟨b, ds, rfl, h2⟩ := dL_inv h1
    obtain ⟨rfl, hE⟩ := dE_inv h2
    split at hE
    · rename_i hg
      exact ⟨_, _, hE, fun vs => ⟨_, _, by kernel_rfl, (rsum_eq a b (vs.headD undef) (vs.tail.headD undef) _).trans (rsum_v a b hg.1.1 hg.1.2 hg.2.1 hg.2.2 _)⟩⟩
    · cases hE
noncomputable def look_rsum {α : Type} : LookF α := addFn 86 (fEnt rsum_sp rsum_h) look_rootOf
theorem look_rsum_ok {α : Type} : LookOk E.P (look_rsum (α := α)) := addFn_ok rsum_h_ok (look_rootOf_ok)
end Go.Proofs.Ytmcifgaaojgheaa.Sx
