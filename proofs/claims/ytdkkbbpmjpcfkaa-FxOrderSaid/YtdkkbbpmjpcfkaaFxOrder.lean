/- FxOrder: its run tells true. -/
import Derived.Test.YtdkkbbpmjpcfkaaFxH
namespace Go.Proofs.Ytdkkbbpmjpcfkaa.Sx
open Go
set_option linter.unusedVariables false
set_option linter.unusedSimpArgs false
noncomputable def _root_.Go.Proofs.Ytdkkbbpmjpcfkaa.M.order {α : Type} (a : Int) (b : Int) (c : Int) (k0 : Bool → Option α) : Option α :=
  if cLt c (0 : Int) = true then
  if
      (!V.gn (V.mMul (if b > a then b else a) (IntKind.wrap IntKind.i64 ((0 : Int) - IntKind.wrap IntKind.i64 (c + (1 : Int)))))
            (V.gn (V.mMul (if b < a then b else a) (IntKind.wrap IntKind.i64 ((0 : Int) - IntKind.wrap IntKind.i64 (c + (1 : Int))))) false)) =
        true then
    if
        cLt (V.gv (V.mMul (if b > a then b else a) (IntKind.wrap IntKind.i64 ((0 : Int) - IntKind.wrap IntKind.i64 (c + (1 : Int))))))
            (V.gv (V.mMul (if b < a then b else a) (IntKind.wrap IntKind.i64 ((0 : Int) - IntKind.wrap IntKind.i64 (c + (1 : Int)))))) =
          true then
      k0 false
    else
      if (!V.gn (V.mRoot (if b > a then b else a)) (V.gn (V.mRoot (if b < a then b else a)) false)) = true then
        if cLt (V.gv (V.mRoot (if b > a then b else a))) (V.gv (V.mRoot (if b < a then b else a))) = true then k0 false
        else
          if cLt a (0 : Int) = true then
            if cLt (-9223372036854775808 : Int) a = true then
              if V.gn (V.mRoot (V.gv (V.mMul a a))) (V.gn (V.mMul a a) false) = true then k0 true
              else k0 (cLe (V.gv (V.mRoot (V.gv (V.mMul a a)))) (IntKind.wrap IntKind.i64 ((0 : Int) - a)))
            else if V.gn (V.mRoot (V.gv (V.mMul a a))) (V.gn (V.mMul a a) false) = true then k0 true else k0 (cLe (V.gv (V.mRoot (V.gv (V.mMul a a)))) a)
          else if V.gn (V.mRoot (V.gv (V.mMul a a))) (V.gn (V.mMul a a) false) = true then k0 true else k0 (cLe (V.gv (V.mRoot (V.gv (V.mMul a a)))) a)
      else
        if cLt a (0 : Int) = true then
          if cLt (-9223372036854775808 : Int) a = true then
            if V.gn (V.mRoot (V.gv (V.mMul a a))) (V.gn (V.mMul a a) false) = true then k0 true
            else k0 (cLe (V.gv (V.mRoot (V.gv (V.mMul a a)))) (IntKind.wrap IntKind.i64 ((0 : Int) - a)))
          else if V.gn (V.mRoot (V.gv (V.mMul a a))) (V.gn (V.mMul a a) false) = true then k0 true else k0 (cLe (V.gv (V.mRoot (V.gv (V.mMul a a)))) a)
        else if V.gn (V.mRoot (V.gv (V.mMul a a))) (V.gn (V.mMul a a) false) = true then k0 true else k0 (cLe (V.gv (V.mRoot (V.gv (V.mMul a a)))) a)
  else
    if (!V.gn (V.mRoot (if b > a then b else a)) (V.gn (V.mRoot (if b < a then b else a)) false)) = true then
      if cLt (V.gv (V.mRoot (if b > a then b else a))) (V.gv (V.mRoot (if b < a then b else a))) = true then k0 false
      else
        if cLt a (0 : Int) = true then
          if cLt (-9223372036854775808 : Int) a = true then
            if V.gn (V.mRoot (V.gv (V.mMul a a))) (V.gn (V.mMul a a) false) = true then k0 true
            else k0 (cLe (V.gv (V.mRoot (V.gv (V.mMul a a)))) (IntKind.wrap IntKind.i64 ((0 : Int) - a)))
          else if V.gn (V.mRoot (V.gv (V.mMul a a))) (V.gn (V.mMul a a) false) = true then k0 true else k0 (cLe (V.gv (V.mRoot (V.gv (V.mMul a a)))) a)
        else if V.gn (V.mRoot (V.gv (V.mMul a a))) (V.gn (V.mMul a a) false) = true then k0 true else k0 (cLe (V.gv (V.mRoot (V.gv (V.mMul a a)))) a)
    else
      if cLt a (0 : Int) = true then
        if cLt (-9223372036854775808 : Int) a = true then
          if V.gn (V.mRoot (V.gv (V.mMul a a))) (V.gn (V.mMul a a) false) = true then k0 true
          else k0 (cLe (V.gv (V.mRoot (V.gv (V.mMul a a)))) (IntKind.wrap IntKind.i64 ((0 : Int) - a)))
        else if V.gn (V.mRoot (V.gv (V.mMul a a))) (V.gn (V.mMul a a) false) = true then k0 true else k0 (cLe (V.gv (V.mRoot (V.gv (V.mMul a a)))) a)
      else if V.gn (V.mRoot (V.gv (V.mMul a a))) (V.gn (V.mMul a a) false) = true then k0 true else k0 (cLe (V.gv (V.mRoot (V.gv (V.mMul a a)))) a)
else
  if (!V.gn (V.mMul (if b > a then b else a) c) (V.gn (V.mMul (if b < a then b else a) c) false)) = true then
    if cLt (V.gv (V.mMul (if b > a then b else a) c)) (V.gv (V.mMul (if b < a then b else a) c)) = true then k0 false
    else
      if (!V.gn (V.mRoot (if b > a then b else a)) (V.gn (V.mRoot (if b < a then b else a)) false)) = true then
        if cLt (V.gv (V.mRoot (if b > a then b else a))) (V.gv (V.mRoot (if b < a then b else a))) = true then k0 false
        else
          if cLt a (0 : Int) = true then
            if cLt (-9223372036854775808 : Int) a = true then
              if V.gn (V.mRoot (V.gv (V.mMul a a))) (V.gn (V.mMul a a) false) = true then k0 true
              else k0 (cLe (V.gv (V.mRoot (V.gv (V.mMul a a)))) (IntKind.wrap IntKind.i64 ((0 : Int) - a)))
            else if V.gn (V.mRoot (V.gv (V.mMul a a))) (V.gn (V.mMul a a) false) = true then k0 true else k0 (cLe (V.gv (V.mRoot (V.gv (V.mMul a a)))) a)
          else if V.gn (V.mRoot (V.gv (V.mMul a a))) (V.gn (V.mMul a a) false) = true then k0 true else k0 (cLe (V.gv (V.mRoot (V.gv (V.mMul a a)))) a)
      else
        if cLt a (0 : Int) = true then
          if cLt (-9223372036854775808 : Int) a = true then
            if V.gn (V.mRoot (V.gv (V.mMul a a))) (V.gn (V.mMul a a) false) = true then k0 true
            else k0 (cLe (V.gv (V.mRoot (V.gv (V.mMul a a)))) (IntKind.wrap IntKind.i64 ((0 : Int) - a)))
          else if V.gn (V.mRoot (V.gv (V.mMul a a))) (V.gn (V.mMul a a) false) = true then k0 true else k0 (cLe (V.gv (V.mRoot (V.gv (V.mMul a a)))) a)
        else if V.gn (V.mRoot (V.gv (V.mMul a a))) (V.gn (V.mMul a a) false) = true then k0 true else k0 (cLe (V.gv (V.mRoot (V.gv (V.mMul a a)))) a)
  else
    if (!V.gn (V.mRoot (if b > a then b else a)) (V.gn (V.mRoot (if b < a then b else a)) false)) = true then
      if cLt (V.gv (V.mRoot (if b > a then b else a))) (V.gv (V.mRoot (if b < a then b else a))) = true then k0 false
      else
        if cLt a (0 : Int) = true then
          if cLt (-9223372036854775808 : Int) a = true then
            if V.gn (V.mRoot (V.gv (V.mMul a a))) (V.gn (V.mMul a a) false) = true then k0 true
            else k0 (cLe (V.gv (V.mRoot (V.gv (V.mMul a a)))) (IntKind.wrap IntKind.i64 ((0 : Int) - a)))
          else if V.gn (V.mRoot (V.gv (V.mMul a a))) (V.gn (V.mMul a a) false) = true then k0 true else k0 (cLe (V.gv (V.mRoot (V.gv (V.mMul a a)))) a)
        else if V.gn (V.mRoot (V.gv (V.mMul a a))) (V.gn (V.mMul a a) false) = true then k0 true else k0 (cLe (V.gv (V.mRoot (V.gv (V.mMul a a)))) a)
    else
      if cLt a (0 : Int) = true then
        if cLt (-9223372036854775808 : Int) a = true then
          if V.gn (V.mRoot (V.gv (V.mMul a a))) (V.gn (V.mMul a a) false) = true then k0 true
          else k0 (cLe (V.gv (V.mRoot (V.gv (V.mMul a a)))) (IntKind.wrap IntKind.i64 ((0 : Int) - a)))
        else if V.gn (V.mRoot (V.gv (V.mMul a a))) (V.gn (V.mMul a a) false) = true then k0 true else k0 (cLe (V.gv (V.mRoot (V.gv (V.mMul a a)))) a)
      else if V.gn (V.mRoot (V.gv (V.mMul a a))) (V.gn (V.mMul a a) false) = true then k0 true else k0 (cLe (V.gv (V.mRoot (V.gv (V.mMul a a)))) a)
theorem order_eq {α : Type} (a : Int) (b : Int) (c : Int) (Q : SV → Hp → Option α) : callI E look_awake (exec E look_awake noLps 400) 6 ([SV.int IntKind.i64 a, SV.int IntKind.i64 b, SV.int IntKind.i64 c]) ([]) Q = Go.Proofs.Ytdkkbbpmjpcfkaa.M.order a b c (fun (x0 : Bool) => Q (SV.bool x0) ([])) := by kernel_rfl
def order_sp : List AS := [.val (.int .i64 0), .val (.int .i64 0), .val (.int .i64 0)]
noncomputable def order_go {α : Type} (ds : List D) (Q : SV → Hp → Option α) : Option α :=
  dI ds fun a ds => dI ds fun b ds => dI ds fun c ds => dE ds (Go.Proofs.Ytdkkbbpmjpcfkaa.M.order a b c (fun (x0 : Bool) => Q (SV.bool x0) ([])))
theorem order_ok {α : Type} : FnOk E.P 6 (fEnt (α := α) order_sp order_go) :=
  fEnt_ok E (look_awake_ok) (exec_sound E E_ok (look_awake_ok) (noLps_ok _) 400) fun ds Q r h => by
    unfold order_go at h
    obtain ⟨a, ds, rfl, h1⟩ := dI_inv h
    obtain ⟨b, ds, rfl, h2⟩ := dI_inv h1
    obtain ⟨c, ds, rfl, h3⟩ := dI_inv h2
    obtain ⟨rfl, hE⟩ := dE_inv h3
    exact ⟨[SV.int IntKind.i64 a, SV.int IntKind.i64 b, SV.int IntKind.i64 c], [], fun vs => by kernel_rfl, (order_eq a b c Q).trans hE⟩
theorem isq_ex (n : Nat) : ∃ r : Int, 0 ≤ r ∧ r * r ≤ (n : Int) ∧ (n : Int) < (r + 1) * (r + 1) := by
  induction n with
  | zero => exact ⟨0, by decide, by decide, by decide⟩
  | succ n ih =>
    obtain ⟨r, h0, h1, h2⟩ := ih
    by_cases h : ((n + 1 : Nat) : Int) < (r + 1) * (r + 1)
    · exact ⟨r, h0, by push_cast; omega, h⟩
    · refine ⟨r + 1, by omega, by omega, ?_⟩
      have e : (r + 1 + 1) * (r + 1 + 1) = (r + 1) * (r + 1) + 2 * r + 3 := by grind
      push_cast at h ⊢
      omega
theorem isq_spec {x : Int} (h : 0 ≤ x) : 0 ≤ V.isq x ∧ V.isq x * V.isq x ≤ x ∧ x < (V.isq x + 1) * (V.isq x + 1) := by
  obtain ⟨n, rfl⟩ := Int.eq_ofNat_of_zero_le h
  obtain ⟨r, hr⟩ := isq_ex n
  rw [isq_eq hr]; exact hr
theorem isq_mono {x y : Int} (h0 : 0 ≤ x) (h : x ≤ y) : V.isq x ≤ V.isq y := by
  obtain ⟨a0, a1, a2⟩ := isq_spec h0
  obtain ⟨b0, b1, b2⟩ := isq_spec (Int.le_trans h0 h)
  by_cases hlt : V.isq x ≤ V.isq y
  · exact hlt
  · have : (V.isq y + 1) * (V.isq y + 1) ≤ V.isq x * V.isq x := Int.mul_le_mul (by omega) (by omega) (by omega) (by omega)
    omega
theorem isq_le {x s : Int} (h0 : 0 ≤ x) (hs : 0 ≤ s) (h : x ≤ s * s) : V.isq x ≤ s := by
  obtain ⟨a0, a1, a2⟩ := isq_spec h0
  by_cases hlt : V.isq x ≤ s
  · exact hlt
  · have : (s + 1) * (s + 1) ≤ V.isq x * V.isq x := Int.mul_le_mul (by omega) (by omega) (by omega) (by omega)
    have : s * s < (s + 1) * (s + 1) := by grind
    omega
theorem gn_false {o : Option Int} {bad : Bool} (h : V.gn o bad = false) : (∃ n, o = some n) ∧ bad = false := by
  unfold V.gn at h
  cases o with
  | none => simp at h
  | some n => simp at h; exact ⟨⟨n, rfl⟩, h⟩
theorem tl_inv {n m : Int} (h : V.tl n = some m) : m = n ∧ isG n = false := by
  unfold V.tl at h
  cases hg : isG n <;> simp_all
theorem mMul_inv {a b m : Int} (h : V.mMul a b = some m) : m = a * b / 4294967296 ∧ isG m = false := by
  unfold V.mMul at h
  split at h
  · cases h
  · obtain ⟨h1, h2⟩ := tl_inv h
    rw [h1]; exact ⟨rfl, h2⟩
theorem mRoot_inv {a m : Int} (h : V.mRoot a = some m) : m = V.isq (a * 4294967296) ∧ 0 ≤ a := by
  unfold V.mRoot V.mRt at h
  split at h
  · cases h
  · rename_i hc
    split at h
    · cases h
    · cases h
      simp only [Bool.or_eq_true, decide_eq_true_eq, not_or] at hc
      exact ⟨rfl, by omega⟩
theorem ite_skip {α : Type} {G L : Bool} {x R : Option α} (h : G = false → L = false) : (if (!G) = true then if L = true then x else R else R) = R := by
  cases G <;> cases L <;> simp_all
theorem order1 {lo hi c : Int} (hlh : lo ≤ hi) (hc : 0 ≤ c) : V.gn (V.mMul hi c) (V.gn (V.mMul lo c) false) = false → cLt (V.gv (V.mMul hi c)) (V.gv (V.mMul lo c)) = false := by
  intro h
  obtain ⟨⟨m, hm⟩, h2⟩ := gn_false h
  obtain ⟨⟨n, hn⟩, _⟩ := gn_false h2
  rw [hm, hn, cLt_eq]
  obtain ⟨rfl, _⟩ := mMul_inv hm
  obtain ⟨rfl, _⟩ := mMul_inv hn
  simp only [V.gv, Option.getD_some]
  have : lo * c ≤ hi * c := Int.mul_le_mul_of_nonneg_right hlh hc
  exact decide_eq_false (by omega)
theorem order2 {lo hi : Int} (hlh : lo ≤ hi) : V.gn (V.mRoot hi) (V.gn (V.mRoot lo) false) = false → cLt (V.gv (V.mRoot hi)) (V.gv (V.mRoot lo)) = false := by
  intro h
  obtain ⟨⟨m, hm⟩, h2⟩ := gn_false h
  obtain ⟨⟨n, hn⟩, _⟩ := gn_false h2
  rw [hm, hn, cLt_eq]
  obtain ⟨rfl, _⟩ := mRoot_inv hm
  obtain ⟨rfl, h0⟩ := mRoot_inv hn
  simp only [V.gv, Option.getD_some]
  have := isq_mono (x := lo * 4294967296) (y := hi * 4294967296) (by omega) (by omega)
  exact decide_eq_false (by omega)
theorem order3 {a s : Int} (hs : 0 ≤ s) (ha : a * a = s * s) (h : V.gn (V.mRoot (V.gv (V.mMul a a))) (V.gn (V.mMul a a) false) = false) : cLe (V.gv (V.mRoot (V.gv (V.mMul a a)))) s = true := by
  obtain ⟨⟨m, hm⟩, h2⟩ := gn_false h
  obtain ⟨⟨n, hn⟩, _⟩ := gn_false h2
  rw [hn] at hm ⊢
  obtain ⟨rfl, _⟩ := mMul_inv hn
  simp only [V.gv, Option.getD_some] at hm ⊢
  rw [hm, cLe_eq]
  obtain ⟨rfl, h0⟩ := mRoot_inv hm
  simp only [Option.getD_some, decide_eq_true_eq]
  refine isq_le (by omega) hs ?_
  rw [← ha]; omega
theorem lowHigh (a b : Int) : (if b < a then b else a) ≤ (if b > a then b else a) := by split <;> split <;> omega
theorem fin3 {α : Type} {a s : Int} (k0 : Bool → Option α) (hs : 0 ≤ s) (ha : a * a = s * s) : (if V.gn (V.mRoot (V.gv (V.mMul a a))) (V.gn (V.mMul a a) false) = true then k0 true else k0 (cLe (V.gv (V.mRoot (V.gv (V.mMul a a)))) s)) = k0 true := by
  cases h : V.gn (V.mRoot (V.gv (V.mMul a a))) (V.gn (V.mMul a a) false) with
  | true => simp
  | false => rw [order3 hs ha h]; simp
theorem min64_big : isG (-9223372036854775808) = true := by decide
theorem order_v {α : Type} (a b c : Int) (ha : -9223372036854775808 ≤ a) (hc : -9223372036854775808 ≤ c ∧ c < 9223372036854775808) (k0 : Bool → Option α) : M.order a b c k0 = k0 true := by
  unfold M.order
  have hlh := lowHigh a b
  generalize (if b < a then b else a) = lo at *
  generalize (if b > a then b else a) = hi at *
  have last : (if cLt a (0 : Int) = true then
            if cLt (-9223372036854775808 : Int) a = true then
              if V.gn (V.mRoot (V.gv (V.mMul a a))) (V.gn (V.mMul a a) false) = true then k0 true
              else k0 (cLe (V.gv (V.mRoot (V.gv (V.mMul a a)))) (IntKind.wrap IntKind.i64 ((0 : Int) - a)))
            else if V.gn (V.mRoot (V.gv (V.mMul a a))) (V.gn (V.mMul a a) false) = true then k0 true else k0 (cLe (V.gv (V.mRoot (V.gv (V.mMul a a)))) a)
          else if V.gn (V.mRoot (V.gv (V.mMul a a))) (V.gn (V.mMul a a) false) = true then k0 true else k0 (cLe (V.gv (V.mRoot (V.gv (V.mMul a a)))) a)) = k0 true := by
    rw [cLt_eq, cLt_eq]
    by_cases h1 : a < 0
    · by_cases h2 : -9223372036854775808 < a
      · simp only [h1, h2, decide_true, if_true]
        rw [IntWalk.i64_in _ (by omega)]
        exact fin3 k0 (by omega) (by rw [Int.zero_sub, Int.neg_mul_neg])
      · have : a = -9223372036854775808 := by omega
        subst this
        have e : V.mMul (-9223372036854775808) (-9223372036854775808) = none := by decide
        simp [e, V.gn]
    · simp only [h1, decide_false, Bool.false_eq_true, if_false]
      exact fin3 k0 (by omega) rfl
  simp only [last]
  rw [cLt_eq]
  by_cases h1 : c < 0
  · simp only [h1, decide_true, if_true]
    rw [ite_skip (order2 hlh)]
    rw [IntWalk.i64_in (c + 1) (by omega), IntWalk.i64_in (0 - (c + 1)) (by omega)]
    exact ite_skip (order1 hlh (by omega))
  · simp only [h1, decide_false, Bool.false_eq_true, if_false]
    rw [ite_skip (order2 hlh)]
    exact ite_skip (order1 hlh (by omega))
noncomputable def order_h {α : Type} (ds : List D) (Q : SV → Hp → Option α) : Option α :=
  dI ds fun a ds => dI ds fun b ds => dI ds fun c ds => dE ds (if -9223372036854775808 ≤ a ∧ -9223372036854775808 ≤ c ∧ c < 9223372036854775808 then Q (.bool true) ([]) else none)
theorem order_h_ok {α : Type} : FnOk E.P 6 (fEnt (α := α) order_sp order_h) :=
  fEnt_ok E (look_awake_ok) (exec_sound E E_ok (look_awake_ok) (noLps_ok _) 400) fun ds Q r h => by
    unfold order_h at h
    obtain ⟨a, ds, rfl, h1⟩ := dI_inv h
    obtain ⟨b, ds, rfl, h2⟩ := dI_inv h1
    obtain ⟨c, ds, rfl, h3⟩ := dI_inv h2
    obtain ⟨rfl, hE⟩ := dE_inv h3
    split at hE
    · rename_i hg
      exact ⟨[SV.int IntKind.i64 a, SV.int IntKind.i64 b, SV.int IntKind.i64 c], [], fun vs => by kernel_rfl, (order_eq a b c Q).trans ((order_v a b c hg.1 hg.2 _).trans hE)⟩
    · cases hE
end Go.Proofs.Ytdkkbbpmjpcfkaa.Sx
