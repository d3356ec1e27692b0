/- vec: what is made whole is whole; what is turned and turned back. -/
import Derived.Test.YtmcifgaaojgheaaVecP
namespace Go.Proofs.Ytmcifgaaojgheaa.Sx
open Go
set_option linter.unusedVariables false
set_option linter.unusedSimpArgs false
theorem mul_bd {a b m n : Int} (h1 : -m ≤ a) (h2 : a ≤ m) (h3 : -n ≤ b) (h4 : b ≤ n) : -(m * n) ≤ a * b ∧ a * b ≤ m * n := by
  have e1 : 0 ≤ (m + a) * (n + b) := Int.mul_nonneg (by omega) (by omega)
  have e2 : 0 ≤ (m - a) * (n - b) := Int.mul_nonneg (by omega) (by omega)
  have e3 : 0 ≤ (m + a) * (n - b) := Int.mul_nonneg (by omega) (by omega)
  have e4 : 0 ≤ (m - a) * (n + b) := Int.mul_nonneg (by omega) (by omega)
  have f1 : (m + a) * (n + b) = m * n + m * b + a * n + a * b := by grind
  have f2 : (m - a) * (n - b) = m * n - m * b - a * n + a * b := by grind
  have f3 : (m + a) * (n - b) = m * n - m * b + a * n - a * b := by grind
  have f4 : (m - a) * (n + b) = m * n + m * b - a * n - a * b := by grind
  omega
/-- A quotient that is rounded down, by a length: its square. -/
theorem part_sq {a n t : Int} (hn : 0 < n) (h1 : -n ≤ a) (h2 : a ≤ n) (ht : t = Int.fdiv (a * 4294967296) n) :
    -4294967296 ≤ t ∧ t ≤ 4294967296 ∧ ∃ r, 0 ≤ r ∧ r < n ∧ n * n * (t * t) = a * a * 18446744073709551616 - 8589934592 * (a * r) + r * r := by
  rw [fdiv_pos _ _ hn] at ht
  have e1 : a * 4294967296 / n * n + a * 4294967296 % n = a * 4294967296 := Int.ediv_mul_add_emod _ n
  have e2 : 0 ≤ a * 4294967296 % n := Int.emod_nonneg _ (by omega)
  have e3 : a * 4294967296 % n < n := Int.emod_lt_of_pos _ hn
  rw [← ht] at e1
  generalize a * 4294967296 % n = r at *
  refine ⟨?_, ?_, r, e2, e3, ?_⟩
  · rw [ht]; exact Int.le_ediv_of_mul_le hn (by omega)
  · rw [ht]; exact Int.ediv_le_of_le_mul hn (by omega)
  · have : n * n * (t * t) = (t * n) * (t * n) := by grind
    rw [this, show t * n = a * 4294967296 - r by omega]
    grind
/-- parts' sizes together -/
theorem four_sum {a b c d n : Int} (hn : 0 ≤ n) (h : a * a + (b * b + (c * c + d * d)) < (n + 1) * (n + 1)) : a + b + c + d ≤ 2 * n + 1 := by
  have e : (a + b + c + d) * (a + b + c + d) + ((a - b) * (a - b) + (a - c) * (a - c) + (a - d) * (a - d) + (b - c) * (b - c) + (b - d) * (b - d) + (c - d) * (c - d)) = 4 * (a * a + (b * b + (c * c + d * d))) := by grind
  have := sq_nn (a - b); have := sq_nn (a - c); have := sq_nn (a - d); have := sq_nn (b - c); have := sq_nn (b - d); have := sq_nn (c - d)
  by_cases hh : a + b + c + d ≤ 2 * n + 1
  · exact hh
  · have : (2 * n + 2) * (2 * n + 2) ≤ (a + b + c + d) * (a + b + c + d) := Int.mul_le_mul (by omega) (by omega) (by omega) (by omega)
    have e2 : (2 * n + 2) * (2 * n + 2) = 4 * ((n + 1) * (n + 1)) := by grind
    omega
theorem natAbs_sq (a : Int) : (a.natAbs : Int) * a.natAbs = a * a := by
  rcases Int.natAbs_eq a with h | h <;> (generalize a.natAbs = m at *; subst h; grind)
theorem rest_bd {a r n : Int} (h1 : 0 ≤ r) (h2 : r ≤ n) : -(n * (a.natAbs : Int)) ≤ a * r ∧ a * r ≤ n * (a.natAbs : Int) := by
  have := mul_bd (a := a) (b := r) (m := a.natAbs) (n := n) (by omega) (by omega) (by omega) (by omega)
  rw [Int.mul_comm (a.natAbs : Int) n] at this
  exact this
theorem whole_norm {q t : V.T4} (h : V.tWhole q = some t) : 18446744056529682423 ≤ t.1 * t.1 + (t.2.1 * t.2.1 + (t.2.2.1 * t.2.2.1 + t.2.2.2 * t.2.2.2)) ∧
    t.1 * t.1 + (t.2.1 * t.2.1 + (t.2.2.1 * t.2.2.1 + t.2.2.2 * t.2.2.2)) ≤ 18446744108069289992 := by
  obtain ⟨n, hn, hlo, h1, h2, h3, h4⟩ := tWhole_some.1 h
  obtain ⟨w, x, y, z⟩ := q
  obtain ⟨tw, tx, ty, tz⟩ := t
  obtain ⟨_, _, _, _, hs, hm⟩ := mNorm4_some.1 hn
  simp only at hs h1 h2 h3 h4 ⊢
  have pw := sq_nn w; have px := sq_nn x; have py := sq_nn y; have pz := sq_nn z
  have hS : 0 ≤ w * w + (x * x + (y * y + z * z)) := by omega
  obtain ⟨q0, q1, q2⟩ := isqSpec hS
  rw [← hs] at q0 q1 q2
  have bw := sq_le (a := w) q0 (by omega)
  have bx := sq_le (a := x) q0 (by omega)
  have b_y := sq_le (a := y) q0 (by omega)
  have bz := sq_le (a := z) q0 (by omega)
  obtain ⟨_, _, r0, c0, d0, e0⟩ := part_sq (by omega) bw.1 bw.2 (mDiv_some.1 h1).2.2.2.2
  obtain ⟨_, _, r1, c1, d1, e1⟩ := part_sq (by omega) bx.1 bx.2 (mDiv_some.1 h2).2.2.2.2
  obtain ⟨_, _, r2, c2, d2, e2⟩ := part_sq (by omega) b_y.1 b_y.2 (mDiv_some.1 h3).2.2.2.2
  obtain ⟨_, _, r3, c3, d3, e3⟩ := part_sq (by omega) bz.1 bz.2 (mDiv_some.1 h4).2.2.2.2
  have f0 := rest_bd (a := w) c0 (Int.le_of_lt d0)
  have f1 := rest_bd (a := x) c1 (Int.le_of_lt d1)
  have f2 := rest_bd (a := y) c2 (Int.le_of_lt d2)
  have f3 := rest_bd (a := z) c3 (Int.le_of_lt d3)
  have g := four_sum (a := w.natAbs) (b := x.natAbs) (c := y.natAbs) (d := z.natAbs) q0 (by rw [natAbs_sq, natAbs_sq, natAbs_sq, natAbs_sq]; exact q2)
  have g2 : n * ((w.natAbs : Int) + x.natAbs + y.natAbs + z.natAbs) ≤ n * (2 * n + 1) := Int.mul_le_mul_of_nonneg_left g q0
  have g3 : n * ((w.natAbs : Int) + x.natAbs + y.natAbs + z.natAbs) = n * (w.natAbs : Int) + n * (x.natAbs : Int) + n * (y.natAbs : Int) + n * (z.natAbs : Int) := by grind
  have g4 : n * (2 * n + 1) = 2 * (n * n) + n := by grind
  have k0 : r0 * r0 ≤ n * n := Int.mul_le_mul (by omega) (by omega) c0 (by omega)
  have k1 : r1 * r1 ≤ n * n := Int.mul_le_mul (by omega) (by omega) c1 (by omega)
  have k2 : r2 * r2 ≤ n * n := Int.mul_le_mul (by omega) (by omega) c2 (by omega)
  have k3 : r3 * r3 ≤ n * n := Int.mul_le_mul (by omega) (by omega) c3 (by omega)
  have := sq_nn r0; have := sq_nn r1; have := sq_nn r2; have := sq_nn r3
  have hc : n * 2147483648 ≤ n * n := Int.mul_le_mul_of_nonneg_left hlo q0
  have hN : 0 < n * n := Int.mul_pos (by omega) (by omega)
  have e5 : (n + 1) * (n + 1) = n * n + 2 * n + 1 := by grind
  rw [e5] at q2
  have eT : n * n * (tw * tw + (tx * tx + (ty * ty + tz * tz))) = n * n * (tw * tw) + (n * n * (tx * tx) + (n * n * (ty * ty) + n * n * (tz * tz))) := by grind
  generalize tw * tw + (tx * tx + (ty * ty + tz * tz)) = T at *
  rw [e0, e1, e2, e3] at eT
  generalize n * n = N at *
  constructor
  · refine Int.le_of_mul_le_mul_left (a := N) ?_ hN
    rw [eT]; omega
  · refine Int.le_of_mul_le_mul_left (a := N) ?_ hN
    rw [eT]; omega
theorem two_some {a b c d : Int} (ha : -8589934608 ≤ a ∧ a ≤ 8589934608) (hb : -8589934608 ≤ b ∧ b ≤ 8589934608) (hc : -4294967304 ≤ c ∧ c ≤ 4294967304) (hd : -4294967304 ≤ d ∧ d ≤ 4294967304) :
    V.two a b c d = some ((a * c + b * d) / 4294967296) ∧ -17179869256 ≤ (a * c + b * d) / 4294967296 ∧ (a * c + b * d) / 4294967296 ≤ 17179869256 := by
  have e1 := mul_bd ha.1 ha.2 hc.1 hc.2
  have e2 := mul_bd hb.1 hb.2 hd.1 hd.2
  refine ⟨mDot2_some.2 ⟨?_, ?_, ?_, ?_, ?_, rfl⟩, by omega, by omega⟩ <;> unfold Gd <;> omega
theorem dbl_eq {n : Int} (h : -4294967304 ≤ n ∧ n ≤ 4294967304) : V.mAdd n n = some (n + n) := mAdd_some.2 ⟨by unfold Gd; omega, by unfold Gd; omega, by unfold Gd; omega, rfl⟩
theorem neg_eq1 {n : Int} (h : -4294967304 ≤ n ∧ n ≤ 4294967304) : V.mSub 0 n = some (-n) := negO.2 ⟨by unfold Gd; omega, rfl⟩
theorem one_eq {n : Int} (h1 : -17179869256 ≤ n) (h2 : n ≤ 17179869256) : V.mSub 4294967296 n = some (4294967296 - n) := mSub_some.2 ⟨by decide, by unfold Gd; omega, by unfold Gd; omega, rfl⟩
def rowsM (w x y z : Int) : V.T9 :=
  ((4294967296 - ((y + y) * y + (z + z) * z) / 4294967296, ((x + x) * y + (w + w) * -z) / 4294967296, ((x + x) * z + (w + w) * y) / 4294967296),
   (((x + x) * y + (w + w) * z) / 4294967296, 4294967296 - ((x + x) * x + (z + z) * z) / 4294967296, ((y + y) * z + (w + w) * -x) / 4294967296),
   (((x + x) * z + (w + w) * -y) / 4294967296, ((y + y) * z + (w + w) * x) / 4294967296, 4294967296 - ((x + x) * x + (y + y) * y) / 4294967296))
theorem rows_some {w x y z : Int} (hw : -4294967304 ≤ w ∧ w ≤ 4294967304) (hx : -4294967304 ≤ x ∧ x ≤ 4294967304) (hy : -4294967304 ≤ y ∧ y ≤ 4294967304) (hz : -4294967304 ≤ z ∧ z ≤ 4294967304) :
    V.tRows (w, x, y, z) = some (rowsM w x y z) := by
  have dw : -8589934608 ≤ w + w ∧ w + w ≤ 8589934608 := by omega
  have dx : -8589934608 ≤ x + x ∧ x + x ≤ 8589934608 := by omega
  have dy : -8589934608 ≤ y + y ∧ y + y ≤ 8589934608 := by omega
  have dz : -8589934608 ≤ z + z ∧ z + z ≤ 8589934608 := by omega
  have nx : -4294967304 ≤ -x ∧ -x ≤ 4294967304 := by omega
  have ny : -4294967304 ≤ -y ∧ -y ≤ 4294967304 := by omega
  have nz : -4294967304 ≤ -z ∧ -z ≤ 4294967304 := by omega
  have a0 := two_some dy dz hy hz
  have a4 := two_some dx dz hx hz
  have a8 := two_some dx dy hx hy
  unfold V.tRows rowsM
  simp only [V.dbl, V.neg, dbl_eq hw, dbl_eq hx, dbl_eq hy, dbl_eq hz, neg_eq1 hx, neg_eq1 hy, neg_eq1 hz, gv_some, a0.1, a4.1, a8.1, one_eq a0.2.1 a0.2.2, one_eq a4.2.1 a4.2.2, one_eq a8.2.1 a8.2.2,
    (two_some dx dw hy nz).1, (two_some dx dw hz hy).1, (two_some dx dw hy hz).1, (two_some dy dw hz nx).1, (two_some dx dw hz ny).1, (two_some dy dw hz hx).1]
  rfl
/-- one part of what is turned -/
theorem turn_part {n0 n1 n2 p0 p1 p2 d0 d1 d2 a0 a1 a2 t L : Int} (hL : 0 ≤ L) (h0 : 4294967296 * n0 = p0 + d0) (h1 : 4294967296 * n1 = p1 + d1) (h2 : 4294967296 * n2 = p2 + d2)
    (e0 : -4294967296 ≤ d0 ∧ d0 ≤ 4294967296) (e1 : -4294967296 ≤ d1 ∧ d1 ≤ 4294967296) (e2 : -4294967296 ≤ d2 ∧ d2 ≤ 4294967296)
    (b0 : -L ≤ a0 ∧ a0 ≤ L) (b1 : -L ≤ a1 ∧ a1 ≤ L) (b2 : -L ≤ a2 ∧ a2 ≤ L) (ht : t = (n0 * a0 + (n1 * a1 + n2 * a2)) / 4294967296) :
    ∃ E, 18446744073709551616 * t = (p0 * a0 + (p1 * a1 + p2 * a2)) + E ∧ -(12884901888 * L + 18446744073709551616) ≤ E ∧ E ≤ 12884901888 * L + 18446744073709551616 := by
  have f0 := mul_bd e0.1 e0.2 b0.1 b0.2
  have f1 := mul_bd e1.1 e1.2 b1.1 b1.2
  have f2 := mul_bd e2.1 e2.2 b2.1 b2.2
  have g0 : 4294967296 * (n0 * a0) = p0 * a0 + d0 * a0 := by rw [← Int.mul_assoc, h0, Int.add_mul]
  have g1 : 4294967296 * (n1 * a1) = p1 * a1 + d1 * a1 := by rw [← Int.mul_assoc, h1, Int.add_mul]
  have g2 : 4294967296 * (n2 * a2) = p2 * a2 + d2 * a2 := by rw [← Int.mul_assoc, h2, Int.add_mul]
  exact ⟨18446744073709551616 * t - (p0 * a0 + (p1 * a1 + p2 * a2)), by omega, by omega, by omega⟩
/-- one part of what is turned back -/
theorem back_part {n0 n1 n2 p0 p1 p2 d0 d1 d2 t0 t1 t2 u0 u1 u2 E0 E1 E2 a b L K : Int} (hL : 0 ≤ L) (h0 : 4294967296 * n0 = p0 + d0) (h1 : 4294967296 * n1 = p1 + d1) (h2 : 4294967296 * n2 = p2 + d2)
    (e0 : -4294967296 ≤ d0 ∧ d0 ≤ 4294967296) (e1 : -4294967296 ≤ d1 ∧ d1 ≤ 4294967296) (e2 : -4294967296 ≤ d2 ∧ d2 ≤ 4294967296)
    (q0 : -36893488147419103232 ≤ p0 ∧ p0 ≤ 36893488147419103232) (q1 : -36893488147419103232 ≤ p1 ∧ p1 ≤ 36893488147419103232) (q2 : -36893488147419103232 ≤ p2 ∧ p2 ≤ 36893488147419103232)
    (s0 : 18446744073709551616 * t0 = u0 + E0) (s1 : 18446744073709551616 * t1 = u1 + E1) (s2 : 18446744073709551616 * t2 = u2 + E2)
    (r0 : -(12884901888 * L + 18446744073709551616) ≤ E0 ∧ E0 ≤ 12884901888 * L + 18446744073709551616) (r1 : -(12884901888 * L + 18446744073709551616) ≤ E1 ∧ E1 ≤ 12884901888 * L + 18446744073709551616)
    (r2 : -(12884901888 * L + 18446744073709551616) ≤ E2 ∧ E2 ≤ 12884901888 * L + 18446744073709551616)
    (v0 : -(7 * L + 2) ≤ t0 ∧ t0 ≤ 7 * L + 2) (v1 : -(7 * L + 2) ≤ t1 ∧ t1 ≤ 7 * L + 2) (v2 : -(7 * L + 2) ≤ t2 ∧ t2 ≤ 7 * L + 2)
    (hK : -(K * L) ≤ p0 * u0 + (p1 * u1 + p2 * u2) - 340282366920938463463374607431768211456 * a ∧ p0 * u0 + (p1 * u1 + p2 * u2) - 340282366920938463463374607431768211456 * a ≤ K * L)
    (hK2 : K = 17113283103081096920205493272576) (hb : b = (n0 * t0 + (n1 * t1 + n2 * t2)) / 4294967296) :
    -(255 * L + 38654705664) ≤ 4294967296 * (b - a) ∧ 4294967296 * (b - a) ≤ 255 * L + 38654705664 := by
  have f0 := mul_bd e0.1 e0.2 v0.1 v0.2
  have f1 := mul_bd e1.1 e1.2 v1.1 v1.2
  have f2 := mul_bd e2.1 e2.2 v2.1 v2.2
  have k0 := mul_bd q0.1 q0.2 r0.1 r0.2
  have k1 := mul_bd q1.1 q1.2 r1.1 r1.2
  have k2 := mul_bd q2.1 q2.2 r2.1 r2.2
  have g0 : 4294967296 * (n0 * t0) = p0 * t0 + d0 * t0 := by rw [← Int.mul_assoc, h0, Int.add_mul]
  have g1 : 4294967296 * (n1 * t1) = p1 * t1 + d1 * t1 := by rw [← Int.mul_assoc, h1, Int.add_mul]
  have g2 : 4294967296 * (n2 * t2) = p2 * t2 + d2 * t2 := by rw [← Int.mul_assoc, h2, Int.add_mul]
  have m0 : 18446744073709551616 * (p0 * t0) = p0 * u0 + p0 * E0 := by rw [← Int.mul_add, ← s0]; grind
  have m1 : 18446744073709551616 * (p1 * t1) = p1 * u1 + p1 * E1 := by rw [← Int.mul_add, ← s1]; grind
  have m2 : 18446744073709551616 * (p2 * t2) = p2 * u2 + p2 * E2 := by rw [← Int.mul_add, ← s2]; grind
  subst hK2
  generalize p0 * t0 = x0 at *
  generalize p1 * t1 = x1 at *
  generalize p2 * t2 = x2 at *
  generalize n0 * t0 = y0 at *
  generalize n1 * t1 = y1 at *
  generalize n2 * t2 = y2 at *
  generalize p0 * E0 = w0 at *
  generalize p1 * E1 = w1 at *
  generalize p2 * E2 = w2 at *
  generalize d0 * t0 = z0 at *
  generalize d1 * t1 = z1 at *
  generalize d2 * t2 = z2 at *
  generalize p0 * u0 = U0 at *
  generalize p1 * u1 = U1 at *
  generalize p2 * u2 = U2 at *
  clear s0 s1 s2 h0 h1 h2 e0 e1 e2 q0 q1 q2 r0 r1 r2 v0 v1 v2
  omega
/-- an entry: near to the exact one -/
theorem entry {s p : Int} (h : s = p) : ∃ d, 4294967296 * (s / 4294967296) = p + d ∧ -4294967296 ≤ d ∧ d ≤ 4294967296 := ⟨4294967296 * (s / 4294967296) - p, by omega, by omega, by omega⟩
theorem entry1 {s p : Int} (h : 18446744073709551616 - s = p) : ∃ d, 4294967296 * (4294967296 - s / 4294967296) = p + d ∧ -4294967296 ≤ d ∧ d ≤ 4294967296 := ⟨4294967296 * (4294967296 - s / 4294967296) - p, by omega, by omega, by omega⟩
/-- the exact matrix's columns stand across one another, but for how far the turn is from whole -/
theorem col_bd {xy xz yy zz a b c L D : Int} (hL : 0 ≤ L) (h1 : -4294967304 * 4294967304 ≤ xy ∧ xy ≤ 4294967304 * 4294967304) (h2 : -4294967304 * 4294967304 ≤ xz ∧ xz ≤ 4294967304 * 4294967304)
    (h3 : 0 ≤ yy ∧ yy ≤ 4294967304 * 4294967304) (h4 : 0 ≤ zz ∧ zz ≤ 4294967304 * 4294967304) (ha : -L ≤ a ∧ a ≤ L) (hb : -L ≤ b ∧ b ≤ L) (hc : -L ≤ c ∧ c ≤ L) (hD : -34359738376 ≤ D ∧ D ≤ 34359738376) :
    -(17113283103081096920205493272576 * L) ≤ 4 * D * (xy * b + xz * c - (yy + zz) * a) ∧ 4 * D * (xy * b + xz * c - (yy + zz) * a) ≤ 17113283103081096920205493272576 * L := by
  have e1 := mul_bd (m := 18446744142429028416) (n := L) (a := xy) (b := b) (by omega) (by omega) hb.1 hb.2
  have e2 := mul_bd (m := 18446744142429028416) (n := L) (a := xz) (b := c) (by omega) (by omega) hc.1 hc.2
  have e3 := mul_bd (m := 36893488284858056832) (n := L) (a := yy + zz) (b := a) (by omega) (by omega) ha.1 ha.2
  have e4 := mul_bd (m := 137438953504) (n := 73786976569716113664 * L) (a := 4 * D) (b := xy * b + xz * c - (yy + zz) * a) (by omega) (by omega) (by omega) (by omega)
  omega
theorem small_t {u E t L : Int} (hL : 0 ≤ L) (h : 18446744073709551616 * t = u + E) (h1 : -(12884901888 * L + 18446744073709551616) ≤ E) (h2 : E ≤ 12884901888 * L + 18446744073709551616) (h3 : -(110680464442257309696 * L) ≤ u) (h4 : u ≤ 110680464442257309696 * L) : -(7 * L + 2) ≤ t ∧ t ≤ 7 * L + 2 := by omega
theorem exact_u {p0 p1 p2 a0 a1 a2 L : Int} (q0 : -36893488147419103232 ≤ p0 ∧ p0 ≤ 36893488147419103232) (q1 : -36893488147419103232 ≤ p1 ∧ p1 ≤ 36893488147419103232) (q2 : -36893488147419103232 ≤ p2 ∧ p2 ≤ 36893488147419103232)
    (b0 : -L ≤ a0 ∧ a0 ≤ L) (b1 : -L ≤ a1 ∧ a1 ≤ L) (b2 : -L ≤ a2 ∧ a2 ≤ L) : -(110680464442257309696 * L) ≤ p0 * a0 + (p1 * a1 + p2 * a2) ∧ p0 * a0 + (p1 * a1 + p2 * a2) ≤ 110680464442257309696 * L := by
  have f0 := mul_bd q0.1 q0.2 b0.1 b0.2
  have f1 := mul_bd q1.1 q1.2 b1.1 b1.2
  have f2 := mul_bd q2.1 q2.2 b2.1 b2.2
  omega
theorem ortho0 (C w x y z a0 a1 a2 : Int) : (C - 2 * (y * y) - 2 * (z * z)) * ((C - 2 * (y * y) - 2 * (z * z)) * a0 + ((2 * (x * y) - 2 * (w * z)) * a1 + (2 * (x * z) + 2 * (w * y)) * a2)) + ((2 * (x * y) + 2 * (w * z)) * ((2 * (x * y) + 2 * (w * z)) * a0 + ((C - 2 * (x * x) - 2 * (z * z)) * a1 + (2 * (y * z) - 2 * (w * x)) * a2)) + (2 * (x * z) - 2 * (w * y)) * ((2 * (x * z) - 2 * (w * y)) * a0 + ((2 * (y * z) + 2 * (w * x)) * a1 + (C - 2 * (x * x) - 2 * (y * y)) * a2))) - C * C * a0 = 4 * (C - (w * w + (x * x + (y * y + z * z)))) * (x * y * a1 + x * z * a2 - (y * y + z * z) * a0) := by grind
theorem ortho1 (C w x y z a0 a1 a2 : Int) : (2 * (x * y) - 2 * (w * z)) * ((C - 2 * (y * y) - 2 * (z * z)) * a0 + ((2 * (x * y) - 2 * (w * z)) * a1 + (2 * (x * z) + 2 * (w * y)) * a2)) + ((C - 2 * (x * x) - 2 * (z * z)) * ((2 * (x * y) + 2 * (w * z)) * a0 + ((C - 2 * (x * x) - 2 * (z * z)) * a1 + (2 * (y * z) - 2 * (w * x)) * a2)) + (2 * (y * z) + 2 * (w * x)) * ((2 * (x * z) - 2 * (w * y)) * a0 + ((2 * (y * z) + 2 * (w * x)) * a1 + (C - 2 * (x * x) - 2 * (y * y)) * a2))) - C * C * a1 = 4 * (C - (w * w + (x * x + (y * y + z * z)))) * (x * y * a0 + y * z * a2 - (x * x + z * z) * a1) := by grind
theorem ortho2 (C w x y z a0 a1 a2 : Int) : (2 * (x * z) + 2 * (w * y)) * ((C - 2 * (y * y) - 2 * (z * z)) * a0 + ((2 * (x * y) - 2 * (w * z)) * a1 + (2 * (x * z) + 2 * (w * y)) * a2)) + ((2 * (y * z) - 2 * (w * x)) * ((2 * (x * y) + 2 * (w * z)) * a0 + ((C - 2 * (x * x) - 2 * (z * z)) * a1 + (2 * (y * z) - 2 * (w * x)) * a2)) + (C - 2 * (x * x) - 2 * (y * y)) * ((2 * (x * z) - 2 * (w * y)) * a0 + ((2 * (y * z) + 2 * (w * x)) * a1 + (C - 2 * (x * x) - 2 * (y * y)) * a2))) - C * C * a2 = 4 * (C - (w * w + (x * x + (y * y + z * z)))) * (x * z * a0 + y * z * a1 - (x * x + y * y) * a2) := by grind
theorem amgm (a b : Int) : -(a * a + b * b) ≤ 2 * (a * b) ∧ 2 * (a * b) ≤ a * a + b * b := by
  have h1 := sq_nn (a + b)
  have h2 := sq_nn (a - b)
  have e1 : (a + b) * (a + b) = a * a + b * b + 2 * (a * b) := by grind
  have e2 : (a - b) * (a - b) = a * a + b * b - 2 * (a * b) := by grind
  omega
theorem ex0 (y z : Int) : 18446744073709551616 - ((y + y) * y + (z + z) * z) = 18446744073709551616 - 2 * (y * y) - 2 * (z * z) := by grind
theorem ex1 (w x y z : Int) : (x + x) * y + (w + w) * -z = 2 * (x * y) - 2 * (w * z) := by grind
theorem ex2 (w x y z : Int) : (x + x) * z + (w + w) * y = 2 * (x * z) + 2 * (w * y) := by grind
theorem ex3 (w x y z : Int) : (x + x) * y + (w + w) * z = 2 * (x * y) + 2 * (w * z) := by grind
theorem ex4 (x z : Int) : 18446744073709551616 - ((x + x) * x + (z + z) * z) = 18446744073709551616 - 2 * (x * x) - 2 * (z * z) := by grind
theorem ex5 (w x y z : Int) : (y + y) * z + (w + w) * -x = 2 * (y * z) - 2 * (w * x) := by grind
theorem ex6 (w x y z : Int) : (x + x) * z + (w + w) * -y = 2 * (x * z) - 2 * (w * y) := by grind
theorem ex7 (w x y z : Int) : (y + y) * z + (w + w) * x = 2 * (y * z) + 2 * (w * x) := by grind
theorem ex8 (x y : Int) : 18446744073709551616 - ((x + x) * x + (y + y) * y) = 18446744073709551616 - 2 * (x * x) - 2 * (y * y) := by grind
theorem diag_bd {a b T : Int} (h0 : 0 ≤ a) (h1 : 0 ≤ b) (h2 : a + b ≤ T) (hT : T ≤ 18446744108069289992) : -36893488147419103232 ≤ 18446744073709551616 - 2 * a - 2 * b ∧ 18446744073709551616 - 2 * a - 2 * b ≤ 36893488147419103232 := by omega
theorem off_sub {p q a b T : Int} (h1 : -a ≤ 2 * p ∧ 2 * p ≤ a) (h2 : -b ≤ 2 * q ∧ 2 * q ≤ b) (h3 : a + b ≤ T) (hT : T ≤ 18446744108069289992) : -36893488147419103232 ≤ 2 * p - 2 * q ∧ 2 * p - 2 * q ≤ 36893488147419103232 := by omega
theorem off_add {p q a b T : Int} (h1 : -a ≤ 2 * p ∧ 2 * p ≤ a) (h2 : -b ≤ 2 * q ∧ 2 * q ≤ b) (h3 : a + b ≤ T) (hT : T ≤ 18446744108069289992) : -36893488147419103232 ≤ 2 * p + 2 * q ∧ 2 * p + 2 * q ≤ 36893488147419103232 := by omega
theorem four_le {a b c d T : Int} (h0 : 0 ≤ a) (h1 : 0 ≤ b) (h2 : 0 ≤ c) (h3 : 0 ≤ d) (h : a + (b + (c + d)) = T) : c + d ≤ T ∧ b + d ≤ T ∧ b + c ≤ T ∧ (b + c) + (a + d) ≤ T ∧ (b + d) + (a + c) ≤ T ∧ (c + d) + (a + b) ≤ T := by omega
theorem four_sq {a b c d : Int} (hT : a * a + (b * b + (c * c + d * d)) ≤ 18446744108069289992) : (-4294967304 ≤ a ∧ a ≤ 4294967304) ∧ (-4294967304 ≤ b ∧ b ≤ 4294967304) ∧ (-4294967304 ≤ c ∧ c ≤ 4294967304) ∧ (-4294967304 ≤ d ∧ d ≤ 4294967304) := by
  have pw := sq_nn a; have px := sq_nn b; have py := sq_nn c; have pz := sq_nn d
  exact ⟨sq_le (r := 4294967304) (by omega) (by omega), sq_le (r := 4294967304) (by omega) (by omega), sq_le (r := 4294967304) (by omega) (by omega), sq_le (r := 4294967304) (by omega) (by omega)⟩
theorem sq_up {a : Int} (h : -4294967304 ≤ a ∧ a ≤ 4294967304) : 0 ≤ a * a ∧ a * a ≤ 4294967304 * 4294967304 := ⟨sq_nn a, (mul_bd h.1 h.2 h.1 h.2).2⟩
theorem pr_up {a b : Int} (h : -4294967304 ≤ a ∧ a ≤ 4294967304) (h' : -4294967304 ≤ b ∧ b ≤ 4294967304) : -4294967304 * 4294967304 ≤ a * b ∧ a * b ≤ 4294967304 * 4294967304 := by
  have := mul_bd h.1 h.2 h'.1 h'.2
  exact ⟨by omega, this.2⟩
/-- one column -/
theorem back_col {w x y z a0 a1 a2 L : Int} {n : Int × Int × Int} {p0 p1 p2 d0 d1 d2 t0 t1 t2 u0 u1 u2 E0 E1 E2 a R : Int} (hL : 0 ≤ L) (h0 : 4294967296 * n.1 = p0 + d0) (h1 : 4294967296 * n.2.1 = p1 + d1) (h2 : 4294967296 * n.2.2 = p2 + d2)
    (e0 : -4294967296 ≤ d0 ∧ d0 ≤ 4294967296) (e1 : -4294967296 ≤ d1 ∧ d1 ≤ 4294967296) (e2 : -4294967296 ≤ d2 ∧ d2 ≤ 4294967296)
    (q0 : -36893488147419103232 ≤ p0 ∧ p0 ≤ 36893488147419103232) (q1 : -36893488147419103232 ≤ p1 ∧ p1 ≤ 36893488147419103232) (q2 : -36893488147419103232 ≤ p2 ∧ p2 ≤ 36893488147419103232)
    (s0 : 18446744073709551616 * t0 = u0 + E0) (s1 : 18446744073709551616 * t1 = u1 + E1) (s2 : 18446744073709551616 * t2 = u2 + E2)
    (r0 : -(12884901888 * L + 18446744073709551616) ≤ E0 ∧ E0 ≤ 12884901888 * L + 18446744073709551616) (r1 : -(12884901888 * L + 18446744073709551616) ≤ E1 ∧ E1 ≤ 12884901888 * L + 18446744073709551616)
    (r2 : -(12884901888 * L + 18446744073709551616) ≤ E2 ∧ E2 ≤ 12884901888 * L + 18446744073709551616)
    (v0 : -(7 * L + 2) ≤ t0 ∧ t0 ≤ 7 * L + 2) (v1 : -(7 * L + 2) ≤ t1 ∧ t1 ≤ 7 * L + 2) (v2 : -(7 * L + 2) ≤ t2 ∧ t2 ≤ 7 * L + 2)
    (hR : p0 * u0 + (p1 * u1 + p2 * u2) - 18446744073709551616 * 18446744073709551616 * a = R) (hK : -(17113283103081096920205493272576 * L) ≤ R ∧ R ≤ 17113283103081096920205493272576 * L) :
    -(255 * L + 38654705664) ≤ 4294967296 * ((n.1 * t0 + (n.2.1 * t1 + n.2.2 * t2)) / 4294967296 - a) ∧ 4294967296 * ((n.1 * t0 + (n.2.1 * t1 + n.2.2 * t2)) / 4294967296 - a) ≤ 255 * L + 38654705664 := by
  rw [← hR] at hK
  exact back_part hL h0 h1 h2 e0 e1 e2 q0 q1 q2 s0 s1 s2 r0 r1 r2 v0 v1 v2 hK rfl rfl
theorem dev_bd {T : Int} (h1 : 18446744056529682423 ≤ T) (h2 : T ≤ 18446744108069289992) : -34359738376 ≤ 18446744073709551616 - T ∧ 18446744073709551616 - T ≤ 34359738376 := by omega
theorem gd_small {L t : Int} (h1 : L ≤ 35184372088832) (h2 : -(7 * L + 2) ≤ t ∧ t ≤ 7 * L + 2) : Gd t := by unfold Gd; omega
theorem gd_arg {L t : Int} (h1 : L ≤ 35184372088832) (h2 : -L ≤ t ∧ t ≤ L) : Gd t := by unfold Gd; omega
theorem gd_near {L a b : Int} (h1 : L ≤ 35184372088832) (h2 : -L ≤ a ∧ a ≤ L) (h3 : -(255 * L + 38654705664) ≤ 4294967296 * (b - a) ∧ 4294967296 * (b - a) ≤ 255 * L + 38654705664) : Gd b := by unfold Gd; omega
theorem gd_entry {n p d : Int} (h : 4294967296 * n = p + d) (h1 : -4294967296 ≤ d ∧ d ≤ 4294967296) (h2 : -36893488147419103232 ≤ p ∧ p ≤ 36893488147419103232) : Gd n := by unfold Gd; omega
/-- What is turned and turned back. -/
theorem turn_back {w x y z a0 a1 a2 L : Int} (hT : 18446744056529682423 ≤ w * w + (x * x + (y * y + z * z))) (hT2 : w * w + (x * x + (y * y + z * z)) ≤ 18446744108069289992) (hL : 0 ≤ L) (hL2 : L ≤ 35184372088832)
    (b0 : -L ≤ a0 ∧ a0 ≤ L) (b1 : -L ≤ a1 ∧ a1 ≤ L) (b2 : -L ≤ a2 ∧ a2 ≤ L) :
    ∃ t b, V.tRows (w, x, y, z) = some (rowsM w x y z) ∧ V.tTurn (rowsM w x y z) (a0, a1, a2) = some t ∧ V.tBack (rowsM w x y z) t = some b ∧
      (-(255 * L + 38654705664) ≤ 4294967296 * (b.1 - a0) ∧ 4294967296 * (b.1 - a0) ≤ 255 * L + 38654705664) ∧
      (-(255 * L + 38654705664) ≤ 4294967296 * (b.2.1 - a1) ∧ 4294967296 * (b.2.1 - a1) ≤ 255 * L + 38654705664) ∧
      (-(255 * L + 38654705664) ≤ 4294967296 * (b.2.2 - a2) ∧ 4294967296 * (b.2.2 - a2) ≤ 255 * L + 38654705664) := by
  obtain ⟨hw, hx, hy, hz⟩ := four_sq hT2
  have hr := rows_some hw hx hy hz
  have dev := dev_bd hT hT2
  obtain ⟨f1, f2, f3, f4, f5, f6⟩ := four_le (sq_nn w) (sq_nn x) (sq_nn y) (sq_nn z) rfl
  have q0 := diag_bd (sq_nn y) (sq_nn z) f1 hT2
  have q4 := diag_bd (sq_nn x) (sq_nn z) f2 hT2
  have q8 := diag_bd (sq_nn x) (sq_nn y) f3 hT2
  have q1 := off_sub (amgm x y) (amgm w z) f4 hT2
  have q3 := off_add (amgm x y) (amgm w z) f4 hT2
  have q2 := off_add (amgm x z) (amgm w y) f5 hT2
  have q6 := off_sub (amgm x z) (amgm w y) f5 hT2
  have q5 := off_sub (amgm y z) (amgm w x) f6 hT2
  have q7 := off_add (amgm y z) (amgm w x) f6 hT2
  obtain ⟨d0, i0, j0⟩ := entry1 (ex0 y z)
  obtain ⟨d1, i1, j1⟩ := entry (ex1 w x y z)
  obtain ⟨d2, i2, j2⟩ := entry (ex2 w x y z)
  obtain ⟨d3, i3, j3⟩ := entry (ex3 w x y z)
  obtain ⟨d4, i4, j4⟩ := entry1 (ex4 x z)
  obtain ⟨d5, i5, j5⟩ := entry (ex5 w x y z)
  obtain ⟨d6, i6, j6⟩ := entry (ex6 w x y z)
  obtain ⟨d7, i7, j7⟩ := entry (ex7 w x y z)
  obtain ⟨d8, i8, j8⟩ := entry1 (ex8 x y)
  obtain ⟨E0, s0, r0⟩ := turn_part (t := ((rowsM w x y z).1.1 * a0 + ((rowsM w x y z).1.2.1 * a1 + (rowsM w x y z).1.2.2 * a2)) / 4294967296) hL i0 i1 i2 j0 j1 j2 b0 b1 b2 rfl
  have xu0 := exact_u q0 q1 q2 b0 b1 b2
  have v0 := small_t hL s0 r0.1 r0.2 xu0.1 xu0.2
  obtain ⟨E1, s1, r1⟩ := turn_part (t := ((rowsM w x y z).2.1.1 * a0 + ((rowsM w x y z).2.1.2.1 * a1 + (rowsM w x y z).2.1.2.2 * a2)) / 4294967296) hL i3 i4 i5 j3 j4 j5 b0 b1 b2 rfl
  have xu1 := exact_u q3 q4 q5 b0 b1 b2
  have v1 := small_t hL s1 r1.1 r1.2 xu1.1 xu1.2
  obtain ⟨E2, s2, r2⟩ := turn_part (t := ((rowsM w x y z).2.2.1 * a0 + ((rowsM w x y z).2.2.2.1 * a1 + (rowsM w x y z).2.2.2.2 * a2)) / 4294967296) hL i6 i7 i8 j6 j7 j8 b0 b1 b2 rfl
  have xu2 := exact_u q6 q7 q8 b0 b1 b2
  have v2 := small_t hL s2 r2.1 r2.2 xu2.1 xu2.2
  have c0 := col_bd hL (pr_up hx hy) (pr_up hx hz) (sq_up hy) (sq_up hz) b0 b1 b2 dev
  have g0 := back_col (w := w) (x := x) (y := y) (z := z) (a0 := a0) (a1 := a1) (a2 := a2) (n := ((rowsM w x y z).1.1, (rowsM w x y z).2.1.1, (rowsM w x y z).2.2.1)) hL i0 i3 i6 j0 j3 j6 q0 q3 q6 s0 s1 s2 r0 r1 r2 v0 v1 v2 (ortho0 18446744073709551616 w x y z a0 a1 a2) c0
  have c1 := col_bd hL (pr_up hx hy) (pr_up hy hz) (sq_up hx) (sq_up hz) b1 b0 b2 dev
  have g1 := back_col (w := w) (x := x) (y := y) (z := z) (a0 := a0) (a1 := a1) (a2 := a2) (n := ((rowsM w x y z).1.2.1, (rowsM w x y z).2.1.2.1, (rowsM w x y z).2.2.2.1)) hL i1 i4 i7 j1 j4 j7 q1 q4 q7 s0 s1 s2 r0 r1 r2 v0 v1 v2 (ortho1 18446744073709551616 w x y z a0 a1 a2) c1
  have c2 := col_bd hL (pr_up hx hz) (pr_up hy hz) (sq_up hx) (sq_up hy) b2 b0 b1 dev
  have g2 := back_col (w := w) (x := x) (y := y) (z := z) (a0 := a0) (a1 := a1) (a2 := a2) (n := ((rowsM w x y z).1.2.2, (rowsM w x y z).2.1.2.2, (rowsM w x y z).2.2.2.2)) hL i2 i5 i8 j2 j5 j8 q2 q5 q8 s0 s1 s2 r0 r1 r2 v0 v1 v2 (ortho2 18446744073709551616 w x y z a0 a1 a2) c2
  have m0 := gd_entry i0 j0 q0
  have m1 := gd_entry i1 j1 q1
  have m2 := gd_entry i2 j2 q2
  have m3 := gd_entry i3 j3 q3
  have m4 := gd_entry i4 j4 q4
  have m5 := gd_entry i5 j5 q5
  have m6 := gd_entry i6 j6 q6
  have m7 := gd_entry i7 j7 q7
  have m8 := gd_entry i8 j8 q8
  have ga0 := gd_arg hL2 b0; have ga1 := gd_arg hL2 b1; have ga2 := gd_arg hL2 b2
  have gt0 := gd_small hL2 v0; have gt1 := gd_small hL2 v1; have gt2 := gd_small hL2 v2
  refine ⟨(_, _, _), (_, _, _), hr, tTurn_some.2 ⟨mDot3_some.2 ⟨m0, m1, m2, ga0, ga1, ga2, gt0, rfl⟩, mDot3_some.2 ⟨m3, m4, m5, ga0, ga1, ga2, gt1, rfl⟩, mDot3_some.2 ⟨m6, m7, m8, ga0, ga1, ga2, gt2, rfl⟩⟩,
    tTurn_some.2 ⟨mDot3_some.2 ⟨m0, m3, m6, gt0, gt1, gt2, gd_near hL2 b0 g0, rfl⟩, mDot3_some.2 ⟨m1, m4, m7, gt0, gt1, gt2, gd_near hL2 b1 g1, rfl⟩, mDot3_some.2 ⟨m2, m5, m8, gt0, gt1, gt2, gd_near hL2 b2 g2, rfl⟩⟩, g0, g1, g2⟩
end Go.Proofs.Ytmcifgaaojgheaa.Sx
