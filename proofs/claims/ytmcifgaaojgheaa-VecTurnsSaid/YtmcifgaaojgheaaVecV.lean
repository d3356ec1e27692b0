/- vec: its functions' values, plainly: nothing, or the numbers. -/
import Derived.Test.YtmcifgaaojgheaaFxG
namespace Go.Proofs.Ytmcifgaaojgheaa
open Go Go.Proofs.Ytmcifgaaojgheaa.Sx
abbrev V.T3 := Int × Int × Int
abbrev V.T4 := Int × Int × Int × Int
abbrev V.T9 := (Int × Int × Int) × (Int × Int × Int) × (Int × Int × Int)
def V.on {β : Type} (o : Option β) (bad : Bool) : Bool := o.isNone || bad
def V.no (l : List (Option Int)) : Bool := l.any Option.isNone
def V.q3 (o : Option V.T3) : V.T3 := o.getD (0, 0, 0)
def V.q4 (o : Option V.T4) : V.T4 := o.getD (0, 0, 0, 0)
def V.q9 (o : Option V.T9) : V.T9 := o.getD ((0, 0, 0), (0, 0, 0), (0, 0, 0))
def V.x3 (o : Option V.T3) : Int := (V.q3 o).1
def V.y3 (o : Option V.T3) : Int := (V.q3 o).2.1
def V.z3 (o : Option V.T3) : Int := (V.q3 o).2.2
def V.w4 (o : Option V.T4) : Int := (V.q4 o).1
def V.x4 (o : Option V.T4) : Int := (V.q4 o).2.1
def V.y4 (o : Option V.T4) : Int := (V.q4 o).2.2.1
def V.z4 (o : Option V.T4) : Int := (V.q4 o).2.2.2
def V.m0 (o : Option V.T9) : Int := (V.q9 o).1.1
def V.m1 (o : Option V.T9) : Int := (V.q9 o).1.2.1
def V.m2 (o : Option V.T9) : Int := (V.q9 o).1.2.2
def V.m3 (o : Option V.T9) : Int := (V.q9 o).2.1.1
def V.m4 (o : Option V.T9) : Int := (V.q9 o).2.1.2.1
def V.m5 (o : Option V.T9) : Int := (V.q9 o).2.1.2.2
def V.m6 (o : Option V.T9) : Int := (V.q9 o).2.2.1
def V.m7 (o : Option V.T9) : Int := (V.q9 o).2.2.2.1
def V.m8 (o : Option V.T9) : Int := (V.q9 o).2.2.2.2
theorem V.q3_eta (o : Option V.T3) : (V.x3 o, V.y3 o, V.z3 o) = V.q3 o := rfl
theorem V.q4_eta (o : Option V.T4) : (V.w4 o, V.x4 o, V.y4 o, V.z4 o) = V.q4 o := rfl
theorem V.q9_eta (o : Option V.T9) : ((V.m0 o, V.m1 o, V.m2 o), (V.m3 o, V.m4 o, V.m5 o), (V.m6 o, V.m7 o, V.m8 o)) = V.q9 o := rfl
/-- three numbers, or nothing -/
noncomputable def V.t3 (a b c : Option Int) : Option V.T3 := if V.no [a, b, c] = true then none else some (V.gv a, V.gv b, V.gv c)
noncomputable def V.tAdd (a b : V.T3) : Option V.T3 := V.t3 (V.mAdd a.1 b.1) (V.mAdd a.2.1 b.2.1) (V.mAdd a.2.2 b.2.2)
noncomputable def V.tSub (a b : V.T3) : Option V.T3 := V.t3 (V.mSub a.1 b.1) (V.mSub a.2.1 b.2.1) (V.mSub a.2.2 b.2.2)
noncomputable def V.tScale (a : V.T3) (n : Int) : Option V.T3 := V.t3 (V.mMul a.1 n) (V.mMul a.2.1 n) (V.mMul a.2.2 n)
noncomputable def V.tDot (a b : V.T3) : Option Int := V.mDot [a.1, a.2.1, a.2.2] [b.1, b.2.1, b.2.2]
noncomputable def V.tCross (a b : V.T3) : Option V.T3 :=
  if V.no [V.mSub 0 b.1, V.mSub 0 b.2.1, V.mSub 0 b.2.2] = true then none else
  V.t3 (V.mDot [a.2.1, a.2.2] [b.2.2, V.gv (V.mSub 0 b.2.1)]) (V.mDot [a.2.2, a.1] [b.1, V.gv (V.mSub 0 b.2.2)]) (V.mDot [a.1, a.2.1] [b.2.1, V.gv (V.mSub 0 b.1)])
noncomputable def V.tLen (a : V.T3) : Option Int := V.mNorm [a.1, a.2.1, a.2.2]
noncomputable def V.tUnit (a : V.T3) : Option V.T3 :=
  if V.no [V.tLen a] = true then none else V.t3 (V.mDiv a.1 (V.gv (V.tLen a))) (V.mDiv a.2.1 (V.gv (V.tLen a))) (V.mDiv a.2.2 (V.gv (V.tLen a)))
noncomputable def V.tTurn (m : V.T9) (a : V.T3) : Option V.T3 := V.t3 (V.tDot m.1 a) (V.tDot m.2.1 a) (V.tDot m.2.2 a)
def V.tr (m : V.T9) : V.T9 := ((m.1.1, m.2.1.1, m.2.2.1), (m.1.2.1, m.2.1.2.1, m.2.2.2.1), (m.1.2.2, m.2.1.2.2, m.2.2.2.2))
noncomputable def V.tBack (m : V.T9) (a : V.T3) : Option V.T3 := V.tTurn (V.tr m) a
noncomputable def V.t4 (a b c d : Option Int) : Option V.T4 := if V.no [a, b, c, d] = true then none else some (V.gv a, V.gv b, V.gv c, V.gv d)
noncomputable def V.tTimes (p q : V.T4) : Option V.T4 :=
  if V.no [V.mSub 0 q.2.1, V.mSub 0 q.2.2.1, V.mSub 0 q.2.2.2] = true then none else
  V.t4 (V.mDot [p.1, p.2.1, p.2.2.1, p.2.2.2] [q.1, V.gv (V.mSub 0 q.2.1), V.gv (V.mSub 0 q.2.2.1), V.gv (V.mSub 0 q.2.2.2)])
    (V.mDot [p.1, p.2.1, p.2.2.1, p.2.2.2] [q.2.1, q.1, q.2.2.2, V.gv (V.mSub 0 q.2.2.1)])
    (V.mDot [p.1, p.2.1, p.2.2.1, p.2.2.2] [q.2.2.1, V.gv (V.mSub 0 q.2.2.2), q.1, q.2.1])
    (V.mDot [p.1, p.2.1, p.2.2.1, p.2.2.2] [q.2.2.2, q.2.2.1, V.gv (V.mSub 0 q.2.1), q.1])
noncomputable def V.tLen4 (q : V.T4) : Option Int := V.mNorm [q.1, q.2.1, q.2.2.1, q.2.2.2]
noncomputable def V.tWhole (q : V.T4) : Option V.T4 :=
  if V.gv (V.tLen4 q) < 2147483648 ∨ V.no [V.tLen4 q] = true then none else
  V.t4 (V.mDiv q.1 (V.gv (V.tLen4 q))) (V.mDiv q.2.1 (V.gv (V.tLen4 q))) (V.mDiv q.2.2.1 (V.gv (V.tLen4 q))) (V.mDiv q.2.2.2 (V.gv (V.tLen4 q)))
/-- the sums and the negatives that a matrix is made of -/
noncomputable def V.dbl (n : Int) : Int := V.gv (V.mAdd n n)
noncomputable def V.neg (n : Int) : Int := V.gv (V.mSub 0 n)
noncomputable def V.twoD (a b c d : Int) : Option Int := V.mDot [a, b] [c, d]
noncomputable def V.tRows (q : V.T4) : Option V.T9 :=
  let w := q.1; let x := q.2.1; let y := q.2.2.1; let z := q.2.2.2
  if V.no [V.mAdd w w, V.mAdd x x, V.mAdd y y, V.mAdd z z, V.mSub 0 x, V.mSub 0 y, V.mSub 0 z, V.twoD (V.dbl y) (V.dbl z) y z, V.twoD (V.dbl x) (V.dbl z) x z, V.twoD (V.dbl x) (V.dbl y) x y] = true then none else
  if V.no [V.mSub 4294967296 (V.gv (V.twoD (V.dbl y) (V.dbl z) y z)), V.twoD (V.dbl x) (V.dbl w) y (V.neg z), V.twoD (V.dbl x) (V.dbl w) z y, V.twoD (V.dbl x) (V.dbl w) y z,
    V.mSub 4294967296 (V.gv (V.twoD (V.dbl x) (V.dbl z) x z)), V.twoD (V.dbl y) (V.dbl w) z (V.neg x), V.twoD (V.dbl x) (V.dbl w) z (V.neg y), V.twoD (V.dbl y) (V.dbl w) z x,
    V.mSub 4294967296 (V.gv (V.twoD (V.dbl x) (V.dbl y) x y))] = true then none else
  some ((V.gv (V.mSub 4294967296 (V.gv (V.twoD (V.dbl y) (V.dbl z) y z))), V.gv (V.twoD (V.dbl x) (V.dbl w) y (V.neg z)), V.gv (V.twoD (V.dbl x) (V.dbl w) z y)),
    (V.gv (V.twoD (V.dbl x) (V.dbl w) y z), V.gv (V.mSub 4294967296 (V.gv (V.twoD (V.dbl x) (V.dbl z) x z))), V.gv (V.twoD (V.dbl y) (V.dbl w) z (V.neg x))),
    (V.gv (V.twoD (V.dbl x) (V.dbl w) z (V.neg y)), V.gv (V.twoD (V.dbl y) (V.dbl w) z x), V.gv (V.mSub 4294967296 (V.gv (V.twoD (V.dbl x) (V.dbl y) x y)))))
noncomputable def V.tSpin (q : V.T4) (h : V.T3) : Option V.T4 := (V.tTimes (4294967296, h) q).bind V.tWhole
end Go.Proofs.Ytmcifgaaojgheaa
namespace Go.Proofs.Ytmcifgaaojgheaa.Sx
/-- what a flag says -/
theorem if_flag {β : Type} {f g : Bool} (h : f = g) (a b : β) : (if f = true then a else b) = if g = true then a else b := by rw [h]
theorem no_cons (o : Option Int) (l : List (Option Int)) : V.no (o :: l) = (o.isNone || V.no l) := rfl
theorem no_nil : V.no [] = false := rfl
theorem or_perm (a b c : Bool) : (a || (b || c)) = (b || (a || c)) := Bool.or_left_comm a b c
end Go.Proofs.Ytmcifgaaojgheaa.Sx
