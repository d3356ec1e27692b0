/- Texts of the walk, merged. -/
import Derived.WalkKit
import Derived.KernelRfl
section
/- SX: a symbolic executor for the model's Code: symbolic values and heaps, and the interpreter. -/
namespace Go.Proofs.Ytkjellhkamfciaa.Sx
open Go

structure V3 where
  X : Int
  Y : Int
  Z : Int
structure Q4 where
  W : Int
  X : Int
  Y : Int
  Z : Int

/-- Kinds of a struct's leaves. -/
inductive LK where
  | i (k : IntKind) | b
  deriving DecidableEq
@[reducible] def LK.T : LK → Type
  | .i _ => Int
  | .b => Bool
@[reducible] def RT : LK → List LK → Type
  | k, [] => k.T
  | k, k' :: ks => k.T × RT k' ks
/-- Kinds of elements of slices. -/
inductive K where
  | int (k : IntKind) | bool | v3 | st (k : LK) (ks : List LK)
  deriving DecidableEq
@[reducible] def K.T : K → Type
  | .int _ => Int
  | .bool => Bool
  | .v3 => V3
  | .st k ks => RT k ks
def K.sz : K → Nat
  | .int _ => 1
  | .bool => 1
  | .v3 => 3
  | .st _ ks => ks.length + 1
def LK.dflt : (k : LK) → k.T
  | .i _ => (0 : Int)
  | .b => false
def RT.dflt : (k : LK) → (ks : List LK) → RT k ks
  | k, [] => k.dflt
  | k, k' :: ks => (k.dflt, RT.dflt k' ks)
def K.dflt : (κ : K) → κ.T
  | .int _ => (0 : Int)
  | .bool => false
  | .v3 => ⟨0, 0, 0⟩
  | .st k ks => RT.dflt k ks

inductive SV where
  | int (k : IntKind) (n : Int)
  | bool (b : Bool)
  | ptr (t off : Nat)
  | aix (t off : Nat) (κ : K) (i m : Nat)
  | pix (t : Nat) (κ : K) (i off : Nat)
  | rix (v : Value) (κ : K) (xs : List κ.T) (i off : Nat)
  | sl (t : Nat)
  | sub (t : Nat) (κ : K) (lo n : Nat)
  | ros (v : Value) (κ : K) (xs : List κ.T)
  | fn (f : FuncId) (first cap : List SV)
  | raw (v : Value)
  | arr (κ : K) (xs : List κ.T) (n : Nat)
  | agg (l : List SV)
  | tup (l : List SV)

/-- Points. -/
abbrev kP : K := .st (.i .i64) [.i .i64, .i .i64]
abbrev L3 : Type := List (Int × Int × Int)
def LK.enc : (k : LK) → k.T → SV
  | .i k, n => .int k n
  | .b, x => .bool x
def LK.dec : (k : LK) → SV → Option k.T
  | .i k, .int k' n => if k' = k then some n else none
  | .b, .bool x => some x
  | _, _ => none
def RT.enc : (k : LK) → (ks : List LK) → RT k ks → List SV
  | k, [], x => [k.enc x]
  | k, k' :: ks, x => k.enc x.1 :: RT.enc k' ks x.2
def RT.dec : (k : LK) → (ks : List LK) → List SV → Option (RT k ks)
  | k, [], [s] => k.dec s
  | k, k' :: ks, s :: l => match k.dec s, RT.dec k' ks l with
    | some a, some b => some (a, b)
    | _, _ => none
  | _, _, _ => none
def K.enc : (κ : K) → κ.T → List SV
  | .int k, n => [.int k n]
  | .bool, b => [.bool b]
  | .v3, p => [.int .i64 p.X, .int .i64 p.Y, .int .i64 p.Z]
  | .st k ks, x => RT.enc k ks x
def K.dec : (κ : K) → List SV → Option κ.T
  | .int k, [.int k' n] => if k' = k then some n else none
  | .bool, [.bool b] => some b
  | .v3, [.int .i64 x, .int .i64 y, .int .i64 z] => some ⟨x, y, z⟩
  | .st k ks, l => RT.dec k ks l
  | _, _ => none

inductive SObj where
  | cells (l : List SV) (T : TypeId)
  | seq (κ : K) (xs : List κ.T) (E : TypeId)
  | dead

mutual
def SV.toks : SV → List Nat
  | .ptr t _ => [t]
  | .aix t _ _ _ _ => [t]
  | .pix t _ _ _ => [t]
  | .sl t => [t]
  | .sub t _ _ _ => [t]
  | .fn _ a b => SV.toksL a ++ SV.toksL b
  | .agg l => SV.toksL l
  | .tup l => SV.toksL l
  | _ => []
def SV.toksL : List SV → List Nat
  | [] => []
  | x :: l => SV.toks x ++ SV.toksL l
end
mutual
def SV.ren (g : Nat → Nat) : SV → SV
  | .ptr t off => .ptr (g t) off
  | .aix t off κ i m => .aix (g t) off κ i m
  | .pix t κ i off => .pix (g t) κ i off
  | .sl t => .sl (g t)
  | .sub t κ lo n => .sub (g t) κ lo n
  | .fn f a b => .fn f (SV.renL g a) (SV.renL g b)
  | .agg l => .agg (SV.renL g l)
  | .tup l => .tup (SV.renL g l)
  | v => v
def SV.renL (g : Nat → Nat) : List SV → List SV
  | [] => []
  | x :: l => SV.ren g x :: SV.renL g l
end
def SObj.toks : SObj → List Nat
  | .cells l _ => SV.toksL l
  | _ => []
def SObj.ren (g : Nat → Nat) : SObj → SObj
  | .cells l T => .cells (SV.renL g l) T
  | o => o

abbrev Fr := List (Option SV)
abbrev Hp := List SObj
/-- So many empty slots ahead. -/
def nn : Nat → Fr → Fr
  | 0, l => l
  | k + 1, l => none :: nn k l
structure St where
  F : Fr
  H : Hp

inductive Ex where
  | normal
  | exit (id : Nat)
  | ret

def hpToks : Hp → List Nat
  | [] => []
  | o :: l => o.toks ++ hpToks l
def frToks : Fr → List Nat
  | [] => []
  | some v :: l => v.toks ++ frToks l
  | none :: l => frToks l
def frRen (g : Nat → Nat) : Fr → Fr
  | [] => []
  | some v :: l => some (v.ren g) :: frRen g l
  | none :: l => none :: frRen g l
def memN (t : Nat) : List Nat → Bool
  | [] => false
  | x :: l => Nat.beq x t || memN t l
/-- The tokens from 'base' on that are reached, in the order in which they are met. -/
def reach (H : Hp) (base : Nat) : Nat → List Nat → List Nat → Option (List Nat)
  | _, [], seen => some seen
  | 0, _ :: _, _ => none
  | n + 1, t :: todo, seen =>
    if Nat.blt t base || memN t seen then reach H base n todo seen
    else match H[t]? with
      | some o => reach H base n (o.toks ++ todo) (seen ++ [t])
      | none => none
def idxOf (t : Nat) : List Nat → Nat
  | [] => 0
  | x :: l => if Nat.beq x t then 0 else idxOf t l + 1
def gcMap (base : Nat) (τ : List Nat) (t : Nat) : Nat := if Nat.blt t base then t else base + idxOf t τ
def pickAll (H : Hp) : List Nat → Option Hp
  | [] => some []
  | t :: l => match H[t]?, pickAll H l with
    | some o, some r => some (o :: r)
    | _, _ => none
def allIn (base : Nat) (τ : List Nat) : List Nat → Bool
  | [] => true
  | t :: l => (Nat.blt t base || memN t τ) && allIn base τ l
def nodupN : List Nat → Bool
  | [] => true
  | t :: l => !memN t l && nodupN l
def allGe (base : Nat) : List Nat → Bool
  | [] => true
  | t :: l => Nat.ble base t && allGe base l
/-- Forgets what is not reached from 'roots' (or from the objects below 'base'), and numbers the rest anew. -/
def gc (H : Hp) (base : Nat) (roots : List Nat) : Option (List Nat × Hp) :=
  match reach H base 4000 (hpToks (H.take base) ++ roots) [] with
  | some τ => match pickAll H τ with
    | some objs =>
      if Nat.ble base H.length && allIn base τ (hpToks (H.take base)) && allIn base τ roots && allIn base τ (hpToks objs) && nodupN τ && allGe base τ then
        match τ with
        | [] => some ([], H.take base)
        | _ => some (τ, ((H.take base) ++ objs).map (SObj.ren (gcMap base τ)))
      else none
    | none => none
  | none => none

def SV.cells : SV → List SV
  | .agg l => l
  | v => [v]

/-- A leaf: what one cell (or a run of an array's cells) holds. -/
def SV.leafB : SV → Bool
  | .agg _ | .tup _ => false
  | .raw (.pointer none) | .raw (.slice none 0 0) | .raw .nilFunc => true
  | .raw _ => false
  | _ => true
def leavesB : List SV → Bool
  | [] => true
  | x :: l => x.leafB && leavesB l
/-- How many cells a leaf takes. -/
def SV.width : SV → Nat
  | .arr κ _ n => n * κ.sz
  | _ => 1

/-- More cells than one. -/
def wOf : SV → Option Nat
  | .arr κ _ n => some (n * κ.sz)
  | _ => none
/-- The leaves of 'n' cells from 'off' on. (No number hangs on data: what is one cell is told by the leaf's kind.) -/
def segTake : List SV → Nat → Nat → Option (List SV)
  | _, 0, 0 => some []
  | [], _, _ => none
  | x :: l, 0, n => match wOf x with
    | some w => if w ≤ n then (segTake l 0 (n - w)).map (x :: ·) else none
    | none => match n with
      | 0 => none
      | m + 1 => (segTake l 0 m).map (x :: ·)
  | x :: l, off, n => match wOf x with
    | some w => if w ≤ off then segTake l (off - w) n else none
    | none => match off with
      | 0 => none
      | o + 1 => segTake l o n
def segDrop : List SV → Nat → Option (List SV)
  | l, 0 => some l
  | [], _ => none
  | x :: l, off => match wOf x with
    | some w => if w ≤ off then segDrop l (off - w) else none
    | none => match off with
      | 0 => none
      | o + 1 => segDrop l o
def segWidth : List SV → Nat
  | [] => 0
  | x :: l => match wOf x with
    | some w => w + segWidth l
    | none => segWidth l + 1
/-- The leaves with those from 'off' on replaced. -/
def segPut (l : List SV) (off : Nat) (new : List SV) : Option (List SV) :=
  match segTake l 0 off, segDrop l (off + segWidth new) with
  | some a, some b => some (a ++ new ++ b)
  | _, _ => none
def segAt : List SV → Nat → Option SV
  | [], _ => none
  | x :: _, 0 => some x
  | x :: l, off => match wOf x with
    | some w => if w ≤ off then segAt l (off - w) else none
    | none => match off with
      | 0 => none
      | o + 1 => segAt l o
theorem wOf_width (x : SV) : (∃ w, wOf x = some w ∧ x.width = w) ∨ (wOf x = none ∧ x.width = 1) := by
  cases x <;> first | exact .inr ⟨rfl, rfl⟩ | exact .inl ⟨_, rfl, rfl⟩
theorem segTake_cons0 (x : SV) (l : List SV) (m : Nat) : segTake (x :: l) 0 (m + 1) = if x.width ≤ m + 1 then (segTake l 0 (m + 1 - x.width)).map (x :: ·) else none := by
  have e : segTake (x :: l) 0 (m + 1) = match wOf x with
    | some w => if w ≤ m + 1 then (segTake l 0 (m + 1 - w)).map (x :: ·) else none
    | none => (segTake l 0 m).map (x :: ·) := rfl
  rw [e]
  rcases wOf_width x with ⟨w, h1, h2⟩ | ⟨h1, h2⟩
  · rw [h1, h2]
  · rw [h1, h2, if_pos (by omega)]; rfl
theorem segTake_cons (x : SV) (l : List SV) (m n : Nat) : segTake (x :: l) (m + 1) n = if x.width ≤ m + 1 then segTake l (m + 1 - x.width) n else none := by
  have e : segTake (x :: l) (m + 1) n = match wOf x with
    | some w => if w ≤ m + 1 then segTake l (m + 1 - w) n else none
    | none => segTake l m n := by cases n <;> rfl
  rw [e]
  rcases wOf_width x with ⟨w, h1, h2⟩ | ⟨h1, h2⟩
  · rw [h1, h2]
  · rw [h1, h2, if_pos (by omega)]; rfl
theorem segDrop_cons (x : SV) (l : List SV) (m : Nat) : segDrop (x :: l) (m + 1) = if x.width ≤ m + 1 then segDrop l (m + 1 - x.width) else none := by
  have e : segDrop (x :: l) (m + 1) = match wOf x with
    | some w => if w ≤ m + 1 then segDrop l (m + 1 - w) else none
    | none => segDrop l m := rfl
  rw [e]
  rcases wOf_width x with ⟨w, h1, h2⟩ | ⟨h1, h2⟩
  · rw [h1, h2]
  · rw [h1, h2, if_pos (by omega)]; rfl
theorem segWidth_cons (x : SV) (l : List SV) : segWidth (x :: l) = x.width + segWidth l := by
  have e : segWidth (x :: l) = match wOf x with
    | some w => w + segWidth l
    | none => segWidth l + 1 := rfl
  rw [e]
  rcases wOf_width x with ⟨w, h1, h2⟩ | ⟨h1, h2⟩
  · rw [h1, h2]
  · rw [h1, h2, Nat.add_comm]
theorem segAt_cons (x : SV) (l : List SV) (m : Nat) : segAt (x :: l) (m + 1) = if x.width ≤ m + 1 then segAt l (m + 1 - x.width) else none := by
  have e : segAt (x :: l) (m + 1) = match wOf x with
    | some w => if w ≤ m + 1 then segAt l (m + 1 - w) else none
    | none => segAt l m := rfl
  rw [e]
  rcases wOf_width x with ⟨w, h1, h2⟩ | ⟨h1, h2⟩
  · rw [h1, h2]
  · rw [h1, h2, if_pos (by omega)]; rfl

def ofConst : Value → Option SV
  | .int k n => some (.int k n)
  | .bool b => some (.bool b)
  | .pointer none => some (.raw (.pointer none))
  | .slice none 0 0 => some (.raw (.slice none 0 0))
  | .nilFunc => some (.raw .nilFunc)
  | .tuple vs => if Nat.beq vs.size 0 then some (.raw (.tuple vs)) else none
  | .string s => some (.raw (.string s))
  | _ => none
def ofConsts : List Value → Option (List SV)
  | [] => some []
  | v :: l => match ofConst v, ofConsts l with
    | some x, some y => some (x :: y)
    | _, _ => none
def ofValue : Value → Option SV
  | .agg cs => (ofConsts cs.toList).map .agg
  | v => ofConst v

def opd (F : Fr) : Operand → Option SV
  | .tmp t => (F[t]?).join
  | .const v => ofValue v
  | .func f => some (.fn f [] [])
  | .global _ => none
def opds (F : Fr) : List Operand → Option (List SV)
  | [] => some []
  | x :: l => match opd F x, opds F l with
    | some a, some b => some (a :: b)
    | _, _ => none

def put (F : Fr) (d : Option Tmp) (v : SV) : Fr :=
  match d with
  | some t => F.set t (some v)
  | none => F

structure Env where
  P : Program
  L : Nat
  kind : List (TypeId × K)
  junk : List (FuncId × List Bool × List Nat × List Nat)
  zero : List (TypeId × List SV)
  fresh : List FuncId
  noNil : Bool
  add64 : FuncId
  sub64 : FuncId

/-- In regions whose order is open nil slices stay as they are. -/
def Env.dr (E : Env) : Env := { E with noNil := true }
/-- Comparisons that no checker unfolds. -/
noncomputable def cLt : Int → Int → Bool := Classical.choose (⟨fun a b => decide (a < b), fun _ _ => rfl⟩ : ∃ f : Int → Int → Bool, ∀ a b, f a b = decide (a < b))
theorem cLt_eq (a b : Int) : cLt a b = decide (a < b) := Classical.choose_spec (⟨fun a b => decide (a < b), fun _ _ => rfl⟩ : ∃ f : Int → Int → Bool, ∀ a b, f a b = decide (a < b)) a b
noncomputable def cLe : Int → Int → Bool := Classical.choose (⟨fun a b => decide (a ≤ b), fun _ _ => rfl⟩ : ∃ f : Int → Int → Bool, ∀ a b, f a b = decide (a ≤ b))
theorem cLe_eq (a b : Int) : cLe a b = decide (a ≤ b) := Classical.choose_spec (⟨fun a b => decide (a ≤ b), fun _ _ => rfl⟩ : ∃ f : Int → Int → Bool, ∀ a b, f a b = decide (a ≤ b)) a b
noncomputable def cEq : Int → Int → Bool := Classical.choose (⟨fun a b => a == b, fun _ _ => rfl⟩ : ∃ f : Int → Int → Bool, ∀ a b, f a b = (a == b))
theorem cEq_eq (a b : Int) : cEq a b = (a == b) := Classical.choose_spec (⟨fun a b => a == b, fun _ _ => rfl⟩ : ∃ f : Int → Int → Bool, ∀ a b, f a b = (a == b)) a b
section
variable (E : Env) {α : Type}

def Env.isAgg (T : TypeId) : Option Bool :=
  match E.P.underlying T with
  | some (.struct _) => some true
  | some (.array _ _) => some true
  | some _ => some false
  | none => none
def Env.size (T : TypeId) : Option Nat := (E.P.info? T).map (·.size)
def assoc {β : Type} : List (Nat × β) → Nat → Option β
  | [], _ => none
  | (a, b) :: l, x => if Nat.beq a x then some b else assoc l x
def Env.zeroOf (T : TypeId) : Option (List SV) :=
  match assoc E.zero T with
  | some l => some l
  | none => match E.P.info? T with
    | some i => match i.zero with
      | some (.agg cs) => ofConsts cs.toList
      | some v => (ofConst v).map ([·])
      | none => none
    | none => none

/-- A value of type T out of its leaves. -/
def mkVal (agg : Bool) (l : List SV) : Option SV :=
  match agg, l with
  | true, l => some (.agg l)
  | false, [.arr _ _ _] => none
  | false, [x] => some x
  | _, _ => none

def bindO {β γ : Type} (x : Option β) (k : β → Option γ) : Option γ :=
  match x with
  | some b => k b
  | none => none

/-- The leaves at an address, with the address's object. -/
def loadAt (H : Hp) (T : TypeId) (a : SV) : Option SV :=
  match E.isAgg T, E.size T with
  | some g, some n =>
    match a with
    | .ptr t off => match H[t]? with
      | some (.cells l _) => bindO (segTake l off n) (mkVal g)
      | _ => none
    | .aix t off κ i m => match H[t]? with
      | some (.cells l _) => match segAt l off with
        | some (.arr κ' xs m') => if h : κ' = κ ∧ Nat.beq m' m = true then bindO (segTake (κ.enc ((h.1 ▸ xs).getD i κ.dflt)) 0 n) (mkVal g) else none
        | _ => none
      | _ => none
    | .pix t κ i off => match H[t]? with
      | some (.seq κ' xs _) => if h : κ' = κ then bindO (segTake (κ.enc ((h ▸ xs).getD i κ.dflt)) off n) (mkVal g) else none
      | _ => none
    | .rix _ κ xs i off => bindO (segTake (κ.enc (xs.getD i κ.dflt)) off n) (mkVal g)
    | _ => none
  | _, _ => none

def storeFits (T : TypeId) (v : SV) : Bool :=
  leavesB v.cells && match E.size T with
    | some n => Nat.beq (segWidth v.cells) n
    | none => false
def storeAt (H : Hp) (T : TypeId) (a : SV) (v : SV) : Option Hp :=
  if storeFits E T v = true then
  match a with
  | .ptr t off => match H[t]? with
    | some (.cells l T) => bindO (segPut l off v.cells) fun l' => some (H.set t (.cells l' T))
    | _ => none
  | .aix t off κ i m => match H[t]? with
    | some (.cells l T) => match segAt l off with
      | some (.arr κ' xs n) => if h : κ' = κ ∧ Nat.beq n m = true then bindO (κ.dec v.cells) fun x => bindO (segPut l off [.arr κ ((h.1 ▸ xs).set i x) n]) fun l' => some (H.set t (.cells l' T)) else none
      | _ => none
    | _ => none
  | .pix t κ i off => match H[t]? with
    | some (.seq κ' xs T) => if h : κ' = κ then bindO (segPut (κ.enc ((h ▸ xs).getD i κ.dflt)) off v.cells) fun l => bindO (κ.dec l) fun x => some (H.set t (.seq κ ((h ▸ xs).set i x) T)) else none
    | _ => none
  | _ => none
  else none

def fieldOf (T : TypeId) (f : Nat) : Option Field :=
  match E.P.underlying T with
  | some (.struct fs) => fs[f]?
  | _ => none

def fillAt (places : Nat → Option (Nat × Nat)) : List SV → List (Nat × SV) → Option (List SV)
  | l, [] => some l
  | l, (i, v) :: rest => match places i with
    | some (off, size) => if Nat.beq (segWidth v.cells) size then bindO (segPut l off v.cells) fun l' => fillAt places l' rest else none
    | none => none
def placesOf (fs : List Field) : Option (List (Nat × Nat)) := fs.mapM fun f => (E.P.info? f.type).map fun i => (f.offset, i.size)

def partsOf (F : Fr) : List (Nat × Operand) → Option (List (Nat × SV))
  | [] => some []
  | (i, x) :: l => match opd F x, partsOf F l with
    | some a, some b => some ((i, a) :: b)
    | _, _ => none

def decAll (κ : K) : List (Nat × SV) → Nat → Option (List κ.T)
  | [], _ => some []
  | (j, v) :: l, i => if Nat.beq i j then bindO (κ.dec v.cells) fun x => bindO (decAll κ l (i + 1)) fun xs => some (x :: xs) else none

/-- Integers' operations. -/
def bandI (k : IntKind) (x y : Int) : Int := k.wrap (BitVec.ofInt k.bits x &&& BitVec.ofInt k.bits y).toNat
def borI (k : IntKind) (x y : Int) : Int := k.wrap (BitVec.ofInt k.bits x ||| BitVec.ofInt k.bits y).toNat
def bxorI (k : IntKind) (x y : Int) : Int := k.wrap (BitVec.ofInt k.bits x ^^^ BitVec.ofInt k.bits y).toNat
def bclrI (k : IntKind) (x y : Int) : Int := k.wrap (BitVec.ofInt k.bits x &&& ~~~ BitVec.ofInt k.bits y).toNat
def wr64 (n : Int) : Int := IntKind.i64.wrap n
def wrU64 (n : Int) : Int := IntKind.u64.wrap n

/-- Equality of values that lie as leaves 'xs', 'ys', of fields and elements. -/
noncomputable def eqFs (eq : TypeId → List SV → List SV → Option Bool) (xs ys : List SV) : List Field → Option Bool
  | [] => some true
  | f :: fs => if f.name != "_" then
      match E.size f.type with
      | some n => bindO (segTake xs f.offset n) fun a => bindO (segTake ys f.offset n) fun b => bindO (eq f.type a b) fun r => bindO (eqFs eq xs ys fs) fun s => some (r && s)
      | none => none
    else none
noncomputable def eqAs (eq : List SV → List SV → Option Bool) (xs ys : List SV) (n : Nat) : Nat → Nat → Option Bool
  | 0, _ => some true
  | m + 1, i => bindO (segTake xs (i * n) n) fun a => bindO (segTake ys (i * n) n) fun b => bindO (eq a b) fun r => bindO (eqAs eq xs ys n m (i + 1)) fun s => some (r && s)
noncomputable def eqT : Nat → TypeId → List SV → List SV → Option Bool
  | 0, _, _, _ => none
  | d + 1, T, xs, ys => match E.P.underlying T with
    | some (.int _) => match xs, ys with
      | [.int k a], [.int k' b] => if k = k' then some (cEq a b) else none
      | _, _ => none
    | some .bool => match xs, ys with
      | [.bool a], [.bool b] => some (a == b)
      | _, _ => none
    | some (.struct fs) => if E.P.stoodInHeld T then none else eqFs E (eqT d) xs ys fs.toList
    | some (.array m e) => match E.size e with
      | some n => eqAs (eqT d e) xs ys n m 0
      | none => none
    | _ => none

noncomputable def binI (op : BinOp) (k : IntKind) (a b : Int) (K : SV → Option α) : Option α :=
  match op with
  | .add => K (.int k (k.wrap (a + b)))
  | .sub => K (.int k (k.wrap (a - b)))
  | .mul => K (.int k (k.wrap (a * b)))
  | .quo => if b = 0 then none else K (.int k (k.wrap (a.tdiv b)))
  | .rem => if b = 0 then none else K (.int k (a.tmod b))
  | .and => K (.int k (bandI k a b))
  | .or => K (.int k (borI k a b))
  | .xor => K (.int k (bxorI k a b))
  | .andNot => K (.int k (bclrI k a b))
  | .eql => K (.bool (cEq a b))
  | .neq => K (.bool (!cEq a b))
  | .lss => K (.bool (cLt a b))
  | .leq => K (.bool (cLe a b))
  | .gtr => K (.bool (cLt b a))
  | .geq => K (.bool (cLe b a))
  | _ => none

/-- Is a slice nil? -/
def nilV (v : Value) : Bool :=
  match v with
  | .slice none _ _ => true
  | _ => false
noncomputable def binS (op : BinOp) (T : TypeId) (x y : SV) (K : SV → Option α) : Option α :=
  match op, x, y with
  | .shl, .int k a, .int _ b => if b < 0 then none else K (.int k (k.wrap (a * 2 ^ (min b.toNat k.bits))))
  | .shr, .int k a, .int _ b => if b < 0 then none else K (.int k (a.fdiv (2 ^ (min b.toNat k.bits))))
  | op, .int k a, .int k' b => if k = k' then binI op k a b K else none
  | .eql, .bool a, .bool b => match E.P.underlying T with
    | some .bool => K (.bool (a == b))
    | _ => none
  | .neq, .bool a, .bool b => match E.P.underlying T with
    | some .bool => K (.bool (!(a == b)))
    | _ => none
  | .eql, .agg a, .agg b => match E.isAgg T with
    | some true => if E.P.eqGuardType E.P.depth T then none else bindO (eqT E 20 T a b) fun r => K (.bool r)
    | _ => none
  | .neq, .agg a, .agg b => match E.isAgg T with
    | some true => if E.P.eqGuardType E.P.depth T then none else bindO (eqT E 20 T a b) fun r => K (.bool (!r))
    | _ => none
  | .eql, .ros v _ xs, .raw (.slice none 0 0) => match E.P.underlying T with
    | some (.slice _) => K (.bool (nilV v && xs.isEmpty))
    | _ => none
  | _, _, _ => none

def unS (op : UnOp) (x : SV) : Option SV :=
  match op, x with
  | .neg, .int k n => some (.int k (k.wrap (0 - n)))
  | .xor, .int k n => some (.int k (bxorI k (if k.signed then -1 else k.max) n))
  | .not, .bool b => some (.bool !b)
  | _, _ => none

def indexS (H : Hp) (T : TypeId) (x ix : SV) (K : SV → Option α) : Option α :=
  match ix with
  | .int _ i =>
    match E.P.underlying T, x with
    | some (.array n e), .ptr t off =>
      match E.size e, H[t]? with
      | some sz, some (.cells l _) =>
        match segAt l off with
        | some (.arr κ _ m) => if κ.sz = sz ∧ Nat.beq m n = true then (if 0 ≤ i ∧ i < n then K (.aix t off κ i.toNat m) else none) else none
        | _ => if 0 ≤ i ∧ i < n then K (.ptr t (off + i.toNat * sz)) else none
      | _, _ => none
    | some (.slice e), .sl t =>
      match E.size e, H[t]? with
      | some sz, some (.seq κ xs _) => if κ.sz = sz then (if 0 ≤ i ∧ i < (xs.length : Int) then K (.pix t κ i.toNat 0) else none) else none
      | _, _ => none
    | some (.slice e), .ros v κ xs =>
      match E.size e with
      | some sz => if κ.sz = sz then (if 0 ≤ i ∧ i < (xs.length : Int) then K (.rix v κ xs i.toNat 0) else none) else none
      | _ => none
    | some (.slice e), .sub t κ lo n =>
      match E.size e, H[t]? with
      | some sz, some (.seq κ' _ _) => if κ.sz = sz ∧ κ' = κ then (if 0 ≤ i ∧ i < (n : Int) then K (.pix t κ (lo + i.toNat) 0) else none) else none
      | _, _ => none
    | some (.array n e), .pix t κ j off =>
      match E.size e with
      | some sz => if 0 ≤ i ∧ i < n then K (.pix t κ j (off + i.toNat * sz)) else none
      | _ => none
    | some (.array n e), .rix v κ xs j off =>
      match E.size e with
      | some sz => if 0 ≤ i ∧ i < n then K (.rix v κ xs j (off + i.toNat * sz)) else none
      | _ => none
    | _, _ => none
  | _ => none

def fieldAddrS (T : TypeId) (x : SV) (f : Nat) : Option SV :=
  bindO (fieldOf E T f) fun fd =>
    bindO (E.size fd.type) fun n =>
      if n = 0 then none else
      match x with
      | .ptr t off => some (.ptr t (off + fd.offset))
      | .pix t κ i off => some (.pix t κ i (off + fd.offset))
      | .rix v κ xs i off => some (.rix v κ xs i (off + fd.offset))
      | _ => none

def lenS (H : Hp) (x : SV) : Option SV :=
  match x with
  | .sl t => match H[t]? with
    | some (.seq _ xs _) => some (.int .i64 (xs.length : Int))
    | _ => none
  | .ros _ _ xs => some (.int .i64 (xs.length : Int))
  | .sub _ _ _ n => some (.int .i64 (n : Int))
  | .raw (.slice none 0 0) => some (.int .i64 0)
  | _ => none

def minS : SV → List SV → Option SV
  | x, [] => some x
  | .int k a, .int k' b :: l => if k = k' then minS (.int k (if b < a then b else a)) l else none
  | _, _ => none
def maxS : SV → List SV → Option SV
  | x, [] => some x
  | .int k a, .int k' b :: l => if k = k' then maxS (.int k (if b > a then b else a)) l else none
  | _, _ => none

def pow64 : Nat := 18446744073709551616
def addS (l : List SV) (K : SV → Option α) : Option α :=
  match l with
  | [.int _ x, .int _ y, .int _ c] => if c.toNat > 1 then none else
    K (.tup [.int .u64 (Int.ofNat ((x.toNat + y.toNat + c.toNat) % pow64)), .int .u64 (Int.ofNat ((x.toNat + y.toNat + c.toNat) / pow64))])
  | _ => none
def subS (l : List SV) (K : SV → Option α) : Option α :=
  match l with
  | [.int _ x, .int _ y, .int _ c] => if c.toNat > 1 then none else
    K (.tup [.int .u64 (Int.ofNat ((x.toNat + pow64 - y.toNat - c.toNat) % pow64)), .int .u64 (Int.ofNat (if x.toNat < y.toNat + c.toNat then 1 else 0))])
  | _ => none

/-- a window of a slice -/
def winV (v : Value) (sz lo n : Nat) : Value :=
  match v with
  | .slice a _ cap => .slice (if cap = lo then a else a.map (·.add (lo * sz))) n (cap - lo)
  | v => v
/-- The first elements of a slice. -/
def headV (v : Value) (h : Nat) : Value :=
  match v with
  | .slice a _ cap => .slice (if cap = 0 then a else a.map (·.add 0)) h cap
  | v => v
/-- A string's byte. -/
def strAt (s : ByteArray) (i : Int) : Int :=
  match s[i.toNat]? with
  | some b => Int.ofNat b.toNat
  | none => 0
abbrev CallF (α : Type) := FuncId → List SV → Hp → (SV → Hp → Option α) → Option α

/-- The heap of which only the tokens of T are seen; and what is put back behind. -/
def maskH (T : List Nat) : Nat → Hp → Hp
  | _, [] => []
  | i, o :: H => (if memN i T then o else .dead) :: maskH T (i + 1) H
def mergeH (T : List Nat) : Nat → Hp → Hp → Hp
  | _, [], _ => []
  | _, H, [] => H
  | i, o :: H, p :: M => (if memN i T then p else o) :: mergeH T (i + 1) H M

def nilAt (t : TypeId) (x : SV) : Option (TypeId × K) :=
  match x with
  | .raw (.slice none 0 0) => if E.noNil then none else match E.P.underlying t with
    | some (.slice e) => (assoc E.kind e).map fun κ => (e, κ)
    | _ => none
  | _ => none
def isArr : SV → Bool
  | .arr _ _ _ => true
  | _ => false
/-- A nil slice that is assigned: the kind of its elements. -/
def nilKind (x : Operand) (T : TypeId) : Option (TypeId × K) :=
  match x with
  | .const (.slice none 0 0) => match E.P.underlying T with
    | some (.slice e) => (assoc E.kind e).map fun κ => (e, κ)
    | _ => none
  | _ => none
/-- A slice that is read: its elements, and the block's token if it is one of its own. -/
def readSeq (κ : K) (a : SV) (H : Hp) : Option (List Nat × List κ.T) :=
  match a with
  | .ros _ κ' xs => if h : κ' = κ then some ([], h ▸ xs) else none
  | .sl t => match H[t]? with
    | some (.seq κ' xs _) => if h : κ' = κ then some ([t], h ▸ xs) else none
    | _ => none
  | .sub t κ' lo n => if κ' = κ then (match H[t]? with
    | some (.seq κ' xs _) => if h : κ' = κ then some ([t], (((h ▸ xs) : List κ.T).drop lo).take n) else none
    | _ => none) else none
  | .raw (.slice none 0 0) => some ([], [])
  | _ => none
/-- Bounds of a slice that is cut. -/
def ivO (F : Fr) : Option Operand → Option (Option Int)
  | none => some none
  | some x => match opd F x with
    | some (.int _ i) => some (some i)
    | _ => none
def lowI : Option Int → Int
  | none => 0
  | some i => i
def highI (L : Nat) : Option Int → Int
  | none => (L : Int)
  | some i => i
def winLen (H : Hp) (sz : Nat) (u : SV) : Option Nat :=
  match u with
  | .ros _ κ xs => if κ.sz = sz then some xs.length else none
  | .sl t => match H[t]? with
    | some (.seq κ xs _) => if κ.sz = sz then some xs.length else none
    | _ => none
  | .sub t κ _ n => match H[t]? with
    | some (.seq _ _ _) => if κ.sz = sz then some n else none
    | _ => none
  | _ => none
def cutS (H : Hp) (u : SV) (l n : Nat) : Option SV :=
  match u with
  | .ros v κ xs => some (.ros (winV v κ.sz l n) κ ((xs.drop l).take n))
  | .sl t => match H[t]? with
    | some (.seq κ _ _) => some (.sub t κ l n)
    | _ => none
  | .sub t κ a _ => if l = 0 ∨ 0 < n then some (.sub t κ (a + l) n) else none
  | _ => none
/-- Nil slices in what is newly laid: each is a slice of one's own. -/
def hasNil : List SV → Bool
  | [] => false
  | .raw (.slice none 0 0) :: _ => true
  | _ :: l => hasNil l
def nilz (ts : List TypeId) (l : List SV) (n : Nat) : List SV × Hp :=
  match ts with
  | [] => (l, [])
  | t :: ts => match l with
    | [] => ([], [])
    | x :: l => match nilAt E t x with
      | some (e, κ) => (.sl n :: (nilz ts l (n + 1)).1, .seq κ [] e :: (nilz ts l (n + 1)).2)
      | none => if isArr x then (x :: l, []) else (x :: (nilz ts l n).1, (nilz ts l n).2)
/-- A value with other leaves. -/
def asV (v : SV) (l : List SV) : Option SV :=
  match v with
  | .agg _ => some (.agg l)
  | _ => match l with
    | [.sl t] => some (.sl t)
    | [.raw u] => some (.raw u)
    | _ => none
/-- One operation: its value and the heap behind it. -/
noncomputable def opS (callf : CallF α) (o : Oper) (F : Fr) (H : Hp) (K : SV → Hp → Option α) : Option α :=
  match o.op with
  | .move x | .assign x =>
    match nilKind E x o.type with
    | some (e, κ) => K (.sl H.length) (H ++ [.seq κ [] e])
    | none => bindO (opd F x) fun v => K v H
  | .pick c a b =>
    match opd F c, opd F a, opd F b with
    | some (.bool c), some a, some b => if c then K a H else K b H
    | _, _, _ => none
  | .alloc T => bindO (E.zeroOf T) fun l => if leavesB l then
      (if hasNil l then bindO (E.P.cellTypes E.P.depth T) fun ts => K (.ptr (H ++ (nilz E ts l H.length).2).length 0) (H ++ (nilz E ts l H.length).2 ++ [.cells (nilz E ts l H.length).1 T])
       else K (.ptr H.length 0) (H ++ [.cells l T])) else none
  | .box T x => bindO (opd F x) fun v => if leavesB v.cells then
      (if hasNil v.cells then bindO (E.P.cellTypes E.P.depth T) fun ts => K (.ptr (H ++ (nilz E ts v.cells H.length).2).length 0) (H ++ (nilz E ts v.cells H.length).2 ++ [.cells (nilz E ts v.cells H.length).1 T])
       else K (.ptr H.length 0) (H ++ [.cells v.cells T])) else none
  | .build T parts =>
    bindO (E.zeroOf T) fun z => bindO (partsOf F parts.toList) fun ps =>
      match E.P.underlying T with
      | some (.struct fs) => bindO (placesOf E fs.toList) fun places => bindO (fillAt (places[·]?) z ps) fun l => K (.agg l) H
      | some (.array _ e) => bindO (E.size e) fun sz => bindO (fillAt (fun i => some (i * sz, sz)) z ps) fun l => K (.agg l) H
      | _ => none
  | .buildSlice T len parts =>
    match E.P.underlying T with
    | some (.slice e) => bindO (assoc E.kind e) fun κ => bindO (E.size e) fun sz => bindO (E.zeroOf e) fun z => bindO (partsOf F parts.toList) fun ps =>
      if κ.sz = sz ∧ Nat.beq (segWidth z) sz = true then
        if Nat.beq ps.length len && Nat.ble (len * sz) 16777216 then bindO (decAll κ ps 0) fun xs => K (.sl H.length) (H ++ [.seq κ xs e]) else none
      else none
    | _ => none
  | .load T a => bindO (opd F a) fun a => bindO (loadAt E H T a) fun v => K v H
  | .store T a x => bindO (opd F a) fun a => bindO (opd F x) fun v =>
      if hasNil v.cells then bindO (E.P.cellTypes E.P.depth T) fun ts => bindO (asV v (nilz E ts v.cells H.length).1) fun v' => bindO (storeAt E (H ++ (nilz E ts v.cells H.length).2) T a v') fun H' => if leavesB v.cells then K (.raw undef) H' else none
      else bindO (storeAt E H T a v) fun H' => K (.raw undef) H'
  | .nilCheck x => bindO (opd F x) fun v => match v with
    | .ptr t off => K (.ptr t off) H
    | _ => none
  | .binOp op T x y _ => bindO (opd F x) fun x => bindO (opd F y) fun y => binS E op T x y fun v => K v H
  | .unOp op _ x => bindO (opd F x) fun x => bindO (unS op x) fun v => K v H
  | .convert src dst x => bindO (opd F x) fun x =>
    match E.P.underlying src, E.P.underlying dst, x with
    | some _, some (.int k), .int _ n => K (.int k (k.wrap n)) H
    | _, _, _ => none
  | .makeFunc (.func f) first cap => bindO (opds F first.toList) fun a => bindO (opds F cap.toList) fun b => K (.fn f a b) H
  | .fieldAddr T x f => bindO (opd F x) fun x => bindO (fieldAddrS E T x f) fun v => K v H
  | .field T x f => bindO (opd F x) fun x => bindO (fieldOf E T f) fun fd =>
    match x, E.isAgg fd.type, E.size fd.type with
    | .agg l, some g, some n => bindO (segTake l fd.offset n) fun l => bindO (mkVal g l) fun v => K v H
    | _, _, _ => none
  | .indexAddr T x ix => bindO (opd F x) fun x => bindO (opd F ix) fun ix => indexS E H T x ix fun v => K v H
  | .index T x ix => bindO (opd F x) fun x => bindO (opd F ix) fun ix =>
    match E.P.underlying T, x, ix with
    | some .string, .raw (.string s), .int _ i => if 0 ≤ i ∧ i < (s.size : Int) then K (.int .u8 (strAt s i)) H else none
    | _, _, _ => none
  | .slice T x lo hi none => bindO (opd F x) fun u => bindO (ivO F lo) fun l => bindO (ivO F hi) fun h =>
    match E.P.underlying T with
    | some (.slice e) => bindO (E.size e) fun sz => bindO (winLen H sz u) fun L =>
      if 0 ≤ lowI l ∧ lowI l ≤ highI L h ∧ highI L h ≤ (L : Int) then bindO (cutS H u (lowI l).toNat (highI L h - lowI l).toNat) fun v => K v H else none
    | _ => none
  | .makeSlice T x y => bindO (opd F x) fun x => bindO (opd F y) fun y =>
    match E.P.underlying T, x, y with
    | some (.slice e), .int k n, .int k' m => bindO (assoc E.kind e) fun κ => bindO (E.P.info? e) fun inf => bindO (E.zeroOf e) fun z =>
      if k = .i64 ∧ k' = .i64 ∧ κ.sz = inf.size ∧ Nat.beq (segWidth z) inf.size = true then
        bindO (κ.dec z) fun d => if n = m then (if 0 ≤ n ∧ (inf.bytes : Int) * n ≤ 281474976710656 ∧ n ≤ 4611686018427387903 then K (.sl H.length) (H ++ [.seq κ (List.replicate n.toNat d) e]) else none) else none
      else none
    | _, _, _ => none
  | .extract x i => bindO (opd F x) fun x => match x with
    | .tup l => bindO (l[i]?) fun v => K v H
    | _ => none
  | .call c =>
    bindO (opds F c.args.toList) fun args =>
    match c.callee with
    | .value f => bindO (opd F f) fun f => match f with
      | .fn g first cap =>
        if Nat.beq g E.add64 && (E.P.funcs[g]?).isSome then addS (first ++ args ++ cap) fun v => K v H
        else if Nat.beq g E.sub64 && (E.P.funcs[g]?).isSome then subS (first ++ args ++ cap) fun v => K v H
        else match E.P.funcs[g]? with
          | some fn => if fn.body.isSome && fn.name != "runtime.NumGoroutine" then callf g (first ++ args ++ cap) H K else none
          | none => none
      | _ => none
    | .builtin .len => match c.argTypes.toList, args with
      | [t], [x] => match E.P.underlying t with
        | some (.slice _) => bindO (lenS H x) fun v => K v H
        | _ => none
      | _, _ => none
    | .builtin .append => match c.argTypes.toList, args with
      | [t, t'], [s, x] => if Nat.beq t t' = true then match E.P.underlying t with
        | some (.slice e) => bindO (assoc E.kind e) fun κ => bindO (E.P.info? e) fun inf => bindO (E.zeroOf e) fun z => bindO (readSeq κ x H) fun (ex, ys) =>
          if κ.sz = inf.size ∧ Nat.beq (segWidth z) inf.size = true ∧ Nat.ble 1 inf.bytes = true then
            match s with
            | .raw (.slice none 0 0) => if ys.length * inf.bytes ≤ 140737488355328 then K (.sl H.length) (H ++ [.seq κ ys e]) else none
            | .sl ts => match H[ts]? with
              | some (.seq κ' xs e') => if h : κ' = κ then if Nat.beq e' e = true ∧ memN ts ex = false then
                  (if (xs.length + ys.length) * inf.bytes ≤ 140737488355328 then K (.sl H.length) (H.set ts .dead ++ [.seq κ ((h ▸ xs) ++ ys) e]) else none) else none else none
              | _ => none
            | _ => none
          else none
        | _ => none else none
      | _, _ => none
    | .builtin .min => match args with
      | x :: l => bindO (minS x l) fun v => K v H
      | _ => none
    | .builtin .max => match args with
      | x :: l => bindO (maxS x l) fun v => K v H
      | _ => none
    | _ => none
  | _ => none

/-- The guard: the boolean in the slot of the operation that it names. -/
def guardOf (ops : Array Oper) (F : Fr) (j : Nat) : Option (Option (Bool × Nat)) :=
  match (ops[j]?).bind (·.dst) with
  | some d => match F[d]? with
    | some (some (.bool b)) => some (some (b, d))
    | some (some (.raw (.tuple _))) => some none
    | _ => none
  | none => none

noncomputable def op1 (callf : CallF α) (ops : Array Oper) (o : Oper) (S : St) (K : St → Option α) : Option α :=
  let go (S : St) : Option α := opS E callf o S.F S.H fun v H => K ⟨put S.F o.dst v, H⟩
  let skip (S : St) : Option α := K ⟨put S.F o.dst (.raw undef), S.H⟩
  match o.guard with
  | none => go S
  | some (j, want) => match guardOf ops S.F j with
    | some (some (b, d)) =>
      if b then
        let S' : St := ⟨S.F.set d (some (.bool true)), S.H⟩
        if want then go S' else skip S'
      else
        let S' : St := ⟨S.F.set d (some (.bool false)), S.H⟩
        if want then skip S' else go S'
    | some none => skip S
    | none => none

noncomputable def opsL (callf : CallF α) (ops : Array Oper) : List Oper → St → (St → Option α) → Option α
  | [], S, K => K S
  | o :: l, S, K => op1 E callf ops o S fun S' => opsL callf ops l S' K

/-! Regions whose order is open: carried out in the order of the text, with what each operation reads and writes kept, and a look at the end that operations that may change places do not meet. -/
structure Rec where
  dst : Option Tmp
  v : SV
  T : List Nat
  /-- the tokens that are written -/
  W : List Nat
  /-- the tokens that lie in what it has left -/
  left : List Nat

def noNilHead (l : List Operand) : Bool :=
  match l with
  | .const (.slice none 0 0) :: _ => false
  | _ => true
/-- Operations that may write what was there. -/
def isWr (o : Oper) : Bool :=
  match o.op with
  | .store _ _ _ => true
  | .call c => match c.callee with
    | .value _ => true
    | .builtin .append => noNilHead c.args.toList
    | _ => false
  | _ => false

def usedAsGuard : List Oper → Nat → Bool
  | [], _ => false
  | o :: l, i => (match o.guard with | some (j, _) => Nat.beq i j | none => false) || usedAsGuard l i

def opToks (o : Oper) (F : Fr) (H : Hp) : Option (List Nat) :=
  match o.op with
  | .load _ a => (opd F a).map SV.toks
  | .indexAddr _ x _ => (opd F x).map SV.toks
  | .slice _ x _ _ _ => (opd F x).map SV.toks
  | .store _ a _ => (opd F a).map SV.toks
  | .call c => match c.callee with
    | .value f => match opd F f, opds F c.args.toList with
      | some f, some as => reach H 0 4000 (f.toks ++ SV.toksL as) []
      | _, _ => none
    | _ => (opds F c.args.toList).map SV.toksL
  | _ => some []

def guardLit (ops : Array Oper) (o : Oper) (F : Fr) : Option Bool :=
  match o.guard with
  | none => some true
  | some (j, want) => match guardOf ops F j with
    | some (some (b, _)) => some (b == want)
    | some none => some false
    | none => none

def toksAt (H : Hp) : List Nat → List Nat
  | [] => []
  | t :: l => (match H[t]? with | some o => o.toks | none => []) ++ toksAt H l
noncomputable def drawL (callf : CallF α) (ops : Array Oper) (B N : Nat) : Nat → List Oper → St → List Rec → (St → List Rec → Option α) → Option α
  | _, [], S, recs, K => K S recs
  | i, o :: l, S, recs, K =>
    match guardLit ops o S.F with
    | some want =>
      if want then
        match opToks o S.F S.H with
        | some T =>
          let fin (v : SV) (nw : List Nat) (H : Hp) : Option α :=
            let next (v : SV) : Option α := drawL callf ops B N (i + 1) l ⟨put S.F o.dst v, H⟩ (⟨o.dst, v, nw ++ T, nw ++ (if isWr o then T else []), toksAt H (nw ++ T)⟩ :: recs) K
            match v with
            | .bool b => if usedAsGuard ops.toList i then (if b then next (.bool true) else next (.bool false)) else next (.bool b)
            | v => next v
          opS E.dr callf o S.F (maskH T 0 S.H) fun v M =>
            if Nat.beq M.length N then fin v [] (mergeH T 0 S.H M)
            else match M[N]? with
              | some x => if Nat.beq M.length (N + 1) && !memN (B + i) v.toks && !memN (B + i) (hpToks M) && !memN (B + i) T then
                  fin (v.ren fun t => if Nat.beq t N then B + i else t) [B + i] ((if isWr o then mergeH T 0 S.H (M.map (SObj.ren fun t => if Nat.beq t N then B + i else t)) else S.H).set (B + i) (x.ren fun t => if Nat.beq t N then B + i else t))
                else none
              | none => none
        | none => none
      else drawL callf ops B N (i + 1) l ⟨put S.F o.dst (.raw undef), S.H⟩ (⟨o.dst, .raw undef, [], [], []⟩ :: recs) K
    | none => none

def edgesOf (o : Oper) : List Nat := (o.after.toList.filter (Region.binds .any)).map (·.on)
def unionN : List Nat → List Nat → List Nat
  | [], m => m
  | x :: l, m => if memN x m then unionN l m else unionN l (x :: m)
def ancOf (acc : List (List Nat)) : List Nat → List Nat
  | [] => []
  | e :: es => unionN (e :: acc.getD e []) (ancOf acc es)
def allLt (n : Nat) : List Nat → Bool
  | [] => true
  | x :: l => Nat.blt x n && allLt n l
/-- What stands ahead of each operation, through the edges. -/
def ancL : List Oper → List (List Nat) → Option (List (List Nat))
  | [], acc => some acc
  | o :: l, acc => if allLt acc.length (edgesOf o) then ancL l (acc ++ [ancOf acc (edgesOf o)]) else none
def tmpsOf : List Operand → List Nat
  | [] => []
  | .tmp t :: l => t :: tmpsOf l
  | _ :: l => tmpsOf l
def readsOf (ops : Array Oper) (o : Oper) : List Nat :=
  (match o.guard with
    | some (j, _) => match (ops[j]?).bind (·.dst) with
      | some d => [d]
      | none => []
    | none => []) ++ tmpsOf o.op.operands.toList
def meets : List Nat → List Nat → Bool
  | [], _ => false
  | x :: l, m => memN x m || meets l m
def dstIn (d : Option Tmp) (l : List Nat) : Bool :=
  match d with
  | some t => memN t l
  | none => false
def sameDst (d e : Option Tmp) : Bool :=
  match d, e with
  | some a, some b => Nat.beq a b
  | _, _ => false
/-- May the operations i < j change places? -/
def clash (ops : Array Oper) (oi oj : Oper) (ri rj : Rec) : Bool :=
  dstIn ri.dst (readsOf ops oj) || sameDst ri.dst rj.dst || dstIn rj.dst (readsOf ops oi) || (meets ri.W rj.T || meets rj.W ri.T)
def noClash (ops : Array Oper) (anc : List Nat) (oj : Oper) (rj : Rec) : Nat → List Oper → List Rec → Bool
  | i, oi :: ol, ri :: rl => (memN i anc || !clash ops oi oj ri rj) && noClash ops anc oj rj (i + 1) ol rl
  | _, _, _ => true
def visible (B : Nat) (j : Nat) (anc : List Nat) : List Nat → Bool
  | [] => true
  | t :: l => (Nat.blt t B || Nat.beq t (B + j) || memN (t - B) anc) && visible B j anc l
def allOk (ops : Array Oper) (B : Nat) (ancs : List (List Nat)) (ol : List Oper) (rl : List Rec) : Nat → List Oper → List Rec → Bool
  | j, oj :: os, rj :: rs => noClash ops (ancs.getD j []) oj rj 0 (ol.take j) (rl.take j) && visible B j (ancs.getD j []) (rj.v.toks ++ rj.left) && allOk ops B ancs ol rl (j + 1) os rs
  | _, [], [] => true
  | _, _, _ => false
def drawOk (ops : Array Oper) (B : Nat) (recs : List Rec) : Bool :=
  match ancL ops.toList [] with
  | some ancs => allOk ops B ancs ops.toList recs 0 ops.toList recs
  | none => false

def iter {σ : Type} (step : σ → (Ex → σ → Option α) → Option α) : Nat → σ → (Ex → σ → Option α) → Option α
  | 0, _, _ => none
  | m + 1, S, K => step S fun e S' => match e with
    | .normal => iter step m S' K
    | .exit id => K (.exit id) S'
    | .ret => K .ret S'

def resVals (H : Hp) (F : Fr) : List ResultVar → Option (List SV)
  | [] => some []
  | .tmp t :: l => match (F[t]?).join, resVals H F l with
    | some a, some b => some (a :: b)
    | _, _ => none
  | .cell a T :: l => match (F[a]?).join, resVals H F l with
    | some p, some b => (loadAt E H T p).map (· :: b)
    | _, _ => none
def resOf (H : Hp) (F : Fr) (r : Array ResultVar) : Option SV :=
  bindO (resVals E H F r.toList) fun l => match l with
    | [x] => some x
    | l => some (.tup l)

def junked (J : List Nat) (F : Fr) : Fr := J.foldl (fun F d => F.set d none) F
def gcSt (base : Nat) (S : St) (K : St → Option α) : Option α :=
  match gc S.H base (frToks S.F) with
  | some ([], H) => K ⟨S.F, H⟩
  | some (τ, H) => K ⟨frRen (gcMap base τ) S.F, H⟩
  | none => none
def gcRet (base : Nat) (v : SV) (H : Hp) (K : SV → Hp → Option α) : Option α :=
  match gc H base v.toks with
  | some ([], H) => K v H
  | some (τ, H) => K (v.ren (gcMap base τ)) H
  | none => none

/-! At the entry of some functions the slices that are reached are numbered anew (the old numbers are dead): so a loop's state has one form, whether or not something was appended yet. -/
def killAt (τ : List Nat) : Nat → Hp → Hp
  | _, [] => []
  | i, o :: H => (if memN i τ then .dead else o) :: killAt τ (i + 1) H
def frMap (n : Nat) (τ : List Nat) (t : Nat) : Nat := if memN t τ then n + idxOf t τ else t
def seqsIn (H : Hp) : List Nat → List Nat
  | [] => []
  | t :: l => match H[t]? with
    | some (.seq _ _ _) => t :: seqsIn H l
    | _ => seqsIn H l
def ltAll (n : Nat) : List Nat → Bool
  | [] => true
  | x :: l => Nat.blt x n && ltAll n l
def freshSt (b : Bool) (S : St) (K : St → Option α) : Option α :=
  if b then
    match reach S.H 0 4000 (frToks S.F) [] with
    | some ts => match pickAll S.H (seqsIn S.H ts) with
      | some objs => if nodupN (seqsIn S.H ts) && ltAll S.H.length (hpToks S.H) && ltAll S.H.length (hpToks objs) && ltAll S.H.length (frToks S.F) then
          K ⟨frRen (frMap S.H.length (seqsIn S.H ts)) S.F, (killAt (seqsIn S.H ts) 0 S.H ++ objs).map (SObj.ren (frMap S.H.length (seqsIn S.H ts)))⟩
        else none
      | none => none
    | none => none
  else K S
def enterF (ntmps : Nat) (args : List SV) : Fr := args.map some ++ List.replicate (ntmps - args.length) (some (.raw undef))

/-- The piece of code at a path (the last step first). -/
def sub (root : Code) : List Bool → Option Code
  | [] => some root
  | b :: p => match sub root p with
    | some (.seq a c) => some (if b then c else a)
    | some (.cond _ a c) => some (if b then c else a)
    | some (.block _ c) => if b then none else some c
    | some (.loop c) => if b then none else some c
    | some (.scope c) => if b then none else some c
    | _ => none

/-- Which slots are forgotten at a loop's head, and behind it. -/
def junkAt : List (FuncId × List Bool × List Nat × List Nat) → FuncId → List Bool → List Nat × List Nat
  | [], _, _ => ([], [])
  | (f, p, J) :: l, fid, path => if Nat.beq f fid && p == path then J else junkAt l fid path

/-- The slot of a test is written out. -/
def setOpd (c : Operand) (t : Bool) (S : St) : St :=
  match c with
  | .tmp d => ⟨S.F.set d (some (.bool t)), S.H⟩
  | _ => S

abbrev LookF (α : Type) := FuncId → Option (List SV → Hp → (SV → Hp → Option α) → Option α)
abbrev LookL (α : Type) := FuncId → List Bool → Nat → St → Option ((Ex → St → Option α) → Option α)
abbrev RunF (α : Type) := FuncId → List Bool → Nat → Code → St → (Ex → St → Option α) → Option α

noncomputable def callI (look : LookF α) (run : RunF α) : CallF α :=
  fun f args H K =>
    match look f with
    | some c => c args H K
    | none => match E.P.funcs[f]? with
      | some fn => match fn.body with
        | some c => if Nat.ble args.length fn.ntmps then
            freshSt (memN f E.fresh) ⟨enterF fn.ntmps args, H⟩ fun S => run f [] H.length c S fun e S => match e with
              | .exit _ => none
              | _ => bindO (resOf E S.H S.F fn.results) fun v => gcRet H.length v S.H K
          else none
        | none => none
      | none => none

def cleanL (fid : FuncId) (path : List Bool) (base : Nat) (S : St) (K : St → Option α) : Option α :=
  gcSt base ⟨junked (junkAt E.junk fid path).1 S.F, S.H⟩ K
def cleanX (fid : FuncId) (path : List Bool) (base : Nat) (S : St) (K : St → Option α) : Option α :=
  gcSt base ⟨junked (junkAt E.junk fid path).2 S.F, S.H⟩ K
/-- One round of a loop. -/
noncomputable def loopStep (run : RunF α) (fid : FuncId) (path : List Bool) (base : Nat) (c : Code) (S : St) (K : Ex → St → Option α) : Option α :=
  run fid (false :: path) base c S fun e S' => match e with
    | .normal => cleanL E fid path base S' fun S' => K .normal S'
    | .exit id => cleanX E fid path base S' fun S' => K (.exit id) S'
    | .ret => cleanX E fid path base S' fun S' => K .ret S'

def anyNil : Hp → Bool
  | [] => false
  | .cells l _ :: H => hasNil l || anyNil H
  | _ :: H => anyNil H
def nilObj (i : Nat) (H : Hp) : Hp :=
  match H[i]? with
  | some (.cells l T) => if hasNil l then match E.P.cellTypes E.P.depth T with
      | some ts => H.set i (.cells (nilz E ts l H.length).1 T) ++ (nilz E ts l H.length).2
      | none => H
    else H
  | _ => H
def nilGo : Nat → Nat → Hp → Hp
  | 0, _, H => H
  | n + 1, i, H => nilGo n (i + 1) (nilObj E i H)
/-- Nil slices in what lies in memory: each is a slice of one's own. -/
def nilSt (S : St) (K : St → Option α) : Option α := if anyNil S.H then K ⟨S.F, nilGo E S.H.length 0 S.H⟩ else K S
noncomputable def loopAt (lps : LookL α) (run : RunF α) (fid : FuncId) (path : List Bool) (base : Nat) (c : Code) (S : St) (K : Ex → St → Option α) : Option α :=
  match lps fid path base S with
  | some l => l K
  | none => iter (loopStep E run fid path base c) E.L S K
noncomputable def exec (look : LookF α) (lps : LookL α) : Nat → RunF α
  | 0, _, _, _, _, _, _ => none
  | n + 1, fid, path, base, c, S, K =>
    match c with
    | .skip => K .normal S
    | .label _ => K .normal S
    | .ret => K .ret S
    | .exit id => K (.exit id) S
    | .seq a b => exec look lps n fid (false :: path) base a S fun e S' => match e with
      | .normal => exec look lps n fid (true :: path) base b S' K
      | .exit id => K (.exit id) S'
      | .ret => K .ret S'
    | .cond c a b => match opd S.F c with
      | some (.bool t) =>
        if t then exec look lps n fid (false :: path) base a (setOpd c true S) K else exec look lps n fid (true :: path) base b (setOpd c false S) K
      | _ => none
    | .block id c => exec look lps n fid (false :: path) base c S fun e S' => match e with
      | .exit id' => if Nat.beq id' id then K .normal S' else K (.exit id') S'
      | .normal => K .normal S'
      | .ret => K .ret S'
    | .scope c => exec look lps n fid (false :: path) base c S K
    | .loop c => cleanL E fid path base S fun S => loopAt E lps (exec look lps n) fid path base c S K
    | .region _ ops draw => if draw then
        if E.P.follows .mixedOrders then
          drawL E (callI E look (exec look lps n)) ops S.H.length (S.H.length + ops.size) 0 ops.toList ⟨S.F, S.H ++ List.replicate ops.size .dead⟩ [] fun S' recs =>
            if drawOk ops S.H.length recs.reverse then gcSt base S' fun S' => nilSt E S' fun S' => K .normal S' else none
        else none
      else opsL E (callI E look (exec look lps n)) ops ops.toList S fun S' => K .normal S'
    | _ => none
end

/-! A function's own run, over a heap of what it is handed alone, used at a call in any heap. -/
def gAd (σ : List Nat) (n t : Nat) : Nat := if Nat.blt t σ.length then σ.getD t 0 else n + (t - σ.length)
def setAll : Hp → List Nat → Hp → Hp
  | H, s :: σ, o :: os => setAll (H.set s o) σ os
  | H, _, _ => H
def backH (σ : List Nat) (H H0 : Hp) : Hp := setAll H σ ((H0.take σ.length).map (SObj.ren (gAd σ H.length))) ++ (H0.drop σ.length).map (SObj.ren (gAd σ H.length))
def adaptK {α : Type} (σ : List Nat) (H : Hp) (K : SV → Hp → Option α) (v0 : SV) (H0 : Hp) : Option α := K (v0.ren (gAd σ H.length)) (backH σ H H0)
/-- A slice that is handed over to be read. -/
def seqArg {α : Type} (κ : K) (H : Hp) (a : SV) (k : List κ.T → Option α) : Option α :=
  match a with
  | .ros _ κ' xs => if h : κ' = κ then k (h ▸ xs) else none
  | .sl t => match H[t]? with
    | some (.seq κ' xs _) => if h : κ' = κ then k (h ▸ xs) else none
    | _ => none
  | .sub t κ' lo n => if κ' = κ then (match H[t]? with
    | some (.seq κ' xs _) => if h : κ' = κ then k ((((h ▸ xs) : List κ.T).drop lo).take n) else none
    | _ => none) else none
  | .raw (.slice none 0 0) => k []
  | _ => none
end Go.Proofs.Ytkjellhkamfciaa.Sx
end

section
/- SX: what symbolic values and heaps mean. -/
namespace Go.Proofs.Ytkjellhkamfciaa.Sx
open Go

def LK.cell : (k : LK) → k.T → Value
  | .i k, n => .int k n
  | .b, x => .bool x
def RT.cells : (k : LK) → (ks : List LK) → RT k ks → List Value
  | k, [], x => [k.cell x]
  | k, k' :: ks, x => k.cell x.1 :: RT.cells k' ks x.2
def K.cells : (κ : K) → κ.T → List Value
  | .int k, n => [.int k n]
  | .bool, b => [.bool b]
  | .v3, p => [.int .i64 p.X, .int .i64 p.Y, .int .i64 p.Z]
  | .st k ks, x => RT.cells k ks x
theorem RT.cells_length : ∀ (k : LK) (ks : List LK) (x : RT k ks), (RT.cells k ks x).length = ks.length + 1
  | _, [], _ => rfl
  | k, k' :: ks, x => by show (RT.cells k' ks x.2).length + 1 = _; rw [RT.cells_length k' ks x.2]; rfl

structure Tk where
  blk : Nat
  hdr : Value

def rixAddr (v : Value) (n : Nat) : Value :=
  match v with
  | .slice (some a) _ _ => .pointer (some ⟨a.block, a.off + n, none⟩)
  | _ => .pointer none

def cell1 (x : SV) (v : Value) : List Value :=
  match x with
  | .arr κ xs _ => xs.flatMap κ.cells
  | _ => [v]
mutual
def den (ρ : Nat → Tk) : SV → Value
  | .int k n => .int k n
  | .bool b => .bool b
  | .ptr t off => .pointer (some ⟨(ρ t).blk, off, none⟩)
  | .aix t off κ i _ => .pointer (some ⟨(ρ t).blk, off + i * κ.sz, none⟩)
  | .pix t κ i off => .pointer (some ⟨(ρ t).blk, i * κ.sz + off, none⟩)
  | .rix v κ _ i off => rixAddr v (i * κ.sz + off)
  | .sl t => (ρ t).hdr
  | .sub t κ lo n => winV (ρ t).hdr κ.sz lo n
  | .ros v _ _ => v
  | .fn f a b => .func (.func f) (denL ρ a).toArray (denL ρ b).toArray
  | .raw v => v
  | .arr κ xs _ => .agg (xs.flatMap κ.cells).toArray
  | .agg l => .agg (denC ρ l).toArray
  | .tup l => .tuple (denL ρ l).toArray
def denL (ρ : Nat → Tk) : List SV → List Value
  | [] => []
  | x :: l => den ρ x :: denL ρ l
/-- The cells of leaves. -/
def denC (ρ : Nat → Tk) : List SV → List Value
  | [] => []
  | x :: l => cell1 x (den ρ x) ++ denC ρ l
end

theorem K.cells_length (κ : K) (x : κ.T) : (κ.cells x).length = κ.sz := by
  cases κ with
  | st k ks => exact RT.cells_length k ks x
  | _ => rfl
theorem K.sz_pos (κ : K) : 0 < κ.sz := by cases κ <;> simp [K.sz]
theorem cells_flat_length (κ : K) (xs : List κ.T) : (xs.flatMap κ.cells).length = xs.length * κ.sz := by
  induction xs with
  | nil => simp
  | cons x l ih => simp [ih, K.cells_length, Nat.add_mul]; omega
theorem denC_cons (ρ : Nat → Tk) (x : SV) (l : List SV) : denC ρ (x :: l) = denC ρ [x] ++ denC ρ l := by simp [denC]
theorem denC_append (ρ : Nat → Tk) (l m : List SV) : denC ρ (l ++ m) = denC ρ l ++ denC ρ m := by
  induction l with
  | nil => simp [denC]
  | cons x l ih => rw [List.cons_append, denC_cons, ih, denC_cons ρ x l, List.append_assoc]
theorem LK.denC_enc (ρ : Nat → Tk) (k : LK) (x : k.T) : denC ρ [k.enc x] = [k.cell x] := by cases k <;> rfl
theorem RT.denC_enc (ρ : Nat → Tk) : ∀ (k : LK) (ks : List LK) (x : RT k ks), denC ρ (RT.enc k ks x) = RT.cells k ks x
  | k, [], x => LK.denC_enc ρ k x
  | k, k' :: ks, x => by
    show denC ρ (k.enc x.1 :: RT.enc k' ks x.2) = k.cell x.1 :: RT.cells k' ks x.2
    rw [denC_cons, LK.denC_enc, RT.denC_enc ρ k' ks x.2]; rfl
theorem denC_enc (ρ : Nat → Tk) (κ : K) (x : κ.T) : denC ρ (κ.enc x) = κ.cells x := by
  cases κ with
  | st k ks => exact RT.denC_enc ρ k ks x
  | _ => simp [K.enc, K.cells, denC, den, cell1]
theorem LK.dec_cell (ρ : Nat → Tk) (k : LK) (s : SV) (x : k.T) (h : k.dec s = some x) : denC ρ [s] = [k.cell x] := by
  unfold LK.dec at h
  split at h
  · split at h
    · rename_i he; cases h; subst he; simp [denC, den, LK.cell, cell1]
    · cases h
  · cases h; simp [denC, den, LK.cell, cell1]
  · cases h
theorem RT.dec_cells (ρ : Nat → Tk) : ∀ (k : LK) (ks : List LK) (l : List SV) (x : RT k ks), RT.dec k ks l = some x → denC ρ l = RT.cells k ks x
  | k, [], [s], x, h => LK.dec_cell ρ k s x h
  | k, k' :: ks, s :: l, x, h => by
    unfold RT.dec at h
    split at h
    · rename_i a b h1 h2
      cases h
      rw [denC_cons, LK.dec_cell ρ k s a h1, RT.dec_cells ρ k' ks l b h2]
      rfl
    · cases h
  | k, [], [], x, h => by simp [RT.dec] at h
  | k, [], _ :: _ :: _, x, h => by simp [RT.dec] at h
  | k, _ :: _, [], x, h => by simp [RT.dec] at h
theorem dec_cells (ρ : Nat → Tk) (κ : K) (l : List SV) (x : κ.T) (h : κ.dec l = some x) : denC ρ l = κ.cells x := by
  unfold K.dec at h
  split at h
  · split at h
    · rename_i he; cases h; subst he; simp [denC, den, K.cells, cell1]
    · cases h
  · cases h; simp [denC, den, K.cells, cell1]
  · cases h; simp [denC, den, K.cells, cell1]
  · exact RT.dec_cells ρ _ _ _ _ h
  · cases h

/-- A slice that is only read: what it reads as in the memory of 'w'. -/
def RosOk (R : Nat → Prop) (w : World) (v : Value) (κ : K) (xs : List κ.T) : Prop :=
  (xs = [] ∧ ∃ a cap, v = .slice a 0 cap) ∨
  ∃ ad cap, v = .slice (some ad) xs.length cap ∧ xs.length ≤ cap ∧ ad.spot = none ∧ R ad.block ∧ ∀ j c, (xs.flatMap κ.cells)[j]? = some c → w.cell? ⟨ad.block, ad.off + j, none⟩ = some c

mutual
def SV.ok (R : Nat → Prop) (w : World) (ρ : Nat → Tk) (n : Nat) : SV → Prop
  | .ptr t _ => t < n
  | .aix t _ _ i m => t < n ∧ i < m
  | .pix t _ i _ => t < n ∧ ∃ a m c, (ρ t).hdr = .slice a m c ∧ i < m
  | .sl t => t < n
  | .sub t _ lo m => t < n ∧ ∃ a k c, (ρ t).hdr = .slice a k c ∧ lo + m ≤ k
  | .rix v κ xs i _ => RosOk R w v κ xs ∧ i < xs.length
  | .ros v κ xs => RosOk R w v κ xs
  | .fn _ a b => SV.okL R w ρ n a ∧ SV.okL R w ρ n b
  | .raw v => ∀ cs, v ≠ .agg cs
  | .arr _ xs m => xs.length = m
  | .agg l => SV.okL R w ρ n l
  | .tup l => SV.okL R w ρ n l
  | .int _ _ => True
  | .bool _ => True
def SV.okL (R : Nat → Prop) (w : World) (ρ : Nat → Tk) (n : Nat) : List SV → Prop
  | [] => True
  | x :: l => SV.ok R w ρ n x ∧ SV.okL R w ρ n l
end

theorem okL_iff {R : Nat → Prop} {w : World} {ρ : Nat → Tk} {n : Nat} : ∀ {l : List SV}, SV.okL R w ρ n l ↔ ∀ x ∈ l, x.ok R w ρ n
  | [] => by simp [SV.okL]
  | x :: l => by simp [SV.okL, okL_iff (l := l)]
theorem okL_append {R : Nat → Prop} {w : World} {ρ : Nat → Tk} {n : Nat} {l m : List SV} : SV.okL R w ρ n (l ++ m) ↔ SV.okL R w ρ n l ∧ SV.okL R w ρ n m := by
  simp only [okL_iff, List.mem_append]
  constructor
  · exact fun h => ⟨fun x hx => h x (.inl hx), fun x hx => h x (.inr hx)⟩
  · rintro ⟨h1, h2⟩ x (hx | hx)
    · exact h1 x hx
    · exact h2 x hx
mutual
theorem ok_mono {R : Nat → Prop} {w : World} {ρ : Nat → Tk} {n m : Nat} (h : n ≤ m) : ∀ (v : SV), v.ok R w ρ n → v.ok R w ρ m
  | .ptr _ _, hv => by simp only [SV.ok] at hv ⊢; omega
  | .aix _ _ _ _ _, hv => by simp only [SV.ok] at hv ⊢; exact ⟨by omega, hv.2⟩
  | .pix _ _ _ _, hv => by simp only [SV.ok] at hv ⊢; exact ⟨by omega, hv.2⟩
  | .sl _, hv => by simp only [SV.ok] at hv ⊢; omega
  | .sub _ _ _ _, hv => by simp only [SV.ok] at hv ⊢; exact ⟨by omega, hv.2⟩
  | .rix _ _ _ _ _, hv => by simp only [SV.ok] at hv ⊢; exact hv
  | .ros _ _ _, hv => by simp only [SV.ok] at hv ⊢; exact hv
  | .fn _ a b, hv => by simp only [SV.ok] at hv ⊢; exact ⟨okL_mono h a hv.1, okL_mono h b hv.2⟩
  | .raw _, hv => by simp only [SV.ok] at hv ⊢; exact hv
  | .arr _ _ _, hv => by simp only [SV.ok] at hv ⊢; exact hv
  | .agg l, hv => by simp only [SV.ok] at hv ⊢; exact okL_mono h l hv
  | .tup l, hv => by simp only [SV.ok] at hv ⊢; exact okL_mono h l hv
  | .int _ _, _ => by simp only [SV.ok]
  | .bool _, _ => by simp only [SV.ok]
theorem okL_mono {R : Nat → Prop} {w : World} {ρ : Nat → Tk} {n m : Nat} (h : n ≤ m) : ∀ (l : List SV), SV.okL R w ρ n l → SV.okL R w ρ m l
  | [], _ => by simp only [SV.okL]
  | x :: l, hv => by simp only [SV.okL] at hv ⊢; exact ⟨ok_mono h x hv.1, okL_mono h l hv.2⟩
end
theorem RT.enc_ok (R : Nat → Prop) (w : World) (ρ : Nat → Tk) (n : Nat) : ∀ (k : LK) (ks : List LK) (x : RT k ks), SV.okL R w ρ n (RT.enc k ks x)
  | k, [], x => by
    show SV.okL R w ρ n [k.enc x]
    cases k <;> simp [LK.enc, SV.okL, SV.ok]
  | k, k' :: ks, x => by
    show SV.okL R w ρ n (k.enc x.1 :: RT.enc k' ks x.2)
    refine ⟨?_, RT.enc_ok R w ρ n k' ks x.2⟩
    cases k <;> simp [LK.enc, SV.ok]
theorem RT.enc_leaves : ∀ (k : LK) (ks : List LK) (x : RT k ks), leavesB (RT.enc k ks x) = true
  | k, [], x => by
    show leavesB [k.enc x] = true
    cases k <;> simp [LK.enc, leavesB, SV.leafB]
  | k, k' :: ks, x => by
    show leavesB (k.enc x.1 :: RT.enc k' ks x.2) = true
    have := RT.enc_leaves k' ks x.2
    cases k <;> simp [LK.enc, leavesB, SV.leafB, this]
theorem RT.cells_one : ∀ (k : LK) (ks : List LK) (x : RT k ks), ∀ v ∈ RT.cells k ks x, v.oneCell' = true
  | k, [], x, v, h => by
    have : v = k.cell x := by simpa [RT.cells] using h
    subst this
    cases k <;> rfl
  | k, k' :: ks, x, v, h => by
    have : v = k.cell x.1 ∨ v ∈ RT.cells k' ks x.2 := by simpa [RT.cells] using h
    rcases this with rfl | h
    · cases k <;> rfl
    · exact RT.cells_one k' ks x.2 v h
theorem enc_ok (R : Nat → Prop) (w : World) (ρ : Nat → Tk) (n : Nat) (κ : K) (x : κ.T) : SV.okL R w ρ n (κ.enc x) := by
  cases κ with
  | st k ks => exact RT.enc_ok R w ρ n k ks x
  | _ => simp [K.enc, SV.okL, SV.ok]
theorem enc_leaves (κ : K) (x : κ.T) : leavesB (κ.enc x) = true := by
  cases κ with
  | st k ks => exact RT.enc_leaves k ks x
  | _ => simp [K.enc, leavesB, SV.leafB]

mutual
theorem den_agree {R : Nat → Prop} {w : World} {n : Nat} {ρ ρ' : Nat → Tk} (h : ∀ t, t < n → ρ' t = ρ t) : ∀ (v : SV), v.ok R w ρ n → den ρ' v = den ρ v
  | .ptr _ _, hv => by simp only [SV.ok] at hv; simp only [den, h _ hv]
  | .aix _ _ _ _ _, hv => by simp only [SV.ok] at hv; simp only [den, h _ hv.1]
  | .pix _ _ _ _, hv => by simp only [SV.ok] at hv; simp only [den, h _ hv.1]
  | .sl _, hv => by simp only [SV.ok] at hv; simp only [den, h _ hv]
  | .sub _ _ _ _, hv => by simp only [SV.ok] at hv; simp only [den, h _ hv.1]
  | .rix _ _ _ _ _, _ => by simp only [den]
  | .ros _ _ _, _ => by simp only [den]
  | .fn _ a b, hv => by simp only [SV.ok] at hv; simp only [den, denL_agree h a hv.1, denL_agree h b hv.2]
  | .raw _, _ => by simp only [den]
  | .arr _ _ _, _ => by simp only [den]
  | .agg l, hv => by simp only [SV.ok] at hv; simp only [den, denC_agree h l hv]
  | .tup l, hv => by simp only [SV.ok] at hv; simp only [den, denL_agree h l hv]
  | .int _ _, _ => by simp only [den]
  | .bool _, _ => by simp only [den]
theorem denL_agree {R : Nat → Prop} {w : World} {n : Nat} {ρ ρ' : Nat → Tk} (h : ∀ t, t < n → ρ' t = ρ t) : ∀ (l : List SV), SV.okL R w ρ n l → denL ρ' l = denL ρ l
  | [], _ => by simp only [denL]
  | x :: l, hv => by simp only [SV.okL] at hv; simp only [denL, den_agree h x hv.1, denL_agree h l hv.2]
theorem denC_agree {R : Nat → Prop} {w : World} {n : Nat} {ρ ρ' : Nat → Tk} (h : ∀ t, t < n → ρ' t = ρ t) : ∀ (l : List SV), SV.okL R w ρ n l → denC ρ' l = denC ρ l
  | [], _ => by simp only [denC]
  | x :: l, hv => by
    simp only [SV.okL] at hv
    have h1 := den_agree h x hv.1
    have h2 := denC_agree h l hv.2
    simp only [denC, h1, h2]
end

mutual
theorem ok_agree {R : Nat → Prop} {w : World} {n : Nat} {ρ ρ' : Nat → Tk} (h : ∀ t, t < n → ρ' t = ρ t) : ∀ (v : SV), v.ok R w ρ n → v.ok R w ρ' n
  | .ptr _ _, hv => by simp only [SV.ok] at hv ⊢; exact hv
  | .aix _ _ _ _ _, hv => by simp only [SV.ok] at hv ⊢; exact hv
  | .pix _ _ _ _, hv => by simp only [SV.ok] at hv ⊢; rw [h _ hv.1]; exact hv
  | .sl _, hv => by simp only [SV.ok] at hv ⊢; exact hv
  | .sub _ _ _ _, hv => by simp only [SV.ok] at hv ⊢; rw [h _ hv.1]; exact hv
  | .rix _ _ _ _ _, hv => by simp only [SV.ok] at hv ⊢; exact hv
  | .ros _ _ _, hv => by simp only [SV.ok] at hv ⊢; exact hv
  | .fn _ a b, hv => by simp only [SV.ok] at hv ⊢; exact ⟨okL_agree h a hv.1, okL_agree h b hv.2⟩
  | .raw _, hv => by simp only [SV.ok] at hv ⊢; exact hv
  | .arr _ _ _, hv => by simp only [SV.ok] at hv ⊢; exact hv
  | .agg l, hv => by simp only [SV.ok] at hv ⊢; exact okL_agree h l hv
  | .tup l, hv => by simp only [SV.ok] at hv ⊢; exact okL_agree h l hv
  | .int _ _, _ => by simp only [SV.ok]
  | .bool _, _ => by simp only [SV.ok]
theorem okL_agree {R : Nat → Prop} {w : World} {n : Nat} {ρ ρ' : Nat → Tk} (h : ∀ t, t < n → ρ' t = ρ t) : ∀ (l : List SV), SV.okL R w ρ n l → SV.okL R w ρ' n l
  | [], _ => by simp only [SV.okL]
  | x :: l, hv => by simp only [SV.okL] at hv ⊢; exact ⟨ok_agree h x hv.1, okL_agree h l hv.2⟩
end

def SObj.ok (R : Nat → Prop) (w : World) (ρ : Nat → Tk) (n : Nat) : SObj → Prop
  | .cells l _ => SV.okL R w ρ n l ∧ leavesB l = true
  | _ => True

def ObjRel (ρ : Nat → Tk) (w : World) (tk : Tk) : SObj → Prop
  | .cells l T => w.heap[tk.blk]? = some (.cells (denC ρ l).toArray T (0, 0))
  | .seq κ xs E => w.ownsRow 0 E κ.sz tk.hdr xs.length (xs.flatMap κ.cells) ∧ ∀ b, tk.hdr.ownBlock = some b → b = tk.blk
  | .dead => True

def objBlk (tk : Tk) : SObj → Option Nat
  | .cells _ _ => some tk.blk
  | .seq _ _ _ => tk.hdr.ownBlock
  | .dead => none
def blkOf (ρ : Nat → Tk) (H : Hp) (t : Nat) : Option Nat :=
  match H[t]? with
  | some o => objBlk (ρ t) o
  | none => none

/-- A run's surroundings: the blocks that are read only, the world in which it began, the blocks that it may change. -/
structure Cx where
  R : Nat → Prop
  w1 : World
  Own : Nat → Prop

structure Cx.Fit (C : Cx) : Prop where
  new : ∀ b, C.w1.heap.size ≤ b → C.Own b
  ro : ∀ b, C.R b → b < C.w1.heap.size ∧ ¬ C.Own b

structure Rel (C : Cx) (ρ : Nat → Tk) (H : Hp) (w : World) : Prop where
  obj : ∀ t o, H[t]? = some o → ObjRel ρ w (ρ t) o
  sep : ∀ t t' b, blkOf ρ H t = some b → blkOf ρ H t' = some b → t = t'
  own : ∀ t b, blkOf ρ H t = some b → C.Own b
  hdr : ∀ t, ∃ a n c, (ρ t).hdr = .slice a n c
  keep : ∀ b, b < C.w1.heap.size → ¬ C.Own b → w.heap[b]? = C.w1.heap[b]?
  size : C.w1.heap.size ≤ w.heap.size
  os : w.os = C.w1.os
  tape : w.tape = C.w1.tape
  output : w.output = C.w1.output
  ok : ∀ (t : Nat) (o : SObj), H[t]? = some o → o.ok C.R C.w1 ρ H.length
  fit : C.Fit

structure FRel (C : Cx) (ρ : Nat → Tk) (n : Nat) (F : Fr) (tmps : Array Value) : Prop where
  size : tmps.size = F.length
  val : ∀ (i : Nat) (v : SV), F[i]? = some (some v) → tmps[i]? = some (den ρ v) ∧ v.ok C.R C.w1 ρ n

theorem blkOf_eq {ρ : Nat → Tk} {H : Hp} {t : Nat} {o : SObj} (ht : H[t]? = some o) : blkOf ρ H t = objBlk (ρ t) o := by
  unfold blkOf; rw [ht]
theorem blkOf_get {ρ : Nat → Tk} {H : Hp} {t b : Nat} (h : blkOf ρ H t = some b) : ∃ o, H[t]? = some o ∧ objBlk (ρ t) o = some b := by
  unfold blkOf at h
  cases ht : H[t]? with
  | none => rw [ht] at h; cases h
  | some o => rw [ht] at h; exact ⟨o, rfl, h⟩
theorem blkOf_lt_len {ρ : Nat → Tk} {H : Hp} {t b : Nat} (h : blkOf ρ H t = some b) : t < H.length := by
  obtain ⟨o, ho, _⟩ := blkOf_get h
  exact (List.getElem?_eq_some_iff.1 ho).1
theorem objRel_lt {ρ : Nat → Tk} {w : World} {tk : Tk} {o : SObj} (h : ObjRel ρ w tk o) {b : Nat} (hb : objBlk tk o = some b) : b < w.heap.size := by
  cases o with
  | cells l T => cases hb; exact (Array.getElem?_eq_some_iff.1 h).1
  | seq κ xs E => exact (h.1.lt b hb).2
  | dead => cases hb
theorem blk_lt {C : Cx} {ρ : Nat → Tk} {H : Hp} {w : World} (h : Rel C ρ H w) {t b : Nat} (hb : blkOf ρ H t = some b) : b < w.heap.size := by
  obtain ⟨o, ho, h2⟩ := blkOf_get hb
  exact objRel_lt (h.obj t o ho) h2
/-- The memory that is read only is as it was. -/
theorem ro_cell {C : Cx} {ρ : Nat → Tk} {H : Hp} {w : World} (h : Rel C ρ H w) {a : Addr} (hr : C.R a.block) : w.cell? a = C.w1.cell? a :=
  World.cell?_of_block (h.keep _ (h.fit.ro _ hr).1 (h.fit.ro _ hr).2)

/-- A slice's own header is no aggregate; leaves are single cells. -/
theorem leaf_one {C : Cx} {ρ : Nat → Tk} {n : Nat} (hh : ∀ t, ∃ a m c, (ρ t).hdr = .slice a m c) :
    ∀ {l : List SV}, SV.okL C.R C.w1 ρ n l → leavesB l = true → ∀ v ∈ denC ρ l, v.oneCell' = true
  | [], _, _ => by simp [denC]
  | x :: l, ho, hl => by
    simp only [SV.okL] at ho
    simp only [leavesB, Bool.and_eq_true] at hl
    intro v hv
    rw [denC_cons, List.mem_append] at hv
    rcases hv with hv | hv
    · cases x with
      | arr κ xs m =>
        simp only [denC, cell1, List.append_nil, List.mem_flatMap] at hv
        obtain ⟨y, _, hy⟩ := hv
        cases κ with
        | st k ks => exact RT.cells_one k ks y v hy
        | _ => simp only [K.cells, List.mem_cons, List.not_mem_nil, or_false] at hy; (first | (rcases hy with rfl | rfl | rfl <;> rfl) | (subst hy; rfl))
      | raw u =>
        simp only [denC, den, cell1, List.append_nil, List.mem_singleton] at hv
        subst hv
        have h1 := hl.1
        unfold SV.leafB at h1
        split at h1 <;> first | rfl | (cases h1; done) | (rename_i he; cases he; rfl) | (simp_all; done)
      | sl t =>
        simp only [denC, den, cell1, List.append_nil, List.mem_singleton] at hv
        subst hv
        obtain ⟨a, m, c, he⟩ := hh t
        rw [he]; rfl
      | ros u κ xs =>
        simp only [denC, den, cell1, List.append_nil, List.mem_singleton] at hv
        subst hv
        rcases ho.1 with ⟨_, a, c, he⟩ | ⟨ad, c, he, _⟩ <;> rw [he] <;> rfl
      | rix u κ xs i off =>
        simp only [denC, den, cell1, List.append_nil, List.mem_singleton] at hv
        subst hv
        unfold rixAddr
        split <;> rfl
      | sub t κ lo m =>
        simp only [denC, den, cell1, List.append_nil, List.mem_singleton] at hv
        subst hv
        obtain ⟨_, a, k, c, he, _⟩ := ho.1
        rw [he]; rfl
      | agg m => simp [SV.leafB] at hl
      | tup m => simp [SV.leafB] at hl
      | _ =>
        simp only [denC, den, cell1, List.append_nil, List.mem_singleton] at hv
        subst hv; rfl
    · exact leaf_one hh ho.2 hl.2 v hv

/-- Leaves are as many cells as they say. -/
theorem width_eq {R : Nat → Prop} {w : World} {n : Nat} {ρ : Nat → Tk} (x : SV) (h : x.ok R w ρ n) : (denC ρ [x]).length = x.width := by
  cases x <;> simp [denC, SV.width, cell1]
  case arr κ xs m =>
    simp only [SV.ok] at h
    have := cells_flat_length κ xs
    rw [List.length_flatMap] at this
    rw [this, h]
theorem segWidth_eq {R : Nat → Prop} {w : World} {n : Nat} {ρ : Nat → Tk} : ∀ {l : List SV}, SV.okL R w ρ n l → (denC ρ l).length = segWidth l
  | [], _ => by simp [denC, segWidth]
  | x :: l, h => by
    simp only [SV.okL] at h
    rw [denC_cons, List.length_append, width_eq x h.1, segWidth_eq h.2, segWidth_cons]
theorem segTake_spec {R : Nat → Prop} {w : World} {n : Nat} {ρ : Nat → Tk} : ∀ {l : List SV} {off m : Nat} {r : List SV}, SV.okL R w ρ n l → segTake l off m = some r →
    (∃ a b, denC ρ l = a ++ denC ρ r ++ b ∧ a.length = off) ∧ (denC ρ r).length = m ∧ SV.okL R w ρ n r ∧ (leavesB l = true → leavesB r = true)
  | l, 0, 0, r, ho, h => by
    have hr : r = [] := by
      have h' : some [] = some r := by cases l <;> exact h
      cases h'; rfl
    subst hr
    exact ⟨⟨[], denC ρ l, by simp [denC], rfl⟩, by simp [denC], by simp [SV.okL], fun _ => rfl⟩
  | [], 0, m + 1, r, ho, h => by cases (show none = some r from h)
  | [], off + 1, m, r, ho, h => by cases (show none = some r from h)
  | x :: l, 0, m + 1, r, ho, h => by
    rw [segTake_cons0] at h
    simp only [SV.okL] at ho
    split at h
    · rename_i hx
      cases hq : segTake l 0 (m + 1 - x.width) with
      | none => simp [hq] at h
      | some r' =>
        simp only [hq, Option.map_some, Option.some.injEq] at h
        subst h
        obtain ⟨⟨a, b, h1, h2⟩, h3, h4, h5⟩ := segTake_spec (ρ := ρ) ho.2 hq
        have ha : a = [] := List.eq_nil_of_length_eq_zero h2
        subst ha
        refine ⟨⟨[], b, ?_, rfl⟩, ?_, ?_, ?_⟩
        · rw [denC_cons, h1, denC_cons ρ x r']; simp
        · rw [denC_cons, List.length_append, h3, width_eq x ho.1]; omega
        · simp only [SV.okL]; exact ⟨ho.1, h4⟩
        · intro hl; simp only [leavesB, Bool.and_eq_true] at hl ⊢; exact ⟨hl.1, h5 hl.2⟩
    · cases h
  | x :: l, off + 1, m, r, ho, h => by
    have h' : (if x.width ≤ off + 1 then segTake l (off + 1 - x.width) m else none) = some r := by
      rw [segTake_cons] at h; exact h
    simp only [SV.okL] at ho
    split at h'
    · rename_i hx
      obtain ⟨⟨a, b, h1, h2⟩, h3, h4, h5⟩ := segTake_spec (ρ := ρ) ho.2 h'
      refine ⟨⟨denC ρ [x] ++ a, b, ?_, ?_⟩, h3, h4, fun hl => h5 (by simp only [leavesB, Bool.and_eq_true] at hl; exact hl.2)⟩
      · rw [denC_cons, h1]; simp
      · rw [List.length_append, width_eq x ho.1, h2]; omega
    · cases h'
end Go.Proofs.Ytkjellhkamfciaa.Sx
end

section
/- SX: how the relation between symbolic heaps and worlds is kept by new blocks, stores, and reads. -/
namespace Go.Proofs.Ytkjellhkamfciaa.Sx
open Go Go.RowKit

def ext (ρ : Nat → Tk) (n : Nat) (tk : Tk) : Nat → Tk := fun t => if t = n then tk else ρ t
theorem ext_lt {ρ : Nat → Tk} {n : Nat} {tk : Tk} : ∀ t, t < n → ext ρ n tk t = ρ t := fun t h => by
  unfold ext; rw [if_neg (by omega)]
theorem ext_self {ρ : Nat → Tk} {n : Nat} {tk : Tk} : ext ρ n tk n = tk := by simp [ext]

theorem SObj.ok_mono {R : Nat → Prop} {w : World} {ρ : Nat → Tk} {n m : Nat} (h : n ≤ m) {o : SObj} (ho : o.ok R w ρ n) : o.ok R w ρ m := by
  cases o with
  | cells l T => exact ⟨okL_mono h _ ho.1, ho.2⟩
  | _ => trivial

theorem SObj.ok_agree {R : Nat → Prop} {w : World} {ρ ρ' : Nat → Tk} {n : Nat} (h : ∀ t, t < n → ρ' t = ρ t) {o : SObj} (ho : o.ok R w ρ n) : o.ok R w ρ' n := by
  cases o with
  | cells l T => exact ⟨okL_agree h _ ho.1, ho.2⟩
  | _ => trivial

theorem ObjRel.agree {C : Cx} {ρ ρ' : Nat → Tk} {w w' : World} {n : Nat} {tk : Tk} {o : SObj} (h : ObjRel ρ w tk o) (ho : o.ok C.R C.w1 ρ n) (hr : ∀ t, t < n → ρ' t = ρ t)
    (hw : ∀ b, objBlk tk o = some b → w'.heap[b]? = w.heap[b]?) : ObjRel ρ' w' tk o := by
  cases o with
  | cells l T =>
    simp only [ObjRel, SObj.ok] at h ho ⊢
    rw [hw _ rfl, denC_agree hr l ho.1]; exact h
  | seq κ xs E =>
    simp only [ObjRel] at h ⊢
    refine ⟨⟨h.1.1, ?_⟩, h.2⟩
    rcases h.1.2 with h1 | ⟨g, cap, cur, e, h2, h3, rest⟩
    · exact .inl h1
    · refine .inr ⟨g, cap, cur, e, h2, ?_, rest⟩
      rw [hw g (by simp only [objBlk, e, Value.ownBlock])]; exact h3
  | dead => trivial

/-- A new object. -/
theorem Rel.push {C : Cx} {ρ : Nat → Tk} {H : Hp} {w w' : World} (h : Rel C ρ H w) (o : SObj) (tk : Tk)
    (hw : ∀ b, b < w.heap.size → w'.heap[b]? = w.heap[b]?) (hs : w.heap.size ≤ w'.heap.size) (hos : w'.os = w.os) (htp : w'.tape = w.tape) (hout : w'.output = w.output)
    (hobj : ObjRel (ext ρ H.length tk) w' tk o) (hblk : ∀ b, objBlk tk o = some b → w.heap.size ≤ b)
    (hok : o.ok C.R C.w1 (ext ρ H.length tk) (H.length + 1)) (hhdr : ∃ a n c, tk.hdr = .slice a n c) : Rel C (ext ρ H.length tk) (H ++ [o]) w' := by
  have hold : ∀ t o', t < H.length → (H ++ [o])[t]? = some o' → H[t]? = some o' := fun t o' ht ho => by
    rw [List.getElem?_append_left ht] at ho; exact ho
  have hnew : ∀ t o', ¬ t < H.length → (H ++ [o])[t]? = some o' → t = H.length ∧ o' = o := fun t o' ht ho => by
    have hl := (List.getElem?_eq_some_iff.1 ho).1
    simp at hl
    have : t = H.length := by omega
    subst this
    simp at ho
    exact ⟨rfl, ho.symm⟩
  have hb : ∀ t b, blkOf (ext ρ H.length tk) (H ++ [o]) t = some b → (t < H.length ∧ blkOf ρ H t = some b) ∨ (t = H.length ∧ w.heap.size ≤ b) := fun t b hb => by
    have hl := blkOf_lt_len hb
    simp at hl
    by_cases ht : t < H.length
    · refine .inl ⟨ht, ?_⟩
      unfold blkOf at hb ⊢
      rw [List.getElem?_append_left ht, ext_lt t ht] at hb
      exact hb
    · have ht' : t = H.length := by omega
      subst ht'
      refine .inr ⟨rfl, hblk b ?_⟩
      rw [blkOf_eq (o := o) (by simp), ext_self] at hb
      exact hb
  refine ⟨?_, ?_, ?_, ?_, ?_, ?_, ?_, ?_, ?_, ?_, h.fit⟩
  · intro t o' ho
    by_cases ht : t < H.length
    · have ho' := hold t o' ht ho
      rw [ext_lt t ht]
      refine (h.obj t o' ho').agree (C := C) (n := H.length) (h.ok t o' ho') ext_lt fun b hb' => hw b ?_
      exact blk_lt h (t := t) (by rw [blkOf_eq ho']; exact hb')
    · obtain ⟨rfl, rfl⟩ := hnew t o' ht ho
      rw [ext_self]; exact hobj
  · intro t t' b h1 h2
    rcases hb t b h1 with ⟨g1, g2⟩ | ⟨g1, g2⟩ <;> rcases hb t' b h2 with ⟨g3, g4⟩ | ⟨g3, g4⟩
    · exact h.sep t t' b g2 g4
    · have := blk_lt h g2; omega
    · have := blk_lt h g4; omega
    · omega
  · intro t b h1
    rcases hb t b h1 with ⟨_, g2⟩ | ⟨_, g2⟩
    · exact h.own t b g2
    · exact h.fit.new b (Nat.le_trans h.size g2)
  · intro t
    by_cases ht : t = H.length
    · subst ht; rw [ext_self]; exact hhdr
    · unfold ext; rw [if_neg ht]; exact h.hdr t
  · intro b h1 h2
    rw [hw b (Nat.lt_of_lt_of_le h1 h.size)]; exact h.keep b h1 h2
  · exact Nat.le_trans h.size hs
  · rw [hos]; exact h.os
  · rw [htp]; exact h.tape
  · rw [hout]; exact h.output
  · intro t o' ho
    rw [List.length_append, List.length_singleton]
    by_cases ht : t < H.length
    · exact SObj.ok_mono (by omega) (SObj.ok_agree ext_lt (h.ok t o' (hold t o' ht ho)))
    · obtain ⟨rfl, rfl⟩ := hnew t o' ht ho
      exact hok

/-- A new block of cells. -/
theorem Rel.newCells {C : Cx} {ρ : Nat → Tk} {H : Hp} {w : World} (h : Rel C ρ H w) (l : List SV) (T : TypeId) (hl : SV.okL C.R C.w1 ρ H.length l) (hb : leavesB l = true) :
    Rel C (ext ρ H.length ⟨w.heap.size, .slice none 0 0⟩) (H ++ [.cells l T]) (w.alloc (.cells (denC ρ l).toArray T)) := by
  refine h.push (.cells l T) ⟨w.heap.size, .slice none 0 0⟩ (fun b hb => Below.heap_alloc w _ b hb) (by simp) rfl rfl rfl ?_ ?_ ⟨okL_mono (by omega) l (okL_agree ext_lt l hl), hb⟩ ⟨_, _, _, rfl⟩
  · simp only [ObjRel]
    rw [denC_agree ext_lt l hl]
    exact heap_alloc_new w _
  · intro b hb; cases hb; exact Nat.le_refl _

/-- A new block of elements. -/
theorem Rel.newSeq {C : Cx} {ρ : Nat → Tk} {H : Hp} {w : World} (h : Rel C ρ H w) (κ : K) (xs : List κ.T) (E : TypeId) (hmax : xs.length ≤ maxLen) :
    Rel C (ext ρ H.length ⟨w.heap.size, .slice (some ⟨w.heap.size, 0, none⟩) xs.length xs.length⟩) (H ++ [.seq κ xs E]) (w.alloc (.cells (xs.flatMap κ.cells).toArray E)) := by
  refine h.push (.seq κ xs E) _ (fun b hb => Below.heap_alloc w _ b hb) (by simp) rfl rfl rfl ?_ ?_ trivial ⟨_, _, _, rfl⟩
  · simp only [ObjRel]
    refine ⟨⟨cells_flat_length κ xs, .inr ⟨w.heap.size, xs.length, _, rfl, Nat.zero_le _, heap_alloc_new w _, Nat.le_refl _, hmax, by rw [List.size_toArray]; exact cells_flat_length κ xs, ?_⟩⟩, fun b hb => by simpa [Value.ownBlock] using hb.symm⟩
    rw [← cells_flat_length κ xs]
    exact List.take_length
  · intro b hb
    simp only [objBlk, Value.ownBlock, Option.some.injEq] at hb
    omega

/-- A block is written anew. -/
theorem Rel.setObj {C : Cx} {ρ : Nat → Tk} {H : Hp} {w w' : World} (h : Rel C ρ H w) {t : Nat} {o o' : SObj} (ht : H[t]? = some o) (hb : blkOf ρ H t = some (ρ t).blk)
    (hw : ∀ b, b ≠ (ρ t).blk → w'.heap[b]? = w.heap[b]?) (hs : w'.heap.size = w.heap.size) (hos : w'.os = w.os) (htp : w'.tape = w.tape) (hout : w'.output = w.output)
    (hobj : ObjRel ρ w' (ρ t) o') (hk : blkOf ρ (H.set t o') t = some (ρ t).blk) (hok : o'.ok C.R C.w1 ρ H.length) : Rel C ρ (H.set t o') w' := by
  have hlt := (List.getElem?_eq_some_iff.1 ht).1
  have hblk : ∀ s b, blkOf ρ (H.set t o') s = some b → blkOf ρ H s = some b := fun s b hs => by
    by_cases e : s = t
    · subst e; rw [hk] at hs; rw [hb]; exact hs
    · unfold blkOf at hs ⊢
      rwa [List.getElem?_set_ne (Ne.symm e)] at hs
  refine ⟨?_, fun s s' b h1 h2 => h.sep s s' b (hblk s b h1) (hblk s' b h2), fun s b h1 => h.own s b (hblk s b h1), h.hdr, ?_, by rw [hs]; exact h.size, by rw [hos]; exact h.os, by rw [htp]; exact h.tape, by rw [hout]; exact h.output, ?_, h.fit⟩
  · intro s os hs'
    by_cases e : t = s
    · subst e
      rw [List.getElem?_set_self hlt] at hs'
      cases hs'; exact hobj
    · rw [List.getElem?_set_ne e] at hs'
      refine (h.obj s os hs').agree (C := C) (n := H.length) (h.ok s os hs') (fun _ _ => rfl) fun b hb' => hw b fun e' => e ?_
      subst e'
      exact h.sep t s _ hb (by rw [blkOf_eq hs']; exact hb')
  · intro b h1 h2
    rw [hw b (fun e => h2 (e ▸ h.own t _ hb))]
    exact h.keep b h1 h2
  · intro s os hs'
    rw [List.length_set]
    by_cases e : t = s
    · subst e
      rw [List.getElem?_set_self hlt] at hs'
      cases hs'; exact hok
    · rw [List.getElem?_set_ne e] at hs'
      exact h.ok s os hs'

section
variable {P : Program} (E : Env)
theorem run_isAgg {T : TypeId} {g : Bool} (h : E.isAgg T = some g) (w : World) : (isAgg T).run E.P w = .ok g w := by
  unfold Env.isAgg at h
  cases hu : E.P.underlying T with
  | none => simp [hu] at h
  | some d =>
    rw [hu] at h
    unfold Go.isAgg
    rw [Sem.run_bind, run_underlying hu w]
    cases d <;> simp_all
theorem run_sizeOf {T : TypeId} {n : Nat} (h : E.size T = some n) (w : World) : (sizeOf T).run E.P w = .ok n w := by
  unfold Env.size at h
  cases hi : E.P.info? T with
  | none => simp [hi] at h
  | some i =>
    rw [hi] at h
    simp only [Option.map_some, Option.some.injEq] at h
    simp [sizeOf, typeInfo, hi, h]
/-- What is loaded from cells that are known. -/
theorem run_loadVar {T : TypeId} {g : Bool} {n : Nat} (hg : E.isAgg T = some g) (hn : E.size T = some n) (w : World) (b o : Nat) (cs : List Value) (hl : cs.length = n)
    (h : ∀ j v, cs[j]? = some v → w.cell? ⟨b, o + j, none⟩ = some v) (v : Value) (hv : if g then v = .agg cs.toArray else cs = [v]) : (loadVar T ⟨b, o, none⟩).run E.P w = .ok v w := by
  have hadd : ∀ j, (⟨b, o, none⟩ : Addr).add j = ⟨b, o + j, none⟩ := fun j => by unfold Addr.add; split <;> simp_all
  unfold loadVar
  rw [Sem.run_bind, run_isAgg E hg]
  cases g with
  | true =>
    simp only [if_true] at hv
    subst hv
    have := run_loadCells_list (P := E.P) w ⟨b, o, none⟩ cs (fun j v hv => by rw [hadd]; exact h j v hv)
    rw [hl] at this
    simp [run_sizeOf E hn, this]
  | false =>
    simp only [Bool.false_eq_true, if_false] at hv
    subst hv
    have := h 0 v rfl
    simp only [Nat.add_zero] at this
    simp [this]
end
theorem mkVal_den {ρ : Nat → Tk} {g : Bool} {l : List SV} {v : SV} (h : mkVal g l = some v) : if g then den ρ v = .agg (denC ρ l).toArray else denC ρ l = [den ρ v] := by
  unfold mkVal at h
  split at h
  · cases h; simp [den]
  · cases h
  · rename_i x hx
    cases h
    simp only [Bool.false_eq_true, if_false, denC, List.append_nil]
    cases v <;> first | rfl | (exact absurd rfl (hx _ _ _))
  · cases h
theorem mkVal_ok {R : Nat → Prop} {w : World} {ρ : Nat → Tk} {n : Nat} {g : Bool} {l : List SV} {v : SV} (h : mkVal g l = some v) (ho : SV.okL R w ρ n l) : v.ok R w ρ n := by
  unfold mkVal at h
  split at h
  · cases h; simpa [SV.ok] using ho
  · cases h
  · cases h; simp only [SV.okL] at ho; exact ho.1
  · cases h
end Go.Proofs.Ytkjellhkamfciaa.Sx
end

section
/- SX: each operation does in the world what the executor says of it. -/
namespace Go.Proofs.Ytkjellhkamfciaa.Sx
open Go Go.RowKit

/-- The table of zero values says what the program's says. -/
structure EnvOk (E : Env) : Prop where
  zero : ∀ T l, assoc E.zero T = some l → ∃ i z, E.P.info? T = some i ∧ i.zero = some z ∧ (∀ ρ, denC ρ l = z.cells.toList) ∧ ∀ R w ρ n, SV.okL R w ρ n l
  add : ∀ f, (E.P.funcs[f]?).isSome = true → Nat.beq f E.add64 = true → ∃ fn e, E.P.funcs[f]? = some fn ∧ (fn.name == "runtime.NumGoroutine") = false ∧ fn.body.isNone = true ∧ Extern.findNext fn = none ∧ Extern.find fn = some e ∧
    e = fun args => do let (x, y, c) ← Extern.MathBitsCarry.three "Add64" args; pure (Extern.MathBitsCarry.pair ((x + y + c) % Extern.MathBitsCarry.m64) ((x + y + c) / Extern.MathBitsCarry.m64))
  sub : ∀ f, (E.P.funcs[f]?).isSome = true → Nat.beq f E.sub64 = true → ∃ fn e, E.P.funcs[f]? = some fn ∧ (fn.name == "runtime.NumGoroutine") = false ∧ fn.body.isNone = true ∧ Extern.findNext fn = none ∧ Extern.find fn = some e ∧
    e = fun args => do let (x, y, b) ← Extern.MathBitsCarry.three "Sub64" args; pure (Extern.MathBitsCarry.pair ((x + Extern.MathBitsCarry.m64 - y - b) % Extern.MathBitsCarry.m64) (if x < y + b then 1 else 0))

structure OpGood (P : Program) (o : Oper) (F : Fr) (H : Hp) (v : SV) (H' : Hp) : Prop where
  len : H.length ≤ H'.length
  wp : ∀ (C : Cx) (ρ : Nat → Tk) (a : Act) (w : World), FRel C ρ H.length F a.tmps → Rel C ρ H w → ∀ (next : Act → World → Prop) (Q : Exit → Act → World → Prop),
    (∀ ρ' w', (∀ t, t < H.length → ρ' t = ρ t) → Rel C ρ' H' w' → v.ok C.R C.w1 ρ' H'.length → next (a.put o.dst (den ρ' v)) w') → o.wp P a w next Q

theorem ofConst_spec {u : Value} {v : SV} (h : ofConst u = some v) (ρ : Nat → Tk) (R : Nat → Prop) (w : World) (n : Nat) : den ρ v = u ∧ v.ok R w ρ n ∧ (∀ cs, u ≠ .agg cs) ∧ denC ρ [v] = [u] := by
  unfold ofConst at h
  split at h <;> first | (cases h; done) | (cases h; simp [den, SV.ok, denC, cell1]; done) | (split at h <;> first | (cases h; done) | (cases h; simp [den, SV.ok, denC, cell1]))
theorem ofConsts_spec (ρ : Nat → Tk) (R : Nat → Prop) (w : World) (n : Nat) : ∀ {l : List Value} {r : List SV}, ofConsts l = some r → denC ρ r = l ∧ SV.okL R w ρ n r
  | [], r, h => by simp only [ofConsts, Option.some.injEq] at h; subst h; simp [denC, SV.okL]
  | u :: l, r, h => by
    simp only [ofConsts] at h
    split at h
    · rename_i x y hx hy
      cases h
      have h1 := ofConst_spec hx ρ R w n
      have h2 := ofConsts_spec ρ R w n hy
      rw [denC_cons, h1.2.2.2, h2.1]
      exact ⟨rfl, h1.2.1, h2.2⟩
    · cases h
theorem ofValue_spec {u : Value} {v : SV} (h : ofValue u = some v) (ρ : Nat → Tk) (R : Nat → Prop) (w : World) (n : Nat) : den ρ v = u ∧ v.ok R w ρ n := by
  unfold ofValue at h
  split at h
  · rename_i cs
    cases hc : ofConsts cs.toList with
    | none => simp [hc] at h
    | some l =>
      simp only [hc, Option.map_some, Option.some.injEq] at h
      subst h
      have := ofConsts_spec ρ R w n hc
      simp only [den, SV.ok, this.1, this.2, and_true]
  · have := ofConst_spec h ρ R w n; exact ⟨this.1, this.2.1⟩

theorem opd_spec {C : Cx} {ρ : Nat → Tk} {n : Nat} {F : Fr} {a : Act} (hF : FRel C ρ n F a.tmps) {x : Operand} {v : SV} (h : opd F x = some v) : a.eval x = den ρ v ∧ v.ok C.R C.w1 ρ n := by
  cases x with
  | tmp t =>
    have h' : F[t]? = some (some v) := by
      simp only [opd] at h
      cases hq : F[t]? with
      | none => simp [hq] at h
      | some y => cases y <;> simp_all
    have := hF.val t v h'
    refine ⟨?_, this.2⟩
    simp [Act.eval, Array.getD_eq_getD_getElem?, this.1]
  | const u =>
    have := ofValue_spec (v := v) h ρ C.R C.w1 n
    exact ⟨this.1.symm, this.2⟩
  | func f =>
    simp only [opd, Option.some.injEq] at h
    subst h
    simp [Act.eval, den, denL, SV.ok, SV.okL]
  | global g => cases h
theorem opds_spec {C : Cx} {ρ : Nat → Tk} {n : Nat} {F : Fr} {a : Act} (hF : FRel C ρ n F a.tmps) : ∀ {l : List Operand} {r : List SV}, opds F l = some r → l.map a.eval = denL ρ r ∧ SV.okL C.R C.w1 ρ n r
  | [], r, h => by simp only [opds, Option.some.injEq] at h; subst h; simp [denL, SV.okL]
  | x :: l, r, h => by
    simp only [opds] at h
    split at h
    · rename_i p q hp hq
      cases h
      have h1 := opd_spec hF hp
      have h2 := opds_spec hF hq
      simp only [List.map_cons, denL, SV.okL, h1.1, h2.1, h1.2, h2.2, and_self]
    · cases h

theorem OpGood.val {P : Program} {o : Oper} {F : Fr} {H : Hp} {v : SV}
    (h : ∀ (C : Cx) (ρ : Nat → Tk) (a : Act) (w : World), FRel C ρ H.length F a.tmps → Rel C ρ H w → (execOp a.eval o).run P w = .ok (.value (den ρ v)) w ∧ v.ok C.R C.w1 ρ H.length) :
    OpGood P o F H v H :=
  ⟨Nat.le_refl _, fun C ρ a w hF hR next Q hn => by
    obtain ⟨h1, h2⟩ := h C ρ a w hF hR
    unfold Oper.wp
    rw [h1]
    exact hn ρ w (fun _ _ => rfl) hR h2⟩

theorem bindO_some {β γ : Type} {x : Option β} {k : β → Option γ} {r : γ} (h : bindO x k = some r) : ∃ b, x = some b ∧ k b = some r := by
  cases x with
  | none => cases h
  | some b => exact ⟨b, rfl, h⟩

theorem rix_cells (u : Value) (m : Nat) : (rixAddr u m).cells.toList = [rixAddr u m] := by
  cases u with
  | slice a l c => cases a <;> rfl
  | _ => rfl
theorem cells_den (ρ : Nat → Tk) (R : Nat → Prop) (w : World) (n : Nat) (v : SV) (h : v.ok R w ρ n) (hs : ∀ t, ∃ a m c, (ρ t).hdr = .slice a m c) : (den ρ v).cells.toList = denC ρ v.cells ∧ SV.okL R w ρ n v.cells := by
  cases v with
  | agg l => exact ⟨by simp [den, SV.cells, Value.cells], by simpa [SV.ok, SV.cells] using h⟩
  | rix u κ xs i off => exact ⟨by simp only [den, SV.cells, denC, cell1, List.append_nil, rix_cells], by simp only [SV.cells, SV.okL, h, and_self]⟩
  | sl t => obtain ⟨a, m, c, e⟩ := hs t; exact ⟨by simp [den, SV.cells, Value.cells, denC, cell1, e], by simp only [SV.cells, SV.okL, h, and_self]⟩
  | sub t κ lo m =>
    obtain ⟨a, k, c, e⟩ := hs t
    exact ⟨by simp [den, SV.cells, Value.cells, denC, cell1, e, winV], by simp only [SV.cells, SV.okL, h, and_self]⟩
  | ros u κ xs =>
    refine ⟨?_, by simp only [SV.cells, SV.okL, h, and_self]⟩
    rcases h with ⟨_, a, c, e⟩ | ⟨ad, c, e, _⟩ <;> simp [den, SV.cells, Value.cells, denC, cell1, e]
  | raw u =>
    refine ⟨?_, by simp only [SV.cells, SV.okL, h, and_self]⟩
    cases u <;> first | rfl | exact absurd rfl (h _)
  | arr κ xs m => exact ⟨by simp [den, SV.cells, Value.cells, denC, cell1], by simp only [SV.cells, SV.okL, h, and_self]⟩
  | _ => exact ⟨by simp [den, SV.cells, Value.cells, denC, cell1], by simp only [SV.cells, SV.okL, h, and_self]⟩

theorem elem_cells (κ : K) (xs : List κ.T) : ∀ (i : Nat), i < xs.length → ∀ j c, (κ.cells (xs.getD i κ.dflt))[j]? = some c → (xs.flatMap κ.cells)[i * κ.sz + j]? = some c := by
  induction xs with
  | nil => intro i hi; simp at hi
  | cons y ys ih =>
    intro i hi j c hj
    cases i with
    | zero =>
      simp only [List.getD_cons_zero] at hj
      rw [List.flatMap_cons, Nat.zero_mul, Nat.zero_add, List.getElem?_append_left (List.getElem?_eq_some_iff.1 hj).1]
      exact hj
    | succ i =>
      simp only [List.getD_cons_succ] at hj
      rw [List.flatMap_cons, List.getElem?_append_right (by rw [K.cells_length, Nat.add_mul]; omega), K.cells_length, show (i + 1) * κ.sz + j - κ.sz = i * κ.sz + j from by rw [Nat.add_mul]; omega]
      exact ih i (by simpa using hi) j c hj
theorem segAt_spec {R : Nat → Prop} {w : World} {ρ : Nat → Tk} {n : Nat} : ∀ {l : List SV} {off : Nat} {x : SV}, SV.okL R w ρ n l → segAt l off = some x →
    ∃ A B, denC ρ l = A ++ denC ρ [x] ++ B ∧ A.length = off ∧ x.ok R w ρ n
  | [], off, x, _, h => by cases (show none = some x from h)
  | y :: l, 0, x, ho, h => by
    cases (show some y = some x from h)
    exact ⟨[], denC ρ l, by rw [denC_cons]; simp, rfl, ho.1⟩
  | y :: l, off + 1, x, ho, h => by
    rw [segAt_cons] at h
    split at h
    · rename_i hy
      obtain ⟨A, B, h1, h2, h3⟩ := segAt_spec (ρ := ρ) ho.2 h
      refine ⟨denC ρ [y] ++ A, B, by rw [denC_cons, h1]; simp, ?_, h3⟩
      rw [List.length_append, width_eq y ho.1, h2]; omega
    · cases h
theorem get_mid {α : Type} {A M B L : List α} {j : Nat} {c : α} (h : L = A ++ M ++ B) (hj : M[j]? = some c) : L[A.length + j]? = some c := by
  rw [h, List.append_assoc, List.getElem?_append_right (by omega), show A.length + j - A.length = j from by omega, List.getElem?_append_left (List.getElem?_eq_some_iff.1 hj).1]
  exact hj

section
variable (E : Env)
theorem zeroOf_spec (hE : EnvOk E) {T : TypeId} {l : List SV} (h : E.zeroOf T = some l) : ∃ i z, E.P.info? T = some i ∧ i.zero = some z ∧ (∀ ρ, denC ρ l = z.cells.toList) ∧ ∀ R w ρ n, SV.okL R w ρ n l := by
  unfold Env.zeroOf at h
  split at h
  · rename_i hl; cases h; exact hE.zero T _ hl
  · split at h
    · rename_i i hi
      split at h
      · rename_i cs hz
        exact ⟨i, _, hi, hz, fun ρ => (ofConsts_spec ρ (fun _ => False) default 0 h).1, fun R w ρ n => (ofConsts_spec ρ R w n h).2⟩
      · rename_i v hn hz
        cases hc : ofConst v with
        | none => simp [hc] at h
        | some x =>
          simp only [hc, Option.map_some, Option.some.injEq] at h
          subst h
          refine ⟨i, v, hi, hz, fun ρ => ?_, fun R w ρ n => ?_⟩
          · rw [(ofConst_spec hc ρ (fun _ => False) default 0).2.2.2]
            cases v <;> first | rfl | exact absurd rfl (hn _)
          · simp only [SV.okL, and_true]; exact (ofConst_spec hc ρ R w n).2.1
      · cases h
    · cases h

theorem op_alloc (hE : EnvOk E) {o : Oper} {F : Fr} {H : Hp} {T : TypeId} {l : List SV} (ho : o.op = .alloc T) (hz : E.zeroOf T = some l) (hl : leavesB l = true) :
    OpGood E.P o F H (.ptr H.length 0) (H ++ [.cells l T]) := by
  refine ⟨by simp, fun C ρ a w hF hR next Q hn => ?_⟩
  obtain ⟨i, z, h1, h2, h3, h4⟩ := zeroOf_spec E hE hz
  have hn' := hn _ _ ext_lt (hR.newCells l T (h4 _ _ _ _) hl) (by simp [SV.ok])
  rw [h3 ρ] at hn'
  simp only [den, ext_self, Array.toArray_toList] at hn'
  unfold Oper.wp
  simp only [execOp, ho, Instr.alloc, zeroValue, typeInfo, newVar, newRow, Sem.run_bind, run_program, Result.andThen_ok, h1, h2, Sem.run_pure, run_newObj]
  exact hn'

theorem op_box {o : Oper} {F : Fr} {H : Hp} {T : TypeId} {x : Operand} {v : SV} (ho : o.op = .box T x) (hx : opd F x = some v) (hl : leavesB v.cells = true) :
    OpGood E.P o F H (.ptr H.length 0) (H ++ [.cells v.cells T]) := by
  refine ⟨by simp, fun C ρ a w hF hR next Q hn => ?_⟩
  obtain ⟨h1, h2⟩ := opd_spec hF hx
  obtain ⟨h3, h4⟩ := cells_den ρ _ _ _ v h2 hR.hdr
  have hn' := hn _ _ ext_lt (hR.newCells v.cells T h4 hl) (by simp [SV.ok])
  rw [← h3] at hn'
  simp only [den, ext_self, Array.toArray_toList] at hn'
  unfold Oper.wp
  simp only [execOp, ho, Instr.box, h1, newVar, newRow, Sem.run_bind, Result.andThen_ok, Sem.run_pure, run_newObj]
  exact hn'

theorem loadAt_spec {H : Hp} {T : TypeId} {p v : SV} (hl : loadAt E H T p = some v) {C : Cx} {ρ : Nat → Tk} {w : World} (hR : Rel C ρ H w) (h2 : p.ok C.R C.w1 ρ H.length) :
    ∃ ad, den ρ p = .pointer (some ad) ∧ (loadVar T ad).run E.P w = .ok (den ρ v) w ∧ v.ok C.R C.w1 ρ H.length := by
  have main : ∀ (g : Bool) (n : Nat) (l : List SV) (off : Nat) (r : List SV) (b base : Nat), E.isAgg T = some g → E.size T = some n → SV.okL C.R C.w1 ρ H.length l → segTake l off n = some r → mkVal g r = some v →
      (∀ j c, (denC ρ l)[j]? = some c → w.cell? ⟨b, base + j, none⟩ = some c) → (loadVar T ⟨b, base + off, none⟩).run E.P w = .ok (den ρ v) w ∧ v.ok C.R C.w1 ρ H.length := by
    intro g n l off r b base hg hn hok ht hm hc
    obtain ⟨⟨A, B, e1, e2⟩, e3, e4, _⟩ := segTake_spec (ρ := ρ) hok ht
    refine ⟨run_loadVar E hg hn w b (base + off) (denC ρ r) e3 ?_ _ (mkVal_den hm), mkVal_ok hm e4⟩
    intro j c hj
    rw [Nat.add_assoc]
    refine hc (off + j) c ?_
    rw [e1, ← e2, List.append_assoc, List.getElem?_append_right (by omega), show A.length + j - A.length = j from by omega, List.getElem?_append_left (List.getElem?_eq_some_iff.1 hj).1]
    exact hj
  unfold loadAt at hl
  split at hl
  · rename_i g n hg hn
    split at hl
    · rename_i t off
      split at hl
      · rename_i l T' ht
        obtain ⟨r, hr, hm⟩ := bindO_some hl
        have ho := hR.ok t _ ht
        have hob := hR.obj t _ ht
        simp only [ObjRel] at hob
        refine ⟨_, rfl, ?_⟩
        have := main g n l off r (ρ t).blk 0 hg hn ho.1 hr hm (fun j c hj => by
          rw [Nat.zero_add, cell_of_row w _ _ _ _ _ hob]; simpa using hj)
        simpa using this
      · cases hl
    · rename_i t off κ i m0
      split at hl
      · rename_i l T' ht
        split at hl
        · rename_i κ' xs m hs
          split at hl
          · rename_i he
            obtain ⟨e1, e2⟩ := he
            subst e1
            obtain ⟨r, hr, hm⟩ := bindO_some hl
            have ho := hR.ok t _ ht
            have hob := hR.obj t _ ht
            simp only [ObjRel] at hob
            obtain ⟨A, B, g1, g2, g3⟩ := segAt_spec (ρ := ρ) ho.1 hs
            have hlen : xs.length = m := g3
            have hi := h2.2
            have hm2 := Nat.eq_of_beq_eq_true e2
            refine ⟨_, rfl, ?_⟩
            have := main g n (κ'.enc (xs.getD i κ'.dflt)) 0 r (ρ t).blk (off + i * κ'.sz) hg hn (enc_ok _ _ _ _ _ _) hr hm (fun j c hj => by
              rw [denC_enc] at hj
              rw [cell_of_row w _ _ _ _ _ hob, List.getElem?_toArray, Nat.add_assoc, ← g2]
              refine get_mid g1 ?_
              simp only [denC, cell1, List.append_nil]
              exact elem_cells κ' xs i (by omega) j c hj)
            simpa using this
          · cases hl
        · cases hl
      · cases hl
    · rename_i t κ i off
      split at hl
      · rename_i κ' xs T' ht
        split at hl
        · rename_i he
          subst he
          obtain ⟨r, hr, hm⟩ := bindO_some hl
          have hob := hR.obj t _ ht
          obtain ⟨hlt, a', m', c', hh, hi⟩ := h2
          refine ⟨_, rfl, ?_⟩
          rcases hob.1.2 with ⟨e, e0⟩ | ⟨gb, cap, cur, e, _, hg2, _, _, _, htake⟩
          · rw [e] at hh; cases hh; omega
          · have hb : gb = (ρ t).blk := hob.2 gb (by rw [e]; rfl)
            rw [e] at hh
            cases hh
            refine main g n (κ'.enc (xs.getD i κ'.dflt)) off r (ρ t).blk (i * κ'.sz) hg hn (enc_ok _ _ _ _ _ _) hr hm (fun j c hj => ?_)
            rw [denC_enc] at hj
            have hx := elem_cells κ' xs i hi j c hj
            rw [← htake, List.getElem?_take] at hx
            split at hx
            · rw [← hb, cell_of_row w _ _ _ _ _ hg2]; simpa using hx
            · cases hx
        · cases hl
      · cases hl
    · rename_i u κ xs i off
      obtain ⟨r, hr, hm⟩ := bindO_some hl
      obtain ⟨hros, hi⟩ := h2
      rcases hros with ⟨he, _⟩ | ⟨ad, cap, e, _, _, hRb, hc⟩
      · subst he; simp at hi
      · subst e
        refine ⟨_, rfl, ?_⟩
        rw [← Nat.add_assoc]
        refine main g n (κ.enc (xs.getD i κ.dflt)) off r ad.block (ad.off + i * κ.sz) hg hn (enc_ok _ _ _ _ _ _) hr hm (fun j c hj => ?_)
        rw [denC_enc] at hj
        rw [ro_cell hR (a := ⟨ad.block, _, none⟩) hRb, Nat.add_assoc]
        exact hc _ c (elem_cells κ xs i hi j c hj)
    · cases hl
  · cases hl

theorem op_load {o : Oper} {F : Fr} {H : Hp} {T : TypeId} {x : Operand} {p v : SV} (ho : o.op = .load T x) (hx : opd F x = some p) (hl : loadAt E H T p = some v) :
    OpGood E.P o F H v H := by
  refine .val fun C ρ a w hF hR => ?_
  obtain ⟨h1, h2⟩ := opd_spec hF hx
  obtain ⟨ad, e1, e2, e3⟩ := loadAt_spec E hl hR h2
  refine ⟨?_, e3⟩
  simp only [execOp, ho, h1, e1, Instr.loadAt, Instr.sureAddr, Sem.run_bind, Sem.run_pure, Result.andThen_ok, e2]
end
end Go.Proofs.Ytkjellhkamfciaa.Sx
end

section
/- SX: stores, and operations on numbers, booleans and addresses. -/
namespace Go.Proofs.Ytkjellhkamfciaa.Sx
open Go Go.RowKit

theorem segDrop_spec {R : Nat → Prop} {w : World} {n : Nat} {ρ : Nat → Tk} : ∀ {l : List SV} {off : Nat} {r : List SV}, SV.okL R w ρ n l → segDrop l off = some r →
    (∃ a, denC ρ l = a ++ denC ρ r ∧ a.length = off) ∧ SV.okL R w ρ n r ∧ (leavesB l = true → leavesB r = true)
  | l, 0, r, ho, h => by
    have hr : r = l := by
      have h' : some l = some r := by cases l <;> exact h
      cases h'; rfl
    subst hr
    exact ⟨⟨[], rfl, rfl⟩, ho, fun h => h⟩
  | [], off + 1, r, _, h => by cases (show none = some r from h)
  | x :: l, off + 1, r, ho, h => by
    rw [segDrop_cons] at h
    split at h
    · rename_i hx
      obtain ⟨⟨a, h1, h2⟩, h3, h4⟩ := segDrop_spec (ρ := ρ) ho.2 h
      refine ⟨⟨denC ρ [x] ++ a, ?_, ?_⟩, h3, fun hl => h4 (by simp only [leavesB, Bool.and_eq_true] at hl; exact hl.2)⟩
      · rw [denC_cons, h1]; simp
      · rw [List.length_append, width_eq x ho.1, h2]; omega
    · cases h
theorem leavesB_append : ∀ (l m : List SV), leavesB (l ++ m) = (leavesB l && leavesB m)
  | [], m => by simp [leavesB]
  | x :: l, m => by simp [leavesB, leavesB_append l m, Bool.and_assoc]
theorem segPut_spec {R : Nat → Prop} {w : World} {n : Nat} {ρ : Nat → Tk} {l new r : List SV} {off : Nat} (ho : SV.okL R w ρ n l) (hn : SV.okL R w ρ n new) (h : segPut l off new = some r) :
    denC ρ r = (denC ρ l).take off ++ denC ρ new ++ (denC ρ l).drop (off + (denC ρ new).length) ∧ off + (denC ρ new).length ≤ (denC ρ l).length ∧ SV.okL R w ρ n r ∧ (leavesB l = true → leavesB new = true → leavesB r = true) := by
  unfold segPut at h
  split at h
  · rename_i a b ha hb
    cases h
    obtain ⟨⟨A, B, h1, h2⟩, h3, h4, h5⟩ := segTake_spec (ρ := ρ) ho ha
    obtain ⟨⟨D, g1, g2⟩, g3, g4⟩ := segDrop_spec (ρ := ρ) ho hb
    have hA : A = [] := List.eq_nil_of_length_eq_zero h2
    subst hA
    rw [← segWidth_eq (ρ := ρ) hn] at g2
    refine ⟨?_, ?_, ?_, ?_⟩
    · rw [denC_append, denC_append]
      congr 1
      · congr 1
        rw [h1, ← h3]; simp
      · rw [g1, ← g2]; simp
    · rw [g1, List.length_append, g2]; omega
    · exact okL_append.2 ⟨okL_append.2 ⟨h4, hn⟩, g3⟩
    · intro hl hnl
      rw [leavesB_append, leavesB_append, h5 hl, hnl, g4 hl]; rfl
  · cases h

theorem flat_set (κ : K) (xs : List κ.T) : ∀ (i : Nat) (x : κ.T), i < xs.length →
    (xs.set i x).flatMap κ.cells = (xs.flatMap κ.cells).take (i * κ.sz) ++ κ.cells x ++ (xs.flatMap κ.cells).drop (i * κ.sz + κ.sz) := by
  induction xs with
  | nil => intro i x h; simp at h
  | cons y ys ih =>
    intro i x h
    cases i with
    | zero =>
      rw [List.set_cons_zero, List.flatMap_cons, List.flatMap_cons, Nat.zero_mul, Nat.zero_add, List.take_zero, List.nil_append, ← K.cells_length κ y, List.drop_left]
    | succ i =>
      rw [List.set_cons_succ, List.flatMap_cons, List.flatMap_cons, ih i x (by simpa using h)]
      have e1 : (i + 1) * κ.sz = (κ.cells y).length + i * κ.sz := by rw [K.cells_length, Nat.add_mul]; omega
      rw [e1, List.take_length_add_append, Nat.add_assoc, List.drop_length_add_append]
      simp only [List.append_assoc]

theorem list_put {α : Type} (L new : List α) (s off n sz X : Nat) (h1 : s + sz ≤ X) (h2 : X ≤ L.length) (h3 : off + n ≤ sz) (h4 : new.length = n) :
    (L.take (s + off) ++ new ++ L.drop (s + off + n)).take X = (L.take X).take s ++ (((L.drop s).take sz).take off ++ new ++ ((L.drop s).take sz).drop (off + n)) ++ (L.take X).drop (s + sz) := by
  apply List.ext_getElem?
  intro j
  simp only [List.getElem?_take, List.getElem?_append, List.getElem?_drop, List.length_append, List.length_take, List.length_drop]
  grind

section
variable (E : Env)
theorem run_storeVar {T : TypeId} {n : Nat} (hn : E.size T = some n) (w : World) (b o : Nat) (v : Value) (cur : Array Value) (t : TypeId) (hg : w.heap[b]? = some (.cells cur t (0, 0))) (hl : v.cells.toList.length = n)
    (hle : o + n ≤ cur.size) (h1 : ∀ u ∈ v.cells.toList, u.oneCell' = true) :
    (storeVar T ⟨b, o, none⟩ v).run E.P w = .ok () (w.setRow b (cur.toList.take o ++ v.cells.toList ++ cur.toList.drop (o + n)).toArray) := by
  have hs := run_storeCells_at E.P b o t v.cells.toList 0 cur w hg (by omega) h1
  simp only [Nat.add_zero, hl] at hs
  unfold storeVar
  rw [Sem.run_bind, run_sizeOf E hn]
  simp only [Result.andThen_ok]
  rw [if_neg (by rw [← Array.length_toList]; simpa using hl)]
  exact hs

theorem setRow_block (w : World) (g : Nat) (cs : Array Value) : ∀ b, b ≠ g → (w.setRow g cs).heap[b]? = w.heap[b]? := fun b h => setRow_other w g b cs h

theorem op_storeG {o : Oper} {F : Fr} {H0 H H' : Hp} {T : TypeId} {p x : Operand} {pv v : SV} (ho : o.op = .store T p x) (hlen0 : H0.length ≤ H.length)
    (hpre : ∀ (C : Cx) (ρ : Nat → Tk) (a : Act) (w : World), FRel C ρ H0.length F a.tmps → Rel C ρ H0 w →
      ∃ ρ', (∀ t, t < H0.length → ρ' t = ρ t) ∧ Rel C ρ' H w ∧ (a.eval p = den ρ' pv ∧ pv.ok C.R C.w1 ρ' H.length) ∧ (a.eval x = den ρ' v ∧ v.ok C.R C.w1 ρ' H.length))
    (hs : storeAt E H T pv v = some H') :
    OpGood E.P o F H0 (.raw undef) H' := by
  unfold storeAt at hs
  split at hs
  case isFalse => cases hs
  rename_i hc
  simp only [storeFits, Bool.and_eq_true] at hc
  obtain ⟨hlv, hsz⟩ := hc
  cases hn : E.size T with
  | none => rw [hn] at hsz; cases hsz
  | some n =>
  rw [hn] at hsz
  have hn' := Nat.eq_of_beq_eq_true hsz
  -- what is to be shown, with the object that is written
  suffices hm : ∃ t o1 o2, H[t]? = some o1 ∧ H' = H.set t o2 ∧ ∀ (C : Cx) (ρ : Nat → Tk) (w : World), Rel C ρ H w → pv.ok C.R C.w1 ρ H.length → v.ok C.R C.w1 ρ H.length →
      ∃ ad cur' E' old, den ρ pv = .pointer (some ad) ∧ ad.spot = none ∧ ad.block = (ρ t).blk ∧ w.heap[(ρ t).blk]? = some (.cells old E' (0, 0)) ∧
        (storeVar T ad (den ρ v)).run E.P w = .ok () (w.setRow (ρ t).blk cur') ∧ blkOf ρ H t = some (ρ t).blk ∧ blkOf ρ (H.set t o2) t = some (ρ t).blk ∧ o2.ok C.R C.w1 ρ H.length ∧
        (∀ w', w'.heap[(ρ t).blk]? = some (.cells cur' E' (0, 0)) → ObjRel ρ w' (ρ t) o2) by
    obtain ⟨t, o1, o2, ht, rfl, hm⟩ := hm
    refine ⟨by simpa using hlen0, fun C ρ0 a w hF hR0 next Q hnx => ?_⟩
    obtain ⟨ρ, hag, hR, ⟨h1, h2⟩, ⟨h3, h4⟩⟩ := hpre C ρ0 a w hF hR0
    obtain ⟨ad, cur', E', old, e1, _, _, e3, e4, e5, e6, e7, e8⟩ := hm C ρ w hR h2 h4
    have hR' := hR.setObj (w' := w.setRow (ρ t).blk cur') ht e5 (setRow_block w _ _) (by simp) rfl rfl rfl (e8 _ (setRow_heap w _ _ _ _ _ e3)) e6 e7
    have := hnx ρ _ hag hR' (by simp [SV.ok, undef])
    unfold Oper.wp
    simp only [execOp, ho, h1, e1, h3, Instr.storeAt, Instr.sureAddr, Sem.run_bind, Sem.run_pure, Result.andThen_ok, e4]
    exact this
  split at hs
  · -- a plain address
    rename_i t off
    split at hs
    · rename_i l T' ht
      obtain ⟨l', hl', e⟩ := bindO_some hs
      cases e
      refine ⟨t, _, .cells l' T', ht, rfl, fun C ρ w hR hpv hv => ?_⟩
      obtain ⟨c1, c2⟩ := cells_den ρ _ _ _ v hv hR.hdr
      have hok := hR.ok t _ ht
      have hob := hR.obj t _ ht
      simp only [ObjRel] at hob
      obtain ⟨p1, p2, p3, p4⟩ := segPut_spec (ρ := ρ) hok.1 c2 hl'
      have hlen : (denC ρ v.cells).length = n := by rw [segWidth_eq c2, hn']
      have hst := run_storeVar E hn w (ρ t).blk off (den ρ v) _ T' hob (by rw [c1, hlen]) (by simp; omega) (by rw [c1]; exact leaf_one hR.hdr c2 hlv)
      refine ⟨_, _, T', _, rfl, rfl, rfl, hob, hst, by rw [blkOf_eq ht]; rfl, by rw [blkOf_eq (o := .cells l' T') (by rw [List.getElem?_set_self (List.getElem?_eq_some_iff.1 ht).1])]; rfl, ⟨p3, p4 hok.2 hlv⟩, fun w' hw' => ?_⟩
      simp only [ObjRel]
      rw [hw', p1, c1, hlen]
    · cases hs
  · -- an element of an array
    rename_i t off κ i m0
    split at hs
    · rename_i l T' ht
      split at hs
      · rename_i κ' xs m hseg
        split at hs
        · rename_i he
          obtain ⟨e1, e2⟩ := he
          subst e1
          obtain ⟨x', hx', h2⟩ := bindO_some hs
          obtain ⟨l', hl', e⟩ := bindO_some h2
          cases e
          have em := Nat.eq_of_beq_eq_true e2
          refine ⟨t, _, .cells l' T', ht, rfl, fun C ρ w hR hpv hv => ?_⟩
          obtain ⟨c1, c2⟩ := cells_den ρ _ _ _ v hv hR.hdr
          have hok := hR.ok t _ ht
          have hob := hR.obj t _ ht
          simp only [ObjRel] at hob
          obtain ⟨A, B, g1, g2, g3⟩ := segAt_spec (ρ := ρ) hok.1 hseg
          have hxl : xs.length = m := g3
          have hi : i < xs.length := by have := hpv.2; omega
          obtain ⟨p1, p2, p3, p4⟩ := segPut_spec (ρ := ρ) hok.1 (new := [.arr κ' (xs.set i x') m]) (by simp only [SV.okL, SV.ok, List.length_set, hxl, and_self]) hl'
          have hdx := dec_cells ρ κ' _ _ hx'
          have hlen : (denC ρ v.cells).length = n := by rw [segWidth_eq c2, hn']
          have hnsz : n = κ'.sz := by rw [← hlen, hdx, K.cells_length]
          simp only [denC, cell1, List.append_nil] at g1 p1 p2
          have hfl := cells_flat_length κ' xs
          have hle : off + i * κ'.sz + n ≤ (denC ρ l).length := by
            rw [g1, List.length_append, List.length_append, g2, hfl, hnsz]
            have : (i + 1) * κ'.sz ≤ xs.length * κ'.sz := Nat.mul_le_mul_right _ hi
            rw [Nat.add_mul] at this; omega
          have hst := run_storeVar E hn w (ρ t).blk (off + i * κ'.sz) (den ρ v) _ T' hob (by rw [c1, hlen]) (by simpa using hle) (by rw [c1]; exact leaf_one hR.hdr c2 hlv)
          refine ⟨_, _, T', _, rfl, rfl, rfl, hob, hst, by rw [blkOf_eq ht]; rfl, by rw [blkOf_eq (o := .cells l' T') (by rw [List.getElem?_set_self (List.getElem?_eq_some_iff.1 ht).1])]; rfl, ⟨p3, p4 hok.2 (by simp [leavesB, SV.leafB])⟩, fun w' hw' => ?_⟩
          simp only [ObjRel]
          rw [hw', p1, c1, hdx, flat_set κ' xs i x' hi, hnsz]
          have hsl : ((xs.set i x').flatMap κ'.cells).length = xs.length * κ'.sz := by rw [cells_flat_length, List.length_set]
          have hfs := flat_set κ' xs i x' hi
          rw [← hfs, hsl, hfs]
          congr 2
          apply congrArg
          rw [g1]
          have t1 : (A ++ xs.flatMap κ'.cells ++ B).take off = A := by rw [← g2, List.append_assoc, List.take_left]
          have t2 : (A ++ xs.flatMap κ'.cells ++ B).drop (off + xs.length * κ'.sz) = B := by
            rw [← g2, ← hfl, ← List.length_append, List.drop_left]
          have t3 : (A ++ xs.flatMap κ'.cells ++ B).take (off + i * κ'.sz) = A ++ (xs.flatMap κ'.cells).take (i * κ'.sz) := by
            rw [← g2, List.append_assoc, List.take_length_add_append, List.take_append_of_le_length]
            rw [hfl]; exact Nat.mul_le_mul_right _ (Nat.le_of_lt hi)
          have t4 : (A ++ xs.flatMap κ'.cells ++ B).drop (off + i * κ'.sz + κ'.sz) = (xs.flatMap κ'.cells).drop (i * κ'.sz + κ'.sz) ++ B := by
            rw [← g2, Nat.add_assoc, List.append_assoc, List.drop_length_add_append, List.drop_append_of_le_length]
            rw [hfl]
            have : (i + 1) * κ'.sz ≤ xs.length * κ'.sz := Nat.mul_le_mul_right _ hi
            rw [Nat.add_mul] at this; omega
          rw [t1, t2, t3, t4]
          simp only [List.append_assoc]
        · cases hs
      · cases hs
    · cases hs
  · -- an element of a slice
    rename_i t κ i off
    split at hs
    · rename_i κ' xs T' ht
      split at hs
      · rename_i he
        subst he
        obtain ⟨l', hl', h2⟩ := bindO_some hs
        obtain ⟨x', hx', e⟩ := bindO_some h2
        cases e
        refine ⟨t, _, .seq κ' (xs.set i x') T', ht, rfl, fun C ρ w hR hpv hv => ?_⟩
        obtain ⟨c1, c2⟩ := cells_den ρ _ _ _ v hv hR.hdr
        have hob := hR.obj t _ ht
        obtain ⟨hlt, a', m', cp, hh, hi⟩ := hpv
        obtain ⟨p1, p2, p3, p4⟩ := segPut_spec (ρ := ρ) (enc_ok C.R C.w1 ρ H.length κ' (xs.getD i κ'.dflt)) c2 hl'
        have hdx := dec_cells ρ κ' _ _ hx'
        have hlen : (denC ρ v.cells).length = n := by rw [segWidth_eq c2, hn']
        rw [denC_enc] at p1 p2
        rw [K.cells_length, hlen] at p2
        rcases hob.1.2 with ⟨e, e0⟩ | ⟨gb, cap, cur, e, _, hg2, hcap, hmax, hcur, htake⟩
        · rw [e] at hh; cases hh; omega
        have hb : gb = (ρ t).blk := hob.2 gb (by rw [e]; rfl)
        rw [e] at hh
        cases hh
        subst hb
        have hfl := cells_flat_length κ' xs
        have hxi : (i + 1) * κ'.sz ≤ xs.length * κ'.sz := Nat.mul_le_mul_right _ hi
        have hxc : xs.length * κ'.sz ≤ cur.size := by rw [hcur]; exact Nat.mul_le_mul_right _ hcap
        rw [Nat.add_mul] at hxi
        have hst := run_storeVar E hn w (ρ t).blk (i * κ'.sz + off) (den ρ v) _ T' hg2 (by rw [c1, hlen]) (by omega) (by rw [c1]; exact leaf_one hR.hdr c2 hlv)
        have hbk : (ρ t).hdr.ownBlock = some (ρ t).blk := by rw [e]; rfl
        refine ⟨_, _, T', _, rfl, rfl, rfl, hg2, hst, by rw [blkOf_eq ht]; exact hbk, by rw [blkOf_eq (o := .seq κ' (xs.set i x') T') (by rw [List.getElem?_set_self (List.getElem?_eq_some_iff.1 ht).1])]; exact hbk, trivial, fun w' hw' => ?_⟩
        simp only [ObjRel]
        refine ⟨⟨by rw [cells_flat_length], .inr ⟨(ρ t).blk, cp, _, by rw [List.length_set]; exact e, Nat.zero_le _, hw', by rw [List.length_set]; exact hcap, hmax, ?_, ?_⟩⟩, hob.2⟩
        · simp only [List.size_toArray, List.length_append, List.length_take, List.length_drop, Array.length_toList, c1, hlen]
          omega
        · rw [List.length_set, flat_set κ' xs i x' hi, ← hdx, p1, c1, hlen, ← htake]
          generalize hcl : cur.toList = L at *
          have hL : L.length = cur.size := by rw [← hcl]; simp
          generalize hX : xs.length * κ'.sz = X at *
          have hget : κ'.cells (xs.getD i κ'.dflt) = (L.drop (i * κ'.sz)).take κ'.sz := by
            apply List.ext_getElem?
            intro j
            by_cases hj : j < κ'.sz
            · have hjl : j < (κ'.cells (xs.getD i κ'.dflt)).length := by rw [K.cells_length]; exact hj
              have := elem_cells κ' xs i hi j _ (List.getElem?_eq_getElem hjl)
              rw [← htake, List.getElem?_take, if_pos (by omega)] at this
              rw [List.getElem?_eq_getElem hjl, List.getElem?_take, if_pos hj, List.getElem?_drop, this]
            · rw [List.getElem?_eq_none (by rw [K.cells_length]; omega), List.getElem?_take, if_neg hj]
          rw [hget]
          exact list_put L _ _ off n κ'.sz X (by omega) (by omega) p2 hlen
      · cases hs
    · cases hs
  · cases hs
theorem op_store {o : Oper} {F : Fr} {H H' : Hp} {T : TypeId} {p x : Operand} {pv v : SV} (ho : o.op = .store T p x) (hp : opd F p = some pv) (hx : opd F x = some v) (hs : storeAt E H T pv v = some H') :
    OpGood E.P o F H (.raw undef) H' :=
  op_storeG E ho (Nat.le_refl _) (fun C ρ a w hF hR => ⟨ρ, fun _ _ => rfl, hR, opd_spec hF hp, opd_spec hF hx⟩) hs
end
end Go.Proofs.Ytkjellhkamfciaa.Sx
end

section
/- SX: operations on numbers, booleans, addresses, aggregates. -/
namespace Go.Proofs.Ytkjellhkamfciaa.Sx
open Go Go.RowKit

section
variable (E : Env)

theorem op_move {o : Oper} {F : Fr} {H : Hp} {x : Operand} {v : SV} (ho : o.op = .move x ∨ o.op = .assign x) (hx : opd F x = some v) : OpGood E.P o F H v H :=
  .val fun C ρ a w hF hR => by
    obtain ⟨h1, h2⟩ := opd_spec hF hx
    refine ⟨?_, h2⟩
    rcases ho with ho | ho <;> simp only [execOp, ho, h1, Sem.run_pure]

theorem op_pick {o : Oper} {F : Fr} {H : Hp} {c x y : Operand} {b : Bool} {v u : SV} (ho : o.op = .pick c x y) (hc : opd F c = some (.bool b)) (hx : opd F x = some v) (hy : opd F y = some u) :
    OpGood E.P o F H (if b then v else u) H :=
  .val fun C ρ a w hF hR => by
    obtain ⟨h1, _⟩ := opd_spec hF hc
    obtain ⟨h3, h4⟩ := opd_spec hF hx
    obtain ⟨h5, h6⟩ := opd_spec hF hy
    cases b
    · exact ⟨by simp [execOp, ho, h1, h5, den, asBool], h6⟩
    · exact ⟨by simp [execOp, ho, h1, h3, den, asBool], h4⟩

theorem op_nilCheck {o : Oper} {F : Fr} {H : Hp} {x : Operand} {t off : Nat} (ho : o.op = .nilCheck x) (hx : opd F x = some (.ptr t off)) : OpGood E.P o F H (.ptr t off) H :=
  .val fun C ρ a w hF hR => by
    obtain ⟨h1, h2⟩ := opd_spec hF hx
    exact ⟨by simp [execOp, ho, h1, den], h2⟩

theorem unS_spec {op : UnOp} {x v : SV} (h : unS op x = some v) (ρ : Nat → Tk) (R : Nat → Prop) (w1 : World) (n : Nat) (P : Program) (w : World) : (Op.unary op (den ρ x)).run P w = .ok (den ρ v) w ∧ v.ok R w1 ρ n := by
  unfold unS at h
  split at h <;> first | (cases h; done) | (cases h; simp [den, Op.unary, Op.intArith, Op.intBits, bxorI, SV.ok])
theorem op_unOp {o : Oper} {F : Fr} {H : Hp} {op : UnOp} {T : TypeId} {x : Operand} {u v : SV} (ho : o.op = .unOp op T x) (hx : opd F x = some u) (hv : unS op u = some v) : OpGood E.P o F H v H :=
  .val fun C ρ a w hF hR => by
    obtain ⟨h1, _⟩ := opd_spec hF hx
    obtain ⟨h3, h4⟩ := unS_spec hv ρ C.R C.w1 H.length E.P w
    exact ⟨by simp [execOp, ho, h1, h3], h4⟩

theorem op_convert {o : Oper} {F : Fr} {H : Hp} {src dst : TypeId} {x : Operand} {k k' : IntKind} {n : Int} (ho : o.op = .convert src dst x) (hx : opd F x = some (.int k' n)) (hd : E.P.underlying dst = some (.int k)) (hs : ∃ d, E.P.underlying src = some d) :
    OpGood E.P o F H (.int k (k.wrap n)) H :=
  .val fun C ρ a w hF hR => by
    obtain ⟨h1, _⟩ := opd_spec hF hx
    obtain ⟨d, hs⟩ := hs
    refine ⟨?_, by simp [SV.ok]⟩
    simp only [execOp, ho, h1, den, convert, Sem.run_bind, run_underlying hd, run_underlying hs, Result.andThen_ok]
    cases d <;> simp [Conv.intToInt]

theorem op_makeFunc {o : Oper} {F : Fr} {H : Hp} {f : FuncId} {first cap : Array Operand} {a b : List SV} (ho : o.op = .makeFunc (.func f) first cap) (ha : opds F first.toList = some a) (hb : opds F cap.toList = some b) :
    OpGood E.P o F H (.fn f a b) H :=
  .val fun C ρ A w hF hR => by
    obtain ⟨h1, h2⟩ := opds_spec hF ha
    obtain ⟨h3, h4⟩ := opds_spec hF hb
    refine ⟨?_, by simp only [SV.ok]; exact ⟨h2, h4⟩⟩
    simp only [execOp, ho, den, Instr.makeFunc, Sem.run_bind, Sem.run_pure, Result.andThen_ok]
    rw [← h1, ← h3]
    congr 3 <;> exact (Array.toList_inj.1 (by simp))

theorem binI_spec {α : Type} {op : BinOp} {k : IntKind} {a b : Int} {K : SV → Option α} {r : α} (h : binI op k a b K = some r) :
    ∃ v, K v = some r ∧ ∀ (ρ : Nat → Tk) (R : Nat → Prop) (w1 : World) (n : Nat) (T : TypeId) (P : Program) (w : World) (x y : Operand), (do eqGuard op T x y (.int k a) (.int k b); binOp op T (.int k a) (.int k b)).run P w = .ok (den ρ v) w ∧ v.ok R w1 ρ n := by
  unfold binI at h
  split at h
  all_goals first
    | (cases h; done)
    | (split at h <;> first
        | (cases h; done)
        | (rename_i hb; exact ⟨_, h, fun ρ R w1 n T P w x y => ⟨by simp [eqGuard, binOp, Op.intDiv, hb, den], by simp [SV.ok]⟩⟩))
    | exact ⟨_, h, fun ρ R w1 n T P w x y => ⟨by simp [eqGuard, binOp, Op.intArith, Op.intBits, Op.intCmp, den, bandI, borI, bxorI, bclrI, cEq_eq, cLt_eq, cLe_eq, bne], by simp [SV.ok]⟩⟩

theorem run_part {T : TypeId} {n : Nat} {ρ : Nat → Tk} {g : Bool} (hg : E.isAgg T = some g) (hn : E.size T = some n) {R : Nat → Prop} {w1 : World} {m : Nat} {l r : List SV} {off : Nat} {v : SV}
    (ho : SV.okL R w1 ρ m l) (ht : segTake l off n = some r) (hv : mkVal g r = some v) (w : World) : (part T (denC ρ l).toArray off).run E.P w = .ok (den ρ v) w ∧ v.ok R w1 ρ m := by
  obtain ⟨⟨A, B, e1, e2⟩, e3, e4, _⟩ := segTake_spec (ρ := ρ) ho ht
  refine ⟨?_, mkVal_ok hv e4⟩
  have hm := mkVal_den (ρ := ρ) hv
  have hx : ((denC ρ l).toArray.extract off (off + n)).toList = denC ρ r := by
    rw [Array.toList_extract, e1, ← e2, ← e3]
    simp
  unfold part
  rw [Sem.run_bind, run_isAgg E hg]
  cases g with
  | true =>
    simp only [if_true] at hm
    simp only [Result.andThen_ok, if_true, Sem.run_bind, run_sizeOf E hn, Sem.run_pure, hm]
    congr 2
    apply Array.toList_inj.1
    rw [hx]
  | false =>
    simp only [Bool.false_eq_true, if_false] at hm
    have : (denC ρ l).toArray[off]? = some (den ρ v) := by
      rw [List.getElem?_toArray, e1, ← e2, hm]
      simp
    simp [this]

/-! Equality of structs and arrays. -/
/-- The value of type T that lies as these leaves. -/
def EqOk (d : Nat) (T : TypeId) (xs ys : List SV) (r : Bool) : Prop :=
  ∀ (ρ : Nat → Tk) (R : Nat → Prop) (w1 : World) (n : Nat) (w : World), SV.okL R w1 ρ n xs → SV.okL R w1 ρ n ys → ∀ g, E.isAgg T = some g → ∀ u v, mkVal g xs = some u → mkVal g ys = some v → ∀ d', d ≤ d' → (Op.equalIn d' T (den ρ u) (den ρ v)).run E.P w = .ok r w

theorem eqFs_spec {eq : TypeId → List SV → List SV → Option Bool} {d : Nat} (heq : ∀ T a b r, eq T a b = some r → EqOk E d T a b r)
    (hagg : ∀ T a b r, eq T a b = some r → ∃ g u v, E.isAgg T = some g ∧ mkVal g a = some u ∧ mkVal g b = some v) (xs ys : List SV) : ∀ (fs : List Field) (r : Bool), eqFs E eq xs ys fs = some r →
    ∀ (ρ : Nat → Tk) (R : Nat → Prop) (w1 : World) (n : Nat) (w : World), SV.okL R w1 ρ n xs → SV.okL R w1 ρ n ys → ∀ d', d ≤ d' → (Op.eqFields d' (denC ρ xs).toArray (denC ρ ys).toArray fs).run E.P w = .ok r w
  | [], r, h, ρ, R, w1, n, w, h1, h2, d', hd => by
    simp only [eqFs, Option.some.injEq] at h; subst h; simp [Op.eqFields]
  | f :: fs, r, h, ρ, R, w1, n, w, h1, h2, d', hd => by
    simp only [eqFs] at h
    split at h
    · rename_i hne
      split at h
      · rename_i m hm
        obtain ⟨a, ha, h⟩ := bindO_some h
        obtain ⟨b, hb, h⟩ := bindO_some h
        obtain ⟨r1, hr1, h⟩ := bindO_some h
        obtain ⟨r2, hr2, h⟩ := bindO_some h
        cases h
        obtain ⟨g, u, v, hg, hu, hv⟩ := hagg _ _ _ _ hr1
        have p1 := run_part E hg hm h1 ha hu w
        have p2 := run_part E hg hm h2 hb hv w
        have oa := (segTake_spec (ρ := ρ) h1 ha).2.2.1
        have ob := (segTake_spec (ρ := ρ) h2 hb).2.2.1
        have he := heq _ _ _ _ hr1 ρ R w1 n w oa ob g hg u v hu hv d' hd
        have ih := eqFs_spec heq hagg xs ys fs r2 hr2 ρ R w1 n w h1 h2 d' hd
        have hne' : f.name ≠ "_" := by simpa using hne
        simp only [Op.eqFields, if_pos hne', Sem.run_bind, p1.1, p2.1, he, Result.andThen_ok, Sem.run_ite, Sem.run_pure]
        cases r1 <;> simp [ih]
      · cases h
    · cases h

theorem eqAs_spec {eq : List SV → List SV → Option Bool} {d : Nat} {e : TypeId} (heq : ∀ a b r, eq a b = some r → EqOk E d e a b r)
    (hagg : ∀ a b r, eq a b = some r → ∃ g u v, E.isAgg e = some g ∧ mkVal g a = some u ∧ mkVal g b = some v) (xs ys : List SV) (sz : Nat) (hsz : E.size e = some sz) : ∀ (m i : Nat) (r : Bool), eqAs eq xs ys sz m i = some r →
    ∀ (ρ : Nat → Tk) (R : Nat → Prop) (w1 : World) (n : Nat) (w : World), SV.okL R w1 ρ n xs → SV.okL R w1 ρ n ys → ∀ d', d ≤ d' →
    (forIn (List.range' i m 1) ((none : Option Bool), ()) fun j (_ : Option Bool × Unit) => (do
        let a ← part e (denC ρ xs).toArray (j * sz)
        let b ← part e (denC ρ ys).toArray (j * sz)
        let c ← Op.equalIn d' e a b
        if (!c) = true then pure (ForInStep.done (some false, ())) else pure (ForInStep.yield (none, ())) : Sem (ForInStep (Option Bool × Unit)))).run E.P w = .ok (if r then (none, ()) else (some false, ())) w
  | 0, i, r, h, ρ, R, w1, n, w, h1, h2, d', hd => by
    simp only [eqAs, Option.some.injEq] at h; subst h; simp
  | m + 1, i, r, h, ρ, R, w1, n, w, h1, h2, d', hd => by
    simp only [eqAs] at h
    obtain ⟨a, ha, h⟩ := bindO_some h
    obtain ⟨b, hb, h⟩ := bindO_some h
    obtain ⟨r1, hr1, h⟩ := bindO_some h
    obtain ⟨r2, hr2, h⟩ := bindO_some h
    cases h
    obtain ⟨g, u, v, hg, hu, hv⟩ := hagg _ _ _ hr1
    have p1 := run_part E hg hsz h1 ha hu w
    have p2 := run_part E hg hsz h2 hb hv w
    have oa := (segTake_spec (ρ := ρ) h1 ha).2.2.1
    have ob := (segTake_spec (ρ := ρ) h2 hb).2.2.1
    have he := heq _ _ _ hr1 ρ R w1 n w oa ob g hg u v hu hv d' hd
    have ih := eqAs_spec heq hagg xs ys sz hsz m (i + 1) r2 hr2 ρ R w1 n w h1 h2 d' hd
    simp only [List.range'_succ, List.forIn_cons, Sem.run_bind, p1.1, p2.1, he, Result.andThen_ok, Sem.run_ite, Sem.run_pure]
    cases r1
    · simp
    · simpa using ih

theorem eqT_agg : ∀ (d : Nat) (T : TypeId) (a b : List SV) (r : Bool), eqT E d T a b = some r → ∃ g u v, E.isAgg T = some g ∧ mkVal g a = some u ∧ mkVal g b = some v
  | 0, _, _, _, _, h => by simp [eqT] at h
  | d + 1, T, a, b, r, h => by
    simp only [eqT] at h
    split at h
    · rename_i k hu
      split at h
      · exact ⟨false, _, _, by simp [Env.isAgg, hu], rfl, rfl⟩
      · cases h
    · rename_i hu
      split at h
      · exact ⟨false, _, _, by simp [Env.isAgg, hu], rfl, rfl⟩
      · cases h
    · rename_i fs hu
      exact ⟨true, _, _, by simp [Env.isAgg, hu], rfl, rfl⟩
    · rename_i m e hu
      exact ⟨true, _, _, by simp [Env.isAgg, hu], rfl, rfl⟩
    · cases h

theorem eqT_spec : ∀ (d : Nat) (T : TypeId) (a b : List SV) (r : Bool), eqT E d T a b = some r → EqOk E d T a b r
  | 0, _, _, _, _, h => by simp [eqT] at h
  | d + 1, T, a, b, r, h => by
    intro ρ R w1 n w h1 h2 g hg u v hu hv d' hd
    obtain ⟨d', rfl⟩ : ∃ m, d' = m + 1 := ⟨d' - 1, by omega⟩
    simp only [eqT] at h
    split at h
    · rename_i k hT
      have : g = false := by simp [Env.isAgg, hT] at hg; exact hg
      subst this
      split at h
      · split at h
        · rename_i hk
          cases h; cases hu; cases hv
          subst hk
          simp [cEq_eq, den, Op.equalIn, run_underlying hT]
        · cases h
      · cases h
    · rename_i hT
      have : g = false := by simp [Env.isAgg, hT] at hg; exact hg
      subst this
      split at h
      · cases h; cases hu; cases hv
        simp [den, Op.equalIn, run_underlying hT]
      · cases h
    · rename_i fs hT
      have : g = true := by simp [Env.isAgg, hT] at hg; exact hg
      subst this
      split at h
      · cases h
      · rename_i hs
        cases hu; cases hv
        have hf : E.P.fieldsOf T = fs := by simp [Program.fieldsOf, hT]
        rw [← hf] at h
        simp only [den]
        rw [run_equalIn_struct w d' T _ _ (by rw [hf]; exact hT) (by simpa using hs)]
        exact eqFs_spec E (eqT_spec d) (eqT_agg E d) a b _ r h ρ R w1 n w h1 h2 d' (by omega)
    · rename_i m e hT
      have : g = true := by simp [Env.isAgg, hT] at hg; exact hg
      subst this
      split at h
      · rename_i sz hsz
        cases hu; cases hv
        have := eqAs_spec E (eqT_spec d e) (eqT_agg E d e) a b sz hsz m 0 r h ρ R w1 n w h1 h2 d' (by omega)
        simp only [den, Op.equalIn, Sem.run_bind, run_underlying hT, Result.andThen_ok, run_sizeOf E hsz, Std.Legacy.Range.forIn_eq_forIn_range', Std.Legacy.Range.size]
        simp only [Nat.sub_zero, Nat.add_sub_cancel, Nat.div_one, this, Result.andThen_ok]
        cases r <;> simp
      · cases h
    · cases h

theorem binS_spec {α : Type} {op : BinOp} {T : TypeId} {x y : SV} {K : SV → Option α} {r : α} (h : binS E op T x y K = some r) :
    ∃ v, K v = some r ∧ ∀ (ρ : Nat → Tk) (R : Nat → Prop) (w1 : World) (n : Nat) (w : World) (p q : Operand), x.ok R w1 ρ n → y.ok R w1 ρ n → (do eqGuard op T p q (den ρ x) (den ρ y); binOp op T (den ρ x) (den ρ y)).run E.P w = .ok (den ρ v) w ∧ v.ok R w1 ρ n := by
  unfold binS at h
  split at h
  · split at h
    · cases h
    · rename_i hb; exact ⟨_, h, fun ρ R w1 n w p q _ _ => ⟨by simp [eqGuard, binOp, Op.shift, hb, den], by simp [SV.ok]⟩⟩
  · split at h
    · cases h
    · rename_i hb; exact ⟨_, h, fun ρ R w1 n w p q _ _ => ⟨by simp [eqGuard, binOp, Op.shift, hb, den], by simp [SV.ok]⟩⟩
  · split at h
    · rename_i hk
      subst hk
      obtain ⟨v, h1, h2⟩ := binI_spec h
      exact ⟨v, h1, fun ρ R w1 n w p q _ _ => by simp only [den]; exact h2 ρ R w1 n T E.P w p q⟩
    · cases h
  · split at h
    · rename_i hT
      refine ⟨_, h, fun ρ R w1 n w p q _ _ => ⟨?_, by simp [SV.ok]⟩⟩
      rename_i a b _ _ _
      have he : (Op.equal T (.bool a) (.bool b)).run E.P w = .ok (a == b) w := run_equalIn_bool' w 9999 T a b hT
      simp only [den]
      rw [Sem.run_bind, show eqGuard BinOp.eql T p q (.bool a) (.bool b) = pure () from rfl, Sem.run_pure, Result.andThen_ok, show binOp BinOp.eql T (.bool a) (.bool b) = (do pure (Value.bool (← Op.equal T (.bool a) (.bool b)))) from rfl, Sem.run_bind, he]
      rfl
    · cases h
  · split at h
    · rename_i hT
      refine ⟨_, h, fun ρ R w1 n w p q _ _ => ⟨?_, by simp [SV.ok]⟩⟩
      rename_i a b _ _ _
      have he : (Op.equal T (.bool a) (.bool b)).run E.P w = .ok (a == b) w := run_equalIn_bool' w 9999 T a b hT
      simp only [den]
      rw [Sem.run_bind, show eqGuard BinOp.neq T p q (.bool a) (.bool b) = pure () from rfl, Sem.run_pure, Result.andThen_ok, show binOp BinOp.neq T (.bool a) (.bool b) = (do pure (Value.bool (!(← Op.equal T (.bool a) (.bool b))))) from rfl, Sem.run_bind, he]
      rfl
    · cases h
  · split at h
    · rename_i hag
      split at h
      · cases h
      · rename_i hgd
        obtain ⟨b, hb, h⟩ := bindO_some h
        refine ⟨_, h, fun ρ R w1 n w p q hx hy => ⟨?_, by simp [SV.ok]⟩⟩
        have he := eqT_spec E _ _ _ _ _ hb ρ R w1 n w hx hy true hag _ _ rfl rfl 10000 (by omega)
        simp only [den] at he ⊢
        rw [Sem.run_bind, run_eqGuard_agg w .eql T p q _ _ (by simpa using hgd)]
        simp only [Result.andThen_ok]
        rw [run_eql_struct, he]; rfl
    · cases h
  · split at h
    · rename_i hag
      split at h
      · cases h
      · rename_i hgd
        obtain ⟨b, hb, h⟩ := bindO_some h
        refine ⟨_, h, fun ρ R w1 n w p q hx hy => ⟨?_, by simp [SV.ok]⟩⟩
        have he := eqT_spec E _ _ _ _ _ hb ρ R w1 n w hx hy true hag _ _ rfl rfl 10000 (by omega)
        simp only [den] at he ⊢
        rw [Sem.run_bind, run_eqGuard_agg w .neq T p q _ _ (by simpa using hgd)]
        simp only [Result.andThen_ok]
        rw [run_neq_struct, he]; rfl
    · cases h
  · split at h
    · rename_i e hT
      refine ⟨_, h, fun ρ R w1 n w p q hx _ => ⟨?_, by simp [SV.ok]⟩⟩
      rename_i v κ xs _ _
      simp only [SV.ok] at hx
      obtain ⟨a, m, c, rfl, hn⟩ : ∃ a m c, v = .slice a m c ∧ (a = none → xs.isEmpty = true) := by
        rcases hx with ⟨rfl, a, c, rfl⟩ | ⟨ad, c, rfl, _⟩
        · exact ⟨a, 0, c, rfl, fun _ => rfl⟩
        · exact ⟨some ad, _, c, rfl, fun h => by cases h⟩
      have hq : (Op.equal T (.slice a m c) (.slice none 0 0)).run E.P w = .ok (nilV (.slice a m c)) w := by
        show (Op.equalIn 10000 T _ _).run E.P w = _
        unfold Op.equalIn
        rw [Sem.run_bind, run_underlying hT]
        cases a <;> rfl
      have hb : (nilV (.slice a m c) && xs.isEmpty) = nilV (.slice a m c) := by
        cases a with
        | none => simp [hn rfl]
        | some a => rfl
      simp only [den, hb]
      rw [Sem.run_bind, show eqGuard BinOp.eql T p q (.slice a m c) (.slice none 0 0) = pure () from rfl, Sem.run_pure, Result.andThen_ok, show binOp BinOp.eql T (.slice a m c) (.slice none 0 0) = (do pure (Value.bool (← Op.equal T (.slice a m c) (.slice none 0 0)))) from rfl, Sem.run_bind, hq]
      rfl
    · cases h
  · cases h
end
end Go.Proofs.Ytkjellhkamfciaa.Sx
end
