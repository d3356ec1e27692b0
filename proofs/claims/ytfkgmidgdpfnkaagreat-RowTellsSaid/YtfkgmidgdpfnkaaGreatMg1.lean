/- Texts of the walk, merged. -/
import Derived.WalkKit
import Derived.KernelRfl
set_option linter.unusedVariables false
set_option linter.unusedSimpArgs false
namespace Go.Proofs.YtfkgmidgdpfnkaaGreat.Sx
section
open Go
structure V3 where
 X:Int
 Y:Int
 Z:Int
structure Q4 where
 W:Int
 X:Int
 Y:Int
 Z:Int
inductive LK where
 | i (k:IntKind) | b | p
 deriving DecidableEq
@[reducible] def LK.T:LK → Type
 | .i _ => Int
 | .b => Bool
 | .p => Value × List (Int × Int × Int)
@[reducible] def RT:LK → List LK → Type
 | k,[] => k.T
 | k,k' :: ks => k.T × RT k' ks
inductive K where
 | int (k:IntKind) | bool | v3 | st (k:LK) (ks:List LK)
 deriving DecidableEq
@[reducible] def K.T:K → Type
 | .int _ => Int
 | .bool => Bool
 | .v3 => V3
 | .st k ks => RT k ks
def K.sz:K → Nat
 | .int _ => 1
 | .bool => 1
 | .v3 => 3
 | .st _ ks => ks.length + 1
def LK.dflt:(k:LK) → k.T
 | .i _ => (0:Int)
 | .b => false
 | .p => (.slice none 0 0,[])
def RT.dflt:(k:LK) → (ks:List LK) → RT k ks
 | k,[] => k.dflt
 | k,k' :: ks => (k.dflt,RT.dflt k' ks)
def K.dflt:(κ:K) → κ.T
 | .int _ => (0:Int)
 | .bool => false
 | .v3 => ⟨0,0,0⟩
 | .st k ks => RT.dflt k ks
inductive SV where
 | int (k:IntKind) (n:Int)
 | bool (b:Bool)
 | ptr (t off:Nat)
 | aix (t off:Nat) (κ:K) (i m:Nat)
 | pix (t:Nat) (κ:K) (i off:Nat)
 | rix (v:Value) (κ:K) (xs:List κ.T) (i off:Nat)
 | sl (t:Nat)
 | sub (t:Nat) (κ:K) (lo n:Nat)
 | clp (t:Nat) (κ:K) (n:Nat)
 | ros (v:Value) (κ:K) (xs:List κ.T)
 | fn (f:FuncId) (first cap:List SV)
 | yld (t:Nat)
 | raw (v:Value)
 | arr (κ:K) (xs:List κ.T) (n:Nat)
 | agg (l:List SV)
 | tup (l:List SV)
abbrev kP:K := .st (.i .i64) [.i .i64,.i .i64]
abbrev L3:Type := List (Int × Int × Int)
def slV:Value → Value
 | .slice a n c => .slice a n c
 | _ => .slice none 0 0
def LK.enc:(k:LK) → k.T → SV
 | .i k,n => .int k n
 | .b,x => .bool x
 | .p,x => .ros (slV x.1) kP x.2
def LK.dec:(k:LK) → SV → Option k.T
 | .i k,.int k' n => if k' = k then some n else none
 | .b,.bool x => some x
 | .p,.ros v κ xs => if h:κ = kP then some (v,((h ▸ xs:List kP.T):List (Int × Int × Int))) else none
 | .p,.raw (.slice none 0 0) => some (.slice none 0 0,[])
 | _,_ => none
def RT.enc:(k:LK) → (ks:List LK) → RT k ks → List SV
 | k,[],x => [k.enc x]
 | k,k' :: ks,x => k.enc x.1 :: RT.enc k' ks x.2
def RT.dec:(k:LK) → (ks:List LK) → List SV → Option (RT k ks)
 | k,[],[s] => k.dec s
 | k, k' :: ks, s :: l => match k.dec s, RT.dec k' ks l with
   | some a,some b => some (a,b)
   | _,_ => none
 | _,_,_ => none
def K.enc:(κ:K) → κ.T → List SV
 | .int k,n => [.int k n]
 | .bool,b => [.bool b]
 | .v3,p => [.int .i64 p.X,.int .i64 p.Y,.int .i64 p.Z]
 | .st k ks,x => RT.enc k ks x
def K.dec:(κ:K) → List SV → Option κ.T
 | .int k,[.int k' n] => if k' = k then some n else none
 | .bool,[.bool b] => some b
 | .v3,[.int .i64 x,.int .i64 y,.int .i64 z] => some ⟨x,y,z⟩
 | .st k ks,l => RT.dec k ks l
 | _,_ => none
inductive Ex where
 | normal
 | exit (id:Nat)
 | ret
inductive LSt where
 | ready | busy | done (e:Ex)
inductive SObj where
 | cells (l:List SV) (T:TypeId)
 | seq (κ:K) (xs:List κ.T) (E:TypeId)
 | dead
 | lp (fid:FuncId) (path:List Bool) (F:List (Option SV)) (st:LSt)
mutual
def SV.toks:SV → List Nat
 | .ptr t _ => [t]
 | .aix t _ _ _ _ => [t]
 | .pix t _ _ _ => [t]
 | .sl t => [t]
 | .sub t _ _ _ => [t]
 | .clp t _ _ => [t]
 | .yld t => [t]
 | .fn _ a b => SV.toksL a ++ SV.toksL b
 | .agg l => SV.toksL l
 | .tup l => SV.toksL l
 | _ => []
def SV.toksL:List SV → List Nat
 | [] => []
 | x :: l => SV.toks x ++ SV.toksL l
end
mutual
def SV.ren (g:Nat → Nat):SV → SV
 | .ptr t off => .ptr (g t) off
 | .aix t off κ i m => .aix (g t) off κ i m
 | .pix t κ i off => .pix (g t) κ i off
 | .sl t => .sl (g t)
 | .sub t κ lo n => .sub (g t) κ lo n
 | .clp t κ n => .clp (g t) κ n
 | .yld t => .yld (g t)
 | .fn f a b => .fn f (SV.renL g a) (SV.renL g b)
 | .agg l => .agg (SV.renL g l)
 | .tup l => .tup (SV.renL g l)
 | v => v
def SV.renL (g:Nat → Nat):List SV → List SV
 | [] => []
 | x :: l => SV.ren g x :: SV.renL g l
end
abbrev Fr := List (Option SV)
def frToks:Fr → List Nat
 | [] => []
 | some v :: l => v.toks ++ frToks l
 | none :: l => frToks l
def frRen (g:Nat → Nat):Fr → Fr
 | [] => []
 | some v :: l => some (v.ren g) :: frRen g l
 | none :: l => none :: frRen g l
def SObj.toks:SObj → List Nat
 | .cells l _ => SV.toksL l
 | .lp _ _ F _ => frToks F
 | _ => []
def SObj.ren (g:Nat → Nat):SObj → SObj
 | .cells l T => .cells (SV.renL g l) T
 | .lp f p F st => .lp f p (frRen g F) st
 | o => o
abbrev Hp := List SObj
def nn:Nat → Fr → Fr
 | 0,l => l
 | k + 1,l => none :: nn k l
structure St where
 F:Fr
 H:Hp
def hpToks:Hp → List Nat
 | [] => []
 | o :: l => o.toks ++ hpToks l
def memN (t:Nat):List Nat → Bool
 | [] => false
 | x :: l => Nat.beq x t || memN t l
def reach (H:Hp) (base:Nat):Nat → List Nat → List Nat → Option (List Nat)
 | _,[],seen => some seen
 | 0,_ :: _,_ => none
 | n + 1,t :: todo,seen =>
   if Nat.blt t base || memN t seen then reach H base n todo seen
   else match H[t]? with
     | some o => reach H base n (o.toks ++ todo) (seen ++ [t])
     | none => none
def idxOf (t:Nat):List Nat → Nat
 | [] => 0
 | x :: l => if Nat.beq x t then 0 else idxOf t l + 1
def gcMap (base:Nat) (τ:List Nat) (t:Nat):Nat := if Nat.blt t base then t else base + idxOf t τ
def pickAll (H:Hp):List Nat → Option Hp
 | [] => some []
 | t :: l => match H[t]?, pickAll H l with
   | some o,some r => some (o :: r)
   | _,_ => none
def allIn (base:Nat) (τ:List Nat):List Nat → Bool
 | [] => true
 | t :: l => (Nat.blt t base || memN t τ) && allIn base τ l
def nodupN:List Nat → Bool
 | [] => true
 | t :: l => !memN t l && nodupN l
def allGe (base:Nat):List Nat → Bool
 | [] => true
 | t :: l => Nat.ble base t && allGe base l
def gc (H:Hp) (base:Nat) (roots:List Nat):Option (List Nat × Hp) :=
 match reach H base 4000 (hpToks (H.take base) ++ roots) [] with
 | some τ => match pickAll H τ with
   | some objs =>
     if Nat.ble base H.length && allIn base τ (hpToks (H.take base)) && allIn base τ roots && allIn base τ (hpToks objs) && nodupN τ && allGe base τ then
       match τ with
       | [] => some ([],H.take base)
       | _ => some (τ,((H.take base) ++ objs).map (SObj.ren (gcMap base τ)))
     else none
   | none => none
 | none => none
def SV.cells:SV → List SV
 | .agg l => l
 | v => [v]
def SV.leafB:SV → Bool
 | .agg _ | .tup _ => false
 | .raw (.pointer none) | .raw (.slice none 0 0) | .raw .nilFunc => true
 | .raw _ => false
 | _ => true
def leavesB:List SV → Bool
 | [] => true
 | x :: l => x.leafB && leavesB l
def SV.width:SV → Nat
 | .arr κ _ n => n * κ.sz
 | _ => 1
def wOf:SV → Option Nat
 | .arr κ _ n => some (n * κ.sz)
 | _ => none
def segTake:List SV → Nat → Nat → Option (List SV)
 | _,0,0 => some []
 | [],_,_ => none
 | x :: l, 0, n => match wOf x with
   | some w => if w ≤ n then (segTake l 0 (n - w)).map (x :: ·) else none
   | none => match n with
     | 0 => none
     | m + 1 => (segTake l 0 m).map (x :: ·)
 | x :: l, off, n => match wOf x with
   | some w => if w ≤ off then segTake l (off - w) n else none
   | none => match off with
     | 0 => none
     | o + 1 => segTake l o n
def segDrop:List SV → Nat → Option (List SV)
 | l,0 => some l
 | [],_ => none
 | x :: l, off => match wOf x with
   | some w => if w ≤ off then segDrop l (off - w) else none
   | none => match off with
     | 0 => none
     | o + 1 => segDrop l o
def segWidth:List SV → Nat
 | [] => 0
 | x :: l => match wOf x with
   | some w => w + segWidth l
   | none => segWidth l + 1
def segPut (l:List SV) (off:Nat) (new:List SV):Option (List SV) :=
 match segTake l 0 off,segDrop l (off + segWidth new) with
 | some a,some b => some (a ++ new ++ b)
 | _,_ => none
def segAt:List SV → Nat → Option SV
 | [],_ => none
 | x :: _,0 => some x
 | x :: l, off => match wOf x with
   | some w => if w ≤ off then segAt l (off - w) else none
   | none => match off with
     | 0 => none
     | o + 1 => segAt l o
theorem wOf_width (x:SV):(∃ w,wOf x = some w ∧ x.width = w) ∨ (wOf x = none ∧ x.width = 1) := by
 cases x <;> first | exact .inr ⟨rfl,rfl⟩ | exact .inl ⟨_,rfl,rfl⟩
theorem segTake_cons0 (x:SV) (l:List SV) (m:Nat):segTake (x :: l) 0 (m + 1) = if x.width ≤ m + 1 then (segTake l 0 (m + 1 - x.width)).map (x :: ·) else none := by
 have e : segTake (x :: l) 0 (m + 1) = match wOf x with
   | some w => if w ≤ m + 1 then (segTake l 0 (m + 1 - w)).map (x :: ·) else none
   | none => (segTake l 0 m).map (x :: ·) := rfl
 rw [e]
 rcases wOf_width x with ⟨w,h1,h2⟩ | ⟨h1,h2⟩
 · rw [h1,h2]
 · rw [h1,h2,if_pos (by omega)]; rfl
theorem segTake_cons (x:SV) (l:List SV) (m n:Nat):segTake (x :: l) (m + 1) n = if x.width ≤ m + 1 then segTake l (m + 1 - x.width) n else none := by
 have e : segTake (x :: l) (m + 1) n = match wOf x with
   | some w => if w ≤ m + 1 then segTake l (m + 1 - w) n else none
   | none => segTake l m n := by cases n <;> rfl
 rw [e]
 rcases wOf_width x with ⟨w,h1,h2⟩ | ⟨h1,h2⟩
 · rw [h1,h2]
 · rw [h1,h2,if_pos (by omega)]; rfl
theorem segDrop_cons (x:SV) (l:List SV) (m:Nat):segDrop (x :: l) (m + 1) = if x.width ≤ m + 1 then segDrop l (m + 1 - x.width) else none := by
 have e : segDrop (x :: l) (m + 1) = match wOf x with
   | some w => if w ≤ m + 1 then segDrop l (m + 1 - w) else none
   | none => segDrop l m := rfl
 rw [e]
 rcases wOf_width x with ⟨w,h1,h2⟩ | ⟨h1,h2⟩
 · rw [h1,h2]
 · rw [h1,h2,if_pos (by omega)]; rfl
theorem segWidth_cons (x:SV) (l:List SV):segWidth (x :: l) = x.width + segWidth l := by
 have e : segWidth (x :: l) = match wOf x with
   | some w => w + segWidth l
   | none => segWidth l + 1 := rfl
 rw [e]
 rcases wOf_width x with ⟨w,h1,h2⟩ | ⟨h1,h2⟩
 · rw [h1,h2]
 · rw [h1,h2,Nat.add_comm]
theorem segAt_cons (x:SV) (l:List SV) (m:Nat):segAt (x :: l) (m + 1) = if x.width ≤ m + 1 then segAt l (m + 1 - x.width) else none := by
 have e : segAt (x :: l) (m + 1) = match wOf x with
   | some w => if w ≤ m + 1 then segAt l (m + 1 - w) else none
   | none => segAt l m := rfl
 rw [e]
 rcases wOf_width x with ⟨w,h1,h2⟩ | ⟨h1,h2⟩
 · rw [h1,h2]
 · rw [h1,h2,if_pos (by omega)]; rfl
def ofConst:Value → Option SV
 | .int k n => some (.int k n)
 | .bool b => some (.bool b)
 | .pointer none => some (.raw (.pointer none))
 | .slice none 0 0 => some (.raw (.slice none 0 0))
 | .nilFunc => some (.raw .nilFunc)
 | .tuple vs => if Nat.beq vs.size 0 then some (.raw (.tuple vs)) else none
 | .string s => some (.raw (.string s))
 | _ => none
def ofConsts:List Value → Option (List SV)
 | [] => some []
 | v :: l => match ofConst v, ofConsts l with
   | some x,some y => some (x :: y)
   | _,_ => none
def ofValue:Value → Option SV
 | .agg cs => (ofConsts cs.toList).map .agg
 | v => ofConst v
def opd (F:Fr):Operand → Option SV
 | .tmp t => (F[t]?).join
 | .const v => ofValue v
 | .func f => some (.fn f [] [])
 | .global _ => none
def opds (F:Fr):List Operand → Option (List SV)
 | [] => some []
 | x :: l => match opd F x, opds F l with
   | some a,some b => some (a :: b)
   | _,_ => none
def put (F:Fr) (d:Option Tmp) (v:SV):Fr :=
 match d with
 | some t => F.set t (some v)
 | none => F
structure Env where
 P:Program
 L:Nat
 kind:List (TypeId × K)
 junk:List (FuncId × List Bool × List Nat × List Nat)
 zero:List (TypeId × List SV)
 fresh:List FuncId
 noNil:Bool
 /-- structs whose nil slices stay as they are -/
 keep:List TypeId
 /-- results of several slices -/
 wide:List TypeId
 /-- functions whose loops are carried out round by round -/
 unrl:List FuncId
 add64:FuncId
 sub64:FuncId
def Env.dr (E:Env):Env := { E with noNil := true }
def smI (a:Int):Bool :=
 match a with
 | .ofNat x => Nat.ble x 16
 | .negSucc _ => false
noncomputable def hLt:Int → Int → Bool := Classical.choose (⟨fun a b => decide (a < b),fun _ _ => rfl⟩:∃ f:Int → Int → Bool,∀ a b,f a b = decide (a < b))
theorem hLt_eq (a b:Int):hLt a b = decide (a < b) := Classical.choose_spec (⟨fun a b => decide (a < b),fun _ _ => rfl⟩:∃ f:Int → Int → Bool,∀ a b,f a b = decide (a < b)) a b
noncomputable def hLe:Int → Int → Bool := Classical.choose (⟨fun a b => decide (a ≤ b),fun _ _ => rfl⟩:∃ f:Int → Int → Bool,∀ a b,f a b = decide (a ≤ b))
theorem hLe_eq (a b:Int):hLe a b = decide (a ≤ b) := Classical.choose_spec (⟨fun a b => decide (a ≤ b),fun _ _ => rfl⟩:∃ f:Int → Int → Bool,∀ a b,f a b = decide (a ≤ b)) a b
noncomputable def hEq:Int → Int → Bool := Classical.choose (⟨fun a b => a == b,fun _ _ => rfl⟩:∃ f:Int → Int → Bool,∀ a b,f a b = (a == b))
theorem hEq_eq (a b:Int):hEq a b = (a == b) := Classical.choose_spec (⟨fun a b => a == b,fun _ _ => rfl⟩:∃ f:Int → Int → Bool,∀ a b,f a b = (a == b)) a b
noncomputable def cLt (a b:Int):Bool := if smI a = true then (if smI b = true then decide (a < b) else hLt a b) else hLt a b
theorem cLt_eq (a b:Int):cLt a b = decide (a < b) := by
   by_cases h1:smI a = true
   · by_cases h2 : smI b = true
     · unfold cLt; rw [if_pos h1,if_pos h2]
     · unfold cLt; rw [if_pos h1,if_neg h2]; exact hLt_eq a b
   · unfold cLt; rw [if_neg h1]; exact hLt_eq a b
noncomputable def cLe (a b:Int):Bool := if smI a = true then (if smI b = true then decide (a ≤ b) else hLe a b) else hLe a b
theorem cLe_eq (a b:Int):cLe a b = decide (a ≤ b) := by
   by_cases h1:smI a = true
   · by_cases h2 : smI b = true
     · unfold cLe; rw [if_pos h1,if_pos h2]
     · unfold cLe; rw [if_pos h1,if_neg h2]; exact hLe_eq a b
   · unfold cLe; rw [if_neg h1]; exact hLe_eq a b
noncomputable def cEq (a b:Int):Bool := if smI a = true then (if smI b = true then a == b else hEq a b) else hEq a b
theorem cEq_eq (a b:Int):cEq a b = (a == b) := by
   by_cases h1:smI a = true
   · by_cases h2 : smI b = true
     · unfold cEq; rw [if_pos h1,if_pos h2]
     · unfold cEq; rw [if_pos h1,if_neg h2]; exact hEq_eq a b
   · unfold cEq; rw [if_neg h1]; exact hEq_eq a b
section
variable (E:Env) {α:Type}
def Env.isAgg (T:TypeId):Option Bool :=
 match E.P.underlying T with
 | some (.struct _) => some true
 | some (.array _ _) => some true
 | some _ => some false
 | none => none
def Env.size (T:TypeId):Option Nat := (E.P.info? T).map (·.size)
def assoc {β:Type}:List (Nat × β) → Nat → Option β
 | [],_ => none
 | (a,b) :: l,x => if Nat.beq a x then some b else assoc l x
def Env.zeroOf (T:TypeId):Option (List SV) :=
 match assoc E.zero T with
 | some l => some l
 | none => match E.P.info? T with
   | some i => match i.zero with
     | some (.agg cs) => ofConsts cs.toList
     | some v => (ofConst v).map ([·])
     | none => none
   | none => none
def mkVal (agg:Bool) (l:List SV):Option SV :=
 match agg,l with
 | true,l => some (.agg l)
 | false,[.arr _ _ _] => none
 | false,[x] => some x
 | _,_ => none
def bindO {β γ:Type} (x:Option β) (k:β → Option γ):Option γ :=
 match x with
 | some b => k b
 | none => none
def loadAt (H:Hp) (T:TypeId) (a:SV):Option SV :=
 match E.isAgg T,E.size T with
 | some g,some n =>
   match a with
   | .ptr t off => match H[t]? with
     | some (.cells l _) => bindO (segTake l off n) (mkVal g)
     | _ => none
   | .aix t off κ i m => match H[t]? with
     | some (.cells l _) => match segAt l off with
       | some (.arr κ' xs m') => if h:κ' = κ ∧ Nat.beq m' m = true then bindO (segTake (κ.enc ((h.1 ▸ xs).getD i κ.dflt)) 0 n) (mkVal g) else none
       | _ => none
     | _ => none
   | .pix t κ i off => match H[t]? with
     | some (.seq κ' xs _) => if h:κ' = κ then bindO (segTake (κ.enc ((h ▸ xs).getD i κ.dflt)) off n) (mkVal g) else none
     | _ => none
   | .rix _ κ xs i off => bindO (segTake (κ.enc (xs.getD i κ.dflt)) off n) (mkVal g)
   | _ => none
 | _,_ => none
def storeFits (T:TypeId) (v:SV):Bool :=
 leavesB v.cells && match E.size T with
   | some n => Nat.beq (segWidth v.cells) n
   | none => false
def storeAt (H:Hp) (T:TypeId) (a:SV) (v:SV):Option Hp :=
 if storeFits E T v = true then
 match a with
 | .ptr t off => match H[t]? with
   | some (.cells l T) => bindO (segPut l off v.cells) fun l' => some (H.set t (.cells l' T))
   | _ => none
 | .aix t off κ i m => match H[t]? with
   | some (.cells l T) => match segAt l off with
     | some (.arr κ' xs n) => if h:κ' = κ ∧ Nat.beq n m = true then bindO (κ.dec v.cells) fun x => bindO (segPut l off [.arr κ ((h.1 ▸ xs).set i x) n]) fun l' => some (H.set t (.cells l' T)) else none
     | _ => none
   | _ => none
 | .pix t κ i off => match H[t]? with
   | some (.seq κ' xs T) => if h:κ' = κ then bindO (segPut (κ.enc ((h ▸ xs).getD i κ.dflt)) off v.cells) fun l => bindO (κ.dec l) fun x => some (H.set t (.seq κ ((h ▸ xs).set i x) T)) else none
   | _ => none
 | _ => none
 else none
def fieldOf (T:TypeId) (f:Nat):Option Field :=
 match E.P.underlying T with
 | some (.struct fs) => fs[f]?
 | _ => none
def fillAt (places:Nat → Option (Nat × Nat)):List SV → List (Nat × SV) → Option (List SV)
 | l,[] => some l
 | l, (i, v) :: rest => match places i with
   | some (off,size) => if Nat.beq (segWidth v.cells) size then bindO (segPut l off v.cells) fun l' => fillAt places l' rest else none
   | none => none
def placesOf (fs:List Field):Option (List (Nat × Nat)) := fs.mapM fun f => (E.P.info? f.type).map fun i => (f.offset,i.size)
def partsOf (F:Fr):List (Nat × Operand) → Option (List (Nat × SV))
 | [] => some []
 | (i, x) :: l => match opd F x, partsOf F l with
   | some a,some b => some ((i,a) :: b)
   | _,_ => none
def decAll (κ:K):List (Nat × SV) → Nat → Option (List κ.T)
 | [],_ => some []
 | (j,v) :: l,i => if Nat.beq i j then bindO (κ.dec v.cells) fun x => bindO (decAll κ l (i + 1)) fun xs => some (x :: xs) else none
def bandI (k:IntKind) (x y:Int):Int := k.wrap (BitVec.ofInt k.bits x &&& BitVec.ofInt k.bits y).toNat
def borI (k:IntKind) (x y:Int):Int := k.wrap (BitVec.ofInt k.bits x ||| BitVec.ofInt k.bits y).toNat
def bxorI (k:IntKind) (x y:Int):Int := k.wrap (BitVec.ofInt k.bits x ^^^ BitVec.ofInt k.bits y).toNat
def bclrI (k:IntKind) (x y:Int):Int := k.wrap (BitVec.ofInt k.bits x &&& ~~~ BitVec.ofInt k.bits y).toNat
noncomputable def eqFs (eq:TypeId → List SV → List SV → Option Bool) (xs ys:List SV):List Field → Option Bool
 | [] => some true
 | f :: fs => if f.name != "_" then
     match E.size f.type with
     | some n => bindO (segTake xs f.offset n) fun a => bindO (segTake ys f.offset n) fun b => bindO (eq f.type a b) fun r => bindO (eqFs eq xs ys fs) fun s => some (r && s)
     | none => none
   else none
noncomputable def eqAs (eq:List SV → List SV → Option Bool) (xs ys:List SV) (n:Nat):Nat → Nat → Option Bool
 | 0,_ => some true
 | m + 1,i => bindO (segTake xs (i * n) n) fun a => bindO (segTake ys (i * n) n) fun b => bindO (eq a b) fun r => bindO (eqAs eq xs ys n m (i + 1)) fun s => some (r && s)
noncomputable def eqT:Nat → TypeId → List SV → List SV → Option Bool
 | 0,_,_,_ => none
 | d + 1, T, xs, ys => match E.P.underlying T with
   | some (.int _) => match xs, ys with
     | [.int k a],[.int k' b] => if k = k' then some (cEq a b) else none
     | _,_ => none
   | some .bool => match xs, ys with
     | [.bool a],[.bool b] => some (a == b)
     | _,_ => none
   | some (.struct fs) => if E.P.stoodInHeld T then none else eqFs E (eqT d) xs ys fs.toList
   | some (.array m e) => match E.size e with
     | some n => eqAs (eqT d e) xs ys n m 0
     | none => none
   | _ => none
noncomputable def binI (op:BinOp) (k:IntKind) (a b:Int) (K:SV → Option α):Option α :=
 match op with
 | .add => K (.int k (k.wrap (a + b)))
 | .sub => K (.int k (k.wrap (a - b)))
 | .mul => K (.int k (k.wrap (a * b)))
 | .quo => if b = 0 then none else K (.int k (k.wrap (a.tdiv b)))
 | .rem => if b = 0 then none else K (.int k (a.tmod b))
 | .and => K (.int k (bandI k a b))
 | .or => K (.int k (borI k a b))
 | .xor => K (.int k (bxorI k a b))
 | .andNot => K (.int k (bclrI k a b))
 | .eql => K (.bool (cEq a b))
 | .neq => K (.bool (!cEq a b))
 | .lss => K (.bool (cLt a b))
 | .leq => K (.bool (cLe a b))
 | .gtr => K (.bool (cLt b a))
 | .geq => K (.bool (cLe b a))
 | _ => none
def nilV (v:Value):Bool :=
 match v with
 | .slice none _ _ => true
 | _ => false
noncomputable def binS (op:BinOp) (T:TypeId) (x y:SV) (K:SV → Option α):Option α :=
 match op,x,y with
 | .shl,.int k a,.int _ b => if b < 0 then none else K (.int k (k.wrap (a * 2 ^ (min b.toNat k.bits))))
 | .shr,.int k a,.int _ b => if b < 0 then none else K (.int k (a.fdiv (2 ^ (min b.toNat k.bits))))
 | op,.int k a,.int k' b => if k = k' then binI op k a b K else none
 | .eql, .bool a, .bool b => match E.P.underlying T with
   | some .bool => K (.bool (a == b))
   | _ => none
 | .neq, .bool a, .bool b => match E.P.underlying T with
   | some .bool => K (.bool (!(a == b)))
   | _ => none
 | .eql, .agg a, .agg b => match E.isAgg T with
   | some true => if E.P.eqGuardType E.P.depth T then none else bindO (eqT E 20 T a b) fun r => K (.bool r)
   | _ => none
 | .neq, .agg a, .agg b => match E.isAgg T with
   | some true => if E.P.eqGuardType E.P.depth T then none else bindO (eqT E 20 T a b) fun r => K (.bool (!r))
   | _ => none
 | .eql, .ros v _ xs, .raw (.slice none 0 0) => match E.P.underlying T with
   | some (.slice _) => K (.bool (nilV v && xs.isEmpty))
   | _ => none
 | _,_,_ => none
def unS (op:UnOp) (x:SV):Option SV :=
 match op,x with
 | .neg,.int k n => some (.int k (k.wrap (0 - n)))
 | .xor,.int k n => some (.int k (bxorI k (if k.signed then -1 else k.max) n))
 | .not,.bool b => some (.bool !b)
 | _,_ => none
def indexS (H:Hp) (T:TypeId) (x ix:SV) (K:SV → Option α):Option α :=
 match ix with
 | .int _ i =>
   match E.P.underlying T,x with
   | some (.array n e),.ptr t off =>
     match E.size e,H[t]? with
     | some sz,some (.cells l _) =>
       match segAt l off with
       | some (.arr κ _ m) => if κ.sz = sz ∧ Nat.beq m n = true then (if 0 ≤ i ∧ i < n then K (.aix t off κ i.toNat m) else none) else none
       | _ => if 0 ≤ i ∧ i < n then K (.ptr t (off + i.toNat * sz)) else none
     | _,_ => none
   | some (.slice e),.sl t =>
     match E.size e,H[t]? with
     | some sz,some (.seq κ xs _) => if κ.sz = sz then (if 0 ≤ i ∧ i < (xs.length:Int) then K (.pix t κ i.toNat 0) else none) else none
     | _,_ => none
   | some (.slice e),.ros v κ xs =>
     match E.size e with
     | some sz => if κ.sz = sz then (if 0 ≤ i ∧ i < (xs.length:Int) then K (.rix v κ xs i.toNat 0) else none) else none
     | _ => none
   | some (.slice e),.sub t κ lo n =>
     match E.size e,H[t]? with
     | some sz,some (.seq κ' _ _) => if κ.sz = sz ∧ κ' = κ then (if 0 ≤ i ∧ i < (n:Int) then K (.pix t κ (lo + i.toNat) 0) else none) else none
     | _,_ => none
   | some (.slice e),.clp t κ n =>
     match E.size e,H[t]? with
     | some sz,some (.seq κ' _ _) => if κ.sz = sz ∧ κ' = κ then (if 0 ≤ i ∧ i < (n:Int) then K (.pix t κ i.toNat 0) else none) else none
     | _,_ => none
   | some (.array n e),.pix t κ j off =>
     match E.size e with
     | some sz => if 0 ≤ i ∧ i < n then K (.pix t κ j (off + i.toNat * sz)) else none
     | _ => none
   | some (.array n e),.rix v κ xs j off =>
     match E.size e with
     | some sz => if 0 ≤ i ∧ i < n then K (.rix v κ xs j (off + i.toNat * sz)) else none
     | _ => none
   | _,_ => none
 | _ => none
def fieldAddrS (T:TypeId) (x:SV) (f:Nat):Option SV :=
 bindO (fieldOf E T f) fun fd =>
   bindO (E.size fd.type) fun n =>
     if n = 0 then none else
     match x with
     | .ptr t off => some (.ptr t (off + fd.offset))
     | .pix t κ i off => some (.pix t κ i (off + fd.offset))
     | .rix v κ xs i off => some (.rix v κ xs i (off + fd.offset))
     | _ => none
def lenS (H:Hp) (x:SV):Option SV :=
 match x with
 | .sl t => match H[t]? with
   | some (.seq _ xs _) => some (.int .i64 (xs.length:Int))
   | _ => none
 | .ros _ _ xs => some (.int .i64 (xs.length:Int))
 | .sub _ _ _ n => some (.int .i64 (n:Int))
 | .clp _ _ n => some (.int .i64 (n:Int))
 | .raw (.slice none 0 0) => some (.int .i64 0)
 | _ => none
def minS:SV → List SV → Option SV
 | x,[] => some x
 | .int k a,.int k' b :: l => if k = k' then minS (.int k (if b < a then b else a)) l else none
 | _,_ => none
def maxS:SV → List SV → Option SV
 | x,[] => some x
 | .int k a,.int k' b :: l => if k = k' then maxS (.int k (if b > a then b else a)) l else none
 | _,_ => none
def pow64:Nat := 18446744073709551616
def addS (l:List SV) (K:SV → Option α):Option α :=
 match l with
 | [.int _ x,.int _ y,.int _ c] => if c.toNat > 1 then none else
   K (.tup [.int .u64 (Int.ofNat ((x.toNat + y.toNat + c.toNat) % pow64)),.int .u64 (Int.ofNat ((x.toNat + y.toNat + c.toNat) / pow64))])
 | _ => none
def subS (l:List SV) (K:SV → Option α):Option α :=
 match l with
 | [.int _ x,.int _ y,.int _ c] => if c.toNat > 1 then none else
   K (.tup [.int .u64 (Int.ofNat ((x.toNat + pow64 - y.toNat - c.toNat) % pow64)),.int .u64 (Int.ofNat (if x.toNat < y.toNat + c.toNat then 1 else 0))])
 | _ => none
def winV (v:Value) (sz lo n:Nat):Value :=
 match v with
 | .slice a _ cap => .slice (if cap = lo then a else a.map (·.add (lo * sz))) n (cap - lo)
 | v => v
def clipV (v:Value) (n:Nat):Value :=
 match v with
 | .slice a _ _ => .slice (if n = 0 then a else a.map (·.add 0)) n n
 | v => v
def strAt (s:ByteArray) (i:Int):Int :=
 match s[i.toNat]? with
 | some b => Int.ofNat b.toNat
 | none => 0
abbrev CallF (α:Type) := FuncId → List SV → Hp → (SV → Hp → Option α) → Option α
abbrev YldF (α:Type) := Nat → List SV → Hp → (SV → Hp → Option α) → Option α
def yldOf (o:Oper) (F:Fr):Option (Nat × List SV) :=
 match o.op with
 | .call c => match c.callee with
   | .value f => match opd F f with
     | some (.yld t) => (opds F c.args.toList).map fun as => (t,as)
     | _ => none
   | _ => none
 | _ => none
def maskH (T:List Nat):Nat → Hp → Hp
 | _,[] => []
 | i,o :: H => (if memN i T then o else .dead) :: maskH T (i + 1) H
def mergeH (T:List Nat):Nat → Hp → Hp → Hp
 | _,[],_ => []
 | _,H,[] => H
 | i,o :: H,p :: M => (if memN i T then p else o) :: mergeH T (i + 1) H M
def Env.nts (T:TypeId):Option (List TypeId) := if memN T E.keep then some [] else E.P.cellTypes E.P.depth T
def nilAt (t:TypeId) (x:SV):Option (TypeId × K) :=
 match x with
 | .raw (.slice none 0 0) => if E.noNil then none else match E.P.underlying t with
   | some (.slice e) => (assoc E.kind e).map fun κ => (e,κ)
   | _ => none
 | _ => none
def isArr:SV → Bool
 | .arr _ _ _ => true
 | _ => false
def nilKind (x:Operand) (T:TypeId):Option (TypeId × K) :=
 match x with
 | .const (.slice none 0 0) => match E.P.underlying T with
   | some (.slice e) => (assoc E.kind e).map fun κ => (e,κ)
   | _ => none
 | _ => none
def readSeq (κ:K) (a:SV) (H:Hp):Option (List Nat × List κ.T) :=
 match a with
 | .ros _ κ' xs => if h:κ' = κ then some ([],h ▸ xs) else none
 | .sl t => match H[t]? with
   | some (.seq κ' xs _) => if h:κ' = κ then some ([t],h ▸ xs) else none
   | _ => none
 | .sub t κ' lo n => if κ' = κ then (match H[t]? with
   | some (.seq κ' xs _) => if h:κ' = κ then some ([t],(((h ▸ xs):List κ.T).drop lo).take n) else none
   | _ => none) else none
 | .raw (.slice none 0 0) => some ([],[])
 | _ => none
def ivO (F:Fr):Option Operand → Option (Option Int)
 | none => some none
 | some x => match opd F x with
   | some (.int _ i) => some (some i)
   | _ => none
def lowI:Option Int → Int
 | none => 0
 | some i => i
def highI (L:Nat):Option Int → Int
 | none => (L:Int)
 | some i => i
def winLen (H:Hp) (sz:Nat) (u:SV):Option Nat :=
 match u with
 | .ros _ κ xs => if κ.sz = sz then some xs.length else none
 | .sl t => match H[t]? with
   | some (.seq κ xs _) => if κ.sz = sz then some xs.length else none
   | _ => none
 | .sub t κ _ n => match H[t]? with
   | some (.seq _ _ _) => if κ.sz = sz then some n else none
   | _ => none
 | _ => none
def cutS (H:Hp) (u:SV) (l n:Nat):Option SV :=
 match u with
 | .ros v κ xs => some (.ros (winV v κ.sz l n) κ ((xs.drop l).take n))
 | .sl t => match H[t]? with
   | some (.seq κ _ _) => some (.sub t κ l n)
   | _ => none
 | .sub t κ a _ => if l = 0 ∨ 0 < n then some (.sub t κ (a + l) n) else none
 | _ => none
def hasNil:List SV → Bool
 | [] => false
 | .raw (.slice none 0 0) :: _ => true
 | _ :: l => hasNil l
def nilz (ts:List TypeId) (l:List SV) (n:Nat):List SV × Hp :=
 match ts with
 | [] => (l,[])
 | t :: ts => match l with
   | [] => ([],[])
   | x :: l => match nilAt E t x with
     | some (e,κ) => (.sl n :: (nilz ts l (n + 1)).1,.seq κ [] e :: (nilz ts l (n + 1)).2)
     | none => if isArr x then (x :: l,[]) else (x :: (nilz ts l n).1,(nilz ts l n).2)
def asV (v:SV) (l:List SV):Option SV :=
 match v with
 | .agg _ => some (.agg l)
 | _ => match l with
   | [.sl t] => some (.sl t)
   | [.raw u] => some (.raw u)
   | _ => none
noncomputable def opS (callf:CallF α) (o:Oper) (F:Fr) (H:Hp) (K:SV → Hp → Option α):Option α :=
 match o.op with
 | .move x | .assign x =>
   match nilKind E x o.type with
   | some (e,κ) => K (.sl H.length) (H ++ [.seq κ [] e])
   | none => bindO (opd F x) fun v => K v H
 | .pick c a b =>
   match opd F c,opd F a,opd F b with
   | some (.bool c),some a,some b => if c then K a H else K b H
   | _,_,_ => none
 | .alloc T => bindO (E.zeroOf T) fun l => if leavesB l then
     (if hasNil l then bindO (E.nts T) fun ts => K (.ptr (H ++ (nilz E ts l H.length).2).length 0) (H ++ (nilz E ts l H.length).2 ++ [.cells (nilz E ts l H.length).1 T])
      else K (.ptr H.length 0) (H ++ [.cells l T])) else none
 | .box T x => bindO (opd F x) fun v => if leavesB v.cells then
     (if hasNil v.cells then bindO (E.nts T) fun ts => K (.ptr (H ++ (nilz E ts v.cells H.length).2).length 0) (H ++ (nilz E ts v.cells H.length).2 ++ [.cells (nilz E ts v.cells H.length).1 T])
      else K (.ptr H.length 0) (H ++ [.cells v.cells T])) else none
 | .build T parts =>
   bindO (E.zeroOf T) fun z => bindO (partsOf F parts.toList) fun ps =>
     match E.P.underlying T with
     | some (.struct fs) => bindO (placesOf E fs.toList) fun places => bindO (fillAt (places[·]?) z ps) fun l => K (.agg l) H
     | some (.array _ e) => bindO (E.size e) fun sz => bindO (fillAt (fun i => some (i * sz,sz)) z ps) fun l => K (.agg l) H
     | _ => none
 | .buildSlice T len parts =>
   match E.P.underlying T with
   | some (.slice e) => bindO (assoc E.kind e) fun κ => bindO (E.size e) fun sz => bindO (E.zeroOf e) fun z => bindO (partsOf F parts.toList) fun ps =>
     if κ.sz = sz ∧ Nat.beq (segWidth z) sz = true then
       if Nat.beq ps.length len && Nat.ble (len * sz) 16777216 then bindO (decAll κ ps 0) fun xs => K (.sl H.length) (H ++ [.seq κ xs e]) else none
     else none
   | _ => none
 | .load T a => bindO (opd F a) fun a => bindO (loadAt E H T a) fun v => K v H
 | .store T a x => bindO (opd F a) fun a => bindO (opd F x) fun v =>
     if hasNil v.cells then bindO (E.nts T) fun ts => bindO (asV v (nilz E ts v.cells H.length).1) fun v' => bindO (storeAt E (H ++ (nilz E ts v.cells H.length).2) T a v') fun H' => if leavesB v.cells then K (.raw undef) H' else none
     else bindO (storeAt E H T a v) fun H' => K (.raw undef) H'
 | .nilCheck x => bindO (opd F x) fun v => match v with
   | .ptr t off => K (.ptr t off) H
   | .pix t κ i off => K (.pix t κ i off) H
   | .rix v κ xs i off => K (.rix v κ xs i off) H
   | _ => none
 | .binOp op T x y _ => bindO (opd F x) fun x => bindO (opd F y) fun y => binS E op T x y fun v => K v H
 | .unOp op _ x => bindO (opd F x) fun x => bindO (unS op x) fun v => K v H
 | .convert src dst x => bindO (opd F x) fun x =>
   match E.P.underlying src,E.P.underlying dst,x with
   | some _,some (.int k),.int _ n => K (.int k (k.wrap n)) H
   | _,_,_ => none
 | .makeFunc (.func f) first cap => bindO (opds F first.toList) fun a => bindO (opds F cap.toList) fun b => K (.fn f a b) H
 | .fieldAddr T x f => bindO (opd F x) fun x => bindO (fieldAddrS E T x f) fun v => K v H
 | .field T x f => bindO (opd F x) fun x => bindO (fieldOf E T f) fun fd =>
   match x,E.isAgg fd.type,E.size fd.type with
   | .agg l,some g,some n => bindO (segTake l fd.offset n) fun l => bindO (mkVal g l) fun v => K v H
   | _,_,_ => none
 | .indexAddr T x ix => bindO (opd F x) fun x => bindO (opd F ix) fun ix => indexS E H T x ix fun v => K v H
 | .index T x ix => bindO (opd F x) fun x => bindO (opd F ix) fun ix =>
   match E.P.underlying T,x,ix with
   | some .string,.raw (.string s),.int _ i => if 0 ≤ i ∧ i < (s.size:Int) then K (.int .u8 (strAt s i)) H else none
   | some (.array n e),.agg l,.int _ i => bindO (E.isAgg e) fun g => bindO (E.size e) fun sz => if 0 ≤ i ∧ i < n then bindO (segTake l (i.toNat * sz) sz) fun l' => bindO (mkVal g l') fun v => K v H else none
   | _,_,_ => none
 | .slice T x lo hi none => bindO (opd F x) fun u => bindO (ivO F lo) fun l => bindO (ivO F hi) fun h =>
   match E.P.underlying T with
   | some (.slice e) => bindO (E.size e) fun sz => bindO (winLen H sz u) fun L =>
     if 0 ≤ lowI l ∧ lowI l ≤ highI L h ∧ highI L h ≤ (L:Int) then bindO (cutS H u (lowI l).toNat (highI L h - lowI l).toNat) fun v => K v H else none
   | _ => none
 | .slice T x none (some hi) (some mx) => bindO (opd F x) fun u => bindO (opd F hi) fun v1 => bindO (opd F mx) fun v2 =>
   match E.P.underlying T,u,v1,v2 with
   | some (.slice e), .sl t, .int _ i1, .int _ i2 => bindO (E.size e) fun sz => match H[t]? with
     | some (.seq κ xs _) => if κ.sz = sz then (if i1 = (xs.length:Int) ∧ i2 = (xs.length:Int) then K (.clp t κ xs.length) H else none) else none
     | _ => none
   | _,_,_,_ => none
 | .makeSlice T x y => bindO (opd F x) fun x => bindO (opd F y) fun y =>
   match E.P.underlying T,x,y with
   | some (.slice e), .int k n, .int k' m => bindO (assoc E.kind e) fun κ => bindO (E.P.info? e) fun inf => bindO (E.zeroOf e) fun z =>
     if k = .i64 ∧ k' = .i64 ∧ κ.sz = inf.size ∧ Nat.beq (segWidth z) inf.size = true then
       bindO (κ.dec z) fun d => if n = m then (if 0 ≤ n ∧ (inf.bytes:Int) * n ≤ 281474976710656 ∧ n ≤ 4611686018427387903 then K (.sl H.length) (H ++ [.seq κ (List.replicate n.toNat d) e]) else none) else none
     else none
   | _,_,_ => none
 | .extract x i => bindO (opd F x) fun x => match x with
   | .tup l => bindO (l[i]?) fun v => K v H
   | _ => none
 | .call c =>
   bindO (opds F c.args.toList) fun args =>
   match c.callee with
   | .value f => bindO (opd F f) fun f => match f with
     | .fn g first cap =>
       if Nat.beq g E.add64 && (E.P.funcs[g]?).isSome then addS (first ++ args ++ cap) fun v => K v H
       else if Nat.beq g E.sub64 && (E.P.funcs[g]?).isSome then subS (first ++ args ++ cap) fun v => K v H
       else match E.P.funcs[g]? with
         | some fn => if fn.body.isSome && fn.name != "runtime.NumGoroutine" then callf g (first ++ args ++ cap) H K else none
         | none => none
     | _ => none
   | .builtin .len => match c.argTypes.toList, args with
     | [t], [x] => match E.P.underlying t with
       | some (.slice _) => bindO (lenS H x) fun v => K v H
       | _ => none
     | _,_ => none
   | .builtin .append => match c.argTypes.toList, args with
     | [t, t'], [s, x] => if Nat.beq t t' = true then match E.P.underlying t with
       | some (.slice e) => bindO (assoc E.kind e) fun κ => bindO (E.P.info? e) fun inf => bindO (E.zeroOf e) fun z => bindO (readSeq κ x H) fun (ex,ys) =>
         if κ.sz = inf.size ∧ Nat.beq (segWidth z) inf.size = true ∧ Nat.ble 1 inf.bytes = true then
           match s with
           | .raw (.slice none 0 0) => if ys.length * inf.bytes ≤ 140737488355328 then K (.sl H.length) (H ++ [.seq κ ys e]) else none
           | .sl ts => match H[ts]? with
             | some (.seq κ' xs e') => if h:κ' = κ then if Nat.beq e' e = true ∧ memN ts ex = false then
                 (if (xs.length + ys.length) * inf.bytes ≤ 140737488355328 then K (.sl H.length) (H.set ts .dead ++ [.seq κ ((h ▸ xs) ++ ys) e]) else none) else none else none
             | _ => none
           | _ => none
         else none
       | _ => none else none
     | _,_ => none
   | .builtin .copy => match c.argTypes.toList, args with
     | [t, _], [.sl ts, x] => match E.P.underlying t with
       | some (.slice e) => bindO (E.size e) fun sz => match H[ts]? with
         | some (.seq κ xs e') => bindO (readSeq κ x H) fun (ex,ys) =>
           if κ.sz = sz ∧ Nat.beq e' e = true then (if xs.length = ys.length then K (.int .i64 (xs.length:Int)) (H.set ts (.seq κ ys e')) else none) else none
         | _ => none
       | _ => none
     | _,_ => none
   | .builtin .min => match args with
     | x :: l => bindO (minS x l) fun v => K v H
     | _ => none
   | .builtin .max => match args with
     | x :: l => bindO (maxS x l) fun v => K v H
     | _ => none
   | _ => none
 | _ => none
def guardOf (ops:Array Oper) (F:Fr) (j:Nat):Option (Option (Bool × Nat)) :=
 match (ops[j]?).bind (·.dst) with
 | some d => match F[d]? with
   | some (some (.bool b)) => some (some (b,d))
   | some (some (.raw (.tuple _))) => some none
   | _ => none
 | none => none
noncomputable def opY (callf:CallF α) (yf:YldF α) (o:Oper) (F:Fr) (H:Hp) (K:SV → Hp → Option α):Option α :=
 match yldOf o F with
 | some (t,as) => yf t as H K
 | none => opS E callf o F H K
noncomputable def op1 (callf:CallF α) (yf:YldF α) (ops:Array Oper) (o:Oper) (S:St) (K:St → Option α):Option α :=
 let go (S:St):Option α := opY E callf yf o S.F S.H fun v H => K ⟨put S.F o.dst v,H⟩
 let skip (S:St):Option α := K ⟨put S.F o.dst (.raw undef),S.H⟩
 match o.guard with
 | none => go S
 | some (j, want) => match guardOf ops S.F j with
   | some (some (b,d)) =>
     if b then
       let S':St := ⟨S.F.set d (some (.bool true)),S.H⟩
       if want then go S' else skip S'
     else
       let S':St := ⟨S.F.set d (some (.bool false)),S.H⟩
       if want then skip S' else go S'
   | some none => skip S
   | none => none
noncomputable def opsL (callf:CallF α) (yf:YldF α) (ops:Array Oper):List Oper → St → (St → Option α) → Option α
 | [],S,K => K S
 | o :: l,S,K => op1 E callf yf ops o S fun S' => opsL callf yf ops l S' K
structure Rec where
 dst:Option Tmp
 v:SV
 T:List Nat
 /-- the tokens that are written -/
 W:List Nat
 /-- the tokens that lie in what it has left -/
 left:List Nat
def noNilHead (l:List Operand):Bool :=
 match l with
 | .const (.slice none 0 0) :: _ => false
 | _ => true
def isWr (o:Oper):Bool :=
 match o.op with
 | .store _ _ _ => true
 | .call c => match c.callee with
   | .value _ => true
   | .builtin .append => noNilHead c.args.toList
   | .builtin .copy => true
   | _ => false
 | _ => false
def usedAsGuard:List Oper → Nat → Bool
 | [],_ => false
 | o :: l,i => (match o.guard with | some (j,_) => Nat.beq i j | none => false) || usedAsGuard l i
def opToks (o:Oper) (F:Fr) (H:Hp):Option (List Nat) :=
 match o.op with
 | .load _ a => (opd F a).map SV.toks
 | .indexAddr _ x _ => (opd F x).map SV.toks
 | .slice _ x _ _ _ => (opd F x).map SV.toks
 | .store _ a _ => (opd F a).map SV.toks
 | .call c => match c.callee with
   | .value f => match opd F f, opds F c.args.toList with
     | some f,some as => reach H 0 4000 (f.toks ++ SV.toksL as) []
     | _,_ => none
   | _ => (opds F c.args.toList).map SV.toksL
 | _ => some []
def guardLit (ops:Array Oper) (o:Oper) (F:Fr):Option Bool :=
 match o.guard with
 | none => some true
 | some (j, want) => match guardOf ops F j with
   | some (some (b,_)) => some (b == want)
   | some none => some false
   | none => none
def toksAt (H:Hp):List Nat → List Nat
 | [] => []
 | t :: l => (match H[t]? with | some o => o.toks | none => []) ++ toksAt H l
def swapTo (N s:Nat) (t:Nat):Nat := if Nat.blt t N then t else s + (t - N)
def upFrom:Nat → Nat → List Nat
 | _,0 => []
 | s,n + 1 => s :: upFrom (s + 1) n
def noneIn (s n:Nat):List Nat → Bool
 | [] => true
 | t :: l => (Nat.blt t s || Nat.ble (s + n) t) && noneIn s n l
def putFrom:Nat → Hp → Hp → Hp
 | _,[],H => H
 | s,x :: l,H => putFrom (s + 1) l (H.set s x)
def slotsOf (wd:List TypeId):List Oper → Nat
 | [] => 1
 | o :: l => match o.op with
   | .call c => match c.callee with
     | .value _ => if memN o.type wd then 4 else slotsOf wd l
     | _ => slotsOf wd l
   | _ => slotsOf wd l
def dstIn (d:Option Tmp) (l:List Nat):Bool :=
 match d with
 | some t => memN t l
 | none => false
def pureO (A:List Nat) (o:Oper):Bool :=
 o.guard.isNone && match o.op with
 | .alloc _ => dstIn o.dst A
 | .store _ (.tmp a) _ => memN a A && o.dst.isNone
 | .load _ _ | .nilCheck _ | .fieldAddr _ _ _ | .field _ _ _ | .build _ _ | .move _ | .assign _ => !dstIn o.dst A
 | .binOp _ _ _ _ _ | .indexAddr _ _ _ => !dstIn o.dst A
 | _ => false
def pureC (A:List Nat):Code → Bool
 | .skip | .ret | .exit _ | .label _ => true
 | .seq a b => pureC A a && pureC A b
 | .cond c a b => (match c with | .tmp d => !memN d A | _ => true) && pureC A a && pureC A b
 | .block _ c => pureC A c
 | .scope c => pureC A c
 | .region _ ops draw => !draw && ops.toList.all (pureO A)
 | _ => false
def allocsO:List Oper → List Nat
 | [] => []
 | o :: l => (match o.op,o.dst with | .alloc _,some d => [d] | _,_ => []) ++ allocsO l
def allocsC:Code → List Nat
 | .seq a b => allocsC a ++ allocsC b
 | .cond _ a b => allocsC a ++ allocsC b
 | .block _ c => allocsC c
 | .scope c => allocsC c
 | .region _ ops _ => allocsO ops.toList
 | _ => []
def pureFn (g n:Nat):Bool :=
 !memN g E.fresh && match E.P.funcs[g]? with
 | some fn => (match fn.body with
   | some c => pureC (allocsC c) c && allGe n (allocsC c)
   | none => false)
 | none => false
def pureOf (pu:Nat → Nat → Bool) (o:Oper) (F:Fr):Bool :=
 match o.op with
 | .call c => match c.callee with
   | .value f => match opd F f, opds F c.args.toList with
     | some (.fn g first cap),some as => pu g (first ++ as ++ cap).length
     | _,_ => false
   | _ => false
 | _ => false
noncomputable def drawL (callf:CallF α) (yf:YldF α) (pu:Nat → Nat → Bool) (ops:Array Oper) (B N c:Nat):Nat → List Oper → St → List Rec → (St → List Rec → Option α) → Option α
 | _,[],S,recs,K => K S recs
 | i,o :: l,S,recs,K =>
   match guardLit ops o S.F with
   | some want =>
     if want then
       match opToks o S.F S.H with
       | some T =>
         let fin (wr:Bool) (v:SV) (nw:List Nat) (H:Hp):Option α :=
           let next (v:SV):Option α := drawL callf yf pu ops B N c (i + 1) l ⟨put S.F o.dst v,H⟩ (⟨o.dst,v,nw ++ T,nw ++ (if wr then T else []),toksAt H (nw ++ T)⟩ :: recs) K
           match v with
           | .bool b => if usedAsGuard ops.toList i then (if b then next (.bool true) else next (.bool false)) else next (.bool b)
           | v => next v
         opY E.dr callf yf o S.F (maskH T 0 S.H) fun v M =>
           if Nat.beq M.length N then fin (isWr o && !(pureOf pu o S.F && Nat.beq M.length S.H.length)) v [] (mergeH T 0 S.H M)
           else if Nat.ble N M.length && Nat.ble M.length (N + c) && noneIn (B + c * i) (M.length - N) v.toks && noneIn (B + c * i) (M.length - N) (hpToks M) && noneIn (B + c * i) (M.length - N) T then
             fin (isWr o) (v.ren (swapTo N (B + c * i))) (upFrom (B + c * i) (M.length - N)) (putFrom (B + c * i) ((M.drop N).map (SObj.ren (swapTo N (B + c * i)))) (if isWr o then mergeH T 0 S.H (M.map (SObj.ren (swapTo N (B + c * i)))) else S.H))
           else none
       | none => none
     else drawL callf yf pu ops B N c (i + 1) l ⟨put S.F o.dst (.raw undef),S.H⟩ (⟨o.dst,.raw undef,[],[],[]⟩ :: recs) K
   | none => none
def edgesOf (o:Oper):List Nat := (o.after.toList.filter (Region.binds .any)).map (·.on)
def unionN:List Nat → List Nat → List Nat
 | [],m => m
 | x :: l,m => if memN x m then unionN l m else unionN l (x :: m)
def ancOf (acc:List (List Nat)):List Nat → List Nat
 | [] => []
 | e :: es => unionN (e :: acc.getD e []) (ancOf acc es)
def allLt (n:Nat):List Nat → Bool
 | [] => true
 | x :: l => Nat.blt x n && allLt n l
def ancL:List Oper → List (List Nat) → Option (List (List Nat))
 | [],acc => some acc
 | o :: l,acc => if allLt acc.length (edgesOf o) then ancL l (acc ++ [ancOf acc (edgesOf o)]) else none
def tmpsOf:List Operand → List Nat
 | [] => []
 | .tmp t :: l => t :: tmpsOf l
 | _ :: l => tmpsOf l
def readsOf (ops:Array Oper) (o:Oper):List Nat :=
 (match o.guard with
   | some (j, _) => match (ops[j]?).bind (·.dst) with
     | some d => [d]
     | none => []
   | none => []) ++ tmpsOf o.op.operands.toList
def meets:List Nat → List Nat → Bool
 | [],_ => false
 | x :: l,m => memN x m || meets l m
def sameDst (d e:Option Tmp):Bool :=
 match d,e with
 | some a,some b => Nat.beq a b
 | _,_ => false
def clash (ops:Array Oper) (oi oj:Oper) (ri rj:Rec):Bool :=
 dstIn ri.dst (readsOf ops oj) || sameDst ri.dst rj.dst || dstIn rj.dst (readsOf ops oi) || (meets ri.W rj.T || meets rj.W ri.T)
def noClash (ops:Array Oper) (anc:List Nat) (oj:Oper) (rj:Rec):Nat → List Oper → List Rec → Bool
 | i,oi :: ol,ri :: rl => (memN i anc || !clash ops oi oj ri rj) && noClash ops anc oj rj (i + 1) ol rl
 | _,_,_ => true
def inSlot (B c t k:Nat):Bool := Nat.ble (B + c * k) t && Nat.blt t (B + c * k + c)
def inSlots (B c t:Nat):List Nat → Bool
 | [] => false
 | k :: l => inSlot B c t k || inSlots B c t l
def visible (B c:Nat) (j:Nat) (anc:List Nat):List Nat → Bool
 | [] => true
 | t :: l => (Nat.blt t B || inSlot B c t j || inSlots B c t anc) && visible B c j anc l
def allOk (ops:Array Oper) (B c:Nat) (ancs:List (List Nat)) (ol:List Oper) (rl:List Rec):Nat → List Oper → List Rec → Bool
 | j,oj :: os,rj :: rs => noClash ops (ancs.getD j []) oj rj 0 (ol.take j) (rl.take j) && visible B c j (ancs.getD j []) (rj.v.toks ++ rj.left) && allOk ops B c ancs ol rl (j + 1) os rs
 | _,[],[] => true
 | _,_,_ => false
def drawOk (ops:Array Oper) (B c:Nat) (recs:List Rec):Bool :=
 match ancL ops.toList [] with
 | some ancs => allOk ops B c ancs ops.toList recs 0 ops.toList recs
 | none => false
def iter {σ:Type} (step:σ → (Ex → σ → Option α) → Option α):Nat → σ → (Ex → σ → Option α) → Option α
 | 0,_,_ => none
 | m + 1, S, K => step S fun e S' => match e with
   | .normal => iter step m S' K
   | .exit id => K (.exit id) S'
   | .ret => K .ret S'
def iterU {σ:Type} (step:σ → (Ex → σ → Option α) → Option α):Nat → σ → (Ex → σ → Option α) → Option α
 | 0,_,_ => none
 | m + 1, S, K => step S fun e S' => match e with
   | .normal => iterU step m S' K
   | .exit id => K (.exit id) S'
   | .ret => K .ret S'
theorem iterU_eq {σ:Type} (step:σ → (Ex → σ → Option α) → Option α) (K:Ex → σ → Option α):∀ (n:Nat) (S:σ),iterU step n S K = iter step n S K
 | 0,_ => rfl
 | n + 1,S => by
   show step S _ = step S _
   congr 1
   funext e S'
   cases e with
   | normal => exact iterU_eq step K n S'
   | _ => rfl
def resVals (H:Hp) (F:Fr):List ResultVar → Option (List SV)
 | [] => some []
 | .tmp t :: l => match (F[t]?).join, resVals H F l with
   | some a,some b => some (a :: b)
   | _,_ => none
 | .cell a T :: l => match (F[a]?).join, resVals H F l with
   | some p,some b => (loadAt E H T p).map (· :: b)
   | _,_ => none
def resOf (H:Hp) (F:Fr) (r:Array ResultVar):Option SV :=
 bindO (resVals E H F r.toList) fun l => match l with
   | [x] => some x
   | l => some (.tup l)
def junked (J:List Nat) (F:Fr):Fr := J.foldl (fun F d => F.set d none) F
def gcSt (base:Nat) (S:St) (K:St → Option α):Option α :=
 match gc S.H base (frToks S.F) with
 | some ([],H) => K ⟨S.F,H⟩
 | some (τ,H) => K ⟨frRen (gcMap base τ) S.F,H⟩
 | none => none
def gcRet (base:Nat) (v:SV) (H:Hp) (K:SV → Hp → Option α):Option α :=
 match gc H base v.toks with
 | some ([],H) => K v H
 | some (τ,H) => K (v.ren (gcMap base τ)) H
 | none => none
def killAt (τ:List Nat):Nat → Hp → Hp
 | _,[] => []
 | i,o :: H => (if memN i τ then .dead else o) :: killAt τ (i + 1) H
def frMap (n:Nat) (τ:List Nat) (t:Nat):Nat := if memN t τ then n + idxOf t τ else t
def seqsIn (H:Hp):List Nat → List Nat
 | [] => []
 | t :: l => match H[t]? with
   | some (.seq _ _ _) => t :: seqsIn H l
   | _ => seqsIn H l
def ltAll (n:Nat):List Nat → Bool
 | [] => true
 | x :: l => Nat.blt x n && ltAll n l
def freshSt (b:Bool) (S:St) (K:St → Option α):Option α :=
 if b then
   match reach S.H 0 4000 (frToks S.F) [] with
   | some ts => match pickAll S.H (seqsIn S.H ts) with
     | some objs => if nodupN (seqsIn S.H ts) && ltAll S.H.length (hpToks S.H) && ltAll S.H.length (hpToks objs) && ltAll S.H.length (frToks S.F) then
         K ⟨frRen (frMap S.H.length (seqsIn S.H ts)) S.F,(killAt (seqsIn S.H ts) 0 S.H ++ objs).map (SObj.ren (frMap S.H.length (seqsIn S.H ts)))⟩
       else none
     | none => none
   | none => none
 else K S
def enterF (ntmps:Nat) (args:List SV):Fr := args.map some ++ List.replicate (ntmps - args.length) (some (.raw undef))
def sub (root:Code):List Bool → Option Code
 | [] => some root
 | b :: p => match sub root p with
   | some (.seq a c) => some (if b then c else a)
   | some (.cond _ a c) => some (if b then c else a)
   | some (.block _ c) => if b then none else some c
   | some (.loop c) => if b then none else some c
   | some (.scope c) => if b then none else some c
   | some (.rangeFunc _ _ a c) => some (if b then c else a)
   | _ => none
def rounds (root:Code):List Bool → Bool
 | [] => false
 | _ :: p => rounds root p || (match sub root p with | some (.rangeFunc _ _ _ _) => true | _ => false)
def callable (P:Program) (f:FuncId):Bool :=
 match P.funcs[f]? with
 | some fn => fn.body.isSome && fn.name != "runtime.NumGoroutine"
 | none => false
def bodyOf (P:Program) (fid:FuncId):Option Code := (P.funcs[fid]?).bind (·.body)
def inRnd (P:Program) (fid:FuncId) (path:List Bool):Bool :=
 match bodyOf P fid with
 | some root => rounds root path
 | none => false
def codeIn (P:Program) (fid:FuncId) (path:List Bool):Option Code := (bodyOf P fid).bind fun root => sub root path
def junkAt:List (FuncId × List Bool × List Nat × List Nat) → FuncId → List Bool → List Nat × List Nat
 | [],_,_ => ([],[])
 | (f,p,J) :: l,fid,path => if Nat.beq f fid && p == path then J else junkAt l fid path
def setOpd (c:Operand) (t:Bool) (S:St):St :=
 match c with
 | .tmp d => ⟨S.F.set d (some (.bool t)),S.H⟩
 | _ => S
abbrev LookF (α:Type) := FuncId → Option (List SV → Hp → (SV → Hp → Option α) → Option α)
abbrev LookL (α:Type) := FuncId → List Bool → Nat → St → Option ((Ex → St → Option α) → Option α)
abbrev RunF (α:Type) := FuncId → List Bool → Nat → Code → St → (Ex → St → Option α) → Option α
noncomputable def callI (look:LookF α) (run:RunF α):CallF α :=
 fun f args H K =>
   match look f with
   | some c => c args H K
   | none => match E.P.funcs[f]? with
     | some fn => match fn.body with
       | some c => if Nat.ble args.length fn.ntmps then
           freshSt (memN f E.fresh) ⟨enterF fn.ntmps args, H⟩ fun S => run f [] H.length c S fun e S => match e with
             | .exit _ => none
             | _ => bindO (resOf E S.H S.F fn.results) fun v => gcRet H.length v S.H K
         else none
       | none => none
     | none => none
def putPs:List Tmp → List SV → Fr → Option Fr
 | [],[],F => some F
 | t :: ts,v :: vs,F => putPs ts vs (F.set t (some v))
 | _,_,_ => none
noncomputable def yldI (run:RunF α):YldF α :=
 fun t args H K =>
   match H[t]? with
   | some (.lp fid path F .ready) => match codeIn E.P fid path with
     | some (.rangeFunc _ ps a c) => bindO (putPs ps.toList args F) fun F =>
       run fid (false :: path) H.length a ⟨F, H⟩ fun e S => match e with
         | .normal => match S.H[t]? with
           | some (.lp f p F1 .ready) => run fid (true :: path) H.length c ⟨S.F, S.H.set t (.lp f p F1 .busy)⟩ fun e S => match S.H[t]? with
             | some (.lp f p F1 .busy) => match e with
               | .normal => gcRet H.length (.bool true) (S.H.set t (.lp f p F1 .ready)) K
               | e => gcRet H.length (.bool false) (S.H.set t (.lp f p F1 (.done e))) K
             | _ => none
           | _ => none
         | _ => none
     | _ => none
   | _ => none
def cleanL (fid:FuncId) (path:List Bool) (base:Nat) (S:St) (K:St → Option α):Option α :=
 gcSt base ⟨junked (junkAt E.junk fid path).1 S.F,S.H⟩ K
def cleanX (fid:FuncId) (path:List Bool) (base:Nat) (S:St) (K:St → Option α):Option α :=
 gcSt base ⟨junked (junkAt E.junk fid path).2 S.F,S.H⟩ K
noncomputable def loopStep (run:RunF α) (fid:FuncId) (path:List Bool) (base:Nat) (c:Code) (S:St) (K:Ex → St → Option α):Option α :=
 run fid (false :: path) base c S fun e S' => match e with
   | .normal => cleanL E fid path base S' fun S' => K .normal S'
   | .exit id => cleanX E fid path base S' fun S' => K (.exit id) S'
   | .ret => cleanX E fid path base S' fun S' => K .ret S'
def anyNil:Hp → Bool
 | [] => false
 | .cells l _ :: H => hasNil l || anyNil H
 | _ :: H => anyNil H
def nilObj (i:Nat) (H:Hp):Hp :=
 match H[i]? with
 | some (.cells l T) => if hasNil l then match E.nts T with
     | some ts => H.set i (.cells (nilz E ts l H.length).1 T) ++ (nilz E ts l H.length).2
     | none => H
   else H
 | _ => H
def nilGo:Nat → Nat → Hp → Hp
 | 0,_,H => H
 | n + 1,i,H => nilGo n (i + 1) (nilObj E i H)
def nilSt (S:St) (K:St → Option α):Option α := if anyNil S.H then K ⟨S.F,nilGo E S.H.length 0 S.H⟩ else K S
noncomputable def loopAt (lps:LookL α) (run:RunF α) (fid:FuncId) (path:List Bool) (base:Nat) (c:Code) (S:St) (K:Ex → St → Option α):Option α :=
 match lps fid path base S with
 | some l => l K
 | none => if memN fid E.unrl then iterU (loopStep E run fid path base c) 8 S K else iter (loopStep E run fid path base c) E.L S K
noncomputable def exec (look:LookF α) (lps:LookL α):Nat → RunF α
 | 0,_,_,_,_,_,_ => none
 | n + 1,fid,path,base,c,S,K =>
   match c with
   | .skip => K .normal S
   | .label _ => K .normal S
   | .ret => K .ret S
   | .exit id => K (.exit id) S
   | .seq a b => exec look lps n fid (false :: path) base a S fun e S' => match e with
     | .normal => exec look lps n fid (true :: path) base b S' K
     | .exit id => K (.exit id) S'
     | .ret => K .ret S'
   | .cond c a b => match opd S.F c with
     | some (.bool t) =>
       if t then exec look lps n fid (false :: path) base a (setOpd c true S) K else exec look lps n fid (true :: path) base b (setOpd c false S) K
     | _ => none
   | .block id c => exec look lps n fid (false :: path) base c S fun e S' => match e with
     | .exit id' => if Nat.beq id' id then K .normal S' else K (.exit id') S'
     | .normal => K .normal S'
     | .ret => K .ret S'
   | .scope c => exec look lps n fid (false :: path) base c S K
   | .loop c => cleanL E fid path base S fun S => loopAt E lps (exec look lps n) fid path base c S K
   | .rangeFunc g _ _ _ => if inRnd E.P fid path then none else cleanL E fid path base S fun S => match opd S.F g with
     | some (.fn f [] lb) => if callable E.P f then callI E look (exec look lps n) f (.yld S.H.length :: lb) (S.H ++ [.lp fid path S.F .ready]) fun _ H => match H[S.H.length]? with
       | some (.lp _ _ _ .ready) => gcSt base ⟨S.F,H.set S.H.length .dead⟩ (K .normal)
       | some (.lp _ _ _ (.done .ret)) => gcSt base ⟨S.F,H.set S.H.length .dead⟩ (K .ret)
       | some (.lp _ _ _ (.done (.exit id))) => gcSt base ⟨S.F,H.set S.H.length .dead⟩ (K (.exit id))
       | _ => none
       else none
     | _ => none
   | .region _ ops draw => if draw then
       if E.P.follows .mixedOrders then
         drawL E (callI E look (exec look lps n)) (yldI E (exec look lps n)) (fun g k => (look g).isNone && pureFn E g k) ops S.H.length (S.H.length + slotsOf E.wide ops.toList * ops.size) (slotsOf E.wide ops.toList) 0 ops.toList ⟨S.F,S.H ++ List.replicate (slotsOf E.wide ops.toList * ops.size) .dead⟩ [] fun S' recs =>
           if drawOk ops S.H.length (slotsOf E.wide ops.toList) recs.reverse then gcSt base S' fun S' => nilSt E S' fun S' => K .normal S' else none
       else none
     else opsL E (callI E look (exec look lps n)) (yldI E (exec look lps n)) ops ops.toList S fun S' => K .normal S'
   | _ => none
end
def gAd (σ:List Nat) (n t:Nat):Nat := if Nat.blt t σ.length then σ.getD t 0 else n + (t - σ.length)
def setAll:Hp → List Nat → Hp → Hp
 | H,s :: σ,o :: os => setAll (H.set s o) σ os
 | H,_,_ => H
def backH (σ:List Nat) (H H0:Hp):Hp := setAll H σ ((H0.take σ.length).map (SObj.ren (gAd σ H.length))) ++ (H0.drop σ.length).map (SObj.ren (gAd σ H.length))
def adaptK {α:Type} (σ:List Nat) (H:Hp) (K:SV → Hp → Option α) (v0:SV) (H0:Hp):Option α := K (v0.ren (gAd σ H.length)) (backH σ H H0)
end
end Go.Proofs.YtfkgmidgdpfnkaaGreat.Sx
