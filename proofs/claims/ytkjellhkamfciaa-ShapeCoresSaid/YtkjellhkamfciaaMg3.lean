/- Texts of the walk, merged. -/
import Derived.Test.YtkjellhkamfciaaMg2
section
/- SX: loops and functions that are known, by what they read and what they leave. -/
namespace Go.Proofs.Ytkjellhkamfciaa.Sx
open Go Go.RowKit
set_option linter.unusedVariables false
set_option linter.unusedSimpArgs false

/-- The table of the lengths of bytes. -/
def len8 : ByteArray := ⟨((List.range 256).map fun i => UInt8.ofNat (if i = 0 then 0 else Nat.log2 i + 1)).toArray⟩
/-- What a symbolic value holds beside its form. -/
inductive D where
  | i (n : Int) | b (b : Bool) | n (n : Nat) | v (v : Value) | l (κ : K) (xs : List κ.T)

/-- Raw values that belong to the form. -/
def rawCls : Value → Option Nat
  | .tuple ⟨[]⟩ => some 0
  | .slice none 0 0 => some 1
  | .pointer none => some 2
  | _ => none
theorem rawCls_eq {v w : Value} {n : Nat} (h : rawCls v = some n) (h' : rawCls w = some n) : v = w := by
  unfold rawCls at h h'
  split at h <;> split at h' <;> simp_all <;> (subst h; simp at h')

mutual
def same (x y : SV) : Bool :=
  match x with
  | .int k _ => match y with | .int k' _ => decide (k = k') | _ => false
  | .bool _ => match y with | .bool _ => true | _ => false
  | .ptr t o => match y with | .ptr t' o' => Nat.beq t t' && Nat.beq o o' | _ => false
  | .aix t o κ _ m => match y with | .aix t' o' κ' _ m' => Nat.beq t t' && Nat.beq o o' && decide (κ = κ') && Nat.beq m m' | _ => false
  | .pix t κ _ o => match y with | .pix t' κ' _ o' => Nat.beq t t' && Nat.beq o o' && decide (κ = κ') | _ => false
  | .rix _ κ _ _ o => match y with | .rix _ κ' _ _ o' => Nat.beq o o' && decide (κ = κ') | _ => false
  | .sl t => match y with | .sl t' => Nat.beq t t' | _ => false
  | .sub t κ _ _ => match y with | .sub t' κ' _ _ => Nat.beq t t' && decide (κ = κ') | _ => false
  | .ros _ κ _ => match y with | .ros _ κ' _ => decide (κ = κ') | _ => false
  | .fn f a b => match y with | .fn f' a' b' => Nat.beq f f' && sameL a a' && sameL b b' | _ => false
  | .raw v => match y with
    | .raw w => match rawCls v with
      | some a => match rawCls w with | some b => Nat.beq a b | none => false
      | none => match rawCls w with | some _ => false | none => true
    | _ => false
  | .arr κ _ n => match y with | .arr κ' _ n' => decide (κ = κ') && Nat.beq n n' | _ => false
  | .agg l => match y with | .agg l' => sameL l l' | _ => false
  | .tup l => match y with | .tup l' => sameL l l' | _ => false
def sameL (x y : List SV) : Bool :=
  match x with
  | [] => match y with | [] => true | _ => false
  | a :: l => match y with | a' :: l' => same a a' && sameL l l' | _ => false
end
mutual
def dat : SV → List D
  | .int _ n => [.i n]
  | .bool b => [.b b]
  | .ptr _ _ => []
  | .aix _ _ _ i _ => [.n i]
  | .pix _ _ i _ => [.n i]
  | .rix v κ xs i _ => [.v v, .l κ xs, .n i]
  | .sl _ => []
  | .sub _ _ a b => [.n a, .n b]
  | .ros v κ xs => [.v v, .l κ xs]
  | .fn _ a b => datL a ++ datL b
  | .raw v => match rawCls v with | some _ => [] | none => [.v v]
  | .arr κ xs _ => [.l κ xs]
  | .agg l => datL l
  | .tup l => datL l
def datL : List SV → List D
  | [] => []
  | x :: l => dat x ++ datL l
end
mutual
def fill (t : SV) (ds : List D) : Option (SV × List D) :=
  match t with
  | .int k _ => match ds with | .i n :: ds => some (.int k n, ds) | _ => none
  | .bool _ => match ds with | .b b :: ds => some (.bool b, ds) | _ => none
  | .ptr t o => some (.ptr t o, ds)
  | .aix t o κ _ m => match ds with | .n i :: ds => some (.aix t o κ i m, ds) | _ => none
  | .pix t κ _ o => match ds with | .n i :: ds => some (.pix t κ i o, ds) | _ => none
  | .rix _ κ _ _ o => match ds with | .v v :: .l κ' xs :: .n i :: ds => if h : κ' = κ then some (.rix v κ (h ▸ xs) i o, ds) else none | _ => none
  | .sl t => some (.sl t, ds)
  | .sub t κ _ _ => match ds with | .n a :: .n b :: ds => some (.sub t κ a b, ds) | _ => none
  | .ros _ κ _ => match ds with | .v v :: .l κ' xs :: ds => if h : κ' = κ then some (.ros v κ (h ▸ xs), ds) else none | _ => none
  | .fn f a b => match fillL a ds with
    | some (a, ds) => match fillL b ds with
      | some (b, ds) => some (.fn f a b, ds)
      | none => none
    | none => none
  | .raw v => match rawCls v with
    | some _ => some (.raw v, ds)
    | none => match ds with | .v u :: ds => some (.raw u, ds) | _ => none
  | .arr κ _ n => match ds with | .l κ' xs :: ds => if h : κ' = κ then some (.arr κ (h ▸ xs) n, ds) else none | _ => none
  | .agg l => match fillL l ds with | some (l, ds) => some (.agg l, ds) | none => none
  | .tup l => match fillL l ds with | some (l, ds) => some (.tup l, ds) | none => none
def fillL (t : List SV) (ds : List D) : Option (List SV × List D) :=
  match t with
  | [] => some ([], ds)
  | x :: l => match fill x ds with
    | some (x, ds) => match fillL l ds with
      | some (l, ds) => some (x :: l, ds)
      | none => none
    | none => none
end

mutual
theorem fill_same : ∀ (x t : SV) (r : List D), same x t = true → fill t (dat x ++ r) = some (x, r)
  | .int k n, t, r, h => by cases t <;> simp_all [same, fill, dat]
  | .bool b, t, r, h => by cases t <;> simp_all [same, fill, dat]
  | .ptr a o, t, r, h => by cases t <;> simp_all [same, fill, dat]
  | .aix a o κ i m, t, r, h => by cases t <;> simp_all [same, fill, dat]
  | .pix a κ i o, t, r, h => by cases t <;> simp_all [same, fill, dat]
  | .rix v κ xs i o, t, r, h => by
    cases t <;> simp [same] at h
    obtain ⟨rfl, rfl⟩ := h; simp [fill, dat]
  | .sl a, t, r, h => by cases t <;> simp_all [same, fill, dat]
  | .sub a κ i o, t, r, h => by cases t <;> simp_all [same, fill, dat]
  | .ros v κ xs, t, r, h => by
    cases t <;> simp [same] at h
    subst h; simp [fill, dat]
  | .fn f a b, t, r, h => by
    cases t <;> simp [same] at h
    obtain ⟨⟨rfl, h1⟩, h2⟩ := h
    simp [fill, dat, List.append_assoc, fillL_same a _ _ h1, fillL_same b _ _ h2]
  | .raw v, t, r, h => by
    cases t with
    | raw w =>
      simp only [same] at h
      cases hv : rawCls v with
      | none => cases hw : rawCls w with
        | none => simp [fill, dat, hv, hw]
        | some b => simp [hv, hw] at h
      | some a => cases hw : rawCls w with
        | none => simp [hv, hw] at h
        | some b =>
          simp [hv, hw] at h
          subst h
          simp [fill, dat, hv, hw, rawCls_eq hv hw]
    | _ => simp [same] at h
  | .arr κ xs n, t, r, h => by
    cases t <;> simp [same] at h
    obtain ⟨rfl, rfl⟩ := h; simp [fill, dat]
  | .agg l, t, r, h => by
    cases t <;> simp [same] at h
    simp [fill, dat, fillL_same l _ _ h]
  | .tup l, t, r, h => by
    cases t <;> simp [same] at h
    simp [fill, dat, fillL_same l _ _ h]
theorem fillL_same : ∀ (x t : List SV) (r : List D), sameL x t = true → fillL t (datL x ++ r) = some (x, r)
  | [], t, r, h => by cases t <;> simp_all [sameL, fillL, datL]
  | x :: l, t, r, h => by
    cases t <;> simp [sameL] at h
    simp [fillL, datL, List.append_assoc, fill_same x _ _ h.1, fillL_same l _ _ h.2]
end

def sameF (x y : Fr) : Bool :=
  match x with
  | [] => match y with | [] => true | _ => false
  | some a :: l => match y with | some a' :: l' => same a a' && sameF l l' | _ => false
  | none :: l => match y with | none :: l' => sameF l l' | _ => false
def datF : Fr → List D
  | [] => []
  | some a :: l => dat a ++ datF l
  | none :: l => datF l
def fillF (t : Fr) (ds : List D) : Option (Fr × List D) :=
  match t with
  | [] => some ([], ds)
  | some x :: l => match fill x ds with
    | some (x, ds) => match fillF l ds with
      | some (l, ds) => some (some x :: l, ds)
      | none => none
    | none => none
  | none :: l => match fillF l ds with
    | some (l, ds) => some (none :: l, ds)
    | none => none
theorem fillF_same : ∀ (x t : Fr) (r : List D), sameF x t = true → fillF t (datF x ++ r) = some (x, r)
  | [], t, r, h => by cases t <;> simp_all [sameF, fillF, datF]
  | some x :: l, t, r, h => by
    cases t with
    | nil => simp [sameF] at h
    | cons y t => cases y <;> simp [sameF] at h; simp [fillF, datF, List.append_assoc, fill_same x _ _ h.1, fillF_same l _ _ h.2]
  | none :: l, t, r, h => by
    cases t with
    | nil => simp [sameF] at h
    | cons y t => cases y <;> simp [sameF] at h; simp [fillF, datF, fillF_same l _ _ h]

def sameO (x y : SObj) : Bool :=
  match x with
  | .cells l T => match y with | .cells l' T' => Nat.beq T T' && sameL l l' | _ => false
  | .seq κ _ T => match y with | .seq κ' _ T' => Nat.beq T T' && decide (κ = κ') | _ => false
  | .dead => match y with | .dead => true | _ => false
def datO : SObj → List D
  | .cells l _ => datL l
  | .seq κ xs _ => [.l κ xs]
  | .dead => []
def fillO (t : SObj) (ds : List D) : Option (SObj × List D) :=
  match t with
  | .cells l T => match fillL l ds with | some (l, ds) => some (.cells l T, ds) | none => none
  | .seq κ _ T => match ds with | .l κ' xs :: ds => if h : κ' = κ then some (.seq κ (h ▸ xs) T, ds) else none | _ => none
  | .dead => some (.dead, ds)
theorem fillO_same (x t : SObj) (r : List D) (h : sameO x t = true) : fillO t (datO x ++ r) = some (x, r) := by
  cases x with
  | cells l T => cases t <;> simp [sameO] at h; obtain ⟨rfl, h⟩ := h; simp [fillO, datO, fillL_same l _ _ h]
  | seq κ xs T => cases t <;> simp [sameO] at h; obtain ⟨rfl, rfl⟩ := h; simp [fillO, datO]
  | dead => cases t <;> simp [sameO] at h; simp [fillO, datO]
def sameH (x y : Hp) : Bool :=
  match x with
  | [] => match y with | [] => true | _ => false
  | a :: l => match y with | a' :: l' => sameO a a' && sameH l l' | _ => false
def datH : Hp → List D
  | [] => []
  | a :: l => datO a ++ datH l
def fillH (t : Hp) (ds : List D) : Option (Hp × List D) :=
  match t with
  | [] => some ([], ds)
  | x :: l => match fillO x ds with
    | some (x, ds) => match fillH l ds with
      | some (l, ds) => some (x :: l, ds)
      | none => none
    | none => none
theorem fillH_same : ∀ (x t : Hp) (r : List D), sameH x t = true → fillH t (datH x ++ r) = some (x, r)
  | [], t, r, h => by cases t <;> simp_all [sameH, fillH, datH]
  | x :: l, t, r, h => by
    cases t <;> simp [sameH] at h
    simp [fillH, datH, List.append_assoc, fillO_same x _ _ h.1, fillH_same l _ _ h.2]
def fillS (t : St) (ds : List D) : Option St :=
  match fillF t.F ds with
  | some (F, ds) => match fillH t.H ds with
    | some (H, []) => some ⟨F, H⟩
    | _ => none
  | none => none
theorem fillS_same (x t : St) (h : (sameF x.F t.F && sameH x.H t.H) = true) : fillS t (datF x.F ++ datH x.H) = some x := by
  simp only [Bool.and_eq_true] at h
  have := fillH_same x.H t.H [] h.2
  rw [List.append_nil] at this
  simp [fillS, fillF_same x.F _ _ h.1, this]

/-! Reading the data. -/
section
variable {α : Type}
def dI (ds : List D) (k : Int → List D → Option α) : Option α := match ds with | .i n :: ds => k n ds | _ => none
def dB (ds : List D) (k : Bool → List D → Option α) : Option α := match ds with | .b n :: ds => k n ds | _ => none
def dN (ds : List D) (k : Nat → List D → Option α) : Option α := match ds with | .n n :: ds => k n ds | _ => none
def dV (ds : List D) (k : Value → List D → Option α) : Option α := match ds with | .v n :: ds => k n ds | _ => none
def dL (κ : K) (ds : List D) (k : List κ.T → List D → Option α) : Option α := match ds with | .l κ' xs :: ds => if h : κ' = κ then k (h ▸ xs) ds else none | _ => none
def dE (ds : List D) (k : Option α) : Option α := match ds with | [] => k | _ => none
theorem dI_inv {ds : List D} {k : Int → List D → Option α} {r : α} (h : dI ds k = some r) : ∃ n ds', ds = .i n :: ds' ∧ k n ds' = some r := by
  unfold dI at h; split at h
  · exact ⟨_, _, rfl, h⟩
  · cases h
theorem dB_inv {ds : List D} {k : Bool → List D → Option α} {r : α} (h : dB ds k = some r) : ∃ n ds', ds = .b n :: ds' ∧ k n ds' = some r := by
  unfold dB at h; split at h
  · exact ⟨_, _, rfl, h⟩
  · cases h
theorem dN_inv {ds : List D} {k : Nat → List D → Option α} {r : α} (h : dN ds k = some r) : ∃ n ds', ds = .n n :: ds' ∧ k n ds' = some r := by
  unfold dN at h; split at h
  · exact ⟨_, _, rfl, h⟩
  · cases h
theorem dV_inv {ds : List D} {k : Value → List D → Option α} {r : α} (h : dV ds k = some r) : ∃ n ds', ds = .v n :: ds' ∧ k n ds' = some r := by
  unfold dV at h; split at h
  · exact ⟨_, _, rfl, h⟩
  · cases h
theorem dL_inv {κ : K} {ds : List D} {k : List κ.T → List D → Option α} {r : α} (h : dL κ ds k = some r) : ∃ n ds', ds = .l κ n :: ds' ∧ k n ds' = some r := by
  unfold dL at h; split at h
  · split at h
    · rename_i he; subst he; exact ⟨_, _, rfl, h⟩
    · cases h
  · cases h
theorem dE_inv {ds : List D} {k : Option α} {r : α} (h : dE ds k = some r) : ds = [] ∧ k = some r := by
  unfold dE at h; split at h
  · exact ⟨rfl, h⟩
  · cases h

/-! Loops that are known. -/
def codeAt (P : Program) (fid : FuncId) (path : List Bool) : Code :=
  match P.funcs[fid]? with
  | some fn => match fn.body with
    | some b => match sub b path with
      | some (.loop c) => c
      | _ => .skip
    | none => .skip
  | none => .skip
theorem codeAt_eq {P : Program} {fid : FuncId} {path : List Bool} {c : Code} (h : Stands P fid path (.loop c)) : codeAt P fid path = c := by
  obtain ⟨fn, b, h1, h2, h3⟩ := h
  simp [codeAt, h1, h2, h3]

def LoopOk (P : Program) (fid : FuncId) (path : List Bool) (base : Nat) (l : St → Option ((Ex → St → Option α) → Option α)) : Prop :=
  ∀ c, Stands P fid path (.loop c) → ∀ S l', l S = some l' → ∀ K r, base ≤ S.H.length → l' K = some r → ∃ e S', K e S' = some r ∧ CodeGood P base (.loop c) S e S'
def noLps : LookL α := fun _ _ _ _ => none
/-- A loop may be known by several forms of its state. -/
def addLp (fid : FuncId) (path : List Bool) (base : Nat) (l : St → Option ((Ex → St → Option α) → Option α)) (lps : LookL α) : LookL α :=
  fun f p b S => if Nat.beq f fid && Nat.beq b base && p == path then (match l S with | some x => some x | none => lps f p b S) else lps f p b S
theorem noLps_ok (P : Program) : LoopsOk P (noLps (α := α)) := fun _ _ _ _ _ h => by cases h
theorem addLp_ok {P : Program} {fid : FuncId} {path : List Bool} {base : Nat} {l : St → Option ((Ex → St → Option α) → Option α)} {lps : LookL α} (h1 : LoopOk P fid path base l) (h2 : LoopsOk P lps) : LoopsOk P (addLp fid path base l lps) := by
  intro f p b S l' hl
  unfold addLp at hl
  split at hl
  · rename_i hc
    simp only [Bool.and_eq_true, Nat.beq_eq, beq_iff_eq] at hc
    obtain ⟨⟨rfl, rfl⟩, rfl⟩ := hc
    split at hl
    · rename_i x hx
      cases hl
      exact fun c hst => h1 c hst S _ hx
    · exact h2 _ _ _ _ l' hl
  · exact h2 f p b S l' hl

def iterK {σ : Type} (step : σ → (Ex → σ → Option α) → Option α) (n : Nat) (K : Ex → σ → Option α) (e : Ex) (S : σ) : Option α :=
  match e with
  | .normal => iter step n S K
  | .exit id => K (.exit id) S
  | .ret => K .ret S
theorem iter_succ {σ : Type} (step : σ → (Ex → σ → Option α) → Option α) (n : Nat) (S : σ) (K : Ex → σ → Option α) : iter step (n + 1) S K = step S (iterK step n K) := rfl
def lEnt (t : St) (go : List D → (Ex → St → Option α) → Option α) (S : St) : Option ((Ex → St → Option α) → Option α) :=
  if sameF S.F t.F && sameH S.H t.H then some (go (datF S.F ++ datH S.H)) else none
theorem lEnt_ok (E : Env) {run : RunF α} (hrun : RunOk E.P run) {fid : FuncId} {path : List Bool} {base : Nat} {t : St} {go : List D → (Ex → St → Option α) → Option α}
    (h : ∀ ds K r, go ds K = some r → ∀ S, fillS t ds = some S → ∃ L, iter (loopStep E run fid path base (codeAt E.P fid path)) L S K = some r) : LoopOk E.P fid path base (lEnt t go) := by
  intro c hst S l' h00 K r hb h0
  unfold lEnt at h00
  split at h00
  · rename_i hs
    cases h00
    obtain ⟨L, h1⟩ := h _ _ _ h0 S (fillS_same S t hs)
    rw [codeAt_eq hst] at h1
    exact loop_sound E hrun hst hb h1
  · cases h00

/-! Functions that are known. -/
inductive RL where
  | leaf (t : SV) | ro (κ : K)
inductive AS where
  | val (t : SV) | ptr (T : TypeId) (l : List SV) | sl (κ : K) (T : TypeId) | ro (κ : K) | st (l : List RL)

def noToks (l : List SV) : Bool := (SV.toksL l).isEmpty
mutual
/-- Plain values: numbers, flags, and structs and arrays of such. -/
def SV.plain : SV → Bool
  | .int _ _ => true
  | .bool _ => true
  | .arr _ _ _ => true
  | .agg l => SV.plainL l
  | _ => false
def SV.plainL : List SV → Bool
  | [] => true
  | x :: l => x.plain && SV.plainL l
end
mutual
theorem plain_spec : ∀ (v : SV), v.plain = true → v.toks = [] ∧ (∀ ρ ρ', den ρ v = den ρ' v) ∧ (∀ R w ρ n R' w' ρ' n', v.ok R w ρ n → v.ok R' w' ρ' n')
  | .int _ _, _ => by simp [SV.toks, den, SV.ok]
  | .bool _, _ => by simp [SV.toks, den, SV.ok]
  | .arr _ _ _, _ => by simp [SV.toks, den, SV.ok]
  | .agg l, h => by
    simp only [SV.plain] at h
    obtain ⟨h1, h2, h3⟩ := plainL_spec l h
    refine ⟨by simp [SV.toks, h1], fun ρ ρ' => by simp only [den]; rw [(h2 ρ ρ').1], fun R w ρ n R' w' ρ' n' hh => by simp only [SV.ok] at hh ⊢; exact h3 R w ρ n R' w' ρ' n' hh⟩
  | .ptr _ _, h => by simp [SV.plain] at h
  | .aix _ _ _ _ _, h => by simp [SV.plain] at h
  | .pix _ _ _ _, h => by simp [SV.plain] at h
  | .rix _ _ _ _ _, h => by simp [SV.plain] at h
  | .sl _, h => by simp [SV.plain] at h
  | .sub _ _ _ _, h => by simp [SV.plain] at h
  | .ros _ _ _, h => by simp [SV.plain] at h
  | .fn _ _ _, h => by simp [SV.plain] at h
  | .raw _, h => by simp [SV.plain] at h
  | .tup _, h => by simp [SV.plain] at h
theorem plainL_spec : ∀ (l : List SV), SV.plainL l = true → SV.toksL l = [] ∧ (∀ ρ ρ', denC ρ l = denC ρ' l ∧ denL ρ l = denL ρ' l) ∧ (∀ R w ρ n R' w' ρ' n', SV.okL R w ρ n l → SV.okL R' w' ρ' n' l)
  | [], _ => by simp [SV.toksL, denC, denL, SV.okL]
  | x :: l, h => by
    simp only [SV.plainL, Bool.and_eq_true] at h
    obtain ⟨a1, a2, a3⟩ := plain_spec x h.1
    obtain ⟨b1, b2, b3⟩ := plainL_spec l h.2
    refine ⟨by simp [SV.toksL, a1, b1], fun ρ ρ' => ?_, fun R w ρ n R' w' ρ' n' hh => by simp only [SV.okL] at hh ⊢; exact ⟨a3 R w ρ n R' w' ρ' n' hh.1, b3 R w ρ n R' w' ρ' n' hh.2⟩⟩
    have e : cell1 x (den ρ x) = cell1 x (den ρ' x) := by rw [a2 ρ ρ']
    simp only [denC, denL]
    rw [e, a2 ρ ρ', (b2 ρ ρ').1, (b2 ρ ρ').2]
    exact ⟨rfl, rfl⟩
end

/-- A slice that is read: its elements, and the block's token if it is one of its own. -/
def readRo (κ : K) (a : SV) (H : Hp) : Option (List Nat × List κ.T) :=
  match a with
  | .ros _ κ' xs => if h : κ' = κ then some ([], h ▸ xs) else none
  | .sl t => match H[t]? with
    | some (.seq κ' xs _) => if h : κ' = κ then some ([t], h ▸ xs) else none
    | _ => none
  | .sub t κ' lo n => if κ' = κ then (match H[t]? with
    | some (.seq κ' xs _) => if h : κ' = κ then some ([t], (((h ▸ xs) : List κ.T).drop lo).take n) else none
    | _ => none) else none
  | .raw (.slice none 0 0) => some ([], [])
  | _ => none
/-- A leaf of one cell. -/
def leaf1 (a : SV) : Bool :=
  match a with
  | .int _ _ => true
  | .bool _ => true
  | _ => false
/-- The leaves of a struct with slices that are only read. -/
def readRL (l : List RL) (as : List SV) (H : Hp) : Option (List Nat × List D) :=
  match l with
  | [] => match as with
    | [] => some ([], [])
    | _ => none
  | s :: ss => match as with
    | [] => none
    | a :: as => match readRL ss as H with
      | none => none
      | some (ex, ds) => match s with
        | .leaf t => if same a t && leaf1 a then some (ex, dat a ++ ds) else none
        | .ro κ => match readRo κ a H with
          | some (e, xs) => some (e ++ ex, .l κ xs :: ds)
          | none => none
def mkRL (l : List RL) (ds : List D) (cs : List Value) : Option (List SV × List D) :=
  match l with
  | [] => some ([], ds)
  | s :: ss => match s with
    | .leaf t => match fill t ds with
      | some (a, ds) => match mkRL ss ds cs.tail with
        | some (as, ds) => some (a :: as, ds)
        | none => none
      | none => none
    | .ro κ => match ds with
      | .l κ' xs :: ds => if h : κ' = κ then match mkRL ss ds cs.tail with
          | some (as, ds) => some (.ros (cs.headD undef) κ (h ▸ xs) :: as, ds)
          | none => none
        else none
      | _ => none
def cellsV (v : Value) : List Value :=
  match v with
  | .agg cs => cs.toList
  | _ => []
/-- Reads arguments: the tokens that are handed over, those that are only read, the small heap, the data. -/
def readA (spec : List AS) (args : List SV) (H : Hp) : Option (List Nat × List Nat × Hp × List D) :=
  match spec with
  | [] => match args with
    | [] => some ([], [], [], [])
    | _ => none
  | s :: ss => match args with
    | [] => none
    | a :: as => match readA ss as H with
      | none => none
      | some (σ, ex, Hin, ds) => match s with
        | .val t => if same a t && a.plain then some (σ, ex, Hin, dat a ++ ds) else none
        | .ptr T l => match a with
          | .ptr t o => match H[t]? with
            | some (.cells l' T') => if Nat.beq o 0 && Nat.beq T' T && sameL l' l && SV.plainL l' then some (t :: σ, ex, .cells l' T' :: Hin, datL l' ++ ds) else none
            | _ => none
          | _ => none
        | .sl κ T => match a with
          | .sl t => match H[t]? with
            | some (.seq κ' xs T') => if Nat.beq T' T && decide (κ' = κ) then some (t :: σ, ex, .seq κ' xs T' :: Hin, .l κ' xs :: ds) else none
            | _ => none
          | _ => none
        | .ro κ => match readRo κ a H with
          | some (e, xs) => some (σ, e ++ ex, Hin, .l κ xs :: ds)
          | none => none
        | .st l => match a with
          | .agg l' => match readRL l l' H with
            | some (e, d) => some (σ, e ++ ex, Hin, d ++ ds)
            | none => none
          | _ => none
/-- The arguments that a function's own run begins with. -/
def mkA (spec : List AS) (tk : Nat) (ds : List D) (vs : List Value) : Option (List SV × Hp) :=
  match spec with
  | [] => match ds with
    | [] => some ([], [])
    | _ => none
  | s :: ss => match s with
    | .val t => match fill t ds with
      | some (a, ds) => match mkA ss tk ds vs.tail with
        | some (as, Hin) => some (a :: as, Hin)
        | none => none
      | none => none
    | .ptr T l => match fillL l ds with
      | some (l, ds) => match mkA ss (tk + 1) ds vs.tail with
        | some (as, Hin) => some (.ptr tk 0 :: as, .cells l T :: Hin)
        | none => none
      | none => none
    | .sl κ T => match ds with
      | .l κ' xs :: ds => if h : κ' = κ then match mkA ss (tk + 1) ds vs.tail with
          | some (as, Hin) => some (.sl tk :: as, .seq κ (h ▸ xs) T :: Hin)
          | none => none
        else none
      | _ => none
    | .ro κ => match ds with
      | .l κ' xs :: ds => if h : κ' = κ then match mkA ss tk ds vs.tail with
          | some (as, Hin) => some (.ros (vs.headD undef) κ (h ▸ xs) :: as, Hin)
          | none => none
        else none
      | _ => none
    | .st l => match mkRL l ds (cellsV (vs.headD undef)) with
      | some (l0, ds) => match mkA ss tk ds vs.tail with
        | some (as, Hin) => some (.agg l0 :: as, Hin)
        | none => none
      | none => none

theorem seq_ros {ρ : Nat → Tk} {w : World} {t : Nat} {κ : K} {xs : List κ.T} {T : TypeId} {R : Nat → Prop} (h : ObjRel ρ w (ρ t) (.seq κ xs T)) (hR : ∀ b, (ρ t).hdr.ownBlock = some b → R b) : RosOk R w (ρ t).hdr κ xs := by
  rcases h.1.2 with ⟨e, e0⟩ | ⟨gb, cap, cur, e, _, hg2, hnc, _, _, htake⟩
  · have hl : xs.length = 0 := by
      have : (xs.flatMap κ.cells).length = 0 := by simp_all
      rw [cells_flat_length] at this
      rcases Nat.mul_eq_zero.1 this with h | h
      · exact h
      · have := K.sz_pos κ; omega
    exact .inl ⟨List.eq_nil_of_length_eq_zero hl, none, 0, e⟩
  · refine .inr ⟨_, cap, e, hnc, rfl, hR gb (by rw [e]; rfl), fun j c hj => ?_⟩
    rw [← htake, List.getElem?_take] at hj
    split at hj
    · rw [cell_of_row w _ _ _ _ _ hg2]; simpa using hj
    · cases hj

theorem readRo_spec {κ : K} {a : SV} {H : Hp} {e : List Nat} {xs : List κ.T} (h : readRo κ a H = some (e, xs)) :
    (∀ t ∈ e, t < H.length) ∧ ∀ (C : Cx) (ρ : Nat → Tk) (w : World) (R : Nat → Prop), Rel C ρ H w → a.ok C.R C.w1 ρ H.length → (∀ b, C.R b → R b) → (∀ t ∈ e, ∀ b, blkOf ρ H t = some b → R b) → RosOk R w (den ρ a) κ xs := by
  unfold readRo at h
  split at h
  · split at h
    · rename_i he; subst he; cases h
      refine ⟨by simp, fun C ρ w R hR hok h1 _ => ?_⟩
      simp only [SV.ok] at hok
      exact (hok.world (fun b hb => hR.roKeep b hb)).more h1
    · cases h
  · split at h
    · rename_i t _ κ' xs' T ht
      split at h
      · rename_i he; subst he; cases h
        refine ⟨by simp only [List.mem_singleton]; rintro _ rfl; exact (List.getElem?_eq_some_iff.1 ht).1, fun C ρ w R hR hok h1 h2 => ?_⟩
        exact seq_ros (hR.obj t _ ht) fun b hb => h2 t (by simp) b (by rw [blkOf_eq ht]; exact hb)
      · cases h
    · cases h
  · split at h
    · rename_i t κ' lo n hk
      split at h
      · rename_i κ2 xs' T ht
        split at h
        · rename_i he; subst he; cases h
          refine ⟨by simp only [List.mem_singleton]; rintro _ rfl; exact (List.getElem?_eq_some_iff.1 ht).1, fun C ρ w R hR hok h1 h2 => ?_⟩
          have hr := seq_ros (hR.obj t _ ht) fun b hb => h2 t (by simp) b (by rw [blkOf_eq ht]; exact hb)
          simp only [SV.ok] at hok
          obtain ⟨_, a, k, c, e1, hle⟩ := hok
          have hk3 : k = xs'.length := by
            rcases hr with ⟨e0, a2, c2, e2⟩ | ⟨ad, c2, e2, _⟩
            · rw [e2] at e1; cases e1; rw [e0]; rfl
            · rw [e2] at e1; cases e1; rfl
          simp only [den]
          rw [hk]
          exact ros_win hr (by omega)
        · cases h
      · cases h
    · cases h
  · cases h
    exact ⟨by simp, fun C ρ w R _ _ _ _ => .inl ⟨rfl, none, 0, rfl⟩⟩
  · cases h

theorem readRo_cell {κ : K} {a : SV} {H : Hp} {r : List Nat × List κ.T} (h : readRo κ a H = some r) (ρ : Nat → Tk) : denC ρ [a] = [den ρ a] := by
  unfold readRo at h
  split at h <;> first | rfl | cases h
theorem leaf1_cell {a : SV} (h : leaf1 a = true) (ρ : Nat → Tk) : denC ρ [a] = [den ρ a] := by
  cases a <;> first | rfl | (simp [leaf1] at h)
theorem readRL_spec {H : Hp} : ∀ (l : List RL) (as : List SV) (e : List Nat) (ds : List D), readRL l as H = some (e, ds) →
    ∀ (C : Cx) (ρ : Nat → Tk) (w : World) (R : Nat → Prop) (n : Nat) (ρ0 : Nat → Tk), Rel C ρ H w → SV.okL C.R C.w1 ρ H.length as → (∀ b, C.R b → R b) → (∀ t ∈ e, ∀ b, blkOf ρ H t = some b → R b) →
      ∀ r, ∃ l0, mkRL l (ds ++ r) (denC ρ as) = some (l0, r) ∧ denC ρ0 l0 = denC ρ as ∧ SV.okL R w ρ0 n l0
  | [], as, e, ds, h => by
    unfold readRL at h
    split at h
    · cases h
      exact fun C ρ w R n ρ0 _ _ _ _ r => ⟨[], by simp [mkRL], by simp [denC], by simp [SV.okL]⟩
    · cases h
  | s :: ss, [], e, ds, h => by simp [readRL] at h
  | s :: ss, a :: as, e, ds, h => by
    unfold readRL at h
    simp only at h
    split at h
    · cases h
    rename_i ex1 ds1 h1
    have ih := readRL_spec ss as ex1 ds1 h1
    cases s with
    | leaf t =>
      simp only at h
      split at h
      · rename_i hs
        simp only [Bool.and_eq_true] at hs
        cases h
        intro C ρ w R n ρ0 hR hok q1 q2 r
        simp only [SV.okL] at hok
        obtain ⟨l0, m1, m2, m3⟩ := ih C ρ w R n ρ0 hR hok.2 q1 q2 r
        have hpl : a.plain = true := by
          have := hs.2
          cases a <;> first | rfl | (simp [leaf1] at this)
        obtain ⟨p1, p2, p3⟩ := plain_spec a hpl
        refine ⟨a :: l0, ?_, ?_, ?_⟩
        · rw [denC_cons, leaf1_cell hs.2]
          simp only [mkRL, List.append_assoc, fill_same a t _ hs.1, List.singleton_append, List.tail_cons, m1]
        · rw [denC_cons, denC_cons ρ, m2, leaf1_cell hs.2, leaf1_cell hs.2, p2 ρ0 ρ]
        · simp only [SV.okL]; exact ⟨p3 _ _ _ _ _ _ _ _ hok.1, m3⟩
      · cases h
    | ro κ =>
      simp only at h
      split at h
      · rename_i e1 xs hro
        cases h
        intro C ρ w R n ρ0 hR hok q1 q2 r
        simp only [SV.okL] at hok
        obtain ⟨l0, m1, m2, m3⟩ := ih C ρ w R n ρ0 hR hok.2 q1 (fun t ht => q2 t (by simp [ht])) r
        obtain ⟨_, r2⟩ := readRo_spec hro
        refine ⟨.ros (den ρ a) κ xs :: l0, ?_, ?_, ?_⟩
        · rw [denC_cons, readRo_cell hro]
          simp only [mkRL, List.cons_append, List.nil_append, List.tail_cons, List.headD_cons, m1]
          simp
        · rw [denC_cons, denC_cons ρ, m2, readRo_cell hro]
          simp [denC, cell1, den]
        · simp only [SV.okL, SV.ok]; exact ⟨r2 C ρ w R hR hok.1 q1 (fun t ht => q2 t (by simp [ht])), m3⟩
      · cases h

theorem readA_spec {H : Hp} : ∀ (spec : List AS) (args : List SV) (σ ex : List Nat) (Hin : Hp) (ds : List D), readA spec args H = some (σ, ex, Hin, ds) →
    Hin.length = σ.length ∧ (∀ s ∈ σ, s < H.length) ∧ (∀ (i s : Nat) (o : SObj), σ[i]? = some s → Hin[i]? = some o → H[s]? = some o ∧ o.toks = []) ∧
    ∀ (C : Cx) (ρ : Nat → Tk) (w : World) (R : Nat → Prop) (tk n : Nat) (ρ0 : Nat → Tk), Rel C ρ H w → SV.okL C.R C.w1 ρ H.length args → (∀ b, C.R b → R b) → (∀ t ∈ ex, ∀ b, blkOf ρ H t = some b → R b) →
      (∀ i s, σ[i]? = some s → ρ0 (tk + i) = ρ s) → tk + σ.length ≤ n →
      ∃ args0, mkA spec tk ds (denL ρ args) = some (args0, Hin) ∧ denL ρ0 args0 = denL ρ args ∧ SV.okL R w ρ0 n args0
  | [], args, σ, ex, Hin, ds, h => by
    unfold readA at h
    split at h
    · cases h
      exact ⟨rfl, by simp, by simp, fun C ρ w R tk n ρ0 _ _ _ _ _ _ => ⟨[], by simp [mkA], by simp [denL], by simp [SV.okL]⟩⟩
    · cases h
  | s :: ss, [], σ, ex, Hin, ds, h => by simp [readA] at h
  | s :: ss, a :: as, σ, ex, Hin, ds, h => by
    unfold readA at h
    simp only at h
    split at h
    · cases h
    rename_i σ1 ex1 Hin1 ds1 h1
    obtain ⟨i1, i2, i3, i4⟩ := readA_spec ss as σ1 ex1 Hin1 ds1 h1
    cases s with
    | val t =>
      simp only at h
      split at h
      · rename_i hs
        simp only [Bool.and_eq_true] at hs
        cases h
        obtain ⟨p1, p2, p3⟩ := plain_spec a hs.2
        refine ⟨i1, i2, i3, fun C ρ w R tk n ρ0 hR hok h1 h2 h3 h4 => ?_⟩
        simp only [SV.okL] at hok
        obtain ⟨as0, m1, m2, m3⟩ := i4 C ρ w R tk n ρ0 hR hok.2 h1 h2 h3 h4
        refine ⟨a :: as0, ?_, ?_, ?_⟩
        · simp only [mkA, fill_same a t _ hs.1, denL, List.tail_cons, m1]
        · simp only [denL, m2, p2 ρ0 ρ]
        · simp only [SV.okL]; exact ⟨p3 _ _ _ _ _ _ _ _ hok.1, m3⟩
      · cases h
    | ptr T l =>
      simp only at h
      split at h
      · rename_i t o
        split at h
        · rename_i l' T' ht
          split at h
          · rename_i hs
            simp only [Bool.and_eq_true, Nat.beq_eq] at hs
            obtain ⟨⟨⟨rfl, rfl⟩, hs⟩, hp⟩ := hs
            cases h
            obtain ⟨p1, p2, p3⟩ := plainL_spec l' hp
            refine ⟨by simp [i1], ?_, ?_, fun C ρ w R tk n ρ0 hR hok h1 h2 h3 h4 => ?_⟩
            · intro s hs
              rcases List.mem_cons.1 hs with rfl | hs
              · exact (List.getElem?_eq_some_iff.1 ht).1
              · exact i2 s hs
            · intro i s o h1 h2
              cases i with
              | zero => simp at h1 h2; subst h1; subst h2; exact ⟨ht, by simp [SObj.toks, p1]⟩
              | succ i => simp at h1 h2; exact i3 i s o h1 h2
            · simp only [SV.okL] at hok
              obtain ⟨as0, m1, m2, m3⟩ := i4 C ρ w R (tk + 1) n ρ0 hR hok.2 h1 h2 (fun i s hi => by have := h3 (i + 1) s (by simpa using hi); rw [← this]; congr 1; omega) (by simp only [List.length_cons] at h4; omega)
              refine ⟨.ptr tk 0 :: as0, ?_, ?_, ?_⟩
              · simp only [mkA, fillL_same l' l _ hs, denL, List.tail_cons, m1]
              · simp only [denL, den, m2]; have := h3 0 t (by simp); rw [Nat.add_zero] at this; rw [this]
              · simp only [SV.okL, SV.ok]; exact ⟨by simp only [List.length_cons] at h4; omega, m3⟩
          · cases h
        · cases h
      · cases h
    | sl κ T =>
      simp only at h
      split at h
      · rename_i t
        split at h
        · rename_i κ' xs T' ht
          split at h
          · rename_i hs
            simp only [Bool.and_eq_true, Nat.beq_eq, decide_eq_true_eq] at hs
            obtain ⟨rfl, rfl⟩ := hs
            cases h
            refine ⟨by simp [i1], ?_, ?_, fun C ρ w R tk n ρ0 hR hok h1 h2 h3 h4 => ?_⟩
            · intro s hs
              rcases List.mem_cons.1 hs with rfl | hs
              · exact (List.getElem?_eq_some_iff.1 ht).1
              · exact i2 s hs
            · intro i s o h1 h2
              cases i with
              | zero => simp at h1 h2; subst h1; subst h2; exact ⟨ht, by simp [SObj.toks]⟩
              | succ i => simp at h1 h2; exact i3 i s o h1 h2
            · simp only [SV.okL] at hok
              obtain ⟨as0, m1, m2, m3⟩ := i4 C ρ w R (tk + 1) n ρ0 hR hok.2 h1 h2 (fun i s hi => by have := h3 (i + 1) s (by simpa using hi); rw [← this]; congr 1; omega) (by simp only [List.length_cons] at h4; omega)
              refine ⟨.sl tk :: as0, ?_, ?_, ?_⟩
              · simp only [mkA, denL, List.tail_cons, m1]; simp
              · simp only [denL, den, m2]; have := h3 0 t (by simp); rw [Nat.add_zero] at this; rw [this]
              · simp only [SV.okL, SV.ok]; exact ⟨by simp only [List.length_cons] at h4; omega, m3⟩
          · cases h
        · cases h
      · cases h
    | ro κ =>
      simp only at h
      split at h
      · rename_i e xs hro
        cases h
        obtain ⟨q1, q2⟩ := readRo_spec hro
        refine ⟨i1, i2, i3, fun C ρ w R tk n ρ0 hR hok h1 h2 h3 h4 => ?_⟩
        simp only [SV.okL] at hok
        obtain ⟨as0, m1, m2, m3⟩ := i4 C ρ w R tk n ρ0 hR hok.2 h1 (fun t ht => h2 t (by simp [ht])) h3 h4
        refine ⟨.ros (den ρ a) κ xs :: as0, ?_, ?_, ?_⟩
        · simp only [mkA, denL, List.tail_cons, m1]; simp
        · simp only [denL, den, m2]
        · simp only [SV.okL, SV.ok]; exact ⟨q2 C ρ w R hR hok.1 h1 (fun t ht => h2 t (by simp [ht])), m3⟩
      · cases h
    | st l =>
      simp only at h
      split at h
      · rename_i l'
        split at h
        · rename_i e d hrl
          cases h
          refine ⟨i1, i2, i3, fun C ρ w R tk n ρ0 hR hok h1 h2 h3 h4 => ?_⟩
          simp only [SV.okL, SV.ok] at hok
          obtain ⟨as0, m1, m2, m3⟩ := i4 C ρ w R tk n ρ0 hR hok.2 h1 (fun t ht => h2 t (by simp [ht])) h3 h4
          obtain ⟨l0, q1, q2, q3⟩ := readRL_spec l l' e d hrl C ρ w R n ρ0 hR hok.1 h1 (fun t ht => h2 t (by simp [ht])) ds1
          refine ⟨.agg l0 :: as0, ?_, ?_, ?_⟩
          · simp only [mkA, denL, den, cellsV, List.headD_cons, List.tail_cons, q1, m1]
          · simp only [denL, den, m2, q2]
          · simp only [SV.okL, SV.ok]; exact ⟨q3, m3⟩
        · cases h
      · cases h

def disjN : List Nat → List Nat → Bool
  | [], _ => true
  | x :: l, m => !memN x m && disjN l m
def allFree : Hp → Bool
  | [] => true
  | o :: l => o.free && allFree l
theorem disjN_spec : ∀ {l m : List Nat}, disjN l m = true → ∀ t ∈ l, t ∉ m
  | [], m, _, t, ht => by simp at ht
  | x :: l, m, h, t, ht => by
    simp only [disjN, Bool.and_eq_true, Bool.not_eq_true'] at h
    rcases List.mem_cons.1 ht with rfl | ht
    · exact fun hm => by have := (memN_iff (t := t) (l := m)).2 hm; rw [this] at h; exact absurd h.1 (by simp)
    · exact disjN_spec h.2 t ht
theorem allFree_spec : ∀ {H : Hp}, allFree H = true → ∀ o ∈ H, SObj.free o = true
  | [], _, o, ho => by simp at ho
  | x :: l, h, o, ho => by
    simp only [allFree, Bool.and_eq_true] at h
    rcases List.mem_cons.1 ho with rfl | ho
    · exact h.1
    · exact allFree_spec h.2 o ho

def fEnt (spec : List AS) (go : List D → (SV → Hp → Option α) → Option α) (args : List SV) (H : Hp) (K : SV → Hp → Option α) : Option α :=
  match readA spec args H with
  | some (σ, ex, Hin, ds) => if nodupN σ && disjN ex σ then go ds (fun v0 H0 => if ex.isEmpty || (v0.free && allFree H0) then adaptK σ H K v0 H0 else none) else none
  | none => none
def FnOk (P : Program) (f : FuncId) (c : List SV → Hp → (SV → Hp → Option α) → Option α) : Prop :=
  ∀ args H K r, c args H K = some r → ∃ v H', K v H' = some r ∧ Sound P f args H v H'
def noFns : LookF α := fun _ => none
def addFn (f : FuncId) (c : List SV → Hp → (SV → Hp → Option α) → Option α) (look : LookF α) : LookF α := fun g => if Nat.beq g f then some c else look g
theorem noFns_ok (P : Program) : LookOk P (noFns (α := α)) := fun _ _ _ _ _ _ h => by cases h
theorem addFn_ok {P : Program} {f : FuncId} {c : List SV → Hp → (SV → Hp → Option α) → Option α} {look : LookF α} (h1 : FnOk P f c) (h2 : LookOk P look) : LookOk P (addFn f c look) := by
  intro g c' args H K r hl h
  unfold addFn at hl
  split at hl
  · rename_i hc
    have := Nat.eq_of_beq_eq_true hc
    subst this
    cases hl
    exact h1 args H K r h
  · exact h2 g c' args H K r hl h

theorem fEnt_main {P : Program} {f : FuncId} {spec : List AS} {go : List D → (SV → Hp → Option α) → Option α}
    (h : ∀ ds K r, go ds K = some r → ∃ v0 H0, K v0 H0 = some r ∧ ∀ vs args0 Hin, mkA spec 0 ds vs = some (args0, Hin) → Sound P f args0 Hin v0 H0) : FnOk P f (fEnt spec go) := by
  intro args H K r h0
  unfold fEnt at h0
  split at h0
  · rename_i σ ex Hin ds hrd
    split at h0
    · rename_i hc
      simp only [Bool.and_eq_true] at hc
      obtain ⟨v0, H0, h1, h2⟩ := h _ _ _ h0
      split at h1
      · rename_i hf
        obtain ⟨i1, i2, i3, i4⟩ := readA_spec spec args σ ex Hin ds hrd
        refine ⟨_, _, h1, Sound.adapt σ ex (nodupN_spec hc.1) i2 (disjN_spec hc.2) i1 i3 ?_ ?_⟩
        · rcases Bool.or_eq_true _ _ ▸ hf with hf | hf
          · exact .inl (by simpa using hf)
          · simp only [Bool.and_eq_true] at hf
            exact .inr ⟨hf.1, allFree_spec hf.2⟩
        · intro C ρ w hR hok ρ0 hρ0
          obtain ⟨args0, m1, m2, m3⟩ := i4 C ρ w (C.call ρ H σ ex w).R 0 Hin.length ρ0 hR hok (fun b hb => .inl hb) (fun t ht b hb => .inr ⟨t, ht, hb⟩) (fun i s hi => by rw [Nat.zero_add]; exact hρ0 i s hi) (by omega)
          exact ⟨args0, m2, m3, h2 _ _ _ m1⟩
      · cases h1
    · cases h0
  · cases h0

/-- A function without slices that are only read. -/
theorem fEnt_ok (E : Env) {look : LookF α} {run : RunF α} (hlook : LookOk E.P look) (hrun : RunOk E.P run) {f : FuncId} {spec : List AS} {go : List D → (SV → Hp → Option α) → Option α}
    (h : ∀ ds K r, go ds K = some r → ∃ args0 Hin, (∀ vs, mkA spec 0 ds vs = some (args0, Hin)) ∧ callI E look run f args0 Hin K = some r) : FnOk E.P f (fEnt spec go) :=
  fEnt_main fun ds K r h0 => by
    obtain ⟨args0, Hin, h1, h2⟩ := h ds K r h0
    obtain ⟨v0, H0, h3, h4⟩ := callI_sound E hlook hrun f args0 Hin K r h2
    refine ⟨v0, H0, h3, fun vs a1 H1 hm => ?_⟩
    rw [h1 vs] at hm
    cases hm
    exact h4
/-- A function with slices that are only read. -/
theorem fEntR_ok (E : Env) {look : LookF (SV × Hp)} {run : RunF (SV × Hp)} (hlook : LookOk E.P look) (hrun : RunOk E.P run) {f : FuncId} {spec : List AS} {go : List D → (SV → Hp → Option α) → Option α}
    (h : ∀ ds K r, go ds K = some r → ∃ v0 H0, K v0 H0 = some r ∧ ∀ vs, ∃ args0 Hin, mkA spec 0 ds vs = some (args0, Hin) ∧ callI E look run f args0 Hin (fun v H => some (v, H)) = some (v0, H0)) : FnOk E.P f (fEnt spec go) :=
  fEnt_main fun ds K r h0 => by
    obtain ⟨v0, H0, h1, h2⟩ := h ds K r h0
    refine ⟨v0, H0, h1, fun vs a1 H1 hm => ?_⟩
    obtain ⟨args0, Hin, h3, h4⟩ := h2 vs
    rw [h3] at hm
    cases hm
    obtain ⟨v1, H1, h5, h6⟩ := callI_sound E hlook hrun f _ _ _ _ h4
    cases h5
    exact h6
end
end Go.Proofs.Ytkjellhkamfciaa.Sx
end
