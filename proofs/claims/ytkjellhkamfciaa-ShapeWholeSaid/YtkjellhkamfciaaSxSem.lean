/- SX: what symbolic values and heaps mean. -/
import Derived.Test.YtkjellhkamfciaaSxDef
namespace Go.Proofs.Ytkjellhkamfciaa.Sx
open Go

def LK.cell : (k : LK) → k.T → Value
  | .i k, n => .int k n
  | .b, x => .bool x
def RT.cells : (k : LK) → (ks : List LK) → RT k ks → List Value
  | k, [], x => [k.cell x]
  | k, k' :: ks, x => k.cell x.1 :: RT.cells k' ks x.2
def K.cells : (κ : K) → κ.T → List Value
  | .int k, n => [.int k n]
  | .bool, b => [.bool b]
  | .v3, p => [.int .i64 p.X, .int .i64 p.Y, .int .i64 p.Z]
  | .st k ks, x => RT.cells k ks x
theorem RT.cells_length : ∀ (k : LK) (ks : List LK) (x : RT k ks), (RT.cells k ks x).length = ks.length + 1
  | _, [], _ => rfl
  | k, k' :: ks, x => by show (RT.cells k' ks x.2).length + 1 = _; rw [RT.cells_length k' ks x.2]; rfl

structure Tk where
  blk : Nat
  hdr : Value

def rixAddr (v : Value) (n : Nat) : Value :=
  match v with
  | .slice (some a) _ _ => .pointer (some ⟨a.block, a.off + n, none⟩)
  | _ => .pointer none

def cell1 (x : SV) (v : Value) : List Value :=
  match x with
  | .arr κ xs _ => xs.flatMap κ.cells
  | _ => [v]
mutual
def den (ρ : Nat → Tk) : SV → Value
  | .int k n => .int k n
  | .bool b => .bool b
  | .ptr t off => .pointer (some ⟨(ρ t).blk, off, none⟩)
  | .aix t off κ i _ => .pointer (some ⟨(ρ t).blk, off + i * κ.sz, none⟩)
  | .pix t κ i off => .pointer (some ⟨(ρ t).blk, i * κ.sz + off, none⟩)
  | .rix v κ _ i off => rixAddr v (i * κ.sz + off)
  | .sl t => (ρ t).hdr
  | .sub t κ lo n => winV (ρ t).hdr κ.sz lo n
  | .ros v _ _ => v
  | .fn f a b => .func (.func f) (denL ρ a).toArray (denL ρ b).toArray
  | .raw v => v
  | .arr κ xs _ => .agg (xs.flatMap κ.cells).toArray
  | .agg l => .agg (denC ρ l).toArray
  | .tup l => .tuple (denL ρ l).toArray
def denL (ρ : Nat → Tk) : List SV → List Value
  | [] => []
  | x :: l => den ρ x :: denL ρ l
/-- The cells of leaves. -/
def denC (ρ : Nat → Tk) : List SV → List Value
  | [] => []
  | x :: l => cell1 x (den ρ x) ++ denC ρ l
end

theorem K.cells_length (κ : K) (x : κ.T) : (κ.cells x).length = κ.sz := by
  cases κ with
  | st k ks => exact RT.cells_length k ks x
  | _ => rfl
theorem K.sz_pos (κ : K) : 0 < κ.sz := by cases κ <;> simp [K.sz]
theorem cells_flat_length (κ : K) (xs : List κ.T) : (xs.flatMap κ.cells).length = xs.length * κ.sz := by
  induction xs with
  | nil => simp
  | cons x l ih => simp [ih, K.cells_length, Nat.add_mul]; omega
theorem denC_cons (ρ : Nat → Tk) (x : SV) (l : List SV) : denC ρ (x :: l) = denC ρ [x] ++ denC ρ l := by simp [denC]
theorem denC_append (ρ : Nat → Tk) (l m : List SV) : denC ρ (l ++ m) = denC ρ l ++ denC ρ m := by
  induction l with
  | nil => simp [denC]
  | cons x l ih => rw [List.cons_append, denC_cons, ih, denC_cons ρ x l, List.append_assoc]
theorem LK.denC_enc (ρ : Nat → Tk) (k : LK) (x : k.T) : denC ρ [k.enc x] = [k.cell x] := by cases k <;> rfl
theorem RT.denC_enc (ρ : Nat → Tk) : ∀ (k : LK) (ks : List LK) (x : RT k ks), denC ρ (RT.enc k ks x) = RT.cells k ks x
  | k, [], x => LK.denC_enc ρ k x
  | k, k' :: ks, x => by
    show denC ρ (k.enc x.1 :: RT.enc k' ks x.2) = k.cell x.1 :: RT.cells k' ks x.2
    rw [denC_cons, LK.denC_enc, RT.denC_enc ρ k' ks x.2]; rfl
theorem denC_enc (ρ : Nat → Tk) (κ : K) (x : κ.T) : denC ρ (κ.enc x) = κ.cells x := by
  cases κ with
  | st k ks => exact RT.denC_enc ρ k ks x
  | _ => simp [K.enc, K.cells, denC, den, cell1]
theorem LK.dec_cell (ρ : Nat → Tk) (k : LK) (s : SV) (x : k.T) (h : k.dec s = some x) : denC ρ [s] = [k.cell x] := by
  unfold LK.dec at h
  split at h
  · split at h
    · rename_i he; cases h; subst he; simp [denC, den, LK.cell, cell1]
    · cases h
  · cases h; simp [denC, den, LK.cell, cell1]
  · cases h
theorem RT.dec_cells (ρ : Nat → Tk) : ∀ (k : LK) (ks : List LK) (l : List SV) (x : RT k ks), RT.dec k ks l = some x → denC ρ l = RT.cells k ks x
  | k, [], [s], x, h => LK.dec_cell ρ k s x h
  | k, k' :: ks, s :: l, x, h => by
    unfold RT.dec at h
    split at h
    · rename_i a b h1 h2
      cases h
      rw [denC_cons, LK.dec_cell ρ k s a h1, RT.dec_cells ρ k' ks l b h2]
      rfl
    · cases h
  | k, [], [], x, h => by simp [RT.dec] at h
  | k, [], _ :: _ :: _, x, h => by simp [RT.dec] at h
  | k, _ :: _, [], x, h => by simp [RT.dec] at h
theorem dec_cells (ρ : Nat → Tk) (κ : K) (l : List SV) (x : κ.T) (h : κ.dec l = some x) : denC ρ l = κ.cells x := by
  unfold K.dec at h
  split at h
  · split at h
    · rename_i he; cases h; subst he; simp [denC, den, K.cells, cell1]
    · cases h
  · cases h; simp [denC, den, K.cells, cell1]
  · cases h; simp [denC, den, K.cells, cell1]
  · exact RT.dec_cells ρ _ _ _ _ h
  · cases h

/-- A slice that is only read: what it reads as in the memory of 'w'. -/
def RosOk (R : Nat → Prop) (w : World) (v : Value) (κ : K) (xs : List κ.T) : Prop :=
  (xs = [] ∧ ∃ a cap, v = .slice a 0 cap) ∨
  ∃ ad cap, v = .slice (some ad) xs.length cap ∧ xs.length ≤ cap ∧ ad.spot = none ∧ R ad.block ∧ ∀ j c, (xs.flatMap κ.cells)[j]? = some c → w.cell? ⟨ad.block, ad.off + j, none⟩ = some c

mutual
def SV.ok (R : Nat → Prop) (w : World) (ρ : Nat → Tk) (n : Nat) : SV → Prop
  | .ptr t _ => t < n
  | .aix t _ _ i m => t < n ∧ i < m
  | .pix t _ i _ => t < n ∧ ∃ a m c, (ρ t).hdr = .slice a m c ∧ i < m
  | .sl t => t < n
  | .sub t _ lo m => t < n ∧ ∃ a k c, (ρ t).hdr = .slice a k c ∧ lo + m ≤ k
  | .rix v κ xs i _ => RosOk R w v κ xs ∧ i < xs.length
  | .ros v κ xs => RosOk R w v κ xs
  | .fn _ a b => SV.okL R w ρ n a ∧ SV.okL R w ρ n b
  | .raw v => ∀ cs, v ≠ .agg cs
  | .arr _ xs m => xs.length = m
  | .agg l => SV.okL R w ρ n l
  | .tup l => SV.okL R w ρ n l
  | .int _ _ => True
  | .bool _ => True
def SV.okL (R : Nat → Prop) (w : World) (ρ : Nat → Tk) (n : Nat) : List SV → Prop
  | [] => True
  | x :: l => SV.ok R w ρ n x ∧ SV.okL R w ρ n l
end

theorem okL_iff {R : Nat → Prop} {w : World} {ρ : Nat → Tk} {n : Nat} : ∀ {l : List SV}, SV.okL R w ρ n l ↔ ∀ x ∈ l, x.ok R w ρ n
  | [] => by simp [SV.okL]
  | x :: l => by simp [SV.okL, okL_iff (l := l)]
theorem okL_append {R : Nat → Prop} {w : World} {ρ : Nat → Tk} {n : Nat} {l m : List SV} : SV.okL R w ρ n (l ++ m) ↔ SV.okL R w ρ n l ∧ SV.okL R w ρ n m := by
  simp only [okL_iff, List.mem_append]
  constructor
  · exact fun h => ⟨fun x hx => h x (.inl hx), fun x hx => h x (.inr hx)⟩
  · rintro ⟨h1, h2⟩ x (hx | hx)
    · exact h1 x hx
    · exact h2 x hx
mutual
theorem ok_mono {R : Nat → Prop} {w : World} {ρ : Nat → Tk} {n m : Nat} (h : n ≤ m) : ∀ (v : SV), v.ok R w ρ n → v.ok R w ρ m
  | .ptr _ _, hv => by simp only [SV.ok] at hv ⊢; omega
  | .aix _ _ _ _ _, hv => by simp only [SV.ok] at hv ⊢; exact ⟨by omega, hv.2⟩
  | .pix _ _ _ _, hv => by simp only [SV.ok] at hv ⊢; exact ⟨by omega, hv.2⟩
  | .sl _, hv => by simp only [SV.ok] at hv ⊢; omega
  | .sub _ _ _ _, hv => by simp only [SV.ok] at hv ⊢; exact ⟨by omega, hv.2⟩
  | .rix _ _ _ _ _, hv => by simp only [SV.ok] at hv ⊢; exact hv
  | .ros _ _ _, hv => by simp only [SV.ok] at hv ⊢; exact hv
  | .fn _ a b, hv => by simp only [SV.ok] at hv ⊢; exact ⟨okL_mono h a hv.1, okL_mono h b hv.2⟩
  | .raw _, hv => by simp only [SV.ok] at hv ⊢; exact hv
  | .arr _ _ _, hv => by simp only [SV.ok] at hv ⊢; exact hv
  | .agg l, hv => by simp only [SV.ok] at hv ⊢; exact okL_mono h l hv
  | .tup l, hv => by simp only [SV.ok] at hv ⊢; exact okL_mono h l hv
  | .int _ _, _ => by simp only [SV.ok]
  | .bool _, _ => by simp only [SV.ok]
theorem okL_mono {R : Nat → Prop} {w : World} {ρ : Nat → Tk} {n m : Nat} (h : n ≤ m) : ∀ (l : List SV), SV.okL R w ρ n l → SV.okL R w ρ m l
  | [], _ => by simp only [SV.okL]
  | x :: l, hv => by simp only [SV.okL] at hv ⊢; exact ⟨ok_mono h x hv.1, okL_mono h l hv.2⟩
end
theorem RT.enc_ok (R : Nat → Prop) (w : World) (ρ : Nat → Tk) (n : Nat) : ∀ (k : LK) (ks : List LK) (x : RT k ks), SV.okL R w ρ n (RT.enc k ks x)
  | k, [], x => by
    show SV.okL R w ρ n [k.enc x]
    cases k <;> simp [LK.enc, SV.okL, SV.ok]
  | k, k' :: ks, x => by
    show SV.okL R w ρ n (k.enc x.1 :: RT.enc k' ks x.2)
    refine ⟨?_, RT.enc_ok R w ρ n k' ks x.2⟩
    cases k <;> simp [LK.enc, SV.ok]
theorem RT.enc_leaves : ∀ (k : LK) (ks : List LK) (x : RT k ks), leavesB (RT.enc k ks x) = true
  | k, [], x => by
    show leavesB [k.enc x] = true
    cases k <;> simp [LK.enc, leavesB, SV.leafB]
  | k, k' :: ks, x => by
    show leavesB (k.enc x.1 :: RT.enc k' ks x.2) = true
    have := RT.enc_leaves k' ks x.2
    cases k <;> simp [LK.enc, leavesB, SV.leafB, this]
theorem RT.cells_one : ∀ (k : LK) (ks : List LK) (x : RT k ks), ∀ v ∈ RT.cells k ks x, v.oneCell' = true
  | k, [], x, v, h => by
    have : v = k.cell x := by simpa [RT.cells] using h
    subst this
    cases k <;> rfl
  | k, k' :: ks, x, v, h => by
    have : v = k.cell x.1 ∨ v ∈ RT.cells k' ks x.2 := by simpa [RT.cells] using h
    rcases this with rfl | h
    · cases k <;> rfl
    · exact RT.cells_one k' ks x.2 v h
theorem enc_ok (R : Nat → Prop) (w : World) (ρ : Nat → Tk) (n : Nat) (κ : K) (x : κ.T) : SV.okL R w ρ n (κ.enc x) := by
  cases κ with
  | st k ks => exact RT.enc_ok R w ρ n k ks x
  | _ => simp [K.enc, SV.okL, SV.ok]
theorem enc_leaves (κ : K) (x : κ.T) : leavesB (κ.enc x) = true := by
  cases κ with
  | st k ks => exact RT.enc_leaves k ks x
  | _ => simp [K.enc, leavesB, SV.leafB]

mutual
theorem den_agree {R : Nat → Prop} {w : World} {n : Nat} {ρ ρ' : Nat → Tk} (h : ∀ t, t < n → ρ' t = ρ t) : ∀ (v : SV), v.ok R w ρ n → den ρ' v = den ρ v
  | .ptr _ _, hv => by simp only [SV.ok] at hv; simp only [den, h _ hv]
  | .aix _ _ _ _ _, hv => by simp only [SV.ok] at hv; simp only [den, h _ hv.1]
  | .pix _ _ _ _, hv => by simp only [SV.ok] at hv; simp only [den, h _ hv.1]
  | .sl _, hv => by simp only [SV.ok] at hv; simp only [den, h _ hv]
  | .sub _ _ _ _, hv => by simp only [SV.ok] at hv; simp only [den, h _ hv.1]
  | .rix _ _ _ _ _, _ => by simp only [den]
  | .ros _ _ _, _ => by simp only [den]
  | .fn _ a b, hv => by simp only [SV.ok] at hv; simp only [den, denL_agree h a hv.1, denL_agree h b hv.2]
  | .raw _, _ => by simp only [den]
  | .arr _ _ _, _ => by simp only [den]
  | .agg l, hv => by simp only [SV.ok] at hv; simp only [den, denC_agree h l hv]
  | .tup l, hv => by simp only [SV.ok] at hv; simp only [den, denL_agree h l hv]
  | .int _ _, _ => by simp only [den]
  | .bool _, _ => by simp only [den]
theorem denL_agree {R : Nat → Prop} {w : World} {n : Nat} {ρ ρ' : Nat → Tk} (h : ∀ t, t < n → ρ' t = ρ t) : ∀ (l : List SV), SV.okL R w ρ n l → denL ρ' l = denL ρ l
  | [], _ => by simp only [denL]
  | x :: l, hv => by simp only [SV.okL] at hv; simp only [denL, den_agree h x hv.1, denL_agree h l hv.2]
theorem denC_agree {R : Nat → Prop} {w : World} {n : Nat} {ρ ρ' : Nat → Tk} (h : ∀ t, t < n → ρ' t = ρ t) : ∀ (l : List SV), SV.okL R w ρ n l → denC ρ' l = denC ρ l
  | [], _ => by simp only [denC]
  | x :: l, hv => by
    simp only [SV.okL] at hv
    have h1 := den_agree h x hv.1
    have h2 := denC_agree h l hv.2
    simp only [denC, h1, h2]
end

mutual
theorem ok_agree {R : Nat → Prop} {w : World} {n : Nat} {ρ ρ' : Nat → Tk} (h : ∀ t, t < n → ρ' t = ρ t) : ∀ (v : SV), v.ok R w ρ n → v.ok R w ρ' n
  | .ptr _ _, hv => by simp only [SV.ok] at hv ⊢; exact hv
  | .aix _ _ _ _ _, hv => by simp only [SV.ok] at hv ⊢; exact hv
  | .pix _ _ _ _, hv => by simp only [SV.ok] at hv ⊢; rw [h _ hv.1]; exact hv
  | .sl _, hv => by simp only [SV.ok] at hv ⊢; exact hv
  | .sub _ _ _ _, hv => by simp only [SV.ok] at hv ⊢; rw [h _ hv.1]; exact hv
  | .rix _ _ _ _ _, hv => by simp only [SV.ok] at hv ⊢; exact hv
  | .ros _ _ _, hv => by simp only [SV.ok] at hv ⊢; exact hv
  | .fn _ a b, hv => by simp only [SV.ok] at hv ⊢; exact ⟨okL_agree h a hv.1, okL_agree h b hv.2⟩
  | .raw _, hv => by simp only [SV.ok] at hv ⊢; exact hv
  | .arr _ _ _, hv => by simp only [SV.ok] at hv ⊢; exact hv
  | .agg l, hv => by simp only [SV.ok] at hv ⊢; exact okL_agree h l hv
  | .tup l, hv => by simp only [SV.ok] at hv ⊢; exact okL_agree h l hv
  | .int _ _, _ => by simp only [SV.ok]
  | .bool _, _ => by simp only [SV.ok]
theorem okL_agree {R : Nat → Prop} {w : World} {n : Nat} {ρ ρ' : Nat → Tk} (h : ∀ t, t < n → ρ' t = ρ t) : ∀ (l : List SV), SV.okL R w ρ n l → SV.okL R w ρ' n l
  | [], _ => by simp only [SV.okL]
  | x :: l, hv => by simp only [SV.okL] at hv ⊢; exact ⟨ok_agree h x hv.1, okL_agree h l hv.2⟩
end

def SObj.ok (R : Nat → Prop) (w : World) (ρ : Nat → Tk) (n : Nat) : SObj → Prop
  | .cells l _ => SV.okL R w ρ n l ∧ leavesB l = true
  | _ => True

def ObjRel (ρ : Nat → Tk) (w : World) (tk : Tk) : SObj → Prop
  | .cells l T => w.heap[tk.blk]? = some (.cells (denC ρ l).toArray T (0, 0))
  | .seq κ xs E => w.ownsRow 0 E κ.sz tk.hdr xs.length (xs.flatMap κ.cells) ∧ ∀ b, tk.hdr.ownBlock = some b → b = tk.blk
  | .dead => True

def objBlk (tk : Tk) : SObj → Option Nat
  | .cells _ _ => some tk.blk
  | .seq _ _ _ => tk.hdr.ownBlock
  | .dead => none
def blkOf (ρ : Nat → Tk) (H : Hp) (t : Nat) : Option Nat :=
  match H[t]? with
  | some o => objBlk (ρ t) o
  | none => none

/-- A run's surroundings: the blocks that are read only, the world in which it began, the blocks that it may change. -/
structure Cx where
  R : Nat → Prop
  w1 : World
  Own : Nat → Prop

structure Cx.Fit (C : Cx) : Prop where
  new : ∀ b, C.w1.heap.size ≤ b → C.Own b
  ro : ∀ b, C.R b → b < C.w1.heap.size ∧ ¬ C.Own b

structure Rel (C : Cx) (ρ : Nat → Tk) (H : Hp) (w : World) : Prop where
  obj : ∀ t o, H[t]? = some o → ObjRel ρ w (ρ t) o
  sep : ∀ t t' b, blkOf ρ H t = some b → blkOf ρ H t' = some b → t = t'
  own : ∀ t b, blkOf ρ H t = some b → C.Own b
  hdr : ∀ t, ∃ a n c, (ρ t).hdr = .slice a n c
  keep : ∀ b, b < C.w1.heap.size → ¬ C.Own b → w.heap[b]? = C.w1.heap[b]?
  size : C.w1.heap.size ≤ w.heap.size
  os : w.os = C.w1.os
  tape : w.tape = C.w1.tape
  output : w.output = C.w1.output
  ok : ∀ (t : Nat) (o : SObj), H[t]? = some o → o.ok C.R C.w1 ρ H.length
  fit : C.Fit

structure FRel (C : Cx) (ρ : Nat → Tk) (n : Nat) (F : Fr) (tmps : Array Value) : Prop where
  size : tmps.size = F.length
  val : ∀ (i : Nat) (v : SV), F[i]? = some (some v) → tmps[i]? = some (den ρ v) ∧ v.ok C.R C.w1 ρ n

theorem blkOf_eq {ρ : Nat → Tk} {H : Hp} {t : Nat} {o : SObj} (ht : H[t]? = some o) : blkOf ρ H t = objBlk (ρ t) o := by
  unfold blkOf; rw [ht]
theorem blkOf_get {ρ : Nat → Tk} {H : Hp} {t b : Nat} (h : blkOf ρ H t = some b) : ∃ o, H[t]? = some o ∧ objBlk (ρ t) o = some b := by
  unfold blkOf at h
  cases ht : H[t]? with
  | none => rw [ht] at h; cases h
  | some o => rw [ht] at h; exact ⟨o, rfl, h⟩
theorem blkOf_lt_len {ρ : Nat → Tk} {H : Hp} {t b : Nat} (h : blkOf ρ H t = some b) : t < H.length := by
  obtain ⟨o, ho, _⟩ := blkOf_get h
  exact (List.getElem?_eq_some_iff.1 ho).1
theorem objRel_lt {ρ : Nat → Tk} {w : World} {tk : Tk} {o : SObj} (h : ObjRel ρ w tk o) {b : Nat} (hb : objBlk tk o = some b) : b < w.heap.size := by
  cases o with
  | cells l T => cases hb; exact (Array.getElem?_eq_some_iff.1 h).1
  | seq κ xs E => exact (h.1.lt b hb).2
  | dead => cases hb
theorem blk_lt {C : Cx} {ρ : Nat → Tk} {H : Hp} {w : World} (h : Rel C ρ H w) {t b : Nat} (hb : blkOf ρ H t = some b) : b < w.heap.size := by
  obtain ⟨o, ho, h2⟩ := blkOf_get hb
  exact objRel_lt (h.obj t o ho) h2
/-- The memory that is read only is as it was. -/
theorem ro_cell {C : Cx} {ρ : Nat → Tk} {H : Hp} {w : World} (h : Rel C ρ H w) {a : Addr} (hr : C.R a.block) : w.cell? a = C.w1.cell? a :=
  World.cell?_of_block (h.keep _ (h.fit.ro _ hr).1 (h.fit.ro _ hr).2)

/-- A slice's own header is no aggregate; leaves are single cells. -/
theorem leaf_one {C : Cx} {ρ : Nat → Tk} {n : Nat} (hh : ∀ t, ∃ a m c, (ρ t).hdr = .slice a m c) :
    ∀ {l : List SV}, SV.okL C.R C.w1 ρ n l → leavesB l = true → ∀ v ∈ denC ρ l, v.oneCell' = true
  | [], _, _ => by simp [denC]
  | x :: l, ho, hl => by
    simp only [SV.okL] at ho
    simp only [leavesB, Bool.and_eq_true] at hl
    intro v hv
    rw [denC_cons, List.mem_append] at hv
    rcases hv with hv | hv
    · cases x with
      | arr κ xs m =>
        simp only [denC, cell1, List.append_nil, List.mem_flatMap] at hv
        obtain ⟨y, _, hy⟩ := hv
        cases κ with
        | st k ks => exact RT.cells_one k ks y v hy
        | _ => simp only [K.cells, List.mem_cons, List.not_mem_nil, or_false] at hy; (first | (rcases hy with rfl | rfl | rfl <;> rfl) | (subst hy; rfl))
      | raw u =>
        simp only [denC, den, cell1, List.append_nil, List.mem_singleton] at hv
        subst hv
        have h1 := hl.1
        unfold SV.leafB at h1
        split at h1 <;> first | rfl | (cases h1; done) | (rename_i he; cases he; rfl) | (simp_all; done)
      | sl t =>
        simp only [denC, den, cell1, List.append_nil, List.mem_singleton] at hv
        subst hv
        obtain ⟨a, m, c, he⟩ := hh t
        rw [he]; rfl
      | ros u κ xs =>
        simp only [denC, den, cell1, List.append_nil, List.mem_singleton] at hv
        subst hv
        rcases ho.1 with ⟨_, a, c, he⟩ | ⟨ad, c, he, _⟩ <;> rw [he] <;> rfl
      | rix u κ xs i off =>
        simp only [denC, den, cell1, List.append_nil, List.mem_singleton] at hv
        subst hv
        unfold rixAddr
        split <;> rfl
      | sub t κ lo m =>
        simp only [denC, den, cell1, List.append_nil, List.mem_singleton] at hv
        subst hv
        obtain ⟨_, a, k, c, he, _⟩ := ho.1
        rw [he]; rfl
      | agg m => simp [SV.leafB] at hl
      | tup m => simp [SV.leafB] at hl
      | _ =>
        simp only [denC, den, cell1, List.append_nil, List.mem_singleton] at hv
        subst hv; rfl
    · exact leaf_one hh ho.2 hl.2 v hv

/-- Leaves are as many cells as they say. -/
theorem width_eq {R : Nat → Prop} {w : World} {n : Nat} {ρ : Nat → Tk} (x : SV) (h : x.ok R w ρ n) : (denC ρ [x]).length = x.width := by
  cases x <;> simp [denC, SV.width, cell1]
  case arr κ xs m =>
    simp only [SV.ok] at h
    have := cells_flat_length κ xs
    rw [List.length_flatMap] at this
    rw [this, h]
theorem segWidth_eq {R : Nat → Prop} {w : World} {n : Nat} {ρ : Nat → Tk} : ∀ {l : List SV}, SV.okL R w ρ n l → (denC ρ l).length = segWidth l
  | [], _ => by simp [denC, segWidth]
  | x :: l, h => by
    simp only [SV.okL] at h
    rw [denC_cons, List.length_append, width_eq x h.1, segWidth_eq h.2, segWidth_cons]
theorem segTake_spec {R : Nat → Prop} {w : World} {n : Nat} {ρ : Nat → Tk} : ∀ {l : List SV} {off m : Nat} {r : List SV}, SV.okL R w ρ n l → segTake l off m = some r →
    (∃ a b, denC ρ l = a ++ denC ρ r ++ b ∧ a.length = off) ∧ (denC ρ r).length = m ∧ SV.okL R w ρ n r ∧ (leavesB l = true → leavesB r = true)
  | l, 0, 0, r, ho, h => by
    have hr : r = [] := by
      have h' : some [] = some r := by cases l <;> exact h
      cases h'; rfl
    subst hr
    exact ⟨⟨[], denC ρ l, by simp [denC], rfl⟩, by simp [denC], by simp [SV.okL], fun _ => rfl⟩
  | [], 0, m + 1, r, ho, h => by cases (show none = some r from h)
  | [], off + 1, m, r, ho, h => by cases (show none = some r from h)
  | x :: l, 0, m + 1, r, ho, h => by
    rw [segTake_cons0] at h
    simp only [SV.okL] at ho
    split at h
    · rename_i hx
      cases hq : segTake l 0 (m + 1 - x.width) with
      | none => simp [hq] at h
      | some r' =>
        simp only [hq, Option.map_some, Option.some.injEq] at h
        subst h
        obtain ⟨⟨a, b, h1, h2⟩, h3, h4, h5⟩ := segTake_spec (ρ := ρ) ho.2 hq
        have ha : a = [] := List.eq_nil_of_length_eq_zero h2
        subst ha
        refine ⟨⟨[], b, ?_, rfl⟩, ?_, ?_, ?_⟩
        · rw [denC_cons, h1, denC_cons ρ x r']; simp
        · rw [denC_cons, List.length_append, h3, width_eq x ho.1]; omega
        · simp only [SV.okL]; exact ⟨ho.1, h4⟩
        · intro hl; simp only [leavesB, Bool.and_eq_true] at hl ⊢; exact ⟨hl.1, h5 hl.2⟩
    · cases h
  | x :: l, off + 1, m, r, ho, h => by
    have h' : (if x.width ≤ off + 1 then segTake l (off + 1 - x.width) m else none) = some r := by
      rw [segTake_cons] at h; exact h
    simp only [SV.okL] at ho
    split at h'
    · rename_i hx
      obtain ⟨⟨a, b, h1, h2⟩, h3, h4, h5⟩ := segTake_spec (ρ := ρ) ho.2 h'
      refine ⟨⟨denC ρ [x] ++ a, b, ?_, ?_⟩, h3, h4, fun hl => h5 (by simp only [leavesB, Bool.and_eq_true] at hl; exact hl.2)⟩
      · rw [denC_cons, h1]; simp
      · rw [List.length_append, width_eq x ho.1, h2]; omega
    · cases h'
end Go.Proofs.Ytkjellhkamfciaa.Sx
