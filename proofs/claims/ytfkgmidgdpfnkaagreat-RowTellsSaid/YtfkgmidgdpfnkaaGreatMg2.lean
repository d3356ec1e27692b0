/- Texts of the walk, merged. -/
import Derived.Test.YtfkgmidgdpfnkaaGreatMg1
import Derived.Test.YtfkgmidgdpfnkaaGreatProg
import Derived.RangeFuncLeaves
set_option linter.unusedVariables false
set_option linter.unusedSimpArgs false
namespace Go.Proofs.YtfkgmidgdpfnkaaGreat.Sx
section
open Go
def LK.cell:(k:LK) → k.T → Value
 | .i k,n => .int k n
 | .b,x => .bool x
 | .p,x => slV x.1
theorem slV_slice (v:Value):∃ a n c,slV v = .slice a n c := by
 unfold slV
 split
 · exact ⟨_,_,_,rfl⟩
 · exact ⟨none,0,0,rfl⟩
def RT.cells:(k:LK) → (ks:List LK) → RT k ks → List Value
 | k,[],x => [k.cell x]
 | k,k' :: ks,x => k.cell x.1 :: RT.cells k' ks x.2
def K.cells:(κ:K) → κ.T → List Value
 | .int k,n => [.int k n]
 | .bool,b => [.bool b]
 | .v3,p => [.int .i64 p.X,.int .i64 p.Y,.int .i64 p.Z]
 | .st k ks,x => RT.cells k ks x
theorem RT.cells_length:∀ (k:LK) (ks:List LK) (x:RT k ks),(RT.cells k ks x).length = ks.length + 1
 | _,[],_ => rfl
 | k,k' :: ks,x => by show (RT.cells k' ks x.2).length + 1 = _; rw [RT.cells_length k' ks x.2]; rfl
structure Tk where
 blk:Nat
 hdr:Value
def rixAddr (v:Value) (n:Nat):Value :=
 match v with
 | .slice (some a) _ _ => .pointer (some ⟨a.block,a.off + n,none⟩)
 | _ => .pointer none
def cell1 (x:SV) (v:Value):List Value :=
 match x with
 | .arr κ xs _ => xs.flatMap κ.cells
 | _ => [v]
mutual
def den (ρ:Nat → Tk):SV → Value
 | .int k n => .int k n
 | .bool b => .bool b
 | .ptr t off => .pointer (some ⟨(ρ t).blk,off,none⟩)
 | .aix t off κ i _ => .pointer (some ⟨(ρ t).blk,off + i * κ.sz,none⟩)
 | .pix t κ i off => .pointer (some ⟨(ρ t).blk,i * κ.sz + off,none⟩)
 | .rix v κ _ i off => rixAddr v (i * κ.sz + off)
 | .sl t => (ρ t).hdr
 | .sub t κ lo n => winV (ρ t).hdr κ.sz lo n
 | .clp t _ n => clipV (ρ t).hdr n
 | .ros v _ _ => v
 | .fn f a b => .func (.func f) (denL ρ a).toArray (denL ρ b).toArray
 | .yld t => .func (.yield (ρ t).blk) #[] #[]
 | .raw v => v
 | .arr κ xs _ => .agg (xs.flatMap κ.cells).toArray
 | .agg l => .agg (denC ρ l).toArray
 | .tup l => .tuple (denL ρ l).toArray
def denL (ρ:Nat → Tk):List SV → List Value
 | [] => []
 | x :: l => den ρ x :: denL ρ l
/-- The cells of leaves. -/
def denC (ρ:Nat → Tk):List SV → List Value
 | [] => []
 | x :: l => cell1 x (den ρ x) ++ denC ρ l
end
theorem K.cells_length (κ:K) (x:κ.T):(κ.cells x).length = κ.sz := by
 cases κ with
 | st k ks => exact RT.cells_length k ks x
 | _ => rfl
theorem K.sz_pos (κ:K):0 < κ.sz := by cases κ <;> simp [K.sz]
theorem cells_flat_length (κ:K) (xs:List κ.T):(xs.flatMap κ.cells).length = xs.length * κ.sz := by
 induction xs with
 | nil => simp
 | cons x l ih => simp [ih,K.cells_length,Nat.add_mul]; omega
theorem denC_cons (ρ:Nat → Tk) (x:SV) (l:List SV):denC ρ (x :: l) = denC ρ [x] ++ denC ρ l := by simp [denC]
theorem denC_append (ρ:Nat → Tk) (l m:List SV):denC ρ (l ++ m) = denC ρ l ++ denC ρ m := by
 induction l with
 | nil => simp [denC]
 | cons x l ih => rw [List.cons_append,denC_cons,ih,denC_cons ρ x l,List.append_assoc]
theorem LK.denC_enc (ρ:Nat → Tk) (k:LK) (x:k.T):denC ρ [k.enc x] = [k.cell x] := by cases k <;> rfl
theorem RT.denC_enc (ρ:Nat → Tk):∀ (k:LK) (ks:List LK) (x:RT k ks),denC ρ (RT.enc k ks x) = RT.cells k ks x
 | k,[],x => LK.denC_enc ρ k x
 | k,k' :: ks,x => by
   show denC ρ (k.enc x.1 :: RT.enc k' ks x.2) = k.cell x.1 :: RT.cells k' ks x.2
   rw [denC_cons,LK.denC_enc,RT.denC_enc ρ k' ks x.2]; rfl
theorem denC_enc (ρ:Nat → Tk) (κ:K) (x:κ.T):denC ρ (κ.enc x) = κ.cells x := by
 cases κ with
 | st k ks => exact RT.denC_enc ρ k ks x
 | _ => simp [K.enc,K.cells,denC,den,cell1]
def RosOk0 (R:Nat → Prop) (w:World) (v:Value) (κ:K) (xs:List κ.T):Prop :=
 (xs = [] ∧ ∃ a cap,v = .slice a 0 cap) ∨
 ∃ ad cap,v = .slice (some ad) xs.length cap ∧ xs.length ≤ cap ∧ ad.spot = none ∧ R ad.block ∧ ∀ j c,(xs.flatMap κ.cells)[j]? = some c → w.cell? ⟨ad.block,ad.off + j,none⟩ = some c
def LK.okT (R:Nat → Prop) (w:World):(k:LK) → k.T → Prop
 | .p,x => RosOk0 R w (slV x.1) kP x.2
 | .i _,_ => True
 | .b,_ => True
def RT.okT (R:Nat → Prop) (w:World):(k:LK) → (ks:List LK) → RT k ks → Prop
 | k,[],x => k.okT R w x
 | k,k' :: ks,x => k.okT R w x.1 ∧ RT.okT R w k' ks x.2
def K.okT (R:Nat → Prop) (w:World):(κ:K) → κ.T → Prop
 | .st k ks,x => RT.okT R w k ks x
 | .int _,_ => True
 | .bool,_ => True
 | .v3,_ => True
def InOk (R:Nat → Prop) (w:World) (κ:K) (xs:List κ.T):Prop := ∀ x ∈ xs,κ.okT R w x
def RosOk (R:Nat → Prop) (w:World) (v:Value) (κ:K) (xs:List κ.T):Prop := RosOk0 R w v κ xs ∧ InOk R w κ xs
theorem okT_kP (R:Nat → Prop) (w:World) (x:kP.T):kP.okT R w x := ⟨trivial,trivial,trivial⟩
theorem inOk_kP (R:Nat → Prop) (w:World) (xs:List kP.T):InOk R w kP xs := fun x _ => okT_kP R w x
theorem RosOk0.slice {R:Nat → Prop} {w:World} {v:Value} {κ:K} {xs:List κ.T} (h:RosOk0 R w v κ xs):slV v = v := by
 rcases h with ⟨_,a,c,rfl⟩ | ⟨ad,c,rfl,_⟩ <;> rfl
theorem RosOk0.nil (R:Nat → Prop) (w:World) (κ:K):RosOk0 R w (.slice none 0 0) κ [] := .inl ⟨rfl,none,0,rfl⟩
theorem LK.okT_dflt (R:Nat → Prop) (w:World) (k:LK):k.okT R w k.dflt := by
 cases k with
 | p => exact RosOk0.nil R w kP
 | _ => trivial
theorem RT.okT_dflt (R:Nat → Prop) (w:World):∀ (k:LK) (ks:List LK),RT.okT R w k ks (RT.dflt k ks)
 | k,[] => LK.okT_dflt R w k
 | k,k' :: ks => ⟨LK.okT_dflt R w k,RT.okT_dflt R w k' ks⟩
theorem K.okT_dflt (R:Nat → Prop) (w:World) (κ:K):κ.okT R w κ.dflt := by
 cases κ with
 | st k ks => exact RT.okT_dflt R w k ks
 | _ => trivial
theorem InOk.get {R:Nat → Prop} {w:World} {κ:K} {xs:List κ.T} (h:InOk R w κ xs) (i:Nat):κ.okT R w (xs.getD i κ.dflt) := by
 rw [List.getD_eq_getElem?_getD]
 cases hx:xs[i]? with
 | none => exact K.okT_dflt R w κ
 | some x => exact h x (List.mem_of_getElem? hx)
theorem InOk.set {R:Nat → Prop} {w:World} {κ:K} {xs:List κ.T} (h:InOk R w κ xs) (i:Nat) {y:κ.T} (hy:κ.okT R w y):InOk R w κ (xs.set i y) := fun x hx => by
 rcases List.mem_or_eq_of_mem_set hx with hx | rfl
 · exact h x hx
 · exact hy
theorem InOk.append {R:Nat → Prop} {w:World} {κ:K} {xs ys:List κ.T} (h:InOk R w κ xs) (h':InOk R w κ ys):InOk R w κ (xs ++ ys) := fun x hx => by
 rcases List.mem_append.1 hx with hx | hx
 · exact h x hx
 · exact h' x hx
theorem InOk.take {R:Nat → Prop} {w:World} {κ:K} {xs:List κ.T} (h:InOk R w κ xs) (n:Nat):InOk R w κ (xs.take n) := fun x hx => h x (List.mem_of_mem_take hx)
theorem InOk.drop {R:Nat → Prop} {w:World} {κ:K} {xs:List κ.T} (h:InOk R w κ xs) (n:Nat):InOk R w κ (xs.drop n) := fun x hx => h x (List.mem_of_mem_drop hx)
mutual
def SV.ok (R:Nat → Prop) (w:World) (ρ:Nat → Tk) (n:Nat):SV → Prop
 | .ptr t _ => t < n
 | .aix t _ _ i m => t < n ∧ i < m
 | .pix t _ i _ => t < n ∧ ∃ a m c,(ρ t).hdr = .slice a m c ∧ i < m
 | .sl t => t < n
 | .sub t _ lo m => t < n ∧ ∃ a k c,(ρ t).hdr = .slice a k c ∧ lo + m ≤ k
 | .clp t _ m => t < n ∧ ∃ a k c,(ρ t).hdr = .slice a k c ∧ m ≤ k
 | .rix v κ xs i _ => RosOk R w v κ xs ∧ i < xs.length
 | .ros v κ xs => RosOk R w v κ xs
 | .fn _ a b => SV.okL R w ρ n a ∧ SV.okL R w ρ n b
 | .yld t => t < n
 | .raw v => ∀ cs,v ≠ .agg cs
 | .arr κ xs m => xs.length = m ∧ InOk R w κ xs
 | .agg l => SV.okL R w ρ n l
 | .tup l => SV.okL R w ρ n l
 | .int _ _ => True
 | .bool _ => True
def SV.okL (R:Nat → Prop) (w:World) (ρ:Nat → Tk) (n:Nat):List SV → Prop
 | [] => True
 | x :: l => SV.ok R w ρ n x ∧ SV.okL R w ρ n l
end
theorem okL_iff {R:Nat → Prop} {w:World} {ρ:Nat → Tk} {n:Nat}:∀ {l:List SV},SV.okL R w ρ n l ↔ ∀ x ∈ l,x.ok R w ρ n
 | [] => by simp [SV.okL]
 | x :: l => by simp [SV.okL,okL_iff (l := l)]
theorem okL_append {R:Nat → Prop} {w:World} {ρ:Nat → Tk} {n:Nat} {l m:List SV}:SV.okL R w ρ n (l ++ m) ↔ SV.okL R w ρ n l ∧ SV.okL R w ρ n m := by
 simp only [okL_iff,List.mem_append]
 constructor
 · exact fun h => ⟨fun x hx => h x (.inl hx),fun x hx => h x (.inr hx)⟩
 · rintro ⟨h1, h2⟩ x (hx | hx)
   · exact h1 x hx
   · exact h2 x hx
mutual
theorem ok_mono {R:Nat → Prop} {w:World} {ρ:Nat → Tk} {n m:Nat} (h:n ≤ m):∀ (v:SV),v.ok R w ρ n → v.ok R w ρ m
 | .ptr _ _,hv => by simp only [SV.ok] at hv ⊢; omega
 | .aix _ _ _ _ _,hv => by simp only [SV.ok] at hv ⊢; exact ⟨by omega,hv.2⟩
 | .pix _ _ _ _,hv => by simp only [SV.ok] at hv ⊢; exact ⟨by omega,hv.2⟩
 | .sl _,hv => by simp only [SV.ok] at hv ⊢; omega
 | .sub _ _ _ _,hv => by simp only [SV.ok] at hv ⊢; exact ⟨by omega,hv.2⟩
 | .clp _ _ _,hv => by simp only [SV.ok] at hv ⊢; exact ⟨by omega,hv.2⟩
 | .yld _,hv => by simp only [SV.ok] at hv ⊢; omega
 | .rix _ _ _ _ _,hv => by simp only [SV.ok] at hv ⊢; exact hv
 | .ros _ _ _,hv => by simp only [SV.ok] at hv ⊢; exact hv
 | .fn _ a b,hv => by simp only [SV.ok] at hv ⊢; exact ⟨okL_mono h a hv.1,okL_mono h b hv.2⟩
 | .raw _,hv => by simp only [SV.ok] at hv ⊢; exact hv
 | .arr _ _ _,hv => by simp only [SV.ok] at hv ⊢; exact hv
 | .agg l,hv => by simp only [SV.ok] at hv ⊢; exact okL_mono h l hv
 | .tup l,hv => by simp only [SV.ok] at hv ⊢; exact okL_mono h l hv
 | .int _ _,_ => by simp only [SV.ok]
 | .bool _,_ => by simp only [SV.ok]
theorem okL_mono {R:Nat → Prop} {w:World} {ρ:Nat → Tk} {n m:Nat} (h:n ≤ m):∀ (l:List SV),SV.okL R w ρ n l → SV.okL R w ρ m l
 | [],_ => by simp only [SV.okL]
 | x :: l,hv => by simp only [SV.okL] at hv ⊢; exact ⟨ok_mono h x hv.1,okL_mono h l hv.2⟩
end
theorem LK.enc_ok {R:Nat → Prop} {w:World} (ρ:Nat → Tk) (n:Nat) (k:LK) (x:k.T) (h:k.okT R w x):(k.enc x).ok R w ρ n := by
 cases k with
 | p => exact ⟨h,inOk_kP R w x.2⟩
 | _ => simp [LK.enc,SV.ok]
theorem RT.enc_ok {R:Nat → Prop} {w:World} (ρ:Nat → Tk) (n:Nat):∀ (k:LK) (ks:List LK) (x:RT k ks),RT.okT R w k ks x → SV.okL R w ρ n (RT.enc k ks x)
 | k,[],x,h => ⟨LK.enc_ok ρ n k x h,trivial⟩
 | k,k' :: ks,x,h => ⟨LK.enc_ok ρ n k x.1 h.1,RT.enc_ok ρ n k' ks x.2 h.2⟩
theorem LK.cell_one (k:LK) (x:k.T):(k.cell x).oneCell' = true := by
 cases k with
 | p => obtain ⟨a,n,c,e⟩ := slV_slice x.1; show (slV x.1).oneCell' = true; rw [e]; rfl
 | _ => rfl
theorem RT.cells_one:∀ (k:LK) (ks:List LK) (x:RT k ks),∀ v ∈ RT.cells k ks x,v.oneCell' = true
 | k,[],x,v,h => by
   have:v = k.cell x := by simpa [RT.cells] using h
   subst this
   exact LK.cell_one k x
 | k,k' :: ks,x,v,h => by
   have:v = k.cell x.1 ∨ v ∈ RT.cells k' ks x.2 := by simpa [RT.cells] using h
   rcases this with rfl | h
   · exact LK.cell_one k x.1
   · exact RT.cells_one k' ks x.2 v h
theorem enc_ok {R:Nat → Prop} {w:World} (ρ:Nat → Tk) (n:Nat) (κ:K) (x:κ.T) (h:κ.okT R w x):SV.okL R w ρ n (κ.enc x) := by
 cases κ with
 | st k ks => exact RT.enc_ok ρ n k ks x h
 | _ => simp [K.enc,SV.okL,SV.ok]
theorem LK.dec_cell {R:Nat → Prop} {w:World} (ρ:Nat → Tk) (n:Nat) (k:LK) (s:SV) (x:k.T) (h:k.dec s = some x) (hs:s.ok R w ρ n):denC ρ [s] = [k.cell x] ∧ k.okT R w x := by
 unfold LK.dec at h
 split at h
 · split at h
   · rename_i he; cases h; subst he; exact ⟨by simp [denC,den,LK.cell,cell1],trivial⟩
   · cases h
 · cases h; exact ⟨by simp [denC,den,LK.cell,cell1],trivial⟩
 · split at h
   · rename_i he
     subst he
     cases h
     have e := hs.1.slice
     exact ⟨by simp only [denC,den,LK.cell,cell1,e]; rfl,by show RosOk0 R w (slV _) kP _; rw [e]; exact hs.1⟩
   · cases h
 · cases h; exact ⟨by simp [denC,den,LK.cell,cell1,slV],RosOk0.nil R w kP⟩
 · cases h
theorem RT.dec_cells {R:Nat → Prop} {w:World} (ρ:Nat → Tk) (n:Nat):∀ (k:LK) (ks:List LK) (l:List SV) (x:RT k ks),RT.dec k ks l = some x → SV.okL R w ρ n l → denC ρ l = RT.cells k ks x ∧ RT.okT R w k ks x
 | k,[],[s],x,h,hs => by
   obtain ⟨h1,h2⟩ := LK.dec_cell ρ n k s x h hs.1
   exact ⟨h1,h2⟩
 | k,k' :: ks,s :: l,x,h,hs => by
   unfold RT.dec at h
   split at h
   · rename_i a b h1 h2
     cases h
     obtain ⟨g1,g2⟩ := LK.dec_cell ρ n k s a h1 hs.1
     obtain ⟨g3,g4⟩ := RT.dec_cells ρ n k' ks l b h2 hs.2
     refine ⟨?_,g2,g4⟩
     rw [denC_cons,g1,g3]
     rfl
   · cases h
 | k,[],[],x,h,_ => by simp [RT.dec] at h
 | k,[],_ :: _ :: _,x,h,_ => by simp [RT.dec] at h
 | k,_ :: _,[],x,h,_ => by simp [RT.dec] at h
theorem dec_cells {R:Nat → Prop} {w:World} (ρ:Nat → Tk) (n:Nat) (κ:K) (l:List SV) (x:κ.T) (h:κ.dec l = some x) (hs:SV.okL R w ρ n l):denC ρ l = κ.cells x ∧ κ.okT R w x := by
 unfold K.dec at h
 split at h
 · split at h
   · rename_i he; cases h; subst he; exact ⟨by simp [denC,den,K.cells,cell1],trivial⟩
   · cases h
 · cases h; exact ⟨by simp [denC,den,K.cells,cell1],trivial⟩
 · cases h; exact ⟨by simp [denC,den,K.cells,cell1],trivial⟩
 · exact RT.dec_cells ρ n _ _ _ _ h hs
 · cases h
mutual
theorem den_agree {R:Nat → Prop} {w:World} {n:Nat} {ρ ρ':Nat → Tk} (h:∀ t,t < n → ρ' t = ρ t):∀ (v:SV),v.ok R w ρ n → den ρ' v = den ρ v
 | .ptr _ _,hv => by simp only [SV.ok] at hv; simp only [den,h _ hv]
 | .aix _ _ _ _ _,hv => by simp only [SV.ok] at hv; simp only [den,h _ hv.1]
 | .pix _ _ _ _,hv => by simp only [SV.ok] at hv; simp only [den,h _ hv.1]
 | .sl _,hv => by simp only [SV.ok] at hv; simp only [den,h _ hv]
 | .sub _ _ _ _,hv => by simp only [SV.ok] at hv; simp only [den,h _ hv.1]
 | .clp _ _ _,hv => by simp only [SV.ok] at hv; simp only [den,h _ hv.1]
 | .yld _,hv => by simp only [SV.ok] at hv; simp only [den,h _ hv]
 | .rix _ _ _ _ _,_ => by simp only [den]
 | .ros _ _ _,_ => by simp only [den]
 | .fn _ a b,hv => by simp only [SV.ok] at hv; simp only [den,denL_agree h a hv.1,denL_agree h b hv.2]
 | .raw _,_ => by simp only [den]
 | .arr _ _ _,_ => by simp only [den]
 | .agg l,hv => by simp only [SV.ok] at hv; simp only [den,denC_agree h l hv]
 | .tup l,hv => by simp only [SV.ok] at hv; simp only [den,denL_agree h l hv]
 | .int _ _,_ => by simp only [den]
 | .bool _,_ => by simp only [den]
theorem denL_agree {R:Nat → Prop} {w:World} {n:Nat} {ρ ρ':Nat → Tk} (h:∀ t,t < n → ρ' t = ρ t):∀ (l:List SV),SV.okL R w ρ n l → denL ρ' l = denL ρ l
 | [],_ => by simp only [denL]
 | x :: l,hv => by simp only [SV.okL] at hv; simp only [denL,den_agree h x hv.1,denL_agree h l hv.2]
theorem denC_agree {R:Nat → Prop} {w:World} {n:Nat} {ρ ρ':Nat → Tk} (h:∀ t,t < n → ρ' t = ρ t):∀ (l:List SV),SV.okL R w ρ n l → denC ρ' l = denC ρ l
 | [],_ => by simp only [denC]
 | x :: l,hv => by
   simp only [SV.okL] at hv
   have h1 := den_agree h x hv.1
   have h2 := denC_agree h l hv.2
   simp only [denC,h1,h2]
end
mutual
theorem ok_agree {R:Nat → Prop} {w:World} {n:Nat} {ρ ρ':Nat → Tk} (h:∀ t,t < n → ρ' t = ρ t):∀ (v:SV),v.ok R w ρ n → v.ok R w ρ' n
 | .ptr _ _,hv => by simp only [SV.ok] at hv ⊢; exact hv
 | .aix _ _ _ _ _,hv => by simp only [SV.ok] at hv ⊢; exact hv
 | .pix _ _ _ _,hv => by simp only [SV.ok] at hv ⊢; rw [h _ hv.1]; exact hv
 | .sl _,hv => by simp only [SV.ok] at hv ⊢; exact hv
 | .sub _ _ _ _,hv => by simp only [SV.ok] at hv ⊢; rw [h _ hv.1]; exact hv
 | .clp _ _ _,hv => by simp only [SV.ok] at hv ⊢; rw [h _ hv.1]; exact hv
 | .yld _,hv => by simp only [SV.ok] at hv ⊢; exact hv
 | .rix _ _ _ _ _,hv => by simp only [SV.ok] at hv ⊢; exact hv
 | .ros _ _ _,hv => by simp only [SV.ok] at hv ⊢; exact hv
 | .fn _ a b,hv => by simp only [SV.ok] at hv ⊢; exact ⟨okL_agree h a hv.1,okL_agree h b hv.2⟩
 | .raw _,hv => by simp only [SV.ok] at hv ⊢; exact hv
 | .arr _ _ _,hv => by simp only [SV.ok] at hv ⊢; exact hv
 | .agg l,hv => by simp only [SV.ok] at hv ⊢; exact okL_agree h l hv
 | .tup l,hv => by simp only [SV.ok] at hv ⊢; exact okL_agree h l hv
 | .int _ _,_ => by simp only [SV.ok]
 | .bool _,_ => by simp only [SV.ok]
theorem okL_agree {R:Nat → Prop} {w:World} {n:Nat} {ρ ρ':Nat → Tk} (h:∀ t,t < n → ρ' t = ρ t):∀ (l:List SV),SV.okL R w ρ n l → SV.okL R w ρ' n l
 | [],_ => by simp only [SV.okL]
 | x :: l,hv => by simp only [SV.okL] at hv ⊢; exact ⟨ok_agree h x hv.1,okL_agree h l hv.2⟩
end
def FrOk (R:Nat → Prop) (w:World) (ρ:Nat → Tk) (n:Nat) (F:Fr):Prop := ∀ (i:Nat) (v:SV),F[i]? = some (some v) → v.ok R w ρ n
def FrR (ρ:Nat → Tk) (F:Fr) (tmps:Array Value):Prop := tmps.size = F.length ∧ ∀ (i:Nat) (v:SV),F[i]? = some (some v) → tmps[i]? = some (den ρ v)
def LSt.state:LSt → LoopState
 | .ready => .ready
 | .busy => .busy
 | .done _ => .done
def LSt.pend:LSt → Option Code
 | .done .ret => some .ret
 | .done (.exit id) => some (.exit id)
 | _ => none
noncomputable abbrev Pg:Program := Go.Proofs.Tryz.prog
def SObj.ok (R:Nat → Prop) (w:World) (ρ:Nat → Tk) (n:Nat):SObj → Prop
 | .cells l _ => SV.okL R w ρ n l ∧ leavesB l = true
 | .seq κ xs _ => InOk R w κ xs
 | .lp _ _ F _ => FrOk R w ρ n F
 | _ => True
def ObjRel (ρ:Nat → Tk) (w:World) (tk:Tk):SObj → Prop
 | .cells l T => w.heap[tk.blk]? = some (.cells (denC ρ l).toArray T (0,0))
 | .seq κ xs E => w.ownsRow 0 E κ.sz tk.hdr xs.length (xs.flatMap κ.cells) ∧ ∀ b,tk.hdr.ownBlock = some b → b = tk.blk
 | .dead => True
 | .lp fid path F st => ∃ (tmps:Array Value) (fn dfr:Nat) (g:Operand) (ps:Array Tmp) (a c:Code),codeIn Pg fid path = some (.rangeFunc g ps a c) ∧
     w.heap[tk.blk]? = some (.loop { state := st.state,pending := st.pend,fn := fn,tmps := tmps,params := ps,assign := a,body := c,defers := dfr }) ∧ FrR ρ F tmps
def objBlk (tk:Tk):SObj → Option Nat
 | .cells _ _ => some tk.blk
 | .lp _ _ _ _ => some tk.blk
 | .seq _ _ _ => tk.hdr.ownBlock
 | .dead => none
def blkOf (ρ:Nat → Tk) (H:Hp) (t:Nat):Option Nat :=
 match H[t]? with
 | some o => objBlk (ρ t) o
 | none => none
structure Cx where
 R:Nat → Prop
 w1:World
 Own:Nat → Prop
structure Cx.Fit (C:Cx):Prop where
 new:∀ b,C.w1.heap.size ≤ b → C.Own b
 ro:∀ b,C.R b → b < C.w1.heap.size ∧ ¬ C.Own b
structure Rel (C:Cx) (ρ:Nat → Tk) (H:Hp) (w:World):Prop where
 obj:∀ t o,H[t]? = some o → ObjRel ρ w (ρ t) o
 sep:∀ t t' b,blkOf ρ H t = some b → blkOf ρ H t' = some b → t = t'
 own:∀ t b,blkOf ρ H t = some b → C.Own b
 hdr:∀ t,∃ a n c,(ρ t).hdr = .slice a n c
 keep:∀ b,b < C.w1.heap.size → ¬ C.Own b → w.heap[b]? = C.w1.heap[b]?
 size:C.w1.heap.size ≤ w.heap.size
 os:w.os = C.w1.os
 tape:w.tape = C.w1.tape
 output:w.output = C.w1.output
 ok:∀ (t:Nat) (o:SObj),H[t]? = some o → o.ok C.R C.w1 ρ H.length
 fit:C.Fit
structure FRel (C:Cx) (ρ:Nat → Tk) (n:Nat) (F:Fr) (tmps:Array Value):Prop where
 size:tmps.size = F.length
 val:∀ (i:Nat) (v:SV),F[i]? = some (some v) → tmps[i]? = some (den ρ v) ∧ v.ok C.R C.w1 ρ n
theorem blkOf_eq {ρ:Nat → Tk} {H:Hp} {t:Nat} {o:SObj} (ht:H[t]? = some o):blkOf ρ H t = objBlk (ρ t) o := by
 unfold blkOf; rw [ht]
theorem blkOf_get {ρ:Nat → Tk} {H:Hp} {t b:Nat} (h:blkOf ρ H t = some b):∃ o,H[t]? = some o ∧ objBlk (ρ t) o = some b := by
 unfold blkOf at h
 cases ht:H[t]? with
 | none => rw [ht] at h; cases h
 | some o => rw [ht] at h; exact ⟨o,rfl,h⟩
theorem blkOf_lt_len {ρ:Nat → Tk} {H:Hp} {t b:Nat} (h:blkOf ρ H t = some b):t < H.length := by
 obtain ⟨o,ho,_⟩ := blkOf_get h
 exact (List.getElem?_eq_some_iff.1 ho).1
theorem objRel_lt {ρ:Nat → Tk} {w:World} {tk:Tk} {o:SObj} (h:ObjRel ρ w tk o) {b:Nat} (hb:objBlk tk o = some b):b < w.heap.size := by
 cases o with
 | cells l T => cases hb; exact (Array.getElem?_eq_some_iff.1 h).1
 | seq κ xs E => exact (h.1.lt b hb).2
 | dead => cases hb
 | lp f p F st =>
   cases hb
   obtain ⟨_,_,_,_,_,_,_,_,h,_⟩ := h
   exact (Array.getElem?_eq_some_iff.1 h).1
theorem blk_lt {C:Cx} {ρ:Nat → Tk} {H:Hp} {w:World} (h:Rel C ρ H w) {t b:Nat} (hb:blkOf ρ H t = some b):b < w.heap.size := by
 obtain ⟨o,ho,h2⟩ := blkOf_get hb
 exact objRel_lt (h.obj t o ho) h2
theorem ro_cell {C:Cx} {ρ:Nat → Tk} {H:Hp} {w:World} (h:Rel C ρ H w) {a:Addr} (hr:C.R a.block):w.cell? a = C.w1.cell? a :=
 World.cell?_of_block (h.keep _ (h.fit.ro _ hr).1 (h.fit.ro _ hr).2)
theorem leaf_one {C:Cx} {ρ:Nat → Tk} {n:Nat} (hh:∀ t,∃ a m c,(ρ t).hdr = .slice a m c) :
   ∀ {l:List SV},SV.okL C.R C.w1 ρ n l → leavesB l = true → ∀ v ∈ denC ρ l,v.oneCell' = true
 | [],_,_ => by simp [denC]
 | x :: l,ho,hl => by
   simp only [SV.okL] at ho
   simp only [leavesB,Bool.and_eq_true] at hl
   intro v hv
   rw [denC_cons,List.mem_append] at hv
   rcases hv with hv | hv
   · cases x with
     | arr κ xs m =>
       simp only [denC,cell1,List.append_nil,List.mem_flatMap] at hv
       obtain ⟨y,_,hy⟩ := hv
       cases κ with
       | st k ks => exact RT.cells_one k ks y v hy
       | _ => simp only [K.cells,List.mem_cons,List.not_mem_nil,or_false] at hy; (first | (rcases hy with rfl | rfl | rfl <;> rfl) | (subst hy; rfl))
     | raw u =>
       simp only [denC,den,cell1,List.append_nil,List.mem_singleton] at hv
       subst hv
       have h1 := hl.1
       unfold SV.leafB at h1
       split at h1 <;> first | rfl | (cases h1; done) | (rename_i he; cases he; rfl) | (simp_all; done)
     | sl t =>
       simp only [denC,den,cell1,List.append_nil,List.mem_singleton] at hv
       subst hv
       obtain ⟨a,m,c,he⟩ := hh t
       rw [he]; rfl
     | ros u κ xs =>
       simp only [denC,den,cell1,List.append_nil,List.mem_singleton] at hv
       subst hv
       rcases ho.1.1 with ⟨_,a,c,he⟩ | ⟨ad,c,he,_⟩ <;> rw [he] <;> rfl
     | rix u κ xs i off =>
       simp only [denC,den,cell1,List.append_nil,List.mem_singleton] at hv
       subst hv
       unfold rixAddr
       split <;> rfl
     | sub t κ lo m =>
       simp only [denC,den,cell1,List.append_nil,List.mem_singleton] at hv
       subst hv
       obtain ⟨_,a,k,c,he,_⟩ := ho.1
       rw [he]; rfl
     | clp t κ m =>
       simp only [denC,den,cell1,List.append_nil,List.mem_singleton] at hv
       subst hv
       obtain ⟨_,a,k,c,he,_⟩ := ho.1
       rw [he]; rfl
     | agg m => simp [SV.leafB] at hl
     | tup m => simp [SV.leafB] at hl
     | _ =>
       simp only [denC,den,cell1,List.append_nil,List.mem_singleton] at hv
       subst hv; rfl
   · exact leaf_one hh ho.2 hl.2 v hv
theorem width_eq {R:Nat → Prop} {w:World} {n:Nat} {ρ:Nat → Tk} (x:SV) (h:x.ok R w ρ n):(denC ρ [x]).length = x.width := by
 cases x <;> simp [denC,SV.width,cell1]
 case arr κ xs m =>
   simp only [SV.ok] at h
   have := cells_flat_length κ xs
   rw [List.length_flatMap] at this
   rw [this,h.1]
theorem segWidth_eq {R:Nat → Prop} {w:World} {n:Nat} {ρ:Nat → Tk}:∀ {l:List SV},SV.okL R w ρ n l → (denC ρ l).length = segWidth l
 | [],_ => by simp [denC,segWidth]
 | x :: l,h => by
   simp only [SV.okL] at h
   rw [denC_cons,List.length_append,width_eq x h.1,segWidth_eq h.2,segWidth_cons]
theorem segTake_spec {R:Nat → Prop} {w:World} {n:Nat} {ρ:Nat → Tk}:∀ {l:List SV} {off m:Nat} {r:List SV},SV.okL R w ρ n l → segTake l off m = some r →
   (∃ a b,denC ρ l = a ++ denC ρ r ++ b ∧ a.length = off) ∧ (denC ρ r).length = m ∧ SV.okL R w ρ n r ∧ (leavesB l = true → leavesB r = true)
 | l,0,0,r,ho,h => by
   have hr:r = [] := by
     have h':some [] = some r := by cases l <;> exact h
     cases h'; rfl
   subst hr
   exact ⟨⟨[],denC ρ l,by simp [denC],rfl⟩,by simp [denC],by simp [SV.okL],fun _ => rfl⟩
 | [],0,m + 1,r,ho,h => by cases (show none = some r from h)
 | [],off + 1,m,r,ho,h => by cases (show none = some r from h)
 | x :: l,0,m + 1,r,ho,h => by
   rw [segTake_cons0] at h
   simp only [SV.okL] at ho
   split at h
   · rename_i hx
     cases hq:segTake l 0 (m + 1 - x.width) with
     | none => simp [hq] at h
     | some r' =>
       simp only [hq,Option.map_some,Option.some.injEq] at h
       subst h
       obtain ⟨⟨a,b,h1,h2⟩,h3,h4,h5⟩ := segTake_spec (ρ := ρ) ho.2 hq
       have ha:a = [] := List.eq_nil_of_length_eq_zero h2
       subst ha
       refine ⟨⟨[],b,?_,rfl⟩,?_,?_,?_⟩
       · rw [denC_cons,h1,denC_cons ρ x r']; simp
       · rw [denC_cons,List.length_append,h3,width_eq x ho.1]; omega
       · simp only [SV.okL]; exact ⟨ho.1,h4⟩
       · intro hl; simp only [leavesB,Bool.and_eq_true] at hl ⊢; exact ⟨hl.1,h5 hl.2⟩
   · cases h
 | x :: l,off + 1,m,r,ho,h => by
   have h':(if x.width ≤ off + 1 then segTake l (off + 1 - x.width) m else none) = some r := by
     rw [segTake_cons] at h; exact h
   simp only [SV.okL] at ho
   split at h'
   · rename_i hx
     obtain ⟨⟨a,b,h1,h2⟩,h3,h4,h5⟩ := segTake_spec (ρ := ρ) ho.2 h'
     refine ⟨⟨denC ρ [x] ++ a,b,?_,?_⟩,h3,h4,fun hl => h5 (by simp only [leavesB,Bool.and_eq_true] at hl; exact hl.2)⟩
     · rw [denC_cons,h1]; simp
     · rw [List.length_append,width_eq x ho.1,h2]; omega
   · cases h'
end
section
open Go Go.RowKit
def ext (ρ:Nat → Tk) (n:Nat) (tk:Tk):Nat → Tk := fun t => if t = n then tk else ρ t
theorem ext_lt {ρ : Nat → Tk} {n : Nat} {tk : Tk} : ∀ t, t < n → ext ρ n tk t = ρ t := fun t h => by
 unfold ext; rw [if_neg (by omega)]
theorem ext_self {ρ:Nat → Tk} {n:Nat} {tk:Tk}:ext ρ n tk n = tk := by simp [ext]
theorem SObj.ok_mono {R:Nat → Prop} {w:World} {ρ:Nat → Tk} {n m:Nat} (h:n ≤ m) {o:SObj} (ho:o.ok R w ρ n):o.ok R w ρ m := by
 cases o with
 | cells l T => exact ⟨okL_mono h _ ho.1,ho.2⟩
 | lp f p F st => exact fun i v hv => Sx.ok_mono h v (ho i v hv)
 | _ => trivial
theorem SObj.ok_agree {R:Nat → Prop} {w:World} {ρ ρ':Nat → Tk} {n:Nat} (h:∀ t,t < n → ρ' t = ρ t) {o:SObj} (ho:o.ok R w ρ n):o.ok R w ρ' n := by
 cases o with
 | cells l T => exact ⟨okL_agree h _ ho.1,ho.2⟩
 | lp f p F st => exact fun i v hv => Sx.ok_agree h v (ho i v hv)
 | _ => trivial
theorem ObjRel.agree {C:Cx} {ρ ρ':Nat → Tk} {w w':World} {n:Nat} {tk:Tk} {o:SObj} (h:ObjRel ρ w tk o) (ho:o.ok C.R C.w1 ρ n) (hr:∀ t,t < n → ρ' t = ρ t)
   (hw:∀ b,objBlk tk o = some b → w'.heap[b]? = w.heap[b]?):ObjRel ρ' w' tk o := by
 cases o with
 | cells l T =>
   simp only [ObjRel,SObj.ok] at h ho ⊢
   rw [hw _ rfl,denC_agree hr l ho.1]; exact h
 | seq κ xs E =>
   simp only [ObjRel] at h ⊢
   refine ⟨⟨h.1.1,?_⟩,h.2⟩
   rcases h.1.2 with h1 | ⟨g,cap,cur,e,h2,h3,rest⟩
   · exact .inl h1
   · refine .inr ⟨g, cap, cur, e, h2, ?_, rest⟩
     rw [hw g (by simp only [objBlk,e,Value.ownBlock])]; exact h3
 | dead => trivial
 | lp f p F st =>
   obtain ⟨tmps,fn,dfr,g,ps,a,c,h1,h2,h3,h4⟩ := h
   exact ⟨tmps,fn,dfr,g,ps,a,c,h1,by rw [hw _ rfl]; exact h2,h3,fun i v hv => by rw [den_agree hr v (ho i v hv)]; exact h4 i v hv⟩
theorem Rel.push {C:Cx} {ρ:Nat → Tk} {H:Hp} {w w':World} (h:Rel C ρ H w) (o:SObj) (tk:Tk)
   (hw:∀ b,b < w.heap.size → w'.heap[b]? = w.heap[b]?) (hs:w.heap.size ≤ w'.heap.size) (hos:w'.os = w.os) (htp:w'.tape = w.tape) (hout:w'.output = w.output)
   (hobj:ObjRel (ext ρ H.length tk) w' tk o) (hblk:∀ b,objBlk tk o = some b → w.heap.size ≤ b)
   (hok:o.ok C.R C.w1 (ext ρ H.length tk) (H.length + 1)) (hhdr:∃ a n c,tk.hdr = .slice a n c):Rel C (ext ρ H.length tk) (H ++ [o]) w' := by
 have hold : ∀ t o', t < H.length → (H ++ [o])[t]? = some o' → H[t]? = some o' := fun t o' ht ho => by
   rw [List.getElem?_append_left ht] at ho; exact ho
 have hnew : ∀ t o', ¬ t < H.length → (H ++ [o])[t]? = some o' → t = H.length ∧ o' = o := fun t o' ht ho => by
   have hl := (List.getElem?_eq_some_iff.1 ho).1
   simp at hl
   have:t = H.length := by omega
   subst this
   simp at ho
   exact ⟨rfl,ho.symm⟩
 have hb:∀ t b,blkOf (ext ρ H.length tk) (H ++ [o]) t = some b → (t < H.length ∧ blkOf ρ H t = some b) ∨ (t = H.length ∧ w.heap.size ≤ b) := fun t b hb => by
   have hl := blkOf_lt_len hb
   simp at hl
   by_cases ht:t < H.length
   · refine .inl ⟨ht, ?_⟩
     unfold blkOf at hb ⊢
     rw [List.getElem?_append_left ht,ext_lt t ht] at hb
     exact hb
   · have ht' : t = H.length := by omega
     subst ht'
     refine .inr ⟨rfl,hblk b ?_⟩
     rw [blkOf_eq (o := o) (by simp),ext_self] at hb
     exact hb
 refine ⟨?_,?_,?_,?_,?_,?_,?_,?_,?_,?_,h.fit⟩
 · intro t o' ho
   by_cases ht:t < H.length
   · have ho' := hold t o' ht ho
     rw [ext_lt t ht]
     refine (h.obj t o' ho').agree (C := C) (n := H.length) (h.ok t o' ho') ext_lt fun b hb' => hw b ?_
     exact blk_lt h (t := t) (by rw [blkOf_eq ho']; exact hb')
   · obtain ⟨rfl, rfl⟩ := hnew t o' ht ho
     rw [ext_self]; exact hobj
 · intro t t' b h1 h2
   rcases hb t b h1 with ⟨g1,g2⟩ | ⟨g1,g2⟩ <;> rcases hb t' b h2 with ⟨g3,g4⟩ | ⟨g3,g4⟩
   · exact h.sep t t' b g2 g4
   · have := blk_lt h g2; omega
   · have := blk_lt h g4; omega
   · omega
 · intro t b h1
   rcases hb t b h1 with ⟨_,g2⟩ | ⟨_,g2⟩
   · exact h.own t b g2
   · exact h.fit.new b (Nat.le_trans h.size g2)
 · intro t
   by_cases ht:t = H.length
   · subst ht; rw [ext_self]; exact hhdr
   · unfold ext; rw [if_neg ht]; exact h.hdr t
 · intro b h1 h2
   rw [hw b (Nat.lt_of_lt_of_le h1 h.size)]; exact h.keep b h1 h2
 · exact Nat.le_trans h.size hs
 · rw [hos]; exact h.os
 · rw [htp]; exact h.tape
 · rw [hout]; exact h.output
 · intro t o' ho
   rw [List.length_append,List.length_singleton]
   by_cases ht:t < H.length
   · exact SObj.ok_mono (by omega) (SObj.ok_agree ext_lt (h.ok t o' (hold t o' ht ho)))
   · obtain ⟨rfl, rfl⟩ := hnew t o' ht ho
     exact hok
theorem Rel.newCells {C:Cx} {ρ:Nat → Tk} {H:Hp} {w:World} (h:Rel C ρ H w) (l:List SV) (T:TypeId) (hl:SV.okL C.R C.w1 ρ H.length l) (hb:leavesB l = true) :
   Rel C (ext ρ H.length ⟨w.heap.size,.slice none 0 0⟩) (H ++ [.cells l T]) (w.alloc (.cells (denC ρ l).toArray T)) := by
 refine h.push (.cells l T) ⟨w.heap.size,.slice none 0 0⟩ (fun b hb => Below.heap_alloc w _ b hb) (by simp) rfl rfl rfl ?_ ?_ ⟨okL_mono (by omega) l (okL_agree ext_lt l hl),hb⟩ ⟨_,_,_,rfl⟩
 · simp only [ObjRel]
   rw [denC_agree ext_lt l hl]
   exact heap_alloc_new w _
 · intro b hb; cases hb; exact Nat.le_refl _
theorem Rel.newSeq {C:Cx} {ρ:Nat → Tk} {H:Hp} {w:World} (h:Rel C ρ H w) (κ:K) (xs:List κ.T) (E:TypeId) (hin:InOk C.R C.w1 κ xs) (hmax:xs.length ≤ maxLen) :
   Rel C (ext ρ H.length ⟨w.heap.size,.slice (some ⟨w.heap.size,0,none⟩) xs.length xs.length⟩) (H ++ [.seq κ xs E]) (w.alloc (.cells (xs.flatMap κ.cells).toArray E)) := by
 refine h.push (.seq κ xs E) _ (fun b hb => Below.heap_alloc w _ b hb) (by simp) rfl rfl rfl ?_ ?_ hin ⟨_,_,_,rfl⟩
 · simp only [ObjRel]
   refine ⟨⟨cells_flat_length κ xs,.inr ⟨w.heap.size,xs.length,_,rfl,Nat.zero_le _,heap_alloc_new w _,Nat.le_refl _,hmax,by rw [List.size_toArray]; exact cells_flat_length κ xs,?_⟩⟩,fun b hb => by simpa [Value.ownBlock] using hb.symm⟩
   rw [← cells_flat_length κ xs]
   exact List.take_length
 · intro b hb
   simp only [objBlk,Value.ownBlock,Option.some.injEq] at hb
   omega
theorem Rel.setObj {C:Cx} {ρ:Nat → Tk} {H:Hp} {w w':World} (h:Rel C ρ H w) {t:Nat} {o o':SObj} (ht:H[t]? = some o) (hb:blkOf ρ H t = some (ρ t).blk)
   (hw:∀ b,b ≠ (ρ t).blk → w'.heap[b]? = w.heap[b]?) (hs:w'.heap.size = w.heap.size) (hos:w'.os = w.os) (htp:w'.tape = w.tape) (hout:w'.output = w.output)
   (hobj:ObjRel ρ w' (ρ t) o') (hk:blkOf ρ (H.set t o') t = some (ρ t).blk) (hok:o'.ok C.R C.w1 ρ H.length):Rel C ρ (H.set t o') w' := by
 have hlt := (List.getElem?_eq_some_iff.1 ht).1
 have hblk : ∀ s b, blkOf ρ (H.set t o') s = some b → blkOf ρ H s = some b := fun s b hs => by
   by_cases e:s = t
   · subst e; rw [hk] at hs; rw [hb]; exact hs
   · unfold blkOf at hs ⊢
     rwa [List.getElem?_set_ne (Ne.symm e)] at hs
 refine ⟨?_,fun s s' b h1 h2 => h.sep s s' b (hblk s b h1) (hblk s' b h2),fun s b h1 => h.own s b (hblk s b h1),h.hdr,?_,by rw [hs]; exact h.size,by rw [hos]; exact h.os,by rw [htp]; exact h.tape,by rw [hout]; exact h.output,?_,h.fit⟩
 · intro s os hs'
   by_cases e:t = s
   · subst e
     rw [List.getElem?_set_self hlt] at hs'
     cases hs'; exact hobj
   · rw [List.getElem?_set_ne e] at hs'
     refine (h.obj s os hs').agree (C := C) (n := H.length) (h.ok s os hs') (fun _ _ => rfl) fun b hb' => hw b fun e' => e ?_
     subst e'
     exact h.sep t s _ hb (by rw [blkOf_eq hs']; exact hb')
 · intro b h1 h2
   rw [hw b (fun e => h2 (e ▸ h.own t _ hb))]
   exact h.keep b h1 h2
 · intro s os hs'
   rw [List.length_set]
   by_cases e:t = s
   · subst e
     rw [List.getElem?_set_self hlt] at hs'
     cases hs'; exact hok
   · rw [List.getElem?_set_ne e] at hs'
     exact h.ok s os hs'
section
variable {P:Program} (E:Env)
theorem run_isAgg {T:TypeId} {g:Bool} (h:E.isAgg T = some g) (w:World):(isAgg T).run E.P w = .ok g w := by
 unfold Env.isAgg at h
 cases hu:E.P.underlying T with
 | none => simp [hu] at h
 | some d =>
   rw [hu] at h
   unfold Go.isAgg
   rw [Sem.run_bind,run_underlying hu w]
   cases d <;> simp_all
theorem run_sizeOf {T:TypeId} {n:Nat} (h:E.size T = some n) (w:World):(sizeOf T).run E.P w = .ok n w := by
 unfold Env.size at h
 cases hi:E.P.info? T with
 | none => simp [hi] at h
 | some i =>
   rw [hi] at h
   simp only [Option.map_some,Option.some.injEq] at h
   simp [sizeOf,typeInfo,hi,h]
theorem run_loadVar {T:TypeId} {g:Bool} {n:Nat} (hg:E.isAgg T = some g) (hn:E.size T = some n) (w:World) (b o:Nat) (cs:List Value) (hl:cs.length = n)
   (h:∀ j v,cs[j]? = some v → w.cell? ⟨b,o + j,none⟩ = some v) (v:Value) (hv:if g then v = .agg cs.toArray else cs = [v]):(loadVar T ⟨b,o,none⟩).run E.P w = .ok v w := by
 have hadd:∀ j,(⟨b,o,none⟩:Addr).add j = ⟨b,o + j,none⟩ := fun j => by unfold Addr.add; split <;> simp_all
 unfold loadVar
 rw [Sem.run_bind,run_isAgg E hg]
 cases g with
 | true =>
   simp only [if_true] at hv
   subst hv
   have := run_loadCells_list (P := E.P) w ⟨b,o,none⟩ cs (fun j v hv => by rw [hadd]; exact h j v hv)
   rw [hl] at this
   simp [run_sizeOf E hn,this]
 | false =>
   simp only [Bool.false_eq_true,if_false] at hv
   subst hv
   have := h 0 v rfl
   simp only [Nat.add_zero] at this
   simp [this]
end
theorem mkVal_den {ρ:Nat → Tk} {g:Bool} {l:List SV} {v:SV} (h:mkVal g l = some v):if g then den ρ v = .agg (denC ρ l).toArray else denC ρ l = [den ρ v] := by
 unfold mkVal at h
 split at h
 · cases h; simp [den]
 · cases h
 · rename_i x hx
   cases h
   simp only [Bool.false_eq_true,if_false,denC,List.append_nil]
   cases v <;> first | rfl | (exact absurd rfl (hx _ _ _))
 · cases h
theorem mkVal_ok {R:Nat → Prop} {w:World} {ρ:Nat → Tk} {n:Nat} {g:Bool} {l:List SV} {v:SV} (h:mkVal g l = some v) (ho:SV.okL R w ρ n l):v.ok R w ρ n := by
 unfold mkVal at h
 split at h
 · cases h; simpa [SV.ok] using ho
 · cases h
 · cases h; simp only [SV.okL] at ho; exact ho.1
 · cases h
end
section
open Go Go.RowKit
structure EnvOk (E:Env):Prop where
 prog:E.P = Pg
 zero:∀ T l,assoc E.zero T = some l → ∃ i z,E.P.info? T = some i ∧ i.zero = some z ∧ (∀ ρ,denC ρ l = z.cells.toList) ∧ ∀ R w ρ n,SV.okL R w ρ n l
 add : ∀ f, (E.P.funcs[f]?).isSome = true → Nat.beq f E.add64 = true → ∃ fn e, E.P.funcs[f]? = some fn ∧ (fn.name == "runtime.NumGoroutine") = false ∧ fn.body.isNone = true ∧ Extern.findNext fn = none ∧ Extern.find fn = some e ∧
   e = fun args => do let (x, y, c) ← Extern.MathBitsCarry.three "Add64" args; pure (Extern.MathBitsCarry.pair ((x + y + c) % Extern.MathBitsCarry.m64) ((x + y + c) / Extern.MathBitsCarry.m64))
 sub : ∀ f, (E.P.funcs[f]?).isSome = true → Nat.beq f E.sub64 = true → ∃ fn e, E.P.funcs[f]? = some fn ∧ (fn.name == "runtime.NumGoroutine") = false ∧ fn.body.isNone = true ∧ Extern.findNext fn = none ∧ Extern.find fn = some e ∧
   e = fun args => do let (x, y, b) ← Extern.MathBitsCarry.three "Sub64" args; pure (Extern.MathBitsCarry.pair ((x + Extern.MathBitsCarry.m64 - y - b) % Extern.MathBitsCarry.m64) (if x < y + b then 1 else 0))
structure OpGood0 (P:Program) (o:Oper) (F:Fr) (H:Hp) (v:SV) (H':Hp):Prop where
 len:H.length ≤ H'.length
 wp:∀ (C:Cx) (ρ:Nat → Tk) (a:Act) (w:World),FRel C ρ H.length F a.tmps → Rel C ρ H w → ∀ (next:Act → World → Prop) (Q:Exit → Act → World → Prop),
   (∀ ρ' w',(∀ t,t < H.length → ρ' t = ρ t) → Rel C ρ' H' w' → v.ok C.R C.w1 ρ' H'.length → next (a.put o.dst (den ρ' v)) w') → o.wp P a w next Q
theorem ofConst_spec {u:Value} {v:SV} (h:ofConst u = some v) (ρ:Nat → Tk) (R:Nat → Prop) (w:World) (n:Nat):den ρ v = u ∧ v.ok R w ρ n ∧ (∀ cs,u ≠ .agg cs) ∧ denC ρ [v] = [u] := by
 unfold ofConst at h
 split at h <;> first | (cases h; done) | (cases h; simp [den,SV.ok,denC,cell1]; done) | (split at h <;> first | (cases h; done) | (cases h; simp [den,SV.ok,denC,cell1]))
theorem ofConsts_spec (ρ:Nat → Tk) (R:Nat → Prop) (w:World) (n:Nat):∀ {l:List Value} {r:List SV},ofConsts l = some r → denC ρ r = l ∧ SV.okL R w ρ n r
 | [],r,h => by simp only [ofConsts,Option.some.injEq] at h; subst h; simp [denC,SV.okL]
 | u :: l,r,h => by
   simp only [ofConsts] at h
   split at h
   · rename_i x y hx hy
     cases h
     have h1 := ofConst_spec hx ρ R w n
     have h2 := ofConsts_spec ρ R w n hy
     rw [denC_cons,h1.2.2.2,h2.1]
     exact ⟨rfl,h1.2.1,h2.2⟩
   · cases h
theorem ofValue_spec {u:Value} {v:SV} (h:ofValue u = some v) (ρ:Nat → Tk) (R:Nat → Prop) (w:World) (n:Nat):den ρ v = u ∧ v.ok R w ρ n := by
 unfold ofValue at h
 split at h
 · rename_i cs
   cases hc:ofConsts cs.toList with
   | none => simp [hc] at h
   | some l =>
     simp only [hc,Option.map_some,Option.some.injEq] at h
     subst h
     have := ofConsts_spec ρ R w n hc
     simp only [den,SV.ok,this.1,this.2,and_true]
 · have := ofConst_spec h ρ R w n; exact ⟨this.1,this.2.1⟩
theorem opd_spec {C:Cx} {ρ:Nat → Tk} {n:Nat} {F:Fr} {a:Act} (hF:FRel C ρ n F a.tmps) {x:Operand} {v:SV} (h:opd F x = some v):a.eval x = den ρ v ∧ v.ok C.R C.w1 ρ n := by
 cases x with
 | tmp t =>
   have h':F[t]? = some (some v) := by
     simp only [opd] at h
     cases hq:F[t]? with
     | none => simp [hq] at h
     | some y => cases y <;> simp_all
   have := hF.val t v h'
   refine ⟨?_,this.2⟩
   simp [Act.eval,Array.getD_eq_getD_getElem?,this.1]
 | const u =>
   have := ofValue_spec (v := v) h ρ C.R C.w1 n
   exact ⟨this.1.symm,this.2⟩
 | func f =>
   simp only [opd,Option.some.injEq] at h
   subst h
   simp [Act.eval,den,denL,SV.ok,SV.okL]
 | global g => cases h
theorem opds_spec {C:Cx} {ρ:Nat → Tk} {n:Nat} {F:Fr} {a:Act} (hF:FRel C ρ n F a.tmps):∀ {l:List Operand} {r:List SV},opds F l = some r → l.map a.eval = denL ρ r ∧ SV.okL C.R C.w1 ρ n r
 | [],r,h => by simp only [opds,Option.some.injEq] at h; subst h; simp [denL,SV.okL]
 | x :: l,r,h => by
   simp only [opds] at h
   split at h
   · rename_i p q hp hq
     cases h
     have h1 := opd_spec hF hp
     have h2 := opds_spec hF hq
     simp only [List.map_cons,denL,SV.okL,h1.1,h2.1,h1.2,h2.2,and_self]
   · cases h
theorem OpGood0.val {P:Program} {o:Oper} {F:Fr} {H:Hp} {v:SV}
   (h:∀ (C:Cx) (ρ:Nat → Tk) (a:Act) (w:World),FRel C ρ H.length F a.tmps → Rel C ρ H w → (execOp a.eval o).run P w = .ok (.value (den ρ v)) w ∧ v.ok C.R C.w1 ρ H.length) :
   OpGood0 P o F H v H :=
 ⟨Nat.le_refl _, fun C ρ a w hF hR next Q hn => by
   obtain ⟨h1,h2⟩ := h C ρ a w hF hR
   unfold Oper.wp
   rw [h1]
   exact hn ρ w (fun _ _ => rfl) hR h2⟩
theorem bindO_some {β γ:Type} {x:Option β} {k:β → Option γ} {r:γ} (h:bindO x k = some r):∃ b,x = some b ∧ k b = some r := by
 cases x with
 | none => cases h
 | some b => exact ⟨b,rfl,h⟩
theorem rix_cells (u:Value) (m:Nat):(rixAddr u m).cells.toList = [rixAddr u m] := by
 cases u with
 | slice a l c => cases a <;> rfl
 | _ => rfl
theorem cells_den (ρ:Nat → Tk) (R:Nat → Prop) (w:World) (n:Nat) (v:SV) (h:v.ok R w ρ n) (hs:∀ t,∃ a m c,(ρ t).hdr = .slice a m c):(den ρ v).cells.toList = denC ρ v.cells ∧ SV.okL R w ρ n v.cells := by
 cases v with
 | agg l => exact ⟨by simp [den,SV.cells,Value.cells],by simpa [SV.ok,SV.cells] using h⟩
 | rix u κ xs i off => exact ⟨by simp only [den,SV.cells,denC,cell1,List.append_nil,rix_cells],by simp only [SV.cells,SV.okL,h,and_self]⟩
 | sl t => obtain ⟨a,m,c,e⟩ := hs t; exact ⟨by simp [den,SV.cells,Value.cells,denC,cell1,e],by simp only [SV.cells,SV.okL,h,and_self]⟩
 | sub t κ lo m =>
   obtain ⟨a,k,c,e⟩ := hs t
   exact ⟨by simp [den,SV.cells,Value.cells,denC,cell1,e,winV],by simp only [SV.cells,SV.okL,h,and_self]⟩
 | clp t κ m =>
   obtain ⟨a,k,c,e⟩ := hs t
   exact ⟨by simp [den,SV.cells,Value.cells,denC,cell1,e,clipV],by simp only [SV.cells,SV.okL,h,and_self]⟩
 | ros u κ xs =>
   refine ⟨?_,by simp only [SV.cells,SV.okL,h,and_self]⟩
   rcases h with ⟨_,a,c,e⟩ | ⟨ad,c,e,_⟩ <;> simp [den,SV.cells,Value.cells,denC,cell1,e]
 | raw u =>
   refine ⟨?_,by simp only [SV.cells,SV.okL,h,and_self]⟩
   cases u <;> first | rfl | exact absurd rfl (h _)
 | arr κ xs m => exact ⟨by simp [den,SV.cells,Value.cells,denC,cell1],by simp only [SV.cells,SV.okL,h,and_self]⟩
 | _ => exact ⟨by simp [den,SV.cells,Value.cells,denC,cell1],by simp only [SV.cells,SV.okL,h,and_self]⟩
theorem elem_cells (κ:K) (xs:List κ.T):∀ (i:Nat),i < xs.length → ∀ j c,(κ.cells (xs.getD i κ.dflt))[j]? = some c → (xs.flatMap κ.cells)[i * κ.sz + j]? = some c := by
 induction xs with
 | nil => intro i hi; simp at hi
 | cons y ys ih =>
   intro i hi j c hj
   cases i with
   | zero =>
     simp only [List.getD_cons_zero] at hj
     rw [List.flatMap_cons,Nat.zero_mul,Nat.zero_add,List.getElem?_append_left (List.getElem?_eq_some_iff.1 hj).1]
     exact hj
   | succ i =>
     simp only [List.getD_cons_succ] at hj
     rw [List.flatMap_cons,List.getElem?_append_right (by rw [K.cells_length,Nat.add_mul]; omega),K.cells_length,show (i + 1) * κ.sz + j - κ.sz = i * κ.sz + j from by rw [Nat.add_mul]; omega]
     exact ih i (by simpa using hi) j c hj
theorem segAt_spec {R:Nat → Prop} {w:World} {ρ:Nat → Tk} {n:Nat}:∀ {l:List SV} {off:Nat} {x:SV},SV.okL R w ρ n l → segAt l off = some x →
   ∃ A B,denC ρ l = A ++ denC ρ [x] ++ B ∧ A.length = off ∧ x.ok R w ρ n
 | [],off,x,_,h => by cases (show none = some x from h)
 | y :: l,0,x,ho,h => by
   cases (show some y = some x from h)
   exact ⟨[],denC ρ l,by rw [denC_cons]; simp,rfl,ho.1⟩
 | y :: l,off + 1,x,ho,h => by
   rw [segAt_cons] at h
   split at h
   · rename_i hy
     obtain ⟨A,B,h1,h2,h3⟩ := segAt_spec (ρ := ρ) ho.2 h
     refine ⟨denC ρ [y] ++ A,B,by rw [denC_cons,h1]; simp,?_,h3⟩
     rw [List.length_append,width_eq y ho.1,h2]; omega
   · cases h
theorem get_mid {α:Type} {A M B L:List α} {j:Nat} {c:α} (h:L = A ++ M ++ B) (hj:M[j]? = some c):L[A.length + j]? = some c := by
 rw [h,List.append_assoc,List.getElem?_append_right (by omega),show A.length + j - A.length = j from by omega,List.getElem?_append_left (List.getElem?_eq_some_iff.1 hj).1]
 exact hj
section
variable (E:Env)
theorem zeroOf_spec (hE:EnvOk E) {T:TypeId} {l:List SV} (h:E.zeroOf T = some l):∃ i z,E.P.info? T = some i ∧ i.zero = some z ∧ (∀ ρ,denC ρ l = z.cells.toList) ∧ ∀ R w ρ n,SV.okL R w ρ n l := by
 unfold Env.zeroOf at h
 split at h
 · rename_i hl; cases h; exact hE.zero T _ hl
 · split at h
   · rename_i i hi
     split at h
     · rename_i cs hz
       exact ⟨i,_,hi,hz,fun ρ => (ofConsts_spec ρ (fun _ => False) default 0 h).1,fun R w ρ n => (ofConsts_spec ρ R w n h).2⟩
     · rename_i v hn hz
       cases hc:ofConst v with
       | none => simp [hc] at h
       | some x =>
         simp only [hc,Option.map_some,Option.some.injEq] at h
         subst h
         refine ⟨i,v,hi,hz,fun ρ => ?_,fun R w ρ n => ?_⟩
         · rw [(ofConst_spec hc ρ (fun _ => False) default 0).2.2.2]
           cases v <;> first | rfl | exact absurd rfl (hn _)
         · simp only [SV.okL,and_true]; exact (ofConst_spec hc ρ R w n).2.1
     · cases h
   · cases h
theorem op_alloc (hE:EnvOk E) {o:Oper} {F:Fr} {H:Hp} {T:TypeId} {l:List SV} (ho:o.op = .alloc T) (hz:E.zeroOf T = some l) (hl:leavesB l = true) :
   OpGood0 E.P o F H (.ptr H.length 0) (H ++ [.cells l T]) := by
 refine ⟨by simp,fun C ρ a w hF hR next Q hn => ?_⟩
 obtain ⟨i,z,h1,h2,h3,h4⟩ := zeroOf_spec E hE hz
 have hn' := hn _ _ ext_lt (hR.newCells l T (h4 _ _ _ _) hl) (by simp [SV.ok])
 rw [h3 ρ] at hn'
 simp only [den,ext_self,Array.toArray_toList] at hn'
 unfold Oper.wp
 simp only [execOp,ho,Instr.alloc,zeroValue,typeInfo,newVar,newRow,Sem.run_bind,run_program,Result.andThen_ok,h1,h2,Sem.run_pure,run_newObj]
 exact hn'
theorem op_box {o:Oper} {F:Fr} {H:Hp} {T:TypeId} {x:Operand} {v:SV} (ho:o.op = .box T x) (hx:opd F x = some v) (hl:leavesB v.cells = true) :
   OpGood0 E.P o F H (.ptr H.length 0) (H ++ [.cells v.cells T]) := by
 refine ⟨by simp,fun C ρ a w hF hR next Q hn => ?_⟩
 obtain ⟨h1,h2⟩ := opd_spec hF hx
 obtain ⟨h3,h4⟩ := cells_den ρ _ _ _ v h2 hR.hdr
 have hn' := hn _ _ ext_lt (hR.newCells v.cells T h4 hl) (by simp [SV.ok])
 rw [← h3] at hn'
 simp only [den,ext_self,Array.toArray_toList] at hn'
 unfold Oper.wp
 simp only [execOp,ho,Instr.box,h1,newVar,newRow,Sem.run_bind,Result.andThen_ok,Sem.run_pure,run_newObj]
 exact hn'
theorem loadAt_spec {H:Hp} {T:TypeId} {p v:SV} (hl:loadAt E H T p = some v) {C:Cx} {ρ:Nat → Tk} {w:World} (hR:Rel C ρ H w) (h2:p.ok C.R C.w1 ρ H.length) :
   ∃ ad,den ρ p = .pointer (some ad) ∧ (loadVar T ad).run E.P w = .ok (den ρ v) w ∧ v.ok C.R C.w1 ρ H.length := by
 have main:∀ (g:Bool) (n:Nat) (l:List SV) (off:Nat) (r:List SV) (b base:Nat),E.isAgg T = some g → E.size T = some n → SV.okL C.R C.w1 ρ H.length l → segTake l off n = some r → mkVal g r = some v →
     (∀ j c,(denC ρ l)[j]? = some c → w.cell? ⟨b,base + j,none⟩ = some c) → (loadVar T ⟨b,base + off,none⟩).run E.P w = .ok (den ρ v) w ∧ v.ok C.R C.w1 ρ H.length := by
   intro g n l off r b base hg hn hok ht hm hc
   obtain ⟨⟨A,B,e1,e2⟩,e3,e4,_⟩ := segTake_spec (ρ := ρ) hok ht
   refine ⟨run_loadVar E hg hn w b (base + off) (denC ρ r) e3 ?_ _ (mkVal_den hm),mkVal_ok hm e4⟩
   intro j c hj
   rw [Nat.add_assoc]
   refine hc (off + j) c ?_
   rw [e1,← e2,List.append_assoc,List.getElem?_append_right (by omega),show A.length + j - A.length = j from by omega,List.getElem?_append_left (List.getElem?_eq_some_iff.1 hj).1]
   exact hj
 unfold loadAt at hl
 split at hl
 · rename_i g n hg hn
   split at hl
   · rename_i t off
     split at hl
     · rename_i l T' ht
       obtain ⟨r,hr,hm⟩ := bindO_some hl
       have ho := hR.ok t _ ht
       have hob := hR.obj t _ ht
       simp only [ObjRel] at hob
       refine ⟨_,rfl,?_⟩
       have := main g n l off r (ρ t).blk 0 hg hn ho.1 hr hm (fun j c hj => by
         rw [Nat.zero_add,cell_of_row w _ _ _ _ _ hob]; simpa using hj)
       simpa using this
     · cases hl
   · rename_i t off κ i m0
     split at hl
     · rename_i l T' ht
       split at hl
       · rename_i κ' xs m hs
         split at hl
         · rename_i he
           obtain ⟨e1,e2⟩ := he
           subst e1
           obtain ⟨r,hr,hm⟩ := bindO_some hl
           have ho := hR.ok t _ ht
           have hob := hR.obj t _ ht
           simp only [ObjRel] at hob
           obtain ⟨A,B,g1,g2,g3⟩ := segAt_spec (ρ := ρ) ho.1 hs
           have hlen:xs.length = m := g3.1
           have hi := h2.2
           have hm2 := Nat.eq_of_beq_eq_true e2
           refine ⟨_,rfl,?_⟩
           have := main g n (κ'.enc (xs.getD i κ'.dflt)) 0 r (ρ t).blk (off + i * κ'.sz) hg hn (enc_ok _ _ _ _ (g3.2.get i)) hr hm (fun j c hj => by
             rw [denC_enc] at hj
             rw [cell_of_row w _ _ _ _ _ hob,List.getElem?_toArray,Nat.add_assoc,← g2]
             refine get_mid g1 ?_
             simp only [denC,cell1,List.append_nil]
             exact elem_cells κ' xs i (by omega) j c hj)
           simpa using this
         · cases hl
       · cases hl
     · cases hl
   · rename_i t κ i off
     split at hl
     · rename_i κ' xs T' ht
       split at hl
       · rename_i he
         subst he
         obtain ⟨r,hr,hm⟩ := bindO_some hl
         have hob := hR.obj t _ ht
         obtain ⟨hlt,a',m',c',hh,hi⟩ := h2
         refine ⟨_,rfl,?_⟩
         rcases hob.1.2 with ⟨e,e0⟩ | ⟨gb,cap,cur,e,_,hg2,_,_,_,htake⟩
         · rw [e] at hh; cases hh; omega
         · have hb : gb = (ρ t).blk := hob.2 gb (by rw [e]; rfl)
           rw [e] at hh
           cases hh
           refine main g n (κ'.enc (xs.getD i κ'.dflt)) off r (ρ t).blk (i * κ'.sz) hg hn (enc_ok _ _ _ _ (InOk.get (hR.ok t _ ht) i)) hr hm (fun j c hj => ?_)
           rw [denC_enc] at hj
           have hx := elem_cells κ' xs i hi j c hj
           rw [← htake,List.getElem?_take] at hx
           split at hx
           · rw [← hb,cell_of_row w _ _ _ _ _ hg2]; simpa using hx
           · cases hx
       · cases hl
     · cases hl
   · rename_i u κ xs i off
     obtain ⟨r,hr,hm⟩ := bindO_some hl
     obtain ⟨hros,hi⟩ := h2
     rcases hros.1 with ⟨he,_⟩ | ⟨ad,cap,e,_,_,hRb,hc⟩
     · subst he; simp at hi
     · subst e
       refine ⟨_,rfl,?_⟩
       rw [← Nat.add_assoc]
       refine main g n (κ.enc (xs.getD i κ.dflt)) off r ad.block (ad.off + i * κ.sz) hg hn (enc_ok _ _ _ _ (hros.2.get i)) hr hm (fun j c hj => ?_)
       rw [denC_enc] at hj
       rw [ro_cell hR (a := ⟨ad.block,_,none⟩) hRb,Nat.add_assoc]
       exact hc _ c (elem_cells κ xs i hi j c hj)
   · cases hl
 · cases hl
theorem op_load {o:Oper} {F:Fr} {H:Hp} {T:TypeId} {x:Operand} {p v:SV} (ho:o.op = .load T x) (hx:opd F x = some p) (hl:loadAt E H T p = some v) :
   OpGood0 E.P o F H v H := by
 refine .val fun C ρ a w hF hR => ?_
 obtain ⟨h1,h2⟩ := opd_spec hF hx
 obtain ⟨ad,e1,e2,e3⟩ := loadAt_spec E hl hR h2
 refine ⟨?_,e3⟩
 simp only [execOp,ho,h1,e1,Instr.loadAt,Instr.sureAddr,Sem.run_bind,Sem.run_pure,Result.andThen_ok,e2]
end
end
section
open Go Go.RowKit
theorem segDrop_spec {R:Nat → Prop} {w:World} {n:Nat} {ρ:Nat → Tk}:∀ {l:List SV} {off:Nat} {r:List SV},SV.okL R w ρ n l → segDrop l off = some r →
   (∃ a,denC ρ l = a ++ denC ρ r ∧ a.length = off) ∧ SV.okL R w ρ n r ∧ (leavesB l = true → leavesB r = true)
 | l,0,r,ho,h => by
   have hr:r = l := by
     have h':some l = some r := by cases l <;> exact h
     cases h'; rfl
   subst hr
   exact ⟨⟨[],rfl,rfl⟩,ho,fun h => h⟩
 | [],off + 1,r,_,h => by cases (show none = some r from h)
 | x :: l,off + 1,r,ho,h => by
   rw [segDrop_cons] at h
   split at h
   · rename_i hx
     obtain ⟨⟨a,h1,h2⟩,h3,h4⟩ := segDrop_spec (ρ := ρ) ho.2 h
     refine ⟨⟨denC ρ [x] ++ a,?_,?_⟩,h3,fun hl => h4 (by simp only [leavesB,Bool.and_eq_true] at hl; exact hl.2)⟩
     · rw [denC_cons,h1]; simp
     · rw [List.length_append,width_eq x ho.1,h2]; omega
   · cases h
theorem leavesB_append:∀ (l m:List SV),leavesB (l ++ m) = (leavesB l && leavesB m)
 | [],m => by simp [leavesB]
 | x :: l,m => by simp [leavesB,leavesB_append l m,Bool.and_assoc]
theorem segPut_spec {R:Nat → Prop} {w:World} {n:Nat} {ρ:Nat → Tk} {l new r:List SV} {off:Nat} (ho:SV.okL R w ρ n l) (hn:SV.okL R w ρ n new) (h:segPut l off new = some r) :
   denC ρ r = (denC ρ l).take off ++ denC ρ new ++ (denC ρ l).drop (off + (denC ρ new).length) ∧ off + (denC ρ new).length ≤ (denC ρ l).length ∧ SV.okL R w ρ n r ∧ (leavesB l = true → leavesB new = true → leavesB r = true) := by
 unfold segPut at h
 split at h
 · rename_i a b ha hb
   cases h
   obtain ⟨⟨A,B,h1,h2⟩,h3,h4,h5⟩ := segTake_spec (ρ := ρ) ho ha
   obtain ⟨⟨D,g1,g2⟩,g3,g4⟩ := segDrop_spec (ρ := ρ) ho hb
   have hA:A = [] := List.eq_nil_of_length_eq_zero h2
   subst hA
   rw [← segWidth_eq (ρ := ρ) hn] at g2
   refine ⟨?_,?_,?_,?_⟩
   · rw [denC_append, denC_append]
     congr 1
     · congr 1
       rw [h1,← h3]; simp
     · rw [g1,← g2]; simp
   · rw [g1,List.length_append,g2]; omega
   · exact okL_append.2 ⟨okL_append.2 ⟨h4,hn⟩,g3⟩
   · intro hl hnl
     rw [leavesB_append,leavesB_append,h5 hl,hnl,g4 hl]; rfl
 · cases h
theorem flat_set (κ:K) (xs:List κ.T):∀ (i:Nat) (x:κ.T),i < xs.length →
   (xs.set i x).flatMap κ.cells = (xs.flatMap κ.cells).take (i * κ.sz) ++ κ.cells x ++ (xs.flatMap κ.cells).drop (i * κ.sz + κ.sz) := by
 induction xs with
 | nil => intro i x h; simp at h
 | cons y ys ih =>
   intro i x h
   cases i with
   | zero =>
     rw [List.set_cons_zero,List.flatMap_cons,List.flatMap_cons,Nat.zero_mul,Nat.zero_add,List.take_zero,List.nil_append,← K.cells_length κ y,List.drop_left]
   | succ i =>
     rw [List.set_cons_succ,List.flatMap_cons,List.flatMap_cons,ih i x (by simpa using h)]
     have e1:(i + 1) * κ.sz = (κ.cells y).length + i * κ.sz := by rw [K.cells_length,Nat.add_mul]; omega
     rw [e1,List.take_length_add_append,Nat.add_assoc,List.drop_length_add_append]
     simp only [List.append_assoc]
theorem list_put {α:Type} (L new:List α) (s off n sz X:Nat) (h1:s + sz ≤ X) (h2:X ≤ L.length) (h3:off + n ≤ sz) (h4:new.length = n) :
   (L.take (s + off) ++ new ++ L.drop (s + off + n)).take X = (L.take X).take s ++ (((L.drop s).take sz).take off ++ new ++ ((L.drop s).take sz).drop (off + n)) ++ (L.take X).drop (s + sz) := by
 apply List.ext_getElem?
 intro j
 simp only [List.getElem?_take,List.getElem?_append,List.getElem?_drop,List.length_append,List.length_take,List.length_drop]
 grind
section
variable (E:Env)
theorem run_storeVar {T:TypeId} {n:Nat} (hn:E.size T = some n) (w:World) (b o:Nat) (v:Value) (cur:Array Value) (t:TypeId) (hg:w.heap[b]? = some (.cells cur t (0,0))) (hl:v.cells.toList.length = n)
   (hle:o + n ≤ cur.size) (h1:∀ u ∈ v.cells.toList,u.oneCell' = true) :
   (storeVar T ⟨b,o,none⟩ v).run E.P w = .ok () (w.setRow b (cur.toList.take o ++ v.cells.toList ++ cur.toList.drop (o + n)).toArray) := by
 have hs := run_storeCells_at E.P b o t v.cells.toList 0 cur w hg (by omega) h1
 simp only [Nat.add_zero,hl] at hs
 unfold storeVar
 rw [Sem.run_bind,run_sizeOf E hn]
 simp only [Result.andThen_ok]
 rw [if_neg (by rw [← Array.length_toList]; simpa using hl)]
 exact hs
theorem setRow_block (w:World) (g:Nat) (cs:Array Value):∀ b,b ≠ g → (w.setRow g cs).heap[b]? = w.heap[b]? := fun b h => setRow_other w g b cs h
theorem op_storeG {o:Oper} {F:Fr} {H0 H H':Hp} {T:TypeId} {p x:Operand} {pv v:SV} (ho:o.op = .store T p x) (hlen0:H0.length ≤ H.length)
   (hpre:∀ (C:Cx) (ρ:Nat → Tk) (a:Act) (w:World),FRel C ρ H0.length F a.tmps → Rel C ρ H0 w →
     ∃ ρ',(∀ t,t < H0.length → ρ' t = ρ t) ∧ Rel C ρ' H w ∧ (a.eval p = den ρ' pv ∧ pv.ok C.R C.w1 ρ' H.length) ∧ (a.eval x = den ρ' v ∧ v.ok C.R C.w1 ρ' H.length))
   (hs:storeAt E H T pv v = some H') :
   OpGood0 E.P o F H0 (.raw undef) H' := by
 unfold storeAt at hs
 split at hs
 case isFalse => cases hs
 rename_i hc
 simp only [storeFits,Bool.and_eq_true] at hc
 obtain ⟨hlv,hsz⟩ := hc
 cases hn:E.size T with
 | none => rw [hn] at hsz; cases hsz
 | some n =>
 rw [hn] at hsz
 have hn' := Nat.eq_of_beq_eq_true hsz
 -- what is to be shown, with the object that is written
 suffices hm:∃ t o1 o2,H[t]? = some o1 ∧ H' = H.set t o2 ∧ ∀ (C:Cx) (ρ:Nat → Tk) (w:World),Rel C ρ H w → pv.ok C.R C.w1 ρ H.length → v.ok C.R C.w1 ρ H.length →
     ∃ ad cur' E' old,den ρ pv = .pointer (some ad) ∧ ad.spot = none ∧ ad.block = (ρ t).blk ∧ w.heap[(ρ t).blk]? = some (.cells old E' (0,0)) ∧
       (storeVar T ad (den ρ v)).run E.P w = .ok () (w.setRow (ρ t).blk cur') ∧ blkOf ρ H t = some (ρ t).blk ∧ blkOf ρ (H.set t o2) t = some (ρ t).blk ∧ o2.ok C.R C.w1 ρ H.length ∧
       (∀ w',w'.heap[(ρ t).blk]? = some (.cells cur' E' (0,0)) → ObjRel ρ w' (ρ t) o2) by
   obtain ⟨t,o1,o2,ht,rfl,hm⟩ := hm
   refine ⟨by simpa using hlen0,fun C ρ0 a w hF hR0 next Q hnx => ?_⟩
   obtain ⟨ρ,hag,hR,⟨h1,h2⟩,⟨h3,h4⟩⟩ := hpre C ρ0 a w hF hR0
   obtain ⟨ad,cur',E',old,e1,_,_,e3,e4,e5,e6,e7,e8⟩ := hm C ρ w hR h2 h4
   have hR' := hR.setObj (w' := w.setRow (ρ t).blk cur') ht e5 (setRow_block w _ _) (by simp) rfl rfl rfl (e8 _ (setRow_heap w _ _ _ _ _ e3)) e6 e7
   have := hnx ρ _ hag hR' (by simp [SV.ok,undef])
   unfold Oper.wp
   simp only [execOp,ho,h1,e1,h3,Instr.storeAt,Instr.sureAddr,Sem.run_bind,Sem.run_pure,Result.andThen_ok,e4]
   exact this
 split at hs
 · -- a plain address
   rename_i t off
   split at hs
   · rename_i l T' ht
     obtain ⟨l',hl',e⟩ := bindO_some hs
     cases e
     refine ⟨t,_,.cells l' T',ht,rfl,fun C ρ w hR hpv hv => ?_⟩
     obtain ⟨c1,c2⟩ := cells_den ρ _ _ _ v hv hR.hdr
     have hok := hR.ok t _ ht
     have hob := hR.obj t _ ht
     simp only [ObjRel] at hob
     obtain ⟨p1,p2,p3,p4⟩ := segPut_spec (ρ := ρ) hok.1 c2 hl'
     have hlen:(denC ρ v.cells).length = n := by rw [segWidth_eq c2,hn']
     have hst := run_storeVar E hn w (ρ t).blk off (den ρ v) _ T' hob (by rw [c1,hlen]) (by simp; omega) (by rw [c1]; exact leaf_one hR.hdr c2 hlv)
     refine ⟨_,_,T',_,rfl,rfl,rfl,hob,hst,by rw [blkOf_eq ht]; rfl,by rw [blkOf_eq (o := .cells l' T') (by rw [List.getElem?_set_self (List.getElem?_eq_some_iff.1 ht).1])]; rfl,⟨p3,p4 hok.2 hlv⟩,fun w' hw' => ?_⟩
     simp only [ObjRel]
     rw [hw',p1,c1,hlen]
   · cases hs
 · -- an element of an array
   rename_i t off κ i m0
   split at hs
   · rename_i l T' ht
     split at hs
     · rename_i κ' xs m hseg
       split at hs
       · rename_i he
         obtain ⟨e1,e2⟩ := he
         subst e1
         obtain ⟨x',hx',h2⟩ := bindO_some hs
         obtain ⟨l',hl',e⟩ := bindO_some h2
         cases e
         have em := Nat.eq_of_beq_eq_true e2
         refine ⟨t,_,.cells l' T',ht,rfl,fun C ρ w hR hpv hv => ?_⟩
         obtain ⟨c1,c2⟩ := cells_den ρ _ _ _ v hv hR.hdr
         have hok := hR.ok t _ ht
         have hob := hR.obj t _ ht
         simp only [ObjRel] at hob
         obtain ⟨A,B,g1,g2,g3⟩ := segAt_spec (ρ := ρ) hok.1 hseg
         have hxl:xs.length = m := g3.1
         have hi:i < xs.length := by have := hpv.2; omega
         obtain ⟨hdx,hdo⟩ := dec_cells ρ _ κ' _ _ hx' c2
         obtain ⟨p1,p2,p3,p4⟩ := segPut_spec (ρ := ρ) hok.1 (new := [.arr κ' (xs.set i x') m]) ⟨⟨by rw [List.length_set]; exact hxl,g3.2.set i hdo⟩,trivial⟩ hl'
         have hlen:(denC ρ v.cells).length = n := by rw [segWidth_eq c2,hn']
         have hnsz:n = κ'.sz := by rw [← hlen,hdx,K.cells_length]
         simp only [denC,cell1,List.append_nil] at g1 p1 p2
         have hfl := cells_flat_length κ' xs
         have hle:off + i * κ'.sz + n ≤ (denC ρ l).length := by
           rw [g1,List.length_append,List.length_append,g2,hfl,hnsz]
           have:(i + 1) * κ'.sz ≤ xs.length * κ'.sz := Nat.mul_le_mul_right _ hi
           rw [Nat.add_mul] at this; omega
         have hst := run_storeVar E hn w (ρ t).blk (off + i * κ'.sz) (den ρ v) _ T' hob (by rw [c1,hlen]) (by simpa using hle) (by rw [c1]; exact leaf_one hR.hdr c2 hlv)
         refine ⟨_,_,T',_,rfl,rfl,rfl,hob,hst,by rw [blkOf_eq ht]; rfl,by rw [blkOf_eq (o := .cells l' T') (by rw [List.getElem?_set_self (List.getElem?_eq_some_iff.1 ht).1])]; rfl,⟨p3,p4 hok.2 (by simp [leavesB,SV.leafB])⟩,fun w' hw' => ?_⟩
         simp only [ObjRel]
         rw [hw',p1,c1,hdx,flat_set κ' xs i x' hi,hnsz]
         have hsl:((xs.set i x').flatMap κ'.cells).length = xs.length * κ'.sz := by rw [cells_flat_length,List.length_set]
         have hfs := flat_set κ' xs i x' hi
         rw [← hfs,hsl,hfs]
         congr 2
         apply congrArg
         rw [g1]
         have t1:(A ++ xs.flatMap κ'.cells ++ B).take off = A := by rw [← g2,List.append_assoc,List.take_left]
         have t2:(A ++ xs.flatMap κ'.cells ++ B).drop (off + xs.length * κ'.sz) = B := by
           rw [← g2,← hfl,← List.length_append,List.drop_left]
         have t3:(A ++ xs.flatMap κ'.cells ++ B).take (off + i * κ'.sz) = A ++ (xs.flatMap κ'.cells).take (i * κ'.sz) := by
           rw [← g2,List.append_assoc,List.take_length_add_append,List.take_append_of_le_length]
           rw [hfl]; exact Nat.mul_le_mul_right _ (Nat.le_of_lt hi)
         have t4:(A ++ xs.flatMap κ'.cells ++ B).drop (off + i * κ'.sz + κ'.sz) = (xs.flatMap κ'.cells).drop (i * κ'.sz + κ'.sz) ++ B := by
           rw [← g2,Nat.add_assoc,List.append_assoc,List.drop_length_add_append,List.drop_append_of_le_length]
           rw [hfl]
           have:(i + 1) * κ'.sz ≤ xs.length * κ'.sz := Nat.mul_le_mul_right _ hi
           rw [Nat.add_mul] at this; omega
         rw [t1,t2,t3,t4]
         simp only [List.append_assoc]
       · cases hs
     · cases hs
   · cases hs
 · -- an element of a slice
   rename_i t κ i off
   split at hs
   · rename_i κ' xs T' ht
     split at hs
     · rename_i he
       subst he
       obtain ⟨l',hl',h2⟩ := bindO_some hs
       obtain ⟨x',hx',e⟩ := bindO_some h2
       cases e
       refine ⟨t,_,.seq κ' (xs.set i x') T',ht,rfl,fun C ρ w hR hpv hv => ?_⟩
       obtain ⟨c1,c2⟩ := cells_den ρ _ _ _ v hv hR.hdr
       have hob := hR.obj t _ ht
       obtain ⟨hlt,a',m',cp,hh,hi⟩ := hpv
       have hin:InOk C.R C.w1 κ' xs := hR.ok t _ ht
       obtain ⟨p1,p2,p3,p4⟩ := segPut_spec (ρ := ρ) (enc_ok ρ H.length κ' (xs.getD i κ'.dflt) (hin.get i)) c2 hl'
       obtain ⟨hdx,hdo⟩ := dec_cells ρ _ κ' _ _ hx' p3
       have hlen:(denC ρ v.cells).length = n := by rw [segWidth_eq c2,hn']
       rw [denC_enc] at p1 p2
       rw [K.cells_length,hlen] at p2
       rcases hob.1.2 with ⟨e,e0⟩ | ⟨gb,cap,cur,e,_,hg2,hcap,hmax,hcur,htake⟩
       · rw [e] at hh; cases hh; omega
       have hb:gb = (ρ t).blk := hob.2 gb (by rw [e]; rfl)
       rw [e] at hh
       cases hh
       subst hb
       have hfl := cells_flat_length κ' xs
       have hxi:(i + 1) * κ'.sz ≤ xs.length * κ'.sz := Nat.mul_le_mul_right _ hi
       have hxc:xs.length * κ'.sz ≤ cur.size := by rw [hcur]; exact Nat.mul_le_mul_right _ hcap
       rw [Nat.add_mul] at hxi
       have hst := run_storeVar E hn w (ρ t).blk (i * κ'.sz + off) (den ρ v) _ T' hg2 (by rw [c1,hlen]) (by omega) (by rw [c1]; exact leaf_one hR.hdr c2 hlv)
       have hbk:(ρ t).hdr.ownBlock = some (ρ t).blk := by rw [e]; rfl
       refine ⟨_,_,T',_,rfl,rfl,rfl,hg2,hst,by rw [blkOf_eq ht]; exact hbk,by rw [blkOf_eq (o := .seq κ' (xs.set i x') T') (by rw [List.getElem?_set_self (List.getElem?_eq_some_iff.1 ht).1])]; exact hbk,hin.set i hdo,fun w' hw' => ?_⟩
       simp only [ObjRel]
       refine ⟨⟨by rw [cells_flat_length],.inr ⟨(ρ t).blk,cp,_,by rw [List.length_set]; exact e,Nat.zero_le _,hw',by rw [List.length_set]; exact hcap,hmax,?_,?_⟩⟩,hob.2⟩
       · simp only [List.size_toArray, List.length_append, List.length_take, List.length_drop, Array.length_toList, c1, hlen]
         omega
       · rw [List.length_set, flat_set κ' xs i x' hi, ← hdx, p1, c1, hlen, ← htake]
         generalize hcl:cur.toList = L at *
         have hL:L.length = cur.size := by rw [← hcl]; simp
         generalize hX:xs.length * κ'.sz = X at *
         have hget:κ'.cells (xs.getD i κ'.dflt) = (L.drop (i * κ'.sz)).take κ'.sz := by
           apply List.ext_getElem?
           intro j
           by_cases hj:j < κ'.sz
           · have hjl : j < (κ'.cells (xs.getD i κ'.dflt)).length := by rw [K.cells_length]; exact hj
             have := elem_cells κ' xs i hi j _ (List.getElem?_eq_getElem hjl)
             rw [← htake,List.getElem?_take,if_pos (by omega)] at this
             rw [List.getElem?_eq_getElem hjl,List.getElem?_take,if_pos hj,List.getElem?_drop,this]
           · rw [List.getElem?_eq_none (by rw [K.cells_length]; omega),List.getElem?_take,if_neg hj]
         rw [hget]
         exact list_put L _ _ off n κ'.sz X (by omega) (by omega) p2 hlen
     · cases hs
   · cases hs
 · cases hs
theorem op_store {o:Oper} {F:Fr} {H H':Hp} {T:TypeId} {p x:Operand} {pv v:SV} (ho:o.op = .store T p x) (hp:opd F p = some pv) (hx:opd F x = some v) (hs:storeAt E H T pv v = some H') :
   OpGood0 E.P o F H (.raw undef) H' :=
 op_storeG E ho (Nat.le_refl _) (fun C ρ a w hF hR => ⟨ρ,fun _ _ => rfl,hR,opd_spec hF hp,opd_spec hF hx⟩) hs
end
end
section
open Go Go.RowKit
section
variable (E:Env)
theorem op_move {o:Oper} {F:Fr} {H:Hp} {x:Operand} {v:SV} (ho:o.op = .move x ∨ o.op = .assign x) (hx:opd F x = some v):OpGood0 E.P o F H v H :=
 .val fun C ρ a w hF hR => by
   obtain ⟨h1,h2⟩ := opd_spec hF hx
   refine ⟨?_,h2⟩
   rcases ho with ho | ho <;> simp only [execOp,ho,h1,Sem.run_pure]
theorem op_pick {o:Oper} {F:Fr} {H:Hp} {c x y:Operand} {b:Bool} {v u:SV} (ho:o.op = .pick c x y) (hc:opd F c = some (.bool b)) (hx:opd F x = some v) (hy:opd F y = some u) :
   OpGood0 E.P o F H (if b then v else u) H :=
 .val fun C ρ a w hF hR => by
   obtain ⟨h1,_⟩ := opd_spec hF hc
   obtain ⟨h3,h4⟩ := opd_spec hF hx
   obtain ⟨h5,h6⟩ := opd_spec hF hy
   cases b
   · exact ⟨by simp [execOp,ho,h1,h5,den,asBool],h6⟩
   · exact ⟨by simp [execOp,ho,h1,h3,den,asBool],h4⟩
theorem op_nilCheck {o:Oper} {F:Fr} {H:Hp} {x:Operand} {t off:Nat} (ho:o.op = .nilCheck x) (hx:opd F x = some (.ptr t off)):OpGood0 E.P o F H (.ptr t off) H :=
 .val fun C ρ a w hF hR => by
   obtain ⟨h1,h2⟩ := opd_spec hF hx
   exact ⟨by simp [execOp,ho,h1,den],h2⟩
theorem op_nilCheckP {o:Oper} {F:Fr} {H:Hp} {x:Operand} {t off i:Nat} {κ:K} (ho:o.op = .nilCheck x) (hx:opd F x = some (.pix t κ i off)):OpGood0 E.P o F H (.pix t κ i off) H :=
 .val fun C ρ a w hF hR => by
   obtain ⟨h1,h2⟩ := opd_spec hF hx
   exact ⟨by simp [execOp,ho,h1,den],h2⟩
theorem op_nilCheckR {o:Oper} {F:Fr} {H:Hp} {x:Operand} {off i:Nat} {v:Value} {κ:K} {xs:List κ.T} (ho:o.op = .nilCheck x) (hx:opd F x = some (.rix v κ xs i off)):OpGood0 E.P o F H (.rix v κ xs i off) H :=
 .val fun C ρ a w hF hR => by
   obtain ⟨h1,h2⟩ := opd_spec hF hx
   refine ⟨?_,h2⟩
   simp only [SV.ok] at h2
   obtain ⟨h2,hi⟩ := h2
   rcases h2 with ⟨he,_⟩ | ⟨ad,cap,e1,_⟩
   · subst he; simp at hi
   · subst e1
     simp [execOp,ho,h1,den,rixAddr]
theorem unS_spec {op:UnOp} {x v:SV} (h:unS op x = some v) (ρ:Nat → Tk) (R:Nat → Prop) (w1:World) (n:Nat) (P:Program) (w:World):(Op.unary op (den ρ x)).run P w = .ok (den ρ v) w ∧ v.ok R w1 ρ n := by
 unfold unS at h
 split at h <;> first | (cases h; done) | (cases h; simp [den,Op.unary,Op.intArith,Op.intBits,bxorI,SV.ok])
theorem op_unOp {o:Oper} {F:Fr} {H:Hp} {op:UnOp} {T:TypeId} {x:Operand} {u v:SV} (ho:o.op = .unOp op T x) (hx:opd F x = some u) (hv:unS op u = some v):OpGood0 E.P o F H v H :=
 .val fun C ρ a w hF hR => by
   obtain ⟨h1,_⟩ := opd_spec hF hx
   obtain ⟨h3,h4⟩ := unS_spec hv ρ C.R C.w1 H.length E.P w
   exact ⟨by simp [execOp,ho,h1,h3],h4⟩
theorem op_convert {o:Oper} {F:Fr} {H:Hp} {src dst:TypeId} {x:Operand} {k k':IntKind} {n:Int} (ho:o.op = .convert src dst x) (hx:opd F x = some (.int k' n)) (hd:E.P.underlying dst = some (.int k)) (hs:∃ d,E.P.underlying src = some d) :
   OpGood0 E.P o F H (.int k (k.wrap n)) H :=
 .val fun C ρ a w hF hR => by
   obtain ⟨h1,_⟩ := opd_spec hF hx
   obtain ⟨d,hs⟩ := hs
   refine ⟨?_,by simp [SV.ok]⟩
   simp only [execOp,ho,h1,den,convert,Sem.run_bind,run_underlying hd,run_underlying hs,Result.andThen_ok]
   cases d <;> simp [Conv.intToInt]
theorem op_makeFunc {o:Oper} {F:Fr} {H:Hp} {f:FuncId} {first cap:Array Operand} {a b:List SV} (ho:o.op = .makeFunc (.func f) first cap) (ha:opds F first.toList = some a) (hb:opds F cap.toList = some b) :
   OpGood0 E.P o F H (.fn f a b) H :=
 .val fun C ρ A w hF hR => by
   obtain ⟨h1,h2⟩ := opds_spec hF ha
   obtain ⟨h3,h4⟩ := opds_spec hF hb
   refine ⟨?_,by simp only [SV.ok]; exact ⟨h2,h4⟩⟩
   simp only [execOp,ho,den,Instr.makeFunc,Sem.run_bind,Sem.run_pure,Result.andThen_ok]
   rw [← h1,← h3]
   congr 3 <;> exact (Array.toList_inj.1 (by simp))
theorem binI_spec {α:Type} {op:BinOp} {k:IntKind} {a b:Int} {K:SV → Option α} {r:α} (h:binI op k a b K = some r) :
   ∃ v,K v = some r ∧ ∀ (ρ:Nat → Tk) (R:Nat → Prop) (w1:World) (n:Nat) (T:TypeId) (P:Program) (w:World) (x y:Operand),(do eqGuard op T x y (.int k a) (.int k b); binOp op T (.int k a) (.int k b)).run P w = .ok (den ρ v) w ∧ v.ok R w1 ρ n := by
 unfold binI at h
 split at h
 all_goals first
   | (cases h; done)
   | (split at h <;> first
       | (cases h; done)
       | (rename_i hb; exact ⟨_,h,fun ρ R w1 n T P w x y => ⟨by simp [eqGuard,binOp,Op.intDiv,hb,den],by simp [SV.ok]⟩⟩))
   | exact ⟨_,h,fun ρ R w1 n T P w x y => ⟨by simp [eqGuard,binOp,Op.intArith,Op.intBits,Op.intCmp,den,bandI,borI,bxorI,bclrI,cEq_eq,cLt_eq,cLe_eq,bne],by simp [SV.ok]⟩⟩
theorem run_part {T:TypeId} {n:Nat} {ρ:Nat → Tk} {g:Bool} (hg:E.isAgg T = some g) (hn:E.size T = some n) {R:Nat → Prop} {w1:World} {m:Nat} {l r:List SV} {off:Nat} {v:SV}
   (ho:SV.okL R w1 ρ m l) (ht:segTake l off n = some r) (hv:mkVal g r = some v) (w:World):(part T (denC ρ l).toArray off).run E.P w = .ok (den ρ v) w ∧ v.ok R w1 ρ m := by
 obtain ⟨⟨A,B,e1,e2⟩,e3,e4,_⟩ := segTake_spec (ρ := ρ) ho ht
 refine ⟨?_,mkVal_ok hv e4⟩
 have hm := mkVal_den (ρ := ρ) hv
 have hx:((denC ρ l).toArray.extract off (off + n)).toList = denC ρ r := by
   rw [Array.toList_extract,e1,← e2,← e3]
   simp
 unfold part
 rw [Sem.run_bind,run_isAgg E hg]
 cases g with
 | true =>
   simp only [if_true] at hm
   simp only [Result.andThen_ok,if_true,Sem.run_bind,run_sizeOf E hn,Sem.run_pure,hm]
   congr 2
   apply Array.toList_inj.1
   rw [hx]
 | false =>
   simp only [Bool.false_eq_true,if_false] at hm
   have:(denC ρ l).toArray[off]? = some (den ρ v) := by
     rw [List.getElem?_toArray,e1,← e2,hm]
     simp
   simp [this]
def EqOk (d:Nat) (T:TypeId) (xs ys:List SV) (r:Bool):Prop :=
 ∀ (ρ:Nat → Tk) (R:Nat → Prop) (w1:World) (n:Nat) (w:World),SV.okL R w1 ρ n xs → SV.okL R w1 ρ n ys → ∀ g,E.isAgg T = some g → ∀ u v,mkVal g xs = some u → mkVal g ys = some v → ∀ d',d ≤ d' → (Op.equalIn d' T (den ρ u) (den ρ v)).run E.P w = .ok r w
theorem eqFs_spec {eq:TypeId → List SV → List SV → Option Bool} {d:Nat} (heq:∀ T a b r,eq T a b = some r → EqOk E d T a b r)
   (hagg:∀ T a b r,eq T a b = some r → ∃ g u v,E.isAgg T = some g ∧ mkVal g a = some u ∧ mkVal g b = some v) (xs ys:List SV):∀ (fs:List Field) (r:Bool),eqFs E eq xs ys fs = some r →
   ∀ (ρ:Nat → Tk) (R:Nat → Prop) (w1:World) (n:Nat) (w:World),SV.okL R w1 ρ n xs → SV.okL R w1 ρ n ys → ∀ d',d ≤ d' → (Op.eqFields d' (denC ρ xs).toArray (denC ρ ys).toArray fs).run E.P w = .ok r w
 | [],r,h,ρ,R,w1,n,w,h1,h2,d',hd => by
   simp only [eqFs,Option.some.injEq] at h; subst h; simp [Op.eqFields]
 | f :: fs,r,h,ρ,R,w1,n,w,h1,h2,d',hd => by
   simp only [eqFs] at h
   split at h
   · rename_i hne
     split at h
     · rename_i m hm
       obtain ⟨a,ha,h⟩ := bindO_some h
       obtain ⟨b,hb,h⟩ := bindO_some h
       obtain ⟨r1,hr1,h⟩ := bindO_some h
       obtain ⟨r2,hr2,h⟩ := bindO_some h
       cases h
       obtain ⟨g,u,v,hg,hu,hv⟩ := hagg _ _ _ _ hr1
       have p1 := run_part E hg hm h1 ha hu w
       have p2 := run_part E hg hm h2 hb hv w
       have oa := (segTake_spec (ρ := ρ) h1 ha).2.2.1
       have ob := (segTake_spec (ρ := ρ) h2 hb).2.2.1
       have he := heq _ _ _ _ hr1 ρ R w1 n w oa ob g hg u v hu hv d' hd
       have ih := eqFs_spec heq hagg xs ys fs r2 hr2 ρ R w1 n w h1 h2 d' hd
       have hne' : f.name ≠ "_" := by simpa using hne
       simp only [Op.eqFields,if_pos hne',Sem.run_bind,p1.1,p2.1,he,Result.andThen_ok,Sem.run_ite,Sem.run_pure]
       cases r1 <;> simp [ih]
     · cases h
   · cases h
theorem eqAs_spec {eq:List SV → List SV → Option Bool} {d:Nat} {e:TypeId} (heq:∀ a b r,eq a b = some r → EqOk E d e a b r)
   (hagg:∀ a b r,eq a b = some r → ∃ g u v,E.isAgg e = some g ∧ mkVal g a = some u ∧ mkVal g b = some v) (xs ys:List SV) (sz:Nat) (hsz:E.size e = some sz):∀ (m i:Nat) (r:Bool),eqAs eq xs ys sz m i = some r →
   ∀ (ρ:Nat → Tk) (R:Nat → Prop) (w1:World) (n:Nat) (w:World),SV.okL R w1 ρ n xs → SV.okL R w1 ρ n ys → ∀ d',d ≤ d' →
   (forIn (List.range' i m 1) ((none : Option Bool), ()) fun j (_ : Option Bool × Unit) => (do
       let a ← part e (denC ρ xs).toArray (j * sz)
       let b ← part e (denC ρ ys).toArray (j * sz)
       let c ← Op.equalIn d' e a b
       if (!c) = true then pure (ForInStep.done (some false,())) else pure (ForInStep.yield (none,())):Sem (ForInStep (Option Bool × Unit)))).run E.P w = .ok (if r then (none,()) else (some false,())) w
 | 0,i,r,h,ρ,R,w1,n,w,h1,h2,d',hd => by
   simp only [eqAs,Option.some.injEq] at h; subst h; simp
 | m + 1,i,r,h,ρ,R,w1,n,w,h1,h2,d',hd => by
   simp only [eqAs] at h
   obtain ⟨a,ha,h⟩ := bindO_some h
   obtain ⟨b,hb,h⟩ := bindO_some h
   obtain ⟨r1,hr1,h⟩ := bindO_some h
   obtain ⟨r2,hr2,h⟩ := bindO_some h
   cases h
   obtain ⟨g,u,v,hg,hu,hv⟩ := hagg _ _ _ hr1
   have p1 := run_part E hg hsz h1 ha hu w
   have p2 := run_part E hg hsz h2 hb hv w
   have oa := (segTake_spec (ρ := ρ) h1 ha).2.2.1
   have ob := (segTake_spec (ρ := ρ) h2 hb).2.2.1
   have he := heq _ _ _ hr1 ρ R w1 n w oa ob g hg u v hu hv d' hd
   have ih := eqAs_spec heq hagg xs ys sz hsz m (i + 1) r2 hr2 ρ R w1 n w h1 h2 d' hd
   simp only [List.range'_succ,List.forIn_cons,Sem.run_bind,p1.1,p2.1,he,Result.andThen_ok,Sem.run_ite,Sem.run_pure]
   cases r1
   · simp
   · simpa using ih
theorem eqT_agg:∀ (d:Nat) (T:TypeId) (a b:List SV) (r:Bool),eqT E d T a b = some r → ∃ g u v,E.isAgg T = some g ∧ mkVal g a = some u ∧ mkVal g b = some v
 | 0,_,_,_,_,h => by simp [eqT] at h
 | d + 1,T,a,b,r,h => by
   simp only [eqT] at h
   split at h
   · rename_i k hu
     split at h
     · exact ⟨false,_,_,by simp [Env.isAgg,hu],rfl,rfl⟩
     · cases h
   · rename_i hu
     split at h
     · exact ⟨false,_,_,by simp [Env.isAgg,hu],rfl,rfl⟩
     · cases h
   · rename_i fs hu
     exact ⟨true,_,_,by simp [Env.isAgg,hu],rfl,rfl⟩
   · rename_i m e hu
     exact ⟨true,_,_,by simp [Env.isAgg,hu],rfl,rfl⟩
   · cases h
theorem eqT_spec:∀ (d:Nat) (T:TypeId) (a b:List SV) (r:Bool),eqT E d T a b = some r → EqOk E d T a b r
 | 0,_,_,_,_,h => by simp [eqT] at h
 | d + 1,T,a,b,r,h => by
   intro ρ R w1 n w h1 h2 g hg u v hu hv d' hd
   obtain ⟨d',rfl⟩:∃ m,d' = m + 1 := ⟨d' - 1,by omega⟩
   simp only [eqT] at h
   split at h
   · rename_i k hT
     have:g = false := by simp [Env.isAgg,hT] at hg; exact hg
     subst this
     split at h
     · split at h
       · rename_i hk
         cases h; cases hu; cases hv
         subst hk
         simp [cEq_eq,den,Op.equalIn,run_underlying hT]
       · cases h
     · cases h
   · rename_i hT
     have:g = false := by simp [Env.isAgg,hT] at hg; exact hg
     subst this
     split at h
     · cases h; cases hu; cases hv
       simp [den,Op.equalIn,run_underlying hT]
     · cases h
   · rename_i fs hT
     have:g = true := by simp [Env.isAgg,hT] at hg; exact hg
     subst this
     split at h
     · cases h
     · rename_i hs
       cases hu; cases hv
       have hf:E.P.fieldsOf T = fs := by simp [Program.fieldsOf,hT]
       rw [← hf] at h
       simp only [den]
       rw [run_equalIn_struct w d' T _ _ (by rw [hf]; exact hT) (by simpa using hs)]
       exact eqFs_spec E (eqT_spec d) (eqT_agg E d) a b _ r h ρ R w1 n w h1 h2 d' (by omega)
   · rename_i m e hT
     have:g = true := by simp [Env.isAgg,hT] at hg; exact hg
     subst this
     split at h
     · rename_i sz hsz
       cases hu; cases hv
       have := eqAs_spec E (eqT_spec d e) (eqT_agg E d e) a b sz hsz m 0 r h ρ R w1 n w h1 h2 d' (by omega)
       simp only [den,Op.equalIn,Sem.run_bind,run_underlying hT,Result.andThen_ok,run_sizeOf E hsz,Std.Legacy.Range.forIn_eq_forIn_range',Std.Legacy.Range.size]
       simp only [Nat.sub_zero,Nat.add_sub_cancel,Nat.div_one,this,Result.andThen_ok]
       cases r <;> simp
     · cases h
   · cases h
theorem binS_spec {α:Type} {op:BinOp} {T:TypeId} {x y:SV} {K:SV → Option α} {r:α} (h:binS E op T x y K = some r) :
   ∃ v,K v = some r ∧ ∀ (ρ:Nat → Tk) (R:Nat → Prop) (w1:World) (n:Nat) (w:World) (p q:Operand),x.ok R w1 ρ n → y.ok R w1 ρ n → (do eqGuard op T p q (den ρ x) (den ρ y); binOp op T (den ρ x) (den ρ y)).run E.P w = .ok (den ρ v) w ∧ v.ok R w1 ρ n := by
 unfold binS at h
 split at h
 · split at h
   · cases h
   · rename_i hb; exact ⟨_,h,fun ρ R w1 n w p q _ _ => ⟨by simp [eqGuard,binOp,Op.shift,hb,den],by simp [SV.ok]⟩⟩
 · split at h
   · cases h
   · rename_i hb; exact ⟨_,h,fun ρ R w1 n w p q _ _ => ⟨by simp [eqGuard,binOp,Op.shift,hb,den],by simp [SV.ok]⟩⟩
 · split at h
   · rename_i hk
     subst hk
     obtain ⟨v,h1,h2⟩ := binI_spec h
     exact ⟨v,h1,fun ρ R w1 n w p q _ _ => by simp only [den]; exact h2 ρ R w1 n T E.P w p q⟩
   · cases h
 · split at h
   · rename_i hT
     refine ⟨_,h,fun ρ R w1 n w p q _ _ => ⟨?_,by simp [SV.ok]⟩⟩
     rename_i a b _ _ _
     have he:(Op.equal T (.bool a) (.bool b)).run E.P w = .ok (a == b) w := run_equalIn_bool' w 9999 T a b hT
     simp only [den]
     rw [Sem.run_bind,show eqGuard BinOp.eql T p q (.bool a) (.bool b) = pure () from rfl,Sem.run_pure,Result.andThen_ok,show binOp BinOp.eql T (.bool a) (.bool b) = (do pure (Value.bool (← Op.equal T (.bool a) (.bool b)))) from rfl,Sem.run_bind,he]
     rfl
   · cases h
 · split at h
   · rename_i hT
     refine ⟨_,h,fun ρ R w1 n w p q _ _ => ⟨?_,by simp [SV.ok]⟩⟩
     rename_i a b _ _ _
     have he:(Op.equal T (.bool a) (.bool b)).run E.P w = .ok (a == b) w := run_equalIn_bool' w 9999 T a b hT
     simp only [den]
     rw [Sem.run_bind,show eqGuard BinOp.neq T p q (.bool a) (.bool b) = pure () from rfl,Sem.run_pure,Result.andThen_ok,show binOp BinOp.neq T (.bool a) (.bool b) = (do pure (Value.bool (!(← Op.equal T (.bool a) (.bool b))))) from rfl,Sem.run_bind,he]
     rfl
   · cases h
 · split at h
   · rename_i hag
     split at h
     · cases h
     · rename_i hgd
       obtain ⟨b,hb,h⟩ := bindO_some h
       refine ⟨_,h,fun ρ R w1 n w p q hx hy => ⟨?_,by simp [SV.ok]⟩⟩
       have he := eqT_spec E _ _ _ _ _ hb ρ R w1 n w hx hy true hag _ _ rfl rfl 10000 (by omega)
       simp only [den] at he ⊢
       rw [Sem.run_bind,run_eqGuard_agg w .eql T p q _ _ (by simpa using hgd)]
       simp only [Result.andThen_ok]
       rw [run_eql_struct,he]; rfl
   · cases h
 · split at h
   · rename_i hag
     split at h
     · cases h
     · rename_i hgd
       obtain ⟨b,hb,h⟩ := bindO_some h
       refine ⟨_,h,fun ρ R w1 n w p q hx hy => ⟨?_,by simp [SV.ok]⟩⟩
       have he := eqT_spec E _ _ _ _ _ hb ρ R w1 n w hx hy true hag _ _ rfl rfl 10000 (by omega)
       simp only [den] at he ⊢
       rw [Sem.run_bind,run_eqGuard_agg w .neq T p q _ _ (by simpa using hgd)]
       simp only [Result.andThen_ok]
       rw [run_neq_struct,he]; rfl
   · cases h
 · split at h
   · rename_i e hT
     refine ⟨_,h,fun ρ R w1 n w p q hx _ => ⟨?_,by simp [SV.ok]⟩⟩
     rename_i v κ xs _ _
     simp only [SV.ok] at hx
     obtain ⟨a,m,c,rfl,hn⟩:∃ a m c,v = .slice a m c ∧ (a = none → xs.isEmpty = true) := by
       rcases hx with ⟨rfl,a,c,rfl⟩ | ⟨ad,c,rfl,_⟩
       · exact ⟨a,0,c,rfl,fun _ => rfl⟩
       · exact ⟨some ad,_,c,rfl,fun h => by cases h⟩
     have hq:(Op.equal T (.slice a m c) (.slice none 0 0)).run E.P w = .ok (nilV (.slice a m c)) w := by
       show (Op.equalIn 10000 T _ _).run E.P w = _
       unfold Op.equalIn
       rw [Sem.run_bind,run_underlying hT]
       cases a <;> rfl
     have hb:(nilV (.slice a m c) && xs.isEmpty) = nilV (.slice a m c) := by
       cases a with
       | none => simp [hn rfl]
       | some a => rfl
     simp only [den,hb]
     rw [Sem.run_bind,show eqGuard BinOp.eql T p q (.slice a m c) (.slice none 0 0) = pure () from rfl,Sem.run_pure,Result.andThen_ok,show binOp BinOp.eql T (.slice a m c) (.slice none 0 0) = (do pure (Value.bool (← Op.equal T (.slice a m c) (.slice none 0 0)))) from rfl,Sem.run_bind,hq]
     rfl
   · cases h
 · cases h
end
end
end Go.Proofs.YtfkgmidgdpfnkaaGreat.Sx
