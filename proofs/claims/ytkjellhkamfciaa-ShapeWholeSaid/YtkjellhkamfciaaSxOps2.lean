/- SX: stores, and operations on numbers, booleans and addresses. -/
import Derived.Test.YtkjellhkamfciaaSxOps
namespace Go.Proofs.Ytkjellhkamfciaa.Sx
open Go Go.RowKit

theorem segDrop_spec {R : Nat → Prop} {w : World} {n : Nat} {ρ : Nat → Tk} : ∀ {l : List SV} {off : Nat} {r : List SV}, SV.okL R w ρ n l → segDrop l off = some r →
    (∃ a, denC ρ l = a ++ denC ρ r ∧ a.length = off) ∧ SV.okL R w ρ n r ∧ (leavesB l = true → leavesB r = true)
  | l, 0, r, ho, h => by
    have hr : r = l := by
      have h' : some l = some r := by cases l <;> exact h
      cases h'; rfl
    subst hr
    exact ⟨⟨[], rfl, rfl⟩, ho, fun h => h⟩
  | [], off + 1, r, _, h => by cases (show none = some r from h)
  | x :: l, off + 1, r, ho, h => by
    rw [segDrop_cons] at h
    split at h
    · rename_i hx
      obtain ⟨⟨a, h1, h2⟩, h3, h4⟩ := segDrop_spec (ρ := ρ) ho.2 h
      refine ⟨⟨denC ρ [x] ++ a, ?_, ?_⟩, h3, fun hl => h4 (by simp only [leavesB, Bool.and_eq_true] at hl; exact hl.2)⟩
      · rw [denC_cons, h1]; simp
      · rw [List.length_append, width_eq x ho.1, h2]; omega
    · cases h
theorem leavesB_append : ∀ (l m : List SV), leavesB (l ++ m) = (leavesB l && leavesB m)
  | [], m => by simp [leavesB]
  | x :: l, m => by simp [leavesB, leavesB_append l m, Bool.and_assoc]
theorem segPut_spec {R : Nat → Prop} {w : World} {n : Nat} {ρ : Nat → Tk} {l new r : List SV} {off : Nat} (ho : SV.okL R w ρ n l) (hn : SV.okL R w ρ n new) (h : segPut l off new = some r) :
    denC ρ r = (denC ρ l).take off ++ denC ρ new ++ (denC ρ l).drop (off + (denC ρ new).length) ∧ off + (denC ρ new).length ≤ (denC ρ l).length ∧ SV.okL R w ρ n r ∧ (leavesB l = true → leavesB new = true → leavesB r = true) := by
  unfold segPut at h
  split at h
  · rename_i a b ha hb
    cases h
    obtain ⟨⟨A, B, h1, h2⟩, h3, h4, h5⟩ := segTake_spec (ρ := ρ) ho ha
    obtain ⟨⟨D, g1, g2⟩, g3, g4⟩ := segDrop_spec (ρ := ρ) ho hb
    have hA : A = [] := List.eq_nil_of_length_eq_zero h2
    subst hA
    rw [← segWidth_eq (ρ := ρ) hn] at g2
    refine ⟨?_, ?_, ?_, ?_⟩
    · rw [denC_append, denC_append]
      congr 1
      · congr 1
        rw [h1, ← h3]; simp
      · rw [g1, ← g2]; simp
    · rw [g1, List.length_append, g2]; omega
    · exact okL_append.2 ⟨okL_append.2 ⟨h4, hn⟩, g3⟩
    · intro hl hnl
      rw [leavesB_append, leavesB_append, h5 hl, hnl, g4 hl]; rfl
  · cases h

theorem flat_set (κ : K) (xs : List κ.T) : ∀ (i : Nat) (x : κ.T), i < xs.length →
    (xs.set i x).flatMap κ.cells = (xs.flatMap κ.cells).take (i * κ.sz) ++ κ.cells x ++ (xs.flatMap κ.cells).drop (i * κ.sz + κ.sz) := by
  induction xs with
  | nil => intro i x h; simp at h
  | cons y ys ih =>
    intro i x h
    cases i with
    | zero =>
      rw [List.set_cons_zero, List.flatMap_cons, List.flatMap_cons, Nat.zero_mul, Nat.zero_add, List.take_zero, List.nil_append, ← K.cells_length κ y, List.drop_left]
    | succ i =>
      rw [List.set_cons_succ, List.flatMap_cons, List.flatMap_cons, ih i x (by simpa using h)]
      have e1 : (i + 1) * κ.sz = (κ.cells y).length + i * κ.sz := by rw [K.cells_length, Nat.add_mul]; omega
      rw [e1, List.take_length_add_append, Nat.add_assoc, List.drop_length_add_append]
      simp only [List.append_assoc]

theorem list_put {α : Type} (L new : List α) (s off n sz X : Nat) (h1 : s + sz ≤ X) (h2 : X ≤ L.length) (h3 : off + n ≤ sz) (h4 : new.length = n) :
    (L.take (s + off) ++ new ++ L.drop (s + off + n)).take X = (L.take X).take s ++ (((L.drop s).take sz).take off ++ new ++ ((L.drop s).take sz).drop (off + n)) ++ (L.take X).drop (s + sz) := by
  apply List.ext_getElem?
  intro j
  simp only [List.getElem?_take, List.getElem?_append, List.getElem?_drop, List.length_append, List.length_take, List.length_drop]
  grind

section
variable (E : Env)
theorem run_storeVar {T : TypeId} {n : Nat} (hn : E.size T = some n) (w : World) (b o : Nat) (v : Value) (cur : Array Value) (t : TypeId) (hg : w.heap[b]? = some (.cells cur t (0, 0))) (hl : v.cells.toList.length = n)
    (hle : o + n ≤ cur.size) (h1 : ∀ u ∈ v.cells.toList, u.oneCell' = true) :
    (storeVar T ⟨b, o, none⟩ v).run E.P w = .ok () (w.setRow b (cur.toList.take o ++ v.cells.toList ++ cur.toList.drop (o + n)).toArray) := by
  have hs := run_storeCells_at E.P b o t v.cells.toList 0 cur w hg (by omega) h1
  simp only [Nat.add_zero, hl] at hs
  unfold storeVar
  rw [Sem.run_bind, run_sizeOf E hn]
  simp only [Result.andThen_ok]
  rw [if_neg (by rw [← Array.length_toList]; simpa using hl)]
  exact hs

theorem setRow_block (w : World) (g : Nat) (cs : Array Value) : ∀ b, b ≠ g → (w.setRow g cs).heap[b]? = w.heap[b]? := fun b h => setRow_other w g b cs h

theorem op_storeG {o : Oper} {F : Fr} {H0 H H' : Hp} {T : TypeId} {p x : Operand} {pv v : SV} (ho : o.op = .store T p x) (hlen0 : H0.length ≤ H.length)
    (hpre : ∀ (C : Cx) (ρ : Nat → Tk) (a : Act) (w : World), FRel C ρ H0.length F a.tmps → Rel C ρ H0 w →
      ∃ ρ', (∀ t, t < H0.length → ρ' t = ρ t) ∧ Rel C ρ' H w ∧ (a.eval p = den ρ' pv ∧ pv.ok C.R C.w1 ρ' H.length) ∧ (a.eval x = den ρ' v ∧ v.ok C.R C.w1 ρ' H.length))
    (hs : storeAt E H T pv v = some H') :
    OpGood E.P o F H0 (.raw undef) H' := by
  unfold storeAt at hs
  split at hs
  case isFalse => cases hs
  rename_i hc
  simp only [storeFits, Bool.and_eq_true] at hc
  obtain ⟨hlv, hsz⟩ := hc
  cases hn : E.size T with
  | none => rw [hn] at hsz; cases hsz
  | some n =>
  rw [hn] at hsz
  have hn' := Nat.eq_of_beq_eq_true hsz
  -- what is to be shown, with the object that is written
  suffices hm : ∃ t o1 o2, H[t]? = some o1 ∧ H' = H.set t o2 ∧ ∀ (C : Cx) (ρ : Nat → Tk) (w : World), Rel C ρ H w → pv.ok C.R C.w1 ρ H.length → v.ok C.R C.w1 ρ H.length →
      ∃ ad cur' E' old, den ρ pv = .pointer (some ad) ∧ ad.spot = none ∧ ad.block = (ρ t).blk ∧ w.heap[(ρ t).blk]? = some (.cells old E' (0, 0)) ∧
        (storeVar T ad (den ρ v)).run E.P w = .ok () (w.setRow (ρ t).blk cur') ∧ blkOf ρ H t = some (ρ t).blk ∧ blkOf ρ (H.set t o2) t = some (ρ t).blk ∧ o2.ok C.R C.w1 ρ H.length ∧
        (∀ w', w'.heap[(ρ t).blk]? = some (.cells cur' E' (0, 0)) → ObjRel ρ w' (ρ t) o2) by
    obtain ⟨t, o1, o2, ht, rfl, hm⟩ := hm
    refine ⟨by simpa using hlen0, fun C ρ0 a w hF hR0 next Q hnx => ?_⟩
    obtain ⟨ρ, hag, hR, ⟨h1, h2⟩, ⟨h3, h4⟩⟩ := hpre C ρ0 a w hF hR0
    obtain ⟨ad, cur', E', old, e1, _, _, e3, e4, e5, e6, e7, e8⟩ := hm C ρ w hR h2 h4
    have hR' := hR.setObj (w' := w.setRow (ρ t).blk cur') ht e5 (setRow_block w _ _) (by simp) rfl rfl rfl (e8 _ (setRow_heap w _ _ _ _ _ e3)) e6 e7
    have := hnx ρ _ hag hR' (by simp [SV.ok, undef])
    unfold Oper.wp
    simp only [execOp, ho, h1, e1, h3, Instr.storeAt, Instr.sureAddr, Sem.run_bind, Sem.run_pure, Result.andThen_ok, e4]
    exact this
  split at hs
  · -- a plain address
    rename_i t off
    split at hs
    · rename_i l T' ht
      obtain ⟨l', hl', e⟩ := bindO_some hs
      cases e
      refine ⟨t, _, .cells l' T', ht, rfl, fun C ρ w hR hpv hv => ?_⟩
      obtain ⟨c1, c2⟩ := cells_den ρ _ _ _ v hv hR.hdr
      have hok := hR.ok t _ ht
      have hob := hR.obj t _ ht
      simp only [ObjRel] at hob
      obtain ⟨p1, p2, p3, p4⟩ := segPut_spec (ρ := ρ) hok.1 c2 hl'
      have hlen : (denC ρ v.cells).length = n := by rw [segWidth_eq c2, hn']
      have hst := run_storeVar E hn w (ρ t).blk off (den ρ v) _ T' hob (by rw [c1, hlen]) (by simp; omega) (by rw [c1]; exact leaf_one hR.hdr c2 hlv)
      refine ⟨_, _, T', _, rfl, rfl, rfl, hob, hst, by rw [blkOf_eq ht]; rfl, by rw [blkOf_eq (o := .cells l' T') (by rw [List.getElem?_set_self (List.getElem?_eq_some_iff.1 ht).1])]; rfl, ⟨p3, p4 hok.2 hlv⟩, fun w' hw' => ?_⟩
      simp only [ObjRel]
      rw [hw', p1, c1, hlen]
    · cases hs
  · -- an element of an array
    rename_i t off κ i m0
    split at hs
    · rename_i l T' ht
      split at hs
      · rename_i κ' xs m hseg
        split at hs
        · rename_i he
          obtain ⟨e1, e2⟩ := he
          subst e1
          obtain ⟨x', hx', h2⟩ := bindO_some hs
          obtain ⟨l', hl', e⟩ := bindO_some h2
          cases e
          have em := Nat.eq_of_beq_eq_true e2
          refine ⟨t, _, .cells l' T', ht, rfl, fun C ρ w hR hpv hv => ?_⟩
          obtain ⟨c1, c2⟩ := cells_den ρ _ _ _ v hv hR.hdr
          have hok := hR.ok t _ ht
          have hob := hR.obj t _ ht
          simp only [ObjRel] at hob
          obtain ⟨A, B, g1, g2, g3⟩ := segAt_spec (ρ := ρ) hok.1 hseg
          have hxl : xs.length = m := g3
          have hi : i < xs.length := by have := hpv.2; omega
          obtain ⟨p1, p2, p3, p4⟩ := segPut_spec (ρ := ρ) hok.1 (new := [.arr κ' (xs.set i x') m]) (by simp only [SV.okL, SV.ok, List.length_set, hxl, and_self]) hl'
          have hdx := dec_cells ρ κ' _ _ hx'
          have hlen : (denC ρ v.cells).length = n := by rw [segWidth_eq c2, hn']
          have hnsz : n = κ'.sz := by rw [← hlen, hdx, K.cells_length]
          simp only [denC, cell1, List.append_nil] at g1 p1 p2
          have hfl := cells_flat_length κ' xs
          have hle : off + i * κ'.sz + n ≤ (denC ρ l).length := by
            rw [g1, List.length_append, List.length_append, g2, hfl, hnsz]
            have : (i + 1) * κ'.sz ≤ xs.length * κ'.sz := Nat.mul_le_mul_right _ hi
            rw [Nat.add_mul] at this; omega
          have hst := run_storeVar E hn w (ρ t).blk (off + i * κ'.sz) (den ρ v) _ T' hob (by rw [c1, hlen]) (by simpa using hle) (by rw [c1]; exact leaf_one hR.hdr c2 hlv)
          refine ⟨_, _, T', _, rfl, rfl, rfl, hob, hst, by rw [blkOf_eq ht]; rfl, by rw [blkOf_eq (o := .cells l' T') (by rw [List.getElem?_set_self (List.getElem?_eq_some_iff.1 ht).1])]; rfl, ⟨p3, p4 hok.2 (by simp [leavesB, SV.leafB])⟩, fun w' hw' => ?_⟩
          simp only [ObjRel]
          rw [hw', p1, c1, hdx, flat_set κ' xs i x' hi, hnsz]
          have hsl : ((xs.set i x').flatMap κ'.cells).length = xs.length * κ'.sz := by rw [cells_flat_length, List.length_set]
          have hfs := flat_set κ' xs i x' hi
          rw [← hfs, hsl, hfs]
          congr 2
          apply congrArg
          rw [g1]
          have t1 : (A ++ xs.flatMap κ'.cells ++ B).take off = A := by rw [← g2, List.append_assoc, List.take_left]
          have t2 : (A ++ xs.flatMap κ'.cells ++ B).drop (off + xs.length * κ'.sz) = B := by
            rw [← g2, ← hfl, ← List.length_append, List.drop_left]
          have t3 : (A ++ xs.flatMap κ'.cells ++ B).take (off + i * κ'.sz) = A ++ (xs.flatMap κ'.cells).take (i * κ'.sz) := by
            rw [← g2, List.append_assoc, List.take_length_add_append, List.take_append_of_le_length]
            rw [hfl]; exact Nat.mul_le_mul_right _ (Nat.le_of_lt hi)
          have t4 : (A ++ xs.flatMap κ'.cells ++ B).drop (off + i * κ'.sz + κ'.sz) = (xs.flatMap κ'.cells).drop (i * κ'.sz + κ'.sz) ++ B := by
            rw [← g2, Nat.add_assoc, List.append_assoc, List.drop_length_add_append, List.drop_append_of_le_length]
            rw [hfl]
            have : (i + 1) * κ'.sz ≤ xs.length * κ'.sz := Nat.mul_le_mul_right _ hi
            rw [Nat.add_mul] at this; omega
          rw [t1, t2, t3, t4]
          simp only [List.append_assoc]
        · cases hs
      · cases hs
    · cases hs
  · -- an element of a slice
    rename_i t κ i off
    split at hs
    · rename_i κ' xs T' ht
      split at hs
      · rename_i he
        subst he
        obtain ⟨l', hl', h2⟩ := bindO_some hs
        obtain ⟨x', hx', e⟩ := bindO_some h2
        cases e
        refine ⟨t, _, .seq κ' (xs.set i x') T', ht, rfl, fun C ρ w hR hpv hv => ?_⟩
        obtain ⟨c1, c2⟩ := cells_den ρ _ _ _ v hv hR.hdr
        have hob := hR.obj t _ ht
        obtain ⟨hlt, a', m', cp, hh, hi⟩ := hpv
        obtain ⟨p1, p2, p3, p4⟩ := segPut_spec (ρ := ρ) (enc_ok C.R C.w1 ρ H.length κ' (xs.getD i κ'.dflt)) c2 hl'
        have hdx := dec_cells ρ κ' _ _ hx'
        have hlen : (denC ρ v.cells).length = n := by rw [segWidth_eq c2, hn']
        rw [denC_enc] at p1 p2
        rw [K.cells_length, hlen] at p2
        rcases hob.1.2 with ⟨e, e0⟩ | ⟨gb, cap, cur, e, _, hg2, hcap, hmax, hcur, htake⟩
        · rw [e] at hh; cases hh; omega
        have hb : gb = (ρ t).blk := hob.2 gb (by rw [e]; rfl)
        rw [e] at hh
        cases hh
        subst hb
        have hfl := cells_flat_length κ' xs
        have hxi : (i + 1) * κ'.sz ≤ xs.length * κ'.sz := Nat.mul_le_mul_right _ hi
        have hxc : xs.length * κ'.sz ≤ cur.size := by rw [hcur]; exact Nat.mul_le_mul_right _ hcap
        rw [Nat.add_mul] at hxi
        have hst := run_storeVar E hn w (ρ t).blk (i * κ'.sz + off) (den ρ v) _ T' hg2 (by rw [c1, hlen]) (by omega) (by rw [c1]; exact leaf_one hR.hdr c2 hlv)
        have hbk : (ρ t).hdr.ownBlock = some (ρ t).blk := by rw [e]; rfl
        refine ⟨_, _, T', _, rfl, rfl, rfl, hg2, hst, by rw [blkOf_eq ht]; exact hbk, by rw [blkOf_eq (o := .seq κ' (xs.set i x') T') (by rw [List.getElem?_set_self (List.getElem?_eq_some_iff.1 ht).1])]; exact hbk, trivial, fun w' hw' => ?_⟩
        simp only [ObjRel]
        refine ⟨⟨by rw [cells_flat_length], .inr ⟨(ρ t).blk, cp, _, by rw [List.length_set]; exact e, Nat.zero_le _, hw', by rw [List.length_set]; exact hcap, hmax, ?_, ?_⟩⟩, hob.2⟩
        · simp only [List.size_toArray, List.length_append, List.length_take, List.length_drop, Array.length_toList, c1, hlen]
          omega
        · rw [List.length_set, flat_set κ' xs i x' hi, ← hdx, p1, c1, hlen, ← htake]
          generalize hcl : cur.toList = L at *
          have hL : L.length = cur.size := by rw [← hcl]; simp
          generalize hX : xs.length * κ'.sz = X at *
          have hget : κ'.cells (xs.getD i κ'.dflt) = (L.drop (i * κ'.sz)).take κ'.sz := by
            apply List.ext_getElem?
            intro j
            by_cases hj : j < κ'.sz
            · have hjl : j < (κ'.cells (xs.getD i κ'.dflt)).length := by rw [K.cells_length]; exact hj
              have := elem_cells κ' xs i hi j _ (List.getElem?_eq_getElem hjl)
              rw [← htake, List.getElem?_take, if_pos (by omega)] at this
              rw [List.getElem?_eq_getElem hjl, List.getElem?_take, if_pos hj, List.getElem?_drop, this]
            · rw [List.getElem?_eq_none (by rw [K.cells_length]; omega), List.getElem?_take, if_neg hj]
          rw [hget]
          exact list_put L _ _ off n κ'.sz X (by omega) (by omega) p2 hlen
      · cases hs
    · cases hs
  · cases hs
theorem op_store {o : Oper} {F : Fr} {H H' : Hp} {T : TypeId} {p x : Operand} {pv v : SV} (ho : o.op = .store T p x) (hp : opd F p = some pv) (hx : opd F x = some v) (hs : storeAt E H T pv v = some H') :
    OpGood E.P o F H (.raw undef) H' :=
  op_storeG E ho (Nat.le_refl _) (fun C ρ a w hF hR => ⟨ρ, fun _ _ => rfl, hR, opd_spec hF hp, opd_spec hF hx⟩) hs
end
end Go.Proofs.Ytkjellhkamfciaa.Sx
