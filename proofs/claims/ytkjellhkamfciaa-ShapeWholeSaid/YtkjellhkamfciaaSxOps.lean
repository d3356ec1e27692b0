/- SX: each operation does in the world what the executor says of it. -/
import Derived.Test.YtkjellhkamfciaaSxHeap
namespace Go.Proofs.Ytkjellhkamfciaa.Sx
open Go Go.RowKit

/-- The table of zero values says what the program's says. -/
structure EnvOk (E : Env) : Prop where
  zero : ∀ T l, assoc E.zero T = some l → ∃ i z, E.P.info? T = some i ∧ i.zero = some z ∧ (∀ ρ, denC ρ l = z.cells.toList) ∧ ∀ R w ρ n, SV.okL R w ρ n l
  add : ∀ f, (E.P.funcs[f]?).isSome = true → Nat.beq f E.add64 = true → ∃ fn e, E.P.funcs[f]? = some fn ∧ (fn.name == "runtime.NumGoroutine") = false ∧ fn.body.isNone = true ∧ Extern.findNext fn = none ∧ Extern.find fn = some e ∧
    e = fun args => do let (x, y, c) ← Extern.MathBitsCarry.three "Add64" args; pure (Extern.MathBitsCarry.pair ((x + y + c) % Extern.MathBitsCarry.m64) ((x + y + c) / Extern.MathBitsCarry.m64))
  sub : ∀ f, (E.P.funcs[f]?).isSome = true → Nat.beq f E.sub64 = true → ∃ fn e, E.P.funcs[f]? = some fn ∧ (fn.name == "runtime.NumGoroutine") = false ∧ fn.body.isNone = true ∧ Extern.findNext fn = none ∧ Extern.find fn = some e ∧
    e = fun args => do let (x, y, b) ← Extern.MathBitsCarry.three "Sub64" args; pure (Extern.MathBitsCarry.pair ((x + Extern.MathBitsCarry.m64 - y - b) % Extern.MathBitsCarry.m64) (if x < y + b then 1 else 0))

structure OpGood (P : Program) (o : Oper) (F : Fr) (H : Hp) (v : SV) (H' : Hp) : Prop where
  len : H.length ≤ H'.length
  wp : ∀ (C : Cx) (ρ : Nat → Tk) (a : Act) (w : World), FRel C ρ H.length F a.tmps → Rel C ρ H w → ∀ (next : Act → World → Prop) (Q : Exit → Act → World → Prop),
    (∀ ρ' w', (∀ t, t < H.length → ρ' t = ρ t) → Rel C ρ' H' w' → v.ok C.R C.w1 ρ' H'.length → next (a.put o.dst (den ρ' v)) w') → o.wp P a w next Q

theorem ofConst_spec {u : Value} {v : SV} (h : ofConst u = some v) (ρ : Nat → Tk) (R : Nat → Prop) (w : World) (n : Nat) : den ρ v = u ∧ v.ok R w ρ n ∧ (∀ cs, u ≠ .agg cs) ∧ denC ρ [v] = [u] := by
  unfold ofConst at h
  split at h <;> first | (cases h; done) | (cases h; simp [den, SV.ok, denC, cell1]; done) | (split at h <;> first | (cases h; done) | (cases h; simp [den, SV.ok, denC, cell1]))
theorem ofConsts_spec (ρ : Nat → Tk) (R : Nat → Prop) (w : World) (n : Nat) : ∀ {l : List Value} {r : List SV}, ofConsts l = some r → denC ρ r = l ∧ SV.okL R w ρ n r
  | [], r, h => by simp only [ofConsts, Option.some.injEq] at h; subst h; simp [denC, SV.okL]
  | u :: l, r, h => by
    simp only [ofConsts] at h
    split at h
    · rename_i x y hx hy
      cases h
      have h1 := ofConst_spec hx ρ R w n
      have h2 := ofConsts_spec ρ R w n hy
      rw [denC_cons, h1.2.2.2, h2.1]
      exact ⟨rfl, h1.2.1, h2.2⟩
    · cases h
theorem ofValue_spec {u : Value} {v : SV} (h : ofValue u = some v) (ρ : Nat → Tk) (R : Nat → Prop) (w : World) (n : Nat) : den ρ v = u ∧ v.ok R w ρ n := by
  unfold ofValue at h
  split at h
  · rename_i cs
    cases hc : ofConsts cs.toList with
    | none => simp [hc] at h
    | some l =>
      simp only [hc, Option.map_some, Option.some.injEq] at h
      subst h
      have := ofConsts_spec ρ R w n hc
      simp only [den, SV.ok, this.1, this.2, and_true]
  · have := ofConst_spec h ρ R w n; exact ⟨this.1, this.2.1⟩

theorem opd_spec {C : Cx} {ρ : Nat → Tk} {n : Nat} {F : Fr} {a : Act} (hF : FRel C ρ n F a.tmps) {x : Operand} {v : SV} (h : opd F x = some v) : a.eval x = den ρ v ∧ v.ok C.R C.w1 ρ n := by
  cases x with
  | tmp t =>
    have h' : F[t]? = some (some v) := by
      simp only [opd] at h
      cases hq : F[t]? with
      | none => simp [hq] at h
      | some y => cases y <;> simp_all
    have := hF.val t v h'
    refine ⟨?_, this.2⟩
    simp [Act.eval, Array.getD_eq_getD_getElem?, this.1]
  | const u =>
    have := ofValue_spec (v := v) h ρ C.R C.w1 n
    exact ⟨this.1.symm, this.2⟩
  | func f =>
    simp only [opd, Option.some.injEq] at h
    subst h
    simp [Act.eval, den, denL, SV.ok, SV.okL]
  | global g => cases h
theorem opds_spec {C : Cx} {ρ : Nat → Tk} {n : Nat} {F : Fr} {a : Act} (hF : FRel C ρ n F a.tmps) : ∀ {l : List Operand} {r : List SV}, opds F l = some r → l.map a.eval = denL ρ r ∧ SV.okL C.R C.w1 ρ n r
  | [], r, h => by simp only [opds, Option.some.injEq] at h; subst h; simp [denL, SV.okL]
  | x :: l, r, h => by
    simp only [opds] at h
    split at h
    · rename_i p q hp hq
      cases h
      have h1 := opd_spec hF hp
      have h2 := opds_spec hF hq
      simp only [List.map_cons, denL, SV.okL, h1.1, h2.1, h1.2, h2.2, and_self]
    · cases h

theorem OpGood.val {P : Program} {o : Oper} {F : Fr} {H : Hp} {v : SV}
    (h : ∀ (C : Cx) (ρ : Nat → Tk) (a : Act) (w : World), FRel C ρ H.length F a.tmps → Rel C ρ H w → (execOp a.eval o).run P w = .ok (.value (den ρ v)) w ∧ v.ok C.R C.w1 ρ H.length) :
    OpGood P o F H v H :=
  ⟨Nat.le_refl _, fun C ρ a w hF hR next Q hn => by
    obtain ⟨h1, h2⟩ := h C ρ a w hF hR
    unfold Oper.wp
    rw [h1]
    exact hn ρ w (fun _ _ => rfl) hR h2⟩

theorem bindO_some {β γ : Type} {x : Option β} {k : β → Option γ} {r : γ} (h : bindO x k = some r) : ∃ b, x = some b ∧ k b = some r := by
  cases x with
  | none => cases h
  | some b => exact ⟨b, rfl, h⟩

theorem rix_cells (u : Value) (m : Nat) : (rixAddr u m).cells.toList = [rixAddr u m] := by
  cases u with
  | slice a l c => cases a <;> rfl
  | _ => rfl
theorem cells_den (ρ : Nat → Tk) (R : Nat → Prop) (w : World) (n : Nat) (v : SV) (h : v.ok R w ρ n) (hs : ∀ t, ∃ a m c, (ρ t).hdr = .slice a m c) : (den ρ v).cells.toList = denC ρ v.cells ∧ SV.okL R w ρ n v.cells := by
  cases v with
  | agg l => exact ⟨by simp [den, SV.cells, Value.cells], by simpa [SV.ok, SV.cells] using h⟩
  | rix u κ xs i off => exact ⟨by simp only [den, SV.cells, denC, cell1, List.append_nil, rix_cells], by simp only [SV.cells, SV.okL, h, and_self]⟩
  | sl t => obtain ⟨a, m, c, e⟩ := hs t; exact ⟨by simp [den, SV.cells, Value.cells, denC, cell1, e], by simp only [SV.cells, SV.okL, h, and_self]⟩
  | sub t κ lo m =>
    obtain ⟨a, k, c, e⟩ := hs t
    exact ⟨by simp [den, SV.cells, Value.cells, denC, cell1, e, winV], by simp only [SV.cells, SV.okL, h, and_self]⟩
  | ros u κ xs =>
    refine ⟨?_, by simp only [SV.cells, SV.okL, h, and_self]⟩
    rcases h with ⟨_, a, c, e⟩ | ⟨ad, c, e, _⟩ <;> simp [den, SV.cells, Value.cells, denC, cell1, e]
  | raw u =>
    refine ⟨?_, by simp only [SV.cells, SV.okL, h, and_self]⟩
    cases u <;> first | rfl | exact absurd rfl (h _)
  | arr κ xs m => exact ⟨by simp [den, SV.cells, Value.cells, denC, cell1], by simp only [SV.cells, SV.okL, h, and_self]⟩
  | _ => exact ⟨by simp [den, SV.cells, Value.cells, denC, cell1], by simp only [SV.cells, SV.okL, h, and_self]⟩

theorem elem_cells (κ : K) (xs : List κ.T) : ∀ (i : Nat), i < xs.length → ∀ j c, (κ.cells (xs.getD i κ.dflt))[j]? = some c → (xs.flatMap κ.cells)[i * κ.sz + j]? = some c := by
  induction xs with
  | nil => intro i hi; simp at hi
  | cons y ys ih =>
    intro i hi j c hj
    cases i with
    | zero =>
      simp only [List.getD_cons_zero] at hj
      rw [List.flatMap_cons, Nat.zero_mul, Nat.zero_add, List.getElem?_append_left (List.getElem?_eq_some_iff.1 hj).1]
      exact hj
    | succ i =>
      simp only [List.getD_cons_succ] at hj
      rw [List.flatMap_cons, List.getElem?_append_right (by rw [K.cells_length, Nat.add_mul]; omega), K.cells_length, show (i + 1) * κ.sz + j - κ.sz = i * κ.sz + j from by rw [Nat.add_mul]; omega]
      exact ih i (by simpa using hi) j c hj
theorem segAt_spec {R : Nat → Prop} {w : World} {ρ : Nat → Tk} {n : Nat} : ∀ {l : List SV} {off : Nat} {x : SV}, SV.okL R w ρ n l → segAt l off = some x →
    ∃ A B, denC ρ l = A ++ denC ρ [x] ++ B ∧ A.length = off ∧ x.ok R w ρ n
  | [], off, x, _, h => by cases (show none = some x from h)
  | y :: l, 0, x, ho, h => by
    cases (show some y = some x from h)
    exact ⟨[], denC ρ l, by rw [denC_cons]; simp, rfl, ho.1⟩
  | y :: l, off + 1, x, ho, h => by
    rw [segAt_cons] at h
    split at h
    · rename_i hy
      obtain ⟨A, B, h1, h2, h3⟩ := segAt_spec (ρ := ρ) ho.2 h
      refine ⟨denC ρ [y] ++ A, B, by rw [denC_cons, h1]; simp, ?_, h3⟩
      rw [List.length_append, width_eq y ho.1, h2]; omega
    · cases h
theorem get_mid {α : Type} {A M B L : List α} {j : Nat} {c : α} (h : L = A ++ M ++ B) (hj : M[j]? = some c) : L[A.length + j]? = some c := by
  rw [h, List.append_assoc, List.getElem?_append_right (by omega), show A.length + j - A.length = j from by omega, List.getElem?_append_left (List.getElem?_eq_some_iff.1 hj).1]
  exact hj

section
variable (E : Env)
theorem zeroOf_spec (hE : EnvOk E) {T : TypeId} {l : List SV} (h : E.zeroOf T = some l) : ∃ i z, E.P.info? T = some i ∧ i.zero = some z ∧ (∀ ρ, denC ρ l = z.cells.toList) ∧ ∀ R w ρ n, SV.okL R w ρ n l := by
  unfold Env.zeroOf at h
  split at h
  · rename_i hl; cases h; exact hE.zero T _ hl
  · split at h
    · rename_i i hi
      split at h
      · rename_i cs hz
        exact ⟨i, _, hi, hz, fun ρ => (ofConsts_spec ρ (fun _ => False) default 0 h).1, fun R w ρ n => (ofConsts_spec ρ R w n h).2⟩
      · rename_i v hn hz
        cases hc : ofConst v with
        | none => simp [hc] at h
        | some x =>
          simp only [hc, Option.map_some, Option.some.injEq] at h
          subst h
          refine ⟨i, v, hi, hz, fun ρ => ?_, fun R w ρ n => ?_⟩
          · rw [(ofConst_spec hc ρ (fun _ => False) default 0).2.2.2]
            cases v <;> first | rfl | exact absurd rfl (hn _)
          · simp only [SV.okL, and_true]; exact (ofConst_spec hc ρ R w n).2.1
      · cases h
    · cases h

theorem op_alloc (hE : EnvOk E) {o : Oper} {F : Fr} {H : Hp} {T : TypeId} {l : List SV} (ho : o.op = .alloc T) (hz : E.zeroOf T = some l) (hl : leavesB l = true) :
    OpGood E.P o F H (.ptr H.length 0) (H ++ [.cells l T]) := by
  refine ⟨by simp, fun C ρ a w hF hR next Q hn => ?_⟩
  obtain ⟨i, z, h1, h2, h3, h4⟩ := zeroOf_spec E hE hz
  have hn' := hn _ _ ext_lt (hR.newCells l T (h4 _ _ _ _) hl) (by simp [SV.ok])
  rw [h3 ρ] at hn'
  simp only [den, ext_self, Array.toArray_toList] at hn'
  unfold Oper.wp
  simp only [execOp, ho, Instr.alloc, zeroValue, typeInfo, newVar, newRow, Sem.run_bind, run_program, Result.andThen_ok, h1, h2, Sem.run_pure, run_newObj]
  exact hn'

theorem op_box {o : Oper} {F : Fr} {H : Hp} {T : TypeId} {x : Operand} {v : SV} (ho : o.op = .box T x) (hx : opd F x = some v) (hl : leavesB v.cells = true) :
    OpGood E.P o F H (.ptr H.length 0) (H ++ [.cells v.cells T]) := by
  refine ⟨by simp, fun C ρ a w hF hR next Q hn => ?_⟩
  obtain ⟨h1, h2⟩ := opd_spec hF hx
  obtain ⟨h3, h4⟩ := cells_den ρ _ _ _ v h2 hR.hdr
  have hn' := hn _ _ ext_lt (hR.newCells v.cells T h4 hl) (by simp [SV.ok])
  rw [← h3] at hn'
  simp only [den, ext_self, Array.toArray_toList] at hn'
  unfold Oper.wp
  simp only [execOp, ho, Instr.box, h1, newVar, newRow, Sem.run_bind, Result.andThen_ok, Sem.run_pure, run_newObj]
  exact hn'

theorem loadAt_spec {H : Hp} {T : TypeId} {p v : SV} (hl : loadAt E H T p = some v) {C : Cx} {ρ : Nat → Tk} {w : World} (hR : Rel C ρ H w) (h2 : p.ok C.R C.w1 ρ H.length) :
    ∃ ad, den ρ p = .pointer (some ad) ∧ (loadVar T ad).run E.P w = .ok (den ρ v) w ∧ v.ok C.R C.w1 ρ H.length := by
  have main : ∀ (g : Bool) (n : Nat) (l : List SV) (off : Nat) (r : List SV) (b base : Nat), E.isAgg T = some g → E.size T = some n → SV.okL C.R C.w1 ρ H.length l → segTake l off n = some r → mkVal g r = some v →
      (∀ j c, (denC ρ l)[j]? = some c → w.cell? ⟨b, base + j, none⟩ = some c) → (loadVar T ⟨b, base + off, none⟩).run E.P w = .ok (den ρ v) w ∧ v.ok C.R C.w1 ρ H.length := by
    intro g n l off r b base hg hn hok ht hm hc
    obtain ⟨⟨A, B, e1, e2⟩, e3, e4, _⟩ := segTake_spec (ρ := ρ) hok ht
    refine ⟨run_loadVar E hg hn w b (base + off) (denC ρ r) e3 ?_ _ (mkVal_den hm), mkVal_ok hm e4⟩
    intro j c hj
    rw [Nat.add_assoc]
    refine hc (off + j) c ?_
    rw [e1, ← e2, List.append_assoc, List.getElem?_append_right (by omega), show A.length + j - A.length = j from by omega, List.getElem?_append_left (List.getElem?_eq_some_iff.1 hj).1]
    exact hj
  unfold loadAt at hl
  split at hl
  · rename_i g n hg hn
    split at hl
    · rename_i t off
      split at hl
      · rename_i l T' ht
        obtain ⟨r, hr, hm⟩ := bindO_some hl
        have ho := hR.ok t _ ht
        have hob := hR.obj t _ ht
        simp only [ObjRel] at hob
        refine ⟨_, rfl, ?_⟩
        have := main g n l off r (ρ t).blk 0 hg hn ho.1 hr hm (fun j c hj => by
          rw [Nat.zero_add, cell_of_row w _ _ _ _ _ hob]; simpa using hj)
        simpa using this
      · cases hl
    · rename_i t off κ i m0
      split at hl
      · rename_i l T' ht
        split at hl
        · rename_i κ' xs m hs
          split at hl
          · rename_i he
            obtain ⟨e1, e2⟩ := he
            subst e1
            obtain ⟨r, hr, hm⟩ := bindO_some hl
            have ho := hR.ok t _ ht
            have hob := hR.obj t _ ht
            simp only [ObjRel] at hob
            obtain ⟨A, B, g1, g2, g3⟩ := segAt_spec (ρ := ρ) ho.1 hs
            have hlen : xs.length = m := g3
            have hi := h2.2
            have hm2 := Nat.eq_of_beq_eq_true e2
            refine ⟨_, rfl, ?_⟩
            have := main g n (κ'.enc (xs.getD i κ'.dflt)) 0 r (ρ t).blk (off + i * κ'.sz) hg hn (enc_ok _ _ _ _ _ _) hr hm (fun j c hj => by
              rw [denC_enc] at hj
              rw [cell_of_row w _ _ _ _ _ hob, List.getElem?_toArray, Nat.add_assoc, ← g2]
              refine get_mid g1 ?_
              simp only [denC, cell1, List.append_nil]
              exact elem_cells κ' xs i (by omega) j c hj)
            simpa using this
          · cases hl
        · cases hl
      · cases hl
    · rename_i t κ i off
      split at hl
      · rename_i κ' xs T' ht
        split at hl
        · rename_i he
          subst he
          obtain ⟨r, hr, hm⟩ := bindO_some hl
          have hob := hR.obj t _ ht
          obtain ⟨hlt, a', m', c', hh, hi⟩ := h2
          refine ⟨_, rfl, ?_⟩
          rcases hob.1.2 with ⟨e, e0⟩ | ⟨gb, cap, cur, e, _, hg2, _, _, _, htake⟩
          · rw [e] at hh; cases hh; omega
          · have hb : gb = (ρ t).blk := hob.2 gb (by rw [e]; rfl)
            rw [e] at hh
            cases hh
            refine main g n (κ'.enc (xs.getD i κ'.dflt)) off r (ρ t).blk (i * κ'.sz) hg hn (enc_ok _ _ _ _ _ _) hr hm (fun j c hj => ?_)
            rw [denC_enc] at hj
            have hx := elem_cells κ' xs i hi j c hj
            rw [← htake, List.getElem?_take] at hx
            split at hx
            · rw [← hb, cell_of_row w _ _ _ _ _ hg2]; simpa using hx
            · cases hx
        · cases hl
      · cases hl
    · rename_i u κ xs i off
      obtain ⟨r, hr, hm⟩ := bindO_some hl
      obtain ⟨hros, hi⟩ := h2
      rcases hros with ⟨he, _⟩ | ⟨ad, cap, e, _, _, hRb, hc⟩
      · subst he; simp at hi
      · subst e
        refine ⟨_, rfl, ?_⟩
        rw [← Nat.add_assoc]
        refine main g n (κ.enc (xs.getD i κ.dflt)) off r ad.block (ad.off + i * κ.sz) hg hn (enc_ok _ _ _ _ _ _) hr hm (fun j c hj => ?_)
        rw [denC_enc] at hj
        rw [ro_cell hR (a := ⟨ad.block, _, none⟩) hRb, Nat.add_assoc]
        exact hc _ c (elem_cells κ xs i hi j c hj)
    · cases hl
  · cases hl

theorem op_load {o : Oper} {F : Fr} {H : Hp} {T : TypeId} {x : Operand} {p v : SV} (ho : o.op = .load T x) (hx : opd F x = some p) (hl : loadAt E H T p = some v) :
    OpGood E.P o F H v H := by
  refine .val fun C ρ a w hF hR => ?_
  obtain ⟨h1, h2⟩ := opd_spec hF hx
  obtain ⟨ad, e1, e2, e3⟩ := loadAt_spec E hl hR h2
  refine ⟨?_, e3⟩
  simp only [execOp, ho, h1, e1, Instr.loadAt, Instr.sureAddr, Sem.run_bind, Sem.run_pure, Result.andThen_ok, e2]
end
end Go.Proofs.Ytkjellhkamfciaa.Sx
