/- SX: literals and calls: every operation is sound. -/
import Derived.Test.YtkjellhkamfciaaSxOps6
namespace Go.Proofs.Ytkjellhkamfciaa.Sx
open Go Go.RowKit

def denP (ρ : Nat → Tk) (ps : List (Nat × SV)) : List (Nat × Value) := ps.map fun x => (x.1, den ρ x.2)

theorem partsOf_spec {C : Cx} {ρ : Nat → Tk} {n : Nat} {F : Fr} {a : Act} (hF : FRel C ρ n F a.tmps) : ∀ {l : List (Nat × Operand)} {r : List (Nat × SV)}, partsOf F l = some r →
    l.map (fun x => (x.1, a.eval x.2)) = denP ρ r ∧ ∀ x ∈ r, x.2.ok C.R C.w1 ρ n
  | [], r, h => by simp only [partsOf, Option.some.injEq] at h; subst h; simp [denP]
  | (i, x) :: l, r, h => by
    simp only [partsOf] at h
    split at h
    · rename_i p q hp hq
      cases h
      have h1 := opd_spec hF hp
      have h2 := partsOf_spec hF hq
      refine ⟨by simp only [List.map_cons, h2.1, denP, h1.1], ?_⟩
      intro y hy
      rcases List.mem_cons.1 hy with rfl | hy
      · exact h1.2
      · exact h2.2 y hy
    · cases h

theorem fold_put (l v : List Value) (off : Nat) (h : off + v.length ≤ l.length) :
    v.toArray.zipIdx.foldl (fun cs (x : Value × Nat) => cs.setIfInBounds (off + x.2) x.1) l.toArray = (l.take off ++ v ++ l.drop (off + v.length)).toArray := by
  have h0 := Great.foldl_set off v 0 l.toArray
  rw [← Array.foldl_toList, Array.toList_zipIdx]
  apply Array.ext_getElem?
  intro k
  rw [h0.2 k]
  simp only [Nat.add_zero, List.size_toArray, List.getElem?_toArray, List.getElem?_append, List.getElem?_take, List.getElem?_drop, List.length_append, List.length_take]
  grind

theorem fillAt_spec (ρ : Nat → Tk) (R : Nat → Prop) (w1 : World) (n : Nat) (hs : ∀ t, ∃ a m c, (ρ t).hdr = .slice a m c) (places : Nat → Option (Nat × Nat)) : ∀ (ps : List (Nat × SV)) (l l' : List SV), SV.okL R w1 ρ n l → (∀ x ∈ ps, x.2.ok R w1 ρ n) → fillAt places l ps = some l' →
    Instr.fill places (denC ρ l).toArray (denP ρ ps) = some (denC ρ l').toArray ∧ SV.okL R w1 ρ n l'
  | [], l, l', ho, _, h => by simp only [fillAt, Option.some.injEq] at h; subst h; exact ⟨by simp [Instr.fill, denP], ho⟩
  | (i, v) :: rest, l, l', ho, hp, h => by
    simp only [fillAt] at h
    split at h
    · rename_i off size hpl
      split at h
      · rename_i hsz
        obtain ⟨m, hm, h⟩ := bindO_some h
        have hv := hp (i, v) (by simp)
        obtain ⟨c1, c2⟩ := cells_den ρ R w1 n v hv hs
        obtain ⟨p1, p2, p3, _⟩ := segPut_spec (ρ := ρ) ho c2 hm
        obtain ⟨q1, q2⟩ := fillAt_spec ρ R w1 n hs places rest m l' p3 (fun x hx => hp x (by simp [hx])) h
        refine ⟨?_, q2⟩
        have hlen : (denC ρ v.cells).length = size := by rw [segWidth_eq c2]; exact Nat.eq_of_beq_eq_true hsz
        have hcs : (den ρ v).cells = (denC ρ v.cells).toArray := Array.toList_inj.1 (by simpa using c1)
        simp only [denP, List.map_cons, Instr.fill, hpl]
        rw [if_neg (by rw [hcs]; simp; omega), hcs]
        have hf := fold_put (denC ρ l) (denC ρ v.cells) off p2
        rw [← p1] at hf
        rw [hf]
        exact q1
      · cases h
    · cases h

theorem decAll_spec (ρ : Nat → Tk) (R : Nat → Prop) (w1 : World) (n : Nat) (hs : ∀ t, ∃ a m c, (ρ t).hdr = .slice a m c) (κ : K) : ∀ (ps : List (Nat × SV)) (i : Nat) (xs : List κ.T), decAll κ ps i = some xs → (∀ x ∈ ps, x.2.ok R w1 ρ n) →
    ∃ vs : List Value, denP ρ ps = (vs.zipIdx i).map (fun x => (x.2, x.1)) ∧ vs.length = ps.length ∧ xs.length = ps.length ∧ (∀ v ∈ vs, v.cells.size = κ.sz) ∧ (vs.flatMap fun v => v.cells.toList) = xs.flatMap κ.cells
  | [], i, xs, h, _ => by simp only [decAll, Option.some.injEq] at h; subst h; exact ⟨[], by simp [denP]⟩
  | (j, v) :: l, i, xs, h, hp => by
    simp only [decAll] at h
    split at h
    · rename_i hij
      obtain ⟨x, hx, h⟩ := bindO_some h
      obtain ⟨ys, hy, h⟩ := bindO_some h
      cases h
      obtain ⟨vs, h1, h2, h3, h4, h5⟩ := decAll_spec ρ R w1 n hs κ l (i + 1) ys hy (fun x hx => hp x (by simp [hx]))
      have hij' := Nat.eq_of_beq_eq_true hij
      obtain ⟨c1, c2⟩ := cells_den ρ R w1 n v (hp (j, v) (by simp)) hs
      have hd := dec_cells ρ κ _ _ hx
      refine ⟨den ρ v :: vs, ?_, by simp [h2], by simp [h3], ?_, ?_⟩
      · simp only [denP, List.map_cons, List.zipIdx_cons, ← hij']
        simp only [denP] at h1
        rw [h1, hij']
      · intro u hu
        rcases List.mem_cons.1 hu with rfl | hu
        · rw [← Array.length_toList, c1, hd, K.cells_length]
        · exact h4 u hu
      · simp only [List.flatMap_cons, h5, c1, hd]
    · cases h

section
variable (E : Env)

theorem op_build (hE : EnvOk E) {o : Oper} {F : Fr} {H : Hp} {T : TypeId} {parts : Array (Nat × Operand)} {z l : List SV} {ps : List (Nat × SV)} (ho : o.op = .build T parts) (hz : E.zeroOf T = some z) (hp : partsOf F parts.toList = some ps)
    (h : (∃ fs places, E.P.underlying T = some (.struct fs) ∧ placesOf E fs.toList = some places ∧ fillAt (places[·]?) z ps = some l) ∨
      (∃ n e sz, E.P.underlying T = some (.array n e) ∧ E.size e = some sz ∧ fillAt (fun i => some (i * sz, sz)) z ps = some l)) : OpGood E.P o F H (.agg l) H :=
  .val fun C ρ a w hF hR => by
    obtain ⟨i, zv, h1, h2, h3, h4⟩ := zeroOf_spec E hE hz
    obtain ⟨hp1, hp2⟩ := partsOf_spec hF hp
    have hzc : zv.cells = (denC ρ z).toArray := Array.toList_inj.1 (by simpa using (h3 ρ).symm)
    have hb : E.P.built T (parts.map fun (i, x) => (i, a.eval x)).toList = some (denC ρ l).toArray ∧ SV.okL C.R C.w1 ρ H.length l := by
      rw [Array.toList_map, show (List.map (fun (x : Nat × Operand) => match x with | (i, x) => (i, a.eval x)) parts.toList) = denP ρ ps from hp1]
      rcases h with ⟨fs, places, hT, hpl, hf⟩ | ⟨n, e, sz, hT, hsz, hf⟩
      · obtain ⟨g1, g2⟩ := fillAt_spec ρ C.R C.w1 H.length hR.hdr _ ps z l (h4 _ _ _ _) hp2 hf
        refine ⟨?_, g2⟩
        unfold placesOf at hpl
        simp only [Program.built, h1, hT, h2, hpl, hzc, List.getElem?_toArray]
        exact g1
      · obtain ⟨g1, g2⟩ := fillAt_spec ρ C.R C.w1 H.length hR.hdr _ ps z l (h4 _ _ _ _) hp2 hf
        refine ⟨?_, g2⟩
        unfold Env.size at hsz
        cases hie : E.P.info? e with
        | none => simp [hie] at hsz
        | some ie =>
          simp only [hie, Option.map_some, Option.some.injEq] at hsz
          subst hsz
          simp only [Program.built, h1, hT, h2, hie, hzc]
          exact g1
    refine ⟨?_, by simpa [SV.ok] using hb.2⟩
    simp only [execOp, ho, Sem.run_bind, run_build w T _ _ hb.1, Result.andThen_ok, Sem.run_pure, den]

theorem op_buildSlice {o : Oper} {F : Fr} {H : Hp} {T e : TypeId} {len sz : Nat} {parts : Array (Nat × Operand)} {κ : K} {xs : List κ.T} {ps : List (Nat × SV)} (ho : o.op = .buildSlice T len parts) (hT : E.P.underlying T = some (.slice e))
    (hsz : E.size e = some sz) (hp : partsOf F parts.toList = some ps) (hκ : κ.sz = sz) (hlen : ps.length = len) (hsmall : len * sz ≤ 16777216) (hx : decAll κ ps 0 = some xs) (hz : ∃ i z, E.P.info? e = some i ∧ i.zero = some z ∧ z.cells.size = i.size) :
    OpGood E.P o F H (.sl H.length) (H ++ [.seq κ xs e]) := by
  refine ⟨by simp, fun C ρ a w hF hR next Q hn => ?_⟩
  obtain ⟨hp1, hp2⟩ := partsOf_spec hF hp
  obtain ⟨vs, g1, g2, g3, g4, g5⟩ := decAll_spec ρ C.R C.w1 H.length hR.hdr κ ps 0 xs hx hp2
  obtain ⟨i, z, hi, hz, hzs⟩ := hz
  have hxl : xs.length = len := by omega
  have hn' := hn _ _ ext_lt (hR.newSeq κ xs e (by unfold maxLen; have := K.sz_pos κ; have : len ≤ len * sz := Nat.le_mul_of_pos_right _ (by omega); omega)) (by simp [SV.ok])
  simp only [den, ext_self, hxl] at hn'
  have hisz : i.size = sz := by simpa [Env.size, hi] using hsz
  unfold Oper.wp
  have hparts : (parts.map fun (i, x) => (i, a.eval x)).toList = (vs.zipIdx 0).map (fun x => (x.2, x.1)) := by
    rw [Array.toList_map, ← g1]; exact hp1
  have hrun : (Instr.buildSlice T len (parts.map fun (i, x) => (i, a.eval x))).run E.P w = .ok (.slice (some ⟨w.heap.size, 0, none⟩) len len) (w.alloc (.cells (xs.flatMap κ.cells).toArray e)) := by
    by_cases h0 : len = 0
    · subst h0
      have hv : vs = [] := List.eq_nil_of_length_eq_zero (by omega)
      have hxs : xs = [] := List.eq_nil_of_length_eq_zero (by omega)
      have hps : ps = [] := List.eq_nil_of_length_eq_zero hlen
      subst hv; subst hxs; subst hps
      have hp0 : parts.toList.map (fun x => (x.1, a.eval x.2)) = [] := by rw [hp1]; rfl
      have har : ∀ f : Nat → Value, Array.map f (Array.range 0) = #[] := fun f => by simp [Array.range]
      simp [Instr.buildSlice, run_underlying hT, sizeOf, typeInfo, hi, hp0, Instr.fill, newRow, har]
    · refine run_buildSlice w T e len _ _ i z hT hi hz (by rw [hisz]; omega) ?_ ?_
      · rw [hisz, ← hκ]; have := K.sz_pos κ; intro hc; rcases Nat.mul_eq_zero.1 hc with h | h <;> omega
      · rw [hparts, ← g5, hisz, ← hκ]
        exact Great.fill_whole (K.sz_pos κ) vs _ g4 (by simp; rw [g2, hlen])
  simp only [execOp, ho, Sem.run_bind, hrun, Result.andThen_ok, Sem.run_pure]
  exact hn'

/-- Frames that hold the same in what an operation reads. -/
def Agree (o : Oper) (F F' : Fr) : Prop := ∀ x ∈ o.op.operands.toList, opd F' x = opd F x
theorem Agree.opd {o : Oper} {F F' : Fr} (h : Agree o F F') {x : Operand} {v : SV} (hx : x ∈ o.op.operands.toList) (hv : opd F x = some v) : opd F' x = some v := (h x hx).trans hv
theorem Agree.ivO {o : Oper} {F F' : Fr} (h : Agree o F F') {x : Option Operand} {r : Option Int} (hx : ∀ y, x = some y → y ∈ o.op.operands.toList) (hv : ivO F x = some r) : ivO F' x = some r := by
  cases x with
  | none => exact hv
  | some y => unfold Sx.ivO at hv ⊢; simp only [h y (hx y rfl)]; exact hv
theorem Agree.opds {o : Oper} {F F' : Fr} (h : Agree o F F') : ∀ {l : List Operand} {r : List SV}, (∀ x ∈ l, x ∈ o.op.operands.toList) → opds F l = some r → opds F' l = some r
  | [], r, _, hr => hr
  | x :: l, r, hl, hr => by
    simp only [Sx.opds] at hr ⊢
    split at hr
    · rename_i p q hp hq
      rw [h.opd (hl x (by simp)) hp, Agree.opds h (fun y hy => hl y (by simp [hy])) hq]; exact hr
    · cases hr
theorem Agree.parts' {o : Oper} {F F' : Fr} (h : Agree o F F') : ∀ {l : List (Nat × Operand)} {r : List (Nat × SV)}, (∀ x ∈ l, x.2 ∈ o.op.operands.toList) → partsOf F l = some r → partsOf F' l = some r
  | [], r, _, hr => hr
  | (i, x) :: l, r, hl, hr => by
    simp only [partsOf] at hr ⊢
    split at hr
    · rename_i p q hp hq
      rw [h.opd (hl (i, x) (by simp)) hp, Agree.parts' h (fun y hy => hl y (by simp [hy])) hq]; exact hr
    · cases hr
theorem Agree.parts {o : Oper} {F F' : Fr} (h : Agree o F F') {parts : Array (Nat × Operand)} {r : List (Nat × SV)} (ho : o.op.operands = (parts.toList.map (·.2)).toArray) (hr : partsOf F parts.toList = some r) : partsOf F' parts.toList = some r :=
  h.parts' (fun x hx => by rw [ho]; simp; exact ⟨x.1, by simpa using hx⟩) hr
theorem Agree.refl (o : Oper) (F : Fr) : Agree o F F := fun _ _ => rfl

theorem run_three (name : String) (P : Program) (w : World) (k1 k2 k3 : IntKind) (x y c : Int) (hc : ¬ c.toNat > 1) :
    (Extern.MathBitsCarry.three name #[.int k1 x, .int k2 y, .int k3 c]).run P w = .ok (x.toNat, y.toNat, c.toNat) w := by
  change Sem.run P (do
    let c' := (← asInt (Value.int k3 c)).toNat
    if c' > 1 then unsupported (.noEntry ("extern/math/bits." ++ name ++ ": a carry that is neither 0 nor 1"))
    pure ((← asInt (Value.int k1 x)).toNat, (← asInt (Value.int k2 y)).toNat, c')) w = _
  simp only [asInt, asIntOf, Sem.run_bind, Sem.run_pure, Result.andThen_ok, Sem.run_ite, if_neg hc]
theorem run_add64 {e : Array Value → Sem Value} (he : e = fun args => do let (x, y, c) ← Extern.MathBitsCarry.three "Add64" args; pure (Extern.MathBitsCarry.pair ((x + y + c) % Extern.MathBitsCarry.m64) ((x + y + c) / Extern.MathBitsCarry.m64)))
    (P : Program) (w : World) (k1 k2 k3 : IntKind) (x y c : Int) (hc : ¬ c.toNat > 1) :
    (e #[.int k1 x, .int k2 y, .int k3 c]).run P w = .ok (.tuple #[.int .u64 (Int.ofNat ((x.toNat + y.toNat + c.toNat) % pow64)), .int .u64 (Int.ofNat ((x.toNat + y.toNat + c.toNat) / pow64))]) w := by
  subst he
  simp only [Sem.run_bind, run_three "Add64" P w k1 k2 k3 x y c hc, Sem.run_pure, Result.andThen_ok, Extern.MathBitsCarry.pair]
  rfl
theorem run_sub64 {e : Array Value → Sem Value} (he : e = fun args => do let (x, y, b) ← Extern.MathBitsCarry.three "Sub64" args; pure (Extern.MathBitsCarry.pair ((x + Extern.MathBitsCarry.m64 - y - b) % Extern.MathBitsCarry.m64) (if x < y + b then 1 else 0)))
    (P : Program) (w : World) (k1 k2 k3 : IntKind) (x y c : Int) (hc : ¬ c.toNat > 1) :
    (e #[.int k1 x, .int k2 y, .int k3 c]).run P w = .ok (.tuple #[.int .u64 (Int.ofNat ((x.toNat + pow64 - y.toNat - c.toNat) % pow64)), .int .u64 (Int.ofNat (if x.toNat < y.toNat + c.toNat then 1 else 0))]) w := by
  subst he
  simp only [Sem.run_bind, run_three "Sub64" P w k1 k2 k3 x y c hc, Sem.run_pure, Result.andThen_ok, Extern.MathBitsCarry.pair]
  rfl

theorem eval_args {ρ : Nat → Tk} {a : Act} {args : Array Operand} {r : List SV} (h : args.toList.map a.eval = denL ρ r) : args.map a.eval = (denL ρ r).toArray := by
  rw [← h]; exact Array.toList_inj.1 (by simp)

theorem readSeq_spec {κ : K} {b : SV} {H : Hp} {ex : List Nat} {ys : List κ.T} (h : readSeq κ b H = some (ex, ys)) {C : Cx} {ρ : Nat → Tk} {w : World} (hR : Rel C ρ H w) (hok : b.ok C.R C.w1 ρ H.length) :
    ∃ ao c, den ρ b = .slice ao ys.length c ∧ (0 < ys.length → ∃ ad, ao = some ad ∧ ∀ j u, (ys.flatMap κ.cells)[j]? = some u → w.cell? (ad.add j) = some u) := by
  have ros : ∀ (R : Nat → Prop) (w1 : World) (v : Value) (zs : List κ.T), RosOk R w1 v κ zs → (∀ b, R b → w.heap[b]? = w1.heap[b]?) → ∃ ao c, v = .slice ao zs.length c ∧ (0 < zs.length → ∃ ad, ao = some ad ∧ ∀ j u, (zs.flatMap κ.cells)[j]? = some u → w.cell? (ad.add j) = some u) := by
    intro R w1 v zs hr hk
    rcases hr with ⟨e0, a, c, e1⟩ | ⟨ad, cap, e1, _, hsp, hRb, hc⟩
    · exact ⟨a, c, by rw [e1, e0]; rfl, fun h => by rw [e0] at h; simp at h⟩
    · refine ⟨some ad, cap, e1, fun _ => ⟨ad, rfl, fun j u hj => ?_⟩⟩
      have h1 := hc j u hj
      obtain ⟨ab, ao, asp⟩ := ad
      simp only at hsp hRb h1
      subst hsp
      rw [add_lit, World.cell?_of_block (a := ⟨ab, ao + j, none⟩) (hk ab hRb)]
      exact h1
  have own : ∀ (t : Nat) (zs : List κ.T) (T : TypeId), H[t]? = some (.seq κ zs T) → RosOk (fun _ => True) w (ρ t).hdr κ zs := by
    intro t zs T ht
    have hob := hR.obj t _ ht
    rcases hob.1.2 with ⟨e1, e0⟩ | ⟨gb, cap, cur, e1, _, hg2, hnc, _, _, htake⟩
    · exact .inl ⟨List.eq_nil_of_length_eq_zero e0, _, _, e1⟩
    · refine .inr ⟨_, cap, e1, hnc, rfl, trivial, fun j c hj => ?_⟩
      rw [← htake, List.getElem?_take] at hj
      split at hj
      · rw [cell_of_row w _ _ _ _ _ hg2]; simpa using hj
      · cases hj
  unfold readSeq at h
  split at h
  · split at h
    · rename_i he; subst he; cases h
      exact ros _ _ _ _ hok fun b hb => hR.keep b (hR.fit.ro b hb).1 (hR.fit.ro b hb).2
    · cases h
  · split at h
    · rename_i t _ κ' xs' T ht
      split at h
      · rename_i he; subst he; cases h
        exact ros _ _ _ _ (own t _ _ ht) fun _ _ => rfl
      · cases h
    · cases h
  · split at h
    · rename_i t κ' lo n hk
      split at h
      · rename_i κ2 xs' T ht
        split at h
        · rename_i he; subst he; cases h
          have hr := own t _ _ ht
          simp only [SV.ok] at hok
          obtain ⟨_, a, k, c, e1, hle⟩ := hok
          have hk3 : k = xs'.length := by
            rcases hr with ⟨e0, a2, c2, e2⟩ | ⟨ad, c2, e2, _⟩
            · rw [e2] at e1; cases e1; rw [e0]; rfl
            · rw [e2] at e1; cases e1; rfl
          simp only [den]
          rw [hk]
          exact ros _ _ _ _ (ros_win hr (by omega)) fun _ _ => rfl
        · cases h
      · cases h
    · cases h
  · cases h; exact ⟨none, 0, rfl, fun h => by simp at h⟩
  · cases h
theorem flat_one (κ : K) (ys : List κ.T) : ∀ u ∈ ys.flatMap κ.cells, u.oneCell' = true := by
  intro u hu
  obtain ⟨y, _, hy⟩ := List.mem_flatMap.1 hu
  exact K.cells_one κ y u hy
theorem op_append_nil {o : Oper} {F : Fr} {H : Hp} {c : Call} {t e : TypeId} {b : SV} {κ : K} {ys : List κ.T} {ex : List Nat} {inf : TypeInfo} {zv : Value} (ho : o.op = .call c) (hc : c.callee = .builtin .append) (hat : c.argTypes = #[t, t])
    (ha : opds F c.args.toList = some [.raw (.slice none 0 0), b]) (hT' : E.P.underlying t = some (.slice e)) (hi : E.P.info? e = some inf) (hz : inf.zero = some zv) (hzs : zv.cells.size = inf.size)
    (hk : κ.sz = inf.size) (hby : 1 ≤ inf.bytes) (hr : readSeq κ b H = some (ex, ys)) (hb : ys.length * inf.bytes ≤ 140737488355328) : OpGood E.P o F H (.sl H.length) (H ++ [.seq κ ys e]) := by
  refine ⟨by simp, fun C ρ a w hF hR next Q hn => ?_⟩
  obtain ⟨h3, h4⟩ := opds_spec hF ha
  simp only [denL, den] at h3
  obtain ⟨ao, cc, e1, e2⟩ := readSeq_spec hr hR h4.2.1
  rw [e1] at h3
  have h3' : c.args.map a.eval = #[.slice none 0 0, .slice ao ys.length cc] := Array.toList_inj.1 (by simpa using h3)
  have hle : ys.length ≤ ys.length * inf.bytes := Nat.le_mul_of_pos_right _ (by omega)
  by_cases h0 : 0 < ys.length
  · obtain ⟨ad, rfl, e3⟩ := e2 h0
    obtain ⟨v', w', r1, r2, r3, r4, r5⟩ := run_append_at (P := E.P) w t o.type e inf zv hT' hi hz hzs (by rw [← hk]; exact K.sz_pos κ) _ 0 [] (World.ownsRow_nil w 0 e inf.size) ad ys.length cc (ys.flatMap κ.cells)
      (by rw [cells_flat_length, hk]) e3 (flat_one κ ys) h0 (by unfold maxLen; omega) (by rw [Nat.zero_add]; exact hb)
    simp only [Nat.zero_add, List.nil_append] at r2
    rw [← hk] at r2
    have hR' : Rel C (ext ρ H.length ⟨(v'.ownBlock).getD 0, v'⟩) (H ++ [.seq κ ys e]) w' := by
      refine hR.push (.seq κ ys e) _ (fun b hb => r3.block b hb (by simp [Value.ownBlock])) r3.size r3.os r3.tape r3.output ?_ ?_ trivial r4
      · exact ⟨r2, fun b hb => by simp [hb]⟩
      · intro b hb
        rcases r5 b hb with h | h
        · simp [Value.ownBlock] at h
        · omega
    have hn' := hn _ _ ext_lt hR' (by simp [SV.ok])
    simp only [den, ext_self] at hn'
    unfold Oper.wp
    simp only [execOp, ho, resolve, hc, hat, Sem.run_bind, Sem.run_pure, Result.andThen_ok, invoke, builtin, h3', r1]
    exact hn'
  · have hy : ys = [] := List.eq_nil_of_length_eq_zero (by omega)
    subst hy
    have r1 := run_append_zero (P := E.P) w t o.type e inf hT' hi none 0 0 (Nat.le_refl _) ao cc
    have hn' := hn _ _ ext_lt (hR.newNil κ e) (by simp [SV.ok])
    simp only [den, ext_self] at hn'
    unfold Oper.wp
    simp only [List.length_nil] at h3'
    simp only [execOp, ho, resolve, hc, hat, Sem.run_bind, Sem.run_pure, Result.andThen_ok, invoke, builtin, h3', r1]
    exact hn'
theorem op_append_own {o : Oper} {F : Fr} {H : Hp} {c : Call} {t e : TypeId} {b : SV} {ts : Nat} {κ : K} {xs ys : List κ.T} {ex : List Nat} {inf : TypeInfo} {zv : Value} (ho : o.op = .call c) (hc : c.callee = .builtin .append) (hat : c.argTypes = #[t, t])
    (ha : opds F c.args.toList = some [.sl ts, b]) (hT' : E.P.underlying t = some (.slice e)) (hi : E.P.info? e = some inf) (hz : inf.zero = some zv) (hzs : zv.cells.size = inf.size)
    (hk : κ.sz = inf.size) (hby : 1 ≤ inf.bytes) (ht : H[ts]? = some (.seq κ xs e)) (hr : readSeq κ b H = some (ex, ys)) (hb : (xs.length + ys.length) * inf.bytes ≤ 140737488355328) :
    OpGood E.P o F H (.sl H.length) (H.set ts .dead ++ [.seq κ (xs ++ ys) e]) := by
  refine ⟨by simp, fun C ρ a w hF hR next Q hn => ?_⟩
  obtain ⟨h3, h4⟩ := opds_spec hF ha
  simp only [denL, den] at h3
  obtain ⟨ao, cc, e1, e2⟩ := readSeq_spec hr hR h4.2.1
  rw [e1] at h3
  have h3' : c.args.map a.eval = #[(ρ ts).hdr, .slice ao ys.length cc] := Array.toList_inj.1 (by simpa using h3)
  have hle : xs.length + ys.length ≤ (xs.length + ys.length) * inf.bytes := Nat.le_mul_of_pos_right _ (by omega)
  have hob := hR.obj ts _ ht
  by_cases h0 : 0 < ys.length
  · obtain ⟨ad, rfl, e3⟩ := e2 h0
    have hown := hob.1
    rw [hk] at hown
    obtain ⟨v', w', r1, r2, r3, r4, r5⟩ := run_append_at (P := E.P) w t o.type e inf zv hT' hi hz hzs (by rw [← hk]; exact K.sz_pos κ) _ xs.length (xs.flatMap κ.cells) hown ad ys.length cc (ys.flatMap κ.cells)
      (by rw [cells_flat_length, hk]) e3 (flat_one κ ys) h0 (by unfold maxLen; omega) hb
    rw [← hk, ← List.flatMap_append, ← List.length_append] at r2
    have hR' := hR.grow ht r2 r3 r4 r5
    have hn' := hn _ _ ext_lt hR' (by simp [SV.ok])
    simp only [den, ext_self] at hn'
    unfold Oper.wp
    simp only [execOp, ho, resolve, hc, hat, Sem.run_bind, Sem.run_pure, Result.andThen_ok, invoke, builtin, h3', r1]
    exact hn'
  · have hy : ys = [] := List.eq_nil_of_length_eq_zero (by omega)
    subst hy
    obtain ⟨b1, n1, c1, he, hle1⟩ : ∃ b1 n1 c1, (ρ ts).hdr = .slice b1 n1 c1 ∧ n1 ≤ c1 := by
      rcases hob.1.2 with ⟨e1, _⟩ | ⟨gb, cap, cur, e1, _, _, hnc, _⟩
      · exact ⟨_, _, _, e1, Nat.le_refl _⟩
      · exact ⟨_, _, _, e1, hnc⟩
    have r1 := run_append_zero (P := E.P) w t o.type e inf hT' hi b1 n1 c1 hle1 ao cc
    have hR' := hR.grow (w' := w) (ys := xs ++ []) ht (v' := (ρ ts).hdr) (by rw [List.append_nil]; exact hob.1) ⟨rfl, rfl, rfl, Nat.le_refl _, fun _ _ _ => rfl⟩ ⟨_, _, _, he⟩ (fun b hb => .inl hb)
    have hn' := hn _ _ ext_lt hR' (by simp [SV.ok])
    simp only [den, ext_self] at hn'
    rw [he] at hn' h3'
    simp only [List.length_nil] at h3'
    unfold Oper.wp
    simp only [execOp, ho, resolve, hc, hat, Sem.run_bind, Sem.run_pure, Result.andThen_ok, invoke, builtin, h3', r1]
    exact hn'
theorem nilKind_some {x : Operand} {T : TypeId} {r : TypeId × K} (h : nilKind E x T = some r) : x = .const (.slice none 0 0) := by
  unfold nilKind at h
  split at h
  · rfl
  · cases h
/-- **Every operation does what the executor says.** -/
theorem notNil {F : Fr} {ts : Nat} {y : List SV} {l : List Operand} (ha : opds F l = some (.sl ts :: y)) : noNilHead l = true := by
  unfold noNilHead
  split
  · rename_i l'
    have e : opd F (.const (.slice none 0 0)) = some (.raw (.slice none 0 0)) := rfl
    simp only [opds, e] at ha
    cases hl : opds F l' with
    | none => rw [hl] at ha; simp at ha
    | some z => rw [hl] at ha; simp at ha
  · rfl

theorem opS_sound (hE : EnvOk E) {α : Type} {callf : CallF α} (hcall : CallOk E.P callf) (o : Oper) (F : Fr) (H : Hp) (K : SV → Hp → Option α) (r : α) (h : opS E callf o F H K = some r) :
    ∃ v H', K v H' = some r ∧ (isWr o = false → ∃ l, H' = H ++ l) ∧ ∀ F', Agree o F F' → OpGood E.P o F' H v H' := by
  unfold opS at h
  split at h
  · rename_i x ho
    split at h
    · rename_i e κ hnk
      exact ⟨_, _, h, fun _ => ⟨_, rfl⟩, fun F' _ => op_nil E (.inl (by rw [ho, nilKind_some E hnk]))⟩
    · obtain ⟨v, hv, h⟩ := bindO_some h
      exact ⟨v, H, h, fun _ => ⟨[], by simp⟩, fun F' hA => op_move E (.inl ho) (hA.opd (by simp [ho, Op.operands]) hv)⟩
  · rename_i x ho
    split at h
    · rename_i e κ hnk
      exact ⟨_, _, h, fun _ => ⟨_, rfl⟩, fun F' _ => op_nil E (.inr (by rw [ho, nilKind_some E hnk]))⟩
    · obtain ⟨v, hv, h⟩ := bindO_some h
      exact ⟨v, H, h, fun _ => ⟨[], by simp⟩, fun F' hA => op_move E (.inr ho) (hA.opd (by simp [ho, Op.operands]) hv)⟩
  · rename_i c x y ho
    split at h
    · rename_i b u v hc hx hy
      refine ⟨if b then u else v, H, ?_, fun _ => ⟨[], by simp⟩, fun F' hA => op_pick E ho (hA.opd (by simp [ho, Op.operands]) hc) (hA.opd (by simp [ho, Op.operands]) hx) (hA.opd (by simp [ho, Op.operands]) hy)⟩
      cases b <;> simpa using h
    · cases h
  · rename_i T ho
    obtain ⟨l, hl, h⟩ := bindO_some h
    split at h
    · rename_i hb
      split at h
      · obtain ⟨ts, _, h⟩ := bindO_some h
        exact ⟨_, _, h, fun _ => ⟨_, List.append_assoc ..⟩, fun F' _ => op_allocN E hE ts ho hl hb⟩
      · exact ⟨_, _, h, fun _ => ⟨_, rfl⟩, fun F' _ => op_alloc E hE ho hl hb⟩
    · cases h
  · rename_i T x ho
    obtain ⟨v, hv, h⟩ := bindO_some h
    split at h
    · rename_i hb
      split at h
      · obtain ⟨ts, _, h⟩ := bindO_some h
        exact ⟨_, _, h, fun _ => ⟨_, List.append_assoc ..⟩, fun F' hA => op_boxN E ts ho (hA.opd (by simp [ho, Op.operands]) hv) hb⟩
      · exact ⟨_, _, h, fun _ => ⟨_, rfl⟩, fun F' hA => op_box E ho (hA.opd (by simp [ho, Op.operands]) hv) hb⟩
    · cases h
  · rename_i T parts ho
    obtain ⟨z, hz, h⟩ := bindO_some h
    obtain ⟨ps, hp, h⟩ := bindO_some h
    split at h
    · rename_i fs hT
      obtain ⟨pl, hpl, h⟩ := bindO_some h
      obtain ⟨l, hl, h⟩ := bindO_some h
      exact ⟨_, _, h, fun _ => ⟨[], by simp⟩, fun F' hA => op_build E hE ho hz (hA.parts (by simp [ho, Op.operands]) hp) (.inl ⟨fs, pl, hT, hpl, hl⟩)⟩
    · rename_i n e hT
      obtain ⟨sz, hsz, h⟩ := bindO_some h
      obtain ⟨l, hl, h⟩ := bindO_some h
      exact ⟨_, _, h, fun _ => ⟨[], by simp⟩, fun F' hA => op_build E hE ho hz (hA.parts (by simp [ho, Op.operands]) hp) (.inr ⟨n, e, sz, hT, hsz, hl⟩)⟩
    · cases h
  · rename_i T len parts ho
    split at h
    · rename_i e hT
      obtain ⟨κ, hκ, h⟩ := bindO_some h
      obtain ⟨sz, hsz, h⟩ := bindO_some h
      obtain ⟨z, hz, h⟩ := bindO_some h
      obtain ⟨ps, hp, h⟩ := bindO_some h
      split at h
      · rename_i hk
        split at h
        · rename_i hb
          obtain ⟨xs, hx, h⟩ := bindO_some h
          simp only [Bool.and_eq_true] at hb
          obtain ⟨i, zv, g1, g2, g3, g4⟩ := zeroOf_spec E hE hz
          refine ⟨_, _, h, fun _ => ⟨_, rfl⟩, fun F' hA => op_buildSlice E ho hT hsz (hA.parts (by simp [ho, Op.operands]) hp) hk.1 (Nat.eq_of_beq_eq_true hb.1) (Nat.le_of_ble_eq_true hb.2) hx ⟨i, zv, g1, g2, ?_⟩⟩
          have hs1 : i.size = sz := by simpa [Env.size, g1] using hsz
          have := segWidth_eq (ρ := fun _ => ⟨0, undef⟩) (g4 (fun _ => False) default (fun _ => ⟨0, undef⟩) 0)
          rw [g3] at this
          rw [hs1, ← Nat.eq_of_beq_eq_true hk.2, ← this]; simp
        · cases h
      · cases h
    · cases h
  · rename_i T x ho
    obtain ⟨p, hp, h⟩ := bindO_some h
    obtain ⟨v, hv, h⟩ := bindO_some h
    exact ⟨_, _, h, fun _ => ⟨[], by simp⟩, fun F' hA => op_load E ho (hA.opd (by simp [ho, Op.operands]) hp) hv⟩
  · rename_i T p x ho
    obtain ⟨pv, hpv, h⟩ := bindO_some h
    obtain ⟨v, hv, h⟩ := bindO_some h
    split at h
    · obtain ⟨ts, _, h⟩ := bindO_some h
      obtain ⟨v', hv', h⟩ := bindO_some h
      obtain ⟨H', hH, h⟩ := bindO_some h
      split at h
      · rename_i hb
        exact ⟨_, _, h, fun hw => absurd hw (by simp [isWr, ho]), fun F' hA => op_storeN E ts ho (hA.opd (by simp [ho, Op.operands]) hpv) (hA.opd (by simp [ho, Op.operands]) hv) hb hv' hH⟩
      · cases h
    · obtain ⟨H', hH, h⟩ := bindO_some h
      exact ⟨_, _, h, fun hw => absurd hw (by simp [isWr, ho]), fun F' hA => op_store E ho (hA.opd (by simp [ho, Op.operands]) hpv) (hA.opd (by simp [ho, Op.operands]) hv) hH⟩
  · rename_i x ho
    obtain ⟨v, hv, h⟩ := bindO_some h
    split at h
    · exact ⟨_, _, h, fun _ => ⟨[], by simp⟩, fun F' hA => op_nilCheck E ho (hA.opd (by simp [ho, Op.operands]) hv)⟩
    · cases h
  · rename_i op T x y _ ho
    obtain ⟨u, hu, h⟩ := bindO_some h
    obtain ⟨v, hv, h⟩ := bindO_some h
    obtain ⟨z, hz, hs⟩ := binS_spec E h
    refine ⟨_, _, hz, fun _ => ⟨[], by simp⟩, fun F' hA => .val fun C ρ a w hF hR => ?_⟩
    obtain ⟨h1, h2⟩ := opd_spec hF (hA.opd (by simp [ho, Op.operands]) hu)
    obtain ⟨h3, h4⟩ := opd_spec hF (hA.opd (by simp [ho, Op.operands]) hv)
    obtain ⟨g1, g2⟩ := hs ρ C.R C.w1 H.length w x y h2 h4
    refine ⟨?_, g2⟩
    simp only [execOp, ho, h1, h3]
    rw [Sem.run_bind, g1]; rfl
  · rename_i op T x ho
    obtain ⟨u, hu, h⟩ := bindO_some h
    obtain ⟨v, hv, h⟩ := bindO_some h
    exact ⟨_, _, h, fun _ => ⟨[], by simp⟩, fun F' hA => op_unOp E ho (hA.opd (by simp [ho, Op.operands]) hu) hv⟩
  · rename_i src dst x ho
    obtain ⟨u, hu, h⟩ := bindO_some h
    split at h
    · rename_i d k k' n hs hd
      exact ⟨_, _, h, fun _ => ⟨[], by simp⟩, fun F' hA => op_convert E ho (hA.opd (by simp [ho, Op.operands]) hu) hd ⟨d, hs⟩⟩
    · cases h
  · rename_i f first cap ho
    obtain ⟨a, ha, h⟩ := bindO_some h
    obtain ⟨b, hb, h⟩ := bindO_some h
    exact ⟨_, _, h, fun _ => ⟨[], by simp⟩, fun F' hA => op_makeFunc E ho (hA.opds (fun x hx => by simp [ho, Op.operands]; exact .inl (by simpa using hx)) ha) (hA.opds (fun x hx => by simp [ho, Op.operands]; exact .inr (by simpa using hx)) hb)⟩
  · rename_i T x f ho
    obtain ⟨u, hu, h⟩ := bindO_some h
    obtain ⟨v, hv, h⟩ := bindO_some h
    exact ⟨_, _, h, fun _ => ⟨[], by simp⟩, fun F' hA => op_fieldAddr E ho (hA.opd (by simp [ho, Op.operands]) hu) hv⟩
  · rename_i T x f ho
    obtain ⟨u, hu, h⟩ := bindO_some h
    obtain ⟨fd, hfd, h⟩ := bindO_some h
    split at h
    · rename_i l g n hg hn _
      obtain ⟨r', hr, h⟩ := bindO_some h
      obtain ⟨v, hv, h⟩ := bindO_some h
      exact ⟨_, _, h, fun _ => ⟨[], by simp⟩, fun F' hA => op_field E ho (hA.opd (by simp [ho, Op.operands]) hu) hfd hg hn hr hv⟩
    · cases h
  · rename_i T x ix ho
    obtain ⟨u, hu, h⟩ := bindO_some h
    obtain ⟨i, hi, h⟩ := bindO_some h
    obtain ⟨v, hv, hg⟩ := indexS_spec E ho h
    exact ⟨_, _, hv, fun _ => ⟨[], by simp⟩, fun F' hA => hg F' (hA.opd (by simp [ho, Op.operands]) hu) (hA.opd (by simp [ho, Op.operands]) hi)⟩
  · rename_i T x ix ho
    obtain ⟨u, hu, h⟩ := bindO_some h
    obtain ⟨i, hi, h⟩ := bindO_some h
    split at h
    · have hT : E.P.underlying T = some .string := by assumption
      split at h
      · rename_i hb
        exact ⟨_, _, h, fun _ => ⟨[], by simp⟩, fun F' hA => op_index E ho (hA.opd (by simp [ho, Op.operands]) hu) (hA.opd (by simp [ho, Op.operands]) hi) hT hb⟩
      · cases h
    · cases h
  · rename_i T x lo hi ho
    obtain ⟨u, hu, h⟩ := bindO_some h
    obtain ⟨l, hl, h⟩ := bindO_some h
    obtain ⟨h', hh, h⟩ := bindO_some h
    split at h
    · rename_i e hT
      obtain ⟨sz, hsz, h⟩ := bindO_some h
      obtain ⟨L, hL, h⟩ := bindO_some h
      split at h
      · rename_i hb
        obtain ⟨v, hv, h⟩ := bindO_some h
        exact ⟨_, _, h, fun _ => ⟨[], by simp⟩, fun F' hA => op_slice E ho (hA.opd (by simp [ho, Op.operands]) hu) (hA.ivO (fun y hy => by simp [ho, Op.operands]; simp [hy]) hl) (hA.ivO (fun y hy => by simp [ho, Op.operands]; simp [hy]) hh) hT hsz hL hb hv⟩
      · cases h
    · cases h
  · rename_i T x y ho
    obtain ⟨u, hu, h⟩ := bindO_some h
    obtain ⟨u2, hu2, h⟩ := bindO_some h
    split at h
    · rename_i e1 k1 n1 k2 n2 hT h0
      obtain ⟨κ, hκ, h⟩ := bindO_some h
      obtain ⟨inf, hinf, h⟩ := bindO_some h
      obtain ⟨z, hz, h⟩ := bindO_some h
      split at h
      · rename_i hk
        obtain ⟨hk1, hk2, hk, _⟩ := hk
        obtain ⟨d, hd, h⟩ := bindO_some h
        split at h
        · rename_i hnm
          rw [hk1] at hu
          rw [hk2, ← hnm] at hu2
          split at h
          · rename_i hb
            exact ⟨_, _, h, fun _ => ⟨_, rfl⟩, fun F' hA => op_makeSlice E hE ho (hA.opd (by simp [ho, Op.operands]) hu) (hA.opd (by simp [ho, Op.operands]) hu2) hT hinf hz hk hd hb.1 hb.2.1 hb.2.2⟩
          · cases h
        · cases h
      · cases h
    · cases h
  · rename_i x i ho
    obtain ⟨u, hu, h⟩ := bindO_some h
    split at h
    · obtain ⟨v, hv, h⟩ := bindO_some h
      exact ⟨_, _, h, fun _ => ⟨[], by simp⟩, fun F' hA => op_extract E ho (hA.opd (by simp [ho, Op.operands]) hu) hv⟩
    · cases h
  · rename_i c ho
    obtain ⟨args, ha, h⟩ := bindO_some h
    split at h
    · -- a function's value
      rename_i f hc
      obtain ⟨fv, hf, h⟩ := bindO_some h
      split at h
      · rename_i g first cap
        have hres : ∀ (F' : Fr), Agree o F F' → ∀ (C : Cx) (ρ : Nat → Tk) (a : Act), FRel C ρ H.length F' a.tmps → (resolve a.eval c o.type = pure { target := .fn (.func g) (denL ρ cap).toArray, args := (denL ρ first).toArray ++ (denL ρ args).toArray }) ∧ SV.okL C.R C.w1 ρ H.length (first ++ args ++ cap) := by
          intro F' hA C ρ a hF
          obtain ⟨h1, h2⟩ := opd_spec hF (hA.opd (by simp [ho, Op.operands, Call.operands, hc]) hf)
          obtain ⟨h3, h4⟩ := opds_spec hF (hA.opds (fun x hx => by simp [ho, Op.operands, Call.operands]; exact .inr (by simpa using hx)) ha)
          refine ⟨?_, okL_append.2 ⟨okL_append.2 ⟨h2.1, h4⟩, h2.2⟩⟩
          simp only [resolve, hc, h1, den, Deferred.ofValue, eval_args h3]
        split at h
        · rename_i hadd
          rw [Bool.and_eq_true] at hadd
          obtain ⟨fn, e, p1, p2, p3, p4, p5, p6⟩ := hE.add g hadd.2 hadd.1
          unfold addS at h
          split at h
          · rename_i k1 x k2 y k3 cc heq
            split at h
            · cases h
            · rename_i hcc
              refine ⟨_, _, h, fun _ => ⟨[], by simp⟩, fun F' hA => .val fun C ρ a w hF hR => ?_⟩
              obtain ⟨r1, r2⟩ := hres F' hA C ρ a hF
              refine ⟨?_, by simp [SV.ok, SV.okL]⟩
              have hl : (denL ρ first).toArray ++ (denL ρ args).toArray ++ (denL ρ cap).toArray = #[.int k1 x, .int k2 y, .int k3 cc] := by
                have := congrArg (denL ρ) heq
                simp only [denL_append, denL, den] at this
                simp only [List.append_toArray, this]
              simp only [execOp, ho, r1, Sem.run_bind, Sem.run_pure, Result.andThen_ok, invoke, hl]
              rw [run_callFunc_extern p1 p2 p3 p4 p5, run_add64 p6 E.P w k1 k2 k3 x y cc hcc]
              simp [den, denL]
          · cases h
        · split at h
          · rename_i hsub
            rw [Bool.and_eq_true] at hsub
            obtain ⟨fn, e, p1, p2, p3, p4, p5, p6⟩ := hE.sub g hsub.2 hsub.1
            unfold subS at h
            split at h
            · rename_i k1 x k2 y k3 cc heq
              split at h
              · cases h
              · rename_i hcc
                refine ⟨_, _, h, fun _ => ⟨[], by simp⟩, fun F' hA => .val fun C ρ a w hF hR => ?_⟩
                obtain ⟨r1, r2⟩ := hres F' hA C ρ a hF
                refine ⟨?_, by simp [SV.ok, SV.okL]⟩
                have hl : (denL ρ first).toArray ++ (denL ρ args).toArray ++ (denL ρ cap).toArray = #[.int k1 x, .int k2 y, .int k3 cc] := by
                  have := congrArg (denL ρ) heq
                  simp only [denL_append, denL, den] at this
                  simp only [List.append_toArray, this]
                simp only [execOp, ho, r1, Sem.run_bind, Sem.run_pure, Result.andThen_ok, invoke, hl]
                rw [run_callFunc_extern p1 p2 p3 p4 p5, run_sub64 p6 E.P w k1 k2 k3 x y cc hcc]
                simp [den, denL]
            · cases h
          · split at h
            · rename_i fn hfn
              split at h
              · rename_i hb
                simp only [Bool.and_eq_true] at hb
                obtain ⟨v, H', hk, hS⟩ := hcall _ _ _ _ _ h
                refine ⟨v, H', hk, fun hw => absurd hw (by simp [isWr, ho, hc]), fun F' hA => ⟨hS.len, fun C ρ a w hF hR next Q hn => ?_⟩⟩
                obtain ⟨r1, r2⟩ := hres F' hA C ρ a hF
                have hcl := hS.run C ρ w hR r2
                have hne : fn.name ≠ "runtime.NumGoroutine" := by simpa using hb.2
                have hbn : fn.body ≠ none := by intro e; rw [e] at hb; simp at hb
                have hrun : (execOp a.eval o).run E.P w = .ok (.enter g (denL ρ (first ++ args ++ cap)).toArray) w := by
                  simp only [execOp, ho, r1, Sem.run_bind, Sem.run_pure, Result.andThen_ok, invoke, callFunc, run_program, hfn]
                  rw [if_neg (by simpa using hne), if_neg (by simpa using hbn)]
                  simp [denL_append]
                unfold Oper.wp
                rw [hrun]
                refine hcl.mono fun e w' hw => ?_
                obtain ⟨ρ', q1, q2, q3, q4⟩ := hw
                subst q2
                exact hn ρ' w' q1 q3 q4
              · cases h
            · cases h
      · cases h
    · -- len
      rename_i hc
      split at h
      · rename_i t x hat
        split at h
        · rename_i e hT
          obtain ⟨v, hv, h⟩ := bindO_some h
          refine ⟨_, _, h, fun _ => ⟨[], by simp⟩, fun F' hA => .val fun C ρ a w hF hR => ?_⟩
          obtain ⟨h3, h4⟩ := opds_spec hF (hA.opds (fun x hx => by simp [ho, Op.operands, Call.operands]; exact .inr (by simpa using hx)) ha)
          obtain ⟨b, n, cp, e1, e2⟩ := lenS_spec hv hR h4.1
          subst e2
          have harg : c.argTypes[0]? = some t := by rw [← Array.getElem?_toList, hat]; rfl
          refine ⟨?_, by simp [SV.ok]⟩
          simp only [denL, e1] at h3
          have h3' : c.args.map a.eval = #[.slice b n cp] := Array.toList_inj.1 (by simpa using h3)
          simp [execOp, ho, resolve, hc, invoke, builtin, Builtin.len_, h3', harg, run_underlying hT, goInt, den]
        · cases h
      · cases h
    · -- append
      rename_i hc
      split at h
      · rename_i t t' s x hat
        split at h
        · rename_i htt
          have htt := Nat.eq_of_beq_eq_true htt
          subst htt
          have hat' : c.argTypes = #[t, t] := Array.toList_inj.1 (by simpa using hat)
          split at h
          · rename_i e hT
            obtain ⟨κ, hκ, h⟩ := bindO_some h
            obtain ⟨inf, hinf, h⟩ := bindO_some h
            obtain ⟨z, hz, h⟩ := bindO_some h
            obtain ⟨⟨ex, ys⟩, hr, h⟩ := bindO_some h
            simp only at h
            split at h
            · rename_i hk
              obtain ⟨hk, hw, hby⟩ := hk
              obtain ⟨i, zv, g1, g2, g3, g4⟩ := zeroOf_spec E hE hz
              rw [hinf] at g1
              cases g1
              have hzs : zv.cells.size = inf.size := by
                have := segWidth_eq (ρ := fun _ => ⟨0, undef⟩) (g4 (fun _ => False) default (fun _ => ⟨0, undef⟩) 0)
                rw [g3] at this
                rw [← Nat.eq_of_beq_eq_true hw, ← this]; simp
              have hmem : ∀ x ∈ c.args.toList, x ∈ o.op.operands.toList := fun x hx => by simp [ho, Op.operands, Call.operands]; exact .inr (by simpa using hx)
              split at h
              · split at h
                · rename_i hb
                  exact ⟨_, _, h, fun _ => ⟨_, rfl⟩, fun F' hA => op_append_nil E ho hc hat' (hA.opds hmem ha) hT hinf g2 hzs hk (Nat.le_of_ble_eq_true hby) hr hb⟩
                · cases h
              · split at h
                · rename_i κ' xs e' ht
                  split at h
                  · rename_i he
                    subst he
                    split at h
                    · rename_i he
                      have he' := Nat.eq_of_beq_eq_true he.1
                      subst he'
                      split at h
                      · rename_i hb
                        exact ⟨_, _, h, fun hw => absurd hw (by simp only [isWr, ho, hc]; rw [notNil ha]; simp), fun F' hA => op_append_own E ho hc hat' (hA.opds hmem ha) hT hinf g2 hzs hk (Nat.le_of_ble_eq_true hby) ht hr hb⟩
                      · cases h
                    · cases h
                  · cases h
                · cases h
              · cases h
            · cases h
          · cases h
        · cases h
      · cases h
    · rename_i hc
      split at h
      · rename_i x l
        obtain ⟨v, hv, h⟩ := bindO_some h
        refine ⟨_, _, h, fun _ => ⟨[], by simp⟩, fun F' hA => .val fun C ρ a w hF hR => ?_⟩
        obtain ⟨h3, h4⟩ := opds_spec hF (hA.opds (fun x hx => by simp [ho, Op.operands, Call.operands]; exact .inr (by simpa using hx)) ha)
        have := minS_spec E _ _ _ hv ρ C.R C.w1 H.length w h4.1
        refine ⟨?_, this.2⟩
        simp only [denL] at h3
        have h3' : c.args.map a.eval = (den ρ x :: denL ρ l).toArray := Array.toList_inj.1 (by simpa using h3)
        simp only [execOp, ho, resolve, hc, Sem.run_bind, Sem.run_pure, Result.andThen_ok, invoke, builtin, Builtin.min_, h3', this.1]
      · cases h
    · rename_i hc
      split at h
      · rename_i x l
        obtain ⟨v, hv, h⟩ := bindO_some h
        refine ⟨_, _, h, fun _ => ⟨[], by simp⟩, fun F' hA => .val fun C ρ a w hF hR => ?_⟩
        obtain ⟨h3, h4⟩ := opds_spec hF (hA.opds (fun x hx => by simp [ho, Op.operands, Call.operands]; exact .inr (by simpa using hx)) ha)
        have := maxS_spec E _ _ _ hv ρ C.R C.w1 H.length w h4.1
        refine ⟨?_, this.2⟩
        simp only [denL] at h3
        have h3' : c.args.map a.eval = (den ρ x :: denL ρ l).toArray := Array.toList_inj.1 (by simpa using h3)
        simp only [execOp, ho, resolve, hc, Sem.run_bind, Sem.run_pure, Result.andThen_ok, invoke, builtin, Builtin.max_, h3', this.1]
      · cases h
    · cases h
  · cases h
end
end Go.Proofs.Ytkjellhkamfciaa.Sx
