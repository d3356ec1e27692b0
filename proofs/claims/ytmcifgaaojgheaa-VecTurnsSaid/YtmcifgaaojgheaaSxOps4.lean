/- SX: addresses, literals, calls: every operation is sound. -/
import Derived.Test.YtmcifgaaojgheaaSxOps3
import Derived.Laws.Externs
import Derived.Great.BuildSlice
namespace Go.Proofs.Ytmcifgaaojgheaa.Sx
open Go Go.RowKit

/-- What a call is worth: in whatever surroundings. -/
structure Sound (P : Program) (f : FuncId) (args : List SV) (H : Hp) (v : SV) (H' : Hp) : Prop where
  len : H.length ≤ H'.length
  run : ∀ (C : Cx) (ρ : Nat → Tk) (w : World), Rel C ρ H w → SV.okL C.R C.w1 ρ H.length args →
    Calls P f (denL ρ args).toArray w fun e w' => ∃ ρ', (∀ t, t < H.length → ρ' t = ρ t) ∧ e = .returned (den ρ' v) ∧ Rel C ρ' H' w' ∧ v.ok C.R C.w1 ρ' H'.length

def CallOk (P : Program) {α : Type} (callf : CallF α) : Prop :=
  ∀ f args H K r, callf f args H K = some r → ∃ v H', K v H' = some r ∧ Sound P f args H v H'

theorem denL_append (ρ : Nat → Tk) : ∀ (l m : List SV), denL ρ (l ++ m) = denL ρ l ++ denL ρ m
  | [], m => by simp [denL]
  | x :: l, m => by simp [denL, denL_append ρ l m]
theorem denL_length (ρ : Nat → Tk) : ∀ (l : List SV), (denL ρ l).length = l.length
  | [] => by simp [denL]
  | x :: l => by simp [denL, denL_length ρ l]
theorem denL_get (ρ : Nat → Tk) : ∀ (l : List SV) (i : Nat) (v : SV), l[i]? = some v → (denL ρ l)[i]? = some (den ρ v)
  | [], i, v, h => by simp at h
  | x :: l, 0, v, h => by simp at h; subst h; simp [denL]
  | x :: l, i + 1, v, h => by simp at h; simpa [denL] using denL_get ρ l i v h

section
variable (E : Env)

theorem add_lit (b o n : Nat) : (⟨b, o, none⟩ : Addr).add n = ⟨b, o + n, none⟩ := by unfold Addr.add; split <;> simp_all

theorem op_fieldAddr {o : Oper} {F : Fr} {H : Hp} {T : TypeId} {x : Operand} {f : Nat} {u v : SV} (ho : o.op = .fieldAddr T x f) (hx : opd F x = some u) (hv : fieldAddrS E T u f = some v) : OpGood E.P o F H v H :=
  .val fun C ρ a w hF hR => by
    obtain ⟨h1, h2⟩ := opd_spec hF hx
    unfold fieldAddrS at hv
    obtain ⟨fd, hfd, hv⟩ := bindO_some hv
    obtain ⟨n, hn, hv⟩ := bindO_some hv
    unfold fieldOf at hfd
    split at hfd
    · rename_i fs hT
      split at hv
      · cases hv
      · rename_i hn0
        have run : ∀ (b q : Nat), den ρ u = .pointer (some ⟨b, q, none⟩) → (execOp a.eval o).run E.P w = .ok (.value (.pointer (some ⟨b, q + fd.offset, none⟩))) w := fun b q e => by
          simp [execOp, ho, h1, e, Instr.fieldAt, run_underlying hT, hfd, Instr.sureAddr, fieldPlace, run_sizeOf E hn, hn0, add_lit]
        split at hv
        · cases hv; exact ⟨run _ _ rfl, h2⟩
        · cases hv
          refine ⟨?_, h2⟩
          rw [run _ _ rfl]
          simp only [den, Nat.add_assoc]
        · cases hv
          refine ⟨?_, h2⟩
          obtain ⟨hros, hi⟩ := h2
          rcases hros with ⟨he, _⟩ | ⟨ad, cap, e, _⟩
          · subst he; simp at hi
          · subst e
            rw [run _ _ rfl]
            simp only [den, rixAddr, Nat.add_assoc]
        · cases hv
    · cases hfd

theorem op_field {o : Oper} {F : Fr} {H : Hp} {T : TypeId} {x : Operand} {f n : Nat} {l r : List SV} {v : SV} {g : Bool} {fd : Field} (ho : o.op = .field T x f) (hx : opd F x = some (.agg l)) (hf : fieldOf E T f = some fd)
    (hg : E.isAgg fd.type = some g) (hn : E.size fd.type = some n) (hr : segTake l fd.offset n = some r) (hv : mkVal g r = some v) : OpGood E.P o F H v H :=
  .val fun C ρ a w hF hR => by
    obtain ⟨h1, h2⟩ := opd_spec hF hx
    unfold fieldOf at hf
    split at hf
    · rename_i fs hT
      have := run_part E hg hn (R := C.R) (w1 := C.w1) (m := H.length) (ρ := ρ) h2 hr hv w
      refine ⟨?_, this.2⟩
      simp [execOp, ho, h1, den, Instr.field, run_underlying hT, hf, asAgg, this.1]
    · cases hf

theorem op_slice {o : Oper} {F : Fr} {H : Hp} {T e : TypeId} {x hi : Operand} {v : Value} {κ : K} {xs : List κ.T} {k : IntKind} {i : Int} {sz : Nat} (ho : o.op = .slice T x none (some hi) none) (hx : opd F x = some (.ros v κ xs)) (hi' : opd F hi = some (.int k i))
    (hT : E.P.underlying T = some (.slice e)) (hsz : E.size e = some sz) (hb : 0 ≤ i ∧ i ≤ (xs.length : Int)) : OpGood E.P o F H (.ros (headV v i.toNat) κ (xs.take i.toNat)) H :=
  .val fun C ρ a w hF hR => by
    obtain ⟨h1, h2⟩ := opd_spec hF hx
    obtain ⟨h3, h4⟩ := opd_spec hF hi'
    simp only [SV.ok] at h2 ⊢
    have hcells : ∀ (n j : Nat) (c : Value), ((xs.take n).flatMap κ.cells)[j]? = some c → (xs.flatMap κ.cells)[j]? = some c := by
      intro n j c hj
      have e1 : xs.flatMap κ.cells = (xs.take n).flatMap κ.cells ++ (xs.drop n).flatMap κ.cells := by rw [← List.flatMap_append, List.take_append_drop]
      rw [e1, List.getElem?_append_left (List.getElem?_eq_some_iff.1 hj).1]
      exact hj
    rcases h2 with ⟨he, ad, cap, e1⟩ | ⟨ad, cap, e1, hl, hsp, hRb, hc⟩
    · subst he
      have hi0 : i = 0 := by simp at hb; omega
      subst hi0
      refine ⟨?_, .inl ⟨by simp, _, cap, by rw [e1]; rfl⟩⟩
      simp [execOp, ho, h1, h3, den, e1, Instr.sliceAt, Instr.slice, Instr.sliceBounds, Instr.sliceBound, asIntOf, run_underlying hT, run_sizeOf E hsz, headV]
    · have hi2 : i ≤ (cap : Int) := by omega
      refine ⟨?_, ?_⟩
      · simp [execOp, ho, h1, h3, den, e1, Instr.sliceAt, Instr.slice, Instr.sliceBounds, Instr.sliceBound, asIntOf, run_underlying hT, run_sizeOf E hsz, headV, hb.1, hi2]
      · by_cases h0 : i.toNat = 0
        · exact .inl ⟨by simp [h0], _, cap, by rw [e1, h0]; rfl⟩
        · have hlen : (xs.take i.toNat).length = i.toNat := by rw [List.length_take]; omega
          have hcap : ¬ cap = 0 := by omega
          refine .inr ⟨ad.add 0, cap, by rw [e1, hlen]; simp [headV, hcap], by omega, ?_, ?_, ?_⟩
          · obtain ⟨ab, ao, asp⟩ := ad
            simp only at hsp
            subst hsp
            rw [add_lit]
          · obtain ⟨ab, ao, asp⟩ := ad
            simp only at hsp hRb
            subst hsp
            rw [add_lit]; exact hRb
          · intro j c hj
            have := hc j c (hcells _ j c hj)
            obtain ⟨ab, ao, asp⟩ := ad
            simp only at hsp this
            subst hsp
            rw [add_lit]
            exact this
theorem op_index {o : Oper} {F : Fr} {H : Hp} {T : TypeId} {x ix : Operand} {s : ByteArray} {k : IntKind} {i : Int} (ho : o.op = .index T x ix) (hx : opd F x = some (.raw (.string s))) (hi : opd F ix = some (.int k i)) (hT : E.P.underlying T = some .string)
    (hb : 0 ≤ i ∧ i < (s.size : Int)) : OpGood E.P o F H (.int .u8 (strAt s i)) H :=
  .val fun C ρ a w hF hR => by
    obtain ⟨h1, h2⟩ := opd_spec hF hx
    obtain ⟨h3, h4⟩ := opd_spec hF hi
    refine ⟨?_, by simp [SV.ok]⟩
    have hs : i.toNat < s.size := by omega
    simp [execOp, ho, h1, h3, den, Instr.index, asIntOf, run_underlying hT, hb.1, strAt, hs]
theorem op_extract {o : Oper} {F : Fr} {H : Hp} {x : Operand} {i : Nat} {l : List SV} {v : SV} (ho : o.op = .extract x i) (hx : opd F x = some (.tup l)) (hv : l[i]? = some v) : OpGood E.P o F H v H :=
  .val fun C ρ a w hF hR => by
    obtain ⟨h1, h2⟩ := opd_spec hF hx
    refine ⟨?_, okL_iff.1 h2 v (List.mem_of_getElem? hv)⟩
    have := denL_get ρ l i v hv
    simp [execOp, ho, h1, den, Instr.extract, this]

theorem indexS_spec {α : Type} {o : Oper} {H : Hp} {T : TypeId} {x ix : Operand} {u i : SV} {K : SV → Option α} {r : α} (ho : o.op = .indexAddr T x ix)
    (h : indexS E H T u i K = some r) : ∃ v, K v = some r ∧ ∀ F, opd F x = some u → opd F ix = some i → OpGood E.P o F H v H := by
  unfold indexS at h
  split at h
  · rename_i k i
    split at h
    · -- an array
      rename_i n e t off hT
      split at h
      · rename_i sz l T' hsz ht
        split at h
        · rename_i κ xs m hseg
          split at h
          · rename_i hk
            obtain ⟨hk, hm⟩ := hk
            have hm' := Nat.eq_of_beq_eq_true hm
            split at h
            · rename_i hb
              refine ⟨_, h, fun F hx hi => .val fun C ρ a w hF hR => ?_⟩
              obtain ⟨h1, h2⟩ := opd_spec hF hx
              obtain ⟨h3, _⟩ := opd_spec hF hi
              refine ⟨?_, by simp only [SV.ok]; exact ⟨h2, by omega⟩⟩
              simp [execOp, ho, h1, h3, den, Instr.indexAt, asIntOf, run_underlying hT, Instr.sureAddr, hb.1, hb.2, run_sizeOf E hsz, add_lit, hk]
            · cases h
          · cases h
        · split at h
          · rename_i hb
            refine ⟨_, h, fun F hx hi => .val fun C ρ a w hF hR => ?_⟩
            obtain ⟨h1, h2⟩ := opd_spec hF hx
            obtain ⟨h3, _⟩ := opd_spec hF hi
            refine ⟨?_, h2⟩
            simp [execOp, ho, h1, h3, den, Instr.indexAt, asIntOf, run_underlying hT, Instr.sureAddr, hb.1, hb.2, run_sizeOf E hsz, add_lit]
          · cases h
      · cases h
    · -- a slice of one's own
      rename_i e t hT
      split at h
      · rename_i sz κ xs E' hsz ht
        split at h
        · rename_i hk
          split at h
          · rename_i hb
            refine ⟨_, h, fun F hx hi => .val fun C ρ a w hF hR => ?_⟩
            obtain ⟨h1, h2⟩ := opd_spec hF hx
            obtain ⟨h3, _⟩ := opd_spec hF hi
            have hob := hR.obj t _ ht
            rcases hob.1.2 with ⟨e1, e0⟩ | ⟨gb, cap, cur, e1, _, hg2, _⟩
            · omega
            · have hgb : gb = (ρ t).blk := hob.2 gb (by rw [e1]; rfl)
              refine ⟨?_, by simp only [SV.ok]; exact ⟨h2, _, _, _, e1, by omega⟩⟩
              simp [execOp, ho, h1, h3, den, e1, Instr.indexAt, asIntOf, run_underlying hT, hb.1, hb.2, run_sizeOf E hsz, add_lit, hk, hgb]
          · cases h
        · cases h
      · cases h
    · -- a slice that is read only
      rename_i e v κ xs hT
      split at h
      · rename_i sz hsz
        split at h
        · rename_i hk
          split at h
          · rename_i hb
            refine ⟨_, h, fun F hx hi => .val fun C ρ a w hF hR => ?_⟩
            obtain ⟨h1, h2⟩ := opd_spec hF hx
            obtain ⟨h3, _⟩ := opd_spec hF hi
            refine ⟨?_, by simp only [SV.ok]; exact ⟨h2, by omega⟩⟩
            rcases h2 with ⟨he, _⟩ | ⟨ad, cap, e1, _, hsp, _⟩
            · subst he; simp at hb; omega
            · subst e1
              obtain ⟨ab, ao, asp⟩ := ad
              simp only at hsp
              subst hsp
              simp [execOp, ho, h1, h3, den, rixAddr, Instr.indexAt, asIntOf, run_underlying hT, hb.1, hb.2, run_sizeOf E hsz, add_lit, hk]
          · cases h
        · cases h
      · cases h
    · -- an array within an element
      rename_i n e t κ j off hT
      split at h
      · rename_i sz hsz
        split at h
        · rename_i hb
          refine ⟨_, h, fun F hx hi => .val fun C ρ a w hF hR => ?_⟩
          obtain ⟨h1, h2⟩ := opd_spec hF hx
          obtain ⟨h3, _⟩ := opd_spec hF hi
          refine ⟨?_, h2⟩
          simp [execOp, ho, h1, h3, den, Instr.indexAt, asIntOf, run_underlying hT, Instr.sureAddr, hb.1, hb.2, run_sizeOf E hsz, add_lit, Nat.add_assoc]
        · cases h
      · cases h
    · rename_i n e v κ xs j off hT
      split at h
      · rename_i sz hsz
        split at h
        · rename_i hb
          refine ⟨_, h, fun F hx hi => .val fun C ρ a w hF hR => ?_⟩
          obtain ⟨h1, h2⟩ := opd_spec hF hx
          obtain ⟨h3, _⟩ := opd_spec hF hi
          refine ⟨?_, h2⟩
          obtain ⟨hros, hj⟩ := h2
          rcases hros with ⟨he, _⟩ | ⟨ad, cap, e1, _⟩
          · subst he; simp at hj
          · subst e1
            simp [execOp, ho, h1, h3, den, rixAddr, Instr.indexAt, asIntOf, run_underlying hT, Instr.sureAddr, hb.1, hb.2, run_sizeOf E hsz, add_lit, Nat.add_assoc]
        · cases h
      · cases h
    · cases h
  · cases h

theorem lenS_spec {H : Hp} {x v : SV} (h : lenS H x = some v) {C : Cx} {ρ : Nat → Tk} {w : World} (hR : Rel C ρ H w) (hx : x.ok C.R C.w1 ρ H.length) : ∃ a n c, den ρ x = .slice a n c ∧ v = .int .i64 (n : Int) := by
  unfold lenS at h
  split at h
  · rename_i t
    split at h
    · rename_i κ xs e ht
      cases h
      have hob := hR.obj t _ ht
      rcases hob.1.2 with ⟨e1, e0⟩ | ⟨gb, cap, cur, e1, _⟩
      · exact ⟨_, _, _, e1, by rw [e0]⟩
      · exact ⟨_, _, _, e1, rfl⟩
    · cases h
  · cases h
    rcases hx with ⟨he, a, cap, e⟩ | ⟨ad, cap, e, _⟩
    · exact ⟨_, _, _, e, by rw [he]; rfl⟩
    · exact ⟨_, _, _, e, rfl⟩
  · cases h; exact ⟨_, _, _, rfl, rfl⟩
  · cases h
theorem minS_spec : ∀ (l : List SV) (x v : SV), minS x l = some v → ∀ (ρ : Nat → Tk) (R : Nat → Prop) (w1 : World) (n : Nat) (w : World), x.ok R w1 ρ n → ((denL ρ l).foldlM Builtin.min2 (den ρ x)).run E.P w = .ok (den ρ v) w ∧ v.ok R w1 ρ n
  | [], x, v, h, ρ, R, w1, n, w, hx => by simp only [minS, Option.some.injEq] at h; subst h; exact ⟨by simp [denL], hx⟩
  | y :: l, x, v, h, ρ, R, w1, n, w, hx => by
    unfold minS at h
    split at h
    · rename_i he; cases he
    · rename_i k a k' b l' he
      cases he
      split at h
      · rename_i hk
        subst hk
        have := minS_spec l _ v h ρ R w1 n w (by simp [SV.ok])
        refine ⟨?_, this.2⟩
        simp only [denL, den, List.foldlM_cons, Sem.run_bind, Builtin.min2, Sem.run_pure, Result.andThen_ok]
        exact this.1
      · cases h
    · cases h
theorem maxS_spec : ∀ (l : List SV) (x v : SV), maxS x l = some v → ∀ (ρ : Nat → Tk) (R : Nat → Prop) (w1 : World) (n : Nat) (w : World), x.ok R w1 ρ n → ((denL ρ l).foldlM Builtin.max2 (den ρ x)).run E.P w = .ok (den ρ v) w ∧ v.ok R w1 ρ n
  | [], x, v, h, ρ, R, w1, n, w, hx => by simp only [maxS, Option.some.injEq] at h; subst h; exact ⟨by simp [denL], hx⟩
  | y :: l, x, v, h, ρ, R, w1, n, w, hx => by
    unfold maxS at h
    split at h
    · rename_i he; cases he
    · rename_i k a k' b l' he
      cases he
      split at h
      · rename_i hk
        subst hk
        have := maxS_spec l _ v h ρ R w1 n w (by simp [SV.ok])
        refine ⟨?_, this.2⟩
        simp only [denL, den, List.foldlM_cons, Sem.run_bind, Builtin.max2, Sem.run_pure, Result.andThen_ok]
        exact this.1
      · cases h
    · cases h
end
end Go.Proofs.Ytmcifgaaojgheaa.Sx
