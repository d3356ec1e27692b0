/- SX: addresses, literals, calls: every operation is sound. -/
import Derived.Test.YtkjellhkamfciaaSxOps3
import Derived.Laws.Externs
import Derived.Great.BuildSlice
namespace Go.Proofs.Ytkjellhkamfciaa.Sx
open Go Go.RowKit

/-- What a call is worth: in whatever surroundings. -/
structure Sound (P : Program) (f : FuncId) (args : List SV) (H : Hp) (v : SV) (H' : Hp) : Prop where
  len : H.length ≤ H'.length
  run : ∀ (C : Cx) (ρ : Nat → Tk) (w : World), Rel C ρ H w → SV.okL C.R C.w1 ρ H.length args →
    Calls P f (denL ρ args).toArray w fun e w' => ∃ ρ', (∀ t, t < H.length → ρ' t = ρ t) ∧ e = .returned (den ρ' v) ∧ Rel C ρ' H' w' ∧ v.ok C.R C.w1 ρ' H'.length

def CallOk (P : Program) {α : Type} (callf : CallF α) : Prop :=
  ∀ f args H K r, callf f args H K = some r → ∃ v H', K v H' = some r ∧ Sound P f args H v H'

theorem denL_append (ρ : Nat → Tk) : ∀ (l m : List SV), denL ρ (l ++ m) = denL ρ l ++ denL ρ m
  | [], m => by simp [denL]
  | x :: l, m => by simp [denL, denL_append ρ l m]
theorem denL_length (ρ : Nat → Tk) : ∀ (l : List SV), (denL ρ l).length = l.length
  | [] => by simp [denL]
  | x :: l => by simp [denL, denL_length ρ l]
theorem denL_get (ρ : Nat → Tk) : ∀ (l : List SV) (i : Nat) (v : SV), l[i]? = some v → (denL ρ l)[i]? = some (den ρ v)
  | [], i, v, h => by simp at h
  | x :: l, 0, v, h => by simp at h; subst h; simp [denL]
  | x :: l, i + 1, v, h => by simp at h; simpa [denL] using denL_get ρ l i v h

section
variable (E : Env)

theorem add_lit (b o n : Nat) : (⟨b, o, none⟩ : Addr).add n = ⟨b, o + n, none⟩ := by unfold Addr.add; split <;> simp_all

theorem op_fieldAddr {o : Oper} {F : Fr} {H : Hp} {T : TypeId} {x : Operand} {f : Nat} {u v : SV} (ho : o.op = .fieldAddr T x f) (hx : opd F x = some u) (hv : fieldAddrS E T u f = some v) : OpGood E.P o F H v H :=
  .val fun C ρ a w hF hR => by
    obtain ⟨h1, h2⟩ := opd_spec hF hx
    unfold fieldAddrS at hv
    obtain ⟨fd, hfd, hv⟩ := bindO_some hv
    obtain ⟨n, hn, hv⟩ := bindO_some hv
    unfold fieldOf at hfd
    split at hfd
    · rename_i fs hT
      split at hv
      · cases hv
      · rename_i hn0
        have run : ∀ (b q : Nat), den ρ u = .pointer (some ⟨b, q, none⟩) → (execOp a.eval o).run E.P w = .ok (.value (.pointer (some ⟨b, q + fd.offset, none⟩))) w := fun b q e => by
          simp [execOp, ho, h1, e, Instr.fieldAt, run_underlying hT, hfd, Instr.sureAddr, fieldPlace, run_sizeOf E hn, hn0, add_lit]
        split at hv
        · cases hv; exact ⟨run _ _ rfl, h2⟩
        · cases hv
          refine ⟨?_, h2⟩
          rw [run _ _ rfl]
          simp only [den, Nat.add_assoc]
        · cases hv
          refine ⟨?_, h2⟩
          obtain ⟨hros, hi⟩ := h2
          rcases hros with ⟨he, _⟩ | ⟨ad, cap, e, _⟩
          · subst he; simp at hi
          · subst e
            rw [run _ _ rfl]
            simp only [den, rixAddr, Nat.add_assoc]
        · cases hv
    · cases hfd

theorem op_field {o : Oper} {F : Fr} {H : Hp} {T : TypeId} {x : Operand} {f n : Nat} {l r : List SV} {v : SV} {g : Bool} {fd : Field} (ho : o.op = .field T x f) (hx : opd F x = some (.agg l)) (hf : fieldOf E T f = some fd)
    (hg : E.isAgg fd.type = some g) (hn : E.size fd.type = some n) (hr : segTake l fd.offset n = some r) (hv : mkVal g r = some v) : OpGood E.P o F H v H :=
  .val fun C ρ a w hF hR => by
    obtain ⟨h1, h2⟩ := opd_spec hF hx
    unfold fieldOf at hf
    split at hf
    · rename_i fs hT
      have := run_part E hg hn (R := C.R) (w1 := C.w1) (m := H.length) (ρ := ρ) h2 hr hv w
      refine ⟨?_, this.2⟩
      simp [execOp, ho, h1, den, Instr.field, run_underlying hT, hf, asAgg, this.1]
    · cases hf

theorem flat_win (κ : K) (xs : List κ.T) (lo n : Nat) (hle : lo + n ≤ xs.length) (j : Nat) (c : Value) (h : (((xs.drop lo).take n).flatMap κ.cells)[j]? = some c) : (xs.flatMap κ.cells)[lo * κ.sz + j]? = some c := by
  have e1 : xs.flatMap κ.cells = (xs.take lo).flatMap κ.cells ++ (((xs.drop lo).take n).flatMap κ.cells ++ ((xs.drop lo).drop n).flatMap κ.cells) := by
    rw [← List.flatMap_append, List.take_append_drop, ← List.flatMap_append, List.take_append_drop]
  have e2 : ((xs.take lo).flatMap κ.cells).length = lo * κ.sz := by rw [cells_flat_length, List.length_take, Nat.min_eq_left (by omega)]
  rw [e1, List.getElem?_append_right (by omega), e2, Nat.add_sub_cancel_left, List.getElem?_append_left (List.getElem?_eq_some_iff.1 h).1]
  exact h
theorem ros_win {R : Nat → Prop} {w : World} {v : Value} {κ : K} {xs : List κ.T} {lo n : Nat} (h : RosOk R w v κ xs) (hle : lo + n ≤ xs.length) : RosOk R w (winV v κ.sz lo n) κ ((xs.drop lo).take n) := by
  by_cases hn : n = 0
  · subst hn
    rcases h with ⟨_, a, c, e⟩ | ⟨ad, cap, e, _⟩
    · exact .inl ⟨by simp, _, _, by rw [e]; rfl⟩
    · exact .inl ⟨by simp, _, _, by rw [e]; rfl⟩
  · rcases h with ⟨e0, _⟩ | ⟨ad, cap, e, hlen, hsp, hR, hc⟩
    · subst e0; simp at hle; omega
    · obtain ⟨ab, ao, asp⟩ := ad
      simp only at hsp hR hc
      subst hsp
      have hl : ((xs.drop lo).take n).length = n := by rw [List.length_take, List.length_drop]; omega
      have hcap : ¬ cap = lo := by omega
      refine .inr ⟨⟨ab, ao + lo * κ.sz, none⟩, cap - lo, by rw [e, hl]; simp [winV, hcap, add_lit], by omega, rfl, hR, fun j c hj => ?_⟩
      have := hc _ c (flat_win κ xs lo n hle j c hj)
      simpa only [Nat.add_assoc] using this
theorem ivO_spec {C : Cx} {ρ : Nat → Tk} {n : Nat} {F : Fr} {a : Act} (hF : FRel C ρ n F a.tmps) {lo : Option Operand} {l : Option Int} (h : ivO F lo = some l) : (lo.map a.eval = none ∧ l = none) ∨ ∃ k i, lo.map a.eval = some (.int k i) ∧ l = some i := by
  unfold ivO at h
  split at h
  · cases h; exact .inl ⟨rfl, rfl⟩
  · split at h
    · rename_i x k i hx
      cases h
      obtain ⟨h1, _⟩ := opd_spec hF hx
      exact .inr ⟨k, i, by rw [Option.map_some, h1]; rfl, rfl⟩
    · cases h
theorem run_slice_win {T e : TypeId} {sz : Nat} (hT : E.P.underlying T = some (.slice e)) (hsz : E.size e = some sz) (w : World) (a : Option Addr) (n c : Nat) (lo hi : Option Value) (l h : Option Int) (hlo : (lo = none ∧ l = none) ∨ ∃ k i, lo = some (.int k i) ∧ l = some i)
    (hhi : (hi = none ∧ h = none) ∨ ∃ k i, hi = some (.int k i) ∧ h = some i) (h0 : 0 ≤ lowI l) (h1 : lowI l ≤ highI n h) (h2 : highI n h ≤ (n : Int)) (h3 : n ≤ c) :
    (Instr.sliceAt T (.slice a n c) lo hi none).run E.P w = .ok (winV (.slice a n c) sz (lowI l).toNat (highI n h - lowI l).toNat) w := by
  rcases hlo with ⟨rfl, rfl⟩ | ⟨k1, i, rfl, rfl⟩ <;> rcases hhi with ⟨rfl, rfl⟩ | ⟨k2, j, rfl, rfl⟩ <;> simp only [lowI, highI] at h0 h1 h2 ⊢
  · simp [Instr.sliceAt, Instr.slice, Instr.sliceBounds, Instr.sliceBound, asIntOf, run_underlying hT, run_sizeOf E hsz, winV]
  · have c1 : j ≤ (c : Int) := by omega
    simp [Instr.sliceAt, Instr.slice, Instr.sliceBounds, Instr.sliceBound, asIntOf, run_underlying hT, run_sizeOf E hsz, winV, h1, c1]
  · have e1 : ((n : Int) - i).toNat = n - i.toNat := by omega
    simp [Instr.sliceAt, Instr.slice, Instr.sliceBounds, Instr.sliceBound, asIntOf, run_underlying hT, run_sizeOf E hsz, winV, h0, h1, e1]
  · have c1 : j ≤ (c : Int) := by omega
    have c2 : 0 ≤ j := by omega
    have c3 : i ≤ (j.toNat : Int) := by omega
    have e1 : (j - i).toNat = j.toNat - i.toNat := by omega
    simp [Instr.sliceAt, Instr.slice, Instr.sliceBounds, Instr.sliceBound, asIntOf, run_underlying hT, run_sizeOf E hsz, winV, h0, c1, c2, c3, e1]
    intro hx; exfalso; omega
theorem op_slice {o : Oper} {F : Fr} {H : Hp} {T e : TypeId} {x : Operand} {lo hi : Option Operand} {u v : SV} {l h : Option Int} {sz L : Nat} (ho : o.op = .slice T x lo hi none) (hx : opd F x = some u) (hl : ivO F lo = some l) (hh : ivO F hi = some h)
    (hT : E.P.underlying T = some (.slice e)) (hsz : E.size e = some sz) (hL : winLen H sz u = some L) (hb : 0 ≤ lowI l ∧ lowI l ≤ highI L h ∧ highI L h ≤ (L : Int)) (hv : cutS H u (lowI l).toNat (highI L h - lowI l).toNat = some v) : OpGood E.P o F H v H :=
  .val fun C ρ a w hF hR => by
    obtain ⟨h1, h2⟩ := opd_spec hF hx
    have hl' := ivO_spec hF hl
    have hh' := ivO_spec hF hh
    -- the value, its length and room; and what it is cut to
    have key : ∃ b c, den ρ u = .slice b L c ∧ L ≤ c ∧ den ρ v = winV (.slice b L c) sz (lowI l).toNat (highI L h - lowI l).toNat ∧ v.ok C.R C.w1 ρ H.length := by
      unfold winLen at hL
      split at hL
      · rename_i vv κ xs
        split at hL
        · rename_i hk
          cases hL
          simp only [cutS, Option.some.injEq] at hv
          subst hv
          simp only [SV.ok] at h2
          have hw := ros_win (lo := (lowI l).toNat) (n := (highI xs.length h - lowI l).toNat) h2 (by omega)
          rcases h2 with ⟨he, b, cap, e1⟩ | ⟨ad, cap, e1, hlen, _⟩
          · refine ⟨b, cap, by rw [he]; simpa [den] using e1, by rw [he]; exact Nat.zero_le _, ?_, hw⟩
            simp only [den]
            rw [e1, he, hk]; rfl
          · refine ⟨some ad, cap, by simpa [den] using e1, hlen, ?_, hw⟩
            simp only [den]
            rw [e1, hk]
        · cases hL
      · rename_i t
        split at hL
        · rename_i κ xs E' ht
          split at hL
          · rename_i hk
            cases hL
            simp only [cutS, ht, Option.some.injEq] at hv
            subst hv
            have hob := hR.obj t _ ht
            have hlt := (List.getElem?_eq_some_iff.1 ht).1
            rcases hob.1.2 with ⟨e1, e0⟩ | ⟨gb, cap, cur, e1, _, hg2, hnc, _⟩
            · refine ⟨none, 0, by rw [e0]; simpa [den] using e1, by omega, ?_, by simp only [SV.ok]; exact ⟨hlt, _, _, _, e1, by omega⟩⟩
              simp only [den]
              rw [e1, e0, hk]
            · refine ⟨_, cap, by simpa [den] using e1, hnc, ?_, by simp only [SV.ok]; exact ⟨hlt, _, _, _, e1, by omega⟩⟩
              simp only [den]
              rw [e1, hk]
          · cases hL
        · cases hL
      · rename_i t κ lo' n'
        split at hL
        · rename_i κ2 xs2 E2 ht
          split at hL
          · rename_i hk
            cases hL
            simp only [cutS] at hv
            split at hv
            · rename_i hc
              cases hv
              simp only [SV.ok] at h2
              obtain ⟨hlt, b, k0, c0, he, hle⟩ := h2
              have hob := hR.obj t _ ht
              generalize hl0 : (lowI l).toNat = l0 at *
              generalize hn0 : (highI L h - lowI l).toNat = n0 at *
              have hln : l0 + n0 ≤ L := by omega
              rcases hob.1.2 with ⟨e1, e0⟩ | ⟨gb, cap, cur, e1, _, hg2, hnc, _⟩
              · rw [e1] at he
                cases he
                refine ⟨none, 0, ?_, by omega, ?_, by simp only [SV.ok]; exact ⟨hlt, _, _, _, e1, by omega⟩⟩
                · simp only [den, e1, winV]
                  simp
                · simp only [den, e1, winV]
                  simp
              · rw [e1] at he
                cases he
                refine ⟨(if c0 = lo' then some ⟨gb, 0, none⟩ else some ⟨gb, lo' * κ.sz, none⟩), c0 - lo', ?_, by omega, ?_, by simp only [SV.ok]; exact ⟨hlt, _, _, _, e1, by omega⟩⟩
                · simp only [den, e1, winV]
                  split <;> simp [add_lit]
                · simp only [den, e1, winV]
                  rcases hc with h0 | h0
                  · subst h0
                    simp only [Nat.add_zero, Nat.sub_zero, Nat.zero_mul]
                    by_cases hc0 : c0 = lo'
                    · subst hc0; simp
                    · have : ¬ c0 - lo' = 0 := by omega
                      simp [hc0, this, add_lit]
                  · have a1 : ¬ c0 = lo' := by omega
                    have a2 : ¬ c0 - lo' = l0 := by omega
                    have a3 : ¬ c0 = lo' + l0 := by omega
                    simp [a1, a2, a3, add_lit, hk, Nat.add_mul, Nat.sub_sub]
            · cases hv
          · cases hL
        · cases hL
      · cases hL
    obtain ⟨b, c, k1, k2, k3, k4⟩ := key
    refine ⟨?_, k4⟩
    simp only [execOp, ho, h1, k1, Option.map_none, Sem.run_bind, run_slice_win E hT hsz w b L c _ _ l h hl' hh' hb.1 hb.2.1 hb.2.2 k2, Result.andThen_ok, Sem.run_pure, k3]
theorem op_index {o : Oper} {F : Fr} {H : Hp} {T : TypeId} {x ix : Operand} {s : ByteArray} {k : IntKind} {i : Int} (ho : o.op = .index T x ix) (hx : opd F x = some (.raw (.string s))) (hi : opd F ix = some (.int k i)) (hT : E.P.underlying T = some .string)
    (hb : 0 ≤ i ∧ i < (s.size : Int)) : OpGood E.P o F H (.int .u8 (strAt s i)) H :=
  .val fun C ρ a w hF hR => by
    obtain ⟨h1, h2⟩ := opd_spec hF hx
    obtain ⟨h3, h4⟩ := opd_spec hF hi
    refine ⟨?_, by simp [SV.ok]⟩
    have hs : i.toNat < s.size := by omega
    simp [execOp, ho, h1, h3, den, Instr.index, asIntOf, run_underlying hT, hb.1, strAt, hs]
theorem op_extract {o : Oper} {F : Fr} {H : Hp} {x : Operand} {i : Nat} {l : List SV} {v : SV} (ho : o.op = .extract x i) (hx : opd F x = some (.tup l)) (hv : l[i]? = some v) : OpGood E.P o F H v H :=
  .val fun C ρ a w hF hR => by
    obtain ⟨h1, h2⟩ := opd_spec hF hx
    refine ⟨?_, okL_iff.1 h2 v (List.mem_of_getElem? hv)⟩
    have := denL_get ρ l i v hv
    simp [execOp, ho, h1, den, Instr.extract, this]

theorem indexS_spec {α : Type} {o : Oper} {H : Hp} {T : TypeId} {x ix : Operand} {u i : SV} {K : SV → Option α} {r : α} (ho : o.op = .indexAddr T x ix)
    (h : indexS E H T u i K = some r) : ∃ v, K v = some r ∧ ∀ F, opd F x = some u → opd F ix = some i → OpGood E.P o F H v H := by
  unfold indexS at h
  split at h
  · rename_i k i
    split at h
    · -- an array
      rename_i n e t off hT
      split at h
      · rename_i sz l T' hsz ht
        split at h
        · rename_i κ xs m hseg
          split at h
          · rename_i hk
            obtain ⟨hk, hm⟩ := hk
            have hm' := Nat.eq_of_beq_eq_true hm
            split at h
            · rename_i hb
              refine ⟨_, h, fun F hx hi => .val fun C ρ a w hF hR => ?_⟩
              obtain ⟨h1, h2⟩ := opd_spec hF hx
              obtain ⟨h3, _⟩ := opd_spec hF hi
              refine ⟨?_, by simp only [SV.ok]; exact ⟨h2, by omega⟩⟩
              simp [execOp, ho, h1, h3, den, Instr.indexAt, asIntOf, run_underlying hT, Instr.sureAddr, hb.1, hb.2, run_sizeOf E hsz, add_lit, hk]
            · cases h
          · cases h
        · split at h
          · rename_i hb
            refine ⟨_, h, fun F hx hi => .val fun C ρ a w hF hR => ?_⟩
            obtain ⟨h1, h2⟩ := opd_spec hF hx
            obtain ⟨h3, _⟩ := opd_spec hF hi
            refine ⟨?_, h2⟩
            simp [execOp, ho, h1, h3, den, Instr.indexAt, asIntOf, run_underlying hT, Instr.sureAddr, hb.1, hb.2, run_sizeOf E hsz, add_lit]
          · cases h
      · cases h
    · -- a slice of one's own
      rename_i e t hT
      split at h
      · rename_i sz κ xs E' hsz ht
        split at h
        · rename_i hk
          split at h
          · rename_i hb
            refine ⟨_, h, fun F hx hi => .val fun C ρ a w hF hR => ?_⟩
            obtain ⟨h1, h2⟩ := opd_spec hF hx
            obtain ⟨h3, _⟩ := opd_spec hF hi
            have hob := hR.obj t _ ht
            rcases hob.1.2 with ⟨e1, e0⟩ | ⟨gb, cap, cur, e1, _, hg2, _⟩
            · omega
            · have hgb : gb = (ρ t).blk := hob.2 gb (by rw [e1]; rfl)
              refine ⟨?_, by simp only [SV.ok]; exact ⟨h2, _, _, _, e1, by omega⟩⟩
              simp [execOp, ho, h1, h3, den, e1, Instr.indexAt, asIntOf, run_underlying hT, hb.1, hb.2, run_sizeOf E hsz, add_lit, hk, hgb]
          · cases h
        · cases h
      · cases h
    · -- a slice that is read only
      rename_i e v κ xs hT
      split at h
      · rename_i sz hsz
        split at h
        · rename_i hk
          split at h
          · rename_i hb
            refine ⟨_, h, fun F hx hi => .val fun C ρ a w hF hR => ?_⟩
            obtain ⟨h1, h2⟩ := opd_spec hF hx
            obtain ⟨h3, _⟩ := opd_spec hF hi
            refine ⟨?_, by simp only [SV.ok]; exact ⟨h2, by omega⟩⟩
            rcases h2 with ⟨he, _⟩ | ⟨ad, cap, e1, _, hsp, _⟩
            · subst he; simp at hb; omega
            · subst e1
              obtain ⟨ab, ao, asp⟩ := ad
              simp only at hsp
              subst hsp
              simp [execOp, ho, h1, h3, den, rixAddr, Instr.indexAt, asIntOf, run_underlying hT, hb.1, hb.2, run_sizeOf E hsz, add_lit, hk]
          · cases h
        · cases h
      · cases h
    · -- a window of a slice of one's own
      rename_i e t κ lo n hT
      split at h
      · rename_i sz κ' xs E' hsz ht
        split at h
        · rename_i hk
          obtain ⟨hk, hk2⟩ := hk
          split at h
          · rename_i hb
            refine ⟨_, h, fun F hx hi => .val fun C ρ a w hF hR => ?_⟩
            obtain ⟨h1, h2⟩ := opd_spec hF hx
            obtain ⟨h3, _⟩ := opd_spec hF hi
            simp only [SV.ok] at h2
            obtain ⟨ht', a0, k0, c0, he, hle⟩ := h2
            have hob := hR.obj t _ ht
            rcases hob.1.2 with ⟨e1, e0⟩ | ⟨gb, cap, cur, e1, _, hg2, hnc, _⟩
            · rw [e1] at he; cases he; omega
            · have hgb : gb = (ρ t).blk := hob.2 gb (by rw [e1]; rfl)
              have e2 := he
              rw [e1] at e2
              cases e2
              refine ⟨?_, by simp only [SV.ok]; exact ⟨ht', _, _, _, e1, by omega⟩⟩
              have hc : ¬ c0 = lo := by omega
              simp [execOp, ho, h1, h3, den, e1, winV, hc, Instr.indexAt, asIntOf, run_underlying hT, hb.1, hb.2, run_sizeOf E hsz, add_lit, hk, hgb, Nat.add_mul]
          · cases h
        · cases h
      · cases h
    · -- an array within an element
      rename_i n e t κ j off hT
      split at h
      · rename_i sz hsz
        split at h
        · rename_i hb
          refine ⟨_, h, fun F hx hi => .val fun C ρ a w hF hR => ?_⟩
          obtain ⟨h1, h2⟩ := opd_spec hF hx
          obtain ⟨h3, _⟩ := opd_spec hF hi
          refine ⟨?_, h2⟩
          simp [execOp, ho, h1, h3, den, Instr.indexAt, asIntOf, run_underlying hT, Instr.sureAddr, hb.1, hb.2, run_sizeOf E hsz, add_lit, Nat.add_assoc]
        · cases h
      · cases h
    · rename_i n e v κ xs j off hT
      split at h
      · rename_i sz hsz
        split at h
        · rename_i hb
          refine ⟨_, h, fun F hx hi => .val fun C ρ a w hF hR => ?_⟩
          obtain ⟨h1, h2⟩ := opd_spec hF hx
          obtain ⟨h3, _⟩ := opd_spec hF hi
          refine ⟨?_, h2⟩
          obtain ⟨hros, hj⟩ := h2
          rcases hros with ⟨he, _⟩ | ⟨ad, cap, e1, _⟩
          · subst he; simp at hj
          · subst e1
            simp [execOp, ho, h1, h3, den, rixAddr, Instr.indexAt, asIntOf, run_underlying hT, Instr.sureAddr, hb.1, hb.2, run_sizeOf E hsz, add_lit, Nat.add_assoc]
        · cases h
      · cases h
    · cases h
  · cases h

theorem lenS_spec {H : Hp} {x v : SV} (h : lenS H x = some v) {C : Cx} {ρ : Nat → Tk} {w : World} (hR : Rel C ρ H w) (hx : x.ok C.R C.w1 ρ H.length) : ∃ a n c, den ρ x = .slice a n c ∧ v = .int .i64 (n : Int) := by
  unfold lenS at h
  split at h
  · rename_i t
    split at h
    · rename_i κ xs e ht
      cases h
      have hob := hR.obj t _ ht
      rcases hob.1.2 with ⟨e1, e0⟩ | ⟨gb, cap, cur, e1, _⟩
      · exact ⟨_, _, _, e1, by rw [e0]⟩
      · exact ⟨_, _, _, e1, rfl⟩
    · cases h
  · cases h
    rcases hx with ⟨he, a, cap, e⟩ | ⟨ad, cap, e, _⟩
    · exact ⟨_, _, _, e, by rw [he]; rfl⟩
    · exact ⟨_, _, _, e, rfl⟩
  · cases h
    simp only [SV.ok] at hx
    obtain ⟨_, a0, k0, c0, he, _⟩ := hx
    exact ⟨_, _, _, by simp only [den, he, winV]; rfl, rfl⟩
  · cases h; exact ⟨_, _, _, rfl, rfl⟩
  · cases h
theorem minS_spec : ∀ (l : List SV) (x v : SV), minS x l = some v → ∀ (ρ : Nat → Tk) (R : Nat → Prop) (w1 : World) (n : Nat) (w : World), x.ok R w1 ρ n → ((denL ρ l).foldlM Builtin.min2 (den ρ x)).run E.P w = .ok (den ρ v) w ∧ v.ok R w1 ρ n
  | [], x, v, h, ρ, R, w1, n, w, hx => by simp only [minS, Option.some.injEq] at h; subst h; exact ⟨by simp [denL], hx⟩
  | y :: l, x, v, h, ρ, R, w1, n, w, hx => by
    unfold minS at h
    split at h
    · rename_i he; cases he
    · rename_i k a k' b l' he
      cases he
      split at h
      · rename_i hk
        subst hk
        have := minS_spec l _ v h ρ R w1 n w (by simp [SV.ok])
        refine ⟨?_, this.2⟩
        simp only [denL, den, List.foldlM_cons, Sem.run_bind, Builtin.min2, Sem.run_pure, Result.andThen_ok]
        exact this.1
      · cases h
    · cases h
theorem maxS_spec : ∀ (l : List SV) (x v : SV), maxS x l = some v → ∀ (ρ : Nat → Tk) (R : Nat → Prop) (w1 : World) (n : Nat) (w : World), x.ok R w1 ρ n → ((denL ρ l).foldlM Builtin.max2 (den ρ x)).run E.P w = .ok (den ρ v) w ∧ v.ok R w1 ρ n
  | [], x, v, h, ρ, R, w1, n, w, hx => by simp only [maxS, Option.some.injEq] at h; subst h; exact ⟨by simp [denL], hx⟩
  | y :: l, x, v, h, ρ, R, w1, n, w, hx => by
    unfold maxS at h
    split at h
    · rename_i he; cases he
    · rename_i k a k' b l' he
      cases he
      split at h
      · rename_i hk
        subst hk
        have := maxS_spec l _ v h ρ R w1 n w (by simp [SV.ok])
        refine ⟨?_, this.2⟩
        simp only [denL, den, List.foldlM_cons, Sem.run_bind, Builtin.max2, Sem.run_pure, Result.andThen_ok]
        exact this.1
      · cases h
    · cases h
end
end Go.Proofs.Ytkjellhkamfciaa.Sx
