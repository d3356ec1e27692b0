/- Texts of the walk, merged. -/
import Derived.Test.YtkjellhkamfciaaMg1
import Derived.Laws.Externs
import Derived.Great.BuildSlice
import Derived.Laws.AppendOwn
import Derived.Laws.MakeOwn
section
/- SX: addresses, literals, calls: every operation is sound. -/
namespace Go.Proofs.Ytkjellhkamfciaa.Sx
open Go Go.RowKit

/-- What a call is worth: in whatever surroundings. -/
structure Sound (P : Program) (f : FuncId) (args : List SV) (H : Hp) (v : SV) (H' : Hp) : Prop where
  len : H.length ≤ H'.length
  run : ∀ (C : Cx) (ρ : Nat → Tk) (w : World), Rel C ρ H w → SV.okL C.R C.w1 ρ H.length args →
    Calls P f (denL ρ args).toArray w fun e w' => ∃ ρ', (∀ t, t < H.length → ρ' t = ρ t) ∧ e = .returned (den ρ' v) ∧ Rel C ρ' H' w' ∧ v.ok C.R C.w1 ρ' H'.length

def CallOk (P : Program) {α : Type} (callf : CallF α) : Prop :=
  ∀ f args H K r, callf f args H K = some r → ∃ v H', K v H' = some r ∧ Sound P f args H v H'

theorem denL_append (ρ : Nat → Tk) : ∀ (l m : List SV), denL ρ (l ++ m) = denL ρ l ++ denL ρ m
  | [], m => by simp [denL]
  | x :: l, m => by simp [denL, denL_append ρ l m]
theorem denL_length (ρ : Nat → Tk) : ∀ (l : List SV), (denL ρ l).length = l.length
  | [] => by simp [denL]
  | x :: l => by simp [denL, denL_length ρ l]
theorem denL_get (ρ : Nat → Tk) : ∀ (l : List SV) (i : Nat) (v : SV), l[i]? = some v → (denL ρ l)[i]? = some (den ρ v)
  | [], i, v, h => by simp at h
  | x :: l, 0, v, h => by simp at h; subst h; simp [denL]
  | x :: l, i + 1, v, h => by simp at h; simpa [denL] using denL_get ρ l i v h

section
variable (E : Env)

theorem add_lit (b o n : Nat) : (⟨b, o, none⟩ : Addr).add n = ⟨b, o + n, none⟩ := by unfold Addr.add; split <;> simp_all

theorem op_fieldAddr {o : Oper} {F : Fr} {H : Hp} {T : TypeId} {x : Operand} {f : Nat} {u v : SV} (ho : o.op = .fieldAddr T x f) (hx : opd F x = some u) (hv : fieldAddrS E T u f = some v) : OpGood E.P o F H v H :=
  .val fun C ρ a w hF hR => by
    obtain ⟨h1, h2⟩ := opd_spec hF hx
    unfold fieldAddrS at hv
    obtain ⟨fd, hfd, hv⟩ := bindO_some hv
    obtain ⟨n, hn, hv⟩ := bindO_some hv
    unfold fieldOf at hfd
    split at hfd
    · rename_i fs hT
      split at hv
      · cases hv
      · rename_i hn0
        have run : ∀ (b q : Nat), den ρ u = .pointer (some ⟨b, q, none⟩) → (execOp a.eval o).run E.P w = .ok (.value (.pointer (some ⟨b, q + fd.offset, none⟩))) w := fun b q e => by
          simp [execOp, ho, h1, e, Instr.fieldAt, run_underlying hT, hfd, Instr.sureAddr, fieldPlace, run_sizeOf E hn, hn0, add_lit]
        split at hv
        · cases hv; exact ⟨run _ _ rfl, h2⟩
        · cases hv
          refine ⟨?_, h2⟩
          rw [run _ _ rfl]
          simp only [den, Nat.add_assoc]
        · cases hv
          refine ⟨?_, h2⟩
          obtain ⟨hros, hi⟩ := h2
          rcases hros with ⟨he, _⟩ | ⟨ad, cap, e, _⟩
          · subst he; simp at hi
          · subst e
            rw [run _ _ rfl]
            simp only [den, rixAddr, Nat.add_assoc]
        · cases hv
    · cases hfd

theorem op_field {o : Oper} {F : Fr} {H : Hp} {T : TypeId} {x : Operand} {f n : Nat} {l r : List SV} {v : SV} {g : Bool} {fd : Field} (ho : o.op = .field T x f) (hx : opd F x = some (.agg l)) (hf : fieldOf E T f = some fd)
    (hg : E.isAgg fd.type = some g) (hn : E.size fd.type = some n) (hr : segTake l fd.offset n = some r) (hv : mkVal g r = some v) : OpGood E.P o F H v H :=
  .val fun C ρ a w hF hR => by
    obtain ⟨h1, h2⟩ := opd_spec hF hx
    unfold fieldOf at hf
    split at hf
    · rename_i fs hT
      have := run_part E hg hn (R := C.R) (w1 := C.w1) (m := H.length) (ρ := ρ) h2 hr hv w
      refine ⟨?_, this.2⟩
      simp [execOp, ho, h1, den, Instr.field, run_underlying hT, hf, asAgg, this.1]
    · cases hf

theorem flat_win (κ : K) (xs : List κ.T) (lo n : Nat) (hle : lo + n ≤ xs.length) (j : Nat) (c : Value) (h : (((xs.drop lo).take n).flatMap κ.cells)[j]? = some c) : (xs.flatMap κ.cells)[lo * κ.sz + j]? = some c := by
  have e1 : xs.flatMap κ.cells = (xs.take lo).flatMap κ.cells ++ (((xs.drop lo).take n).flatMap κ.cells ++ ((xs.drop lo).drop n).flatMap κ.cells) := by
    rw [← List.flatMap_append, List.take_append_drop, ← List.flatMap_append, List.take_append_drop]
  have e2 : ((xs.take lo).flatMap κ.cells).length = lo * κ.sz := by rw [cells_flat_length, List.length_take, Nat.min_eq_left (by omega)]
  rw [e1, List.getElem?_append_right (by omega), e2, Nat.add_sub_cancel_left, List.getElem?_append_left (List.getElem?_eq_some_iff.1 h).1]
  exact h
theorem ros_win {R : Nat → Prop} {w : World} {v : Value} {κ : K} {xs : List κ.T} {lo n : Nat} (h : RosOk R w v κ xs) (hle : lo + n ≤ xs.length) : RosOk R w (winV v κ.sz lo n) κ ((xs.drop lo).take n) := by
  by_cases hn : n = 0
  · subst hn
    rcases h with ⟨_, a, c, e⟩ | ⟨ad, cap, e, _⟩
    · exact .inl ⟨by simp, _, _, by rw [e]; rfl⟩
    · exact .inl ⟨by simp, _, _, by rw [e]; rfl⟩
  · rcases h with ⟨e0, _⟩ | ⟨ad, cap, e, hlen, hsp, hR, hc⟩
    · subst e0; simp at hle; omega
    · obtain ⟨ab, ao, asp⟩ := ad
      simp only at hsp hR hc
      subst hsp
      have hl : ((xs.drop lo).take n).length = n := by rw [List.length_take, List.length_drop]; omega
      have hcap : ¬ cap = lo := by omega
      refine .inr ⟨⟨ab, ao + lo * κ.sz, none⟩, cap - lo, by rw [e, hl]; simp [winV, hcap, add_lit], by omega, rfl, hR, fun j c hj => ?_⟩
      have := hc _ c (flat_win κ xs lo n hle j c hj)
      simpa only [Nat.add_assoc] using this
theorem ivO_spec {C : Cx} {ρ : Nat → Tk} {n : Nat} {F : Fr} {a : Act} (hF : FRel C ρ n F a.tmps) {lo : Option Operand} {l : Option Int} (h : ivO F lo = some l) : (lo.map a.eval = none ∧ l = none) ∨ ∃ k i, lo.map a.eval = some (.int k i) ∧ l = some i := by
  unfold ivO at h
  split at h
  · cases h; exact .inl ⟨rfl, rfl⟩
  · split at h
    · rename_i x k i hx
      cases h
      obtain ⟨h1, _⟩ := opd_spec hF hx
      exact .inr ⟨k, i, by rw [Option.map_some, h1]; rfl, rfl⟩
    · cases h
theorem run_slice_win {T e : TypeId} {sz : Nat} (hT : E.P.underlying T = some (.slice e)) (hsz : E.size e = some sz) (w : World) (a : Option Addr) (n c : Nat) (lo hi : Option Value) (l h : Option Int) (hlo : (lo = none ∧ l = none) ∨ ∃ k i, lo = some (.int k i) ∧ l = some i)
    (hhi : (hi = none ∧ h = none) ∨ ∃ k i, hi = some (.int k i) ∧ h = some i) (h0 : 0 ≤ lowI l) (h1 : lowI l ≤ highI n h) (h2 : highI n h ≤ (n : Int)) (h3 : n ≤ c) :
    (Instr.sliceAt T (.slice a n c) lo hi none).run E.P w = .ok (winV (.slice a n c) sz (lowI l).toNat (highI n h - lowI l).toNat) w := by
  rcases hlo with ⟨rfl, rfl⟩ | ⟨k1, i, rfl, rfl⟩ <;> rcases hhi with ⟨rfl, rfl⟩ | ⟨k2, j, rfl, rfl⟩ <;> simp only [lowI, highI] at h0 h1 h2 ⊢
  · simp [Instr.sliceAt, Instr.slice, Instr.sliceBounds, Instr.sliceBound, asIntOf, run_underlying hT, run_sizeOf E hsz, winV]
  · have c1 : j ≤ (c : Int) := by omega
    simp [Instr.sliceAt, Instr.slice, Instr.sliceBounds, Instr.sliceBound, asIntOf, run_underlying hT, run_sizeOf E hsz, winV, h1, c1]
  · have e1 : ((n : Int) - i).toNat = n - i.toNat := by omega
    simp [Instr.sliceAt, Instr.slice, Instr.sliceBounds, Instr.sliceBound, asIntOf, run_underlying hT, run_sizeOf E hsz, winV, h0, h1, e1]
  · have c1 : j ≤ (c : Int) := by omega
    have c2 : 0 ≤ j := by omega
    have c3 : i ≤ (j.toNat : Int) := by omega
    have e1 : (j - i).toNat = j.toNat - i.toNat := by omega
    simp [Instr.sliceAt, Instr.slice, Instr.sliceBounds, Instr.sliceBound, asIntOf, run_underlying hT, run_sizeOf E hsz, winV, h0, c1, c2, c3, e1]
    intro hx; exfalso; omega
theorem op_slice {o : Oper} {F : Fr} {H : Hp} {T e : TypeId} {x : Operand} {lo hi : Option Operand} {u v : SV} {l h : Option Int} {sz L : Nat} (ho : o.op = .slice T x lo hi none) (hx : opd F x = some u) (hl : ivO F lo = some l) (hh : ivO F hi = some h)
    (hT : E.P.underlying T = some (.slice e)) (hsz : E.size e = some sz) (hL : winLen H sz u = some L) (hb : 0 ≤ lowI l ∧ lowI l ≤ highI L h ∧ highI L h ≤ (L : Int)) (hv : cutS H u (lowI l).toNat (highI L h - lowI l).toNat = some v) : OpGood E.P o F H v H :=
  .val fun C ρ a w hF hR => by
    obtain ⟨h1, h2⟩ := opd_spec hF hx
    have hl' := ivO_spec hF hl
    have hh' := ivO_spec hF hh
    -- the value, its length and room; and what it is cut to
    have key : ∃ b c, den ρ u = .slice b L c ∧ L ≤ c ∧ den ρ v = winV (.slice b L c) sz (lowI l).toNat (highI L h - lowI l).toNat ∧ v.ok C.R C.w1 ρ H.length := by
      unfold winLen at hL
      split at hL
      · rename_i vv κ xs
        split at hL
        · rename_i hk
          cases hL
          simp only [cutS, Option.some.injEq] at hv
          subst hv
          simp only [SV.ok] at h2
          have hw := ros_win (lo := (lowI l).toNat) (n := (highI xs.length h - lowI l).toNat) h2 (by omega)
          rcases h2 with ⟨he, b, cap, e1⟩ | ⟨ad, cap, e1, hlen, _⟩
          · refine ⟨b, cap, by rw [he]; simpa [den] using e1, by rw [he]; exact Nat.zero_le _, ?_, hw⟩
            simp only [den]
            rw [e1, he, hk]; rfl
          · refine ⟨some ad, cap, by simpa [den] using e1, hlen, ?_, hw⟩
            simp only [den]
            rw [e1, hk]
        · cases hL
      · rename_i t
        split at hL
        · rename_i κ xs E' ht
          split at hL
          · rename_i hk
            cases hL
            simp only [cutS, ht, Option.some.injEq] at hv
            subst hv
            have hob := hR.obj t _ ht
            have hlt := (List.getElem?_eq_some_iff.1 ht).1
            rcases hob.1.2 with ⟨e1, e0⟩ | ⟨gb, cap, cur, e1, _, hg2, hnc, _⟩
            · refine ⟨none, 0, by rw [e0]; simpa [den] using e1, by omega, ?_, by simp only [SV.ok]; exact ⟨hlt, _, _, _, e1, by omega⟩⟩
              simp only [den]
              rw [e1, e0, hk]
            · refine ⟨_, cap, by simpa [den] using e1, hnc, ?_, by simp only [SV.ok]; exact ⟨hlt, _, _, _, e1, by omega⟩⟩
              simp only [den]
              rw [e1, hk]
          · cases hL
        · cases hL
      · rename_i t κ lo' n'
        split at hL
        · rename_i κ2 xs2 E2 ht
          split at hL
          · rename_i hk
            cases hL
            simp only [cutS] at hv
            split at hv
            · rename_i hc
              cases hv
              simp only [SV.ok] at h2
              obtain ⟨hlt, b, k0, c0, he, hle⟩ := h2
              have hob := hR.obj t _ ht
              generalize hl0 : (lowI l).toNat = l0 at *
              generalize hn0 : (highI L h - lowI l).toNat = n0 at *
              have hln : l0 + n0 ≤ L := by omega
              rcases hob.1.2 with ⟨e1, e0⟩ | ⟨gb, cap, cur, e1, _, hg2, hnc, _⟩
              · rw [e1] at he
                cases he
                refine ⟨none, 0, ?_, by omega, ?_, by simp only [SV.ok]; exact ⟨hlt, _, _, _, e1, by omega⟩⟩
                · simp only [den, e1, winV]
                  simp
                · simp only [den, e1, winV]
                  simp
              · rw [e1] at he
                cases he
                refine ⟨(if c0 = lo' then some ⟨gb, 0, none⟩ else some ⟨gb, lo' * κ.sz, none⟩), c0 - lo', ?_, by omega, ?_, by simp only [SV.ok]; exact ⟨hlt, _, _, _, e1, by omega⟩⟩
                · simp only [den, e1, winV]
                  split <;> simp [add_lit]
                · simp only [den, e1, winV]
                  rcases hc with h0 | h0
                  · subst h0
                    simp only [Nat.add_zero, Nat.sub_zero, Nat.zero_mul]
                    by_cases hc0 : c0 = lo'
                    · subst hc0; simp
                    · have : ¬ c0 - lo' = 0 := by omega
                      simp [hc0, this, add_lit]
                  · have a1 : ¬ c0 = lo' := by omega
                    have a2 : ¬ c0 - lo' = l0 := by omega
                    have a3 : ¬ c0 = lo' + l0 := by omega
                    simp [a1, a2, a3, add_lit, hk, Nat.add_mul, Nat.sub_sub]
            · cases hv
          · cases hL
        · cases hL
      · cases hL
    obtain ⟨b, c, k1, k2, k3, k4⟩ := key
    refine ⟨?_, k4⟩
    simp only [execOp, ho, h1, k1, Option.map_none, Sem.run_bind, run_slice_win E hT hsz w b L c _ _ l h hl' hh' hb.1 hb.2.1 hb.2.2 k2, Result.andThen_ok, Sem.run_pure, k3]
theorem op_index {o : Oper} {F : Fr} {H : Hp} {T : TypeId} {x ix : Operand} {s : ByteArray} {k : IntKind} {i : Int} (ho : o.op = .index T x ix) (hx : opd F x = some (.raw (.string s))) (hi : opd F ix = some (.int k i)) (hT : E.P.underlying T = some .string)
    (hb : 0 ≤ i ∧ i < (s.size : Int)) : OpGood E.P o F H (.int .u8 (strAt s i)) H :=
  .val fun C ρ a w hF hR => by
    obtain ⟨h1, h2⟩ := opd_spec hF hx
    obtain ⟨h3, h4⟩ := opd_spec hF hi
    refine ⟨?_, by simp [SV.ok]⟩
    have hs : i.toNat < s.size := by omega
    simp [execOp, ho, h1, h3, den, Instr.index, asIntOf, run_underlying hT, hb.1, strAt, hs]
theorem op_extract {o : Oper} {F : Fr} {H : Hp} {x : Operand} {i : Nat} {l : List SV} {v : SV} (ho : o.op = .extract x i) (hx : opd F x = some (.tup l)) (hv : l[i]? = some v) : OpGood E.P o F H v H :=
  .val fun C ρ a w hF hR => by
    obtain ⟨h1, h2⟩ := opd_spec hF hx
    refine ⟨?_, okL_iff.1 h2 v (List.mem_of_getElem? hv)⟩
    have := denL_get ρ l i v hv
    simp [execOp, ho, h1, den, Instr.extract, this]

theorem indexS_spec {α : Type} {o : Oper} {H : Hp} {T : TypeId} {x ix : Operand} {u i : SV} {K : SV → Option α} {r : α} (ho : o.op = .indexAddr T x ix)
    (h : indexS E H T u i K = some r) : ∃ v, K v = some r ∧ ∀ F, opd F x = some u → opd F ix = some i → OpGood E.P o F H v H := by
  unfold indexS at h
  split at h
  · rename_i k i
    split at h
    · -- an array
      rename_i n e t off hT
      split at h
      · rename_i sz l T' hsz ht
        split at h
        · rename_i κ xs m hseg
          split at h
          · rename_i hk
            obtain ⟨hk, hm⟩ := hk
            have hm' := Nat.eq_of_beq_eq_true hm
            split at h
            · rename_i hb
              refine ⟨_, h, fun F hx hi => .val fun C ρ a w hF hR => ?_⟩
              obtain ⟨h1, h2⟩ := opd_spec hF hx
              obtain ⟨h3, _⟩ := opd_spec hF hi
              refine ⟨?_, by simp only [SV.ok]; exact ⟨h2, by omega⟩⟩
              simp [execOp, ho, h1, h3, den, Instr.indexAt, asIntOf, run_underlying hT, Instr.sureAddr, hb.1, hb.2, run_sizeOf E hsz, add_lit, hk]
            · cases h
          · cases h
        · split at h
          · rename_i hb
            refine ⟨_, h, fun F hx hi => .val fun C ρ a w hF hR => ?_⟩
            obtain ⟨h1, h2⟩ := opd_spec hF hx
            obtain ⟨h3, _⟩ := opd_spec hF hi
            refine ⟨?_, h2⟩
            simp [execOp, ho, h1, h3, den, Instr.indexAt, asIntOf, run_underlying hT, Instr.sureAddr, hb.1, hb.2, run_sizeOf E hsz, add_lit]
          · cases h
      · cases h
    · -- a slice of one's own
      rename_i e t hT
      split at h
      · rename_i sz κ xs E' hsz ht
        split at h
        · rename_i hk
          split at h
          · rename_i hb
            refine ⟨_, h, fun F hx hi => .val fun C ρ a w hF hR => ?_⟩
            obtain ⟨h1, h2⟩ := opd_spec hF hx
            obtain ⟨h3, _⟩ := opd_spec hF hi
            have hob := hR.obj t _ ht
            rcases hob.1.2 with ⟨e1, e0⟩ | ⟨gb, cap, cur, e1, _, hg2, _⟩
            · omega
            · have hgb : gb = (ρ t).blk := hob.2 gb (by rw [e1]; rfl)
              refine ⟨?_, by simp only [SV.ok]; exact ⟨h2, _, _, _, e1, by omega⟩⟩
              simp [execOp, ho, h1, h3, den, e1, Instr.indexAt, asIntOf, run_underlying hT, hb.1, hb.2, run_sizeOf E hsz, add_lit, hk, hgb]
          · cases h
        · cases h
      · cases h
    · -- a slice that is read only
      rename_i e v κ xs hT
      split at h
      · rename_i sz hsz
        split at h
        · rename_i hk
          split at h
          · rename_i hb
            refine ⟨_, h, fun F hx hi => .val fun C ρ a w hF hR => ?_⟩
            obtain ⟨h1, h2⟩ := opd_spec hF hx
            obtain ⟨h3, _⟩ := opd_spec hF hi
            refine ⟨?_, by simp only [SV.ok]; exact ⟨h2, by omega⟩⟩
            rcases h2 with ⟨he, _⟩ | ⟨ad, cap, e1, _, hsp, _⟩
            · subst he; simp at hb; omega
            · subst e1
              obtain ⟨ab, ao, asp⟩ := ad
              simp only at hsp
              subst hsp
              simp [execOp, ho, h1, h3, den, rixAddr, Instr.indexAt, asIntOf, run_underlying hT, hb.1, hb.2, run_sizeOf E hsz, add_lit, hk]
          · cases h
        · cases h
      · cases h
    · -- a window of a slice of one's own
      rename_i e t κ lo n hT
      split at h
      · rename_i sz κ' xs E' hsz ht
        split at h
        · rename_i hk
          obtain ⟨hk, hk2⟩ := hk
          split at h
          · rename_i hb
            refine ⟨_, h, fun F hx hi => .val fun C ρ a w hF hR => ?_⟩
            obtain ⟨h1, h2⟩ := opd_spec hF hx
            obtain ⟨h3, _⟩ := opd_spec hF hi
            simp only [SV.ok] at h2
            obtain ⟨ht', a0, k0, c0, he, hle⟩ := h2
            have hob := hR.obj t _ ht
            rcases hob.1.2 with ⟨e1, e0⟩ | ⟨gb, cap, cur, e1, _, hg2, hnc, _⟩
            · rw [e1] at he; cases he; omega
            · have hgb : gb = (ρ t).blk := hob.2 gb (by rw [e1]; rfl)
              have e2 := he
              rw [e1] at e2
              cases e2
              refine ⟨?_, by simp only [SV.ok]; exact ⟨ht', _, _, _, e1, by omega⟩⟩
              have hc : ¬ c0 = lo := by omega
              simp [execOp, ho, h1, h3, den, e1, winV, hc, Instr.indexAt, asIntOf, run_underlying hT, hb.1, hb.2, run_sizeOf E hsz, add_lit, hk, hgb, Nat.add_mul]
          · cases h
        · cases h
      · cases h
    · -- an array within an element
      rename_i n e t κ j off hT
      split at h
      · rename_i sz hsz
        split at h
        · rename_i hb
          refine ⟨_, h, fun F hx hi => .val fun C ρ a w hF hR => ?_⟩
          obtain ⟨h1, h2⟩ := opd_spec hF hx
          obtain ⟨h3, _⟩ := opd_spec hF hi
          refine ⟨?_, h2⟩
          simp [execOp, ho, h1, h3, den, Instr.indexAt, asIntOf, run_underlying hT, Instr.sureAddr, hb.1, hb.2, run_sizeOf E hsz, add_lit, Nat.add_assoc]
        · cases h
      · cases h
    · rename_i n e v κ xs j off hT
      split at h
      · rename_i sz hsz
        split at h
        · rename_i hb
          refine ⟨_, h, fun F hx hi => .val fun C ρ a w hF hR => ?_⟩
          obtain ⟨h1, h2⟩ := opd_spec hF hx
          obtain ⟨h3, _⟩ := opd_spec hF hi
          refine ⟨?_, h2⟩
          obtain ⟨hros, hj⟩ := h2
          rcases hros with ⟨he, _⟩ | ⟨ad, cap, e1, _⟩
          · subst he; simp at hj
          · subst e1
            simp [execOp, ho, h1, h3, den, rixAddr, Instr.indexAt, asIntOf, run_underlying hT, Instr.sureAddr, hb.1, hb.2, run_sizeOf E hsz, add_lit, Nat.add_assoc]
        · cases h
      · cases h
    · cases h
  · cases h

theorem lenS_spec {H : Hp} {x v : SV} (h : lenS H x = some v) {C : Cx} {ρ : Nat → Tk} {w : World} (hR : Rel C ρ H w) (hx : x.ok C.R C.w1 ρ H.length) : ∃ a n c, den ρ x = .slice a n c ∧ v = .int .i64 (n : Int) := by
  unfold lenS at h
  split at h
  · rename_i t
    split at h
    · rename_i κ xs e ht
      cases h
      have hob := hR.obj t _ ht
      rcases hob.1.2 with ⟨e1, e0⟩ | ⟨gb, cap, cur, e1, _⟩
      · exact ⟨_, _, _, e1, by rw [e0]⟩
      · exact ⟨_, _, _, e1, rfl⟩
    · cases h
  · cases h
    rcases hx with ⟨he, a, cap, e⟩ | ⟨ad, cap, e, _⟩
    · exact ⟨_, _, _, e, by rw [he]; rfl⟩
    · exact ⟨_, _, _, e, rfl⟩
  · cases h
    simp only [SV.ok] at hx
    obtain ⟨_, a0, k0, c0, he, _⟩ := hx
    exact ⟨_, _, _, by simp only [den, he, winV]; rfl, rfl⟩
  · cases h; exact ⟨_, _, _, rfl, rfl⟩
  · cases h
theorem minS_spec : ∀ (l : List SV) (x v : SV), minS x l = some v → ∀ (ρ : Nat → Tk) (R : Nat → Prop) (w1 : World) (n : Nat) (w : World), x.ok R w1 ρ n → ((denL ρ l).foldlM Builtin.min2 (den ρ x)).run E.P w = .ok (den ρ v) w ∧ v.ok R w1 ρ n
  | [], x, v, h, ρ, R, w1, n, w, hx => by simp only [minS, Option.some.injEq] at h; subst h; exact ⟨by simp [denL], hx⟩
  | y :: l, x, v, h, ρ, R, w1, n, w, hx => by
    unfold minS at h
    split at h
    · rename_i he; cases he
    · rename_i k a k' b l' he
      cases he
      split at h
      · rename_i hk
        subst hk
        have := minS_spec l _ v h ρ R w1 n w (by simp [SV.ok])
        refine ⟨?_, this.2⟩
        simp only [denL, den, List.foldlM_cons, Sem.run_bind, Builtin.min2, Sem.run_pure, Result.andThen_ok]
        exact this.1
      · cases h
    · cases h
theorem maxS_spec : ∀ (l : List SV) (x v : SV), maxS x l = some v → ∀ (ρ : Nat → Tk) (R : Nat → Prop) (w1 : World) (n : Nat) (w : World), x.ok R w1 ρ n → ((denL ρ l).foldlM Builtin.max2 (den ρ x)).run E.P w = .ok (den ρ v) w ∧ v.ok R w1 ρ n
  | [], x, v, h, ρ, R, w1, n, w, hx => by simp only [maxS, Option.some.injEq] at h; subst h; exact ⟨by simp [denL], hx⟩
  | y :: l, x, v, h, ρ, R, w1, n, w, hx => by
    unfold maxS at h
    split at h
    · rename_i he; cases he
    · rename_i k a k' b l' he
      cases he
      split at h
      · rename_i hk
        subst hk
        have := maxS_spec l _ v h ρ R w1 n w (by simp [SV.ok])
        refine ⟨?_, this.2⟩
        simp only [denL, den, List.foldlM_cons, Sem.run_bind, Builtin.max2, Sem.run_pure, Result.andThen_ok]
        exact this.1
      · cases h
    · cases h
end
end Go.Proofs.Ytkjellhkamfciaa.Sx
end

section
/- SX: nil slices, new slices, and what is appended. -/
namespace Go.Proofs.Ytkjellhkamfciaa.Sx
open Go Go.RowKit
set_option linter.unusedVariables false

theorem Rel.newNil {C : Cx} {ρ : Nat → Tk} {H : Hp} {w : World} (h : Rel C ρ H w) (κ : K) (E : TypeId) :
    Rel C (ext ρ H.length ⟨0, .slice none 0 0⟩) (H ++ [.seq κ [] E]) w := by
  refine h.push (.seq κ [] E) ⟨0, .slice none 0 0⟩ (fun b _ => rfl) (Nat.le_refl _) rfl rfl rfl ?_ ?_ trivial ⟨_, _, _, rfl⟩
  · simp only [ObjRel]
    exact ⟨World.ownsRow_nil w 0 E κ.sz, fun b hb => by simp [Value.ownBlock] at hb⟩
  · intro b hb; simp [objBlk, Value.ownBlock] at hb

theorem K.cells_one (κ : K) (x : κ.T) : ∀ v ∈ κ.cells x, v.oneCell' = true := by
  intro v hv
  cases κ with
  | st k ks => exact RT.cells_one k ks x v hv
  | _ => simp only [K.cells, List.mem_cons, List.not_mem_nil, or_false] at hv; (first | (rcases hv with rfl | rfl | rfl <;> rfl) | (subst hv; rfl))
theorem flat_get' (κ : K) : ∀ (xs : List κ.T) (q m : Nat), q < xs.length → m < κ.sz → (xs.flatMap κ.cells)[q * κ.sz + m]? = (κ.cells (xs[q]?.getD κ.dflt))[m]?
  | [], q, m, h, _ => by simp at h
  | x :: xs, 0, m, h, hm => by
    rw [List.flatMap_cons, List.getElem?_append_left (by rw [K.cells_length]; omega)]
    simp
  | x :: xs, q + 1, m, h, hm => by
    rw [List.flatMap_cons, List.getElem?_append_right (by rw [K.cells_length, Nat.add_mul]; omega), K.cells_length]
    rw [show (q + 1) * κ.sz + m - κ.sz = q * κ.sz + m by rw [Nat.add_mul]; omega]
    simpa using flat_get' κ xs q m (by simpa using h) hm
theorem rep_cells (κ : K) (d : κ.T) (z : Array Value) (hz : z.toList = κ.cells d) (n : Nat) : ((List.replicate n d).flatMap κ.cells).toArray = madeCells z (n * κ.sz) := by
  have hzs : z.size = κ.sz := by rw [← Array.length_toList, hz, K.cells_length]
  apply Array.toList_inj.1
  apply List.ext_getElem?
  intro j
  by_cases hj : j < n * κ.sz
  · have hsz := K.sz_pos κ
    have hq : j / κ.sz < n := Nat.div_lt_of_lt_mul (by rwa [Nat.mul_comm])
    have hm : j % κ.sz < κ.sz := Nat.mod_lt _ hsz
    have h1 := flat_get' κ (List.replicate n d) (j / κ.sz) (j % κ.sz) (by simpa using hq) hm
    rw [Nat.div_add_mod' j κ.sz] at h1
    show ((List.replicate n d).flatMap κ.cells)[j]? = _
    rw [h1]
    have h2 : (List.replicate n d)[j / κ.sz]? = some d := by simp [hq]
    rw [h2]
    simp only [Option.getD_some, madeCells, Array.toList_map, List.getElem?_map, Array.toList_range, List.getElem?_range hj, Option.map_some]
    have hm' : j % z.size < z.size := by rw [hzs]; exact hm
    rw [← hzs, ← hz]
    simp [hm']
  · rw [List.getElem?_eq_none (by simp [K.cells_length]; omega), List.getElem?_eq_none (by simp [madeCells]; omega)]

section
variable (E : Env)
theorem nilAt_some {t : TypeId} {x : SV} {r : TypeId × K} (h : nilAt E t x = some r) : x = .raw (.slice none 0 0) := by
  unfold nilAt at h
  split at h
  · rfl
  · cases h
theorem nilz_spec {C : Cx} {w : World} : ∀ (ts : List TypeId) (l : List SV) (ρ : Nat → Tk) (H : Hp), Rel C ρ H w → SV.okL C.R C.w1 ρ H.length l → leavesB l = true →
    (ts = [] ∨ l ≠ [] ∨ True) → ∃ ρ', (∀ t, t < H.length → ρ' t = ρ t) ∧ Rel C ρ' (H ++ (nilz E ts l H.length).2) w ∧ denC ρ' (nilz E ts l H.length).1 = denC ρ l ∧
      SV.okL C.R C.w1 ρ' (H ++ (nilz E ts l H.length).2).length (nilz E ts l H.length).1 ∧ leavesB (nilz E ts l H.length).1 = true
  | [], l, ρ, H, hR, hok, hl, _ => ⟨ρ, fun _ _ => rfl, by simpa [nilz] using hR, by simp [nilz], by simpa [nilz] using hok, by simpa [nilz] using hl⟩
  | t :: ts, [], ρ, H, hR, hok, hl, _ => ⟨ρ, fun _ _ => rfl, by simpa [nilz] using hR, by simp [nilz], by simpa [nilz] using hok, by simpa [nilz] using hl⟩
  | t :: ts, x :: l, ρ, H, hR, hok, hl, _ => by
    simp only [SV.okL] at hok
    simp only [leavesB, Bool.and_eq_true] at hl
    cases hx : nilAt E t x with
    | some r =>
      obtain ⟨e, κ⟩ := r
      have hx' := nilAt_some E hx
      have hR1 := hR.newNil κ e
      have hlen : (H ++ [SObj.seq κ [] e]).length = H.length + 1 := by simp
      obtain ⟨ρ', g1, g2, g3, g4, g5⟩ := nilz_spec ts l _ _ hR1 (okL_mono (by rw [hlen]; omega) l (okL_agree ext_lt l hok.2)) hl.2 (.inr (.inr trivial))
      rw [hlen] at g2 g3 g4 g5
      have e1 : nilz E (t :: ts) (x :: l) H.length = (.sl H.length :: (nilz E ts l (H.length + 1)).1, .seq κ [] e :: (nilz E ts l (H.length + 1)).2) := by
        conv => lhs; unfold nilz
        simp only [hx]
      rw [e1]
      have hself : ρ' H.length = ⟨0, .slice none 0 0⟩ := by rw [g1 _ (by rw [hlen]; omega), ext_self]
      refine ⟨ρ', fun s hs => by rw [g1 s (by rw [hlen]; omega), ext_lt s hs], by simpa using g2, ?_, ?_, ?_⟩
      · simp only
        rw [denC_cons, denC_cons ρ x l, g3, denC_agree ext_lt l hok.2, hx']
        simp [denC, den, cell1, hself]
      · simp only [SV.okL]
        refine ⟨by simp only [SV.ok]; simp, ?_⟩
        have : (H ++ SObj.seq κ [] e :: (nilz E ts l (H.length + 1)).2).length = (H ++ [SObj.seq κ [] e] ++ (nilz E ts l (H.length + 1)).2).length := by simp
        rw [this]; exact g4
      · simp only [leavesB, g5, SV.leafB, Bool.and_self]
    | none =>
      by_cases ha : isArr x = true
      · have e1 : nilz E (t :: ts) (x :: l) H.length = (x :: l, []) := by
          conv => lhs; unfold nilz
          simp only [hx, ha, if_true]
        rw [e1]
        exact ⟨ρ, fun _ _ => rfl, by simpa using hR, rfl, by simp only [SV.okL, List.append_nil]; exact hok, by simp only [leavesB, hl.1, hl.2, Bool.and_self]⟩
      · have e1 : nilz E (t :: ts) (x :: l) H.length = (x :: (nilz E ts l H.length).1, (nilz E ts l H.length).2) := by
          conv => lhs; unfold nilz
          simp only [hx, ha, if_false, Bool.false_eq_true]
        rw [e1]
        obtain ⟨ρ', g1, g2, g3, g4, g5⟩ := nilz_spec ts l ρ H hR hok.2 hl.2 (.inr (.inr trivial))
        refine ⟨ρ', g1, g2, ?_, ?_, by simp only [leavesB, g5, hl.1, Bool.and_self]⟩
        · simp only
          rw [denC_cons, denC_cons ρ x l, g3]
          have := denC_agree (l := [x]) g1 (by simp only [SV.okL]; exact ⟨hok.1, trivial⟩)
          rw [this]
        · simp only [SV.okL]
          exact ⟨ok_mono (by simp) x (ok_agree g1 x hok.1), g4⟩
theorem op_allocN (hE : EnvOk E) {o : Oper} {F : Fr} {H : Hp} {T : TypeId} {l : List SV} (ts : List TypeId) (ho : o.op = .alloc T) (hz : E.zeroOf T = some l) (hl : leavesB l = true) :
    OpGood E.P o F H (.ptr (H ++ (nilz E ts l H.length).2).length 0) (H ++ (nilz E ts l H.length).2 ++ [.cells (nilz E ts l H.length).1 T]) := by
  refine ⟨by simp, fun C ρ a w hF hR next Q hn => ?_⟩
  obtain ⟨i, z, h1, h2, h3, h4⟩ := zeroOf_spec E hE hz
  obtain ⟨ρ', g1, g2, g3, g4, g5⟩ := nilz_spec E ts l ρ H hR (h4 _ _ _ _) hl (.inr (.inr trivial))
  have hn' := hn _ _ (fun t ht => by rw [ext_lt t (by simp; omega), g1 t ht]) (g2.newCells _ T g4 g5) (by simp [SV.ok])
  rw [g3, h3 ρ] at hn'
  simp only [den, ext_self, Array.toArray_toList] at hn'
  unfold Oper.wp
  simp only [execOp, ho, Instr.alloc, zeroValue, typeInfo, newVar, newRow, Sem.run_bind, run_program, Result.andThen_ok, h1, h2, Sem.run_pure, run_newObj]
  exact hn'
theorem op_boxN {o : Oper} {F : Fr} {H : Hp} {T : TypeId} {x : Operand} {v : SV} (ts : List TypeId) (ho : o.op = .box T x) (hx : opd F x = some v) (hl : leavesB v.cells = true) :
    OpGood E.P o F H (.ptr (H ++ (nilz E ts v.cells H.length).2).length 0) (H ++ (nilz E ts v.cells H.length).2 ++ [.cells (nilz E ts v.cells H.length).1 T]) := by
  refine ⟨by simp, fun C ρ a w hF hR next Q hn => ?_⟩
  obtain ⟨h1, h2⟩ := opd_spec hF hx
  obtain ⟨h3, h4⟩ := cells_den ρ _ _ _ v h2 hR.hdr
  obtain ⟨ρ', g1, g2, g3, g4, g5⟩ := nilz_spec E ts v.cells ρ H hR h4 hl (.inr (.inr trivial))
  have hn' := hn _ _ (fun t ht => by rw [ext_lt t (by simp; omega), g1 t ht]) (g2.newCells _ T g4 g5) (by simp [SV.ok])
  rw [g3, ← h3] at hn'
  simp only [den, ext_self, Array.toArray_toList] at hn'
  unfold Oper.wp
  simp only [execOp, ho, Instr.box, h1, newVar, newRow, Sem.run_bind, Result.andThen_ok, Sem.run_pure, run_newObj]
  exact hn'
theorem nilz_len (ts : List TypeId) (l : List SV) (n : Nat) : True := trivial
theorem op_storeN {o : Oper} {F : Fr} {H H' : Hp} {T : TypeId} {p x : Operand} {pv v v' : SV} (ts : List TypeId) (ho : o.op = .store T p x) (hp : opd F p = some pv) (hx : opd F x = some v) (hl : leavesB v.cells = true)
    (hv : asV v (nilz E ts v.cells H.length).1 = some v') (hs : storeAt E (H ++ (nilz E ts v.cells H.length).2) T pv v' = some H') :
    OpGood E.P o F H (.raw undef) H' := by
  refine op_storeG E ho (by simp) (fun C ρ a w hF hR => ?_) hs
  obtain ⟨h1, h2⟩ := opd_spec hF hp
  obtain ⟨h3, h4⟩ := opd_spec hF hx
  obtain ⟨_, h5⟩ := cells_den ρ _ _ _ v h4 hR.hdr
  obtain ⟨ρ', g1, g2, g3, g4, g5⟩ := nilz_spec E ts v.cells ρ H hR h5 hl (.inr (.inr trivial))
  refine ⟨ρ', g1, g2, ⟨by rw [h1, den_agree g1 pv h2], ok_mono (by simp) pv (ok_agree g1 pv h2)⟩, ?_⟩
  unfold asV at hv
  split at hv
  · cases hv
    refine ⟨?_, by simp only [SV.ok]; exact g4⟩
    rw [h3]
    simp only [den]
    exact congrArg (fun l => Value.agg l.toArray) g3.symm
  · split at hv
    · rename_i hna _ t heq
      cases hv
      rw [heq] at g3 g4
      have hc : v.cells = [v] := by
        unfold SV.cells
        split
        · exact absurd rfl (hna _)
        · rfl
      rw [hc] at g3
      simp only [SV.okL] at g4
      refine ⟨?_, g4.1⟩
      rw [h3]
      have g3 : cell1 (.sl t) (den ρ' (.sl t)) ++ [] = cell1 v (den ρ v) ++ [] := g3
      rw [List.append_nil, List.append_nil] at g3
      have hd : cell1 v (den ρ v) = [den ρ v] ∨ ∃ κ xs n, v = .arr κ xs n := by
        cases v <;> first | exact .inl rfl | exact .inr ⟨_, _, _, rfl⟩
      rcases hd with hd | ⟨κ, xs, n, rfl⟩
      · rw [hd] at g3
        exact (List.cons.inj g3).1.symm
      · exfalso
        rw [hc] at heq
        cases ts with
        | nil => simp [nilz] at heq
        | cons t ts => simp [nilz, nilAt, isArr] at heq
    · rename_i hna _ u heq
      cases hv
      rw [heq] at g3 g4
      have hc : v.cells = [v] := by
        unfold SV.cells
        split
        · exact absurd rfl (hna _)
        · rfl
      rw [hc] at g3
      simp only [SV.okL] at g4
      refine ⟨?_, g4.1⟩
      rw [h3]
      have g3 : cell1 (.raw u) (den ρ' (.raw u)) ++ [] = cell1 v (den ρ v) ++ [] := g3
      rw [List.append_nil, List.append_nil] at g3
      have hd : cell1 v (den ρ v) = [den ρ v] ∨ ∃ κ xs n, v = .arr κ xs n := by
        cases v <;> first | exact .inl rfl | exact .inr ⟨_, _, _, rfl⟩
      rcases hd with hd | ⟨κ, xs, n, rfl⟩
      · rw [hd] at g3
        exact (List.cons.inj g3).1.symm
      · exfalso
        rw [hc] at heq
        cases ts with
        | nil => simp [nilz] at heq
        | cons t ts => simp [nilz, nilAt, isArr] at heq
    · cases hv
theorem op_nil {o : Oper} {F : Fr} {H : Hp} {e : TypeId} {κ : K} (ho : o.op = .move (.const (.slice none 0 0)) ∨ o.op = .assign (.const (.slice none 0 0))) : OpGood E.P o F H (.sl H.length) (H ++ [.seq κ [] e]) := by
  refine ⟨by simp, fun C ρ a w hF hR next Q hn => ?_⟩
  have hn' := hn _ _ ext_lt (hR.newNil κ e) (by simp [SV.ok])
  simp only [den, ext_self] at hn'
  unfold Oper.wp
  have h1 : a.eval (.const (.slice none 0 0)) = .slice none 0 0 := rfl
  rcases ho with ho | ho <;> simp only [execOp, ho, h1, Sem.run_pure] <;> exact hn'

theorem op_makeSlice {o : Oper} {F : Fr} {H : Hp} {T e : TypeId} {x y : Operand} {n : Int} {κ : K} {inf : TypeInfo} {z : List SV} {d : κ.T} (hE : EnvOk E) (ho : o.op = .makeSlice T x y) (hx : opd F x = some (.int .i64 n)) (hy : opd F y = some (.int .i64 n))
    (hT : E.P.underlying T = some (.slice e)) (hi : E.P.info? e = some inf) (hz : E.zeroOf e = some z) (hk : κ.sz = inf.size) (hd : κ.dec z = some d) (h0 : 0 ≤ n) (hb : (inf.bytes : Int) * n ≤ 281474976710656) (hm : n ≤ 4611686018427387903) :
    OpGood E.P o F H (.sl H.length) (H ++ [.seq κ (List.replicate n.toNat d) e]) := by
  refine ⟨by simp, fun C ρ a w hF hR next Q hn => ?_⟩
  obtain ⟨h1, _⟩ := opd_spec hF hx
  obtain ⟨h2, _⟩ := opd_spec hF hy
  obtain ⟨i, zv, g1, g2, g3, _⟩ := zeroOf_spec E hE hz
  rw [hi] at g1
  cases g1
  have hc : zv.cells.toList = κ.cells d := by rw [← g3 ρ]; exact dec_cells ρ κ z d hd
  have hn' := hn _ _ ext_lt (hR.newSeq κ (List.replicate n.toNat d) e (by simp [maxLen]; omega)) (by simp [SV.ok])
  simp only [den, ext_self, List.length_replicate] at hn'
  have hrun := run_make (P := E.P) w T e inf zv hT hi g2 .i64 .i64 n n h0 (Int.le_refl _) hb (by omega)
  rw [rep_cells κ d zv.cells hc, hk] at hn'
  unfold Oper.wp
  simp only [execOp, ho, h1, h2, den, Sem.run_bind, hrun, Result.andThen_ok, Sem.run_pure]
  exact hn'
end

/-- What is appended to a slice of one's own, and where it lies. -/
theorem run_append_at {P : Program} (w : World) (t ty e : TypeId) (i : TypeInfo) (z : Value) (ht : P.underlying t = some (.slice e)) (hi : P.info? e = some i) (hz : i.zero = some z)
    (hzs : z.cells.size = i.size) (hsz : 0 < i.size) (v : Value) (n : Nat) (xs : List Value) (hown : w.ownsRow 0 e i.size v n xs)
    (a : Addr) (m c : Nat) (news : List Value) (hl : news.length = m * i.size) (hnews : ∀ j u, news[j]? = some u → w.cell? (a.add j) = some u) (h1 : ∀ u ∈ news, u.oneCell' = true)
    (hm0 : 0 < m) (h63 : n + m ≤ maxLen) (hbytes : (n + m) * i.bytes ≤ 140737488355328) :
    ∃ v' w', (Builtin.append_ #[t, t] ty #[v, .slice (some a) m c]).run P w = .ok v' w' ∧ w'.ownsRow 0 e i.size v' (n + m) (xs ++ news) ∧ w.grownBy w' v.ownBlock ∧
      (∃ a k c, v' = .slice a k c) ∧ ∀ b, v'.ownBlock = some b → v.ownBlock = some b ∨ b = w.heap.size := by
  have hsmall : n + m ≤ 9223372036854775807 := by simp only [maxLen] at h63; omega
  have hlen : (xs ++ news).length = (n + m) * i.size := by rw [List.length_append, hown.1, hl, Nat.add_mul]
  have grown : ∀ (old : Nat), old < n + m → ∀ (row : Option Nat),
      (w.drew.alloc (.cells (xs.toArray ++ news.toArray ++ Builtin.zeroCells z.cells (grownCap w (n + m) old e - (n + m))) e)).ownsRow 0 e i.size
        (.slice (some ⟨w.heap.size, 0, none⟩) (n + m) (grownCap w (n + m) old e)) (n + m) (xs ++ news) ∧
      w.grownBy (w.drew.alloc (.cells (xs.toArray ++ news.toArray ++ Builtin.zeroCells z.cells (grownCap w (n + m) old e - (n + m))) e)) row := by
    intro old ho row
    have hge := grownCap_ge w (n + m) old e
    have hcm : grownCap w (n + m) old e ≤ maxLen := grownCap_le_maxLen w (n + m) old e h63
    refine ⟨⟨hlen, .inr ⟨w.heap.size, _, _, rfl, Nat.zero_le _, heap_alloc_new w.drew _, hge, hcm, ?_, ?_⟩⟩, ⟨rfl, rfl, rfl, by simp, fun k hk _ => heap_alloc_old w.drew _ hk⟩⟩
    · simp only [Array.size_append, List.size_toArray, size_zeroCells, hzs, hown.1, hl, ← Nat.add_mul]
      congr 1
      omega
    · simp only [Array.toList_append, List.append_assoc]
      rw [← List.append_assoc, ← hlen]
      exact List.take_left
  rcases hown.2 with ⟨rfl, rfl⟩ | ⟨g, cap, cur, rfl, hbg, hg, hnc, hcm, hcs, htake⟩
  · have hx : xs = [] := List.eq_nil_of_length_eq_zero (by simpa using hown.1)
    subst hx
    have hr := run_append_nil (P := P) w t ty e i z ht hi hz a m c news hl hnews (by omega) (by omega) (by have hb := hbytes; simp only [Nat.zero_add] at hb; omega)
    have hgr := grown 0 (by omega) (Value.ownBlock (.slice none 0 0))
    simp only [Nat.zero_add, List.nil_append, Array.empty_append] at hgr ⊢
    exact ⟨_, _, hr, hgr.1, hgr.2, ⟨_, _, _, rfl⟩, fun b hb => .inr (by simpa [Value.ownBlock] using hb.symm)⟩
  · by_cases hroom : n + m ≤ cap
    · have hfit : n * i.size + news.length ≤ cur.size := by rw [hl, hcs, ← Nat.add_mul]; exact Nat.mul_le_mul_right _ hroom
      have hr := run_append_room (P := P) w t ty e i ht hi g n cap cur hg a m c news hl hnews h1 hroom hfit
      refine ⟨_, _, hr, ⟨hlen, .inr ⟨g, cap, _, rfl, hbg, setRow_heap w g cur _ e _ hg, hroom, hcm, ?_, ?_⟩⟩, ⟨rfl, rfl, rfl, by simp, fun k _ hk => setRow_other w g k _ (fun e => hk (by simp [Value.ownBlock, e]))⟩, ⟨_, _, _, rfl⟩, fun b hb => .inl hb⟩
      · simp only [List.size_toArray, List.length_append, List.length_take, List.length_drop, Array.length_toList]
        omega
      · rw [htake, ← hlen]
        exact List.take_left
    · have holds : ∀ j u, xs[j]? = some u → w.cell? ((⟨g, 0, none⟩ : Addr).add j) = some u := hown.cells (g := g) rfl
      have hr := run_append_grow (P := P) w t ty e i z ht hi hz ⟨g, 0, none⟩ n cap xs hown.1 holds a m c news hl hnews (by omega) (by omega) (growslice_fits (by omega) hbytes)
      have hgr := grown cap (by omega) (Value.ownBlock (.slice (some ⟨g, 0, none⟩) n cap))
      exact ⟨_, _, hr, hgr.1, hgr.2, ⟨_, _, _, rfl⟩, fun b hb => .inr (by simpa [Value.ownBlock] using hb.symm)⟩

theorem run_append_zero {P : Program} (w : World) (t ty e : TypeId) (i : TypeInfo) (ht : P.underlying t = some (.slice e)) (hi : P.info? e = some i) (b : Option Addr) (n cap : Nat) (hn : n ≤ cap) (ao : Option Addr) (c : Nat) :
    (Builtin.append_ #[t, t] ty #[.slice b n cap, .slice ao 0 c]).run P w = .ok (.slice b n cap) w := by
  cases ao <;> cases b <;> simp [Builtin.append_, run_underlying ht, sizeOf, typeInfo, hi, Builtin.lenOf, Builtin.firstCells, loadCells, loadCellsFrom, hn, storeCells]
/-- A slice has grown: the old one is dead, the new one stands behind all others. -/
theorem Rel.grow {C : Cx} {ρ : Nat → Tk} {H : Hp} {w w' : World} (h : Rel C ρ H w) {t : Nat} {κ : K} {xs ys : List κ.T} {e : TypeId} (ht : H[t]? = some (.seq κ xs e)) {v' : Value}
    (hown : w'.ownsRow 0 e κ.sz v' ys.length (ys.flatMap κ.cells)) (hg : w.grownBy w' (ρ t).hdr.ownBlock) (hv : ∃ a k c, v' = .slice a k c) (hb : ∀ b, v'.ownBlock = some b → (ρ t).hdr.ownBlock = some b ∨ b = w.heap.size) :
    Rel C (ext ρ H.length ⟨(v'.ownBlock).getD 0, v'⟩) (H.set t .dead ++ [.seq κ ys e]) w' := by
  have hlt := (List.getElem?_eq_some_iff.1 ht).1
  have hlen : (H.set t .dead).length = H.length := List.length_set ..
  have hblk0 : ∀ b, (ρ t).hdr.ownBlock = some b → blkOf ρ H t = some b := fun b hb => by rw [blkOf_eq ht]; exact hb
  -- what stood there
  have hold : ∀ s o, s < H.length → (H.set t .dead ++ [.seq κ ys e])[s]? = some o → (s = t ∧ o = .dead) ∨ (s ≠ t ∧ H[s]? = some o) := fun s o hs ho => by
    rw [List.getElem?_append_left (by rw [hlen]; exact hs)] at ho
    by_cases e : t = s
    · subst e
      rw [List.getElem?_set_self hlt] at ho
      cases ho; exact .inl ⟨rfl, rfl⟩
    · rw [List.getElem?_set_ne e] at ho
      exact .inr ⟨Ne.symm e, ho⟩
  have hnew : ∀ s o, ¬ s < H.length → (H.set t .dead ++ [.seq κ ys e])[s]? = some o → s = H.length ∧ o = .seq κ ys e := fun s o hs ho => by
    have hl := (List.getElem?_eq_some_iff.1 ho).1
    simp at hl
    have : s = H.length := by omega
    subst this
    rw [List.getElem?_append_right (by rw [hlen]; exact Nat.le_refl _), hlen] at ho
    simp at ho
    exact ⟨rfl, ho.symm⟩
  have hbk : ∀ s b, blkOf (ext ρ H.length ⟨(v'.ownBlock).getD 0, v'⟩) (H.set t .dead ++ [.seq κ ys e]) s = some b →
      (s < H.length ∧ s ≠ t ∧ blkOf ρ H s = some b) ∨ (s = H.length ∧ v'.ownBlock = some b) := fun s b hb => by
    obtain ⟨o, ho, h2⟩ := blkOf_get hb
    by_cases hs : s < H.length
    · rcases hold s o hs ho with ⟨_, rfl⟩ | ⟨hne, ho'⟩
      · simp [objBlk] at h2
      · refine .inl ⟨hs, hne, ?_⟩
        rw [blkOf_eq ho', ← h2, ext_lt s hs]
    · obtain ⟨rfl, rfl⟩ := hnew s o hs ho
      refine .inr ⟨rfl, ?_⟩
      rw [ext_self] at h2
      exact h2
  refine ⟨?_, ?_, ?_, ?_, ?_, ?_, ?_, ?_, ?_, ?_, h.fit⟩
  · intro s o ho
    by_cases hs : s < H.length
    · rcases hold s o hs ho with ⟨_, rfl⟩ | ⟨hne, ho'⟩
      · trivial
      · rw [ext_lt s hs]
        refine (h.obj s o ho').agree (C := C) (n := H.length) (h.ok s o ho') ext_lt fun b hb' => ?_
        have hb2 : blkOf ρ H s = some b := by rw [blkOf_eq ho']; exact hb'
        refine hg.block b (blk_lt h hb2) fun hc => hne (h.sep s t b hb2 (hblk0 b hc.symm))
    · obtain ⟨rfl, rfl⟩ := hnew s o hs ho
      rw [ext_self]
      exact ⟨hown, fun b hb => by simp [hb]⟩
  · intro s s' b h1 h2
    rcases hbk s b h1 with ⟨g1, g2, g3⟩ | ⟨g1, g2⟩ <;> rcases hbk s' b h2 with ⟨g4, g5, g6⟩ | ⟨g4, g5⟩
    · exact h.sep s s' b g3 g6
    · rcases hb b g5 with hc | hc
      · exact absurd (h.sep s t b g3 (hblk0 b hc)) g2
      · have := blk_lt h g3; omega
    · rcases hb b g2 with hc | hc
      · exact absurd (h.sep s' t b g6 (hblk0 b hc)) g5
      · have := blk_lt h g6; omega
    · omega
  · intro s b h1
    rcases hbk s b h1 with ⟨_, _, g3⟩ | ⟨_, g2⟩
    · exact h.own s b g3
    · rcases hb b g2 with hc | hc
      · exact h.own t b (hblk0 b hc)
      · exact h.fit.new b (by rw [hc]; exact h.size)
  · intro s
    by_cases hs : s = H.length
    · subst hs; rw [ext_self]; exact hv
    · unfold ext; rw [if_neg hs]; exact h.hdr s
  · intro b h1 h2
    rw [hg.block b (Nat.lt_of_lt_of_le h1 h.size) fun hc => h2 (h.own t b (hblk0 b hc.symm))]
    exact h.keep b h1 h2
  · exact Nat.le_trans h.size hg.size
  · rw [hg.os]; exact h.os
  · rw [hg.tape]; exact h.tape
  · rw [hg.output]; exact h.output
  · intro s o ho
    rw [List.length_append, List.length_singleton, hlen]
    by_cases hs : s < H.length
    · rcases hold s o hs ho with ⟨_, rfl⟩ | ⟨_, ho'⟩
      · trivial
      · exact SObj.ok_mono (by omega) (SObj.ok_agree ext_lt (h.ok s o ho'))
    · obtain ⟨rfl, rfl⟩ := hnew s o hs ho
      trivial
end Go.Proofs.Ytkjellhkamfciaa.Sx
end

section
/- SX: literals and calls: every operation is sound. -/
namespace Go.Proofs.Ytkjellhkamfciaa.Sx
open Go Go.RowKit

def denP (ρ : Nat → Tk) (ps : List (Nat × SV)) : List (Nat × Value) := ps.map fun x => (x.1, den ρ x.2)

theorem partsOf_spec {C : Cx} {ρ : Nat → Tk} {n : Nat} {F : Fr} {a : Act} (hF : FRel C ρ n F a.tmps) : ∀ {l : List (Nat × Operand)} {r : List (Nat × SV)}, partsOf F l = some r →
    l.map (fun x => (x.1, a.eval x.2)) = denP ρ r ∧ ∀ x ∈ r, x.2.ok C.R C.w1 ρ n
  | [], r, h => by simp only [partsOf, Option.some.injEq] at h; subst h; simp [denP]
  | (i, x) :: l, r, h => by
    simp only [partsOf] at h
    split at h
    · rename_i p q hp hq
      cases h
      have h1 := opd_spec hF hp
      have h2 := partsOf_spec hF hq
      refine ⟨by simp only [List.map_cons, h2.1, denP, h1.1], ?_⟩
      intro y hy
      rcases List.mem_cons.1 hy with rfl | hy
      · exact h1.2
      · exact h2.2 y hy
    · cases h

theorem fold_put (l v : List Value) (off : Nat) (h : off + v.length ≤ l.length) :
    v.toArray.zipIdx.foldl (fun cs (x : Value × Nat) => cs.setIfInBounds (off + x.2) x.1) l.toArray = (l.take off ++ v ++ l.drop (off + v.length)).toArray := by
  have h0 := Great.foldl_set off v 0 l.toArray
  rw [← Array.foldl_toList, Array.toList_zipIdx]
  apply Array.ext_getElem?
  intro k
  rw [h0.2 k]
  simp only [Nat.add_zero, List.size_toArray, List.getElem?_toArray, List.getElem?_append, List.getElem?_take, List.getElem?_drop, List.length_append, List.length_take]
  grind

theorem fillAt_spec (ρ : Nat → Tk) (R : Nat → Prop) (w1 : World) (n : Nat) (hs : ∀ t, ∃ a m c, (ρ t).hdr = .slice a m c) (places : Nat → Option (Nat × Nat)) : ∀ (ps : List (Nat × SV)) (l l' : List SV), SV.okL R w1 ρ n l → (∀ x ∈ ps, x.2.ok R w1 ρ n) → fillAt places l ps = some l' →
    Instr.fill places (denC ρ l).toArray (denP ρ ps) = some (denC ρ l').toArray ∧ SV.okL R w1 ρ n l'
  | [], l, l', ho, _, h => by simp only [fillAt, Option.some.injEq] at h; subst h; exact ⟨by simp [Instr.fill, denP], ho⟩
  | (i, v) :: rest, l, l', ho, hp, h => by
    simp only [fillAt] at h
    split at h
    · rename_i off size hpl
      split at h
      · rename_i hsz
        obtain ⟨m, hm, h⟩ := bindO_some h
        have hv := hp (i, v) (by simp)
        obtain ⟨c1, c2⟩ := cells_den ρ R w1 n v hv hs
        obtain ⟨p1, p2, p3, _⟩ := segPut_spec (ρ := ρ) ho c2 hm
        obtain ⟨q1, q2⟩ := fillAt_spec ρ R w1 n hs places rest m l' p3 (fun x hx => hp x (by simp [hx])) h
        refine ⟨?_, q2⟩
        have hlen : (denC ρ v.cells).length = size := by rw [segWidth_eq c2]; exact Nat.eq_of_beq_eq_true hsz
        have hcs : (den ρ v).cells = (denC ρ v.cells).toArray := Array.toList_inj.1 (by simpa using c1)
        simp only [denP, List.map_cons, Instr.fill, hpl]
        rw [if_neg (by rw [hcs]; simp; omega), hcs]
        have hf := fold_put (denC ρ l) (denC ρ v.cells) off p2
        rw [← p1] at hf
        rw [hf]
        exact q1
      · cases h
    · cases h

theorem decAll_spec (ρ : Nat → Tk) (R : Nat → Prop) (w1 : World) (n : Nat) (hs : ∀ t, ∃ a m c, (ρ t).hdr = .slice a m c) (κ : K) : ∀ (ps : List (Nat × SV)) (i : Nat) (xs : List κ.T), decAll κ ps i = some xs → (∀ x ∈ ps, x.2.ok R w1 ρ n) →
    ∃ vs : List Value, denP ρ ps = (vs.zipIdx i).map (fun x => (x.2, x.1)) ∧ vs.length = ps.length ∧ xs.length = ps.length ∧ (∀ v ∈ vs, v.cells.size = κ.sz) ∧ (vs.flatMap fun v => v.cells.toList) = xs.flatMap κ.cells
  | [], i, xs, h, _ => by simp only [decAll, Option.some.injEq] at h; subst h; exact ⟨[], by simp [denP]⟩
  | (j, v) :: l, i, xs, h, hp => by
    simp only [decAll] at h
    split at h
    · rename_i hij
      obtain ⟨x, hx, h⟩ := bindO_some h
      obtain ⟨ys, hy, h⟩ := bindO_some h
      cases h
      obtain ⟨vs, h1, h2, h3, h4, h5⟩ := decAll_spec ρ R w1 n hs κ l (i + 1) ys hy (fun x hx => hp x (by simp [hx]))
      have hij' := Nat.eq_of_beq_eq_true hij
      obtain ⟨c1, c2⟩ := cells_den ρ R w1 n v (hp (j, v) (by simp)) hs
      have hd := dec_cells ρ κ _ _ hx
      refine ⟨den ρ v :: vs, ?_, by simp [h2], by simp [h3], ?_, ?_⟩
      · simp only [denP, List.map_cons, List.zipIdx_cons, ← hij']
        simp only [denP] at h1
        rw [h1, hij']
      · intro u hu
        rcases List.mem_cons.1 hu with rfl | hu
        · rw [← Array.length_toList, c1, hd, K.cells_length]
        · exact h4 u hu
      · simp only [List.flatMap_cons, h5, c1, hd]
    · cases h

section
variable (E : Env)

theorem op_build (hE : EnvOk E) {o : Oper} {F : Fr} {H : Hp} {T : TypeId} {parts : Array (Nat × Operand)} {z l : List SV} {ps : List (Nat × SV)} (ho : o.op = .build T parts) (hz : E.zeroOf T = some z) (hp : partsOf F parts.toList = some ps)
    (h : (∃ fs places, E.P.underlying T = some (.struct fs) ∧ placesOf E fs.toList = some places ∧ fillAt (places[·]?) z ps = some l) ∨
      (∃ n e sz, E.P.underlying T = some (.array n e) ∧ E.size e = some sz ∧ fillAt (fun i => some (i * sz, sz)) z ps = some l)) : OpGood E.P o F H (.agg l) H :=
  .val fun C ρ a w hF hR => by
    obtain ⟨i, zv, h1, h2, h3, h4⟩ := zeroOf_spec E hE hz
    obtain ⟨hp1, hp2⟩ := partsOf_spec hF hp
    have hzc : zv.cells = (denC ρ z).toArray := Array.toList_inj.1 (by simpa using (h3 ρ).symm)
    have hb : E.P.built T (parts.map fun (i, x) => (i, a.eval x)).toList = some (denC ρ l).toArray ∧ SV.okL C.R C.w1 ρ H.length l := by
      rw [Array.toList_map, show (List.map (fun (x : Nat × Operand) => match x with | (i, x) => (i, a.eval x)) parts.toList) = denP ρ ps from hp1]
      rcases h with ⟨fs, places, hT, hpl, hf⟩ | ⟨n, e, sz, hT, hsz, hf⟩
      · obtain ⟨g1, g2⟩ := fillAt_spec ρ C.R C.w1 H.length hR.hdr _ ps z l (h4 _ _ _ _) hp2 hf
        refine ⟨?_, g2⟩
        unfold placesOf at hpl
        simp only [Program.built, h1, hT, h2, hpl, hzc, List.getElem?_toArray]
        exact g1
      · obtain ⟨g1, g2⟩ := fillAt_spec ρ C.R C.w1 H.length hR.hdr _ ps z l (h4 _ _ _ _) hp2 hf
        refine ⟨?_, g2⟩
        unfold Env.size at hsz
        cases hie : E.P.info? e with
        | none => simp [hie] at hsz
        | some ie =>
          simp only [hie, Option.map_some, Option.some.injEq] at hsz
          subst hsz
          simp only [Program.built, h1, hT, h2, hie, hzc]
          exact g1
    refine ⟨?_, by simpa [SV.ok] using hb.2⟩
    simp only [execOp, ho, Sem.run_bind, run_build w T _ _ hb.1, Result.andThen_ok, Sem.run_pure, den]

theorem op_buildSlice {o : Oper} {F : Fr} {H : Hp} {T e : TypeId} {len sz : Nat} {parts : Array (Nat × Operand)} {κ : K} {xs : List κ.T} {ps : List (Nat × SV)} (ho : o.op = .buildSlice T len parts) (hT : E.P.underlying T = some (.slice e))
    (hsz : E.size e = some sz) (hp : partsOf F parts.toList = some ps) (hκ : κ.sz = sz) (hlen : ps.length = len) (hsmall : len * sz ≤ 16777216) (hx : decAll κ ps 0 = some xs) (hz : ∃ i z, E.P.info? e = some i ∧ i.zero = some z ∧ z.cells.size = i.size) :
    OpGood E.P o F H (.sl H.length) (H ++ [.seq κ xs e]) := by
  refine ⟨by simp, fun C ρ a w hF hR next Q hn => ?_⟩
  obtain ⟨hp1, hp2⟩ := partsOf_spec hF hp
  obtain ⟨vs, g1, g2, g3, g4, g5⟩ := decAll_spec ρ C.R C.w1 H.length hR.hdr κ ps 0 xs hx hp2
  obtain ⟨i, z, hi, hz, hzs⟩ := hz
  have hxl : xs.length = len := by omega
  have hn' := hn _ _ ext_lt (hR.newSeq κ xs e (by unfold maxLen; have := K.sz_pos κ; have : len ≤ len * sz := Nat.le_mul_of_pos_right _ (by omega); omega)) (by simp [SV.ok])
  simp only [den, ext_self, hxl] at hn'
  have hisz : i.size = sz := by simpa [Env.size, hi] using hsz
  unfold Oper.wp
  have hparts : (parts.map fun (i, x) => (i, a.eval x)).toList = (vs.zipIdx 0).map (fun x => (x.2, x.1)) := by
    rw [Array.toList_map, ← g1]; exact hp1
  have hrun : (Instr.buildSlice T len (parts.map fun (i, x) => (i, a.eval x))).run E.P w = .ok (.slice (some ⟨w.heap.size, 0, none⟩) len len) (w.alloc (.cells (xs.flatMap κ.cells).toArray e)) := by
    by_cases h0 : len = 0
    · subst h0
      have hv : vs = [] := List.eq_nil_of_length_eq_zero (by omega)
      have hxs : xs = [] := List.eq_nil_of_length_eq_zero (by omega)
      have hps : ps = [] := List.eq_nil_of_length_eq_zero hlen
      subst hv; subst hxs; subst hps
      have hp0 : parts.toList.map (fun x => (x.1, a.eval x.2)) = [] := by rw [hp1]; rfl
      have har : ∀ f : Nat → Value, Array.map f (Array.range 0) = #[] := fun f => by simp [Array.range]
      simp [Instr.buildSlice, run_underlying hT, sizeOf, typeInfo, hi, hp0, Instr.fill, newRow, har]
    · refine run_buildSlice w T e len _ _ i z hT hi hz (by rw [hisz]; omega) ?_ ?_
      · rw [hisz, ← hκ]; have := K.sz_pos κ; intro hc; rcases Nat.mul_eq_zero.1 hc with h | h <;> omega
      · rw [hparts, ← g5, hisz, ← hκ]
        exact Great.fill_whole (K.sz_pos κ) vs _ g4 (by simp; rw [g2, hlen])
  simp only [execOp, ho, Sem.run_bind, hrun, Result.andThen_ok, Sem.run_pure]
  exact hn'

/-- Frames that hold the same in what an operation reads. -/
def Agree (o : Oper) (F F' : Fr) : Prop := ∀ x ∈ o.op.operands.toList, opd F' x = opd F x
theorem Agree.opd {o : Oper} {F F' : Fr} (h : Agree o F F') {x : Operand} {v : SV} (hx : x ∈ o.op.operands.toList) (hv : opd F x = some v) : opd F' x = some v := (h x hx).trans hv
theorem Agree.ivO {o : Oper} {F F' : Fr} (h : Agree o F F') {x : Option Operand} {r : Option Int} (hx : ∀ y, x = some y → y ∈ o.op.operands.toList) (hv : ivO F x = some r) : ivO F' x = some r := by
  cases x with
  | none => exact hv
  | some y => unfold Sx.ivO at hv ⊢; simp only [h y (hx y rfl)]; exact hv
theorem Agree.opds {o : Oper} {F F' : Fr} (h : Agree o F F') : ∀ {l : List Operand} {r : List SV}, (∀ x ∈ l, x ∈ o.op.operands.toList) → opds F l = some r → opds F' l = some r
  | [], r, _, hr => hr
  | x :: l, r, hl, hr => by
    simp only [Sx.opds] at hr ⊢
    split at hr
    · rename_i p q hp hq
      rw [h.opd (hl x (by simp)) hp, Agree.opds h (fun y hy => hl y (by simp [hy])) hq]; exact hr
    · cases hr
theorem Agree.parts' {o : Oper} {F F' : Fr} (h : Agree o F F') : ∀ {l : List (Nat × Operand)} {r : List (Nat × SV)}, (∀ x ∈ l, x.2 ∈ o.op.operands.toList) → partsOf F l = some r → partsOf F' l = some r
  | [], r, _, hr => hr
  | (i, x) :: l, r, hl, hr => by
    simp only [partsOf] at hr ⊢
    split at hr
    · rename_i p q hp hq
      rw [h.opd (hl (i, x) (by simp)) hp, Agree.parts' h (fun y hy => hl y (by simp [hy])) hq]; exact hr
    · cases hr
theorem Agree.parts {o : Oper} {F F' : Fr} (h : Agree o F F') {parts : Array (Nat × Operand)} {r : List (Nat × SV)} (ho : o.op.operands = (parts.toList.map (·.2)).toArray) (hr : partsOf F parts.toList = some r) : partsOf F' parts.toList = some r :=
  h.parts' (fun x hx => by rw [ho]; simp; exact ⟨x.1, by simpa using hx⟩) hr
theorem Agree.refl (o : Oper) (F : Fr) : Agree o F F := fun _ _ => rfl

theorem run_three (name : String) (P : Program) (w : World) (k1 k2 k3 : IntKind) (x y c : Int) (hc : ¬ c.toNat > 1) :
    (Extern.MathBitsCarry.three name #[.int k1 x, .int k2 y, .int k3 c]).run P w = .ok (x.toNat, y.toNat, c.toNat) w := by
  change Sem.run P (do
    let c' := (← asInt (Value.int k3 c)).toNat
    if c' > 1 then unsupported (.noEntry ("extern/math/bits." ++ name ++ ": a carry that is neither 0 nor 1"))
    pure ((← asInt (Value.int k1 x)).toNat, (← asInt (Value.int k2 y)).toNat, c')) w = _
  simp only [asInt, asIntOf, Sem.run_bind, Sem.run_pure, Result.andThen_ok, Sem.run_ite, if_neg hc]
theorem run_add64 {e : Array Value → Sem Value} (he : e = fun args => do let (x, y, c) ← Extern.MathBitsCarry.three "Add64" args; pure (Extern.MathBitsCarry.pair ((x + y + c) % Extern.MathBitsCarry.m64) ((x + y + c) / Extern.MathBitsCarry.m64)))
    (P : Program) (w : World) (k1 k2 k3 : IntKind) (x y c : Int) (hc : ¬ c.toNat > 1) :
    (e #[.int k1 x, .int k2 y, .int k3 c]).run P w = .ok (.tuple #[.int .u64 (Int.ofNat ((x.toNat + y.toNat + c.toNat) % pow64)), .int .u64 (Int.ofNat ((x.toNat + y.toNat + c.toNat) / pow64))]) w := by
  subst he
  simp only [Sem.run_bind, run_three "Add64" P w k1 k2 k3 x y c hc, Sem.run_pure, Result.andThen_ok, Extern.MathBitsCarry.pair]
  rfl
theorem run_sub64 {e : Array Value → Sem Value} (he : e = fun args => do let (x, y, b) ← Extern.MathBitsCarry.three "Sub64" args; pure (Extern.MathBitsCarry.pair ((x + Extern.MathBitsCarry.m64 - y - b) % Extern.MathBitsCarry.m64) (if x < y + b then 1 else 0)))
    (P : Program) (w : World) (k1 k2 k3 : IntKind) (x y c : Int) (hc : ¬ c.toNat > 1) :
    (e #[.int k1 x, .int k2 y, .int k3 c]).run P w = .ok (.tuple #[.int .u64 (Int.ofNat ((x.toNat + pow64 - y.toNat - c.toNat) % pow64)), .int .u64 (Int.ofNat (if x.toNat < y.toNat + c.toNat then 1 else 0))]) w := by
  subst he
  simp only [Sem.run_bind, run_three "Sub64" P w k1 k2 k3 x y c hc, Sem.run_pure, Result.andThen_ok, Extern.MathBitsCarry.pair]
  rfl

theorem eval_args {ρ : Nat → Tk} {a : Act} {args : Array Operand} {r : List SV} (h : args.toList.map a.eval = denL ρ r) : args.map a.eval = (denL ρ r).toArray := by
  rw [← h]; exact Array.toList_inj.1 (by simp)

theorem readSeq_spec {κ : K} {b : SV} {H : Hp} {ex : List Nat} {ys : List κ.T} (h : readSeq κ b H = some (ex, ys)) {C : Cx} {ρ : Nat → Tk} {w : World} (hR : Rel C ρ H w) (hok : b.ok C.R C.w1 ρ H.length) :
    ∃ ao c, den ρ b = .slice ao ys.length c ∧ (0 < ys.length → ∃ ad, ao = some ad ∧ ∀ j u, (ys.flatMap κ.cells)[j]? = some u → w.cell? (ad.add j) = some u) := by
  have ros : ∀ (R : Nat → Prop) (w1 : World) (v : Value) (zs : List κ.T), RosOk R w1 v κ zs → (∀ b, R b → w.heap[b]? = w1.heap[b]?) → ∃ ao c, v = .slice ao zs.length c ∧ (0 < zs.length → ∃ ad, ao = some ad ∧ ∀ j u, (zs.flatMap κ.cells)[j]? = some u → w.cell? (ad.add j) = some u) := by
    intro R w1 v zs hr hk
    rcases hr with ⟨e0, a, c, e1⟩ | ⟨ad, cap, e1, _, hsp, hRb, hc⟩
    · exact ⟨a, c, by rw [e1, e0]; rfl, fun h => by rw [e0] at h; simp at h⟩
    · refine ⟨some ad, cap, e1, fun _ => ⟨ad, rfl, fun j u hj => ?_⟩⟩
      have h1 := hc j u hj
      obtain ⟨ab, ao, asp⟩ := ad
      simp only at hsp hRb h1
      subst hsp
      rw [add_lit, World.cell?_of_block (a := ⟨ab, ao + j, none⟩) (hk ab hRb)]
      exact h1
  have own : ∀ (t : Nat) (zs : List κ.T) (T : TypeId), H[t]? = some (.seq κ zs T) → RosOk (fun _ => True) w (ρ t).hdr κ zs := by
    intro t zs T ht
    have hob := hR.obj t _ ht
    rcases hob.1.2 with ⟨e1, e0⟩ | ⟨gb, cap, cur, e1, _, hg2, hnc, _, _, htake⟩
    · exact .inl ⟨List.eq_nil_of_length_eq_zero e0, _, _, e1⟩
    · refine .inr ⟨_, cap, e1, hnc, rfl, trivial, fun j c hj => ?_⟩
      rw [← htake, List.getElem?_take] at hj
      split at hj
      · rw [cell_of_row w _ _ _ _ _ hg2]; simpa using hj
      · cases hj
  unfold readSeq at h
  split at h
  · split at h
    · rename_i he; subst he; cases h
      exact ros _ _ _ _ hok fun b hb => hR.keep b (hR.fit.ro b hb).1 (hR.fit.ro b hb).2
    · cases h
  · split at h
    · rename_i t _ κ' xs' T ht
      split at h
      · rename_i he; subst he; cases h
        exact ros _ _ _ _ (own t _ _ ht) fun _ _ => rfl
      · cases h
    · cases h
  · split at h
    · rename_i t κ' lo n hk
      split at h
      · rename_i κ2 xs' T ht
        split at h
        · rename_i he; subst he; cases h
          have hr := own t _ _ ht
          simp only [SV.ok] at hok
          obtain ⟨_, a, k, c, e1, hle⟩ := hok
          have hk3 : k = xs'.length := by
            rcases hr with ⟨e0, a2, c2, e2⟩ | ⟨ad, c2, e2, _⟩
            · rw [e2] at e1; cases e1; rw [e0]; rfl
            · rw [e2] at e1; cases e1; rfl
          simp only [den]
          rw [hk]
          exact ros _ _ _ _ (ros_win hr (by omega)) fun _ _ => rfl
        · cases h
      · cases h
    · cases h
  · cases h; exact ⟨none, 0, rfl, fun h => by simp at h⟩
  · cases h
theorem flat_one (κ : K) (ys : List κ.T) : ∀ u ∈ ys.flatMap κ.cells, u.oneCell' = true := by
  intro u hu
  obtain ⟨y, _, hy⟩ := List.mem_flatMap.1 hu
  exact K.cells_one κ y u hy
theorem op_append_nil {o : Oper} {F : Fr} {H : Hp} {c : Call} {t e : TypeId} {b : SV} {κ : K} {ys : List κ.T} {ex : List Nat} {inf : TypeInfo} {zv : Value} (ho : o.op = .call c) (hc : c.callee = .builtin .append) (hat : c.argTypes = #[t, t])
    (ha : opds F c.args.toList = some [.raw (.slice none 0 0), b]) (hT' : E.P.underlying t = some (.slice e)) (hi : E.P.info? e = some inf) (hz : inf.zero = some zv) (hzs : zv.cells.size = inf.size)
    (hk : κ.sz = inf.size) (hby : 1 ≤ inf.bytes) (hr : readSeq κ b H = some (ex, ys)) (hb : ys.length * inf.bytes ≤ 140737488355328) : OpGood E.P o F H (.sl H.length) (H ++ [.seq κ ys e]) := by
  refine ⟨by simp, fun C ρ a w hF hR next Q hn => ?_⟩
  obtain ⟨h3, h4⟩ := opds_spec hF ha
  simp only [denL, den] at h3
  obtain ⟨ao, cc, e1, e2⟩ := readSeq_spec hr hR h4.2.1
  rw [e1] at h3
  have h3' : c.args.map a.eval = #[.slice none 0 0, .slice ao ys.length cc] := Array.toList_inj.1 (by simpa using h3)
  have hle : ys.length ≤ ys.length * inf.bytes := Nat.le_mul_of_pos_right _ (by omega)
  by_cases h0 : 0 < ys.length
  · obtain ⟨ad, rfl, e3⟩ := e2 h0
    obtain ⟨v', w', r1, r2, r3, r4, r5⟩ := run_append_at (P := E.P) w t o.type e inf zv hT' hi hz hzs (by rw [← hk]; exact K.sz_pos κ) _ 0 [] (World.ownsRow_nil w 0 e inf.size) ad ys.length cc (ys.flatMap κ.cells)
      (by rw [cells_flat_length, hk]) e3 (flat_one κ ys) h0 (by unfold maxLen; omega) (by rw [Nat.zero_add]; exact hb)
    simp only [Nat.zero_add, List.nil_append] at r2
    rw [← hk] at r2
    have hR' : Rel C (ext ρ H.length ⟨(v'.ownBlock).getD 0, v'⟩) (H ++ [.seq κ ys e]) w' := by
      refine hR.push (.seq κ ys e) _ (fun b hb => r3.block b hb (by simp [Value.ownBlock])) r3.size r3.os r3.tape r3.output ?_ ?_ trivial r4
      · exact ⟨r2, fun b hb => by simp [hb]⟩
      · intro b hb
        rcases r5 b hb with h | h
        · simp [Value.ownBlock] at h
        · omega
    have hn' := hn _ _ ext_lt hR' (by simp [SV.ok])
    simp only [den, ext_self] at hn'
    unfold Oper.wp
    simp only [execOp, ho, resolve, hc, hat, Sem.run_bind, Sem.run_pure, Result.andThen_ok, invoke, builtin, h3', r1]
    exact hn'
  · have hy : ys = [] := List.eq_nil_of_length_eq_zero (by omega)
    subst hy
    have r1 := run_append_zero (P := E.P) w t o.type e inf hT' hi none 0 0 (Nat.le_refl _) ao cc
    have hn' := hn _ _ ext_lt (hR.newNil κ e) (by simp [SV.ok])
    simp only [den, ext_self] at hn'
    unfold Oper.wp
    simp only [List.length_nil] at h3'
    simp only [execOp, ho, resolve, hc, hat, Sem.run_bind, Sem.run_pure, Result.andThen_ok, invoke, builtin, h3', r1]
    exact hn'
theorem op_append_own {o : Oper} {F : Fr} {H : Hp} {c : Call} {t e : TypeId} {b : SV} {ts : Nat} {κ : K} {xs ys : List κ.T} {ex : List Nat} {inf : TypeInfo} {zv : Value} (ho : o.op = .call c) (hc : c.callee = .builtin .append) (hat : c.argTypes = #[t, t])
    (ha : opds F c.args.toList = some [.sl ts, b]) (hT' : E.P.underlying t = some (.slice e)) (hi : E.P.info? e = some inf) (hz : inf.zero = some zv) (hzs : zv.cells.size = inf.size)
    (hk : κ.sz = inf.size) (hby : 1 ≤ inf.bytes) (ht : H[ts]? = some (.seq κ xs e)) (hr : readSeq κ b H = some (ex, ys)) (hb : (xs.length + ys.length) * inf.bytes ≤ 140737488355328) :
    OpGood E.P o F H (.sl H.length) (H.set ts .dead ++ [.seq κ (xs ++ ys) e]) := by
  refine ⟨by simp, fun C ρ a w hF hR next Q hn => ?_⟩
  obtain ⟨h3, h4⟩ := opds_spec hF ha
  simp only [denL, den] at h3
  obtain ⟨ao, cc, e1, e2⟩ := readSeq_spec hr hR h4.2.1
  rw [e1] at h3
  have h3' : c.args.map a.eval = #[(ρ ts).hdr, .slice ao ys.length cc] := Array.toList_inj.1 (by simpa using h3)
  have hle : xs.length + ys.length ≤ (xs.length + ys.length) * inf.bytes := Nat.le_mul_of_pos_right _ (by omega)
  have hob := hR.obj ts _ ht
  by_cases h0 : 0 < ys.length
  · obtain ⟨ad, rfl, e3⟩ := e2 h0
    have hown := hob.1
    rw [hk] at hown
    obtain ⟨v', w', r1, r2, r3, r4, r5⟩ := run_append_at (P := E.P) w t o.type e inf zv hT' hi hz hzs (by rw [← hk]; exact K.sz_pos κ) _ xs.length (xs.flatMap κ.cells) hown ad ys.length cc (ys.flatMap κ.cells)
      (by rw [cells_flat_length, hk]) e3 (flat_one κ ys) h0 (by unfold maxLen; omega) hb
    rw [← hk, ← List.flatMap_append, ← List.length_append] at r2
    have hR' := hR.grow ht r2 r3 r4 r5
    have hn' := hn _ _ ext_lt hR' (by simp [SV.ok])
    simp only [den, ext_self] at hn'
    unfold Oper.wp
    simp only [execOp, ho, resolve, hc, hat, Sem.run_bind, Sem.run_pure, Result.andThen_ok, invoke, builtin, h3', r1]
    exact hn'
  · have hy : ys = [] := List.eq_nil_of_length_eq_zero (by omega)
    subst hy
    obtain ⟨b1, n1, c1, he, hle1⟩ : ∃ b1 n1 c1, (ρ ts).hdr = .slice b1 n1 c1 ∧ n1 ≤ c1 := by
      rcases hob.1.2 with ⟨e1, _⟩ | ⟨gb, cap, cur, e1, _, _, hnc, _⟩
      · exact ⟨_, _, _, e1, Nat.le_refl _⟩
      · exact ⟨_, _, _, e1, hnc⟩
    have r1 := run_append_zero (P := E.P) w t o.type e inf hT' hi b1 n1 c1 hle1 ao cc
    have hR' := hR.grow (w' := w) (ys := xs ++ []) ht (v' := (ρ ts).hdr) (by rw [List.append_nil]; exact hob.1) ⟨rfl, rfl, rfl, Nat.le_refl _, fun _ _ _ => rfl⟩ ⟨_, _, _, he⟩ (fun b hb => .inl hb)
    have hn' := hn _ _ ext_lt hR' (by simp [SV.ok])
    simp only [den, ext_self] at hn'
    rw [he] at hn' h3'
    simp only [List.length_nil] at h3'
    unfold Oper.wp
    simp only [execOp, ho, resolve, hc, hat, Sem.run_bind, Sem.run_pure, Result.andThen_ok, invoke, builtin, h3', r1]
    exact hn'
theorem nilKind_some {x : Operand} {T : TypeId} {r : TypeId × K} (h : nilKind E x T = some r) : x = .const (.slice none 0 0) := by
  unfold nilKind at h
  split at h
  · rfl
  · cases h
/-- **Every operation does what the executor says.** -/
theorem notNil {F : Fr} {ts : Nat} {y : List SV} {l : List Operand} (ha : opds F l = some (.sl ts :: y)) : noNilHead l = true := by
  unfold noNilHead
  split
  · rename_i l'
    have e : opd F (.const (.slice none 0 0)) = some (.raw (.slice none 0 0)) := rfl
    simp only [opds, e] at ha
    cases hl : opds F l' with
    | none => rw [hl] at ha; simp at ha
    | some z => rw [hl] at ha; simp at ha
  · rfl

theorem opS_sound (hE : EnvOk E) {α : Type} {callf : CallF α} (hcall : CallOk E.P callf) (o : Oper) (F : Fr) (H : Hp) (K : SV → Hp → Option α) (r : α) (h : opS E callf o F H K = some r) :
    ∃ v H', K v H' = some r ∧ (isWr o = false → ∃ l, H' = H ++ l) ∧ ∀ F', Agree o F F' → OpGood E.P o F' H v H' := by
  unfold opS at h
  split at h
  · rename_i x ho
    split at h
    · rename_i e κ hnk
      exact ⟨_, _, h, fun _ => ⟨_, rfl⟩, fun F' _ => op_nil E (.inl (by rw [ho, nilKind_some E hnk]))⟩
    · obtain ⟨v, hv, h⟩ := bindO_some h
      exact ⟨v, H, h, fun _ => ⟨[], by simp⟩, fun F' hA => op_move E (.inl ho) (hA.opd (by simp [ho, Op.operands]) hv)⟩
  · rename_i x ho
    split at h
    · rename_i e κ hnk
      exact ⟨_, _, h, fun _ => ⟨_, rfl⟩, fun F' _ => op_nil E (.inr (by rw [ho, nilKind_some E hnk]))⟩
    · obtain ⟨v, hv, h⟩ := bindO_some h
      exact ⟨v, H, h, fun _ => ⟨[], by simp⟩, fun F' hA => op_move E (.inr ho) (hA.opd (by simp [ho, Op.operands]) hv)⟩
  · rename_i c x y ho
    split at h
    · rename_i b u v hc hx hy
      refine ⟨if b then u else v, H, ?_, fun _ => ⟨[], by simp⟩, fun F' hA => op_pick E ho (hA.opd (by simp [ho, Op.operands]) hc) (hA.opd (by simp [ho, Op.operands]) hx) (hA.opd (by simp [ho, Op.operands]) hy)⟩
      cases b <;> simpa using h
    · cases h
  · rename_i T ho
    obtain ⟨l, hl, h⟩ := bindO_some h
    split at h
    · rename_i hb
      split at h
      · obtain ⟨ts, _, h⟩ := bindO_some h
        exact ⟨_, _, h, fun _ => ⟨_, List.append_assoc ..⟩, fun F' _ => op_allocN E hE ts ho hl hb⟩
      · exact ⟨_, _, h, fun _ => ⟨_, rfl⟩, fun F' _ => op_alloc E hE ho hl hb⟩
    · cases h
  · rename_i T x ho
    obtain ⟨v, hv, h⟩ := bindO_some h
    split at h
    · rename_i hb
      split at h
      · obtain ⟨ts, _, h⟩ := bindO_some h
        exact ⟨_, _, h, fun _ => ⟨_, List.append_assoc ..⟩, fun F' hA => op_boxN E ts ho (hA.opd (by simp [ho, Op.operands]) hv) hb⟩
      · exact ⟨_, _, h, fun _ => ⟨_, rfl⟩, fun F' hA => op_box E ho (hA.opd (by simp [ho, Op.operands]) hv) hb⟩
    · cases h
  · rename_i T parts ho
    obtain ⟨z, hz, h⟩ := bindO_some h
    obtain ⟨ps, hp, h⟩ := bindO_some h
    split at h
    · rename_i fs hT
      obtain ⟨pl, hpl, h⟩ := bindO_some h
      obtain ⟨l, hl, h⟩ := bindO_some h
      exact ⟨_, _, h, fun _ => ⟨[], by simp⟩, fun F' hA => op_build E hE ho hz (hA.parts (by simp [ho, Op.operands]) hp) (.inl ⟨fs, pl, hT, hpl, hl⟩)⟩
    · rename_i n e hT
      obtain ⟨sz, hsz, h⟩ := bindO_some h
      obtain ⟨l, hl, h⟩ := bindO_some h
      exact ⟨_, _, h, fun _ => ⟨[], by simp⟩, fun F' hA => op_build E hE ho hz (hA.parts (by simp [ho, Op.operands]) hp) (.inr ⟨n, e, sz, hT, hsz, hl⟩)⟩
    · cases h
  · rename_i T len parts ho
    split at h
    · rename_i e hT
      obtain ⟨κ, hκ, h⟩ := bindO_some h
      obtain ⟨sz, hsz, h⟩ := bindO_some h
      obtain ⟨z, hz, h⟩ := bindO_some h
      obtain ⟨ps, hp, h⟩ := bindO_some h
      split at h
      · rename_i hk
        split at h
        · rename_i hb
          obtain ⟨xs, hx, h⟩ := bindO_some h
          simp only [Bool.and_eq_true] at hb
          obtain ⟨i, zv, g1, g2, g3, g4⟩ := zeroOf_spec E hE hz
          refine ⟨_, _, h, fun _ => ⟨_, rfl⟩, fun F' hA => op_buildSlice E ho hT hsz (hA.parts (by simp [ho, Op.operands]) hp) hk.1 (Nat.eq_of_beq_eq_true hb.1) (Nat.le_of_ble_eq_true hb.2) hx ⟨i, zv, g1, g2, ?_⟩⟩
          have hs1 : i.size = sz := by simpa [Env.size, g1] using hsz
          have := segWidth_eq (ρ := fun _ => ⟨0, undef⟩) (g4 (fun _ => False) default (fun _ => ⟨0, undef⟩) 0)
          rw [g3] at this
          rw [hs1, ← Nat.eq_of_beq_eq_true hk.2, ← this]; simp
        · cases h
      · cases h
    · cases h
  · rename_i T x ho
    obtain ⟨p, hp, h⟩ := bindO_some h
    obtain ⟨v, hv, h⟩ := bindO_some h
    exact ⟨_, _, h, fun _ => ⟨[], by simp⟩, fun F' hA => op_load E ho (hA.opd (by simp [ho, Op.operands]) hp) hv⟩
  · rename_i T p x ho
    obtain ⟨pv, hpv, h⟩ := bindO_some h
    obtain ⟨v, hv, h⟩ := bindO_some h
    split at h
    · obtain ⟨ts, _, h⟩ := bindO_some h
      obtain ⟨v', hv', h⟩ := bindO_some h
      obtain ⟨H', hH, h⟩ := bindO_some h
      split at h
      · rename_i hb
        exact ⟨_, _, h, fun hw => absurd hw (by simp [isWr, ho]), fun F' hA => op_storeN E ts ho (hA.opd (by simp [ho, Op.operands]) hpv) (hA.opd (by simp [ho, Op.operands]) hv) hb hv' hH⟩
      · cases h
    · obtain ⟨H', hH, h⟩ := bindO_some h
      exact ⟨_, _, h, fun hw => absurd hw (by simp [isWr, ho]), fun F' hA => op_store E ho (hA.opd (by simp [ho, Op.operands]) hpv) (hA.opd (by simp [ho, Op.operands]) hv) hH⟩
  · rename_i x ho
    obtain ⟨v, hv, h⟩ := bindO_some h
    split at h
    · exact ⟨_, _, h, fun _ => ⟨[], by simp⟩, fun F' hA => op_nilCheck E ho (hA.opd (by simp [ho, Op.operands]) hv)⟩
    · cases h
  · rename_i op T x y _ ho
    obtain ⟨u, hu, h⟩ := bindO_some h
    obtain ⟨v, hv, h⟩ := bindO_some h
    obtain ⟨z, hz, hs⟩ := binS_spec E h
    refine ⟨_, _, hz, fun _ => ⟨[], by simp⟩, fun F' hA => .val fun C ρ a w hF hR => ?_⟩
    obtain ⟨h1, h2⟩ := opd_spec hF (hA.opd (by simp [ho, Op.operands]) hu)
    obtain ⟨h3, h4⟩ := opd_spec hF (hA.opd (by simp [ho, Op.operands]) hv)
    obtain ⟨g1, g2⟩ := hs ρ C.R C.w1 H.length w x y h2 h4
    refine ⟨?_, g2⟩
    simp only [execOp, ho, h1, h3]
    rw [Sem.run_bind, g1]; rfl
  · rename_i op T x ho
    obtain ⟨u, hu, h⟩ := bindO_some h
    obtain ⟨v, hv, h⟩ := bindO_some h
    exact ⟨_, _, h, fun _ => ⟨[], by simp⟩, fun F' hA => op_unOp E ho (hA.opd (by simp [ho, Op.operands]) hu) hv⟩
  · rename_i src dst x ho
    obtain ⟨u, hu, h⟩ := bindO_some h
    split at h
    · rename_i d k k' n hs hd
      exact ⟨_, _, h, fun _ => ⟨[], by simp⟩, fun F' hA => op_convert E ho (hA.opd (by simp [ho, Op.operands]) hu) hd ⟨d, hs⟩⟩
    · cases h
  · rename_i f first cap ho
    obtain ⟨a, ha, h⟩ := bindO_some h
    obtain ⟨b, hb, h⟩ := bindO_some h
    exact ⟨_, _, h, fun _ => ⟨[], by simp⟩, fun F' hA => op_makeFunc E ho (hA.opds (fun x hx => by simp [ho, Op.operands]; exact .inl (by simpa using hx)) ha) (hA.opds (fun x hx => by simp [ho, Op.operands]; exact .inr (by simpa using hx)) hb)⟩
  · rename_i T x f ho
    obtain ⟨u, hu, h⟩ := bindO_some h
    obtain ⟨v, hv, h⟩ := bindO_some h
    exact ⟨_, _, h, fun _ => ⟨[], by simp⟩, fun F' hA => op_fieldAddr E ho (hA.opd (by simp [ho, Op.operands]) hu) hv⟩
  · rename_i T x f ho
    obtain ⟨u, hu, h⟩ := bindO_some h
    obtain ⟨fd, hfd, h⟩ := bindO_some h
    split at h
    · rename_i l g n hg hn _
      obtain ⟨r', hr, h⟩ := bindO_some h
      obtain ⟨v, hv, h⟩ := bindO_some h
      exact ⟨_, _, h, fun _ => ⟨[], by simp⟩, fun F' hA => op_field E ho (hA.opd (by simp [ho, Op.operands]) hu) hfd hg hn hr hv⟩
    · cases h
  · rename_i T x ix ho
    obtain ⟨u, hu, h⟩ := bindO_some h
    obtain ⟨i, hi, h⟩ := bindO_some h
    obtain ⟨v, hv, hg⟩ := indexS_spec E ho h
    exact ⟨_, _, hv, fun _ => ⟨[], by simp⟩, fun F' hA => hg F' (hA.opd (by simp [ho, Op.operands]) hu) (hA.opd (by simp [ho, Op.operands]) hi)⟩
  · rename_i T x ix ho
    obtain ⟨u, hu, h⟩ := bindO_some h
    obtain ⟨i, hi, h⟩ := bindO_some h
    split at h
    · have hT : E.P.underlying T = some .string := by assumption
      split at h
      · rename_i hb
        exact ⟨_, _, h, fun _ => ⟨[], by simp⟩, fun F' hA => op_index E ho (hA.opd (by simp [ho, Op.operands]) hu) (hA.opd (by simp [ho, Op.operands]) hi) hT hb⟩
      · cases h
    · cases h
  · rename_i T x lo hi ho
    obtain ⟨u, hu, h⟩ := bindO_some h
    obtain ⟨l, hl, h⟩ := bindO_some h
    obtain ⟨h', hh, h⟩ := bindO_some h
    split at h
    · rename_i e hT
      obtain ⟨sz, hsz, h⟩ := bindO_some h
      obtain ⟨L, hL, h⟩ := bindO_some h
      split at h
      · rename_i hb
        obtain ⟨v, hv, h⟩ := bindO_some h
        exact ⟨_, _, h, fun _ => ⟨[], by simp⟩, fun F' hA => op_slice E ho (hA.opd (by simp [ho, Op.operands]) hu) (hA.ivO (fun y hy => by simp [ho, Op.operands]; simp [hy]) hl) (hA.ivO (fun y hy => by simp [ho, Op.operands]; simp [hy]) hh) hT hsz hL hb hv⟩
      · cases h
    · cases h
  · rename_i T x y ho
    obtain ⟨u, hu, h⟩ := bindO_some h
    obtain ⟨u2, hu2, h⟩ := bindO_some h
    split at h
    · rename_i e1 k1 n1 k2 n2 hT h0
      obtain ⟨κ, hκ, h⟩ := bindO_some h
      obtain ⟨inf, hinf, h⟩ := bindO_some h
      obtain ⟨z, hz, h⟩ := bindO_some h
      split at h
      · rename_i hk
        obtain ⟨hk1, hk2, hk, _⟩ := hk
        obtain ⟨d, hd, h⟩ := bindO_some h
        split at h
        · rename_i hnm
          rw [hk1] at hu
          rw [hk2, ← hnm] at hu2
          split at h
          · rename_i hb
            exact ⟨_, _, h, fun _ => ⟨_, rfl⟩, fun F' hA => op_makeSlice E hE ho (hA.opd (by simp [ho, Op.operands]) hu) (hA.opd (by simp [ho, Op.operands]) hu2) hT hinf hz hk hd hb.1 hb.2.1 hb.2.2⟩
          · cases h
        · cases h
      · cases h
    · cases h
  · rename_i x i ho
    obtain ⟨u, hu, h⟩ := bindO_some h
    split at h
    · obtain ⟨v, hv, h⟩ := bindO_some h
      exact ⟨_, _, h, fun _ => ⟨[], by simp⟩, fun F' hA => op_extract E ho (hA.opd (by simp [ho, Op.operands]) hu) hv⟩
    · cases h
  · rename_i c ho
    obtain ⟨args, ha, h⟩ := bindO_some h
    split at h
    · -- a function's value
      rename_i f hc
      obtain ⟨fv, hf, h⟩ := bindO_some h
      split at h
      · rename_i g first cap
        have hres : ∀ (F' : Fr), Agree o F F' → ∀ (C : Cx) (ρ : Nat → Tk) (a : Act), FRel C ρ H.length F' a.tmps → (resolve a.eval c o.type = pure { target := .fn (.func g) (denL ρ cap).toArray, args := (denL ρ first).toArray ++ (denL ρ args).toArray }) ∧ SV.okL C.R C.w1 ρ H.length (first ++ args ++ cap) := by
          intro F' hA C ρ a hF
          obtain ⟨h1, h2⟩ := opd_spec hF (hA.opd (by simp [ho, Op.operands, Call.operands, hc]) hf)
          obtain ⟨h3, h4⟩ := opds_spec hF (hA.opds (fun x hx => by simp [ho, Op.operands, Call.operands]; exact .inr (by simpa using hx)) ha)
          refine ⟨?_, okL_append.2 ⟨okL_append.2 ⟨h2.1, h4⟩, h2.2⟩⟩
          simp only [resolve, hc, h1, den, Deferred.ofValue, eval_args h3]
        split at h
        · rename_i hadd
          rw [Bool.and_eq_true] at hadd
          obtain ⟨fn, e, p1, p2, p3, p4, p5, p6⟩ := hE.add g hadd.2 hadd.1
          unfold addS at h
          split at h
          · rename_i k1 x k2 y k3 cc heq
            split at h
            · cases h
            · rename_i hcc
              refine ⟨_, _, h, fun _ => ⟨[], by simp⟩, fun F' hA => .val fun C ρ a w hF hR => ?_⟩
              obtain ⟨r1, r2⟩ := hres F' hA C ρ a hF
              refine ⟨?_, by simp [SV.ok, SV.okL]⟩
              have hl : (denL ρ first).toArray ++ (denL ρ args).toArray ++ (denL ρ cap).toArray = #[.int k1 x, .int k2 y, .int k3 cc] := by
                have := congrArg (denL ρ) heq
                simp only [denL_append, denL, den] at this
                simp only [List.append_toArray, this]
              simp only [execOp, ho, r1, Sem.run_bind, Sem.run_pure, Result.andThen_ok, invoke, hl]
              rw [run_callFunc_extern p1 p2 p3 p4 p5, run_add64 p6 E.P w k1 k2 k3 x y cc hcc]
              simp [den, denL]
          · cases h
        · split at h
          · rename_i hsub
            rw [Bool.and_eq_true] at hsub
            obtain ⟨fn, e, p1, p2, p3, p4, p5, p6⟩ := hE.sub g hsub.2 hsub.1
            unfold subS at h
            split at h
            · rename_i k1 x k2 y k3 cc heq
              split at h
              · cases h
              · rename_i hcc
                refine ⟨_, _, h, fun _ => ⟨[], by simp⟩, fun F' hA => .val fun C ρ a w hF hR => ?_⟩
                obtain ⟨r1, r2⟩ := hres F' hA C ρ a hF
                refine ⟨?_, by simp [SV.ok, SV.okL]⟩
                have hl : (denL ρ first).toArray ++ (denL ρ args).toArray ++ (denL ρ cap).toArray = #[.int k1 x, .int k2 y, .int k3 cc] := by
                  have := congrArg (denL ρ) heq
                  simp only [denL_append, denL, den] at this
                  simp only [List.append_toArray, this]
                simp only [execOp, ho, r1, Sem.run_bind, Sem.run_pure, Result.andThen_ok, invoke, hl]
                rw [run_callFunc_extern p1 p2 p3 p4 p5, run_sub64 p6 E.P w k1 k2 k3 x y cc hcc]
                simp [den, denL]
            · cases h
          · split at h
            · rename_i fn hfn
              split at h
              · rename_i hb
                simp only [Bool.and_eq_true] at hb
                obtain ⟨v, H', hk, hS⟩ := hcall _ _ _ _ _ h
                refine ⟨v, H', hk, fun hw => absurd hw (by simp [isWr, ho, hc]), fun F' hA => ⟨hS.len, fun C ρ a w hF hR next Q hn => ?_⟩⟩
                obtain ⟨r1, r2⟩ := hres F' hA C ρ a hF
                have hcl := hS.run C ρ w hR r2
                have hne : fn.name ≠ "runtime.NumGoroutine" := by simpa using hb.2
                have hbn : fn.body ≠ none := by intro e; rw [e] at hb; simp at hb
                have hrun : (execOp a.eval o).run E.P w = .ok (.enter g (denL ρ (first ++ args ++ cap)).toArray) w := by
                  simp only [execOp, ho, r1, Sem.run_bind, Sem.run_pure, Result.andThen_ok, invoke, callFunc, run_program, hfn]
                  rw [if_neg (by simpa using hne), if_neg (by simpa using hbn)]
                  simp [denL_append]
                unfold Oper.wp
                rw [hrun]
                refine hcl.mono fun e w' hw => ?_
                obtain ⟨ρ', q1, q2, q3, q4⟩ := hw
                subst q2
                exact hn ρ' w' q1 q3 q4
              · cases h
            · cases h
      · cases h
    · -- len
      rename_i hc
      split at h
      · rename_i t x hat
        split at h
        · rename_i e hT
          obtain ⟨v, hv, h⟩ := bindO_some h
          refine ⟨_, _, h, fun _ => ⟨[], by simp⟩, fun F' hA => .val fun C ρ a w hF hR => ?_⟩
          obtain ⟨h3, h4⟩ := opds_spec hF (hA.opds (fun x hx => by simp [ho, Op.operands, Call.operands]; exact .inr (by simpa using hx)) ha)
          obtain ⟨b, n, cp, e1, e2⟩ := lenS_spec hv hR h4.1
          subst e2
          have harg : c.argTypes[0]? = some t := by rw [← Array.getElem?_toList, hat]; rfl
          refine ⟨?_, by simp [SV.ok]⟩
          simp only [denL, e1] at h3
          have h3' : c.args.map a.eval = #[.slice b n cp] := Array.toList_inj.1 (by simpa using h3)
          simp [execOp, ho, resolve, hc, invoke, builtin, Builtin.len_, h3', harg, run_underlying hT, goInt, den]
        · cases h
      · cases h
    · -- append
      rename_i hc
      split at h
      · rename_i t t' s x hat
        split at h
        · rename_i htt
          have htt := Nat.eq_of_beq_eq_true htt
          subst htt
          have hat' : c.argTypes = #[t, t] := Array.toList_inj.1 (by simpa using hat)
          split at h
          · rename_i e hT
            obtain ⟨κ, hκ, h⟩ := bindO_some h
            obtain ⟨inf, hinf, h⟩ := bindO_some h
            obtain ⟨z, hz, h⟩ := bindO_some h
            obtain ⟨⟨ex, ys⟩, hr, h⟩ := bindO_some h
            simp only at h
            split at h
            · rename_i hk
              obtain ⟨hk, hw, hby⟩ := hk
              obtain ⟨i, zv, g1, g2, g3, g4⟩ := zeroOf_spec E hE hz
              rw [hinf] at g1
              cases g1
              have hzs : zv.cells.size = inf.size := by
                have := segWidth_eq (ρ := fun _ => ⟨0, undef⟩) (g4 (fun _ => False) default (fun _ => ⟨0, undef⟩) 0)
                rw [g3] at this
                rw [← Nat.eq_of_beq_eq_true hw, ← this]; simp
              have hmem : ∀ x ∈ c.args.toList, x ∈ o.op.operands.toList := fun x hx => by simp [ho, Op.operands, Call.operands]; exact .inr (by simpa using hx)
              split at h
              · split at h
                · rename_i hb
                  exact ⟨_, _, h, fun _ => ⟨_, rfl⟩, fun F' hA => op_append_nil E ho hc hat' (hA.opds hmem ha) hT hinf g2 hzs hk (Nat.le_of_ble_eq_true hby) hr hb⟩
                · cases h
              · split at h
                · rename_i κ' xs e' ht
                  split at h
                  · rename_i he
                    subst he
                    split at h
                    · rename_i he
                      have he' := Nat.eq_of_beq_eq_true he.1
                      subst he'
                      split at h
                      · rename_i hb
                        exact ⟨_, _, h, fun hw => absurd hw (by simp only [isWr, ho, hc]; rw [notNil ha]; simp), fun F' hA => op_append_own E ho hc hat' (hA.opds hmem ha) hT hinf g2 hzs hk (Nat.le_of_ble_eq_true hby) ht hr hb⟩
                      · cases h
                    · cases h
                  · cases h
                · cases h
              · cases h
            · cases h
          · cases h
        · cases h
      · cases h
    · rename_i hc
      split at h
      · rename_i x l
        obtain ⟨v, hv, h⟩ := bindO_some h
        refine ⟨_, _, h, fun _ => ⟨[], by simp⟩, fun F' hA => .val fun C ρ a w hF hR => ?_⟩
        obtain ⟨h3, h4⟩ := opds_spec hF (hA.opds (fun x hx => by simp [ho, Op.operands, Call.operands]; exact .inr (by simpa using hx)) ha)
        have := minS_spec E _ _ _ hv ρ C.R C.w1 H.length w h4.1
        refine ⟨?_, this.2⟩
        simp only [denL] at h3
        have h3' : c.args.map a.eval = (den ρ x :: denL ρ l).toArray := Array.toList_inj.1 (by simpa using h3)
        simp only [execOp, ho, resolve, hc, Sem.run_bind, Sem.run_pure, Result.andThen_ok, invoke, builtin, Builtin.min_, h3', this.1]
      · cases h
    · rename_i hc
      split at h
      · rename_i x l
        obtain ⟨v, hv, h⟩ := bindO_some h
        refine ⟨_, _, h, fun _ => ⟨[], by simp⟩, fun F' hA => .val fun C ρ a w hF hR => ?_⟩
        obtain ⟨h3, h4⟩ := opds_spec hF (hA.opds (fun x hx => by simp [ho, Op.operands, Call.operands]; exact .inr (by simpa using hx)) ha)
        have := maxS_spec E _ _ _ hv ρ C.R C.w1 H.length w h4.1
        refine ⟨?_, this.2⟩
        simp only [denL] at h3
        have h3' : c.args.map a.eval = (den ρ x :: denL ρ l).toArray := Array.toList_inj.1 (by simpa using h3)
        simp only [execOp, ho, resolve, hc, Sem.run_bind, Sem.run_pure, Result.andThen_ok, invoke, builtin, Builtin.max_, h3', this.1]
      · cases h
    · cases h
  · cases h
end
end Go.Proofs.Ytkjellhkamfciaa.Sx
end

section
/- SX: forgetting what is not reached, and numbering the rest anew. -/
namespace Go.Proofs.Ytkjellhkamfciaa.Sx
open Go Go.RowKit

mutual
theorem ren_spec {R : Nat → Prop} {w : World} {n n' : Nat} {ρ ρ' : Nat → Tk} {g : Nat → Nat} : ∀ (v : SV), (∀ t, t ∈ v.toks → ρ' (g t) = ρ t ∧ g t < n') → v.ok R w ρ n → den ρ' (v.ren g) = den ρ v ∧ (v.ren g).ok R w ρ' n'
  | .ptr t _, h, _ => by have := h t (by simp [SV.toks]); simp only [SV.ren, den, SV.ok, this, and_self]
  | .aix t _ _ _ _, h, hv => by have := h t (by simp [SV.toks]); simp only [SV.ok] at hv; simp only [SV.ren, den, SV.ok, this, hv, and_self]
  | .pix t _ _ _, h, hv => by have := h t (by simp [SV.toks]); simp only [SV.ok] at hv; simp only [SV.ren, den, SV.ok, this.1]; exact ⟨trivial, this.2, hv.2⟩
  | .sl t, h, _ => by have := h t (by simp [SV.toks]); simp only [SV.ren, den, SV.ok, this, and_self]
  | .sub t _ _ _, h, hv => by have := h t (by simp [SV.toks]); simp only [SV.ok] at hv; simp only [SV.ren, den, SV.ok, this.1]; exact ⟨trivial, this.2, hv.2⟩
  | .rix _ _ _ _ _, _, hv => by simp only [SV.ren, den, SV.ok] at hv ⊢; exact ⟨trivial, hv⟩
  | .ros _ _ _, _, hv => by simp only [SV.ren, den, SV.ok] at hv ⊢; exact ⟨trivial, hv⟩
  | .fn _ a b, h, hv => by
    simp only [SV.toks, List.mem_append] at h
    simp only [SV.ok] at hv
    obtain ⟨h1, h2, _⟩ := renL_spec a (fun t ht => h t (.inl ht)) hv.1
    obtain ⟨h3, h4, _⟩ := renL_spec b (fun t ht => h t (.inr ht)) hv.2
    simp only [SV.ren, den, SV.ok, h1, h2, h3, h4, and_self]
  | .raw _, _, hv => by simp only [SV.ren, den, SV.ok] at hv ⊢; exact ⟨trivial, hv⟩
  | .arr _ _ _, _, hv => by simp only [SV.ren, den, SV.ok] at hv ⊢; exact ⟨trivial, hv⟩
  | .agg l, h, hv => by
    simp only [SV.toks] at h
    simp only [SV.ok] at hv
    obtain ⟨_, h2, h3⟩ := renL_spec l h hv
    simp only [SV.ren, den, SV.ok, h2, h3, and_self]
  | .tup l, h, hv => by
    simp only [SV.toks] at h
    simp only [SV.ok] at hv
    obtain ⟨h1, h2, _⟩ := renL_spec l h hv
    simp only [SV.ren, den, SV.ok, h1, h2, and_self]
  | .int _ _, _, _ => by simp only [SV.ren, den, SV.ok, and_self]
  | .bool _, _, _ => by simp only [SV.ren, den, SV.ok, and_self]
theorem renL_spec {R : Nat → Prop} {w : World} {n n' : Nat} {ρ ρ' : Nat → Tk} {g : Nat → Nat} : ∀ (l : List SV), (∀ t, t ∈ SV.toksL l → ρ' (g t) = ρ t ∧ g t < n') → SV.okL R w ρ n l → denL ρ' (SV.renL g l) = denL ρ l ∧ SV.okL R w ρ' n' (SV.renL g l) ∧ denC ρ' (SV.renL g l) = denC ρ l
  | [], _, _ => by simp only [SV.renL, denL, SV.okL, denC, and_self]
  | x :: l, h, hv => by
    simp only [SV.toksL, List.mem_append] at h
    simp only [SV.okL] at hv
    obtain ⟨h1, h2⟩ := ren_spec x (fun t ht => h t (.inl ht)) hv.1
    obtain ⟨h3, h4, h5⟩ := renL_spec l (fun t ht => h t (.inr ht)) hv.2
    simp only [SV.renL, denL, SV.okL, denC, h1, h2, h3, h4, h5, true_and, and_true]
    cases x <;> simp only [SV.ren, cell1]
end
mutual
theorem ok_of_toks {R : Nat → Prop} {w : World} {n n' : Nat} {ρ : Nat → Tk} : ∀ (v : SV), (∀ t, t ∈ v.toks → t < n') → v.ok R w ρ n → v.ok R w ρ n'
  | .ptr t _, h, _ => by have := h t (by simp [SV.toks]); simpa only [SV.ok] using this
  | .aix t _ _ _ _, h, hv => by have := h t (by simp [SV.toks]); simp only [SV.ok] at hv ⊢; exact ⟨this, hv.2⟩
  | .pix t _ _ _, h, hv => by have := h t (by simp [SV.toks]); simp only [SV.ok] at hv ⊢; exact ⟨this, hv.2⟩
  | .sl t, h, _ => by have := h t (by simp [SV.toks]); simpa only [SV.ok] using this
  | .sub t _ _ _, h, hv => by have := h t (by simp [SV.toks]); simp only [SV.ok] at hv ⊢; exact ⟨this, hv.2⟩
  | .rix _ _ _ _ _, _, hv => by simp only [SV.ok] at hv ⊢; exact hv
  | .ros _ _ _, _, hv => by simp only [SV.ok] at hv ⊢; exact hv
  | .fn _ a b, h, hv => by
    simp only [SV.toks, List.mem_append] at h
    simp only [SV.ok] at hv ⊢
    exact ⟨okL_of_toks a (fun t ht => h t (.inl ht)) hv.1, okL_of_toks b (fun t ht => h t (.inr ht)) hv.2⟩
  | .raw _, _, hv => by simp only [SV.ok] at hv ⊢; exact hv
  | .arr _ _ _, _, hv => by simp only [SV.ok] at hv ⊢; exact hv
  | .agg l, h, hv => by simp only [SV.ok] at hv ⊢; exact okL_of_toks l (by simpa only [SV.toks] using h) hv
  | .tup l, h, hv => by simp only [SV.ok] at hv ⊢; exact okL_of_toks l (by simpa only [SV.toks] using h) hv
  | .int _ _, _, _ => by simp only [SV.ok]
  | .bool _, _, _ => by simp only [SV.ok]
theorem okL_of_toks {R : Nat → Prop} {w : World} {n n' : Nat} {ρ : Nat → Tk} : ∀ (l : List SV), (∀ t, t ∈ SV.toksL l → t < n') → SV.okL R w ρ n l → SV.okL R w ρ n' l
  | [], _, _ => by simp only [SV.okL]
  | x :: l, h, hv => by
    simp only [SV.toksL, List.mem_append] at h
    simp only [SV.okL] at hv ⊢
    exact ⟨ok_of_toks x (fun t ht => h t (.inl ht)) hv.1, okL_of_toks l (fun t ht => h t (.inr ht)) hv.2⟩
end
theorem ren_leaves (g : Nat → Nat) : ∀ (l : List SV), leavesB (SV.renL g l) = leavesB l
  | [] => rfl
  | x :: l => by
    simp only [SV.renL, leavesB, ren_leaves g l]
    cases x <;> rfl

theorem memN_iff {t : Nat} : ∀ {l : List Nat}, memN t l = true ↔ t ∈ l
  | [] => by simp [memN]
  | x :: l => by
    simp only [memN, Bool.or_eq_true, memN_iff (l := l), List.mem_cons]
    constructor
    · rintro (h | h)
      · exact .inl (Nat.eq_of_beq_eq_true h).symm
      · exact .inr h
    · rintro (h | h)
      · exact .inl (by rw [h]; exact Nat.beq_refl _)
      · exact .inr h
theorem allIn_iff {base : Nat} {τ : List Nat} : ∀ {l : List Nat}, allIn base τ l = true → ∀ t ∈ l, t < base ∨ t ∈ τ
  | [], _, t, ht => by simp at ht
  | x :: l, h, t, ht => by
    simp only [allIn, Bool.and_eq_true, Bool.or_eq_true] at h
    rcases List.mem_cons.1 ht with rfl | ht
    · exact h.1.imp (fun h => Nat.le_of_ble_eq_true h) memN_iff.1
    · exact allIn_iff h.2 t ht
theorem nodupN_spec : ∀ {l : List Nat}, nodupN l = true → l.Nodup
  | [], _ => List.nodup_nil
  | x :: l, h => by
    simp only [nodupN, Bool.and_eq_true, Bool.not_eq_true'] at h
    refine List.nodup_cons.2 ⟨fun hm => ?_, nodupN_spec h.2⟩
    rw [memN_iff.2 hm] at h
    simp at h
theorem allGe_spec {base : Nat} : ∀ {l : List Nat}, allGe base l = true → ∀ t ∈ l, base ≤ t
  | [], _, t, ht => by simp at ht
  | x :: l, h, t, ht => by
    simp only [allGe, Bool.and_eq_true] at h
    rcases List.mem_cons.1 ht with rfl | ht
    · exact Nat.le_of_ble_eq_true h.1
    · exact allGe_spec h.2 t ht
theorem idxOf_spec {t : Nat} : ∀ {l : List Nat}, t ∈ l → l[idxOf t l]? = some t
  | [], h => by simp at h
  | x :: l, h => by
    unfold idxOf
    split
    · rename_i hb; simp [Nat.eq_of_beq_eq_true hb]
    · rename_i hb
      rcases List.mem_cons.1 h with rfl | h
      · rw [Nat.beq_refl] at hb; exact absurd rfl hb
      · simpa using idxOf_spec h
theorem pickAll_get {H : Hp} : ∀ {τ : List Nat} {objs : Hp}, pickAll H τ = some objs → objs.length = τ.length ∧ ∀ (i t : Nat), τ[i]? = some t → objs[i]? = H[t]? ∧ t < H.length
  | [], objs, h => by simp only [pickAll, Option.some.injEq] at h; subst h; simp
  | x :: τ, objs, h => by
    simp only [pickAll] at h
    split at h
    · rename_i o r ho hr
      cases h
      obtain ⟨h1, h2⟩ := pickAll_get hr
      refine ⟨by simp [h1], fun i t hi => ?_⟩
      cases i with
      | zero => simp at hi; subst hi; exact ⟨by simp [ho], (List.getElem?_eq_some_iff.1 ho).1⟩
      | succ i => simp at hi; simpa using h2 i t hi
    · cases h
theorem mem_hpToks {t : Nat} : ∀ {H : Hp} {i : Nat} {o : SObj}, H[i]? = some o → t ∈ o.toks → t ∈ hpToks H
  | [], i, o, h, _ => by simp at h
  | x :: H, 0, o, h, ht => by simp at h; subst h; simp [hpToks, ht]
  | x :: H, i + 1, o, h, ht => by simp at h; simp only [hpToks, List.mem_append]; exact .inr (mem_hpToks h ht)

theorem SObj.ok_of_toks {R : Nat → Prop} {w : World} {n n' : Nat} {ρ : Nat → Tk} {o : SObj} (h : ∀ t, t ∈ o.toks → t < n') (ho : o.ok R w ρ n) : o.ok R w ρ n' := by
  cases o with
  | cells l T => exact ⟨okL_of_toks l h ho.1, ho.2⟩
  | _ => trivial

/-- What a collection leaves: a heap that is worth as much, with tokens named anew. -/
theorem gc_spec {H H' : Hp} {base : Nat} {roots τ : List Nat} (h : gc H base roots = some (τ, H')) : base ≤ H.length ∧ base ≤ H'.length ∧
    ∀ (C : Cx) (ρ : Nat → Tk) (w : World), Rel C ρ H w → ∃ ρ' : Nat → Tk, (∀ t, t < base → ρ' t = ρ t) ∧ Rel C ρ' H' w ∧
      (τ = [] → ρ' = ρ ∧ ∀ t ∈ roots, t < H'.length) ∧ (τ ≠ [] → ∀ t ∈ roots, ρ' (gcMap base τ t) = ρ t ∧ gcMap base τ t < H'.length) := by
  unfold gc at h
  split at h
  · rename_i τ' hτ
    split at h
    · rename_i objs hobjs
      split at h
      · rename_i hc
        simp only [Bool.and_eq_true] at hc
        obtain ⟨⟨⟨⟨⟨c0, c1⟩, c2⟩, c3⟩, c4⟩, c5⟩ := hc
        have hb : base ≤ H.length := Nat.le_of_ble_eq_true c0
        have hnd := nodupN_spec c4
        have hge := allGe_spec c5
        obtain ⟨hol, hog⟩ := pickAll_get hobjs
        split at h
        · -- nothing is left above
          cases h
          have htl : (H.take base).length = base := by rw [List.length_take]; omega
          have hlt : ∀ t ∈ roots, t < base := fun t ht => by rcases allIn_iff c2 t ht with h | h; exact h; simp at h
          refine ⟨hb, by omega, fun C ρ w hR => ⟨ρ, fun _ _ => rfl, ?_, fun _ => ⟨rfl, fun t ht => by have := hlt t ht; omega⟩, fun h => absurd rfl h⟩⟩
          have hget : ∀ (t : Nat) (o : SObj), (H.take base)[t]? = some o → t < base ∧ H[t]? = some o := fun t o ho => by
            rw [List.getElem?_take] at ho
            split at ho
            · exact ⟨by assumption, ho⟩
            · cases ho
          have hblk : ∀ t b, blkOf ρ (H.take base) t = some b → blkOf ρ H t = some b := fun t b hb' => by
            obtain ⟨o, ho, h2⟩ := blkOf_get hb'
            rw [blkOf_eq (hget t o ho).2]; exact h2
          refine ⟨fun t o ho => hR.obj t o (hget t o ho).2, fun t t' b h1 h2 => hR.sep t t' b (hblk t b h1) (hblk t' b h2), fun t b h1 => hR.own t b (hblk t b h1), hR.hdr, hR.keep, hR.size, hR.os, hR.tape, hR.output, fun t o ho => ?_, hR.fit⟩
          refine SObj.ok_of_toks (fun s hs => ?_) (hR.ok t o (hget t o ho).2)
          rcases allIn_iff c1 s (mem_hpToks ho hs) with h | h
          · omega
          · simp at h
        · cases h
          have hne : τ ≠ [] := by assumption
          let orig : Nat → Nat := fun i => if i < base then i else (τ[i - base]?).getD 0
          have hg : ∀ t, (t < base ∨ t ∈ τ) → orig (gcMap base τ t) = t ∧ gcMap base τ t < base + τ.length := fun t ht => by
            by_cases hlt : t < base
            · have e : gcMap base τ t = t := by
                unfold gcMap; rw [if_pos (show Nat.blt t base = true from Nat.ble_eq_true_of_le hlt)]
              rw [e]; exact ⟨by simp [orig, hlt], by omega⟩
            · have hm : t ∈ τ := ht.resolve_left hlt
              have e : gcMap base τ t = base + idxOf t τ := by
                unfold gcMap; rw [if_neg (fun hb : Nat.blt t base = true => hlt (Nat.le_of_ble_eq_true hb))]
              have hi := idxOf_spec hm
              have hil := (List.getElem?_eq_some_iff.1 hi).1
              rw [e]
              refine ⟨?_, by omega⟩
              simp only [orig]
              rw [if_neg (by omega), show base + idxOf t τ - base = idxOf t τ by omega, hi]; rfl
          have hlen : (((H.take base) ++ objs).map (SObj.ren (gcMap base τ))).length = base + τ.length := by simp [hol]; omega
          have hget : ∀ (i : Nat) (o' : SObj), (((H.take base) ++ objs).map (SObj.ren (gcMap base τ)))[i]? = some o' → ∃ o, H[orig i]? = some o ∧ o' = o.ren (gcMap base τ) ∧ (∀ t ∈ o.toks, t < base ∨ t ∈ τ) := fun i o' ho => by
            rw [List.getElem?_map] at ho
            cases hq : (H.take base ++ objs)[i]? with
            | none => simp [hq] at ho
            | some o =>
              simp only [hq, Option.map_some, Option.some.injEq] at ho
              by_cases hi : i < base
              · have h1 : (H.take base)[i]? = some o := by rw [← hq, List.getElem?_append_left (by simp; omega)]
                refine ⟨o, ?_, ho.symm, fun t ht => allIn_iff c1 t (mem_hpToks h1 ht)⟩
                rw [List.getElem?_take, if_pos hi] at h1
                simp only [orig, if_pos hi]; exact h1
              · have h1 : objs[i - base]? = some o := by
                  rw [← hq, List.getElem?_append_right (by simp; omega)]; congr 1; simp; omega
                have hil : i - base < τ.length := by rw [← hol]; exact (List.getElem?_eq_some_iff.1 h1).1
                have h2 := hog (i - base) τ[i - base] (List.getElem?_eq_getElem hil)
                refine ⟨o, ?_, ho.symm, fun t ht => allIn_iff c3 t (mem_hpToks h1 ht)⟩
                simp only [orig, if_neg hi]
                rw [List.getElem?_eq_getElem hil, Option.getD_some, ← h2.1]; exact h1
          have hinj : ∀ i j, i < base + τ.length → j < base + τ.length → orig i = orig j → i = j := fun i j hi hj e => by
            simp only [orig] at e
            by_cases h1 : i < base <;> by_cases h2 : j < base
            · rw [if_pos h1, if_pos h2] at e; exact e
            · rw [if_pos h1, if_neg h2, List.getElem?_eq_getElem (show j - base < τ.length by omega), Option.getD_some] at e
              have := hge _ (List.getElem_mem (show j - base < τ.length by omega)); omega
            · rw [if_neg h1, if_pos h2, List.getElem?_eq_getElem (show i - base < τ.length by omega), Option.getD_some] at e
              have := hge _ (List.getElem_mem (show i - base < τ.length by omega)); omega
            · rw [if_neg h1, if_neg h2, List.getElem?_eq_getElem (show i - base < τ.length by omega), List.getElem?_eq_getElem (show j - base < τ.length by omega), Option.getD_some, Option.getD_some] at e
              have := (List.getElem_inj hnd).1 e
              omega
          refine ⟨hb, by omega, fun C ρ w hR => ?_⟩
          have hρ : ∀ t, (t < base ∨ t ∈ τ) → (fun i => ρ (orig i)) (gcMap base τ t) = ρ t ∧ gcMap base τ t < base + τ.length := fun t ht => ⟨by simp only [(hg t ht).1], (hg t ht).2⟩
          refine ⟨fun i => ρ (orig i), fun t ht => by simp only [orig, if_pos ht], ?_, fun h => absurd h hne, fun _ t ht => by rw [hlen]; exact hρ t (allIn_iff c2 t ht)⟩
          have hobjblk : ∀ (tk : Tk) (o : SObj), objBlk tk (o.ren (gcMap base τ)) = objBlk tk o := fun tk o => by cases o <;> rfl
          have hblk : ∀ i b, blkOf (fun i => ρ (orig i)) (((H.take base) ++ objs).map (SObj.ren (gcMap base τ))) i = some b → i < base + τ.length ∧ blkOf ρ H (orig i) = some b := fun i b hb' => by
            have hl := blkOf_lt_len hb'
            rw [hlen] at hl
            obtain ⟨o', ho', h2⟩ := blkOf_get hb'
            obtain ⟨o, g1, g2, _⟩ := hget i o' ho'
            refine ⟨hl, ?_⟩
            rw [blkOf_eq g1, ← hobjblk, ← g2]; exact h2
          refine ⟨fun i o' ho' => ?_, fun i j b h1 h2 => ?_, fun i b h1 => hR.own _ b (hblk i b h1).2, fun t => hR.hdr _, hR.keep, hR.size, hR.os, hR.tape, hR.output, fun i o' ho' => ?_, hR.fit⟩
          · obtain ⟨o, g1, g2, g3⟩ := hget i o' ho'
            have hob := hR.obj _ o g1
            have hok := hR.ok _ o g1
            subst g2
            cases o with
            | cells l T =>
              have := renL_spec (R := C.R) (w := C.w1) (ρ := ρ) (ρ' := fun i => ρ (orig i)) l (fun t ht => hρ t (g3 t ht)) hok.1
              simp only [SObj.ren, ObjRel] at hob ⊢
              rw [this.2.2]; exact hob
            | seq κ xs E => exact hob
            | dead => trivial
          · obtain ⟨l1, e1⟩ := hblk i b h1
            obtain ⟨l2, e2⟩ := hblk j b h2
            exact hinj i j l1 l2 (hR.sep _ _ b e1 e2)
          · obtain ⟨o, g1, g2, g3⟩ := hget i o' ho'
            have hok := hR.ok _ o g1
            subst g2
            rw [hlen]
            cases o with
            | cells l T =>
              have := renL_spec (R := C.R) (w := C.w1) (ρ := ρ) (ρ' := fun i => ρ (orig i)) l (fun t ht => hρ t (g3 t ht)) hok.1
              exact ⟨this.2.1, by rw [ren_leaves]; exact hok.2⟩
            | seq κ xs E => trivial
            | dead => trivial
      · cases h
    · cases h
  · cases h
end Go.Proofs.Ytkjellhkamfciaa.Sx
end

section
/- SX: the executor is sound: lists of operations, code, loops, calls. -/
namespace Go.Proofs.Ytkjellhkamfciaa.Sx
open Go Go.RowKit

def Ex.exit' : Ex → Exit
  | .normal => .normal
  | .exit id => .exit id
  | .ret => .ret

theorem FRel.next {C : Cx} {ρ ρ' : Nat → Tk} {n n' : Nat} {F : Fr} {tmps : Array Value} (h : FRel C ρ n F tmps) (hr : ∀ t, t < n → ρ' t = ρ t) (hn : n ≤ n') : FRel C ρ' n' F tmps :=
  ⟨h.size, fun i v hv => by
    obtain ⟨h1, h2⟩ := h.val i v hv
    exact ⟨by rw [den_agree hr v h2]; exact h1, ok_mono hn v (ok_agree hr v h2)⟩⟩
theorem FRel.set {C : Cx} {ρ : Nat → Tk} {n : Nat} {F : Fr} {tmps : Array Value} (h : FRel C ρ n F tmps) {d : Nat} {v : SV} (hv : v.ok C.R C.w1 ρ n) : FRel C ρ n (F.set d (some v)) (tmps.setIfInBounds d (den ρ v)) :=
  ⟨by simp [h.size], fun i u hu => by
    by_cases e : d = i
    · subst e
      by_cases hd : d < F.length
      · rw [List.getElem?_set_self hd] at hu
        cases hu
        exact ⟨by simp [h.size, hd], hv⟩
      · rw [List.getElem?_eq_none (by simp; omega)] at hu; cases hu
    · rw [List.getElem?_set_ne e] at hu
      obtain ⟨h1, h2⟩ := h.val i u hu
      exact ⟨by rw [Array.getElem?_setIfInBounds_ne e]; exact h1, h2⟩⟩
theorem FRel.put {C : Cx} {ρ : Nat → Tk} {n : Nat} {F : Fr} {a : Act} (h : FRel C ρ n F a.tmps) (dst : Option Tmp) {v : SV} (hv : v.ok C.R C.w1 ρ n) : FRel C ρ n (put F dst v) (a.put dst (den ρ v)).tmps := by
  cases dst with
  | none => exact h
  | some d => exact h.set hv
/-- A slot whose boolean is known is written out. -/
theorem FRel.same {C : Cx} {ρ : Nat → Tk} {n : Nat} {F : Fr} {tmps : Array Value} (h : FRel C ρ n F tmps) {d : Nat} {b c : Bool} (hd : F[d]? = some (some (.bool b))) (hbc : b = c) : FRel C ρ n (F.set d (some (.bool c))) tmps := by
  subst hbc
  have hl := (List.getElem?_eq_some_iff.1 hd).1
  have : F.set d (some (.bool b)) = F := by
    apply List.ext_getElem?
    intro i
    by_cases e : d = i
    · subst e; rw [List.getElem?_set_self hl, hd]
    · rw [List.getElem?_set_ne e]
  rw [this]; exact h

section
variable (E : Env) {α : Type}

/-- What one operation of a region does. -/
structure StepGood (P : Program) (ops : Array Oper) (o : Oper) (S S' : St) : Prop where
  len : S.H.length ≤ S'.H.length
  wp : ∀ (C : Cx) (ρ : Nat → Tk) (a : Act) (w : World), FRel C ρ S.H.length S.F a.tmps → Rel C ρ S.H w → ∀ (rest : List Oper) (Q : Exit → Act → World → Prop),
    (∀ ρ' a' w', (∀ t, t < S.H.length → ρ' t = ρ t) → a'.defers = a.defers → FRel C ρ' S'.H.length S'.F a'.tmps → Rel C ρ' S'.H w' → wpList P ops Q rest a' w') → wpList P ops Q (o :: rest) a w

theorem put_defers (a : Act) (d : Option Tmp) (v : Value) : (a.put d v).defers = a.defers := by cases d <;> rfl

theorem go_step {ops : Array Oper} {o : Oper} {S : St} {v : SV} {H' : Hp} (hg : OpGood E.P o S.F S.H v H') (hw : ∀ (C : Cx) (ρ : Nat → Tk) (a : Act), FRel C ρ S.H.length S.F a.tmps → Region.wanted o (yielded ops a.tmps) = true) :
    StepGood E.P ops o S ⟨put S.F o.dst v, H'⟩ :=
  ⟨hg.len, fun C ρ a w hF hR rest Q hn => by
    unfold wpList
    rw [if_pos (hw C ρ a hF)]
    refine .inl (hg.wp C ρ a w hF hR _ _ fun ρ' w' hr hR' hv => hn ρ' _ w' hr (put_defers a _ _) ?_ hR')
    exact (hF.next hr hg.len).put o.dst hv⟩
theorem skip_step {ops : Array Oper} {o : Oper} {S : St} (hw : ∀ (C : Cx) (ρ : Nat → Tk) (a : Act), FRel C ρ S.H.length S.F a.tmps → Region.wanted o (yielded ops a.tmps) = false) :
    StepGood E.P ops o S ⟨put S.F o.dst (.raw undef), S.H⟩ :=
  ⟨Nat.le_refl _, fun C ρ a w hF hR rest Q hn => by
    unfold wpList
    rw [if_neg (by rw [hw C ρ a hF]; exact Bool.false_ne_true)]
    exact hn ρ _ w (fun _ _ => rfl) (put_defers a _ _) (hF.put o.dst (v := .raw undef) (by simp [SV.ok, undef])) hR⟩
theorem StepGood.before {ops : Array Oper} {o : Oper} {S S1 S' : St} (h : StepGood E.P ops o S1 S') (hH : S1.H = S.H) (hF : ∀ (C : Cx) (ρ : Nat → Tk) (tmps : Array Value), FRel C ρ S.H.length S.F tmps → FRel C ρ S.H.length S1.F tmps) : StepGood E.P ops o S S' :=
  ⟨by rw [← hH]; exact h.len, fun C ρ a w h1 h2 rest Q hn => h.wp C ρ a w (by rw [hH]; exact hF C ρ _ h1) (by rw [hH]; exact h2) rest Q (by rw [hH]; exact hn)⟩

theorem yielded_of {ops : Array Oper} {tmps : Array Value} {j d : Nat} (hd : (ops[j]?).bind (·.dst) = some d) : yielded ops tmps j = match tmps[d]? with | some (.bool b) => some b | _ => none := by
  unfold yielded; rw [hd]; rfl

theorem op1_sound (hE : EnvOk E) {callf : CallF α} (hcall : CallOk E.P callf) (ops : Array Oper) (o : Oper) (S : St) (K : St → Option α) (r : α) (h : op1 E callf ops o S K = some r) :
    ∃ S', K S' = some r ∧ StepGood E.P ops o S S' := by
  unfold op1 at h
  simp only at h
  have go : ∀ (S : St), opS E callf o S.F S.H (fun v H => K ⟨put S.F o.dst v, H⟩) = some r → (∀ (C : Cx) (ρ : Nat → Tk) (a : Act), FRel C ρ S.H.length S.F a.tmps → Region.wanted o (yielded ops a.tmps) = true) → ∃ S', K S' = some r ∧ StepGood E.P ops o S S' := by
    intro S h hw
    obtain ⟨v, H', hk, _, hg⟩ := opS_sound E hE hcall o S.F S.H _ r h
    exact ⟨_, hk, go_step E (hg _ (.refl _ _)) hw⟩
  split at h
  · rename_i hgd
    exact go S h fun C ρ a _ => by simp [Region.wanted, hgd]
  · rename_i j want hgd
    split at h
    · rename_i b d hgo
      -- the boolean's slot
      unfold guardOf at hgo
      split at hgo
      · rename_i d' hd'
        have hslot : d' = d ∧ S.F[d]? = some (some (.bool b)) := by
          split at hgo
          · rename_i hb; cases hgo; exact ⟨rfl, hb⟩
          · cases hgo
          · cases hgo
        obtain ⟨rfl, hsl⟩ := hslot
        have hy : ∀ (C : Cx) (ρ : Nat → Tk) (a : Act), FRel C ρ S.H.length S.F a.tmps → yielded ops a.tmps j = some b := fun C ρ a hF => by
          rw [yielded_of hd', (hF.val d' _ hsl).1]; rfl
        split at h
        · rename_i hb
          split at h
          · rename_i hwt
            obtain ⟨S', hk, hg⟩ := go ⟨S.F.set d' (some (.bool true)), S.H⟩ h fun C ρ a hF => by
              have h1 := (hF.val d' (.bool true) (List.getElem?_set_self (List.getElem?_eq_some_iff.1 hsl).1)).1
              simp only [Region.wanted, hgd, yielded_of hd', h1, den, hwt]; rfl
            exact ⟨S', hk, hg.before E rfl fun C ρ t hF => hF.same hsl hb⟩
          · rename_i hwt
            have := skip_step E (ops := ops) (o := o) (S := ⟨S.F.set d' (some (.bool true)), S.H⟩) fun C ρ a hF => by
              have h1 := (hF.val d' (.bool true) (List.getElem?_set_self (List.getElem?_eq_some_iff.1 hsl).1)).1
              simp only [Region.wanted, hgd, yielded_of hd', h1, den]
              cases want <;> simp_all
            exact ⟨_, h, this.before E rfl fun C ρ t hF => hF.same hsl hb⟩
        · rename_i hb
          have hb' : b = false := by simpa using hb
          split at h
          · rename_i hwt
            have := skip_step E (ops := ops) (o := o) (S := ⟨S.F.set d' (some (.bool false)), S.H⟩) fun C ρ a hF => by
              have h1 := (hF.val d' (.bool false) (List.getElem?_set_self (List.getElem?_eq_some_iff.1 hsl).1)).1
              simp only [Region.wanted, hgd, yielded_of hd', h1, den, hwt]; rfl
            exact ⟨_, h, this.before E rfl fun C ρ t hF => hF.same hsl hb'⟩
          · rename_i hwt
            obtain ⟨S', hk, hg⟩ := go ⟨S.F.set d' (some (.bool false)), S.H⟩ h fun C ρ a hF => by
              have h1 := (hF.val d' (.bool false) (List.getElem?_set_self (List.getElem?_eq_some_iff.1 hsl).1)).1
              simp only [Region.wanted, hgd, yielded_of hd', h1, den]
              cases want <;> simp_all
            exact ⟨S', hk, hg.before E rfl fun C ρ t hF => hF.same hsl hb'⟩
      · cases hgo
    · rename_i hgo
      unfold guardOf at hgo
      split at hgo
      · rename_i d' hd'
        split at hgo
        · cases hgo
        · rename_i vs hsl
          refine ⟨_, h, skip_step E fun C ρ a hF => ?_⟩
          simp only [Region.wanted, hgd, yielded_of hd', (hF.val d' _ hsl).1, den]
          cases want <;> rfl
        · cases hgo
      · cases hgo
    · cases h

theorem opsL_sound (hE : EnvOk E) {callf : CallF α} (hcall : CallOk E.P callf) (ops : Array Oper) : ∀ (l : List Oper) (S : St) (K : St → Option α) (r : α), opsL E callf ops l S K = some r →
    ∃ S', K S' = some r ∧ S.H.length ≤ S'.H.length ∧ ∀ (C : Cx) (ρ : Nat → Tk) (a : Act) (w : World), FRel C ρ S.H.length S.F a.tmps → Rel C ρ S.H w → ∀ (Q : Exit → Act → World → Prop),
      (∀ ρ' a' w', (∀ t, t < S.H.length → ρ' t = ρ t) → a'.defers = a.defers → FRel C ρ' S'.H.length S'.F a'.tmps → Rel C ρ' S'.H w' → Q .normal a' w') → wpList E.P ops Q l a w
  | [], S, K, r, h => ⟨S, h, Nat.le_refl _, fun C ρ a w hF hR Q hn => hn ρ a w (fun _ _ => rfl) rfl hF hR⟩
  | o :: l, S, K, r, h => by
    simp only [opsL] at h
    obtain ⟨S1, h1, g1⟩ := op1_sound E hE hcall ops o S _ r h
    obtain ⟨S2, h2, l2, g2⟩ := opsL_sound hE hcall ops l S1 K r h1
    refine ⟨S2, h2, Nat.le_trans g1.len l2, fun C ρ a w hF hR Q hn => g1.wp C ρ a w hF hR l Q fun ρ' a' w' hr hd hF' hR' => ?_⟩
    refine g2 C ρ' a' w' hF' hR' Q fun ρ2 a2 w2 hr2 hd2 hF2 hR2 => hn ρ2 a2 w2 (fun t ht => ?_) (hd2.trans hd) hF2 hR2
    rw [hr2 t (Nat.lt_of_lt_of_le ht g1.len), hr t ht]

/-- What a piece of code does. -/
structure CodeGood (P : Program) (base : Nat) (c : Code) (S : St) (e : Ex) (S' : St) : Prop where
  len : base ≤ S'.H.length
  wp : ∀ (C : Cx) (ρ : Nat → Tk) (a : Act) (w : World), a.defers = [] → FRel C ρ S.H.length S.F a.tmps → Rel C ρ S.H w →
    c.wp P (fun ex a' w' => ex = e.exit' ∧ ∃ ρ', a'.defers = [] ∧ FRel C ρ' S'.H.length S'.F a'.tmps ∧ Rel C ρ' S'.H w' ∧ ∀ t, t < base → ρ' t = ρ t) a w

/-- The code that stands at a path of a function. -/
def Stands (P : Program) (fid : FuncId) (path : List Bool) (c : Code) : Prop := ∃ (fn : Func) (body : Code), P.funcs[fid]? = some fn ∧ fn.body = some body ∧ sub body path = some c
def RunOk (P : Program) (run : RunF α) : Prop :=
  ∀ fid path base c S K r, Stands P fid path c → base ≤ S.H.length → run fid path base c S K = some r → ∃ e S', K e S' = some r ∧ CodeGood P base c S e S'

def LookOk (P : Program) (look : LookF α) : Prop :=
  ∀ f c args H K r, look f = some c → c args H K = some r → ∃ v H', K v H' = some r ∧ Sound P f args H v H'

/-- The loops that are known: what each does, wherever it stands. -/
def LoopsOk (P : Program) (lps : LookL α) : Prop :=
  ∀ fid path base S l, lps fid path base S = some l → ∀ c, Stands P fid path (.loop c) →
    ∀ K r, base ≤ S.H.length → l K = some r → ∃ e S', K e S' = some r ∧ CodeGood P base (.loop c) S e S'

theorem resVals_spec {H : Hp} {F : Fr} {C : Cx} {ρ : Nat → Tk} {tmps : Array Value} {w : World} (hF : FRel C ρ H.length F tmps) (hR : Rel C ρ H w) : ∀ (l : List ResultVar) (vs : List SV), resVals E H F l = some vs →
    (l.mapM (m := Sem) fun
      | .tmp t => pure (tmps.getD t undef)
      | .cell a t => do loadVar t (← asAddr (tmps.getD a undef))).run E.P w = .ok (denL ρ vs) w ∧ SV.okL C.R C.w1 ρ H.length vs
  | [], vs, h => by simp only [resVals, Option.some.injEq] at h; subst h; simp [denL, SV.okL]
  | .tmp t :: l, vs, h => by
    simp only [resVals] at h
    split at h
    · rename_i a b ha hb
      cases h
      obtain ⟨h1, h2⟩ := resVals_spec hF hR l b hb
      have hs : F[t]? = some (some a) := by
        cases hq : F[t]? with
        | none => simp [hq] at ha
        | some y => cases y <;> simp_all
      obtain ⟨g1, g2⟩ := hF.val t a hs
      refine ⟨?_, ⟨g2, h2⟩⟩
      have hgd : tmps.getD t undef = den ρ a := by rw [Array.getD_eq_getD_getElem?, g1]; rfl
      simp only [List.mapM_cons, Sem.run_bind, Sem.run_pure, Result.andThen_ok, h1, denL, hgd]
    · cases h
  | .cell p T :: l, vs, h => by
    simp only [resVals] at h
    split at h
    · rename_i a b ha hb
      cases hv : loadAt E H T a with
      | none => simp [hv] at h
      | some v =>
        simp only [hv, Option.map_some, Option.some.injEq] at h
        subst h
        obtain ⟨h1, h2⟩ := resVals_spec hF hR l b hb
        have hs : F[p]? = some (some a) := by
          cases hq : F[p]? with
          | none => simp [hq] at ha
          | some y => cases y <;> simp_all
        obtain ⟨g1, g2⟩ := hF.val p a hs
        obtain ⟨ad, e1, e2, e3⟩ := loadAt_spec E hv hR g2
        refine ⟨?_, ⟨e3, h2⟩⟩
        have hgd : tmps.getD p undef = .pointer (some ad) := by rw [Array.getD_eq_getD_getElem?, g1]; exact e1
        have has : asAddr (.pointer (some ad)) = (pure ad : Sem Addr) := rfl
        simp only [List.mapM_cons, Sem.run_bind, Sem.run_pure, Result.andThen_ok, h1, denL, hgd, has, e2]
    · cases h
theorem resOf_spec {H : Hp} {F : Fr} {C : Cx} {ρ : Nat → Tk} {tmps : Array Value} {w : World} (hF : FRel C ρ H.length F tmps) (hR : Rel C ρ H w) {fn : Func} {v : SV} (h : resOf E H F fn.results = some v) :
    (results fn tmps).run E.P w = .ok (den ρ v) w ∧ v.ok C.R C.w1 ρ H.length := by
  unfold resOf at h
  obtain ⟨l, hl, h⟩ := bindO_some h
  obtain ⟨h1, h2⟩ := resVals_spec E hF hR _ _ hl
  have hrun : (fn.results.mapM (m := Sem) fun
      | .tmp t => pure (tmps.getD t undef)
      | .cell a t => do loadVar t (← asAddr (tmps.getD a undef))).run E.P w = .ok (denL ρ l).toArray w := by
    rw [Array.mapM_eq_mapM_toList, Sem.run_map, h1]; rfl
  have hres : (results fn tmps).run E.P w = .ok (if hh : (denL ρ l).toArray.size = 1 then (denL ρ l).toArray[0] else .tuple (denL ρ l).toArray) w := by
    unfold results
    refine (Sem.run_bind _ _ _ _).trans ?_
    exact (congrArg (fun x => Result.andThen x _) hrun).trans rfl
  rw [hres]
  split at h
  · rename_i x
    cases h
    simp only [SV.okL] at h2
    exact ⟨by simp [denL], h2.1⟩
  · rename_i hne
    cases h
    refine ⟨?_, by simpa [SV.ok] using h2⟩
    rw [dif_neg]
    · rfl
    · rw [List.size_toArray, denL_length]
      intro hc
      rcases l with _ | ⟨x, _ | ⟨y, l⟩⟩
      · simp at hc
      · exact hne _ rfl
      · simp at hc

theorem junked_rel {C : Cx} {ρ : Nat → Tk} {n : Nat} {tmps : Array Value} : ∀ (J : List Nat) (F : Fr), FRel C ρ n F tmps → FRel C ρ n (junked J F) tmps
  | [], F, h => h
  | d :: J, F, h => by
    refine junked_rel J (F.set d none) ⟨by simp [h.size], fun i v hv => h.val i v ?_⟩
    by_cases e : d = i
    · subst e
      by_cases hd : d < F.length
      · rw [List.getElem?_set_self hd] at hv; cases hv
      · rw [List.getElem?_eq_none (by simp; omega)] at hv; cases hv
    · rwa [List.getElem?_set_ne e] at hv

/-- A state that is worth as much as another one. -/
structure SameGood (base : Nat) (S S' : St) : Prop where
  len : base ≤ S'.H.length
  rel : ∀ (C : Cx) (ρ : Nat → Tk) (tmps : Array Value) (w : World), FRel C ρ S.H.length S.F tmps → Rel C ρ S.H w → ∃ ρ', (∀ t, t < base → ρ' t = ρ t) ∧ FRel C ρ' S'.H.length S'.F tmps ∧ Rel C ρ' S'.H w

theorem mem_frToks {t : Nat} {v : SV} : ∀ {F : Fr} {i : Nat}, F[i]? = some (some v) → t ∈ v.toks → t ∈ frToks F
  | [], i, h, _ => by simp at h
  | x :: F, 0, h, ht => by simp at h; subst h; simp [frToks, ht]
  | none :: F, i + 1, h, ht => by simp at h; simp only [frToks]; exact mem_frToks h ht
  | some u :: F, i + 1, h, ht => by simp at h; simp only [frToks, List.mem_append]; exact .inr (mem_frToks h ht)
theorem frRen_get (g : Nat → Nat) : ∀ {F : Fr} {i : Nat} {v : SV}, (frRen g F)[i]? = some (some v) → ∃ u, F[i]? = some (some u) ∧ v = u.ren g
  | [], i, v, h => by simp [frRen] at h
  | none :: F, 0, v, h => by simp [frRen] at h
  | some u :: F, 0, v, h => by simp [frRen] at h; exact ⟨u, rfl, h.symm⟩
  | none :: F, i + 1, v, h => by simp only [frRen, List.getElem?_cons_succ] at h; simpa using frRen_get g h
  | some u :: F, i + 1, v, h => by simp only [frRen, List.getElem?_cons_succ] at h; simpa using frRen_get g h
theorem frRen_length (g : Nat → Nat) : ∀ (F : Fr), (frRen g F).length = F.length
  | [] => rfl
  | none :: F => by simp [frRen, frRen_length g F]
  | some u :: F => by simp [frRen, frRen_length g F]

theorem gcSt_sound {base : Nat} {S : St} {K : St → Option α} {r : α} (h : gcSt base S K = some r) : ∃ S', K S' = some r ∧ SameGood base S S' := by
  unfold gcSt at h
  split at h
  · rename_i H hg
    obtain ⟨_, h2, h3⟩ := gc_spec hg
    refine ⟨_, h, h2, fun C ρ tmps w hF hR => ?_⟩
    obtain ⟨ρ', e1, e2, e3, _⟩ := h3 C ρ w hR
    obtain ⟨rfl, e4⟩ := e3 rfl
    exact ⟨ρ', e1, ⟨hF.size, fun i v hv => ⟨(hF.val i v hv).1, ok_of_toks v (fun t ht => e4 t (mem_frToks hv ht)) (hF.val i v hv).2⟩⟩, e2⟩
  · rename_i τ H hne hg
    obtain ⟨_, h2, h3⟩ := gc_spec hg
    refine ⟨_, h, h2, fun C ρ tmps w hF hR => ?_⟩
    obtain ⟨ρ', e1, e2, _, e3⟩ := h3 C ρ w hR
    have e3 := e3 (fun e => hne e)
    refine ⟨ρ', e1, ⟨by rw [frRen_length]; exact hF.size, fun i v hv => ?_⟩, e2⟩
    obtain ⟨u, g1, rfl⟩ := frRen_get _ hv
    obtain ⟨p1, p2⟩ := hF.val i u g1
    obtain ⟨q1, q2⟩ := ren_spec (ρ' := ρ') (n' := List.length H) u (fun t ht => e3 t (mem_frToks g1 ht)) p2
    exact ⟨by rw [q1]; exact p1, q2⟩
  · cases h

theorem killAt_get (τ : List Nat) : ∀ (H : Hp) (k i : Nat), (killAt τ k H)[i]? = (H[i]?).map fun o => if memN (k + i) τ then .dead else o
  | [], k, i => by simp [killAt]
  | o :: H, k, 0 => by simp [killAt]
  | o :: H, k, i + 1 => by
    simp only [killAt, List.getElem?_cons_succ]
    rw [killAt_get τ H (k + 1) i, show k + 1 + i = k + (i + 1) by omega]
theorem killAt_length (τ : List Nat) : ∀ (H : Hp) (k : Nat), (killAt τ k H).length = H.length
  | [], k => rfl
  | o :: H, k => by simp [killAt, killAt_length τ H (k + 1)]
theorem ltAll_spec {n : Nat} : ∀ {l : List Nat}, ltAll n l = true → ∀ t ∈ l, t < n
  | [], _, t, h => by simp at h
  | x :: l, h, t, ht => by
    simp only [ltAll, Bool.and_eq_true] at h
    rcases List.mem_cons.1 ht with rfl | ht
    · exact Nat.le_of_ble_eq_true h.1
    · exact ltAll_spec h.2 t ht
theorem fresh_spec {H : Hp} {τ : List Nat} {objs : Hp} (hobjs : pickAll H τ = some objs) (hnd : τ.Nodup) (hc1 : ∀ t ∈ hpToks H, t < H.length) (hc3 : ∀ t ∈ hpToks objs, t < H.length) :
    ∀ (C : Cx) (ρ : Nat → Tk) (w : World), Rel C ρ H w → ∃ ρ' : Nat → Tk, (∀ t, t < H.length → ρ' t = ρ t) ∧ Rel C ρ' ((killAt τ 0 H ++ objs).map (SObj.ren (frMap H.length τ))) w ∧
      (∀ t, t < H.length → ρ' (frMap H.length τ t) = ρ t ∧ frMap H.length τ t < H.length + τ.length) := by
  obtain ⟨hol, hog⟩ := pickAll_get hobjs
  let orig : Nat → Nat := fun i => if i < H.length then i else (τ[i - H.length]?).getD 0
  have hg : ∀ t, t < H.length → orig (frMap H.length τ t) = t ∧ frMap H.length τ t < H.length + τ.length := fun t ht => by
    unfold frMap
    by_cases hm : memN t τ = true
    · have hi := idxOf_spec (memN_iff.1 hm)
      have hil := (List.getElem?_eq_some_iff.1 hi).1
      rw [if_pos hm]
      refine ⟨?_, by omega⟩
      simp only [orig]
      rw [if_neg (by omega), show H.length + idxOf t τ - H.length = idxOf t τ by omega, hi]; rfl
    · rw [if_neg hm]
      exact ⟨by simp [orig, ht], by omega⟩
  have hlen : ((killAt τ 0 H ++ objs).map (SObj.ren (frMap H.length τ))).length = H.length + τ.length := by simp [hol, killAt_length]
  -- what stands at a place: nothing (dead), or what stood at its origin
  have hget : ∀ (i : Nat) (o' : SObj), ((killAt τ 0 H ++ objs).map (SObj.ren (frMap H.length τ)))[i]? = some o' →
      o' = .dead ∨ ((i < H.length → memN i τ = false) ∧ ∃ o, H[orig i]? = some o ∧ o' = o.ren (frMap H.length τ) ∧ (∀ t ∈ o.toks, t < H.length)) := fun i o' ho => by
    rw [List.getElem?_map] at ho
    cases hq : (killAt τ 0 H ++ objs)[i]? with
    | none => simp [hq] at ho
    | some o =>
      simp only [hq, Option.map_some, Option.some.injEq] at ho
      by_cases hi : i < H.length
      · have h1 : (killAt τ 0 H)[i]? = some o := by rw [← hq, List.getElem?_append_left (by rw [killAt_length]; exact hi)]
        rw [killAt_get, Nat.zero_add] at h1
        cases hH : H[i]? with
        | none => simp [hH] at h1
        | some o0 =>
          simp only [hH, Option.map_some, Option.some.injEq] at h1
          cases hm : memN i τ with
          | true => rw [hm, if_pos rfl] at h1; subst h1; exact .inl ho.symm
          | false =>
            rw [hm] at h1
            simp only [Bool.false_eq_true, if_false] at h1
            subst h1
            exact .inr ⟨fun _ => rfl, o0, by simp only [orig, if_pos hi]; exact hH, ho.symm, fun t ht => hc1 t (mem_hpToks hH ht)⟩
      · have h1 : objs[i - H.length]? = some o := by
          rw [← hq, List.getElem?_append_right (by rw [killAt_length]; omega), killAt_length]
        have hil : i - H.length < τ.length := by rw [← hol]; exact (List.getElem?_eq_some_iff.1 h1).1
        have h2 := hog (i - H.length) τ[i - H.length] (List.getElem?_eq_getElem hil)
        refine .inr ⟨fun h => absurd h hi, o, ?_, ho.symm, fun t ht => hc3 t (mem_hpToks h1 ht)⟩
        simp only [orig, if_neg hi]
        rw [List.getElem?_eq_getElem hil, Option.getD_some, ← h2.1]; exact h1
  intro C ρ w hR
  have hρ : ∀ t, t < H.length → (fun i => ρ (orig i)) (frMap H.length τ t) = ρ t ∧ frMap H.length τ t < H.length + τ.length := fun t ht => ⟨by simp only [(hg t ht).1], (hg t ht).2⟩
  refine ⟨fun i => ρ (orig i), fun t ht => by simp only [orig, if_pos ht], ?_, hρ⟩
  have hobjblk : ∀ (tk : Tk) (o : SObj), objBlk tk (o.ren (frMap H.length τ)) = objBlk tk o := fun tk o => by cases o <;> rfl
  have hblk : ∀ i b, blkOf (fun i => ρ (orig i)) ((killAt τ 0 H ++ objs).map (SObj.ren (frMap H.length τ))) i = some b → i < H.length + τ.length ∧ (i < H.length → memN i τ = false) ∧ blkOf ρ H (orig i) = some b := fun i b hb' => by
    have hl := blkOf_lt_len hb'
    rw [hlen] at hl
    obtain ⟨o', ho', h2⟩ := blkOf_get hb'
    rcases hget i o' ho' with rfl | ⟨g0, o, g1, g2, _⟩
    · simp [objBlk] at h2
    refine ⟨hl, g0, ?_⟩
    rw [blkOf_eq g1, ← hobjblk, ← g2]; exact h2
  have hτ : ∀ i, ¬ i < H.length → i < H.length + τ.length → orig i ∈ τ := fun i h1 h2 => by
    simp only [orig, if_neg h1]
    rw [List.getElem?_eq_getElem (show i - H.length < τ.length by omega), Option.getD_some]
    exact List.getElem_mem _
  refine ⟨fun i o' ho' => ?_, fun i j b h1 h2 => ?_, fun i b h1 => hR.own _ b (hblk i b h1).2.2, fun t => hR.hdr _, hR.keep, hR.size, hR.os, hR.tape, hR.output, fun i o' ho' => ?_, hR.fit⟩
  · rcases hget i o' ho' with rfl | ⟨_, o, g1, g2, g3⟩
    · trivial
    have hob := hR.obj _ o g1
    have hok := hR.ok _ o g1
    subst g2
    cases o with
    | cells l T =>
      have := renL_spec (R := C.R) (w := C.w1) (ρ := ρ) (ρ' := fun i => ρ (orig i)) l (fun t ht => hρ t (g3 t ht)) hok.1
      simp only [SObj.ren, ObjRel] at hob ⊢
      rw [this.2.2]; exact hob
    | seq κ xs E => exact hob
    | dead => trivial
  · obtain ⟨l1, m1, e1⟩ := hblk i b h1
    obtain ⟨l2, m2, e2⟩ := hblk j b h2
    have e := hR.sep _ _ b e1 e2
    by_cases hi : i < H.length <;> by_cases hj : j < H.length
    · simp only [orig, if_pos hi, if_pos hj] at e; exact e
    · exfalso
      have := hτ j hj l2
      rw [← e] at this
      simp only [orig, if_pos hi] at this
      have := memN_iff.2 this
      rw [m1 hi] at this; cases this
    · exfalso
      have := hτ i hi l1
      rw [e] at this
      simp only [orig, if_pos hj] at this
      have := memN_iff.2 this
      rw [m2 hj] at this; cases this
    · simp only [orig, if_neg hi, if_neg hj] at e
      rw [List.getElem?_eq_getElem (show i - H.length < τ.length by omega), List.getElem?_eq_getElem (show j - H.length < τ.length by omega), Option.getD_some, Option.getD_some] at e
      have := (List.getElem_inj hnd).1 e
      omega
  · rw [hlen]
    rcases hget i o' ho' with rfl | ⟨_, o, g1, g2, g3⟩
    · trivial
    have hok := hR.ok _ o g1
    subst g2
    cases o with
    | cells l T =>
      have := renL_spec (R := C.R) (w := C.w1) (ρ := ρ) (ρ' := fun i => ρ (orig i)) l (fun t ht => hρ t (g3 t ht)) hok.1
      exact ⟨this.2.1, by rw [ren_leaves]; exact hok.2⟩
    | seq κ xs E => trivial
    | dead => trivial
theorem freshSt_sound {b : Bool} {S : St} {K : St → Option α} {r : α} (h : freshSt b S K = some r) : ∃ S', K S' = some r ∧ SameGood S.H.length S S' := by
  unfold freshSt at h
  split at h
  · split at h
    · rename_i ts _
      split at h
      · rename_i objs hobjs
        split at h
        · rename_i hc
          simp only [Bool.and_eq_true] at hc
          obtain ⟨⟨⟨c1, c2⟩, c3⟩, c4⟩ := hc
          have hs := fresh_spec hobjs (nodupN_spec c1) (ltAll_spec c2) (ltAll_spec c3)
          refine ⟨_, h, by simp [killAt_length], fun C ρ tmps w hF hR => ?_⟩
          obtain ⟨ρ', e1, e2, e3⟩ := hs C ρ w hR
          have hlen : ((killAt (seqsIn S.H ts) 0 S.H ++ objs).map (SObj.ren (frMap S.H.length (seqsIn S.H ts)))).length = S.H.length + (seqsIn S.H ts).length := by simp [(pickAll_get hobjs).1, killAt_length]
          refine ⟨ρ', e1, ⟨by rw [frRen_length]; exact hF.size, fun i v hv => ?_⟩, e2⟩
          obtain ⟨u, g1, rfl⟩ := frRen_get _ hv
          obtain ⟨p1, p2⟩ := hF.val i u g1
          obtain ⟨q1, q2⟩ := ren_spec (ρ' := ρ') (n' := S.H.length + (seqsIn S.H ts).length) u (fun t ht => e3 t (ltAll_spec c4 t (mem_frToks g1 ht))) p2
          exact ⟨by rw [q1]; exact p1, by rw [hlen]; exact q2⟩
        · cases h
      · cases h
    · cases h
  · exact ⟨S, h, Nat.le_refl _, fun C ρ tmps w hF hR => ⟨ρ, fun _ _ => rfl, hF, hR⟩⟩

theorem cleanL_sound {fid : FuncId} {path : List Bool} {base : Nat} {S : St} {K : St → Option α} {r : α} (h : cleanL E fid path base S K = some r) : ∃ S', K S' = some r ∧ SameGood base S S' := by
  obtain ⟨S', h1, h2⟩ := gcSt_sound h
  exact ⟨S', h1, h2.len, fun C ρ tmps w hF hR => h2.rel C ρ tmps w (junked_rel _ _ hF) hR⟩

theorem cleanX_sound {fid : FuncId} {path : List Bool} {base : Nat} {S : St} {K : St → Option α} {r : α} (h : cleanX E fid path base S K = some r) : ∃ S', K S' = some r ∧ SameGood base S S' := by
  obtain ⟨S', h1, h2⟩ := gcSt_sound h
  exact ⟨S', h1, h2.len, fun C ρ tmps w hF hR => h2.rel C ρ tmps w (junked_rel _ _ hF) hR⟩

theorem callI_sound {look : LookF α} {run : RunF α} (hlook : LookOk E.P look) (hrun : RunOk E.P run) : CallOk E.P (callI E look run) := by
  intro f args H K r h
  unfold callI at h
  split at h
  · rename_i c hc
    exact hlook f c args H K r hc h
  · split at h
    · rename_i fn hfn
      split at h
      · rename_i c hc
        split at h
        · rename_i hle
          have hle' := Nat.le_of_ble_eq_true hle
          obtain ⟨S0, h, hg0⟩ := freshSt_sound h
          obtain ⟨e, S', h1, hg1⟩ := hrun f [] H.length c S0 _ r ⟨fn, c, hfn, hc, rfl⟩ hg0.len h
          have hg : CodeGood E.P H.length c ⟨enterF fn.ntmps args, H⟩ e S' := ⟨hg1.len, fun C ρ a w hd hF hR => by
            obtain ⟨ρ1, q1, q2, q3⟩ := hg0.rel C ρ a.tmps w hF hR
            refine wp_mono (hg1.wp C ρ1 a w hd q2 q3) fun ex a' w' hp => ?_
            obtain ⟨p1, ρ', p2, p3, p4, p5⟩ := hp
            exact ⟨p1, ρ', p2, p3, p4, fun t ht => by rw [p5 t ht, q1 t ht]⟩⟩
          have hex : (e = .normal ∨ e = .ret) ∧ (bindO (resOf E S'.H S'.F fn.results) fun v => gcRet H.length v S'.H K) = some r := by
            cases e with
            | normal => exact ⟨.inl rfl, h1⟩
            | ret => exact ⟨.inr rfl, h1⟩
            | exit id => cases h1
          obtain ⟨he, h2⟩ := hex
          obtain ⟨v, hv, h3⟩ := bindO_some h2
          -- the call itself
          have hcall : ∀ (C : Cx) (ρ : Nat → Tk) (w : World), Rel C ρ H w → SV.okL C.R C.w1 ρ H.length args →
              Calls E.P f (denL ρ args).toArray w fun en w' => ∃ ρ', (∀ t, t < H.length → ρ' t = ρ t) ∧ en = .returned (den ρ' v) ∧ Rel C ρ' S'.H w' ∧ v.ok C.R C.w1 ρ' S'.H.length := by
            intro C ρ w hR hargs
            refine calls_of_wp hfn hc ?_
            have hF : FRel C ρ H.length (enterF fn.ntmps args) ((denL ρ args).toArray ++ Array.replicate (fn.ntmps - (denL ρ args).toArray.size) undef) := by
              refine ⟨by simp [enterF, denL_length], fun i u hu => ?_⟩
              unfold enterF at hu
              by_cases hi : i < args.length
              · rw [List.getElem?_append_left (by simpa using hi), List.getElem?_map] at hu
                cases hq : args[i]? with
                | none => simp [hq] at hu
                | some u' =>
                  simp only [hq, Option.map_some, Option.some.injEq] at hu
                  subst hu
                  refine ⟨?_, okL_iff.1 hargs _ (List.mem_of_getElem? hq)⟩
                  rw [Array.getElem?_append_left (by simpa [denL_length] using hi), List.getElem?_toArray]
                  exact denL_get ρ args i _ hq
              · rw [List.getElem?_append_right (by simpa using hi), List.getElem?_replicate] at hu
                split at hu
                · rename_i hlt
                  cases hu
                  refine ⟨?_, by simp [SV.ok, undef]⟩
                  rw [Array.getElem?_append_right (by simpa [denL_length] using hi)]
                  simp only [List.length_map] at hlt
                  simp only [List.size_toArray, denL_length, den, Array.getElem?_replicate]
                  rw [if_pos hlt]
                · cases hu
            refine wp_mono (hg.wp C ρ { tmps := _, defers := [] } w rfl hF hR) fun ex a' w' hp => ?_
            obtain ⟨hex, ρ', d1, d2, d3, d4⟩ := hp
            obtain ⟨r1, r2⟩ := resOf_spec E d2 d3 hv
            rcases he with rfl | rfl <;> subst hex <;> exact ⟨d1, _, r1, ρ', d4, rfl, d3, r2⟩
          unfold gcRet at h3
          split at h3
          · rename_i H2 hgc
            obtain ⟨_, l2, g3⟩ := gc_spec hgc
            refine ⟨v, H2, h3, l2, fun C ρ w hR hargs => (hcall C ρ w hR hargs).mono fun en w' hq => ?_⟩
            obtain ⟨ρ', q1, q2, q3, q4⟩ := hq
            obtain ⟨ρ2, e1, e2, e3, _⟩ := g3 C ρ' w' q3
            obtain ⟨rfl, e4⟩ := e3 rfl
            exact ⟨ρ2, q1, q2, e2, ok_of_toks v e4 q4⟩
          · rename_i τ H2 hne hgc
            obtain ⟨_, l2, g3⟩ := gc_spec hgc
            refine ⟨_, H2, h3, l2, fun C ρ w hR hargs => (hcall C ρ w hR hargs).mono fun en w' hq => ?_⟩
            obtain ⟨ρ', q1, q2, q3, q4⟩ := hq
            obtain ⟨ρ2, e1, e2, _, e3⟩ := g3 C ρ' w' q3
            have e3 := e3 (fun e => hne e)
            obtain ⟨p1, p2⟩ := ren_spec (ρ' := ρ2) (n' := List.length H2) v e3 q4
            exact ⟨ρ2, fun t ht => by rw [e1 t ht, q1 t ht], by rw [p1]; exact q2, e2, p2⟩
          · cases h3
        · cases h
      · cases h
    · cases h

theorem iter_sound {base : Nat} {c : Code} {step : St → (Ex → St → Option α) → Option α}
    (hstep : ∀ S K r, base ≤ S.H.length → step S K = some r → ∃ e S1 S', K e S' = some r ∧ CodeGood E.P base c S e S1 ∧ SameGood base S1 S') : ∀ (L : Nat) (S : St) (K : Ex → St → Option α) (r : α), base ≤ S.H.length → iter step L S K = some r →
    ∃ e S', K e S' = some r ∧ base ≤ S'.H.length ∧ ∀ (C : Cx) (ρ : Nat → Tk) (a : Act) (w : World), a.defers = [] → FRel C ρ S.H.length S.F a.tmps → Rel C ρ S.H w → ∀ (b : Frame) (k : List Item) (cs : List Frame),
      ∃ ex a' w', (ex = e.exit' ∧ ∃ ρ', a'.defers = [] ∧ FRel C ρ' S'.H.length S'.F a'.tmps ∧ Rel C ρ' S'.H w' ∧ ∀ t, t < base → ρ' t = ρ t) ∧ Arrives E.P (lone (b.at a (.code c :: .inLoop c :: k)) cs w) b k cs ex a' w'
  | 0, S, K, r, _, h => by simp [iter] at h
  | L + 1, S, K, r, hb, h => by
    simp only [iter] at h
    obtain ⟨e, S1, S', h1, g1, g2⟩ := hstep S _ r hb h
    have leave : ∀ (x : Ex), x = e → x ≠ .normal → K e S' = some r → ∃ e S', K e S' = some r ∧ base ≤ S'.H.length ∧ ∀ (C : Cx) (ρ : Nat → Tk) (a : Act) (w : World), a.defers = [] → FRel C ρ S.H.length S.F a.tmps → Rel C ρ S.H w → ∀ (b : Frame) (k : List Item) (cs : List Frame),
      ∃ ex a' w', (ex = e.exit' ∧ ∃ ρ', a'.defers = [] ∧ FRel C ρ' S'.H.length S'.F a'.tmps ∧ Rel C ρ' S'.H w' ∧ ∀ t, t < base → ρ' t = ρ t) ∧ Arrives E.P (lone (b.at a (.code c :: .inLoop c :: k)) cs w) b k cs ex a' w' := by
      intro x hx hne hk
      refine ⟨e, S', hk, g2.len, fun C ρ a w hd hF hR b k cs => ?_⟩
      obtain ⟨ex, a', w', ⟨p1, ρ', p2, p3, p4, p5⟩, harr⟩ := g1.wp C ρ a w hd hF hR b (.inLoop c :: k) cs
      obtain ⟨ρ2, q1, q2, q3⟩ := g2.rel C ρ' a'.tmps w' p3 p4
      refine ⟨ex, a', w', ⟨p1, ρ2, p2, q2, q3, fun t ht => by rw [q1 t ht, p5 t ht]⟩, ?_⟩
      refine .pass (x := .inLoop c) rfl (fun _ _ => .inl ?_) harr
      rw [p1, ← hx]
      cases x <;> simp [Ex.exit'] at hne ⊢
    cases e with
    | exit id => exact leave (.exit id) rfl (by simp) h1
    | ret => exact leave .ret rfl (by simp) h1
    | normal =>
      obtain ⟨e2, S2, h2, l2, g3⟩ := iter_sound hstep L S' K r g2.len h1
      refine ⟨e2, S2, h2, l2, fun C ρ a w hd hF hR b k cs => ?_⟩
      obtain ⟨ex, a', w', ⟨p1, ρ', p2, p3, p4, p5⟩, harr⟩ := g1.wp C ρ a w hd hF hR b (.inLoop c :: k) cs
      obtain ⟨ρ2, q1, q2, q3⟩ := g2.rel C ρ' a'.tmps w' p3 p4
      obtain ⟨ex2, a2, w2, ⟨s1, ρ3, s2, s3, s4, s5⟩, harr2⟩ := g3 C ρ2 a' w' p2 q2 q3 b k cs
      subst p1
      refine ⟨ex2, a2, w2, ⟨s1, ρ3, s2, s3, s4, fun t ht => by rw [s5 t ht, q1 t ht, p5 t ht]⟩, ?_⟩
      have hst : Steps E.P (lone (b.at a (.code c :: .inLoop c :: k)) cs w) (lone (b.at a' (.inLoop c :: k)) cs w') := harr
      exact .of_steps (hst.trans (.one step_inLoop)) harr2

theorem CodeGood.after {P : Program} {base : Nat} {c : Code} {S S1 : St} {e : Ex} {S' : St} (h0 : SameGood base S S1) (h : CodeGood P base c S1 e S') : CodeGood P base c S e S' :=
  ⟨h.len, fun C ρ a w hd hF hR => by
    obtain ⟨ρ1, q1, q2, q3⟩ := h0.rel C ρ a.tmps w hF hR
    refine wp_mono (h.wp C ρ1 a w hd q2 q3) fun ex a' w' hp => ?_
    obtain ⟨p1, ρ', p2, p3, p4, p5⟩ := hp
    exact ⟨p1, ρ', p2, p3, p4, fun t ht => by rw [p5 t ht, q1 t ht]⟩⟩

theorem sub_step {P : Program} {fid : FuncId} {path : List Bool} {c d : Code} {b : Bool} (h : Stands P fid path c) (hd : ∀ root, sub root path = some c → sub root (b :: path) = some d) : Stands P fid (b :: path) d := by
  obtain ⟨fn, body, h1, h2, h3⟩ := h
  exact ⟨fn, body, h1, h2, hd body h3⟩

end
end Go.Proofs.Ytkjellhkamfciaa.Sx
end

section
/- SX: the frame rule: a part of the heap that a run does not see stays as it is. -/
namespace Go.Proofs.Ytkjellhkamfciaa.Sx
open Go Go.RowKit

theorem RosOk.world {R : Nat → Prop} {w w' : World} (h : ∀ b, R b → w'.heap[b]? = w.heap[b]?) {v : Value} {κ : K} {xs : List κ.T} (hr : RosOk R w v κ xs) : RosOk R w' v κ xs := by
  rcases hr with h0 | ⟨ad, cap, e, hl, hs, hR, hc⟩
  · exact .inl h0
  · refine .inr ⟨ad, cap, e, hl, hs, hR, fun j c hj => ?_⟩
    rw [World.cell?_of_block (w := w) (a := ⟨ad.block, _, none⟩) (h ad.block hR)]; exact hc j c hj
mutual
theorem ok_world {R : Nat → Prop} {w w' : World} {ρ : Nat → Tk} {n : Nat} (h : ∀ b, R b → w'.heap[b]? = w.heap[b]?) : ∀ (v : SV), v.ok R w ρ n → v.ok R w' ρ n
  | .ptr _ _, hv => by simp only [SV.ok] at hv ⊢; exact hv
  | .aix _ _ _ _ _, hv => by simp only [SV.ok] at hv ⊢; exact hv
  | .pix _ _ _ _, hv => by simp only [SV.ok] at hv ⊢; exact hv
  | .sub _ _ _ _, hv => by simp only [SV.ok] at hv ⊢; exact hv
  | .sl _, hv => by simp only [SV.ok] at hv ⊢; exact hv
  | .rix _ _ _ _ _, hv => by simp only [SV.ok] at hv ⊢; exact ⟨hv.1.world h, hv.2⟩
  | .ros _ _ _, hv => by simp only [SV.ok] at hv ⊢; exact hv.world h
  | .fn _ a b, hv => by simp only [SV.ok] at hv ⊢; exact ⟨okL_world h a hv.1, okL_world h b hv.2⟩
  | .raw _, hv => by simp only [SV.ok] at hv ⊢; exact hv
  | .arr _ _ _, hv => by simp only [SV.ok] at hv ⊢; exact hv
  | .agg l, hv => by simp only [SV.ok] at hv ⊢; exact okL_world h l hv
  | .tup l, hv => by simp only [SV.ok] at hv ⊢; exact okL_world h l hv
  | .int _ _, _ => by simp only [SV.ok]
  | .bool _, _ => by simp only [SV.ok]
theorem okL_world {R : Nat → Prop} {w w' : World} {ρ : Nat → Tk} {n : Nat} (h : ∀ b, R b → w'.heap[b]? = w.heap[b]?) : ∀ (l : List SV), SV.okL R w ρ n l → SV.okL R w' ρ n l
  | [], _ => by simp only [SV.okL]
  | x :: l, hv => by simp only [SV.okL] at hv ⊢; exact ⟨ok_world h x hv.1, okL_world h l hv.2⟩
end
theorem SObj.ok_world {R : Nat → Prop} {w w' : World} {ρ : Nat → Tk} {n : Nat} (h : ∀ b, R b → w'.heap[b]? = w.heap[b]?) {o : SObj} (ho : o.ok R w ρ n) : o.ok R w' ρ n := by
  cases o with
  | cells l T => exact ⟨okL_world h l ho.1, ho.2⟩
  | _ => trivial

/-- The surroundings of a run that begins now and sees the tokens of T alone. -/
def Cx.inner (C : Cx) (ρ : Nat → Tk) (H : Hp) (T : Nat → Prop) (w : World) : Cx :=
  { R := C.R, w1 := w, Own := fun b => w.heap.size ≤ b ∨ ∃ t, T t ∧ blkOf ρ H t = some b }

theorem Rel.roKeep {C : Cx} {ρ : Nat → Tk} {H : Hp} {w : World} (h : Rel C ρ H w) : ∀ b, C.R b → w.heap[b]? = C.w1.heap[b]? := fun b hb => h.keep b (h.fit.ro b hb).1 (h.fit.ro b hb).2

theorem maskH_get {T : List Nat} : ∀ {H : Hp} {i t : Nat}, (maskH T i H)[t]? = (H[t]?).map fun o => if memN (i + t) T then o else .dead
  | [], i, t => by simp [maskH]
  | o :: H, i, 0 => by simp [maskH]
  | o :: H, i, t + 1 => by
    simp only [maskH, List.getElem?_cons_succ]
    rw [maskH_get (H := H), show i + 1 + t = i + (t + 1) by omega]
theorem maskH_length {T : List Nat} : ∀ {H : Hp} {i : Nat}, (maskH T i H).length = H.length
  | [], i => rfl
  | o :: H, i => by simp [maskH, maskH_length (H := H)]
theorem mergeH_get {T : List Nat} : ∀ {H M : Hp} {i t : Nat}, H.length ≤ M.length → (mergeH T i H M)[t]? = if t < H.length then (if memN (i + t) T then M[t]? else H[t]?) else none
  | [], M, i, t, _ => by simp [mergeH]
  | o :: H, [], i, t, h => by simp at h
  | o :: H, p :: M, i, 0, h => by simp only [mergeH, List.getElem?_cons_zero, Nat.add_zero]; split <;> simp
  | o :: H, p :: M, i, t + 1, h => by
    simp only [mergeH, List.getElem?_cons_succ, List.length_cons]
    rw [mergeH_get (H := H) (by simpa using h), show i + 1 + t = i + (t + 1) by omega]
    simp only [Nat.add_lt_add_iff_right]
theorem mergeH_length {T : List Nat} : ∀ {H M : Hp} {i : Nat}, H.length ≤ M.length → (mergeH T i H M).length = H.length
  | [], M, i, _ => rfl
  | o :: H, [], i, h => by simp at h
  | o :: H, p :: M, i, h => by simp only [mergeH, List.length_cons]; rw [mergeH_length (H := H) (by simpa using h)]

theorem objBlk_mask {tk : Tk} {o : SObj} {c : Bool} {b : Nat} (h : objBlk tk (if c then o else .dead) = some b) : c = true ∧ objBlk tk o = some b := by
  cases c
  · cases h
  · exact ⟨rfl, h⟩

/-- What a run sees that is shown the tokens of T alone. -/
theorem Rel.mask {C : Cx} {ρ : Nat → Tk} {H : Hp} {w : World} (h : Rel C ρ H w) (T : List Nat) : Rel (C.inner ρ H (· ∈ T) w) ρ (maskH T 0 H) w := by
  have hg : ∀ t o, (maskH T 0 H)[t]? = some o → ∃ o', H[t]? = some o' ∧ o = if memN t T then o' else .dead := fun t o ho => by
    rw [maskH_get] at ho
    cases hq : H[t]? with
    | none => simp [hq] at ho
    | some o' => simp only [hq, Option.map_some, Option.some.injEq, Nat.zero_add] at ho; exact ⟨o', rfl, ho.symm⟩
  have hb : ∀ t b, blkOf ρ (maskH T 0 H) t = some b → t ∈ T ∧ blkOf ρ H t = some b := fun t b hb => by
    obtain ⟨o, ho, h2⟩ := blkOf_get hb
    obtain ⟨o', h3, rfl⟩ := hg t o ho
    obtain ⟨h4, h5⟩ := objBlk_mask h2
    exact ⟨memN_iff.1 h4, by rw [blkOf_eq h3]; exact h5⟩
  refine ⟨fun t o ho => ?_, fun t t' b h1 h2 => h.sep t t' b (hb t b h1).2 (hb t' b h2).2, fun t b h1 => .inr ⟨t, (hb t b h1).1, (hb t b h1).2⟩, h.hdr, fun _ _ _ => rfl, Nat.le_refl _, rfl, rfl, rfl, fun t o ho => ?_, ⟨fun b hb => .inl hb, fun b hr => ?_⟩⟩
  · obtain ⟨o', h3, rfl⟩ := hg t o ho
    have := h.obj t o' h3
    split
    · exact this
    · trivial
  · obtain ⟨o', h3, rfl⟩ := hg t o ho
    rw [maskH_length]
    split
    · exact SObj.ok_world h.roKeep (h.ok t o' h3)
    · trivial
  · have hlt : b < w.heap.size := Nat.lt_of_lt_of_le (h.fit.ro b hr).1 h.size
    refine ⟨hlt, fun hc => ?_⟩
    rcases hc with hc | ⟨t, _, ht⟩
    · exact absurd hlt (by show ¬ b < w.heap.size; omega)
    · exact (h.fit.ro b hr).2 (h.own t b ht)

/-- And what it leaves. -/
theorem Rel.unmask {C : Cx} {ρ ρ' : Nat → Tk} {H M : Hp} {w w' : World} {T : List Nat} (h : Rel C ρ H w) (hM : Rel (C.inner ρ H (· ∈ T) w) ρ' M w') (hl : H.length ≤ M.length) (hr : ∀ t, t < H.length → ρ' t = ρ t) :
    Rel C ρ' (mergeH T 0 H M ++ M.drop H.length) w' := by
  have hml := mergeH_length (T := T) (i := 0) hl
  have hlen : (mergeH T 0 H M ++ M.drop H.length).length = M.length := by rw [List.length_append, hml, List.length_drop]; omega
  -- where an object comes from
  have hg : ∀ t o, (mergeH T 0 H M ++ M.drop H.length)[t]? = some o → (t < H.length ∧ t ∉ T ∧ H[t]? = some o) ∨ ((t ∈ T ∨ H.length ≤ t) ∧ M[t]? = some o) := fun t o ho => by
    by_cases ht : t < H.length
    · rw [List.getElem?_append_left (by omega), mergeH_get hl, if_pos ht, Nat.zero_add] at ho
      by_cases hT : memN t T = true
      · rw [if_pos hT] at ho; exact .inr ⟨.inl (memN_iff.1 hT), ho⟩
      · rw [if_neg hT] at ho; exact .inl ⟨ht, fun h => hT (memN_iff.2 h), ho⟩
    · rw [List.getElem?_append_right (by omega), List.getElem?_drop, hml] at ho
      refine .inr ⟨.inr (by omega), ?_⟩
      rw [show H.length + (t - H.length) = t by omega] at ho; exact ho
  have hb : ∀ t b, blkOf ρ' (mergeH T 0 H M ++ M.drop H.length) t = some b → (t < H.length ∧ t ∉ T ∧ blkOf ρ H t = some b) ∨ ((t ∈ T ∨ H.length ≤ t) ∧ blkOf ρ' M t = some b) := fun t b hb => by
    obtain ⟨o, ho, h2⟩ := blkOf_get hb
    rcases hg t o ho with ⟨h3, h4, h5⟩ | ⟨h3, h5⟩
    · refine .inl ⟨h3, h4, ?_⟩
      rw [blkOf_eq h5, ← hr t h3]; exact h2
    · exact .inr ⟨h3, by rw [blkOf_eq h5]; exact h2⟩
  have hapart : ∀ t t' b, t ∉ T → blkOf ρ H t = some b → blkOf ρ' M t' = some b → False := fun t t' b hT h1 h2 => by
    have hlt := blk_lt h h1
    rcases hM.own t' b h2 with hc | ⟨s, hs, hs2⟩
    · exact absurd hlt (Nat.not_lt.2 hc)
    · have := h.sep t s b h1 hs2
      subst this
      exact hT hs
  have hout : ∀ b, b < w.heap.size → (∀ t, t ∈ T → blkOf ρ H t ≠ some b) → w'.heap[b]? = w.heap[b]? := fun b hlt hn => hM.keep b hlt fun hc => by
    rcases hc with hc | ⟨t, ht, ht2⟩
    · exact absurd hlt (Nat.not_lt.2 hc)
    · exact hn t ht ht2
  refine ⟨fun t o ho => ?_, fun t t' b h1 h2 => ?_, fun t b h1 => ?_, hM.hdr, fun b h1 h2 => ?_, Nat.le_trans h.size hM.size, hM.os.trans h.os, hM.tape.trans h.tape, hM.output.trans h.output, fun t o ho => ?_, h.fit⟩
  · rcases hg t o ho with ⟨h3, h4, h5⟩ | ⟨_, h5⟩
    · rw [hr t h3]
      refine (h.obj t o h5).agree (C := C) (n := H.length) (h.ok t o h5) hr fun b hbb => hout b ?_ fun s hs hs2 => ?_
      · exact blk_lt h (t := t) (by rw [blkOf_eq h5]; exact hbb)
      · have := h.sep t s b (by rw [blkOf_eq h5]; exact hbb) hs2
        subst this
        exact h4 hs
    · exact hM.obj t o h5
  · rcases hb t b h1 with ⟨_, g2, g3⟩ | ⟨_, g3⟩ <;> rcases hb t' b h2 with ⟨_, k2, k3⟩ | ⟨_, k3⟩
    · exact h.sep t t' b g3 k3
    · exact (hapart t t' b g2 g3 k3).elim
    · exact (hapart t' t b k2 k3 g3).elim
    · exact hM.sep t t' b g3 k3
  · rcases hb t b h1 with ⟨_, _, g3⟩ | ⟨_, g3⟩
    · exact h.own t b g3
    · rcases hM.own t b g3 with hc | ⟨s, _, hs2⟩
      · exact h.fit.new b (Nat.le_trans h.size hc)
      · exact h.own s b hs2
  · rw [hout b (Nat.lt_of_lt_of_le h1 h.size) fun t _ ht => h2 (h.own t b ht)]
    exact h.keep b h1 h2
  · rw [hlen]
    rcases hg t o ho with ⟨h3, h4, h5⟩ | ⟨_, h5⟩
    · exact SObj.ok_mono hl (SObj.ok_agree hr (h.ok t o h5))
    · exact SObj.ok_world (fun b hb => (h.roKeep b hb).symm) (hM.ok t o h5)
end Go.Proofs.Ytkjellhkamfciaa.Sx
end

section
/- SX: regions whose order is open: what the run in the order of the text comes to, every order comes to. -/
namespace Go.Proofs.Ytkjellhkamfciaa.Sx
open Go Go.RowKit

def swapTo (N s : Nat) (t : Nat) : Nat := if Nat.beq t N then s else t

/-- What one step of the run in the order of the text is. -/
structure StepD (P : Program) (ops : Array Oper) (B N i : Nat) (o : Oper) (S : St) (rec : Rec) (S1 : St) : Prop where
  dst : rec.dst = o.dst
  left : rec.left = toksAt S1.H rec.T
  F : S1.F = put S.F o.dst rec.v
  step : (guardLit ops o S.F = some false ∧ rec.v = .raw undef ∧ rec.T = [] ∧ rec.W = [] ∧ S1.H = S.H) ∨
    (guardLit ops o S.F = some true ∧ ∃ (T : List Nat) (v : SV) (M : Hp), (∀ F', Agree o S.F F' → OpGood P o F' (maskH T 0 S.H) v M) ∧ (isWr o = false → ∃ l, M = maskH T 0 S.H ++ l) ∧
      ((M.length = N ∧ rec.v = v ∧ S1.H = mergeH T 0 S.H M ∧ rec.T = T ∧ rec.W = (if isWr o then T else [])) ∨
       (∃ x, M[N]? = some x ∧ M.length = N + 1 ∧ (B + i) ∉ v.toks ∧ (B + i) ∉ hpToks M ∧ (B + i) ∉ T ∧ rec.v = v.ren (swapTo N (B + i)) ∧
        S1.H = (if isWr o then mergeH T 0 S.H (M.map (SObj.ren (swapTo N (B + i)))) else S.H).set (B + i) (x.ren (swapTo N (B + i))) ∧ rec.T = (B + i) :: T ∧ rec.W = (B + i) :: (if isWr o then T else []))))

inductive Tr (P : Program) (ops : Array Oper) (B N : Nat) : Nat → List Oper → St → List Rec → St → Prop where
  | nil (i : Nat) (S : St) : Tr P ops B N i [] S [] S
  | cons {i : Nat} {o : Oper} {l : List Oper} {S S1 S' : St} {rec : Rec} {recs : List Rec} : StepD P ops B N i o S rec S1 → Tr P ops B N (i + 1) l S1 recs S' → Tr P ops B N i (o :: l) S (rec :: recs) S'

section
variable (E : Env) {α : Type}
theorem not_memN {t : Nat} {l : List Nat} (h : (!memN t l) = true) : t ∉ l := fun hm => by
  rw [memN_iff.2 hm] at h; cases h

theorem drawL_sound (hE : EnvOk E) {callf : CallF α} (hcall : CallOk E.P callf) (ops : Array Oper) (B N : Nat) : ∀ (l : List Oper) (i : Nat) (S : St) (recs : List Rec) (K : St → List Rec → Option α) (r : α), drawL E callf ops B N i l S recs K = some r →
    ∃ S' new, K S' (new.reverse ++ recs) = some r ∧ Tr E.P ops B N i l S new S'
  | [], i, S, recs, K, r, h => ⟨S, [], by simpa [drawL] using h, .nil _ _⟩
  | o :: l, i, S, recs, K, r, h => by
    simp only [drawL] at h
    split at h
    · rename_i want hgd
      have goon : ∀ (S1 : St) (rec : Rec), StepD E.P ops B N i o S rec S1 → drawL E callf ops B N (i + 1) l S1 (rec :: recs) K = some r → ∃ S' new, K S' (new.reverse ++ recs) = some r ∧ Tr E.P ops B N i (o :: l) S new S' := by
        intro S1 rec hst h1
        obtain ⟨S', new, h2, h3⟩ := drawL_sound hE hcall ops B N l (i + 1) S1 (rec :: recs) K r h1
        exact ⟨S', rec :: new, by simpa using h2, .cons hst h3⟩
      split at h
      · rename_i hw
        split at h
        · rename_i T hT
          obtain ⟨v, M, hk, hq, hg⟩ := opS_sound E.dr ⟨hE.zero, hE.add, hE.sub⟩ hcall o S.F (maskH T 0 S.H) _ r h
          -- the bool that a guard asks for is written out
          have fin : ∀ (v' : SV) (nw : List Nat) (H' : Hp),
              (match v' with
                | .bool b => if usedAsGuard ops.toList i then (if b then drawL E callf ops B N (i + 1) l ⟨put S.F o.dst (.bool true), H'⟩ (⟨o.dst, .bool true, nw ++ T, nw ++ (if isWr o then T else []), toksAt H' (nw ++ T)⟩ :: recs) K else drawL E callf ops B N (i + 1) l ⟨put S.F o.dst (.bool false), H'⟩ (⟨o.dst, .bool false, nw ++ T, nw ++ (if isWr o then T else []), toksAt H' (nw ++ T)⟩ :: recs) K)
                  else drawL E callf ops B N (i + 1) l ⟨put S.F o.dst (.bool b), H'⟩ (⟨o.dst, .bool b, nw ++ T, nw ++ (if isWr o then T else []), toksAt H' (nw ++ T)⟩ :: recs) K
                | v' => drawL E callf ops B N (i + 1) l ⟨put S.F o.dst v', H'⟩ (⟨o.dst, v', nw ++ T, nw ++ (if isWr o then T else []), toksAt H' (nw ++ T)⟩ :: recs) K) = some r →
              drawL E callf ops B N (i + 1) l ⟨put S.F o.dst v', H'⟩ (⟨o.dst, v', nw ++ T, nw ++ (if isWr o then T else []), toksAt H' (nw ++ T)⟩ :: recs) K = some r := by
            intro v' nw H' hh
            cases v' with
            | bool b =>
              simp only at hh
              split at hh
              · split at hh
                · rename_i hb; rw [hb]; exact hh
                · rename_i hb; rw [show b = false by simpa using hb]; exact hh
              · exact hh
            | _ => exact hh
          split at hk
          · rename_i hlen
            have hlen' := Nat.eq_of_beq_eq_true hlen
            refine goon _ ⟨o.dst, v, [] ++ T, [] ++ (if isWr o then T else []), toksAt (mergeH T 0 S.H M) ([] ++ T)⟩ ⟨rfl, rfl, rfl, .inr ⟨by rw [hgd, hw], T, v, M, hg, hq, .inl ⟨hlen', rfl, rfl, rfl, by simp⟩⟩⟩ (fin v [] _ hk)
          · split at hk
            · rename_i x hx
              split at hk
              · rename_i hc
                simp only [Bool.and_eq_true] at hc
                obtain ⟨⟨⟨c1, c2⟩, c3⟩, c4⟩ := hc
                refine goon _ ⟨o.dst, v.ren (swapTo N (B + i)), [B + i] ++ T, [B + i] ++ (if isWr o then T else []), _⟩ ⟨rfl, rfl, rfl, .inr ⟨by rw [hgd, hw], T, v, M, hg, hq, .inr ⟨x, hx, Nat.eq_of_beq_eq_true c1, not_memN c2, not_memN c3, not_memN c4, rfl, rfl, rfl, by simp⟩⟩⟩ (fin _ [B + i] _ hk)
              · cases hk
            · cases hk
        · cases h
      · rename_i hw
        exact goon ⟨put S.F o.dst (.raw undef), S.H⟩ ⟨o.dst, .raw undef, [], [], []⟩ ⟨rfl, rfl, rfl, .inl ⟨by rw [hgd]; simpa using hw, rfl, rfl, rfl, rfl⟩⟩ h
    · cases h

theorem StepD.WT {P : Program} {ops : Array Oper} {B N i : Nat} {o : Oper} {S S1 : St} {rec : Rec} (h : StepD P ops B N i o S rec S1) {t : Nat} (ht : t ∈ rec.W) : t ∈ rec.T := by
  rcases h.step with ⟨_, _, _, e, _⟩ | ⟨_, T, v, M, _, _, ⟨_, _, _, e3, e4⟩ | ⟨x, _, _, _, _, _, _, _, e3, e4⟩⟩
  · rw [e] at ht; cases ht
  · rw [e4] at ht; rw [e3]
    split at ht
    · exact ht
    · cases ht
  · rw [e4] at ht; rw [e3]
    rcases List.mem_cons.1 ht with h | h
    · rw [h]; exact List.mem_cons_self
    · split at h
      · exact List.mem_cons_of_mem _ h
      · cases h

theorem Tr.length {P : Program} {ops : Array Oper} {B N i : Nat} {l : List Oper} {S S' : St} {recs : List Rec} (h : Tr P ops B N i l S recs S') : recs.length = l.length := by
  induction h with
  | nil => rfl
  | cons _ _ ih => simp [ih]

/-- The states of the run. -/
theorem Tr.states {P : Program} {ops : Array Oper} {B N i : Nat} {l : List Oper} {S S' : St} {recs : List Rec} (h : Tr P ops B N i l S recs S') :
    ∃ st : Nat → St, st 0 = S ∧ st l.length = S' ∧ ∀ k, k < l.length → ∃ o rec, l[k]? = some o ∧ recs[k]? = some rec ∧ StepD P ops B N (i + k) o (st k) rec (st (k + 1)) := by
  induction h with
  | nil i S => exact ⟨fun _ => S, rfl, rfl, fun k hk => by simp at hk⟩
  | @cons i o l S S1 S' rec recs h1 h2 ih =>
    obtain ⟨st, e1, e2, e3⟩ := ih
    refine ⟨fun k => match k with | 0 => S | k + 1 => st k, rfl, e2, fun k hk => ?_⟩
    cases k with
    | zero => exact ⟨o, rec, rfl, rfl, by simp only [Nat.add_zero]; rw [e1]; exact h1⟩
    | succ k =>
      obtain ⟨o', rec', g1, g2, g3⟩ := e3 k (by simpa using hk)
      exact ⟨o', rec', by simpa using g1, by simpa using g2, by rw [show i + (k + 1) = i + 1 + k by omega]; exact g3⟩
end

/-! What a set of steps leaves. -/
def fw {β : Type} (w : Nat → Option β) (X : Nat → Bool) (init : β) : Nat → β
  | 0 => init
  | k + 1 => if X k then (match w k with | some b => b | none => fw w X init k) else fw w X init k
theorem fw_agree {β : Type} {w : Nat → Option β} {X Y : Nat → Bool} {init : β} : ∀ {n : Nat}, (∀ k, k < n → w k ≠ none → X k = Y k) → fw w X init n = fw w Y init n
  | 0, _ => rfl
  | n + 1, h => by
    have ih := fw_agree (init := init) (n := n) fun k hk => h k (by omega)
    simp only [fw, ih]
    cases hw : w n with
    | none => simp
    | some b => rw [h n (by omega) (by rw [hw]; simp)]
theorem fw_all {β : Type} {w : Nat → Option β} {init : β} {j : Nat} : ∀ {n : Nat}, j ≤ n → fw w (fun k => decide (k < j)) init n = fw w (fun _ => true) init j
  | 0, h => by have : j = 0 := by omega
               subst this; rfl
  | n + 1, h => by
    by_cases hj : j = n + 1
    · subst hj
      exact fw_agree fun k hk _ => by simp [hk]
    · simp only [fw]
      rw [if_neg (by simp; omega)]
      exact fw_all (by omega)
theorem fw_cases {β : Type} {w : Nat → Option β} {X : Nat → Bool} {init : β} : ∀ (n : Nat), fw w X init n = init ∨ ∃ k, k < n ∧ X k = true ∧ w k = some (fw w X init n)
  | 0 => .inl rfl
  | n + 1 => by
    simp only [fw]
    split
    · rename_i hx
      split
      · rename_i b hb; exact .inr ⟨n, by omega, hx, hb⟩
      · rcases fw_cases (w := w) (X := X) (init := init) n with h | ⟨k, h1, h2, h3⟩
        · exact .inl h
        · exact .inr ⟨k, by omega, h2, h3⟩
    · rcases fw_cases (w := w) (X := X) (init := init) n with h | ⟨k, h1, h2, h3⟩
      · exact .inl h
      · exact .inr ⟨k, by omega, h2, h3⟩

/-! What the look at the records says. -/
theorem mem_unionN {x : Nat} : ∀ {l m : List Nat}, x ∈ unionN l m ↔ x ∈ l ∨ x ∈ m
  | [], m => by simp [unionN]
  | y :: l, m => by
    unfold unionN
    split
    · rename_i h
      have := memN_iff.1 h
      rw [mem_unionN (l := l)]
      simp only [List.mem_cons]
      constructor
      · rintro (h | h)
        · exact .inl (.inr h)
        · exact .inr h
      · rintro ((h | h) | h)
        · subst h; exact .inr this
        · exact .inl h
        · exact .inr h
    · rw [mem_unionN (l := l)]
      simp only [List.mem_cons]
      constructor
      · rintro (h | h | h)
        · exact .inl (.inr h)
        · exact .inl (.inl h)
        · exact .inr h
      · rintro ((h | h) | h)
        · exact .inr (.inl h)
        · exact .inl h
        · exact .inr (.inr h)
theorem mem_ancOf {acc : List (List Nat)} {x : Nat} : ∀ {es : List Nat}, x ∈ ancOf acc es ↔ ∃ e ∈ es, x = e ∨ x ∈ acc.getD e []
  | [] => by simp [ancOf]
  | e :: es => by
    simp only [ancOf, mem_unionN, List.mem_cons, mem_ancOf (es := es)]
    constructor
    · rintro ((h | h) | ⟨e', h1, h2⟩)
      · exact ⟨e, .inl rfl, .inl h⟩
      · exact ⟨e, .inl rfl, .inr h⟩
      · exact ⟨e', .inr h1, h2⟩
    · rintro ⟨e', rfl | h1, h2⟩
      · exact .inl h2
      · exact .inr ⟨e', h1, h2⟩
theorem allLt_spec {n : Nat} : ∀ {l : List Nat}, allLt n l = true → ∀ x ∈ l, x < n
  | [], _, x, hx => by simp at hx
  | y :: l, h, x, hx => by
    simp only [allLt, Bool.and_eq_true] at h
    rcases List.mem_cons.1 hx with rfl | hx
    · exact Nat.le_of_ble_eq_true h.1
    · exact allLt_spec h.2 x hx
theorem ancL_spec : ∀ {l : List Oper} {acc ancs : List (List Nat)}, ancL l acc = some ancs → ancs.length = acc.length + l.length ∧ (∀ k, k < acc.length → ancs.getD k [] = acc.getD k []) ∧
    ∀ k o, l[k]? = some o → (∀ e ∈ edgesOf o, e < acc.length + k) ∧ ∀ x, x ∈ ancs.getD (acc.length + k) [] ↔ ∃ e ∈ edgesOf o, x = e ∨ x ∈ ancs.getD e []
  | [], acc, ancs, h => by
    simp only [ancL, Option.some.injEq] at h; subst h
    exact ⟨by simp, fun _ _ => rfl, fun k o h => by simp at h⟩
  | o :: l, acc, ancs, h => by
    simp only [ancL] at h
    split at h
    · rename_i hlt
      obtain ⟨h1, h2, h3⟩ := ancL_spec h
      simp only [List.length_append, List.length_singleton] at h1 h2 h3
      refine ⟨by simp; omega, fun k hk => ?_, fun k o' hk => ?_⟩
      · rw [h2 k (by omega), List.getD_eq_getElem?_getD, List.getElem?_append_left hk, List.getD_eq_getElem?_getD]
      · cases k with
        | zero =>
          simp at hk; subst hk
          refine ⟨by simpa using allLt_spec hlt, fun x => ?_⟩
          have e1 := h2 acc.length (by omega)
          rw [List.getD_eq_getElem?_getD (l := acc ++ _), List.getElem?_append_right (Nat.le_refl _)] at e1
          simp only [Nat.sub_self, List.getElem?_cons_zero, Option.getD_some] at e1
          rw [Nat.add_zero, e1, mem_ancOf]
          constructor
          · rintro ⟨e, he, hx⟩
            refine ⟨e, he, ?_⟩
            have hel := allLt_spec hlt e he
            rw [h2 e (by omega), List.getD_eq_getElem?_getD, List.getElem?_append_left hel, ← List.getD_eq_getElem?_getD]; exact hx
          · rintro ⟨e, he, hx⟩
            refine ⟨e, he, ?_⟩
            have hel := allLt_spec hlt e he
            rw [h2 e (by omega), List.getD_eq_getElem?_getD, List.getElem?_append_left hel, ← List.getD_eq_getElem?_getD] at hx; exact hx
        | succ k =>
          simp at hk
          have := h3 k o' hk
          rw [show acc.length + (k + 1) = acc.length + 1 + k by omega]
          exact this
    · cases h
theorem noClash_spec {ops : Array Oper} {anc : List Nat} {oj : Oper} {rj : Rec} : ∀ {ol : List Oper} {rl : List Rec} {i : Nat}, noClash ops anc oj rj i ol rl = true → ∀ k ok rk, ol[k]? = some ok → rl[k]? = some rk → (i + k) ∈ anc ∨ clash ops ok oj rk rj = false
  | [], rl, i, _, k, ok, rk, h1, _ => by simp at h1
  | o :: ol, [], i, _, k, ok, rk, _, h2 => by simp at h2
  | o :: ol, q :: rl, i, h, k, ok, rk, h1, h2 => by
    simp only [noClash, Bool.and_eq_true, Bool.or_eq_true, Bool.not_eq_true'] at h
    cases k with
    | zero =>
      simp at h1 h2; subst h1; subst h2
      exact h.1.imp memN_iff.1 id
    | succ k =>
      simp at h1 h2
      have := noClash_spec h.2 k ok rk h1 h2
      rwa [show i + (k + 1) = i + 1 + k by omega]
theorem visible_spec {B j : Nat} {anc : List Nat} : ∀ {l : List Nat}, visible B j anc l = true → ∀ t ∈ l, t < B ∨ t = B + j ∨ (t - B) ∈ anc
  | [], _, t, ht => by simp at ht
  | x :: l, h, t, ht => by
    simp only [visible, Bool.and_eq_true, Bool.or_eq_true] at h
    rcases List.mem_cons.1 ht with rfl | ht
    · rcases h.1 with (h | h) | h
      · exact .inl (Nat.le_of_ble_eq_true h)
      · exact .inr (.inl (Nat.eq_of_beq_eq_true h))
      · exact .inr (.inr (memN_iff.1 h))
    · exact visible_spec h.2 t ht
theorem allOk_spec {ops : Array Oper} {B : Nat} {ancs : List (List Nat)} {ol : List Oper} {rl : List Rec} : ∀ {os : List Oper} {rs : List Rec} {j : Nat}, allOk ops B ancs ol rl j os rs = true → ∀ k ok rk, os[k]? = some ok → rs[k]? = some rk →
    noClash ops (ancs.getD (j + k) []) ok rk 0 (ol.take (j + k)) (rl.take (j + k)) = true ∧ visible B (j + k) (ancs.getD (j + k) []) (rk.v.toks ++ rk.left) = true
  | [], rs, j, _, k, ok, rk, h1, _ => by simp at h1
  | o :: os, [], j, h, _, _, _, _, _ => by simp [allOk] at h
  | o :: os, q :: rs, j, h, k, ok, rk, h1, h2 => by
    simp only [allOk, Bool.and_eq_true] at h
    cases k with
    | zero => simp at h1 h2; subst h1; subst h2; exact ⟨h.1.1, h.1.2⟩
    | succ k =>
      simp at h1 h2
      have := allOk_spec h.2 k ok rk h1 h2
      rwa [show j + (k + 1) = j + 1 + k by omega]
theorem meets_of {t : Nat} : ∀ {l m : List Nat}, t ∈ l → t ∈ m → meets l m = true
  | [], m, h, _ => by simp at h
  | x :: l, m, h, h2 => by
    simp only [meets, Bool.or_eq_true]
    rcases List.mem_cons.1 h with rfl | h
    · exact .inl (memN_iff.2 h2)
    · exact .inr (meets_of h h2)
theorem mem_tmpsOf {t : Nat} : ∀ {l : List Operand}, Operand.tmp t ∈ l → t ∈ tmpsOf l
  | [], h => by simp at h
  | x :: l, h => by
    rcases List.mem_cons.1 h with rfl | h
    · simp [tmpsOf]
    · have := mem_tmpsOf h
      cases x <;> simp [tmpsOf, this]
theorem mem_toksAt {H : Hp} {t s : Nat} {o : SObj} : ∀ {T : List Nat}, t ∈ T → H[t]? = some o → s ∈ o.toks → s ∈ toksAt H T
  | [], h, _, _ => by simp at h
  | x :: T, h, h2, h3 => by
    simp only [toksAt, List.mem_append]
    rcases List.mem_cons.1 h with rfl | h
    · rw [h2]; exact .inl h3
    · exact .inr (mem_toksAt h h2 h3)
end Go.Proofs.Ytkjellhkamfciaa.Sx
end

section
/- SX: regions whose order is open, the main part: every order ends in the state of the run in the order of the text. -/
namespace Go.Proofs.Ytkjellhkamfciaa.Sx
open Go Go.RowKit

mutual
theorem ren_id {g : Nat → Nat} : ∀ (v : SV), (∀ t, t ∈ v.toks → g t = t) → v.ren g = v
  | .ptr t _, h => by simp only [SV.ren, h t (by simp [SV.toks])]
  | .aix t _ _ _ _, h => by simp only [SV.ren, h t (by simp [SV.toks])]
  | .pix t _ _ _, h => by simp only [SV.ren, h t (by simp [SV.toks])]
  | .sub t _ _ _, h => by simp only [SV.ren, h t (by simp [SV.toks])]
  | .sl t, h => by simp only [SV.ren, h t (by simp [SV.toks])]
  | .rix _ _ _ _ _, _ => by simp only [SV.ren]
  | .ros _ _ _, _ => by simp only [SV.ren]
  | .fn _ a b, h => by
    simp only [SV.toks, List.mem_append] at h
    simp only [SV.ren, renL_id a (fun t ht => h t (.inl ht)), renL_id b (fun t ht => h t (.inr ht))]
  | .raw _, _ => by simp only [SV.ren]
  | .arr _ _ _, _ => by simp only [SV.ren]
  | .agg l, h => by simp only [SV.toks] at h; simp only [SV.ren, renL_id l h]
  | .tup l, h => by simp only [SV.toks] at h; simp only [SV.ren, renL_id l h]
  | .int _ _, _ => by simp only [SV.ren]
  | .bool _, _ => by simp only [SV.ren]
theorem renL_id {g : Nat → Nat} : ∀ (l : List SV), (∀ t, t ∈ SV.toksL l → g t = t) → SV.renL g l = l
  | [], _ => by simp only [SV.renL]
  | x :: l, h => by
    simp only [SV.toksL, List.mem_append] at h
    simp only [SV.renL, ren_id x (fun t ht => h t (.inl ht)), renL_id l (fun t ht => h t (.inr ht))]
end
/-- What does not mention a token does not care what it stands for. -/
theorem den_toks {R : Nat → Prop} {w : World} {n n' : Nat} {ρ ρ' : Nat → Tk} (v : SV) (h : ∀ t, t ∈ v.toks → ρ' t = ρ t ∧ t < n') (hv : v.ok R w ρ n) : den ρ' v = den ρ v ∧ v.ok R w ρ' n' := by
  have := ren_spec (ρ' := ρ') (n' := n') (g := id) v h hv
  rwa [ren_id (g := id) v (fun _ _ => rfl)] at this
mutual
theorem toks_lt {R : Nat → Prop} {w : World} {ρ : Nat → Tk} {n : Nat} : ∀ (v : SV), v.ok R w ρ n → ∀ t, t ∈ v.toks → t < n
  | .ptr t _, h, s, hs => by simp [SV.toks] at hs; subst hs; exact h
  | .aix t _ _ _ _, h, s, hs => by simp [SV.toks] at hs; subst hs; exact h.1
  | .pix t _ _ _, h, s, hs => by simp [SV.toks] at hs; subst hs; exact h.1
  | .sub t _ _ _, h, s, hs => by simp [SV.toks] at hs; subst hs; exact h.1
  | .sl t, h, s, hs => by simp [SV.toks] at hs; subst hs; exact h
  | .rix _ _ _ _ _, _, s, hs => by simp [SV.toks] at hs
  | .ros _ _ _, _, s, hs => by simp [SV.toks] at hs
  | .fn _ a b, h, s, hs => by
    simp only [SV.ok] at h
    simp only [SV.toks, List.mem_append] at hs
    rcases hs with hs | hs
    · exact toksL_lt a h.1 s hs
    · exact toksL_lt b h.2 s hs
  | .raw _, _, s, hs => by simp [SV.toks] at hs
  | .arr _ _ _, _, s, hs => by simp [SV.toks] at hs
  | .agg l, h, s, hs => by simp only [SV.ok] at h; simp only [SV.toks] at hs; exact toksL_lt l h s hs
  | .tup l, h, s, hs => by simp only [SV.ok] at h; simp only [SV.toks] at hs; exact toksL_lt l h s hs
  | .int _ _, _, s, hs => by simp [SV.toks] at hs
  | .bool _, _, s, hs => by simp [SV.toks] at hs
theorem toksL_lt {R : Nat → Prop} {w : World} {ρ : Nat → Tk} {n : Nat} : ∀ (l : List SV), SV.okL R w ρ n l → ∀ t, t ∈ SV.toksL l → t < n
  | [], _, s, hs => by simp [SV.toksL] at hs
  | x :: l, h, s, hs => by
    simp only [SV.okL] at h
    simp only [SV.toksL, List.mem_append] at hs
    rcases hs with hs | hs
    · exact toks_lt x h.1 s hs
    · exact toksL_lt l h.2 s hs
end
theorem obj_toks_lt {R : Nat → Prop} {w : World} {ρ : Nat → Tk} {n : Nat} {o : SObj} (h : o.ok R w ρ n) : ∀ t, t ∈ o.toks → t < n := by
  cases o with
  | cells l T => exact toksL_lt l h.1
  | _ => intro t ht; simp [SObj.toks] at ht

/-- The newest object is given another token, one that nothing mentions. -/
theorem Rel.relocate {C : Cx} {ρ : Nat → Tk} {A H2 : Hp} {x : SObj} {w : World} {N s : Nat} (h : Rel C ρ (A ++ [x]) w) (hN : A.length = N) (hs : s < N)
    (hsA : ∀ (t : Nat) (o : SObj), (A ++ [x])[t]? = some o → s ∉ o.toks) (hl : H2.length = N)
    (hget : ∀ t o, H2[t]? = some o → (t = s ∧ o = x.ren (swapTo N s)) ∨ (t ≠ s ∧ ∃ a, A[t]? = some a ∧ o = a.ren (swapTo N s))) : Rel C (fun t => if t = s then ρ N else ρ t) H2 w := by
  have hg : ∀ t, t ≤ N → t ≠ s → (fun t => if t = s then ρ N else ρ t) (swapTo N s t) = ρ t ∧ swapTo N s t < N := fun t ht hts => by
    unfold swapTo
    by_cases e : t = N
    · subst e; rw [if_pos (Nat.beq_refl _)]; exact ⟨by simp, hs⟩
    · rw [if_neg (fun hb => e (Nat.eq_of_beq_eq_true hb))]
      exact ⟨by simp [hts], by omega⟩
  -- where an object comes from
  have hor : ∀ t o, H2[t]? = some o → ∃ t' a, (A ++ [x])[t']? = some a ∧ o = a.ren (swapTo N s) ∧ (if t = s then ρ N else ρ t) = ρ t' ∧ ((t = s ∧ t' = N) ∨ (t ≠ s ∧ t' = t ∧ t < N)) := fun t o ho => by
    rcases hget t o ho with ⟨rfl, rfl⟩ | ⟨hts, a, ha, rfl⟩
    · exact ⟨N, x, by rw [← hN]; simp, rfl, by simp, .inl ⟨rfl, rfl⟩⟩
    · have hlt := (List.getElem?_eq_some_iff.1 ha).1
      exact ⟨t, a, by rw [List.getElem?_append_left hlt]; exact ha, rfl, by simp [hts], .inr ⟨hts, rfl, by omega⟩⟩
  have hlen : (A ++ [x]).length = N + 1 := by simp [hN]
  have hobjblk : ∀ (tk : Tk) (o : SObj), objBlk tk (o.ren (swapTo N s)) = objBlk tk o := fun tk o => by cases o <;> rfl
  have hblk : ∀ t b, blkOf (fun t => if t = s then ρ N else ρ t) H2 t = some b → ∃ t', blkOf ρ (A ++ [x]) t' = some b ∧ ((t = s ∧ t' = N) ∨ (t ≠ s ∧ t' = t ∧ t < N)) := fun t b hb => by
    obtain ⟨o, ho, h2⟩ := blkOf_get hb
    obtain ⟨t', a, e1, e2, e3, e4⟩ := hor t o ho
    refine ⟨t', ?_, e4⟩
    rw [blkOf_eq e1, ← e3, ← hobjblk, ← e2]; exact h2
  have hspec : ∀ (t' : Nat) (a : SObj), (A ++ [x])[t']? = some a → ∀ t, t ∈ a.toks → (fun t => if t = s then ρ N else ρ t) (swapTo N s t) = ρ t ∧ swapTo N s t < N := fun t' a ha t ht => by
    have hlt := obj_toks_lt (h.ok t' a ha) t ht
    rw [hlen] at hlt
    exact hg t (by omega) (fun e => hsA t' a ha (e ▸ ht))
  refine ⟨fun t o ho => ?_, fun t u b h1 h2 => ?_, fun t b h1 => ?_, fun t => ?_, h.keep, h.size, h.os, h.tape, h.output, fun t o ho => ?_, h.fit⟩
  · obtain ⟨t', a, e1, rfl, e3, _⟩ := hor t o ho
    have hob := h.obj t' a e1
    have hok := h.ok t' a e1
    simp only [e3]
    cases a with
    | cells l T =>
      have := renL_spec (R := C.R) (w := C.w1) (ρ := ρ) (ρ' := fun t => if t = s then ρ N else ρ t) l (hspec t' _ e1) hok.1
      simp only [SObj.ren, ObjRel] at hob ⊢
      rw [this.2.2]; exact hob
    | seq κ xs E => exact hob
    | dead => trivial
  · obtain ⟨t', e1, e2⟩ := hblk t b h1
    obtain ⟨u', e3, e4⟩ := hblk u b h2
    have := h.sep t' u' b e1 e3
    rcases e2 with ⟨a1, a2⟩ | ⟨a1, a2, a3⟩ <;> rcases e4 with ⟨b1, b2⟩ | ⟨b1, b2, b3⟩ <;> omega
  · obtain ⟨t', e1, _⟩ := hblk t b h1
    exact h.own t' b e1
  · by_cases e : t = s
    · simp only [e, if_true]; exact h.hdr N
    · simp only [if_neg e]; exact h.hdr t
  · obtain ⟨t', a, e1, rfl, e3, _⟩ := hor t o ho
    have hok := h.ok t' a e1
    rw [hl]
    cases a with
    | cells l T =>
      have := renL_spec (R := C.R) (w := C.w1) (ρ := ρ) (ρ' := fun t => if t = s then ρ N else ρ t) l (hspec t' _ e1) hok.1
      exact ⟨this.2.1, by rw [ren_leaves]; exact hok.2⟩
    | seq κ xs E => trivial
    | dead => trivial

def getF (F : Fr) (d : Nat) : Option SV := (F[d]?).join
theorem getF_put (F : Fr) (dst : Option Tmp) (v : SV) (d : Nat) : getF (put F dst v) d = if dst = some d ∧ d < F.length then some v else getF F d := by
  cases dst with
  | none => simp [put]
  | some t =>
    simp only [put, getF, Option.some.injEq]
    by_cases e : t = d
    · subst e
      by_cases hl : t < F.length
      · simp [hl]
      · have hl' := Nat.le_of_not_lt hl
        have h1 : F[t]? = none := List.getElem?_eq_none hl'
        have h2 : (F.set t (some v))[t]? = none := List.getElem?_eq_none (by rw [List.length_set]; exact hl')
        rw [h1, h2, if_neg (fun h => hl h.2)]
    · rw [List.getElem?_set_ne e, if_neg (fun h => e h.1)]
theorem put_length (F : Fr) (dst : Option Tmp) (v : SV) : (put F dst v).length = F.length := by cases dst <;> simp [put]

theorem wp_unlisted {X : Array Bool} {n : Nat} (hX : X.size = n) {i : Nat} (hi : i < n) (h : X.getD i true = false) : X.getD i false = false := by
  have : i < X.size := by omega
  simp [this] at h ⊢; exact h
end Go.Proofs.Ytkjellhkamfciaa.Sx
end

section
/- SX: regions whose order is open: the theorem. -/
namespace Go.Proofs.Ytkjellhkamfciaa.Sx
open Go Go.RowKit

/-- A run in the order of the text, whole, with the look at its records. -/
structure Whole (P : Program) (ops : Array Oper) (B : Nat) (F0 : Fr) (H0 : Hp) (st : Nat → St) (recs : List Rec) (ancs : List (List Nat)) : Prop where
  len : H0.length = B
  init : st 0 = ⟨F0, H0 ++ List.replicate ops.size .dead⟩
  step : ∀ k, k < ops.size → ∃ o rec, ops[k]? = some o ∧ recs[k]? = some rec ∧ StepD P ops B (B + ops.size) k o (st k) rec (st (k + 1))
  anc : ancL ops.toList [] = some ancs
  ok : allOk ops B ancs ops.toList recs 0 ops.toList recs = true

def dRec : Rec := ⟨none, .raw undef, [], [], []⟩
def wF (recs : List Rec) (n d k : Nat) : Option (Option SV) := if (recs.getD k dRec).dst = some d ∧ d < n then some (some (recs.getD k dRec).v) else none
def wH (recs : List Rec) (st : Nat → St) (t k : Nat) : Option (Option SObj) := if memN t (recs.getD k dRec).W then some ((st (k + 1)).H[t]?) else none

section
variable {P : Program} {ops : Array Oper} {B : Nat} {F0 : Fr} {H0 : Hp} {st : Nat → St} {recs : List Rec} {ancs : List (List Nat)} (W : Whole P ops B F0 H0 st recs ancs)
include W

theorem Whole.stepAt {k : Nat} (hk : k < ops.size) : ∃ o, ops[k]? = some o ∧ StepD P ops B (B + ops.size) k o (st k) (recs.getD k dRec) (st (k + 1)) := by
  obtain ⟨o, rec, h1, h2, h3⟩ := W.step k hk
  exact ⟨o, h1, by rw [List.getD_eq_getElem?_getD, h2]; exact h3⟩
theorem Whole.recAt {k : Nat} (hk : k < ops.size) : recs[k]? = some (recs.getD k dRec) := by
  obtain ⟨o, rec, h1, h2, h3⟩ := W.step k hk
  rw [List.getD_eq_getElem?_getD, h2]; rfl
theorem Whole.lens : ∀ k, k ≤ ops.size → (st k).F.length = F0.length ∧ (st k).H.length = B + ops.size
  | 0, _ => by rw [W.init]; exact ⟨rfl, by simp [W.len]⟩
  | k + 1, h => by
    obtain ⟨h1, h2⟩ := Whole.lens k (by omega)
    obtain ⟨o, _, hs⟩ := W.stepAt (k := k) (by omega)
    refine ⟨by rw [hs.F, put_length]; exact h1, ?_⟩
    rcases hs.step with ⟨_, _, _, _, e⟩ | ⟨_, T, v, M, _, _, ⟨e1, _, e2, _⟩ | ⟨x, _, e1, _, _, _, _, e2, _⟩⟩
    · rw [e]; exact h2
    · rw [e2, mergeH_length (by omega)]; exact h2
    · rw [e2, List.length_set]
      split
      · rw [mergeH_length (by rw [List.length_map]; omega)]; exact h2
      · exact h2

theorem Whole.textF (d : Nat) : ∀ j, j ≤ ops.size → getF (st j).F d = fw (wF recs F0.length d) (fun _ => true) (getF F0 d) j
  | 0, _ => by rw [W.init]; rfl
  | j + 1, h => by
    obtain ⟨o, _, hs⟩ := W.stepAt (k := j) (by omega)
    have ih := Whole.textF d j (by omega)
    rw [hs.F, getF_put, (W.lens j (by omega)).1, ← hs.dst]
    simp only [fw, if_true, wF]
    split
    · rfl
    · exact ih
theorem Whole.textH (t : Nat) (ht : t < B + ops.size) : ∀ j, j ≤ ops.size → (st j).H[t]? = fw (wH recs st t) (fun _ => true) ((st 0).H[t]?) j
  | 0, _ => rfl
  | j + 1, h => by
    obtain ⟨o, _, hs⟩ := W.stepAt (k := j) (by omega)
    have ih := Whole.textH t ht j (by omega)
    have hlen := (W.lens j (by omega)).2
    simp only [fw, if_true, wH]
    split
    · rename_i b hb
      split at hb
      · cases hb; rfl
      · cases hb
    · rename_i hb
      rw [← ih]
      split at hb
      · cases hb
      rename_i hc
      rcases hs.step with ⟨_, _, _, _, e⟩ | ⟨_, T, v, M, _, hq, ⟨e1, _, e2, e3, e4⟩ | ⟨x, _, e1, _, _, _, _, e2, e3, e4⟩⟩
      · rw [e]
      · rw [e2, mergeH_get (by omega), if_pos (by omega), Nat.zero_add]
        split
        · rename_i hT
          have hw : isWr o = false := by
            cases hw : isWr o with
            | false => rfl
            | true => rw [e4, hw, if_pos rfl] at hc; exact absurd hT hc
          obtain ⟨l, hl⟩ := hq hw
          rw [hl, List.getElem?_append_left (by rw [maskH_length]; omega), maskH_get]
          simp only [Nat.zero_add, hT, if_true, Option.map_id']
        · rfl
      · rw [e4] at hc
        have h1 : t ≠ B + j := fun e => hc (memN_iff.2 (by simp [e]))
        rw [e2, List.getElem?_set_ne (Ne.symm h1)]
        cases hw : isWr o with
        | false => rfl
        | true =>
          rw [hw, if_pos rfl] at hc
          have h2 : ¬ (memN t T = true) := fun hm => hc (memN_iff.2 (List.mem_cons_of_mem _ (memN_iff.1 hm)))
          rw [if_pos rfl, mergeH_get (by rw [List.length_map]; omega), if_pos (by omega), Nat.zero_add, if_neg h2]

theorem Whole.ancs_spec : ∀ k o, ops[k]? = some o → (∀ e ∈ edgesOf o, e < k) ∧ ∀ x, x ∈ ancs.getD k [] ↔ ∃ e ∈ edgesOf o, x = e ∨ x ∈ ancs.getD e [] := by
  intro k o hk
  obtain ⟨_, _, h3⟩ := ancL_spec W.anc
  have := h3 k o (by rw [Array.getElem?_toList]; exact hk)
  simpa using this

/-- Two operations that meet stand in the text's order in every order. -/
theorem Whole.conf {i j : Nat} (hij : i < j) (hj : j < ops.size) {oi oj : Oper} (hoi : ops[i]? = some oi) (hoj : ops[j]? = some oj) (hc : clash ops oi oj (recs.getD i dRec) (recs.getD j dRec) = true) : i ∈ ancs.getD j [] := by
  have h1 := allOk_spec W.ok j oj _ (by rw [Array.getElem?_toList]; exact hoj) (W.recAt hj)
  rw [Nat.zero_add] at h1
  have h2 := noClash_spec h1.1 i oi (recs.getD i dRec) (by rw [List.getElem?_take, if_pos hij, Array.getElem?_toList]; exact hoi) (by rw [List.getElem?_take, if_pos hij]; exact W.recAt (by omega))
  rw [Nat.zero_add] at h2
  rcases h2 with h2 | h2
  · exact h2
  · rw [hc] at h2; cases h2
theorem Whole.vis {j : Nat} (hj : j < ops.size) : ∀ t, t ∈ (recs.getD j dRec).v.toks ∨ t ∈ (recs.getD j dRec).left → t < B ∨ t = B + j ∨ (t - B) ∈ ancs.getD j [] := by
  obtain ⟨o, ho, _⟩ := W.stepAt hj
  have h1 := allOk_spec W.ok j o _ (by rw [Array.getElem?_toList]; exact ho) (W.recAt hj)
  rw [Nat.zero_add] at h1
  intro t ht
  exact visible_spec h1.2 t (by simpa using ht)

/-- What is closed under the edges is closed under what stands ahead. -/
theorem Whole.closed {X : Nat → Bool} (hX : ∀ j o, ops[j]? = some o → X j = true → ∀ e ∈ edgesOf o, X e = true) : ∀ j, j < ops.size → X j = true → ∀ i ∈ ancs.getD j [], X i = true := by
  intro j
  induction j using Nat.strongRecOn with
  | _ j ih =>
    intro hj hXj i hi
    obtain ⟨o, ho, _⟩ := W.stepAt hj
    obtain ⟨h1, h2⟩ := W.ancs_spec j o ho
    obtain ⟨e, he, hx⟩ := (h2 i).1 hi
    have hel := h1 e he
    have hXe := hX j o ho hXj e he
    rcases hx with rfl | hx
    · exact hXe
    · exact ih e hel (by omega) hXe i hx
theorem Whole.ahead {X : Nat → Bool} (hX : ∀ j o, ops[j]? = some o → X j = true → ∀ e ∈ edgesOf o, X e = true) {j : Nat} {o : Oper} (ho : ops[j]? = some o) (hp : ∀ e ∈ edgesOf o, X e = true) : ∀ i ∈ ancs.getD j [], X i = true := by
  intro i hi
  have hj := (Array.getElem?_eq_some_iff.1 ho).1
  obtain ⟨h1, h2⟩ := W.ancs_spec j o ho
  obtain ⟨e, he, hx⟩ := (h2 i).1 hi
  rcases hx with rfl | hx
  · exact hp _ he
  · exact W.closed hX e (by have := h1 e he; omega) (hp e he) i hx
end
end Go.Proofs.Ytkjellhkamfciaa.Sx
end

section
/- SX: regions whose order is open: each order is followed. -/
namespace Go.Proofs.Ytkjellhkamfciaa.Sx
open Go Go.RowKit

def vF (recs : List Rec) (F0 : Fr) (n : Nat) (X : Nat → Bool) (d : Nat) : Option SV := fw (wF recs F0.length d) X (getF F0 d) n
def vH (recs : List Rec) (st : Nat → St) (n : Nat) (X : Nat → Bool) (t : Nat) : Option SObj := fw (wH recs st t) X ((st 0).H[t]?) n
def hpX (recs : List Rec) (st : Nat → St) (n N : Nat) (X : Nat → Bool) : Hp := (List.range N).map fun t => (vH recs st n X t).getD .dead
def frX (recs : List Rec) (F0 : Fr) (n : Nat) (X : Nat → Bool) : Fr := (List.range F0.length).map fun d => vF recs F0 n X d
def lX (listed : Array Bool) : Nat → Bool := fun k => listed.getD k false

structure DInv (C : Cx) (ops : Array Oper) (B : Nat) (F0 : Fr) (st : Nat → St) (recs : List Rec) (ρ0 : Nat → Tk) (d0 : List Deferred) (listed : Array Bool) (ρ : Nat → Tk) (a : Act) (w : World) : Prop where
  lsize : listed.size = ops.size
  closed : ∀ j o, ops[j]? = some o → lX listed j = true → ∀ e ∈ edgesOf o, lX listed e = true
  defers : a.defers = d0
  size : a.tmps.size = F0.length
  val : ∀ d v, vF recs F0 ops.size (lX listed) d = some v → a.tmps[d]? = some (den ρ v) ∧ v.ok C.R C.w1 ρ (B + ops.size)
  heap : Rel C ρ (hpX recs st ops.size (B + ops.size) (lX listed)) w
  agree : ∀ t, t < B → ρ t = ρ0 t

theorem mem_edges {o : Oper} {e : Nat} : e ∈ edgesOf o ↔ ∃ x ∈ o.after, Region.binds .any x = true ∧ x.on = e := by
  unfold edgesOf
  simp only [List.mem_map, List.mem_filter, Array.mem_toList_iff]
  constructor
  · rintro ⟨x, ⟨h1, h2⟩, h3⟩; exact ⟨x, h1, h2, h3⟩
  · rintro ⟨x, h1, h2, h3⟩; exact ⟨x, ⟨h1, h2⟩, h3⟩

section
variable {P : Program} {ops : Array Oper} {B : Nat} {F0 : Fr} {H0 : Hp} {st : Nat → St} {recs : List Rec} {ancs : List (List Nat)} (W : Whole P ops B F0 H0 st recs ancs)
include W

theorem Whole.vH_some (X : Nat → Bool) {t : Nat} (ht : t < B + ops.size) : ∃ o, vH recs st ops.size X t = some o := by
  unfold vH
  rcases fw_cases (w := wH recs st t) (X := X) (init := (st 0).H[t]?) ops.size with h | ⟨k, hk, _, h⟩
  · rw [h]
    have := (W.lens 0 (by omega)).2
    exact ⟨_, List.getElem?_eq_getElem (by omega)⟩
  · cases hh : fw (wH recs st t) X ((st 0).H[t]?) ops.size with
    | some o => exact ⟨o, rfl⟩
    | none =>
      rw [hh] at h
      unfold wH at h
      split at h
      · have := (W.lens (k + 1) (by omega)).2
        simp only [Option.some.injEq] at h
        rw [List.getElem?_eq_getElem (by omega)] at h; cases h
      · cases h
theorem Whole.hpX_get (X : Nat → Bool) {t : Nat} (ht : t < B + ops.size) : (hpX recs st ops.size (B + ops.size) X)[t]? = vH recs st ops.size X t := by
  obtain ⟨o, ho⟩ := W.vH_some X ht
  unfold hpX
  rw [List.getElem?_map, List.getElem?_range ht]
  simp [ho]
omit W in
theorem hpX_length (X : Nat → Bool) : (hpX recs st ops.size (B + ops.size) X).length = B + ops.size := by simp [hpX]
omit W in
theorem frX_get (X : Nat → Bool) (d : Nat) : getF (frX recs F0 ops.size X) d = vF recs F0 ops.size X d := by
  unfold frX getF
  by_cases hd : d < F0.length
  · rw [List.getElem?_map, List.getElem?_range hd]; rfl
  · rw [List.getElem?_eq_none (by simpa using hd)]
    unfold vF
    rcases fw_cases (w := wF recs F0.length d) (X := X) (init := getF F0 d) ops.size with h | ⟨k, _, _, h⟩
    · rw [h]; unfold getF; rw [List.getElem?_eq_none (by omega)]
    · unfold wF at h
      rw [if_neg (fun hc => hd hc.2)] at h; cases h

/-- What is mentioned has been made. -/
theorem Whole.visF {X : Nat → Bool} (hcl : ∀ j, j < ops.size → X j = true → ∀ i ∈ ancs.getD j [], X i = true) (h0 : ∀ d v, getF F0 d = some v → ∀ t, t ∈ v.toks → t < B) :
    ∀ d v, vF recs F0 ops.size X d = some v → ∀ t, t ∈ v.toks → t < B ∨ X (t - B) = true := by
  intro d v hv t ht
  rcases fw_cases (w := wF recs F0.length d) (X := X) (init := getF F0 d) ops.size with h | ⟨k, hk, hX, h⟩
  · exact .inl (h0 d v (by rw [← h]; exact hv) t ht)
  · unfold vF at hv
    rw [hv] at h
    unfold wF at h
    split at h
    · simp only [Option.some.injEq] at h
      rcases W.vis hk t (.inl (by rw [h]; exact ht)) with h1 | h1 | h1
      · exact .inl h1
      · exact .inr (by rw [h1, show B + k - B = k by omega]; exact hX)
      · exact .inr (hcl k hk hX _ h1)
    · cases h
theorem Whole.visH {X : Nat → Bool} (hcl : ∀ j, j < ops.size → X j = true → ∀ i ∈ ancs.getD j [], X i = true) (h0 : ∀ (t : Nat) (o : SObj), H0[t]? = some o → ∀ s, s ∈ o.toks → s < B) :
    ∀ (t : Nat) (o : SObj), (hpX recs st ops.size (B + ops.size) X)[t]? = some o → ∀ s, s ∈ o.toks → s < B ∨ X (s - B) = true := by
  intro t o ho s hs
  have ht : t < B + ops.size := by have := (List.getElem?_eq_some_iff.1 ho).1; rwa [hpX_length] at this
  rw [W.hpX_get X ht] at ho
  rcases fw_cases (w := wH recs st t) (X := X) (init := (st 0).H[t]?) ops.size with h | ⟨k, hk, hX, h⟩
  · unfold vH at ho
    rw [h, W.init] at ho
    simp only at ho
    by_cases hB : t < H0.length
    · rw [List.getElem?_append_left hB] at ho
      exact .inl (h0 t o ho s hs)
    · rw [List.getElem?_append_right (by omega), List.getElem?_replicate] at ho
      split at ho
      · cases ho; simp [SObj.toks] at hs
      · cases ho
  · unfold vH at ho
    rw [ho] at h
    unfold wH at h
    split at h
    · rename_i hc
      simp only [Option.some.injEq] at h
      obtain ⟨ok, _, hst⟩ := W.stepAt hk
      have hl : s ∈ (recs.getD k dRec).left := by rw [hst.left]; exact mem_toksAt (hst.WT (memN_iff.1 hc)) h hs
      rcases W.vis hk s (.inr hl) with h1 | h1 | h1
      · exact .inl h1
      · exact .inr (by rw [h1, show B + k - B = k by omega]; exact hX)
      · exact .inr (hcl k hk hX _ h1)
    · cases h

/-- A slot that an operation reads or writes holds what it holds in the order of the text. -/
theorem Whole.slot {X : Nat → Bool} {j : Nat} {oj : Oper} (hj : j < ops.size) (hoj : ops[j]? = some oj) (hXj : X j = false) (hah : ∀ i ∈ ancs.getD j [], X i = true) (hcl : ∀ j, j < ops.size → X j = true → ∀ i ∈ ancs.getD j [], X i = true)
    {d : Nat} (hd : ∀ (i : Nat) (oi : Oper), ops[i]? = some oi → (recs.getD i dRec).dst = some d → (clash ops oi oj (recs.getD i dRec) (recs.getD j dRec) = true ∧ clash ops oj oi (recs.getD j dRec) (recs.getD i dRec) = true)) :
    ∀ k, k < ops.size → wF recs F0.length d k ≠ none → X k = decide (k < j) := by
  intro k hk hw
  obtain ⟨ok, hok, _⟩ := W.stepAt hk
  have hdst : (recs.getD k dRec).dst = some d := by
    unfold wF at hw
    split at hw
    · rename_i h; exact h.1
    · exact absurd rfl hw
  obtain ⟨c1, c2⟩ := hd k ok hok hdst
  rcases Nat.lt_trichotomy k j with h | h | h
  · rw [decide_eq_true h]; exact hah k (W.conf h hj hok hoj c1)
  · subst h; simp [hXj]
  · rw [decide_eq_false (by omega)]
    cases hx : X k with
    | false => rfl
    | true => rw [hcl k hk hx j (W.conf h hk hoj hok c2)] at hXj; cases hXj
theorem Whole.tok {X : Nat → Bool} {j : Nat} {oj : Oper} (hj : j < ops.size) (hoj : ops[j]? = some oj) (hXj : X j = false) (hah : ∀ i ∈ ancs.getD j [], X i = true) (hcl : ∀ j, j < ops.size → X j = true → ∀ i ∈ ancs.getD j [], X i = true)
    {t : Nat} (ht : t ∈ (recs.getD j dRec).T) : ∀ k, k < ops.size → wH recs st t k ≠ none → X k = decide (k < j) := by
  intro k hk hw
  obtain ⟨ok, hok, _⟩ := W.stepAt hk
  have hT : t ∈ (recs.getD k dRec).W := by
    unfold wH at hw
    split at hw
    · rename_i h; exact memN_iff.1 h
    · exact absurd rfl hw
  rcases Nat.lt_trichotomy k j with h | h | h
  · rw [decide_eq_true h]
    exact hah k (W.conf h hj hok hoj (by simp only [clash, meets_of hT ht, Bool.true_or, Bool.or_true]))
  · subst h; simp [hXj]
  · rw [decide_eq_false (by omega)]
    cases hx : X k with
    | false => rfl
    | true => rw [hcl k hk hx j (W.conf h hk hoj hok (by simp only [clash, meets_of hT ht, Bool.or_true]))] at hXj; cases hXj
theorem Whole.heapAt {X : Nat → Bool} {j : Nat} {oj : Oper} (hj : j < ops.size) (hoj : ops[j]? = some oj) (hXj : X j = false) (hah : ∀ i ∈ ancs.getD j [], X i = true) (hcl : ∀ j, j < ops.size → X j = true → ∀ i ∈ ancs.getD j [], X i = true)
    {t : Nat} (ht : t ∈ (recs.getD j dRec).T) (hlt : t < B + ops.size) : vH recs st ops.size X t = (st j).H[t]? := by
  unfold vH
  rw [W.textH t hlt j (by omega), ← fw_all (w := wH recs st t) (init := (st 0).H[t]?) (j := j) (n := ops.size) (by omega)]
  exact fw_agree (W.tok hj hoj hXj hah hcl ht)

/-- Behind the step. -/
theorem Whole.slotNext {X : Nat → Bool} {j : Nat} {oj : Oper} (hj : j < ops.size) (hoj : ops[j]? = some oj) (hXj : X j = false) (hah : ∀ i ∈ ancs.getD j [], X i = true) (hcl : ∀ j, j < ops.size → X j = true → ∀ i ∈ ancs.getD j [], X i = true)
    {X' : Nat → Bool} (hX' : ∀ k, X' k = if k = j then true else X k) (d : Nat) : vF recs F0 ops.size X' d = if (recs.getD j dRec).dst = some d ∧ d < F0.length then some (recs.getD j dRec).v else vF recs F0 ops.size X d := by
  by_cases hd : (recs.getD j dRec).dst = some d ∧ d < F0.length
  · rw [if_pos hd]
    have hag : ∀ k, k < ops.size → wF recs F0.length d k ≠ none → X' k = decide (k < j + 1) := fun k hk hw => by
      have hs := W.slot hj hoj hXj hah hcl (d := d) (fun i oi hoi hdi => by
        have e1 : sameDst (recs.getD i dRec).dst (recs.getD j dRec).dst = true := by rw [hdi, hd.1]; exact Nat.beq_refl d
        have e2 : sameDst (recs.getD j dRec).dst (recs.getD i dRec).dst = true := by rw [hdi, hd.1]; exact Nat.beq_refl d
        simp only [clash, e1, e2, Bool.or_true, Bool.true_or, and_self]) k hk hw
      rw [hX' k]
      split
      · rename_i e; subst e; simp
      · rw [hs]; by_cases h : k < j
        · simp [h]; omega
        · simp [h]; omega
    unfold vF
    rw [fw_agree hag, fw_all (by omega)]
    simp only [fw, if_true, wF, if_pos hd]
  · rw [if_neg hd]
    unfold vF
    refine fw_agree fun k hk hw => ?_
    rw [hX' k, if_neg]
    intro e; subst e
    exact hw (by unfold wF; rw [if_neg hd])
theorem Whole.tokNext {X : Nat → Bool} {j : Nat} {oj : Oper} (hj : j < ops.size) (hoj : ops[j]? = some oj) (hXj : X j = false) (hah : ∀ i ∈ ancs.getD j [], X i = true) (hcl : ∀ j, j < ops.size → X j = true → ∀ i ∈ ancs.getD j [], X i = true)
    {X' : Nat → Bool} (hX' : ∀ k, X' k = if k = j then true else X k) {t : Nat} (ht : t < B + ops.size) : vH recs st ops.size X' t = if t ∈ (recs.getD j dRec).W then (st (j + 1)).H[t]? else vH recs st ops.size X t := by
  by_cases hd : t ∈ (recs.getD j dRec).W
  · rw [if_pos hd]
    have hag : ∀ k, k < ops.size → wH recs st t k ≠ none → X' k = decide (k < j + 1) := fun k hk hw => by
      have hs := W.tok hj hoj hXj hah hcl (by obtain ⟨_, _, hst⟩ := W.stepAt hj; exact hst.WT hd) k hk hw
      rw [hX' k]
      split
      · rename_i e; subst e; simp
      · rw [hs]; by_cases h : k < j
        · simp [h]; omega
        · simp [h]; omega
    unfold vH
    rw [fw_agree hag, fw_all (by omega), W.textH t ht (j + 1) (by omega)]
  · rw [if_neg hd]
    unfold vH
    refine fw_agree fun k hk hw => ?_
    rw [hX' k, if_neg]
    intro e; subst e
    exact hw (by
      unfold wH
      rw [if_neg fun h => hd (memN_iff.1 h)])
end
end Go.Proofs.Ytkjellhkamfciaa.Sx
end

section
/- SX: regions whose order is open: one step in whatever order. -/
namespace Go.Proofs.Ytkjellhkamfciaa.Sx
open Go Go.RowKit

theorem getF_some {F : Fr} {d : Nat} {v : SV} (h : F[d]? = some (some v)) : getF F d = some v := by unfold getF; rw [h]; rfl
theorem some_getF {F : Fr} {d : Nat} {v : SV} (h : getF F d = some v) : F[d]? = some (some v) := by
  unfold getF at h
  cases hq : F[d]? with
  | none => simp [hq] at h
  | some y => cases y <;> simp_all

section
variable {P : Program} {ops : Array Oper} {B : Nat} {F0 : Fr} {H0 : Hp} {st : Nat → St} {recs : List Rec} {ancs : List (List Nat)} (W : Whole P ops B F0 H0 st recs ancs)
include W

theorem Whole.step_any (hF0 : ∀ d v, getF F0 d = some v → ∀ t, t ∈ v.toks → t < B) (hH0 : ∀ (t : Nat) (o : SObj), H0[t]? = some o → ∀ s, s ∈ o.toks → s < B)
    {C : Cx} {ρ0 : Nat → Tk} {d0 : List Deferred} {listed : Array Bool} {ρ : Nat → Tk} {a : Act} {w : World} (I : DInv C ops B F0 st recs ρ0 d0 listed ρ a w)
    {j : Nat} {o : Oper} (hoj : ops[j]? = some o) (hun : lX listed j = false) (hpre : ∀ e ∈ edgesOf o, lX listed e = true)
    {Q : Exit → Act → World → Prop} {K : Act → World → Prop} (hK : ∀ ρ' a' w', DInv C ops B F0 st recs ρ0 d0 (listed.setIfInBounds j true) ρ' a' w' → K a' w') : wpOp P ops Q j K a w := by
  have hj := (Array.getElem?_eq_some_iff.1 hoj).1
  have hcl := W.closed I.closed
  have hah := W.ahead I.closed hoj hpre
  obtain ⟨o', ho', hst⟩ := W.stepAt hj
  have : o' = o := by rw [hoj] at ho'; exact (Option.some.inj ho').symm
  subst this
  obtain ⟨lF, lH⟩ := W.lens j (by omega)
  have hX' : ∀ k, lX (listed.setIfInBounds j true) k = if k = j then true else lX listed k := fun k => by
    unfold lX
    by_cases e : k = j
    · subst e; rw [if_pos rfl]; simp [I.lsize, hj]
    · rw [if_neg e, getD_set_ne false (Ne.symm e)]
  have hcl' : ∀ i oi, ops[i]? = some oi → lX (listed.setIfInBounds j true) i = true → ∀ e ∈ edgesOf oi, lX (listed.setIfInBounds j true) e = true := fun i oi hi hx e he => by
    rw [hX' e]
    split
    · rfl
    · rw [hX' i] at hx
      split at hx
      · rename_i e1; subst e1
        have : oi = o' := by rw [hoj] at hi; exact (Option.some.inj hi).symm
        subst this; exact hpre e he
      · exact I.closed i oi hi hx e he
  -- the slots that are read
  have hread : ∀ d, d ∈ readsOf ops o' → vF recs F0 ops.size (lX listed) d = getF (st j).F d := fun d hd => by
    rw [W.textF d j (by omega), ← fw_all (w := wF recs F0.length d) (init := getF F0 d) (j := j) (n := ops.size) (by omega)]
    refine fw_agree (W.slot hj hoj hun hah hcl fun i oi hoi hdi => ?_)
    have e1 : dstIn (recs.getD i dRec).dst (readsOf ops o') = true := by rw [hdi]; exact memN_iff.2 hd
    simp only [clash, e1, Bool.or_true, Bool.true_or, and_self]
  have hvis := W.visF hcl hF0
  have hvisH := W.visH hcl hH0
  -- the guard
  have hguard : ∀ b, guardLit ops o' (st j).F = some b → Region.wanted o' (yielded ops a.tmps) = b := by
    intro b hb
    unfold guardLit at hb
    unfold Region.wanted
    split at hb
    · rename_i hg; rw [hg]; simpa using hb
    · rename_i g want hg
      rw [hg]
      simp only
      unfold guardOf at hb
      cases hd : (ops[g]?).bind (·.dst) with
      | none => rw [hd] at hb; cases hb
      | some d =>
        rw [hd] at hb
        have hdr : d ∈ readsOf ops o' := by unfold readsOf; rw [hg]; simp [hd]
        have hv := hread d hdr
        rw [yielded_of hd]
        cases hF : (st j).F[d]? with
        | none => simp [hF] at hb
        | some y =>
          cases y with
          | none => simp [hF] at hb
          | some v =>
            rw [getF_some hF] at hv
            have hval := (I.val d v hv).1
            simp only [hF] at hb
            cases v with
            | bool c => simp at hb; subst hb; rw [hval]; simp [den]
            | raw u =>
              cases u with
              | tuple vs => simp at hb; subst hb; rw [hval]; simp [den]
              | _ => simp at hb
            | _ => simp at hb
  -- what is to be shown behind the operation
  have finish : ∀ (ρ' : Nat → Tk) (a' : Act) (w' : World), a' = a.put o'.dst (den ρ' (recs.getD j dRec).v) → (∀ t, (t < B ∨ lX listed (t - B) = true) → t < B + ops.size → ρ' t = ρ t) → (recs.getD j dRec).v.ok C.R C.w1 ρ' (B + ops.size) →
      Rel C ρ' (hpX recs st ops.size (B + ops.size) (lX (listed.setIfInBounds j true))) w' → K a' w' := by
    intro ρ' a' w' ha hr hv hR
    subst ha
    refine hK ρ' _ w' ⟨by simp [I.lsize], hcl', by rw [put_defers]; exact I.defers, ?_, fun d v hdv => ?_, hR, fun t ht => by rw [hr t (.inl ht) (by omega)]; exact I.agree t ht⟩
    · cases o'.dst <;> simp [Act.put, I.size]
    · rw [W.slotNext hj hoj hun hah hcl hX' d] at hdv
      split at hdv
      · rename_i hc
        simp only [Option.some.injEq] at hdv
        subst hdv
        refine ⟨?_, hv⟩
        rw [← hst.dst, hc.1]
        simp [Act.put, I.size, hc.2]
      · rename_i hc
        obtain ⟨h1, h2⟩ := I.val d v hdv
        obtain ⟨g1, g2⟩ := den_toks (ρ' := ρ') (n' := B + ops.size) v (fun t ht => ⟨hr t (hvis d v hdv t ht) (toks_lt v h2 t ht), toks_lt v h2 t ht⟩) h2
        refine ⟨?_, g2⟩
        rw [g1]
        have hne : o'.dst = some d → False := fun e => hc ⟨by rw [hst.dst]; exact e, by
          have := (Array.getElem?_eq_some_iff.1 h1).1
          rw [I.size] at this; exact this⟩
        cases hdst : o'.dst with
        | none => exact h1
        | some d' =>
          simp only [Act.put]
          rw [Array.getElem?_setIfInBounds_ne (fun e => hne (by rw [hdst, e]))]; exact h1
  -- the heap behind the operation
  have hheap : ∀ (t : Nat) (o : SObj), t < B + ops.size → (hpX recs st ops.size (B + ops.size) (lX (listed.setIfInBounds j true)))[t]? = if t ∈ (recs.getD j dRec).W then (st (j + 1)).H[t]? else (hpX recs st ops.size (B + ops.size) (lX listed))[t]? := fun t _ ht => by
    rw [W.hpX_get _ ht, W.hpX_get _ ht]
    exact W.tokNext hj hoj hun hah hcl hX' ht
  unfold wpOp
  rw [hoj]
  simp only
  rcases hst.step with ⟨hg, hv, hT, hW, hH⟩ | ⟨hg, T, v, M, hop, hq, hcase⟩
  · rw [if_neg (by rw [hguard _ hg]; exact Bool.false_ne_true)]
    refine finish ρ _ w (by rw [hv]; rfl) (fun _ _ _ => rfl) (by rw [hv]; simp [SV.ok, undef]) ?_
    have : hpX recs st ops.size (B + ops.size) (lX (listed.setIfInBounds j true)) = hpX recs st ops.size (B + ops.size) (lX listed) := by
      apply List.ext_getElem?
      intro t
      by_cases ht : t < B + ops.size
      · rw [hheap t .dead ht, if_neg (by rw [hW]; simp)]
      · rw [List.getElem?_eq_none (by rw [hpX_length]; omega), List.getElem?_eq_none (by rw [hpX_length]; omega)]
    rw [this]; exact I.heap
  · rw [if_pos (hguard _ hg)]
    refine .inl ?_
    -- the operation, as it is carried out here
    have hTin : ∀ t, t ∈ T → t ∈ (recs.getD j dRec).T := fun t ht => by
      rcases hcase with ⟨_, _, _, e, _⟩ | ⟨_, _, _, _, _, _, _, _, e, _⟩ <;> rw [e]
      · exact ht
      · exact List.mem_cons_of_mem _ ht
    have hmask : maskH T 0 (st j).H = maskH T 0 (hpX recs st ops.size (B + ops.size) (lX listed)) := by
      apply List.ext_getElem?
      intro t
      rw [maskH_get, maskH_get, Nat.zero_add]
      by_cases ht : t < B + ops.size
      · by_cases hm : memN t T = true
        · rw [W.hpX_get _ ht, W.heapAt hj hoj hun hah hcl (hTin t (memN_iff.1 hm)) ht]
        · have h1 : ∃ o, (st j).H[t]? = some o := ⟨_, List.getElem?_eq_getElem (by omega)⟩
          have h2 : ∃ o, (hpX recs st ops.size (B + ops.size) (lX listed))[t]? = some o := ⟨_, List.getElem?_eq_getElem (by rw [hpX_length]; omega)⟩
          obtain ⟨o1, h1⟩ := h1
          obtain ⟨o2, h2⟩ := h2
          simp [h1, h2, hm]
      · rw [List.getElem?_eq_none (by omega), List.getElem?_eq_none (by rw [hpX_length]; omega)]
    have hA : Agree o' (st j).F (frX recs F0 ops.size (lX listed)) := fun x hx => by
      cases x with
      | tmp d =>
        have hd : d ∈ readsOf ops o' := by unfold readsOf; exact List.mem_append_right _ (mem_tmpsOf hx)
        have := hread d hd
        rw [← frX_get (recs := recs) (F0 := F0)] at this
        exact this
      | _ => rfl
    have hgood := hop _ hA
    rw [hmask] at hgood
    have hmR := I.heap.mask T
    have hFr : FRel (C.inner ρ (hpX recs st ops.size (B + ops.size) (lX listed)) (· ∈ T) w) ρ (maskH T 0 (hpX recs st ops.size (B + ops.size) (lX listed))).length (frX recs F0 ops.size (lX listed)) a.tmps := by
      refine ⟨by rw [I.size]; simp [frX], fun d v hd => ?_⟩
      have := getF_some hd
      rw [frX_get] at this
      obtain ⟨h1, h2⟩ := I.val d v this
      refine ⟨h1, ?_⟩
      rw [maskH_length, hpX_length]
      exact ok_world (fun b hb => I.heap.roKeep b hb) v h2
    refine hgood.wp _ ρ a w hFr hmR K Q fun ρ1 w1 hr1 hR1 hv1 => ?_
    rw [maskH_length, hpX_length] at hr1
    have hlenM : B + ops.size ≤ M.length := by rcases hcase with ⟨e, _⟩ | ⟨_, _, e, _⟩ <;> omega
    have hun2 := I.heap.unmask hR1 (by rw [hpX_length]; exact hlenM) (by rw [hpX_length]; exact hr1)
    rw [hpX_length] at hun2
    have hvok : v.ok C.R C.w1 ρ1 M.length := ok_world (fun b hb => (I.heap.roKeep b hb).symm) v hv1
    rcases hcase with ⟨e1, e2, e3, e4, e5⟩ | ⟨x, e0, e1, n1, n2, n3, e2, e3, e4, e5⟩
    · -- no new object
      refine finish ρ1 _ w1 (by rw [e2]) (fun t _ ht => hr1 t ht) (by rw [e2, ← e1]; exact hvok) ?_
      have : mergeH T 0 (hpX recs st ops.size (B + ops.size) (lX listed)) M ++ M.drop (B + ops.size) = hpX recs st ops.size (B + ops.size) (lX (listed.setIfInBounds j true)) := by
        rw [List.drop_of_length_le (by omega), List.append_nil]
        apply List.ext_getElem?
        intro t
        by_cases ht : t < B + ops.size
        · rw [hheap t .dead ht, mergeH_get (by rw [hpX_length]; omega), hpX_length, if_pos ht, Nat.zero_add, e5]
          by_cases hm : memN t T = true
          · rw [if_pos hm]
            cases hw : isWr o' with
            | true => rw [if_pos rfl, if_pos (memN_iff.1 hm), e3, mergeH_get (by omega), if_pos (by omega), Nat.zero_add, if_pos hm]
            | false =>
              rw [if_neg (by simp)]
              obtain ⟨l, hl⟩ := hq hw
              rw [hl, List.getElem?_append_left (by rw [maskH_length]; omega), hmask, maskH_get, Nat.zero_add]
              simp only [hm, if_true, Option.map_id']
          · rw [if_neg hm, if_neg (fun h => by
              split at h
              · exact hm (memN_iff.2 h)
              · cases h)]
        · rw [List.getElem?_eq_none (by rw [mergeH_length (by rw [hpX_length]; omega), hpX_length]; omega), List.getElem?_eq_none (by rw [hpX_length]; omega)]
      rw [this] at hun2
      exact hun2
    · -- a new object
      have hMx : M.drop (B + ops.size) = [x] := by
        apply List.ext_getElem?
        intro t
        rw [List.getElem?_drop]
        cases t with
        | zero => rw [Nat.add_zero, e0]; rfl
        | succ t => rw [List.getElem?_eq_none (by omega)]; simp
      rw [hMx] at hun2
      have hjB : B + j < B + ops.size := by omega
      -- nothing mentions the new token
      have hsA : ∀ (t : Nat) (o : SObj), (mergeH T 0 (hpX recs st ops.size (B + ops.size) (lX listed)) M ++ [x])[t]? = some o → (B + j) ∉ o.toks := by
        intro t o ho hs
        by_cases ht : t < B + ops.size
        · rw [List.getElem?_append_left (by rw [mergeH_length (by rw [hpX_length]; omega), hpX_length]; exact ht), mergeH_get (by rw [hpX_length]; omega), hpX_length, if_pos ht, Nat.zero_add] at ho
          split at ho
          · exact n2 (mem_hpToks ho hs)
          · rcases hvisH t o ho (B + j) hs with h | h
            · omega
            · rw [show B + j - B = j by omega, hun] at h; cases h
        · rw [List.getElem?_append_right (by rw [mergeH_length (by rw [hpX_length]; omega), hpX_length]; omega), mergeH_length (by rw [hpX_length]; omega), hpX_length] at ho
          have : t - (B + ops.size) = 0 := by
            have := (List.getElem?_eq_some_iff.1 ho).1; simp at this; omega
          rw [this] at ho
          simp at ho; subst ho
          exact n2 (mem_hpToks e0 hs)
      have hA2 : (mergeH T 0 (hpX recs st ops.size (B + ops.size) (lX listed)) M).length = B + ops.size := by rw [mergeH_length (by rw [hpX_length]; omega), hpX_length]
      have hrel := Rel.relocate (H2 := hpX recs st ops.size (B + ops.size) (lX (listed.setIfInBounds j true))) (s := B + j) hun2 hA2 hjB hsA (hpX_length _) (fun t o ho => by
        have ht : t < B + ops.size := by have := (List.getElem?_eq_some_iff.1 ho).1; rwa [hpX_length] at this
        rw [hheap t .dead ht, e5] at ho
        by_cases hts : t = B + j
        · refine .inl ⟨hts, ?_⟩
          rw [if_pos (by rw [hts]; exact List.mem_cons_self), e3, hts, List.getElem?_set_self (by
            split
            · rw [mergeH_length (by rw [List.length_map]; omega)]; omega
            · omega)] at ho
          exact (Option.some.inj ho).symm
        · refine .inr ⟨hts, ?_⟩
          by_cases hm : memN t T = true ∧ isWr o' = true
          · obtain ⟨hm, hw⟩ := hm
            rw [hw, if_pos rfl, if_pos (List.mem_cons_of_mem _ (memN_iff.1 hm)), e3, hw, if_pos rfl, List.getElem?_set_ne (Ne.symm hts), mergeH_get (by rw [List.length_map]; omega), if_pos (by omega), Nat.zero_add, if_pos hm, List.getElem?_map] at ho
            cases hM : M[t]? with
            | none => rw [List.getElem?_eq_none_iff] at hM; omega
            | some m =>
              rw [hM] at ho
              simp only [Option.map_some, Option.some.injEq] at ho
              refine ⟨m, ?_, ho.symm⟩
              rw [mergeH_get (by rw [hpX_length]; omega), hpX_length, if_pos ht, Nat.zero_add, if_pos hm, hM]
          · rw [if_neg (fun h => by
              rcases List.mem_cons.1 h with h | h
              · exact hts h
              · split at h
                · rename_i hw; exact hm ⟨memN_iff.2 h, hw⟩
                · cases h)] at ho
            refine ⟨o, ?_, ?_⟩
            · rw [mergeH_get (by rw [hpX_length]; omega), hpX_length, if_pos ht, Nat.zero_add]
              by_cases hT2 : memN t T = true
              · rw [if_pos hT2]
                have hw : isWr o' = false := by
                  cases hw : isWr o' with
                  | false => rfl
                  | true => exact absurd ⟨hT2, hw⟩ hm
                obtain ⟨l, hl⟩ := hq hw
                rw [hl, List.getElem?_append_left (by rw [maskH_length]; omega), hmask, maskH_get, Nat.zero_add, ho]
                simp only [hT2, if_true, Option.map_some]
              · rw [if_neg hT2, ho]
            · -- its tokens are old
              have hlt := obj_toks_lt (I.heap.ok t o ho)
              rw [hpX_length] at hlt
              cases o with
              | cells l T' =>
                simp only [SObj.ren]
                rw [renL_id l (fun s hs => by
                  have := hlt s hs
                  unfold swapTo; rw [if_neg (fun hb => by have := Nat.eq_of_beq_eq_true hb; omega)])]
              | _ => rfl)
      have hspec := ren_spec (R := C.R) (w := C.w1) (ρ := ρ1) (ρ' := fun t => if t = B + j then ρ1 (B + ops.size) else ρ1 t) (n' := B + ops.size) (g := swapTo (B + ops.size) (B + j)) v (fun t ht => by
        have hlt := toks_lt v hvok t ht
        have hts : t ≠ B + j := fun e => n1 (e ▸ ht)
        unfold swapTo
        by_cases e : t = B + ops.size
        · subst e; rw [if_pos (Nat.beq_refl _)]; exact ⟨by simp, hjB⟩
        · rw [if_neg (fun hb => e (Nat.eq_of_beq_eq_true hb))]
          exact ⟨by simp [hts], by omega⟩) hvok
      refine finish _ _ w1 (by rw [e2, hspec.1]) (fun t hvt ht => ?_) (by rw [e2]; exact hspec.2) hrel
      have hts : t ≠ B + j := fun e => by
        subst e
        rcases hvt with h | h
        · omega
        · rw [show B + j - B = j by omega, hun] at h; cases h
      simp only [if_neg hts]
      exact hr1 t ht

omit W in
theorem count_pos {X : Nat → Bool} : ∀ (n j : Nat), j < n → X j = false → 0 < (List.range n).countP fun k => !X k := fun n j hj hX => by
  rw [List.countP_pos_iff]
  exact ⟨j, List.mem_range.2 hj, by simp [hX]⟩
omit W in
theorem count_next {X X' : Nat → Bool} {j : Nat} (hX : X j = false) (hX' : ∀ k, X' k = if k = j then true else X k) : ∀ n, j < n → ((List.range n).countP fun k => !X' k) + 1 = (List.range n).countP fun k => !X k
  | 0, h => by omega
  | n + 1, h => by
    rw [List.range_succ, List.countP_append, List.countP_append]
    by_cases e : j = n
    · subst e
      have : ∀ m, m ≤ j → ((List.range m).countP fun k => !X' k) = (List.range m).countP fun k => !X k := fun m hm => by
        apply List.countP_congr
        intro k hk
        rw [hX' k, if_neg (by have := List.mem_range.1 hk; omega)]
      rw [this j (Nat.le_refl _)]
      simp [hX' j, hX]
    · have ih := count_next hX hX' n (by omega)
      have : X' n = X n := by rw [hX' n, if_neg (fun h => e h.symm)]
      simp only [List.countP_singleton, this]
      omega

theorem Whole.all_listed {listed : Array Bool} (hs : listed.size = ops.size) (hr : Region.ready .any ops listed = []) : ∀ j, j < ops.size → lX listed j = true := by
  intro j
  induction j using Nat.strongRecOn with
  | _ j ih =>
    intro hj
    cases hx : lX listed j with
    | true => rfl
    | false =>
      obtain ⟨o, ho, _⟩ := W.stepAt hj
      have hl : listed.getD j true = false := by
        unfold lX at hx
        have : j < listed.size := by omega
        simp [this] at hx ⊢; exact hx
      have : j ∈ Region.ready .any ops listed := mem_ready.2 ⟨hl, o, ho, fun e he hb => ih e.on ((W.ancs_spec j o ho).1 e.on (mem_edges.2 ⟨e, he, hb, rfl⟩)) (by have := (W.ancs_spec j o ho).1 e.on (mem_edges.2 ⟨e, he, hb, rfl⟩); omega)⟩
      rw [hr] at this; cases this

theorem Whole.any_order (hF0 : ∀ d v, getF F0 d = some v → ∀ t, t ∈ v.toks → t < B) (hH0 : ∀ (t : Nat) (o : SObj), H0[t]? = some o → ∀ s, s ∈ o.toks → s < B)
    {C : Cx} {ρ0 : Nat → Tk} {d0 : List Deferred} {Q : Exit → Act → World → Prop}
    (hQ : ∀ ρ a w, (∀ t, t < B → ρ t = ρ0 t) → a.defers = d0 → FRel C ρ (B + ops.size) (st ops.size).F a.tmps → Rel C ρ (st ops.size).H w → Q .normal a w) :
    ∀ (fuel : Nat) (listed : Array Bool) (ρ : Nat → Tk) (a : Act) (w : World), DInv C ops B F0 st recs ρ0 d0 listed ρ a w → ((List.range ops.size).countP fun k => !lX listed k) ≤ fuel → wpAny P .any ops Q fuel listed a w := by
  have hend : ∀ (listed : Array Bool) (ρ : Nat → Tk) (a : Act) (w : World), DInv C ops B F0 st recs ρ0 d0 listed ρ a w → (∀ j, j < ops.size → lX listed j = true) → Q .normal a w := by
    intro listed ρ a w I hall
    obtain ⟨lF, lH⟩ := W.lens ops.size (Nat.le_refl _)
    refine hQ ρ a w I.agree I.defers ⟨by rw [I.size, lF], fun d v hv => ?_⟩ ?_
    · refine I.val d v ?_
      rw [← getF_some hv, W.textF d ops.size (Nat.le_refl _)]
      exact fw_agree fun k hk _ => hall k hk
    · have : hpX recs st ops.size (B + ops.size) (lX listed) = (st ops.size).H := by
        apply List.ext_getElem?
        intro t
        by_cases ht : t < B + ops.size
        · rw [W.hpX_get _ ht, W.textH t ht ops.size (Nat.le_refl _)]
          exact fw_agree fun k hk _ => hall k hk
        · rw [List.getElem?_eq_none (by rw [hpX_length]; omega), List.getElem?_eq_none (by omega)]
      rw [← this]; exact I.heap
  intro fuel
  induction fuel with
  | zero =>
    intro listed ρ a w I hc
    have hall : ∀ j, j < ops.size → lX listed j = true := fun j hj => by
      cases hx : lX listed j with
      | true => rfl
      | false => have := count_pos ops.size j hj hx; omega
    refine ⟨?_, hend listed ρ a w I hall⟩
    cases hr : Region.ready .any ops listed with
    | nil => rfl
    | cons i l =>
      have hi : i ∈ Region.ready .any ops listed := by rw [hr]; simp
      obtain ⟨h1, o, ho, _⟩ := mem_ready.1 hi
      have hlt := (Array.getElem?_eq_some_iff.1 ho).1
      have := hall i hlt
      unfold lX at this
      rw [wp_unlisted I.lsize hlt h1] at this; cases this
  | succ fuel ih =>
    intro listed ρ a w I hc
    refine ⟨fun hr => hend listed ρ a w I (W.all_listed I.lsize hr), fun i hi => ?_⟩
    obtain ⟨h1, o, ho, hall⟩ := mem_ready.1 hi
    have hlt := (Array.getElem?_eq_some_iff.1 ho).1
    have hun : lX listed i = false := wp_unlisted I.lsize hlt h1
    refine W.step_any hF0 hH0 I ho hun (fun e he => ?_) fun ρ' a' w' I' => ih _ ρ' a' w' I' ?_
    · obtain ⟨x, hx, hb, rfl⟩ := mem_edges.1 he
      exact hall x hx hb
    · have := count_next (X := lX listed) (X' := lX (listed.setIfInBounds i true)) hun (fun k => by
        unfold lX
        by_cases e : k = i
        · subst e; rw [if_pos rfl]; simp [I.lsize, hlt]
        · rw [if_neg e, getD_set_ne false (Ne.symm e)]) ops.size hlt
      omega
end

theorem dead_rel {C : Cx} {ρ : Nat → Tk} {H : Hp} {w : World} (h : Rel C ρ H w) (n : Nat) : Rel C ρ (H ++ List.replicate n .dead) w := by
  have hg : ∀ (t : Nat) (o : SObj), (H ++ List.replicate n .dead)[t]? = some o → H[t]? = some o ∨ o = .dead := fun t o ho => by
    by_cases ht : t < H.length
    · rw [List.getElem?_append_left ht] at ho; exact .inl ho
    · rw [List.getElem?_append_right (by omega), List.getElem?_replicate] at ho
      split at ho
      · cases ho; exact .inr rfl
      · cases ho
  have hb : ∀ t b, blkOf ρ (H ++ List.replicate n .dead) t = some b → blkOf ρ H t = some b := fun t b hb => by
    obtain ⟨o, ho, h2⟩ := blkOf_get hb
    rcases hg t o ho with h3 | rfl
    · rw [blkOf_eq h3]; exact h2
    · cases h2
  refine ⟨fun t o ho => ?_, fun t t' b h1 h2 => h.sep t t' b (hb t b h1) (hb t' b h2), fun t b h1 => h.own t b (hb t b h1), h.hdr, h.keep, h.size, h.os, h.tape, h.output, fun t o ho => ?_, h.fit⟩
  · rcases hg t o ho with h3 | rfl
    · exact h.obj t o h3
    · trivial
  · rcases hg t o ho with h3 | rfl
    · exact SObj.ok_mono (by simp) (h.ok t o h3)
    · trivial

/-- **A region whose order is open.** -/
theorem draw_sound (E : Env) {α : Type} (hE : EnvOk E) {callf : CallF α} (hcall : CallOk E.P callf) (ops : Array Oper) (base : Nat) (S : St) (hb : base ≤ S.H.length) (K : St → Option α) (r : α) (hm : E.P.follows .mixedOrders = true)
    (h : (drawL E callf ops S.H.length (S.H.length + ops.size) 0 ops.toList ⟨S.F, S.H ++ List.replicate ops.size .dead⟩ [] fun S' recs => if drawOk ops S.H.length recs.reverse then gcSt base S' K else none) = some r) (id : Nat) :
    ∃ S', K S' = some r ∧ CodeGood E.P base (.region id ops true) S .normal S' := by
  obtain ⟨S1, new, h1, htr⟩ := drawL_sound E hE hcall ops S.H.length (S.H.length + ops.size) ops.toList 0 _ [] _ r h
  simp only [List.append_nil, List.reverse_reverse] at h1
  split at h1
  · rename_i hok
    obtain ⟨S2, h2, g2⟩ := gcSt_sound h1
    refine ⟨S2, h2, g2.len, fun C ρ a w hd hF hR => wp_region_any hm ?_⟩
    obtain ⟨st, e1, e2, e3⟩ := htr.states
    unfold drawOk at hok
    split at hok
    · rename_i ancs hanc
      have W : Whole E.P ops S.H.length S.F S.H st new ancs := ⟨rfl, e1, fun k hk => by
        obtain ⟨o, rec, p1, p2, p3⟩ := e3 k (by simpa using hk)
        rw [Nat.zero_add] at p3
        exact ⟨o, rec, by rw [← Array.getElem?_toList]; exact p1, p2, p3⟩, hanc, hok⟩
      have hR0 : Rel C ρ S.H { w with drawn := w.drawn + 1 } := ⟨hR.obj, hR.sep, hR.own, hR.hdr, hR.keep, hR.size, hR.os, hR.tape, hR.output, hR.ok, hR.fit⟩
      have hX0 : ∀ k, lX (Array.replicate ops.size false) k = false := fun k => by
        unfold lX
        rw [Array.getD_eq_getD_getElem?]
        by_cases h : k < ops.size <;> simp [h]
      have hfw : ∀ {β : Type} (wr : Nat → Option β) (init : β) (n : Nat), fw wr (lX (Array.replicate ops.size false)) init n = init := fun wr init n => by
        rcases fw_cases (w := wr) (X := lX (Array.replicate ops.size false)) (init := init) n with h | ⟨k, _, hx, _⟩
        · exact h
        · rw [hX0 k] at hx; cases hx
      have hlen : (Array.toList ops).length = ops.size := by simp
      refine W.any_order (C := C) (ρ0 := ρ) (d0 := a.defers) (fun d v hv => toks_lt v (hF.val d v (some_getF hv)).2) (fun t o ho => obj_toks_lt (hR.ok t o ho)) (fun ρ' a' w' q1 q2 q3 q4 => ?_) ops.size _ ρ a _ ?_ ?_
      · rw [← hlen, e2] at q3 q4
        have l2 := (W.lens ops.size (Nat.le_refl _)).2
        rw [← hlen, e2] at l2
        obtain ⟨ρ2, k1, k2, k3⟩ := g2.rel C ρ' a'.tmps w' (by rw [l2]; exact q3) q4
        exact ⟨rfl, ρ2, by rw [q2, hd], k2, k3, fun t ht => by rw [k1 t ht, q1 t (by omega)]⟩
      · refine ⟨by simp, fun j o _ hx => ?_, rfl, hF.size, fun d v hv => ?_, ?_, fun _ _ => rfl⟩
        · rw [hX0 j] at hx; cases hx
        · unfold vF at hv
          rw [hfw] at hv
          obtain ⟨p1, p2⟩ := hF.val d v (some_getF hv)
          exact ⟨p1, ok_mono (by omega) v p2⟩
        · have : hpX new st ops.size (S.H.length + ops.size) (lX (Array.replicate ops.size false)) = S.H ++ List.replicate ops.size .dead := by
            apply List.ext_getElem?
            intro t
            by_cases ht : t < S.H.length + ops.size
            · rw [W.hpX_get _ ht]; unfold vH; rw [hfw, e1]
            · rw [List.getElem?_eq_none (by rw [hpX_length]; omega), List.getElem?_eq_none (by simp; omega)]
          rw [this]; exact dead_rel hR0 ops.size
      · exact Nat.le_trans List.countP_le_length (by simp)
    · cases hok
  · cases h1
end Go.Proofs.Ytkjellhkamfciaa.Sx
end

section
/- SX: the executor is sound. -/
namespace Go.Proofs.Ytkjellhkamfciaa.Sx
open Go Go.RowKit

section
variable (E : Env) {α : Type}
/-- A loop that is carried out round by round. -/
theorem nilObj_spec {C : Cx} {ρ : Nat → Tk} {H : Hp} {w : World} (h : Rel C ρ H w) (i : Nat) : H.length ≤ (nilObj E i H).length ∧ ∃ ρ', (∀ t, t < H.length → ρ' t = ρ t) ∧ Rel C ρ' (nilObj E i H) w := by
  unfold nilObj
  split
  · rename_i l T hi
    split
    · split
      · rename_i ts _
        have hlt := (List.getElem?_eq_some_iff.1 hi).1
        have hok := h.ok i _ hi
        obtain ⟨ρ', g1, g2, g3, g4, g5⟩ := nilz_spec E ts l ρ H h hok.1 hok.2 (.inr (.inr trivial))
        refine ⟨by simp, ρ', g1, ?_⟩
        have hi' : (H ++ (nilz E ts l H.length).2)[i]? = some (.cells l T) := by rw [List.getElem?_append_left hlt]; exact hi
        have hob := g2.obj i _ hi'
        have := g2.setObj (o' := .cells (nilz E ts l H.length).1 T) (w' := w) hi' (by rw [blkOf_eq hi']; rfl) (fun _ _ => rfl) rfl rfl rfl rfl
          (by simp only [ObjRel] at hob ⊢; rw [g3, hob, denC_agree g1 l hok.1]) (by rw [blkOf_eq (o := .cells (nilz E ts l H.length).1 T) (by rw [List.getElem?_set_self (by simp; omega)])]; rfl) ⟨g4, g5⟩
        rwa [List.set_append_left _ _ hlt] at this
      · exact ⟨Nat.le_refl _, ρ, fun _ _ => rfl, h⟩
    · exact ⟨Nat.le_refl _, ρ, fun _ _ => rfl, h⟩
  · exact ⟨Nat.le_refl _, ρ, fun _ _ => rfl, h⟩
theorem nilGo_len : ∀ (n i : Nat) (H : Hp), H.length ≤ (nilGo E n i H).length
  | 0, i, H => Nat.le_refl _
  | n + 1, i, H => by
    refine Nat.le_trans ?_ (nilGo_len n (i + 1) (nilObj E i H))
    unfold nilObj
    split
    · split
      · split <;> simp
      · exact Nat.le_refl _
    · exact Nat.le_refl _
theorem nilGo_spec {C : Cx} {w : World} : ∀ (n i : Nat) (H : Hp) (ρ : Nat → Tk), Rel C ρ H w → ∃ ρ', (∀ t, t < H.length → ρ' t = ρ t) ∧ Rel C ρ' (nilGo E n i H) w
  | 0, i, H, ρ, h => ⟨ρ, fun _ _ => rfl, h⟩
  | n + 1, i, H, ρ, h => by
    obtain ⟨l1, ρ1, a1, a2⟩ := nilObj_spec E h i
    obtain ⟨ρ2, b1, b2⟩ := nilGo_spec n (i + 1) _ ρ1 a2
    exact ⟨ρ2, fun t ht => by rw [b1 t (by omega), a1 t ht], b2⟩
theorem nilSt_sound {S : St} {K : St → Option α} {r : α} (h : nilSt E S K = some r) : ∃ S', K S' = some r ∧ SameGood S.H.length S S' := by
  unfold nilSt at h
  split at h
  · refine ⟨_, h, nilGo_len E _ _ _, fun C ρ tmps w hF hR => ?_⟩
    obtain ⟨ρ', a1, a2⟩ := nilGo_spec E S.H.length 0 S.H ρ hR
    exact ⟨ρ', a1, hF.next a1 (nilGo_len E _ _ _), a2⟩
  · exact ⟨S, h, Nat.le_refl _, fun C ρ tmps w hF hR => ⟨ρ, fun _ _ => rfl, hF, hR⟩⟩
theorem CodeGood.thenSame {P : Program} {base : Nat} {c : Code} {S S1 S' : St} (h : CodeGood P base c S .normal S1) (h2 : SameGood S1.H.length S1 S') : CodeGood P base c S .normal S' :=
  ⟨Nat.le_trans h.len h2.len, fun C ρ a w hd hF hR => wp_mono (h.wp C ρ a w hd hF hR) fun ex a' w' hp => by
    obtain ⟨p1, ρ', p2, p3, p4, p5⟩ := hp
    obtain ⟨ρ2, q1, q2, q3⟩ := h2.rel C ρ' a'.tmps w' p3 p4
    exact ⟨p1, ρ2, p2, q2, q3, fun t ht => by rw [q1 t (Nat.lt_of_lt_of_le ht h.len), p5 t ht]⟩⟩
theorem loop_sound {fid : FuncId} {path : List Bool} {base : Nat} {x : Code} {run : RunF α} (ih : RunOk E.P run) (hst : Stands E.P fid path (.loop x)) {L : Nat} {S0 : St} {K : Ex → St → Option α} {r : α} (hb : base ≤ S0.H.length)
    (h0 : iter (loopStep E run fid path base x) L S0 K = some r) : ∃ e S', K e S' = some r ∧ CodeGood E.P base (.loop x) S0 e S' := by
  obtain ⟨e, S1, h1, l1, g1⟩ := iter_sound E (c := x) (base := base) (fun S K r hb h => by
    unfold loopStep at h
    obtain ⟨e, S1, h1, g1⟩ := ih fid (false :: path) base x S _ r (sub_step hst fun root hr => by simp [sub, hr]) hb h
    cases e with
    | normal =>
      obtain ⟨S2, h2, g2⟩ := cleanL_sound E h1
      exact ⟨.normal, S1, S2, h2, g1, g2⟩
    | exit id =>
      obtain ⟨S2, h2, g2⟩ := cleanX_sound E h1
      exact ⟨.exit id, S1, S2, h2, g1, g2⟩
    | ret =>
      obtain ⟨S2, h2, g2⟩ := cleanX_sound E h1
      exact ⟨.ret, S1, S2, h2, g1, g2⟩) L S0 K r hb h0
  refine ⟨e, S1, h1, ⟨l1, fun C ρ a w hd hF hR b k cs => ?_⟩⟩
  obtain ⟨ex, a', w', hp, harr⟩ := g1 C ρ a w hd hF hR b k cs
  exact ⟨ex, a', w', hp, .of_steps (.one step_loop) harr⟩

/-- **The executor is sound.** -/
theorem exec_sound (hE : EnvOk E) {look : LookF α} {lps : LookL α} (hlook : LookOk E.P look) (hlps : LoopsOk E.P lps) : ∀ n, RunOk E.P (exec E look lps n)
  | 0 => fun fid path base c S K r _ _ h => by simp [exec] at h
  | n + 1 => by
    intro fid path base c S K r hst hb h
    have ih := exec_sound hE hlook hlps n
    cases c with
    | skip => exact ⟨.normal, S, by simpa [exec] using h, hb, fun C ρ a w hd hF hR => wp_skip ⟨rfl, ρ, hd, hF, hR, fun _ _ => rfl⟩⟩
    | label l => exact ⟨.normal, S, by simpa [exec] using h, hb, fun C ρ a w hd hF hR => wp_label ⟨rfl, ρ, hd, hF, hR, fun _ _ => rfl⟩⟩
    | ret => exact ⟨.ret, S, by simpa [exec] using h, hb, fun C ρ a w hd hF hR => wp_ret ⟨rfl, ρ, hd, hF, hR, fun _ _ => rfl⟩⟩
    | exit id => exact ⟨.exit id, S, by simpa [exec] using h, hb, fun C ρ a w hd hF hR => wp_exit ⟨rfl, ρ, hd, hF, hR, fun _ _ => rfl⟩⟩
    | seq x y =>
      simp only [exec] at h
      obtain ⟨e, S1, h1, g1⟩ := ih fid (false :: path) base x S _ r (sub_step hst fun root hr => by simp [sub, hr]) hb h
      cases e with
      | normal =>
        obtain ⟨e2, S2, h2, g2⟩ := ih fid (true :: path) base y S1 K r (sub_step hst fun root hr => by simp [sub, hr]) g1.len h1
        refine ⟨e2, S2, h2, g2.len, fun C ρ a w hd hF hR => wp_seq (wp_mono (g1.wp C ρ a w hd hF hR) fun ex a' w' hp => ?_)⟩
        obtain ⟨p1, ρ', p2, p3, p4, p5⟩ := hp
        subst p1
        refine wp_mono (g2.wp C ρ' a' w' p2 p3 p4) fun ex2 a2 w2 hp2 => ?_
        obtain ⟨q1, ρ2, q2, q3, q4, q5⟩ := hp2
        exact ⟨q1, ρ2, q2, q3, q4, fun t ht => by rw [q5 t ht, p5 t ht]⟩
      | exit id =>
        refine ⟨.exit id, S1, h1, g1.len, fun C ρ a w hd hF hR => wp_seq (wp_mono (g1.wp C ρ a w hd hF hR) fun ex a' w' hp => ?_)⟩
        obtain ⟨p1, hp⟩ := hp
        subst p1
        exact ⟨rfl, hp⟩
      | ret =>
        refine ⟨.ret, S1, h1, g1.len, fun C ρ a w hd hF hR => wp_seq (wp_mono (g1.wp C ρ a w hd hF hR) fun ex a' w' hp => ?_)⟩
        obtain ⟨p1, hp⟩ := hp
        subst p1
        exact ⟨rfl, hp⟩
    | cond x y z =>
      simp only [exec] at h
      split at h
      · rename_i t ht
        -- the slot of the test is written out
        have hS : ∀ (b : Bool), t = b → SameGood base S (setOpd x b S) := by
          intro b hbt
          cases x with
          | tmp d =>
            have hd : S.F[d]? = some (some (.bool t)) := by
              simp only [opd] at ht
              cases hq : S.F[d]? with
              | none => simp [hq] at ht
              | some y => cases y <;> simp_all
            exact ⟨hb, fun C ρ tmps w hF hR => ⟨ρ, fun _ _ => rfl, hF.same hd hbt, hR⟩⟩
          | _ => exact ⟨hb, fun C ρ tmps w hF hR => ⟨ρ, fun _ _ => rfl, hF, hR⟩⟩
        split at h
        · rename_i htt
          obtain ⟨e, S1, h1, g1⟩ := ih fid (false :: path) base y _ K r (sub_step hst fun root hr => by simp [sub, hr]) (hS true htt).len h
          have g2 := CodeGood.after (hS true htt) g1
          refine ⟨e, S1, h1, g2.len, fun C ρ a w hd hF hR => ?_⟩
          obtain ⟨e1, _⟩ := opd_spec hF ht
          exact wp_cond (t := true) (by rw [e1, htt]; rfl) (g2.wp C ρ a w hd hF hR)
        · rename_i htt
          have htf : t = false := by simpa using htt
          obtain ⟨e, S1, h1, g1⟩ := ih fid (true :: path) base z _ K r (sub_step hst fun root hr => by simp [sub, hr]) (hS false htf).len h
          have g2 := CodeGood.after (hS false htf) g1
          refine ⟨e, S1, h1, g2.len, fun C ρ a w hd hF hR => ?_⟩
          obtain ⟨e1, _⟩ := opd_spec hF ht
          exact wp_cond (t := false) (by rw [e1, htf]; rfl) (g2.wp C ρ a w hd hF hR)
      · cases h
    | block id x =>
      simp only [exec] at h
      obtain ⟨e, S1, h1, g1⟩ := ih fid (false :: path) base x S _ r (sub_step hst fun root hr => by simp [sub, hr]) hb h
      cases e with
      | normal =>
        refine ⟨.normal, S1, h1, g1.len, fun C ρ a w hd hF hR => wp_block (wp_mono (g1.wp C ρ a w hd hF hR) fun ex a' w' hp => ?_)⟩
        obtain ⟨p1, hp⟩ := hp
        subst p1
        exact ⟨rfl, hp⟩
      | ret =>
        refine ⟨.ret, S1, h1, g1.len, fun C ρ a w hd hF hR => wp_block (wp_mono (g1.wp C ρ a w hd hF hR) fun ex a' w' hp => ?_)⟩
        obtain ⟨p1, hp⟩ := hp
        subst p1
        exact ⟨rfl, hp⟩
      | exit id' =>
        simp only at h1
        split at h1
        · rename_i he
          have he' := Nat.eq_of_beq_eq_true he
          refine ⟨.normal, S1, h1, g1.len, fun C ρ a w hd hF hR => wp_block (wp_mono (g1.wp C ρ a w hd hF hR) fun ex a' w' hp => ?_)⟩
          obtain ⟨p1, hp⟩ := hp
          subst p1
          simp only [Ex.exit', Exit.inBlock, if_pos he']
          exact ⟨trivial, hp⟩
        · rename_i he
          have he' : id' ≠ id := fun e => he (by rw [e]; exact Nat.beq_refl _)
          refine ⟨.exit id', S1, h1, g1.len, fun C ρ a w hd hF hR => wp_block (wp_mono (g1.wp C ρ a w hd hF hR) fun ex a' w' hp => ?_)⟩
          obtain ⟨p1, hp⟩ := hp
          subst p1
          simp only [Ex.exit', Exit.inBlock, if_neg he']
          exact ⟨trivial, hp⟩
    | scope x =>
      simp only [exec] at h
      obtain ⟨e, S1, h1, g1⟩ := ih fid (false :: path) base x S _ r (sub_step hst fun root hr => by simp [sub, hr]) hb h
      refine ⟨e, S1, h1, g1.len, fun C ρ a w hd hF hR => wp_scope_straight (wp_mono (g1.wp C ρ a w hd hF hR) fun ex a' w' hp => ?_)⟩
      obtain ⟨p1, hp⟩ := hp
      subst p1
      cases e <;> exact ⟨rfl, hp⟩
    | loop x =>
      simp only [exec] at h
      obtain ⟨S0, h0, g0⟩ := cleanL_sound E h
      unfold loopAt at h0
      split at h0
      · rename_i l hl
        obtain ⟨e, S1, h1, g1⟩ := hlps fid path base S0 l hl x hst K r g0.len h0
        exact ⟨e, S1, h1, CodeGood.after g0 g1⟩
      · obtain ⟨e, S1, h1, g1⟩ := loop_sound E ih hst g0.len h0
        exact ⟨e, S1, h1, CodeGood.after g0 g1⟩
    | region id ops draw =>
      simp only [exec] at h
      split at h
      · rename_i hdr
        subst hdr
        split at h
        · rename_i hm
          obtain ⟨S1, h1, g1⟩ := draw_sound E hE (callI_sound E hlook ih) ops base S hb _ r hm h id
          obtain ⟨S', h2, g2⟩ := nilSt_sound E h1
          exact ⟨.normal, S', h2, g1.thenSame g2⟩
        · cases h
      · rename_i hdr
        have hdr' : draw = false := by simpa using hdr
        subst hdr'
        obtain ⟨S', h1, l1, g1⟩ := opsL_sound E hE (callI_sound E hlook ih) ops ops.toList S _ r h
        refine ⟨.normal, S', h1, Nat.le_trans hb l1, fun C ρ a w hd hF hR => wp_region_list (g1 C ρ a w hF hR _ fun ρ' a' w' hr hd' hF' hR' => ?_)⟩
        exact ⟨rfl, ρ', by rw [hd', hd], hF', hR', fun t ht => hr t (Nat.lt_of_lt_of_le ht hb)⟩
    | _ => simp [exec] at h
end
end Go.Proofs.Ytkjellhkamfciaa.Sx
end

section
/- SX: what a function does over a small heap it does in any heap. -/
namespace Go.Proofs.Ytkjellhkamfciaa.Sx
open Go Go.RowKit

mutual
/-- Nothing in it is read off memory that came in. -/
def SV.free : SV → Bool
  | .rix _ _ _ _ _ => false
  | .ros _ _ _ => false
  | .fn _ a b => SV.freeL a && SV.freeL b
  | .agg l => SV.freeL l
  | .tup l => SV.freeL l
  | _ => true
def SV.freeL : List SV → Bool
  | [] => true
  | x :: l => x.free && SV.freeL l
end
def SObj.free : SObj → Bool
  | .cells l _ => SV.freeL l
  | _ => true
mutual
theorem ok_free {R R' : Nat → Prop} {w w' : World} {ρ : Nat → Tk} {n : Nat} : ∀ (v : SV), v.free = true → v.ok R w ρ n → v.ok R' w' ρ n
  | .ptr _ _, _, hv => by simp only [SV.ok] at hv ⊢; exact hv
  | .aix _ _ _ _ _, _, hv => by simp only [SV.ok] at hv ⊢; exact hv
  | .pix _ _ _ _, _, hv => by simp only [SV.ok] at hv ⊢; exact hv
  | .sub _ _ _ _, _, hv => by simp only [SV.ok] at hv ⊢; exact hv
  | .sl _, _, hv => by simp only [SV.ok] at hv ⊢; exact hv
  | .rix _ _ _ _ _, h, _ => by simp [SV.free] at h
  | .ros _ _ _, h, _ => by simp [SV.free] at h
  | .fn _ a b, h, hv => by
    simp only [SV.free, Bool.and_eq_true] at h
    simp only [SV.ok] at hv ⊢
    exact ⟨okL_free a h.1 hv.1, okL_free b h.2 hv.2⟩
  | .raw _, _, hv => by simp only [SV.ok] at hv ⊢; exact hv
  | .arr _ _ _, _, hv => by simp only [SV.ok] at hv ⊢; exact hv
  | .agg l, h, hv => by simp only [SV.free] at h; simp only [SV.ok] at hv ⊢; exact okL_free l h hv
  | .tup l, h, hv => by simp only [SV.free] at h; simp only [SV.ok] at hv ⊢; exact okL_free l h hv
  | .int _ _, _, _ => by simp only [SV.ok]
  | .bool _, _, _ => by simp only [SV.ok]
theorem okL_free {R R' : Nat → Prop} {w w' : World} {ρ : Nat → Tk} {n : Nat} : ∀ (l : List SV), SV.freeL l = true → SV.okL R w ρ n l → SV.okL R' w' ρ n l
  | [], _, _ => by simp only [SV.okL]
  | x :: l, h, hv => by
    simp only [SV.freeL, Bool.and_eq_true] at h
    simp only [SV.okL] at hv ⊢
    exact ⟨ok_free x h.1 hv.1, okL_free l h.2 hv.2⟩
end

theorem RosOk.more {R R' : Nat → Prop} {w : World} (h : ∀ b, R b → R' b) {v : Value} {κ : K} {xs : List κ.T} (hr : RosOk R w v κ xs) : RosOk R' w v κ xs := by
  rcases hr with h0 | ⟨ad, cap, e, hl, hs, hR, hc⟩
  · exact .inl h0
  · exact .inr ⟨ad, cap, e, hl, hs, h _ hR, hc⟩
mutual
theorem ok_more {R R' : Nat → Prop} {w : World} {ρ : Nat → Tk} {n : Nat} (h : ∀ b, R b → R' b) : ∀ (v : SV), v.ok R w ρ n → v.ok R' w ρ n
  | .ptr _ _, hv => by simp only [SV.ok] at hv ⊢; exact hv
  | .aix _ _ _ _ _, hv => by simp only [SV.ok] at hv ⊢; exact hv
  | .pix _ _ _ _, hv => by simp only [SV.ok] at hv ⊢; exact hv
  | .sub _ _ _ _, hv => by simp only [SV.ok] at hv ⊢; exact hv
  | .sl _, hv => by simp only [SV.ok] at hv ⊢; exact hv
  | .rix _ _ _ _ _, hv => by simp only [SV.ok] at hv ⊢; exact ⟨hv.1.more h, hv.2⟩
  | .ros _ _ _, hv => by simp only [SV.ok] at hv ⊢; exact hv.more h
  | .fn _ a b, hv => by simp only [SV.ok] at hv ⊢; exact ⟨okL_more h a hv.1, okL_more h b hv.2⟩
  | .raw _, hv => by simp only [SV.ok] at hv ⊢; exact hv
  | .arr _ _ _, hv => by simp only [SV.ok] at hv ⊢; exact hv
  | .agg l, hv => by simp only [SV.ok] at hv ⊢; exact okL_more h l hv
  | .tup l, hv => by simp only [SV.ok] at hv ⊢; exact okL_more h l hv
  | .int _ _, _ => by simp only [SV.ok]
  | .bool _, _ => by simp only [SV.ok]
theorem okL_more {R R' : Nat → Prop} {w : World} {ρ : Nat → Tk} {n : Nat} (h : ∀ b, R b → R' b) : ∀ (l : List SV), SV.okL R w ρ n l → SV.okL R' w ρ n l
  | [], _ => by simp only [SV.okL]
  | x :: l, hv => by simp only [SV.okL] at hv ⊢; exact ⟨ok_more h x hv.1, okL_more h l hv.2⟩
end

theorem setAll_length : ∀ (σ : List Nat) (H os : Hp), (setAll H σ os).length = H.length
  | [], H, os => by cases os <;> rfl
  | s :: σ, H, [] => rfl
  | s :: σ, H, o :: os => by simp only [setAll]; rw [setAll_length σ]; simp
theorem setAll_not : ∀ (σ : List Nat) (H os : Hp) (t : Nat), t ∉ σ → (setAll H σ os)[t]? = H[t]?
  | [], H, os, t, _ => by cases os <;> rfl
  | s :: σ, H, [], t, _ => rfl
  | s :: σ, H, o :: os, t, h => by
    simp only [List.mem_cons, not_or] at h
    simp only [setAll]
    rw [setAll_not σ _ _ t h.2, List.getElem?_set_ne (Ne.symm h.1)]
theorem setAll_get : ∀ (σ : List Nat) (H os : Hp) (i s : Nat), σ.Nodup → (∀ s ∈ σ, s < H.length) → σ.length ≤ os.length → σ[i]? = some s → (setAll H σ os)[s]? = os[i]?
  | [], H, os, i, s, _, _, _, h => by simp at h
  | s' :: σ, H, [], i, s, _, _, hl, _ => by simp at hl
  | s' :: σ, H, o :: os, 0, s, hn, hlt, _, h => by
    simp at h; subst h
    simp only [setAll]
    rw [setAll_not σ _ _ _ (List.nodup_cons.1 hn).1, List.getElem?_set_self (hlt _ (by simp))]; rfl
  | s' :: σ, H, o :: os, i + 1, s, hn, hlt, hl, h => by
    simp at h
    simp only [setAll]
    rw [setAll_get σ _ _ i s (List.nodup_cons.1 hn).2 (fun x hx => by rw [List.length_set]; exact hlt x (by simp [hx])) (by simpa using hl) h]; rfl

/-- The surroundings of the function's own run. -/
def Cx.call (C : Cx) (ρ : Nat → Tk) (H : Hp) (σ ex : List Nat) (w : World) : Cx :=
  { R := fun b => C.R b ∨ ∃ t ∈ ex, blkOf ρ H t = some b, w1 := w, Own := fun b => w.heap.size ≤ b ∨ ∃ t ∈ σ, blkOf ρ H t = some b }

theorem objBlk_ren {g : Nat → Nat} (tk : Tk) (o : SObj) : objBlk tk (o.ren g) = objBlk tk o := by cases o <;> rfl

/-- **A call, seen from a greater heap.** -/
theorem Sound.adapt {P : Program} {f : FuncId} {Hin H H0 : Hp} {v0 : SV} {args : List SV} (σ ex : List Nat) (hnd : σ.Nodup) (hlt : ∀ s ∈ σ, s < H.length) (hdis : ∀ t ∈ ex, t ∉ σ) (hlen : Hin.length = σ.length)
    (hH : ∀ (i s : Nat) (o : SObj), σ[i]? = some s → Hin[i]? = some o → H[s]? = some o ∧ o.toks = [])
    (hfree : ex = [] ∨ (v0.free = true ∧ ∀ o ∈ H0, SObj.free o = true))
    (hargs : ∀ (C : Cx) (ρ : Nat → Tk) (w : World), Rel C ρ H w → SV.okL C.R C.w1 ρ H.length args → ∀ ρ0 : Nat → Tk, (∀ i s, σ[i]? = some s → ρ0 i = ρ s) →
      ∃ args0, denL ρ0 args0 = denL ρ args ∧ SV.okL (C.call ρ H σ ex w).R w ρ0 Hin.length args0 ∧ Sound P f args0 Hin v0 H0) :
    Sound P f args H (v0.ren (gAd σ H.length)) (backH σ H H0) := by
  have hbl : ∀ H0 : Hp, σ.length ≤ H0.length → (backH σ H H0).length = H.length + (H0.length - σ.length) := fun H0 hl => by
    unfold backH; rw [List.length_append, setAll_length, List.length_map, List.length_drop]
  refine ⟨by unfold backH; rw [List.length_append, setAll_length]; omega, fun C ρ w hR hok => ?_⟩
  -- the small run
  let ρ0 : Nat → Tk := fun i => ρ (σ.getD i 0)
  have hρ0 : ∀ i s, σ[i]? = some s → ρ0 i = ρ s := fun i s h => by simp only [ρ0]; rw [List.getD_eq_getElem?_getD, h]; rfl
  obtain ⟨args0, hden, hok0, hS⟩ := hargs C ρ w hR hok ρ0 hρ0
  have hl0 : σ.length ≤ H0.length := by rw [← hlen]; exact hS.len
  have hget : ∀ (i : Nat) (o : SObj), Hin[i]? = some o → ∃ s, σ[i]? = some s ∧ H[s]? = some o ∧ o.toks = [] ∧ s ∈ σ := fun i o ho => by
    have hi : i < σ.length := by rw [← hlen]; exact (List.getElem?_eq_some_iff.1 ho).1
    have hs : σ[i]? = some σ[i] := List.getElem?_eq_getElem hi
    exact ⟨_, hs, (hH i _ o hs ho).1, (hH i _ o hs ho).2, List.getElem_mem hi⟩
  have hblk0 : ∀ i b, blkOf ρ0 Hin i = some b → ∃ s, σ[i]? = some s ∧ s ∈ σ ∧ blkOf ρ H s = some b := fun i b hb => by
    obtain ⟨o, ho, h2⟩ := blkOf_get hb
    obtain ⟨s, h3, h4, _, h5⟩ := hget i o ho
    exact ⟨s, h3, h5, by rw [blkOf_eq h4, ← hρ0 i s h3]; exact h2⟩
  have hroK : ∀ b, C.R b → w.heap[b]? = C.w1.heap[b]? := hR.roKeep
  have hfit : (C.call ρ H σ ex w).Fit := ⟨fun b hb => .inl hb, fun b hr => by
    rcases hr with hr | ⟨t, ht, hb⟩
    · have hl : b < w.heap.size := Nat.lt_of_lt_of_le (hR.fit.ro b hr).1 hR.size
      refine ⟨hl, fun hc => ?_⟩
      rcases hc with hc | ⟨s, _, hs⟩
      · exact absurd hl (Nat.not_lt.2 hc)
      · exact (hR.fit.ro b hr).2 (hR.own s b hs)
    · have hl := blk_lt hR hb
      refine ⟨hl, fun hc => ?_⟩
      rcases hc with hc | ⟨s, hs, hs2⟩
      · exact absurd hl (Nat.not_lt.2 hc)
      · exact hdis t ht (hR.sep t s b hb hs2 ▸ hs)⟩
  have hrel0 : Rel (C.call ρ H σ ex w) ρ0 Hin w := by
    refine ⟨fun i o ho => ?_, fun i j b h1 h2 => ?_, fun i b h1 => ?_, fun i => hR.hdr _, fun _ _ _ => rfl, Nat.le_refl _, rfl, rfl, rfl, fun i o ho => ?_, hfit⟩
    · obtain ⟨s, h3, h4, h5, _⟩ := hget i o ho
      have hob := hR.obj s o h4
      rw [hρ0 i s h3]
      cases o with
      | cells l T =>
        simp only [ObjRel] at hob ⊢
        have e : denC ρ0 l = denC ρ l := by
          have := renL_spec (R := C.R) (w := C.w1) (ρ := ρ) (ρ' := ρ0) (n' := Hin.length) (g := id) l (fun t ht => by simp only [SObj.toks] at h5; rw [h5] at ht; cases ht) (hR.ok s _ h4).1
          rw [renL_id (g := id) l (fun _ _ => rfl)] at this
          exact this.2.2
        rw [e]; exact hob
      | seq κ xs E => exact hob
      | dead => trivial
    · obtain ⟨s, a1, _, a3⟩ := hblk0 i b h1
      obtain ⟨s', b1, _, b3⟩ := hblk0 j b h2
      have := hR.sep s s' b a3 b3
      subst this
      have hi := (List.getElem?_eq_some_iff.1 a1).1
      have hj := (List.getElem?_eq_some_iff.1 b1).1
      have e1 := (List.getElem?_eq_some_iff.1 a1).2
      have e2 := (List.getElem?_eq_some_iff.1 b1).2
      exact (List.getElem_inj hnd).1 (e1.trans e2.symm)
    · obtain ⟨s, _, a2, a3⟩ := hblk0 i b h1
      exact .inr ⟨s, a2, a3⟩
    · obtain ⟨s, h3, h4, h5, _⟩ := hget i o ho
      have := hR.ok s o h4
      cases o with
      | cells l T =>
        refine ⟨?_, this.2⟩
        have hw := okL_world hroK l this.1
        have hl := okL_of_toks (n' := Hin.length) l (fun t ht => by simp only [SObj.toks] at h5; rw [h5] at ht; cases ht) this.1
        have h6 := renL_spec (R := C.R) (w := C.w1) (ρ := ρ) (ρ' := ρ0) (n' := Hin.length) (g := id) l (fun t ht => by simp only [SObj.toks] at h5; rw [h5] at ht; cases ht) this.1
        rw [renL_id (g := id) l (fun _ _ => rfl)] at h6
        exact okL_more (fun _ h => .inl h) l (okL_world hroK l h6.2.1)
      | _ => trivial
  have hcall := hS.run _ ρ0 w hrel0 hok0
  rw [hden] at hcall
  refine hcall.mono fun e w' hq => ?_
  obtain ⟨ρ1, q1, q2, q3, q4⟩ := hq
  -- back
  let ρ' : Nat → Tk := fun t => if t < H.length then ρ t else ρ1 (t - H.length + σ.length)
  have hρ' : ∀ t, t < H.length → ρ' t = ρ t := fun t ht => by simp only [ρ', if_pos ht]
  have hg : ∀ s, s < H0.length → ρ' (gAd σ H.length s) = ρ1 s ∧ gAd σ H.length s < (backH σ H H0).length := fun s hs => by
    unfold gAd
    by_cases h : s < σ.length
    · rw [if_pos (show Nat.blt s σ.length = true from Nat.ble_eq_true_of_le h), List.getD_eq_getElem?_getD, List.getElem?_eq_getElem h, Option.getD_some]
      have h1 := hlt _ (List.getElem_mem h)
      refine ⟨?_, by rw [hbl H0 hl0]; omega⟩
      rw [hρ' _ h1, q1 s (by rw [hlen]; exact h), hρ0 s _ (List.getElem?_eq_getElem h)]
    · rw [if_neg (fun hb : Nat.blt s σ.length = true => h (Nat.le_of_ble_eq_true hb))]
      refine ⟨?_, by rw [hbl H0 hl0]; omega⟩
      simp only [ρ']
      rw [if_neg (by omega), show H.length + (s - σ.length) - H.length + σ.length = s by omega]
  -- where an object comes from
  have hor : ∀ t o, (backH σ H H0)[t]? = some o → (t < H.length ∧ t ∉ σ ∧ H[t]? = some o) ∨ ∃ i a, H0[i]? = some a ∧ o = a.ren (gAd σ H.length) ∧ ρ' t = ρ1 i ∧ gAd σ H.length i = t := fun t o ho => by
    unfold backH at ho
    by_cases ht : t < H.length
    · rw [List.getElem?_append_left (by rw [setAll_length]; exact ht)] at ho
      by_cases hs : t ∈ σ
      · obtain ⟨i, hi, e⟩ := List.mem_iff_getElem.1 hs
        have h1 : σ[i]? = some t := by rw [List.getElem?_eq_getElem hi, e]
        rw [setAll_get σ H _ i t hnd hlt (by rw [List.length_map, List.length_take]; omega) h1, List.getElem?_map, List.getElem?_take, if_pos hi] at ho
        cases hq0 : H0[i]? with
        | none => rw [hq0] at ho; cases ho
        | some a =>
          rw [hq0] at ho
          simp only [Option.map_some, Option.some.injEq] at ho
          have e2 : gAd σ H.length i = t := by
            unfold gAd
            rw [if_pos (show Nat.blt i σ.length = true from Nat.ble_eq_true_of_le hi), List.getD_eq_getElem?_getD, h1]; rfl
          exact .inr ⟨i, a, hq0, ho.symm, by rw [← e2]; exact (hg i (by omega)).1, e2⟩
      · rw [setAll_not σ H _ t hs] at ho; exact .inl ⟨ht, hs, ho⟩
    · rw [List.getElem?_append_right (by rw [setAll_length]; omega), setAll_length, List.getElem?_map, List.getElem?_drop] at ho
      cases hq0 : H0[σ.length + (t - H.length)]? with
      | none => rw [hq0] at ho; cases ho
      | some a =>
        rw [hq0] at ho
        simp only [Option.map_some, Option.some.injEq] at ho
        have e2 : gAd σ H.length (σ.length + (t - H.length)) = t := by
          unfold gAd
          rw [if_neg (fun hb : Nat.blt _ σ.length = true => by have := Nat.le_of_ble_eq_true hb; omega)]; omega
        exact .inr ⟨_, a, hq0, ho.symm, by
          have := (hg (σ.length + (t - H.length)) (List.getElem?_eq_some_iff.1 hq0).1).1
          rw [e2] at this; exact this, e2⟩
  have hb : ∀ t b, blkOf ρ' (backH σ H H0) t = some b → (t < H.length ∧ t ∉ σ ∧ blkOf ρ H t = some b) ∨ ∃ i, blkOf ρ1 H0 i = some b ∧ gAd σ H.length i = t := fun t b hb => by
    obtain ⟨o, ho, h2⟩ := blkOf_get hb
    rcases hor t o ho with ⟨h3, h4, h5⟩ | ⟨i, a, h3, rfl, h4, h5⟩
    · exact .inl ⟨h3, h4, by rw [blkOf_eq h5, ← hρ' t h3]; exact h2⟩
    · refine .inr ⟨i, ?_, h5⟩
      rw [blkOf_eq h3, ← h4]
      rw [objBlk_ren] at h2; exact h2
  have hapart : ∀ t i b, t ∉ σ → blkOf ρ H t = some b → blkOf ρ1 H0 i = some b → False := fun t i b hT h1 h2 => by
    have hl := blk_lt hR h1
    rcases q3.own i b h2 with hc | ⟨s, hs, hs2⟩
    · exact absurd hl (Nat.not_lt.2 hc)
    · exact hT (hR.sep t s b h1 hs2 ▸ hs)
  have hout : ∀ b, b < w.heap.size → (∀ t, t ∈ σ → blkOf ρ H t ≠ some b) → w'.heap[b]? = w.heap[b]? := fun b hl hn => q3.keep b hl fun hc => by
    rcases hc with hc | ⟨t, ht, ht2⟩
    · exact absurd hl (Nat.not_lt.2 hc)
    · exact hn t ht ht2
  have okBack : ∀ v : SV, (ex = [] ∨ v.free = true) → v.ok (C.call ρ H σ ex w).R w ρ1 H0.length → v.ok C.R C.w1 ρ1 H0.length := fun v hf hv => by
    rcases hf with he | hf
    · subst he
      have : v.ok C.R w ρ1 H0.length := by
        have e : (C.call ρ H σ [] w).R = C.R := by funext b; simp [Cx.call]
        rw [e] at hv; exact hv
      exact ok_world (fun b hb => (hroK b hb).symm) v this
    · exact ok_free v hf hv
  have okBackL : ∀ l : List SV, (ex = [] ∨ SV.freeL l = true) → SV.okL (C.call ρ H σ ex w).R w ρ1 H0.length l → SV.okL C.R C.w1 ρ1 H0.length l := fun l hf hv => by
    rcases hf with he | hf
    · subst he
      have : SV.okL C.R w ρ1 H0.length l := by
        have e : (C.call ρ H σ [] w).R = C.R := by funext b; simp [Cx.call]
        rw [e] at hv; exact hv
      exact okL_world (fun b hb => (hroK b hb).symm) l this
    · exact okL_free l hf hv
  have hfv : ex = [] ∨ v0.free = true := hfree.imp id (·.1)
  have hvr := ren_spec (ρ' := ρ') (n' := (backH σ H H0).length) v0 (fun t ht => hg t (toks_lt v0 q4 t ht)) (okBack v0 hfv q4)
  refine ⟨ρ', hρ', by rw [hvr.1]; exact q2, ⟨fun t o ho => ?_, fun t u b h1 h2 => ?_, fun t b h1 => ?_, fun t => ?_, fun b h1 h2 => ?_, Nat.le_trans hR.size q3.size, q3.os.trans hR.os, q3.tape.trans hR.tape, q3.output.trans hR.output, fun t o ho => ?_, hR.fit⟩, hvr.2⟩
  · rcases hor t o ho with ⟨h3, h4, h5⟩ | ⟨i, a, h3, rfl, h4, h5⟩
    · rw [hρ' t h3]
      refine (hR.obj t o h5).agree (C := C) (n := H.length) (hR.ok t o h5) hρ' fun b hbb => hout b ?_ fun s hs hs2 => ?_
      · exact blk_lt hR (t := t) (by rw [blkOf_eq h5]; exact hbb)
      · exact h4 (hR.sep t s b (by rw [blkOf_eq h5]; exact hbb) hs2 ▸ hs)
    · rw [h4]
      have hob := q3.obj i a h3
      have hok1 := q3.ok i a h3
      cases a with
      | cells l T =>
        have := renL_spec (ρ' := ρ') (n' := (backH σ H H0).length) l (fun s hs => hg s (toksL_lt l hok1.1 s hs)) hok1.1
        simp only [SObj.ren, ObjRel] at hob ⊢
        rw [this.2.2]; exact hob
      | seq κ xs E => exact hob
      | dead => trivial
  · rcases hb t b h1 with ⟨_, a2, a3⟩ | ⟨i, a3, a4⟩ <;> rcases hb u b h2 with ⟨_, b2, b3⟩ | ⟨j, b3, b4⟩
    · exact hR.sep t u b a3 b3
    · exact (hapart t j b a2 a3 b3).elim
    · exact (hapart u i b b2 b3 a3).elim
    · have := q3.sep i j b a3 b3
      subst this
      exact a4.symm.trans b4
  · rcases hb t b h1 with ⟨_, _, a3⟩ | ⟨i, a3, _⟩
    · exact hR.own t b a3
    · rcases q3.own i b a3 with hc | ⟨s, _, hs2⟩
      · exact hR.fit.new b (Nat.le_trans hR.size hc)
      · exact hR.own s b hs2
  · simp only [ρ']
    split
    · exact hR.hdr t
    · exact q3.hdr _
  · rw [hout b (Nat.lt_of_lt_of_le h1 hR.size) fun t _ ht => h2 (hR.own t b ht)]
    exact hR.keep b h1 h2
  · rcases hor t o ho with ⟨h3, h4, h5⟩ | ⟨i, a, h3, rfl, h4, h5⟩
    · exact SObj.ok_mono (by rw [hbl H0 hl0]; omega) (SObj.ok_agree hρ' (hR.ok t o h5))
    · have hok1 := q3.ok i a h3
      cases a with
      | cells l T =>
        have hfl : ex = [] ∨ SV.freeL l = true := hfree.imp id fun h => h.2 _ (List.mem_of_getElem? h3)
        have := renL_spec (ρ' := ρ') (n' := (backH σ H H0).length) l (fun s hs => hg s (toksL_lt l hok1.1 s hs)) (okBackL l hfl hok1.1)
        exact ⟨this.2.1, by rw [ren_leaves]; exact hok1.2⟩
      | seq κ xs E => trivial
      | dead => trivial
end Go.Proofs.Ytkjellhkamfciaa.Sx
end
