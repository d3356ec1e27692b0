/- SX: regions whose order is open: what the run in the order of the text comes to, every order comes to. -/
import Derived.Test.YtkjellhkamfciaaSxFrame
namespace Go.Proofs.Ytkjellhkamfciaa.Sx
open Go Go.RowKit

def swapTo (N s : Nat) (t : Nat) : Nat := if Nat.beq t N then s else t

/-- What one step of the run in the order of the text is. -/
structure StepD (P : Program) (ops : Array Oper) (B N i : Nat) (o : Oper) (S : St) (rec : Rec) (S1 : St) : Prop where
  dst : rec.dst = o.dst
  left : rec.left = toksAt S1.H rec.T
  F : S1.F = put S.F o.dst rec.v
  step : (guardLit ops o S.F = some false ∧ rec.v = .raw undef ∧ rec.T = [] ∧ rec.W = [] ∧ S1.H = S.H) ∨
    (guardLit ops o S.F = some true ∧ ∃ (T : List Nat) (v : SV) (M : Hp), (∀ F', Agree o S.F F' → OpGood P o F' (maskH T 0 S.H) v M) ∧ (isWr o = false → ∃ l, M = maskH T 0 S.H ++ l) ∧
      ((M.length = N ∧ rec.v = v ∧ S1.H = mergeH T 0 S.H M ∧ rec.T = T ∧ rec.W = (if isWr o then T else [])) ∨
       (∃ x, M[N]? = some x ∧ M.length = N + 1 ∧ (B + i) ∉ v.toks ∧ (B + i) ∉ hpToks M ∧ (B + i) ∉ T ∧ rec.v = v.ren (swapTo N (B + i)) ∧
        S1.H = (if isWr o then mergeH T 0 S.H (M.map (SObj.ren (swapTo N (B + i)))) else S.H).set (B + i) (x.ren (swapTo N (B + i))) ∧ rec.T = (B + i) :: T ∧ rec.W = (B + i) :: (if isWr o then T else []))))

inductive Tr (P : Program) (ops : Array Oper) (B N : Nat) : Nat → List Oper → St → List Rec → St → Prop where
  | nil (i : Nat) (S : St) : Tr P ops B N i [] S [] S
  | cons {i : Nat} {o : Oper} {l : List Oper} {S S1 S' : St} {rec : Rec} {recs : List Rec} : StepD P ops B N i o S rec S1 → Tr P ops B N (i + 1) l S1 recs S' → Tr P ops B N i (o :: l) S (rec :: recs) S'

section
variable (E : Env) {α : Type}
theorem not_memN {t : Nat} {l : List Nat} (h : (!memN t l) = true) : t ∉ l := fun hm => by
  rw [memN_iff.2 hm] at h; cases h

theorem drawL_sound (hE : EnvOk E) {callf : CallF α} (hcall : CallOk E.P callf) (ops : Array Oper) (B N : Nat) : ∀ (l : List Oper) (i : Nat) (S : St) (recs : List Rec) (K : St → List Rec → Option α) (r : α), drawL E callf ops B N i l S recs K = some r →
    ∃ S' new, K S' (new.reverse ++ recs) = some r ∧ Tr E.P ops B N i l S new S'
  | [], i, S, recs, K, r, h => ⟨S, [], by simpa [drawL] using h, .nil _ _⟩
  | o :: l, i, S, recs, K, r, h => by
    simp only [drawL] at h
    split at h
    · rename_i want hgd
      have goon : ∀ (S1 : St) (rec : Rec), StepD E.P ops B N i o S rec S1 → drawL E callf ops B N (i + 1) l S1 (rec :: recs) K = some r → ∃ S' new, K S' (new.reverse ++ recs) = some r ∧ Tr E.P ops B N i (o :: l) S new S' := by
        intro S1 rec hst h1
        obtain ⟨S', new, h2, h3⟩ := drawL_sound hE hcall ops B N l (i + 1) S1 (rec :: recs) K r h1
        exact ⟨S', rec :: new, by simpa using h2, .cons hst h3⟩
      split at h
      · rename_i hw
        split at h
        · rename_i T hT
          obtain ⟨v, M, hk, hq, hg⟩ := opS_sound E.dr ⟨hE.zero, hE.add, hE.sub⟩ hcall o S.F (maskH T 0 S.H) _ r h
          -- the bool that a guard asks for is written out
          have fin : ∀ (v' : SV) (nw : List Nat) (H' : Hp),
              (match v' with
                | .bool b => if usedAsGuard ops.toList i then (if b then drawL E callf ops B N (i + 1) l ⟨put S.F o.dst (.bool true), H'⟩ (⟨o.dst, .bool true, nw ++ T, nw ++ (if isWr o then T else []), toksAt H' (nw ++ T)⟩ :: recs) K else drawL E callf ops B N (i + 1) l ⟨put S.F o.dst (.bool false), H'⟩ (⟨o.dst, .bool false, nw ++ T, nw ++ (if isWr o then T else []), toksAt H' (nw ++ T)⟩ :: recs) K)
                  else drawL E callf ops B N (i + 1) l ⟨put S.F o.dst (.bool b), H'⟩ (⟨o.dst, .bool b, nw ++ T, nw ++ (if isWr o then T else []), toksAt H' (nw ++ T)⟩ :: recs) K
                | v' => drawL E callf ops B N (i + 1) l ⟨put S.F o.dst v', H'⟩ (⟨o.dst, v', nw ++ T, nw ++ (if isWr o then T else []), toksAt H' (nw ++ T)⟩ :: recs) K) = some r →
              drawL E callf ops B N (i + 1) l ⟨put S.F o.dst v', H'⟩ (⟨o.dst, v', nw ++ T, nw ++ (if isWr o then T else []), toksAt H' (nw ++ T)⟩ :: recs) K = some r := by
            intro v' nw H' hh
            cases v' with
            | bool b =>
              simp only at hh
              split at hh
              · split at hh
                · rename_i hb; rw [hb]; exact hh
                · rename_i hb; rw [show b = false by simpa using hb]; exact hh
              · exact hh
            | _ => exact hh
          split at hk
          · rename_i hlen
            have hlen' := Nat.eq_of_beq_eq_true hlen
            refine goon _ ⟨o.dst, v, [] ++ T, [] ++ (if isWr o then T else []), toksAt (mergeH T 0 S.H M) ([] ++ T)⟩ ⟨rfl, rfl, rfl, .inr ⟨by rw [hgd, hw], T, v, M, hg, hq, .inl ⟨hlen', rfl, rfl, rfl, by simp⟩⟩⟩ (fin v [] _ hk)
          · split at hk
            · rename_i x hx
              split at hk
              · rename_i hc
                simp only [Bool.and_eq_true] at hc
                obtain ⟨⟨⟨c1, c2⟩, c3⟩, c4⟩ := hc
                refine goon _ ⟨o.dst, v.ren (swapTo N (B + i)), [B + i] ++ T, [B + i] ++ (if isWr o then T else []), _⟩ ⟨rfl, rfl, rfl, .inr ⟨by rw [hgd, hw], T, v, M, hg, hq, .inr ⟨x, hx, Nat.eq_of_beq_eq_true c1, not_memN c2, not_memN c3, not_memN c4, rfl, rfl, rfl, by simp⟩⟩⟩ (fin _ [B + i] _ hk)
              · cases hk
            · cases hk
        · cases h
      · rename_i hw
        exact goon ⟨put S.F o.dst (.raw undef), S.H⟩ ⟨o.dst, .raw undef, [], [], []⟩ ⟨rfl, rfl, rfl, .inl ⟨by rw [hgd]; simpa using hw, rfl, rfl, rfl, rfl⟩⟩ h
    · cases h

theorem StepD.WT {P : Program} {ops : Array Oper} {B N i : Nat} {o : Oper} {S S1 : St} {rec : Rec} (h : StepD P ops B N i o S rec S1) {t : Nat} (ht : t ∈ rec.W) : t ∈ rec.T := by
  rcases h.step with ⟨_, _, _, e, _⟩ | ⟨_, T, v, M, _, _, ⟨_, _, _, e3, e4⟩ | ⟨x, _, _, _, _, _, _, _, e3, e4⟩⟩
  · rw [e] at ht; cases ht
  · rw [e4] at ht; rw [e3]
    split at ht
    · exact ht
    · cases ht
  · rw [e4] at ht; rw [e3]
    rcases List.mem_cons.1 ht with h | h
    · rw [h]; exact List.mem_cons_self
    · split at h
      · exact List.mem_cons_of_mem _ h
      · cases h

theorem Tr.length {P : Program} {ops : Array Oper} {B N i : Nat} {l : List Oper} {S S' : St} {recs : List Rec} (h : Tr P ops B N i l S recs S') : recs.length = l.length := by
  induction h with
  | nil => rfl
  | cons _ _ ih => simp [ih]

/-- The states of the run. -/
theorem Tr.states {P : Program} {ops : Array Oper} {B N i : Nat} {l : List Oper} {S S' : St} {recs : List Rec} (h : Tr P ops B N i l S recs S') :
    ∃ st : Nat → St, st 0 = S ∧ st l.length = S' ∧ ∀ k, k < l.length → ∃ o rec, l[k]? = some o ∧ recs[k]? = some rec ∧ StepD P ops B N (i + k) o (st k) rec (st (k + 1)) := by
  induction h with
  | nil i S => exact ⟨fun _ => S, rfl, rfl, fun k hk => by simp at hk⟩
  | @cons i o l S S1 S' rec recs h1 h2 ih =>
    obtain ⟨st, e1, e2, e3⟩ := ih
    refine ⟨fun k => match k with | 0 => S | k + 1 => st k, rfl, e2, fun k hk => ?_⟩
    cases k with
    | zero => exact ⟨o, rec, rfl, rfl, by simp only [Nat.add_zero]; rw [e1]; exact h1⟩
    | succ k =>
      obtain ⟨o', rec', g1, g2, g3⟩ := e3 k (by simpa using hk)
      exact ⟨o', rec', by simpa using g1, by simpa using g2, by rw [show i + (k + 1) = i + 1 + k by omega]; exact g3⟩
end

/-! What a set of steps leaves. -/
def fw {β : Type} (w : Nat → Option β) (X : Nat → Bool) (init : β) : Nat → β
  | 0 => init
  | k + 1 => if X k then (match w k with | some b => b | none => fw w X init k) else fw w X init k
theorem fw_agree {β : Type} {w : Nat → Option β} {X Y : Nat → Bool} {init : β} : ∀ {n : Nat}, (∀ k, k < n → w k ≠ none → X k = Y k) → fw w X init n = fw w Y init n
  | 0, _ => rfl
  | n + 1, h => by
    have ih := fw_agree (init := init) (n := n) fun k hk => h k (by omega)
    simp only [fw, ih]
    cases hw : w n with
    | none => simp
    | some b => rw [h n (by omega) (by rw [hw]; simp)]
theorem fw_all {β : Type} {w : Nat → Option β} {init : β} {j : Nat} : ∀ {n : Nat}, j ≤ n → fw w (fun k => decide (k < j)) init n = fw w (fun _ => true) init j
  | 0, h => by have : j = 0 := by omega
               subst this; rfl
  | n + 1, h => by
    by_cases hj : j = n + 1
    · subst hj
      exact fw_agree fun k hk _ => by simp [hk]
    · simp only [fw]
      rw [if_neg (by simp; omega)]
      exact fw_all (by omega)
theorem fw_cases {β : Type} {w : Nat → Option β} {X : Nat → Bool} {init : β} : ∀ (n : Nat), fw w X init n = init ∨ ∃ k, k < n ∧ X k = true ∧ w k = some (fw w X init n)
  | 0 => .inl rfl
  | n + 1 => by
    simp only [fw]
    split
    · rename_i hx
      split
      · rename_i b hb; exact .inr ⟨n, by omega, hx, hb⟩
      · rcases fw_cases (w := w) (X := X) (init := init) n with h | ⟨k, h1, h2, h3⟩
        · exact .inl h
        · exact .inr ⟨k, by omega, h2, h3⟩
    · rcases fw_cases (w := w) (X := X) (init := init) n with h | ⟨k, h1, h2, h3⟩
      · exact .inl h
      · exact .inr ⟨k, by omega, h2, h3⟩

/-! What the look at the records says. -/
theorem mem_unionN {x : Nat} : ∀ {l m : List Nat}, x ∈ unionN l m ↔ x ∈ l ∨ x ∈ m
  | [], m => by simp [unionN]
  | y :: l, m => by
    unfold unionN
    split
    · rename_i h
      have := memN_iff.1 h
      rw [mem_unionN (l := l)]
      simp only [List.mem_cons]
      constructor
      · rintro (h | h)
        · exact .inl (.inr h)
        · exact .inr h
      · rintro ((h | h) | h)
        · subst h; exact .inr this
        · exact .inl h
        · exact .inr h
    · rw [mem_unionN (l := l)]
      simp only [List.mem_cons]
      constructor
      · rintro (h | h | h)
        · exact .inl (.inr h)
        · exact .inl (.inl h)
        · exact .inr h
      · rintro ((h | h) | h)
        · exact .inr (.inl h)
        · exact .inl h
        · exact .inr (.inr h)
theorem mem_ancOf {acc : List (List Nat)} {x : Nat} : ∀ {es : List Nat}, x ∈ ancOf acc es ↔ ∃ e ∈ es, x = e ∨ x ∈ acc.getD e []
  | [] => by simp [ancOf]
  | e :: es => by
    simp only [ancOf, mem_unionN, List.mem_cons, mem_ancOf (es := es)]
    constructor
    · rintro ((h | h) | ⟨e', h1, h2⟩)
      · exact ⟨e, .inl rfl, .inl h⟩
      · exact ⟨e, .inl rfl, .inr h⟩
      · exact ⟨e', .inr h1, h2⟩
    · rintro ⟨e', rfl | h1, h2⟩
      · exact .inl h2
      · exact .inr ⟨e', h1, h2⟩
theorem allLt_spec {n : Nat} : ∀ {l : List Nat}, allLt n l = true → ∀ x ∈ l, x < n
  | [], _, x, hx => by simp at hx
  | y :: l, h, x, hx => by
    simp only [allLt, Bool.and_eq_true] at h
    rcases List.mem_cons.1 hx with rfl | hx
    · exact Nat.le_of_ble_eq_true h.1
    · exact allLt_spec h.2 x hx
theorem ancL_spec : ∀ {l : List Oper} {acc ancs : List (List Nat)}, ancL l acc = some ancs → ancs.length = acc.length + l.length ∧ (∀ k, k < acc.length → ancs.getD k [] = acc.getD k []) ∧
    ∀ k o, l[k]? = some o → (∀ e ∈ edgesOf o, e < acc.length + k) ∧ ∀ x, x ∈ ancs.getD (acc.length + k) [] ↔ ∃ e ∈ edgesOf o, x = e ∨ x ∈ ancs.getD e []
  | [], acc, ancs, h => by
    simp only [ancL, Option.some.injEq] at h; subst h
    exact ⟨by simp, fun _ _ => rfl, fun k o h => by simp at h⟩
  | o :: l, acc, ancs, h => by
    simp only [ancL] at h
    split at h
    · rename_i hlt
      obtain ⟨h1, h2, h3⟩ := ancL_spec h
      simp only [List.length_append, List.length_singleton] at h1 h2 h3
      refine ⟨by simp; omega, fun k hk => ?_, fun k o' hk => ?_⟩
      · rw [h2 k (by omega), List.getD_eq_getElem?_getD, List.getElem?_append_left hk, List.getD_eq_getElem?_getD]
      · cases k with
        | zero =>
          simp at hk; subst hk
          refine ⟨by simpa using allLt_spec hlt, fun x => ?_⟩
          have e1 := h2 acc.length (by omega)
          rw [List.getD_eq_getElem?_getD (l := acc ++ _), List.getElem?_append_right (Nat.le_refl _)] at e1
          simp only [Nat.sub_self, List.getElem?_cons_zero, Option.getD_some] at e1
          rw [Nat.add_zero, e1, mem_ancOf]
          constructor
          · rintro ⟨e, he, hx⟩
            refine ⟨e, he, ?_⟩
            have hel := allLt_spec hlt e he
            rw [h2 e (by omega), List.getD_eq_getElem?_getD, List.getElem?_append_left hel, ← List.getD_eq_getElem?_getD]; exact hx
          · rintro ⟨e, he, hx⟩
            refine ⟨e, he, ?_⟩
            have hel := allLt_spec hlt e he
            rw [h2 e (by omega), List.getD_eq_getElem?_getD, List.getElem?_append_left hel, ← List.getD_eq_getElem?_getD] at hx; exact hx
        | succ k =>
          simp at hk
          have := h3 k o' hk
          rw [show acc.length + (k + 1) = acc.length + 1 + k by omega]
          exact this
    · cases h
theorem noClash_spec {ops : Array Oper} {anc : List Nat} {oj : Oper} {rj : Rec} : ∀ {ol : List Oper} {rl : List Rec} {i : Nat}, noClash ops anc oj rj i ol rl = true → ∀ k ok rk, ol[k]? = some ok → rl[k]? = some rk → (i + k) ∈ anc ∨ clash ops ok oj rk rj = false
  | [], rl, i, _, k, ok, rk, h1, _ => by simp at h1
  | o :: ol, [], i, _, k, ok, rk, _, h2 => by simp at h2
  | o :: ol, q :: rl, i, h, k, ok, rk, h1, h2 => by
    simp only [noClash, Bool.and_eq_true, Bool.or_eq_true, Bool.not_eq_true'] at h
    cases k with
    | zero =>
      simp at h1 h2; subst h1; subst h2
      exact h.1.imp memN_iff.1 id
    | succ k =>
      simp at h1 h2
      have := noClash_spec h.2 k ok rk h1 h2
      rwa [show i + (k + 1) = i + 1 + k by omega]
theorem visible_spec {B j : Nat} {anc : List Nat} : ∀ {l : List Nat}, visible B j anc l = true → ∀ t ∈ l, t < B ∨ t = B + j ∨ (t - B) ∈ anc
  | [], _, t, ht => by simp at ht
  | x :: l, h, t, ht => by
    simp only [visible, Bool.and_eq_true, Bool.or_eq_true] at h
    rcases List.mem_cons.1 ht with rfl | ht
    · rcases h.1 with (h | h) | h
      · exact .inl (Nat.le_of_ble_eq_true h)
      · exact .inr (.inl (Nat.eq_of_beq_eq_true h))
      · exact .inr (.inr (memN_iff.1 h))
    · exact visible_spec h.2 t ht
theorem allOk_spec {ops : Array Oper} {B : Nat} {ancs : List (List Nat)} {ol : List Oper} {rl : List Rec} : ∀ {os : List Oper} {rs : List Rec} {j : Nat}, allOk ops B ancs ol rl j os rs = true → ∀ k ok rk, os[k]? = some ok → rs[k]? = some rk →
    noClash ops (ancs.getD (j + k) []) ok rk 0 (ol.take (j + k)) (rl.take (j + k)) = true ∧ visible B (j + k) (ancs.getD (j + k) []) (rk.v.toks ++ rk.left) = true
  | [], rs, j, _, k, ok, rk, h1, _ => by simp at h1
  | o :: os, [], j, h, _, _, _, _, _ => by simp [allOk] at h
  | o :: os, q :: rs, j, h, k, ok, rk, h1, h2 => by
    simp only [allOk, Bool.and_eq_true] at h
    cases k with
    | zero => simp at h1 h2; subst h1; subst h2; exact ⟨h.1.1, h.1.2⟩
    | succ k =>
      simp at h1 h2
      have := allOk_spec h.2 k ok rk h1 h2
      rwa [show j + (k + 1) = j + 1 + k by omega]
theorem meets_of {t : Nat} : ∀ {l m : List Nat}, t ∈ l → t ∈ m → meets l m = true
  | [], m, h, _ => by simp at h
  | x :: l, m, h, h2 => by
    simp only [meets, Bool.or_eq_true]
    rcases List.mem_cons.1 h with rfl | h
    · exact .inl (memN_iff.2 h2)
    · exact .inr (meets_of h h2)
theorem mem_tmpsOf {t : Nat} : ∀ {l : List Operand}, Operand.tmp t ∈ l → t ∈ tmpsOf l
  | [], h => by simp at h
  | x :: l, h => by
    rcases List.mem_cons.1 h with rfl | h
    · simp [tmpsOf]
    · have := mem_tmpsOf h
      cases x <;> simp [tmpsOf, this]
theorem mem_toksAt {H : Hp} {t s : Nat} {o : SObj} : ∀ {T : List Nat}, t ∈ T → H[t]? = some o → s ∈ o.toks → s ∈ toksAt H T
  | [], h, _, _ => by simp at h
  | x :: T, h, h2, h3 => by
    simp only [toksAt, List.mem_append]
    rcases List.mem_cons.1 h with rfl | h
    · rw [h2]; exact .inl h3
    · exact .inr (mem_toksAt h h2 h3)
end Go.Proofs.Ytkjellhkamfciaa.Sx
