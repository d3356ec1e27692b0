/- SX: from a law's run to its row. -/
import Derived.Test.YtdkkbbpmjpcfkaaSxKit
import Derived.ProofKit
namespace Go.Proofs.Ytdkkbbpmjpcfkaa.Sx
open Go Go.RowKit Go.ChangeShapes
set_option linter.unusedVariables false

section
variable {H : Type} {enc : TypeId × Value → H} {P : Program}

theorem trodAll_keep (hl : laidOutB P = true) {W W' : World} {sp : Nat → Bool} : ∀ (ts : List TypeId) (vs : List Value) (ds : List (DataW H)) (ps : List MemPlace), (∀ t ∈ ts, P.readableRec t = true ∧ t < P.types.size) →
    DataW.TrodAll enc P W 0 (fun _ => true) true ts vs ds ps → (∀ x ∈ ps, W.sameAt W' x) → (∀ x ∈ ps, sp x.block = true) → DataW.TrodAll enc P W' 0 sp true ts vs ds ps
  | [], [], [], ps, _, h, _, _ => h
  | t :: ts, v :: vs, d :: ds, ps, hr, h, h1, h2 => by
    obtain ⟨p, q, a, b, rfl⟩ := h
    exact ⟨p, q, WideElems.Trod_stays hl (hr t (by simp)).1 (hr t (by simp)).2 a (fun x hx => h1 x (by simp [hx])) (fun x hx => h2 x (by simp [hx])),
      trodAll_keep hl ts vs ds q (fun t ht => hr t (by simp [ht])) b (fun x hx => h1 x (by simp [hx])) (fun x hx => h2 x (by simp [hx])), rfl⟩
  | [], _ :: _, _, _, _, h, _, _ => h.elim
  | [], [], _ :: _, _, _, h, _, _ => h.elim
  | _ :: _, [], _, _, _, h, _, _ => h.elim
  | _ :: _, _ :: _, [], _, _, h, _, _ => h.elim

/-- A law that tells true and turns nothing of what was there keeps its row. -/
theorem post_of_below {f : Func} {s : ChangeSpec} {apart fresh handsOn again : Bool} {W W' : World} {args : Array Value} {ds gs : List (DataW H)} {before : List MemPlace} {tb : TypeId}
    (hl : laidOutB P = true) (hr : ∀ t ∈ f.params.toList, P.readableRec t = true ∧ t < P.types.size) (hv : s.vars = []) (hres : f.resultTypes = #[tb]) (htb : P.underlying tb = some .bool)
    (hfn : (s.fn H (ds ++ gs)) = { results := [.lit (.bool true)], args := ds }) (hW : DataW.Whole enc P f.params.toList s.vars apart W args.toList ds gs before) (hb : Below W.heap.size W W') :
    s.post enc P f apart fresh handsOn again W args (.bool true) W' := by
  have hW0 := hW
  obtain ⟨p, q, hA, hV, hps, hfz, hnd⟩ := hW
  rw [hv] at hV
  obtain ⟨rfl, rfl⟩ := trodVars_none hV
  rw [List.append_nil] at hps
  subst hps
  have hlt : ∀ x ∈ before, x.block < W.heap.size := fun x hx => hW0.lt x hx
  have hsame : ∀ x ∈ before, W.sameAt W' x := fun x hx => hb.same (hlt x hx)
  have hargs : ∀ sp : Nat → Bool, (∀ x ∈ before, sp x.block = true) → DataW.TrodAll enc P W' 0 sp true f.params.toList args.toList ds before := fun sp hsp => trodAll_keep hl _ _ _ _ hr hA hsame hsp
  have hbool : ∀ (b : Nat) (sp : Nat → Bool) (hd : Bool), DataW.Trod enc P W' b sp hd tb (.bool true) (.lit (.bool true)) [] := fun b sp hd => ⟨1, by simp [DataW.trod, Value.cells, htb]⟩
  have hres1 : ∀ (b : Nat) (sp : Nat → Bool) (hd : Bool), DataW.TrodAll enc P W' b sp hd f.resultTypes.toList ((Value.bool true).resultList f.resultTypes.size) [.lit (.bool true)] [] := by
    intro b sp hd
    rw [hres]
    exact trodAll_mk1 (hbool b sp hd)
  have hk : W.keptBut W' (fun _ => False) := by
    refine ⟨hb.os, hb.output, fun i hi => ?_⟩
    rw [hb.block i hi]
    cases W.heap[i]? with
    | none => rfl
    | some o => cases o with
      | cells c t fr => exact ⟨rfl, rfl, rfl, fun _ _ => rfl⟩
      | map es ck => exact .inr ⟨rfl, rfl⟩
      | _ => rfl
  refine ⟨ds, [], before, [], before, [], hW0, ?_, ?_, ?_, World.keptBut_mono (fun _ h => h.elim) hk, fun _ => ⟨?_, _, [], ([] ++ before) ++ [], ⟨[] ++ before, [], trodAll_append (hargs _ fun _ _ => rfl) (hres1 _ _ _), ?_, rfl, ?_, ?_⟩, fun x hx _ => by simpa using hx⟩⟩
  · rw [hfn]; exact hres1 _ _ _
  · rw [hfn]; exact hargs _ fun x hx => by simpa using hlt x hx
  · rw [hfn, hv]; rfl
  · intro j t r h1 h2
    rw [hres] at h1 h2
    cases j with
    | zero =>
      simp [Value.resultList] at h1 h2
      subst h1; subst h2
      simp [Value.okWide, htb, Cell.okWide, Cell.ok]
    | succ j => simp at h1
  · rw [hv]; rfl
  · intro b off hx
    have hx' : MemPlace.cell b off ∈ before := by simpa using hx
    have := hfz b off hx'
    unfold World.frozen? at this ⊢
    have hbl : b < W.heap.size := hlt _ hx'
    simp only [hb.block b hbl]
    exact this
  · intro ha
    simpa using hnd ha
end
theorem wf64 {n : Int} (h : (Lit.int .i64 n).wf = true) : -9223372036854775808 ≤ n ∧ n < 9223372036854775808 := by
  simp only [Lit.wf, Bool.and_eq_true, decide_eq_true_eq] at h
  have h1 : IntKind.i64.min = -9223372036854775808 := by decide
  have h2 : IntKind.i64.max = 9223372036854775807 := by decide
  rw [h1, h2] at h
  omega
theorem sound_of {P : Program} {f : FuncId} {c : List SV → Hp → (SV → Hp → Option (SV × Hp)) → Option (SV × Hp)} {args : List SV} {v : SV} {H' : Hp} (h : FnOk P f c) (hc : c args [] (fun v H => some (v, H)) = some (v, H')) : Sound P f args [] v H' := by
  obtain ⟨v, H', h1, h2⟩ := h _ _ _ _ hc
  cases h1
  exact h2
/-- A law's run, out of any memory: what was there stays. -/
theorem law_calls {P : Program} {f : FuncId} {args : List SV} (hs : Sound P f args [] (.bool true) []) (W : World)
    (hok : ∀ (ρ : Nat → Tk), SV.okL (fun b => b < W.heap.size) W ρ 0 args) :
    Calls P f (denL (fun _ => ⟨0, .slice none 0 0⟩) args).toArray W fun e W' => e = .returned (.bool true) ∧ Below W.heap.size W W' := by
  have := hs.run ⟨fun b => b < W.heap.size, W, fun b => W.heap.size ≤ b⟩ (fun _ => ⟨0, .slice none 0 0⟩) W
    { obj := by intro t o h; simp at h
      sep := by intro t t' b h; simp [blkOf] at h
      own := by intro t b h; simp [blkOf] at h
      hdr := fun t => ⟨none, 0, 0, rfl⟩
      keep := fun _ _ _ => rfl
      size := Nat.le_refl _
      os := rfl
      tape := rfl
      output := rfl
      ok := by intro t o h; simp at h
      fit := ⟨fun b h => h, fun b h => ⟨h, by show ¬ (W.heap.size ≤ b); have : b < W.heap.size := h; omega⟩⟩ } (hok _)
  refine this.mono fun e W' ⟨ρ', _, he, hR, _⟩ => ⟨by rw [he]; rfl, hR.os, hR.tape, hR.output, hR.size, fun k hk => hR.keep k hk (by show ¬ (W.heap.size ≤ k); omega)⟩
end Go.Proofs.Ytdkkbbpmjpcfkaa.Sx
