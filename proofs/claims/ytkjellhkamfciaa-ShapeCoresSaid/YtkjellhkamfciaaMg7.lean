/- Texts of the walk, merged. -/
import Derived.Test.YtkjellhkamfciaaMg3
import Derived.ProofKit
import Derived.OpenShut
import Derived.Test.YtkjellhkamfciaaMg6
import Derived.Test.YtkjellhkamfciaaMg4
section
/- SX: from a law's run to its row. -/
namespace Go.Proofs.Ytkjellhkamfciaa.Sx
open Go Go.RowKit Go.ChangeShapes
set_option linter.unusedVariables false

section
variable {H : Type} {enc : TypeId × Value → H} {P : Program}

theorem trodAll_keep (hl : laidOutB P = true) {W W' : World} {sp : Nat → Bool} : ∀ (ts : List TypeId) (vs : List Value) (ds : List (DataW H)) (ps : List MemPlace), (∀ t ∈ ts, P.readableRec t = true ∧ t < P.types.size) →
    DataW.TrodAll enc P W 0 (fun _ => true) true ts vs ds ps → (∀ x ∈ ps, W.sameAt W' x) → (∀ x ∈ ps, sp x.block = true) → DataW.TrodAll enc P W' 0 sp true ts vs ds ps
  | [], [], [], ps, _, h, _, _ => h
  | t :: ts, v :: vs, d :: ds, ps, hr, h, h1, h2 => by
    obtain ⟨p, q, a, b, rfl⟩ := h
    exact ⟨p, q, WideElems.Trod_stays hl (hr t (by simp)).1 (hr t (by simp)).2 a (fun x hx => h1 x (by simp [hx])) (fun x hx => h2 x (by simp [hx])),
      trodAll_keep hl ts vs ds q (fun t ht => hr t (by simp [ht])) b (fun x hx => h1 x (by simp [hx])) (fun x hx => h2 x (by simp [hx])), rfl⟩
  | [], _ :: _, _, _, _, h, _, _ => h.elim
  | [], [], _ :: _, _, _, h, _, _ => h.elim
  | _ :: _, [], _, _, _, h, _, _ => h.elim
  | _ :: _, _ :: _, [], _, _, h, _, _ => h.elim

/-- A law that tells true and turns nothing of what was there keeps its row. -/
theorem post_of_below {f : Func} {s : ChangeSpec} {apart fresh handsOn again : Bool} {W W' : World} {args : Array Value} {ds gs : List (DataW H)} {before : List MemPlace} {tb : TypeId}
    (hl : laidOutB P = true) (hr : ∀ t ∈ f.params.toList, P.readableRec t = true ∧ t < P.types.size) (hv : s.vars = []) (hres : f.resultTypes = #[tb]) (htb : P.underlying tb = some .bool)
    (hfn : (s.fn H (ds ++ gs)) = { results := [.lit (.bool true)], args := ds }) (hW : DataW.Whole enc P f.params.toList s.vars apart W args.toList ds gs before) (hb : Below W.heap.size W W') :
    s.post enc P f apart fresh handsOn again W args (.bool true) W' := by
  have hW0 := hW
  obtain ⟨p, q, hA, hV, hps, hfz, hnd⟩ := hW
  rw [hv] at hV
  obtain ⟨rfl, rfl⟩ := trodVars_none hV
  rw [List.append_nil] at hps
  subst hps
  have hlt : ∀ x ∈ before, x.block < W.heap.size := fun x hx => hW0.lt x hx
  have hsame : ∀ x ∈ before, W.sameAt W' x := fun x hx => hb.same (hlt x hx)
  have hargs : ∀ sp : Nat → Bool, (∀ x ∈ before, sp x.block = true) → DataW.TrodAll enc P W' 0 sp true f.params.toList args.toList ds before := fun sp hsp => trodAll_keep hl _ _ _ _ hr hA hsame hsp
  have hbool : ∀ (b : Nat) (sp : Nat → Bool) (hd : Bool), DataW.Trod enc P W' b sp hd tb (.bool true) (.lit (.bool true)) [] := fun b sp hd => ⟨1, by simp [DataW.trod, Value.cells, htb]⟩
  have hres1 : ∀ (b : Nat) (sp : Nat → Bool) (hd : Bool), DataW.TrodAll enc P W' b sp hd f.resultTypes.toList ((Value.bool true).resultList f.resultTypes.size) [.lit (.bool true)] [] := by
    intro b sp hd
    rw [hres]
    exact trodAll_mk1 (hbool b sp hd)
  have hk : W.keptBut W' (fun _ => False) := by
    refine ⟨hb.os, hb.output, fun i hi => ?_⟩
    rw [hb.block i hi]
    cases W.heap[i]? with
    | none => rfl
    | some o => cases o with
      | cells c t fr => exact ⟨rfl, rfl, rfl, fun _ _ => rfl⟩
      | map es ck => exact .inr ⟨rfl, rfl⟩
      | _ => rfl
  refine ⟨ds, [], before, [], before, [], hW0, ?_, ?_, ?_, World.keptBut_mono (fun _ h => h.elim) hk, fun _ => ⟨?_, _, [], ([] ++ before) ++ [], ⟨[] ++ before, [], trodAll_append (hargs _ fun _ _ => rfl) (hres1 _ _ _), ?_, rfl, ?_, ?_⟩, fun x hx _ => by simpa using hx⟩⟩
  · rw [hfn]; exact hres1 _ _ _
  · rw [hfn]; exact hargs _ fun x hx => by simpa using hlt x hx
  · rw [hfn, hv]; rfl
  · intro j t r h1 h2
    rw [hres] at h1 h2
    cases j with
    | zero =>
      simp [Value.resultList] at h1 h2
      subst h1; subst h2
      simp [Value.okWide, htb, Cell.okWide, Cell.ok]
    | succ j => simp at h1
  · rw [hv]; rfl
  · intro b off hx
    have hx' : MemPlace.cell b off ∈ before := by simpa using hx
    have := hfz b off hx'
    unfold World.frozen? at this ⊢
    have hbl : b < W.heap.size := hlt _ hx'
    simp only [hb.block b hbl]
    exact this
  · intro ha
    simpa using hnd ha
end
theorem flat_get (κ : K) : ∀ (xs : List κ.T) (q m : Nat), q < xs.length → m < κ.sz → (xs.flatMap κ.cells)[q * κ.sz + m]? = (κ.cells (xs[q]?.getD κ.dflt))[m]?
  | [], q, m, h, _ => by simp at h
  | x :: xs, 0, m, h, hm => by
    rw [List.flatMap_cons, List.getElem?_append_left (by rw [K.cells_length]; omega)]
    simp
  | x :: xs, q + 1, m, h, hm => by
    rw [List.flatMap_cons, List.getElem?_append_right (by rw [K.cells_length, Nat.add_mul]; omega), K.cells_length]
    rw [show (q + 1) * κ.sz + m - κ.sz = q * κ.sz + m by rw [Nat.add_mul]; omega]
    simpa using flat_get κ xs q m (by simpa using h) hm
theorem okWide_slice' {P : Program} {w : World} {r : Reach} {base : Nat} {t e : TypeId} {v : Value} (ht : P.underlying t = some (.slice e)) (h : Value.okWide P w r base t v) : ∃ a l c, v = .slice a l c := by
  unfold Value.okWide at h
  rw [ht] at h
  cases v <;> simp_all [Cell.okWide, Cell.ok]
/-- A slice: what it reads as. -/
theorem ros_trod {H : Type} {enc : TypeId × Value → H} {P : Program} {W : World} {t e : TypeId} {κ : K} {good : κ.T → Prop} {fuel : Nat} {cs : List Value} {x : DataW H × List MemPlace} (ht : P.underlying t = some (.slice e)) (hc : P.cellsOf e = κ.sz)
    (hel : ∀ n cs x, DataW.trod enc P W 0 (fun _ => true) true n e cs = some x → ∃ y : κ.T, cs = κ.cells y ∧ good y) (h : DataW.trod enc P W 0 (fun _ => true) true fuel t cs = some x) :
    ∃ v, cs = [v] ∧ ∃ xs : List κ.T, (∀ x ∈ xs, good x) ∧ xs.length < 9223372036854775808 ∧ RosOk (fun b => b < W.heap.size) W v κ xs := by
  rcases DataW.trod_slice ht h with ⟨rfl, _⟩ | ⟨a, l0, c0, elems, rest, n, _, rfl, _, hb, hl, hm, hlen, hes, _, _⟩
  · exact ⟨_, rfl, [], by simp, by simp, .inl ⟨rfl, none, 0, rfl⟩⟩
  · refine ⟨_, rfl, ?_⟩
    have each : ∀ i, i < l0 → ∃ y : κ.T, W.cells? 0 (a.add (i * κ.sz)) κ.sz = some (κ.cells y) ∧ good y := by
      intro i hi
      have h1 := hes i hi
      rw [hc] at h1
      have h2 : elems[i]? = some (elems[i]'(by omega)) := List.getElem?_eq_getElem (by omega)
      rw [h2, Option.bind_eq_some_iff] at h1
      obtain ⟨cs, hcs, hx⟩ := h1
      obtain ⟨y, rfl, hy⟩ := hel _ _ _ hx
      exact ⟨y, hcs, hy⟩
    have all : ∀ k, k ≤ l0 → ∃ xs : List κ.T, xs.length = k ∧ (∀ x ∈ xs, good x) ∧ ∀ i, (hi : i < xs.length) → W.cells? 0 (a.add (i * κ.sz)) κ.sz = some (κ.cells xs[i]) := by
      intro k
      induction k with
      | zero => exact fun _ => ⟨[], rfl, by simp, by simp⟩
      | succ k ih =>
        intro hk
        obtain ⟨xs, e1, e2, e3⟩ := ih (by omega)
        obtain ⟨y, e4, e5⟩ := each k (by omega)
        refine ⟨xs ++ [y], by simp [e1], ?_, ?_⟩
        · intro x hx
          rcases List.mem_append.1 hx with hx | hx
          · exact e2 x hx
          · simp at hx; subst hx; exact e5
        · intro i hi
          by_cases hik : i < xs.length
          · rw [List.getElem_append_left hik]; exact e3 i hik
          · have : i = xs.length := by simp at hi; omega
            subst this
            rw [List.getElem_append_right (by omega)]
            simpa [e1] using e4
    obtain ⟨xs, e1, e2, e3⟩ := all l0 (Nat.le_refl _)
    refine ⟨xs, e2, by unfold maxLen at hm; omega, ?_⟩
    by_cases h0 : l0 = 0
    · subst h0
      exact .inl ⟨List.eq_nil_of_length_eq_zero e1, _, _, rfl⟩
    · have hcell : ∀ i j, i < l0 → j < κ.sz → W.cell? ((a.add (i * κ.sz)).add j) = (κ.cells (xs[i]?.getD κ.dflt))[j]? := by
        intro i j hi hj
        have := (World.cells?_some (e3 i (by omega))).2.2 j hj
        rw [this]
        simp [show i < xs.length by omega]
      have hsz : 0 < κ.sz := K.sz_pos κ
      have h00 := hcell 0 0 (by omega) hsz
      have hsp : a.spot = none ∧ a.block < W.heap.size := by
        have e0 : (a.add (0 * κ.sz)).add 0 = a := by simp [Addr.add]
        rw [e0] at h00
        have hne : (κ.cells (xs[0]?.getD κ.dflt))[0]? ≠ none := by
          rw [List.getElem?_eq_getElem (by rw [K.cells_length]; exact hsz)]; simp
        rw [← h00] at hne
        unfold World.cell? at hne
        split at hne
        · rename_i c t' f' hh
          refine ⟨?_, ?_⟩
          · cases hs : a.spot with
            | none => rfl
            | some q => simp [hs] at hne
          · exact (Array.getElem?_eq_some_iff.1 hh).1
        · simp at hne
      refine .inr ⟨a, c0, by rw [e1], by omega, hsp.1, hsp.2, ?_⟩
      intro j c hj
      have hjl : j < xs.length * κ.sz := by
        have := (List.getElem?_eq_some_iff.1 hj).1
        rwa [cells_flat_length] at this
      have hq : j / κ.sz < xs.length := Nat.div_lt_of_lt_mul (by rwa [Nat.mul_comm])
      have hm' : j % κ.sz < κ.sz := Nat.mod_lt _ hsz
      have hadd : (⟨a.block, a.off + j, none⟩ : Addr) = (a.add (j / κ.sz * κ.sz)).add (j % κ.sz) := by
        obtain ⟨ab, ao, asp⟩ := a
        have : asp = none := hsp.1
        subst this
        rw [add_lit, add_lit, Nat.add_assoc, Nat.div_add_mod' j κ.sz]
      rw [hadd, hcell _ _ (by omega) hm']
      rw [← flat_get κ xs (j / κ.sz) (j % κ.sz) hq hm', Nat.div_add_mod' j κ.sz]
      exact hj
/-- A slice that is handed to a law: what it reads as. -/
theorem ros_slice {H : Type} {enc : TypeId × Value → H} {P : Program} {W : World} {r : Reach} {b0 : Nat} {t e : TypeId} {κ : K} {good : κ.T → Prop} {v : Value} {d : DataW H} {ps : List MemPlace} (ht : P.underlying t = some (.slice e)) (hc : P.cellsOf e = κ.sz)
    (hel : ∀ n cs x, DataW.trod enc P W 0 (fun _ => true) true n e cs = some x → ∃ y : κ.T, cs = κ.cells y ∧ good y) (hval : Value.okWide P W r b0 t v) (h : DataW.Trod enc P W 0 (fun _ => true) true t v d ps) :
    ∃ xs : List κ.T, (∀ x ∈ xs, good x) ∧ xs.length < 9223372036854775808 ∧ RosOk (fun b => b < W.heap.size) W v κ xs := by
  obtain ⟨a0, l0, c0, rfl⟩ := okWide_slice' ht hval
  obtain ⟨fuel, h⟩ := h
  have hcs : (Value.slice a0 l0 c0).cells.toList = [.slice a0 l0 c0] := rfl
  rw [hcs] at h
  obtain ⟨v, hv, hx⟩ := ros_trod ht hc hel h
  cases hv
  exact hx
theorem wf64 {n : Int} (h : (Lit.int .i64 n).wf = true) : -9223372036854775808 ≤ n ∧ n < 9223372036854775808 := by
  simp only [Lit.wf, Bool.and_eq_true, decide_eq_true_eq] at h
  have h1 : IntKind.i64.min = -9223372036854775808 := by decide
  have h2 : IntKind.i64.max = 9223372036854775807 := by decide
  rw [h1, h2] at h
  omega
theorem el_int {H : Type} {enc : TypeId × Value → H} {P : Program} {W : World} {e : TypeId} (he : P.underlying e = some (.int .i64)) :
    ∀ n cs x, DataW.trod enc P W 0 (fun _ => true) true n e cs = some x → ∃ y : (K.int .i64).T, cs = (K.int .i64).cells y ∧ (-9223372036854775808 ≤ y ∧ y < 9223372036854775808) := by
  intro n cs x h
  obtain ⟨m, rfl, _, hw⟩ := DataW.trod_int he h
  exact ⟨m, rfl, wf64 hw⟩
theorem el_v3 {H : Type} {enc : TypeId × Value → H} {P : Program} {W : World} {t e : TypeId} (ht : P.underlying t = some (.array 3 e)) (he : P.underlying e = some (.int .i64)) (hc : P.cellsOf e = 1) (hct : P.cellsOf t = 3) :
    ∀ n cs x, DataW.trod enc P W 0 (fun _ => true) true n t cs = some x → ∃ y : K.v3.T, cs = K.v3.cells y ∧ True := by
  intro n cs x h
  obtain ⟨xs, m, _, _, hl, hx, hi⟩ := DataW.trod_array ht h
  rw [hct] at hl
  have get : ∀ i, i < 3 → ∃ y : Int, cs[i]? = some (.int .i64 y) := by
    intro i h3
    have h1 := hi i h3
    rw [hc, Nat.mul_one, List.getElem?_eq_getElem (by omega)] at h1
    obtain ⟨y, h2, _, _⟩ := DataW.trod_int he h1
    refine ⟨y, ?_⟩
    have := congrArg (fun l => l[0]?) h2
    simpa using this
  obtain ⟨a, ha⟩ := get 0 (by omega)
  obtain ⟨b, hb⟩ := get 1 (by omega)
  obtain ⟨c, hc⟩ := get 2 (by omega)
  refine ⟨⟨a, b, c⟩, ?_, trivial⟩
  obtain ⟨p, q, r, rfl⟩ : ∃ p q r, cs = [p, q, r] := match cs, hl with | [p, q, r], _ => ⟨p, q, r, rfl⟩
  simp at ha hb hc
  subst ha; subst hb; subst hc
  rfl
theorem sound_of {P : Program} {f : FuncId} {c : List SV → Hp → (SV → Hp → Option (SV × Hp)) → Option (SV × Hp)} {args : List SV} {v : SV} {H' : Hp} (h : FnOk P f c) (hc : c args [] (fun v H => some (v, H)) = some (v, H')) : Sound P f args [] v H' := by
  obtain ⟨v, H', h1, h2⟩ := h _ _ _ _ hc
  cases h1
  exact h2
/-- A law's run, out of any memory: what was there stays. -/
theorem law_calls {P : Program} {f : FuncId} {args : List SV} (hs : Sound P f args [] (.bool true) []) (W : World)
    (hok : ∀ (ρ : Nat → Tk), SV.okL (fun b => b < W.heap.size) W ρ 0 args) :
    Calls P f (denL (fun _ => ⟨0, .slice none 0 0⟩) args).toArray W fun e W' => e = .returned (.bool true) ∧ Below W.heap.size W W' := by
  have := hs.run ⟨fun b => b < W.heap.size, W, fun b => W.heap.size ≤ b⟩ (fun _ => ⟨0, .slice none 0 0⟩) W
    { obj := by intro t o h; simp at h
      sep := by intro t t' b h; simp [blkOf] at h
      own := by intro t b h; simp [blkOf] at h
      hdr := fun t => ⟨none, 0, 0, rfl⟩
      keep := fun _ _ _ => rfl
      size := Nat.le_refl _
      os := rfl
      tape := rfl
      output := rfl
      ok := by intro t o h; simp at h
      fit := ⟨fun b h => h, fun b h => ⟨h, by show ¬ (W.heap.size ≤ b); have : b < W.heap.size := h; omega⟩⟩ } (hok _)
  refine this.mono fun e W' ⟨ρ', _, he, hR, _⟩ => ⟨by rw [he]; rfl, hR.os, hR.tape, hR.output, hR.size, fun k hk => hR.keep k hk (by show ¬ (W.heap.size ≤ k); omega)⟩
/-! Plain structs: what they read as. -/
def LK.good : (k : LK) → k.T → Prop
  | .i k, n => (Lit.int k n).wf = true
  | .b, _ => True
def RT.good : (k : LK) → (ks : List LK) → RT k ks → Prop
  | k, [], x => k.good x
  | k, k' :: ks, x => k.good x.1 ∧ RT.good k' ks x.2
def Mt : List LK → List Value → Prop
  | [], [] => True
  | .i k :: ks, .int k' n :: cs => k' = k ∧ (Lit.int k n).wf = true ∧ Mt ks cs
  | .b :: ks, .bool _ :: cs => Mt ks cs
  | _, _ => False
theorem Mt.length : ∀ {ks : List LK} {cs : List Value}, Mt ks cs → cs.length = ks.length
  | [], [], _ => rfl
  | .i _ :: ks, .int _ _ :: cs, h => by simp [Mt.length (ks := ks) (cs := cs) h.2.2]
  | .b :: ks, .bool _ :: cs, h => by simp [Mt.length (ks := ks) (cs := cs) h]
  | [], _ :: _, h => h.elim
  | .i _ :: _, [], h => h.elim
  | .b :: _, [], h => h.elim
theorem Mt.append : ∀ {ks ls : List LK} {cs ds : List Value}, Mt ks cs → Mt ls ds → Mt (ks ++ ls) (cs ++ ds)
  | [], ls, [], ds, _, h => h
  | .i _ :: ks, ls, .int _ _ :: cs, ds, h, h' => ⟨h.1, h.2.1, Mt.append h.2.2 h'⟩
  | .b :: ks, ls, .bool _ :: cs, ds, h, h' => Mt.append (ks := ks) (cs := cs) h h'
  | [], _, _ :: _, _, h, _ => h.elim
  | .i _ :: _, _, [], _, h, _ => h.elim
  | .b :: _, _, [], _, h, _ => h.elim
theorem Mt.data : ∀ {k : LK} {ks : List LK} {cs : List Value}, Mt (k :: ks) cs → ∃ x : RT k ks, cs = RT.cells k ks x ∧ RT.good k ks x
  | .i k, [], [.int k' n], h => by obtain ⟨rfl, h2, _⟩ := h; exact ⟨n, rfl, h2⟩
  | .b, [], [.bool v], h => ⟨v, rfl, trivial⟩
  | .i k, k2 :: ks, .int k' n :: cs, h => by
    obtain ⟨rfl, h2, h3⟩ := h
    obtain ⟨x, rfl, hx⟩ := Mt.data h3
    exact ⟨(n, x), rfl, h2, hx⟩
  | .b, k2 :: ks, .bool v :: cs, h => by
    obtain ⟨x, rfl, hx⟩ := Mt.data (cs := cs) (k := k2) (ks := ks) h
    exact ⟨(v, x), rfl, trivial, hx⟩
  | .i _, [], .int _ _ :: _ :: _, h => h.2.2.elim
  | .b, [], .bool _ :: _ :: _, h => h.elim
  | .i _, _, [], h => h.elim
  | .b, _, [], h => h.elim
/-- The leaves' kinds of a plain type. -/
def shpFs (P : Program) (f : TypeId → Option (List LK)) : List Field → Nat → Option (List LK)
  | [], _ => some []
  | x :: l, off => if x.offset = off then (f x.type).bind fun ks => if ks.length = P.cellsOf x.type then (shpFs P f l (off + ks.length)).map fun ls => ks ++ ls else none else none
def rep {α : Type} : Nat → List α → List α
  | 0, _ => []
  | n + 1, l => l ++ rep n l
def shp (P : Program) : Nat → TypeId → Option (List LK)
  | 0, _ => none
  | d + 1, t => match P.underlying t with
    | some (.int k) => some [.i k]
    | some .bool => some [.b]
    | some (.struct fs) => (shpFs P (shp P d) fs.toList 0).bind fun ks => if ks.length = P.cellsOf t then some ks else none
    | some (.array n e) => (shp P d e).bind fun ks => if ks.length = P.cellsOf e ∧ n * ks.length = P.cellsOf t then some (rep n ks) else none
    | _ => none
theorem rep_length {α : Type} (l : List α) : ∀ n, (rep n l).length = n * l.length
  | 0 => by simp [rep]
  | n + 1 => by rw [rep, List.length_append, rep_length l n, Nat.add_mul]; omega
theorem trod_bool' {H : Type} {enc : TypeId × Value → H} {P : Program} {W : World} {b : Nat} {sp : Nat → Bool} {hd : Bool} {t : TypeId} {n : Nat} {cs : List Value} {x : DataW H × List MemPlace}
    (ht : P.underlying t = some .bool) (h : DataW.trod enc P W b sp hd n t cs = some x) : ∃ v, cs = [.bool v] := by
  cases n with
  | zero => simp [DataW.trod] at h
  | succ n =>
    unfold DataW.trod at h
    rw [ht] at h
    split at h <;> simp_all
theorem trod_shp {H : Type} {enc : TypeId × Value → H} {P : Program} {W : World} {b : Nat} {sp : Nat → Bool} {hd : Bool} : ∀ (d : Nat) (t : TypeId) (ks : List LK), shp P d t = some ks →
    ∀ (n : Nat) (cs : List Value) (x : DataW H × List MemPlace), DataW.trod enc P W b sp hd n t cs = some x → Mt ks cs
  | 0, t, ks, h => by simp [shp] at h
  | d + 1, t, ks, h => by
    intro n cs x hx
    have ih := trod_shp (enc := enc) (P := P) (W := W) (b := b) (sp := sp) (hd := hd) d
    unfold shp at h
    split at h
    · rename_i k ht
      cases h
      obtain ⟨m, rfl, _, hw⟩ := DataW.trod_int ht hx
      exact ⟨rfl, hw, trivial⟩
    · rename_i ht
      cases h
      obtain ⟨v, rfl⟩ := trod_bool' ht hx
      trivial
    · rename_i fs ht
      rw [Option.bind_eq_some_iff] at h
      obtain ⟨ks', h1, h2⟩ := h
      split at h2
      · rename_i hl
        cases h2
        obtain ⟨xs, m, _, _, hlen, hxl, hf⟩ := DataW.trod_struct ht hx
        have each : ∀ f ∈ fs.toList, ∃ x, DataW.trod enc P W b sp hd m f.type ((cs.drop f.offset).take (P.cellsOf f.type)) = some x := by
          intro f hf'
          obtain ⟨i, hi, rfl⟩ := List.mem_iff_getElem.1 hf'
          have hi' : i < fs.size := by simpa using hi
          have := hf i _ (by simp [hi'] : fs[i]? = some (fs.toList[i]))
          exact ⟨xs[i]'(by omega), by rw [this]; simp [show i < xs.length by omega]⟩
        have main : ∀ (l : List Field) (off : Nat) (ks : List LK), (∀ f ∈ l, ∃ x, DataW.trod enc P W b sp hd m f.type ((cs.drop f.offset).take (P.cellsOf f.type)) = some x) →
            shpFs P (shp P d) l off = some ks → cs.length = off + ks.length → Mt ks (cs.drop off) := by
          intro l
          induction l with
          | nil =>
            intro off ks _ hk hl2
            simp [shpFs] at hk
            subst hk
            rw [List.drop_eq_nil_of_le (by simp at hl2; omega)]
            trivial
          | cons f l ihl =>
            intro off ks he hk hl2
            unfold shpFs at hk
            split at hk
            · rename_i ho
              rw [Option.bind_eq_some_iff] at hk
              obtain ⟨k1, a1, a2⟩ := hk
              split at a2
              · rename_i hk1
                rw [Option.map_eq_some_iff] at a2
                obtain ⟨k2, a3, rfl⟩ := a2
                obtain ⟨y, hy⟩ := he f (by simp)
                have m1 := ih _ _ a1 _ _ _ hy
                have m2 := ihl (off + k1.length) k2 (fun g hg => he g (by simp [hg])) a3 (by simp at hl2; omega)
                rw [ho, ← hk1] at m1
                have e : cs.drop off = (cs.drop off).take k1.length ++ cs.drop (off + k1.length) := by
                  rw [← List.drop_drop, List.take_append_drop]
                rw [e]
                exact m1.append m2
              · cases a2
            · cases hk
        have := main fs.toList 0 _ each h1 (by omega)
        simpa using this
      · cases h2
    · rename_i n' e ht
      rw [Option.bind_eq_some_iff] at h
      obtain ⟨k1, h1, h2⟩ := h
      split at h2
      · rename_i hl
        cases h2
        obtain ⟨xs, m, _, _, hlen, hxl, hf⟩ := DataW.trod_array ht hx
        have each : ∀ i, i < n' → Mt k1 ((cs.drop (i * k1.length)).take k1.length) := by
          intro i hi
          have := hf i hi
          rw [List.getElem?_eq_getElem (by omega)] at this
          have := ih _ _ h1 _ _ _ this
          rwa [← hl.1] at this
        have main : ∀ j, j ≤ n' → Mt (rep j k1) (cs.drop ((n' - j) * k1.length)) := by
          intro j
          induction j with
          | zero =>
            intro _
            rw [List.drop_eq_nil_of_le (by simp; omega)]
            trivial
          | succ j ihj =>
            intro hj
            have m1 := each (n' - (j + 1)) (by omega)
            have m2 := ihj (by omega)
            have e0 : (n' - (j + 1)) * k1.length + k1.length = (n' - j) * k1.length := by
              rw [show n' - j = (n' - (j + 1)) + 1 by omega, Nat.add_mul]; omega
            have e : cs.drop ((n' - (j + 1)) * k1.length) = (cs.drop ((n' - (j + 1)) * k1.length)).take k1.length ++ cs.drop ((n' - j) * k1.length) := by
              rw [← e0, ← List.drop_drop, List.take_append_drop]
            rw [e]
            exact m1.append m2
        have := main n' (Nat.le_refl _)
        simpa using this
      · cases h2
    · cases h
theorem el_st {H : Type} {enc : TypeId × Value → H} {P : Program} {W : World} {t : TypeId} {k : LK} {ks : List LK} (d : Nat) (hs : shp P d t = some (k :: ks)) :
    ∀ n cs x, DataW.trod enc P W 0 (fun _ => true) true n t cs = some x → ∃ y : (K.st k ks).T, cs = (K.st k ks).cells y ∧ RT.good k ks y :=
  fun n cs x h => (trod_shp d t _ hs n cs x h).data
/-- A plain struct that is handed to a law. -/
theorem open_st {H : Type} {enc : TypeId × Value → H} {P : Program} {W : World} {r : Reach} {b0 : Nat} {t : TypeId} {v : Value} {dd : DataW H} {ps : List MemPlace} {k : LK} {ks : List LK} (d : Nat) (hs : shp P d t = some (k :: ks))
    (ha : (match P.underlying t with | some (.struct _) | some (.array _ _) => true | _ => false) = true) (hval : Value.okWide P W r b0 t v) (h : DataW.Trod enc P W 0 (fun _ => true) true t v dd ps) :
    ∃ y : RT k ks, v = .agg (RT.cells k ks y).toArray ∧ RT.good k ks y := by
  have : ∃ cs, v = .agg cs := by
    unfold Value.okWide at hval
    split at hval
    · obtain ⟨cs, rfl, _⟩ := hval; exact ⟨cs, rfl⟩
    · obtain ⟨cs, rfl, _⟩ := hval; exact ⟨cs, rfl⟩
    · rename_i h1 h2
      exfalso
      split at ha
      · rename_i fs hf; exact h1 fs hf
      · rename_i n e hf; exact h2 n e hf
      · cases ha
  obtain ⟨cs, rfl⟩ := this
  obtain ⟨fuel, h⟩ := h
  obtain ⟨y, hy, hg⟩ := (trod_shp d t _ hs _ _ _ h).data
  have hy' : cs.toList = RT.cells k ks y := hy
  exact ⟨y, by rw [← hy'], hg⟩
/-! Structs with slices. -/
inductive RK where
  | leaf (k : LK) | sl (t : TypeId)
def MtR {H : Type} (enc : TypeId × Value → H) (P : Program) (W : World) : List RK → List Value → Prop
  | [], [] => True
  | .leaf (.i k) :: ks, .int k' n :: cs => k' = k ∧ (Lit.int k n).wf = true ∧ MtR enc P W ks cs
  | .leaf .b :: ks, .bool _ :: cs => MtR enc P W ks cs
  | .sl t :: ks, v :: cs => (∃ fuel x, DataW.trod enc P W 0 (fun _ => true) true fuel t [v] = some x) ∧ MtR enc P W ks cs
  | _, _ => False
theorem MtR.append {H : Type} {enc : TypeId × Value → H} {P : Program} {W : World} : ∀ {ks ls : List RK} {cs ds : List Value}, MtR enc P W ks cs → MtR enc P W ls ds → MtR enc P W (ks ++ ls) (cs ++ ds)
  | [], ls, [], ds, _, h => h
  | .leaf (.i _) :: ks, ls, .int _ _ :: cs, ds, h, h' => ⟨h.1, h.2.1, MtR.append h.2.2 h'⟩
  | .leaf .b :: ks, ls, .bool _ :: cs, ds, h, h' => MtR.append (ks := ks) (cs := cs) h h'
  | .sl _ :: ks, ls, v :: cs, ds, h, h' => ⟨h.1, MtR.append h.2 h'⟩
theorem MtR.ci {H : Type} {enc : TypeId × Value → H} {P : Program} {W : World} {k : IntKind} {ks : List RK} : ∀ {cs : List Value}, MtR enc P W (.leaf (.i k) :: ks) cs → ∃ n cs', cs = .int k n :: cs' ∧ (Lit.int k n).wf = true ∧ MtR enc P W ks cs'
  | .int _ n :: cs, h => by obtain ⟨rfl, h2, h3⟩ := h; exact ⟨n, cs, rfl, h2, h3⟩
theorem MtR.cb {H : Type} {enc : TypeId × Value → H} {P : Program} {W : World} {ks : List RK} : ∀ {cs : List Value}, MtR enc P W (.leaf .b :: ks) cs → ∃ b cs', cs = .bool b :: cs' ∧ MtR enc P W ks cs'
  | .bool b :: cs, h => ⟨b, cs, rfl, h⟩
theorem MtR.cs {H : Type} {enc : TypeId × Value → H} {P : Program} {W : World} {t : TypeId} {ks : List RK} : ∀ {cs : List Value}, MtR enc P W (.sl t :: ks) cs → ∃ v cs', cs = v :: cs' ∧ (∃ fuel x, DataW.trod enc P W 0 (fun _ => true) true fuel t [v] = some x) ∧ MtR enc P W ks cs'
  | v :: cs, h => ⟨v, cs, rfl, h.1, h.2⟩
theorem MtR.nil {H : Type} {enc : TypeId × Value → H} {P : Program} {W : World} : ∀ {cs : List Value}, MtR enc P W [] cs → cs = []
  | [], _ => rfl
def shpRF (P : Program) (f : TypeId → Option (List RK)) : List Field → Nat → Option (List RK)
  | [], _ => some []
  | x :: l, off => if x.offset = off then (f x.type).bind fun ks => if ks.length = P.cellsOf x.type then (shpRF P f l (off + ks.length)).map fun ls => ks ++ ls else none else none
def shpR (P : Program) : Nat → TypeId → Option (List RK)
  | 0, _ => none
  | d + 1, t => match P.underlying t with
    | some (.int k) => some [.leaf (.i k)]
    | some .bool => some [.leaf .b]
    | some (.slice _) => some [.sl t]
    | some (.struct fs) => (shpRF P (shpR P d) fs.toList 0).bind fun ks => if ks.length = P.cellsOf t then some ks else none
    | _ => none
theorem trod_shpR {H : Type} {enc : TypeId × Value → H} {P : Program} {W : World} : ∀ (d : Nat) (t : TypeId) (ks : List RK), shpR P d t = some ks →
    ∀ (n : Nat) (cs : List Value) (x : DataW H × List MemPlace), DataW.trod enc P W 0 (fun _ => true) true n t cs = some x → MtR enc P W ks cs
  | 0, t, ks, h => by simp [shpR] at h
  | d + 1, t, ks, h => by
    intro n cs x hx
    have ih := trod_shpR (enc := enc) (P := P) (W := W) d
    unfold shpR at h
    split at h
    · rename_i k ht
      cases h
      obtain ⟨m, rfl, _, hw⟩ := DataW.trod_int ht hx
      exact ⟨rfl, hw, trivial⟩
    · rename_i ht
      cases h
      obtain ⟨v, rfl⟩ := trod_bool' ht hx
      trivial
    · rename_i e ht
      cases h
      rcases DataW.trod_slice ht hx with ⟨rfl, _⟩ | ⟨a, l0, c0, elems, rest, n, _, rfl, _⟩
      · exact ⟨⟨_, _, hx⟩, trivial⟩
      · exact ⟨⟨_, _, hx⟩, trivial⟩
    · rename_i fs ht
      rw [Option.bind_eq_some_iff] at h
      obtain ⟨ks', h1, h2⟩ := h
      split at h2
      · rename_i hl
        cases h2
        obtain ⟨xs, m, _, _, hlen, hxl, hf⟩ := DataW.trod_struct ht hx
        have each : ∀ f ∈ fs.toList, ∃ x, DataW.trod enc P W 0 (fun _ => true) true m f.type ((cs.drop f.offset).take (P.cellsOf f.type)) = some x := by
          intro f hf'
          obtain ⟨i, hi, rfl⟩ := List.mem_iff_getElem.1 hf'
          have hi' : i < fs.size := by simpa using hi
          have := hf i _ (by simp [hi'] : fs[i]? = some (fs.toList[i]))
          exact ⟨xs[i]'(by omega), by rw [this]; simp [show i < xs.length by omega]⟩
        have main : ∀ (l : List Field) (off : Nat) (ks : List RK), (∀ f ∈ l, ∃ x, DataW.trod enc P W 0 (fun _ => true) true m f.type ((cs.drop f.offset).take (P.cellsOf f.type)) = some x) →
            shpRF P (shpR P d) l off = some ks → cs.length = off + ks.length → MtR enc P W ks (cs.drop off) := by
          intro l
          induction l with
          | nil =>
            intro off ks _ hk hl2
            simp [shpRF] at hk
            subst hk
            rw [List.drop_eq_nil_of_le (by simp at hl2; omega)]
            trivial
          | cons f l ihl =>
            intro off ks he hk hl2
            unfold shpRF at hk
            split at hk
            · rename_i ho
              rw [Option.bind_eq_some_iff] at hk
              obtain ⟨k1, a1, a2⟩ := hk
              split at a2
              · rename_i hk1
                rw [Option.map_eq_some_iff] at a2
                obtain ⟨k2, a3, rfl⟩ := a2
                obtain ⟨y, hy⟩ := he f (by simp)
                have m1 := ih _ _ a1 _ _ _ hy
                have m2 := ihl (off + k1.length) k2 (fun g hg => he g (by simp [hg])) a3 (by simp at hl2; omega)
                rw [ho, ← hk1] at m1
                have e : cs.drop off = (cs.drop off).take k1.length ++ cs.drop (off + k1.length) := by
                  rw [← List.drop_drop, List.take_append_drop]
                rw [e]
                exact m1.append m2
              · cases a2
            · cases hk
        have := main fs.toList 0 _ each h1 (by omega)
        simpa using this
      · cases h2
    · cases h
/-- A struct with slices that is handed to a law. -/
theorem open_str {H : Type} {enc : TypeId × Value → H} {P : Program} {W : World} {r : Reach} {b0 : Nat} {t : TypeId} {v : Value} {dd : DataW H} {ps : List MemPlace} {ks : List RK} (d : Nat) (hs : shpR P d t = some ks)
    (ha : (match P.underlying t with | some (.struct _) | some (.array _ _) => true | _ => false) = true) (hval : Value.okWide P W r b0 t v) (h : DataW.Trod enc P W 0 (fun _ => true) true t v dd ps) :
    ∃ cs : List Value, v = .agg cs.toArray ∧ MtR enc P W ks cs := by
  have : ∃ cs, v = .agg cs := by
    unfold Value.okWide at hval
    split at hval
    · obtain ⟨cs, rfl, _⟩ := hval; exact ⟨cs, rfl⟩
    · obtain ⟨cs, rfl, _⟩ := hval; exact ⟨cs, rfl⟩
    · rename_i h1 h2
      exfalso
      split at ha
      · rename_i fs hf; exact h1 fs hf
      · rename_i n e hf; exact h2 n e hf
      · cases ha
  obtain ⟨cs, rfl⟩ := this
  obtain ⟨fuel, h⟩ := h
  exact ⟨cs.toList, by simp, trod_shpR d t _ hs _ _ _ h⟩
/-- Whatever is said. (By choice, so that no checker looks at it.) -/
noncomputable def _root_.Go.Proofs.Ytkjellhkamfciaa.V.gB (p : Prop) : Bool := open Classical in Classical.choose (⟨decide p, rfl⟩ : ∃ r : Bool, r = decide p)
theorem gB_of {p : Prop} (h : p) : V.gB p = true := by
  have e : V.gB p = _ := Classical.choose_spec (⟨open Classical in decide p, rfl⟩ : ∃ r : Bool, r = open Classical in decide p)
  rw [e]; simp [h]
theorem gB_iff {p : Prop} (h : V.gB p = true) : p := by
  have e : V.gB p = _ := Classical.choose_spec (⟨open Classical in decide p, rfl⟩ : ∃ r : Bool, r = open Classical in decide p)
  rw [e] at h; simpa using h
end Go.Proofs.Ytkjellhkamfciaa.Sx
end

section
/- shape, plainly: raw shapes made right. -/
namespace Go.Proofs.Ytkjellhkamfciaa.Sx
open Go
set_option linter.unusedVariables false
set_option linter.unusedSimpArgs false
def Rr (n : Int) : Prop := -9223372036854775808 ≤ n ∧ n < 9223372036854775808
theorem pick_val {c n : Int} (hc : Rr c) (hn : 0 < n ∧ n < 9223372036854775808) : V.lpick_g c n = true ∧ 0 ≤ V.lpick_r0 c n ∧ V.lpick_r0 c n < n := by
  unfold Rr at hc
  have h0 : ¬ n = 0 := by omega
  unfold V.lpick_g V.lpick_r0
  simp only [cLt_eq, if_neg h0, ite_self, true_and]
  by_cases h : c < 0
  · rw [if_pos (by simpa using h), IntWalk.i64_in (c + 1) (by omega), IntWalk.i64_in (0 - (c + 1)) (by omega)]
    rw [Int.tmod_eq_emod_of_nonneg (by omega)]
    exact ⟨Int.emod_nonneg _ h0, Int.emod_lt_of_pos _ hn.1⟩
  · rw [if_neg (by simpa using h)]
    rw [Int.tmod_eq_emod_of_nonneg (by omega)]
    exact ⟨Int.emod_nonneg _ h0, Int.emod_lt_of_pos _ hn.1⟩
theorem part_val {c n : Int} (hc : Rr c) (hn : 0 ≤ n ∧ n ≤ 1152921504606846976) : V.lpart_g c n = true ∧ -n ≤ V.lpart_r0 c n ∧ V.lpart_r0 c n ≤ n := by
  have e : IntKind.wrap .i64 (IntKind.wrap .i64 (2 * n) + 1) = 2 * n + 1 := by
    rw [IntWalk.i64_in (2 * n) (by omega), IntWalk.i64_in _ (by omega)]
  obtain ⟨p1, p2, p3⟩ := pick_val (n := 2 * n + 1) hc (by omega)
  unfold V.lpart_g V.lpart_r0
  rw [e, if_pos p1, if_pos p1, IntWalk.i64_in _ (by omega)]
  exact ⟨rfl, by omega, by omega⟩
/-- A raw point as one that may be. -/
noncomputable def partP (p : P3) : P3 := (V.lpart_r0 p.1 65536, V.lpart_r0 p.2.1 65536, V.lpart_r0 p.2.2 65536)
def RP (p : P3) : Prop := Rr p.1 ∧ Rr p.2.1 ∧ Rr p.2.2
noncomputable def kd (k : Int) : Int := 1 + V.lpick_r0 k 4
noncomputable def rad (r : Int) : Int := 1 + V.lpick_r0 r 16384
noncomputable def hlf (h : Int) : Int := 1 + V.lpick_r0 h 65536
noncomputable def pts0 (k : Int) (l : List P3) : List P3 := if kd k = 4 then (l.take 12).map partP else []
noncomputable def chk0 (k r hx hy hz : Int) (l : List P3) : Int := chkP (kd k) (rad r) (hlf hx) (hlf hy) (hlf hz) (pts0 k l)
noncomputable def rgKP (k r hx hy hz : Int) (l : List P3) : Int := if kd k = 4 ∧ chk0 k r hx hy hz l ≠ 0 then 3 else kd k
noncomputable def rgPP (k r hx hy hz : Int) (l : List P3) : List P3 := if kd k = 4 ∧ chk0 k r hx hy hz l ≠ 0 then [] else pts0 k l
theorem kd_val {k : Int} (h : Rr k) : 1 ≤ kd k ∧ kd k ≤ 4 := by obtain ⟨_, p2, p3⟩ := pick_val (n := 4) h (by omega); unfold kd; omega
theorem rad_val {k : Int} (h : Rr k) : 1 ≤ rad k ∧ rad k ≤ 16384 := by obtain ⟨_, p2, p3⟩ := pick_val (n := 16384) h (by omega); unfold rad; omega
theorem hlf_val {k : Int} (h : Rr k) : 1 ≤ hlf k ∧ hlf k ≤ 65536 := by obtain ⟨_, p2, p3⟩ := pick_val (n := 65536) h (by omega); unfold hlf; omega
theorem right_ok {k r hx hy hz : Int} {l : List P3} (h1 : Rr k) (h2 : Rr r) (h3 : Rr hx) (h4 : Rr hy) (h5 : Rr hz) :
    chkP (rgKP k r hx hy hz l) (rad r) (hlf hx) (hlf hy) (hlf hz) (rgPP k r hx hy hz l) = 0 := by
  have a1 := kd_val h1
  have a2 := rad_val h2
  have a3 := hlf_val h3
  have a4 := hlf_val h4
  have a5 := hlf_val h5
  unfold rgKP rgPP
  split
  · unfold chkP
    rw [if_neg (by decide), if_neg (by decide), if_pos rfl, if_pos (by simp [inZ]; omega)]
  · rename_i hc
    by_cases h4' : kd k = 4
    · apply Classical.byContradiction
      intro hn
      exact hc ⟨h4', hn⟩
    · have : kd k = 1 ∨ kd k = 2 ∨ kd k = 3 := by omega
      unfold chkP
      rcases this with e | e | e <;> rw [e]
      · rw [if_pos rfl, if_pos (by simp [inZ]; omega)]
      · rw [if_neg (by decide), if_pos rfl, if_pos (by simp [inZ]; omega)]
      · rw [if_neg (by decide), if_neg (by decide), if_pos rfl, if_pos (by simp [inZ]; omega)]
theorem right_kind {k r hx hy hz : Int} {l : List P3} (h1 : Rr k) : 1 ≤ rgKP k r hx hy hz l ∧ rgKP k r hx hy hz l ≤ 4 := by
  have a1 := kd_val h1
  unfold rgKP
  split <;> omega
theorem pts0_len (k : Int) (l : List P3) : (pts0 k l).length ≤ 12 := by
  unfold pts0
  split
  · rw [List.length_map, List.length_take]; omega
  · simp
theorem rgPP_len (k r hx hy hz : Int) (l : List P3) : (rgPP k r hx hy hz l).length ≤ 12 := by
  unfold rgPP
  split
  · simp
  · exact pts0_len k l
/-! Lists without doubles. -/
theorem nodup_le : ∀ {l t : List P3}, l.Nodup → (∀ a ∈ l, a ∈ t) → l.length ≤ t.length
  | [], t, _, _ => by simp
  | a :: l, t, hn, h => by
    rw [List.nodup_cons] at hn
    have ha := h a (by simp)
    have h1 := List.length_erase_of_mem ha
    have h2 : 0 < t.length := List.length_pos_of_mem ha
    have := nodup_le (t := t.erase a) hn.2 fun b hb => by
      have hne : b ≠ a := fun e => hn.1 (e ▸ hb)
      exact (List.mem_erase_of_ne hne).2 (h b (by simp [hb]))
    simp only [List.length_cons]
    omega
theorem faces_len {l : List P3} (hl : l.length ≤ 12) : (facesP l).1.length ≤ 7000 ∧ (facesP l).2.length ≤ 7000 := by
  have := iF_len l hl l.length 0 ([], [])
  unfold facesP
  unfold sz2 at this
  simp only [List.length_nil] at this
  omega
theorem corA_len (k r hx hy hz : Int) (l : List P3) : (V.corA k r hx hy hz l).length ≤ 7000 ∧ (V.corE k r hx hy hz l).length ≤ 7000 ∧ (V.corP k r hx hy hz l).length ≤ 12 := by
  unfold V.corA V.corE V.corP
  simp only [hid_eq]
  by_cases hc : chkP k r hx hy hz l = 0
  · simp only [if_pos hc]
    refine ⟨?_, ?_, (corPP_pos hc).2.1⟩
    · unfold corAP
      rcases chk_range hc with ⟨rfl, _⟩ | ⟨rfl, _⟩ | ⟨rfl, _⟩ | ⟨rfl, _, h, _⟩ <;> simp
      exact (faces_len h.2).1
    · unfold corEP
      rcases chk_range hc with ⟨rfl, _⟩ | ⟨rfl, _⟩ | ⟨rfl, _⟩ | ⟨rfl, _, h, _⟩ <;> simp
      exact (faces_len h.2).2
  · simp [hc]
noncomputable def _root_.Go.Proofs.Ytkjellhkamfciaa.V.rgK (k r hx hy hz : Int) (l : List P3) : Int := hid (rgKP k r hx hy hz l)
noncomputable def _root_.Go.Proofs.Ytkjellhkamfciaa.V.rgR (r : Int) : Int := hid (rad r)
noncomputable def _root_.Go.Proofs.Ytkjellhkamfciaa.V.rgH (h : Int) : Int := hid (hlf h)
noncomputable def _root_.Go.Proofs.Ytkjellhkamfciaa.V.rgP (k r hx hy hz : Int) (l : List P3) : List P3 := hid (rgPP k r hx hy hz l)
theorem pick_lt {c n : Int} (h : 0 ≤ c ∧ c < n) (hn : n < 9223372036854775808) : V.lpick_r0 c n = c := by
  unfold V.lpick_r0
  rw [cLt_eq, if_neg (by simp; omega), if_neg (by omega), Int.tmod_eq_emod_of_nonneg h.1, Int.emod_eq_of_lt h.1 h.2]
theorem good_rp {p : P3} (h : RT.good (.i .i64) [.i .i64, .i .i64] p) : RP p := ⟨wf64 h.1, wf64 h.2.1, wf64 h.2.2⟩
end Go.Proofs.Ytkjellhkamfciaa.Sx
end

section
/- shape: raw shapes made right. -/
namespace Go.Proofs.Ytkjellhkamfciaa.Sx
open Go
set_option maxRecDepth 20000
set_option linter.unusedVariables false
set_option linter.unusedSimpArgs false
noncomputable abbrev right_S1 (y1 y2 y3 y4 y5 y6 : Int) (y7 : Value) (y8 : L3) (y9 y10 y11 y12 y13 : Int) (y14 : L3) (y15 y16 y17 y18 y19 : Int) (y20 : L3) : St := St.mk (none :: some (SV.ptr (nat_lit 0) (nat_lit 0)) :: some (SV.ptr (nat_lit 1) (nat_lit 0)) :: some (SV.ptr (nat_lit 3) (nat_lit 0)) :: some (SV.int .i64 y1) :: nn 67 ([])) [.cells [SV.int .i64 y2, SV.int .i64 y3, SV.int .i64 y4, SV.int .i64 y5, SV.int .i64 y6, SV.ros y7 kP y8] (nat_lit 42), .cells [SV.int .i64 y9, SV.int .i64 y10, SV.int .i64 y11, SV.int .i64 y12, SV.int .i64 y13, SV.sl (nat_lit 2)] (nat_lit 26), .seq kP y14 (nat_lit 23), .cells [SV.int .i64 y15, SV.int .i64 y16, SV.int .i64 y17, SV.int .i64 y18, SV.int .i64 y19, SV.sl (nat_lit 4)] (nat_lit 26), .seq kP y20 (nat_lit 23)]
noncomputable abbrev right_S2 (y1 y2 y3 y4 y5 : Int) (y6 : L3) (y7 y8 y9 y10 y11 : Int) (y12 : L3) : St := St.mk (none :: none :: some (SV.ptr (nat_lit 0) (nat_lit 0)) :: some (SV.ptr (nat_lit 2) (nat_lit 0)) :: nn 68 ([])) [.cells [SV.int .i64 y1, SV.int .i64 y2, SV.int .i64 y3, SV.int .i64 y4, SV.int .i64 y5, SV.sl (nat_lit 1)] (nat_lit 26), .seq kP y6 (nat_lit 23), .cells [SV.int .i64 y7, SV.int .i64 y8, SV.int .i64 y9, SV.int .i64 y10, SV.int .i64 y11, SV.sl (nat_lit 3)] (nat_lit 26), .seq kP y12 (nat_lit 23)]
noncomputable abbrev right_S3 : St := St.mk (none :: some (SV.ptr (nat_lit 0) (nat_lit 0)) :: some (SV.ptr (nat_lit 1) (nat_lit 0)) :: some (SV.ptr (nat_lit 3) (nat_lit 0)) :: some (SV.int .i64 (0 : Int)) :: nn 67 ([])) [.cells [SV.int .i64 (0 : Int), SV.int .i64 (0 : Int), SV.int .i64 (0 : Int), SV.int .i64 (0 : Int), SV.int .i64 (0 : Int), SV.ros undef kP []] (nat_lit 42), .cells [SV.int .i64 (0 : Int), SV.int .i64 (0 : Int), SV.int .i64 (0 : Int), SV.int .i64 (0 : Int), SV.int .i64 (0 : Int), SV.sl (nat_lit 2)] (nat_lit 26), .seq kP [] (nat_lit 23), .cells [SV.int .i64 (0 : Int), SV.int .i64 (0 : Int), SV.int .i64 (0 : Int), SV.int .i64 (0 : Int), SV.int .i64 (0 : Int), SV.sl (nat_lit 4)] (nat_lit 26), .seq kP [] (nat_lit 23)]
abbrev right_P1 : List Bool := [false, true, false, false, true, false, true, true, true]
noncomputable def _root_.Go.Proofs.Ytkjellhkamfciaa.M.right_l0_step {α : Type} (x28 : L3) (kn : Int → L3 → Option α) (k1 : L3 → Option α) (x21 : Int) (x40 : L3) : Option α :=
  if cLt x21 (↑(List.length x28) : Int) = true then
  if cLt x21 (12 : Int) = true then
    if (0 : Int) ≤ x21 ∧ x21 < (↑(List.length x28) : Int) then
      if V.lpart_g (Prod.fst (List.getD x28 (Int.toNat x21) ((0 : Int), (0 : Int), (0 : Int)))) (65536 : Int) = true then
        if V.lpart_g (Prod.fst (Prod.snd (List.getD x28 (Int.toNat x21) ((0 : Int), (0 : Int), (0 : Int))))) (65536 : Int) = true then
          if V.lpart_g (Prod.snd (Prod.snd (List.getD x28 (Int.toNat x21) ((0 : Int), (0 : Int), (0 : Int))))) (65536 : Int) = true then
            if (List.length x40 + ((0 : Nat) + (1 : Nat))) * (24 : Nat) ≤ (140737488355328 : Nat) then kn (IntKind.wrap .i64 (x21 + (1 : Int))) (x40 ++ [(V.lpart_r0 (Prod.fst (List.getD x28 (Int.toNat x21) ((0 : Int), (0 : Int), (0 : Int)))) (65536 : Int), V.lpart_r0 (Prod.fst (Prod.snd (List.getD x28 (Int.toNat x21) ((0 : Int), (0 : Int), (0 : Int))))) (65536 : Int), V.lpart_r0 (Prod.snd (Prod.snd (List.getD x28 (Int.toNat x21) ((0 : Int), (0 : Int), (0 : Int))))) (65536 : Int))])
            else none
          else none
        else none
      else none
    else none
  else k1 x40
else k1 x40
noncomputable def _root_.Go.Proofs.Ytkjellhkamfciaa.M.right_l0 {α : Type} (x28 : L3) (k1 : L3 → Option α) : Nat → Int → L3 → Option α
  | 0, _, _ => none
  | n + 1, x21, x40 => M.right_l0_step x28 (M.right_l0 x28 k1 n) k1 x21 x40
theorem right_l0_step_eq {α : Type} (x21 : Int) (x22 : Int) (x23 : Int) (x24 : Int) (x25 : Int) (x26 : Int) (x27 : Value) (x28 : L3) (x29 : Int) (x30 : Int) (x31 : Int) (x32 : Int) (x33 : Int) (x34 : L3) (x35 : Int) (x36 : Int) (x37 : Int) (x38 : Int) (x39 : Int) (x40 : L3) (Q : Ex → St → Option α) : (loopStep E (exec E look_dcheck noLps 400) 19 right_P1 0 (codeAt E.P 19 right_P1)) (right_S1 x21 x22 x23 x24 x25 x26 x27 x28 x29 x30 x31 x32 x33 x34 x35 x36 x37 x38 x39 x40) Q = M.right_l0_step x28 (fun (x42 : Int) (x43 : L3) => Q .normal (right_S1 x42 x22 x23 x24 x25 x26 x27 x28 x29 x30 x31 x32 x33 x34 x35 x36 x37 x38 x39 x43)) (fun (x41 : L3) => Q (.exit 0) (right_S2 x29 x30 x31 x32 x33 x34 x35 x36 x37 x38 x39 x41)) x21 x40 := by kernel_rfl
theorem right_l0_iter {α : Type} (x22 : Int) (x23 : Int) (x24 : Int) (x25 : Int) (x26 : Int) (x27 : Value) (x28 : L3) (x29 : Int) (x30 : Int) (x31 : Int) (x32 : Int) (x33 : Int) (x34 : L3) (x35 : Int) (x36 : Int) (x37 : Int) (x38 : Int) (x39 : Int) (Q : Ex → St → Option α) : ∀ (n : Nat) (x21 : Int) (x40 : L3), iter (loopStep E (exec E look_dcheck noLps 400) 19 right_P1 0 (codeAt E.P 19 right_P1)) n (right_S1 x21 x22 x23 x24 x25 x26 x27 x28 x29 x30 x31 x32 x33 x34 x35 x36 x37 x38 x39 x40) Q = M.right_l0 x28 (fun (x41 : L3) => Q (.exit 0) (right_S2 x29 x30 x31 x32 x33 x34 x35 x36 x37 x38 x39 x41)) n x21 x40
  | 0, _, _ => rfl
  | n + 1, x21, x40 => (right_l0_step_eq x21 x22 x23 x24 x25 x26 x27 x28 x29 x30 x31 x32 x33 x34 x35 x36 x37 x38 x39 x40 (iterK (loopStep E (exec E look_dcheck noLps 400) 19 right_P1 0 (codeAt E.P 19 right_P1)) n Q)).trans (congrArg (fun kn => M.right_l0_step x28 kn (fun (x41 : L3) => Q (.exit 0) (right_S2 x29 x30 x31 x32 x33 x34 x35 x36 x37 x38 x39 x41)) x21 x40) (funext fun x21 => funext fun x40 => right_l0_iter x22 x23 x24 x25 x26 x27 x28 x29 x30 x31 x32 x33 x34 x35 x36 x37 x38 x39 Q n x21 x40))
noncomputable def right_l0_go {α : Type} (ds : List D) (Q : Ex → St → Option α) : Option α :=
  dI ds fun x21 ds => dI ds fun x22 ds => dI ds fun x23 ds => dI ds fun x24 ds => dI ds fun x25 ds => dI ds fun x26 ds => dV ds fun x27 ds => dL kP ds fun x28 ds => dI ds fun x29 ds => dI ds fun x30 ds => dI ds fun x31 ds => dI ds fun x32 ds => dI ds fun x33 ds => dL kP ds fun x34 ds => dI ds fun x35 ds => dI ds fun x36 ds => dI ds fun x37 ds => dI ds fun x38 ds => dI ds fun x39 ds => dL kP ds fun x40 ds => dE ds (M.right_l0 x28 (fun (x41 : L3) => Q (.exit 0) (right_S2 x29 x30 x31 x32 x33 x34 x35 x36 x37 x38 x39 x41)) (100 + x28.length + x34.length + x40.length) x21 x40)
theorem right_l0_ok {α : Type} : LoopOk E.P 19 right_P1 0 (lEnt (α := α) (right_S3) right_l0_go) :=
  lEnt_ok E (exec_sound E E_ok (look_dcheck_ok) (noLps_ok _) 400) fun ds Q r h S hS => by
    unfold right_l0_go at h
    obtain ⟨x21, ds, rfl, h1⟩ := dI_inv h
    obtain ⟨x22, ds, rfl, h2⟩ := dI_inv h1
    obtain ⟨x23, ds, rfl, h3⟩ := dI_inv h2
    obtain ⟨x24, ds, rfl, h4⟩ := dI_inv h3
    obtain ⟨x25, ds, rfl, h5⟩ := dI_inv h4
    obtain ⟨x26, ds, rfl, h6⟩ := dI_inv h5
    obtain ⟨x27, ds, rfl, h7⟩ := dV_inv h6
    obtain ⟨x28, ds, rfl, h8⟩ := dL_inv h7
    obtain ⟨x29, ds, rfl, h9⟩ := dI_inv h8
    obtain ⟨x30, ds, rfl, h10⟩ := dI_inv h9
    obtain ⟨x31, ds, rfl, h11⟩ := dI_inv h10
    obtain ⟨x32, ds, rfl, h12⟩ := dI_inv h11
    obtain ⟨x33, ds, rfl, h13⟩ := dI_inv h12
    obtain ⟨x34, ds, rfl, h14⟩ := dL_inv h13
    obtain ⟨x35, ds, rfl, h15⟩ := dI_inv h14
    obtain ⟨x36, ds, rfl, h16⟩ := dI_inv h15
    obtain ⟨x37, ds, rfl, h17⟩ := dI_inv h16
    obtain ⟨x38, ds, rfl, h18⟩ := dI_inv h17
    obtain ⟨x39, ds, rfl, h19⟩ := dI_inv h18
    obtain ⟨x40, ds, rfl, h20⟩ := dL_inv h19
    obtain ⟨rfl, hE⟩ := dE_inv h20
    have e : fillS (right_S3) [.i x21, .i x22, .i x23, .i x24, .i x25, .i x26, .v x27, .l kP x28, .i x29, .i x30, .i x31, .i x32, .i x33, .l kP x34, .i x35, .i x36, .i x37, .i x38, .i x39, .l kP x40] = some (right_S1 x21 x22 x23 x24 x25 x26 x27 x28 x29 x30 x31 x32 x33 x34 x35 x36 x37 x38 x39 x40) := by kernel_rfl
    rw [e] at hS
    cases hS
    exact ⟨_, (right_l0_iter x22 x23 x24 x25 x26 x27 x28 x29 x30 x31 x32 x33 x34 x35 x36 x37 x38 x39 Q _ x21 x40).trans hE⟩
noncomputable def right_l0_lps {α : Type} : LookL α := addLp 19 right_P1 0 (lEnt (right_S3) right_l0_go) noLps
theorem right_l0_lps_ok {α : Type} : LoopsOk E.P (right_l0_lps (α := α)) := addLp_ok right_l0_ok (noLps_ok _)

noncomputable def _root_.Go.Proofs.Ytkjellhkamfciaa.M.right {α : Type} (k : Int) (r : Int) (hx : Int) (hy : Int) (hz : Int) (l : L3) (k0 : Int → Int → Int → Int → Int → L3 → Option α) : Option α :=
  if V.lpick_g k (4 : Int) = true then
  if V.lpick_g r (16384 : Int) = true then
    if V.lpick_g hx (65536 : Int) = true then
      if V.lpick_g hy (65536 : Int) = true then
        if V.lpick_g hz (65536 : Int) = true then
          if cEq (IntKind.wrap .i64 ((1 : Int) + V.lpick_r0 k (4 : Int))) (4 : Int) = true then
            M.right_l0 l
              (fun (x45 : L3) ↦
                if (!cEq (V.chk (IntKind.wrap .i64 ((1 : Int) + V.lpick_r0 k (4 : Int))) (IntKind.wrap .i64 ((1 : Int) + V.lpick_r0 r (16384 : Int))) (IntKind.wrap .i64 ((1 : Int) + V.lpick_r0 hx (65536 : Int))) (IntKind.wrap .i64 ((1 : Int) + V.lpick_r0 hy (65536 : Int))) (IntKind.wrap .i64 ((1 : Int) + V.lpick_r0 hz (65536 : Int))) x45) (0 : Int)) = true then
                  k0 (3 : Int) (IntKind.wrap .i64 ((1 : Int) + V.lpick_r0 r (16384 : Int))) (IntKind.wrap .i64 ((1 : Int) + V.lpick_r0 hx (65536 : Int))) (IntKind.wrap .i64 ((1 : Int) + V.lpick_r0 hy (65536 : Int))) (IntKind.wrap .i64 ((1 : Int) + V.lpick_r0 hz (65536 : Int))) []
                else k0 (IntKind.wrap .i64 ((1 : Int) + V.lpick_r0 k (4 : Int))) (IntKind.wrap .i64 ((1 : Int) + V.lpick_r0 r (16384 : Int))) (IntKind.wrap .i64 ((1 : Int) + V.lpick_r0 hx (65536 : Int))) (IntKind.wrap .i64 ((1 : Int) + V.lpick_r0 hy (65536 : Int))) (IntKind.wrap .i64 ((1 : Int) + V.lpick_r0 hz (65536 : Int))) x45)
              ((100 : Nat) + List.length l + (0 : Nat) + (0 : Nat)) (0 : Int) []
          else k0 (IntKind.wrap .i64 ((1 : Int) + V.lpick_r0 k (4 : Int))) (IntKind.wrap .i64 ((1 : Int) + V.lpick_r0 r (16384 : Int))) (IntKind.wrap .i64 ((1 : Int) + V.lpick_r0 hx (65536 : Int))) (IntKind.wrap .i64 ((1 : Int) + V.lpick_r0 hy (65536 : Int))) (IntKind.wrap .i64 ((1 : Int) + V.lpick_r0 hz (65536 : Int))) []
        else none
      else none
    else none
  else none
else none
theorem right_eq {α : Type} (k : Int) (r : Int) (hx : Int) (hy : Int) (hz : Int) (l : L3) (v44 : Value) (Q : SV → Hp → Option α) : callI E look_dcheck (exec E look_dcheck right_l0_lps 400) 19 ([SV.agg [SV.int .i64 k, SV.int .i64 r, SV.int .i64 hx, SV.int .i64 hy, SV.int .i64 hz, SV.ros v44 kP l]]) ([]) Q = M.right k r hx hy hz l (fun (x46 : Int) (x47 : Int) (x48 : Int) (x49 : Int) (x50 : Int) (x51 : L3) => Q (SV.agg [SV.int .i64 x46, SV.int .i64 x47, SV.int .i64 x48, SV.int .i64 x49, SV.int .i64 x50, SV.sl (nat_lit 0)]) ([.seq kP x51 (nat_lit 23)])) := by kernel_rfl
def right_sp : List AS := [.st [.leaf (.int .i64 0), .leaf (.int .i64 0), .leaf (.int .i64 0), .leaf (.int .i64 0), .leaf (.int .i64 0), .ro kP]]
theorem right_l0_val {α : Type} (l : List P3) (hl : l.length < 9223372036854775808) (hp : ∀ p ∈ l, RP p) (k1 : List P3 → Option α) : ∀ (fuel i : Nat) (acc : List P3), i ≤ l.length → i ≤ 12 → 12 - i < fuel → acc.length ≤ i →
    M.right_l0 l k1 fuel (i : Int) acc = k1 (acc ++ ((l.drop i).take (12 - i)).map partP)
  | 0, i, acc, h1, h2, h3, h4 => by omega
  | f + 1, i, acc, h1, h2, h3, h4 => by
    unfold M.right_l0 M.right_l0_step
    rw [cLt_nat]
    by_cases hi : i < l.length
    · rw [if_pos (by simpa using hi)]
      by_cases h12 : i < 12
      · have c12 : cLt (i : Int) 12 = true := by rw [cLt_eq]; simp; omega
        have hin : (0 : Int) ≤ (i : Int) ∧ (i : Int) < (l.length : Int) := by omega
        obtain ⟨r1, r2, r3⟩ := hp _ (pt_mem l i hi)
        have g1 := (part_val r1 (n := 65536) (by omega)).1
        have g2 := (part_val r2 (n := 65536) (by omega)).1
        have g3 := (part_val r3 (n := 65536) (by omega)).1
        unfold pt at g1 g2 g3
        have ih := right_l0_val l hl hp k1 f (i + 1) (acc ++ [partP (pt l i)]) (by omega) (by omega) (by omega) (by rw [List.length_append, List.length_singleton]; omega)
        simp only [c12, if_true, if_pos hin, toNat_nat, g1, g2, g3]
        rw [if_pos (by omega : (acc.length + (0 + 1)) * 24 ≤ 140737488355328), w_next (by omega)]
        refine Eq.trans ih ?_
        rw [drop_pt l i hi, show 12 - i = (12 - (i + 1)) + 1 by omega, List.take_succ_cons, List.map_cons, List.append_assoc]
        rfl
      · have : i = 12 := by omega
        subst this
        rw [if_neg (by rw [cLt_eq]; decide)]
        simp
    · have : i = l.length := by omega
      subst this
      rw [if_neg (by simp)]
      simp
noncomputable def _root_.Go.Proofs.Ytkjellhkamfciaa.V.rgG (k r hx hy hz : Int) (l : List P3) : Bool := V.gB ((Rr k ∧ Rr r ∧ Rr hx ∧ Rr hy ∧ Rr hz) ∧ l.length < 9223372036854775808 ∧ ∀ p ∈ l, RP p)
theorem right_v {α : Type} (k r hx hy hz : Int) (l : List P3) (hg : V.rgG k r hx hy hz l = true) (k0 : Int → Int → Int → Int → Int → List P3 → Option α) :
    M.right k r hx hy hz l k0 = k0 (V.rgK k r hx hy hz l) (V.rgR r) (V.rgH hx) (V.rgH hy) (V.rgH hz) (V.rgP k r hx hy hz l) := by
  obtain ⟨⟨g1, g2, g3, g4, g5⟩, hl, hp⟩ := gB_iff hg
  unfold M.right V.rgK V.rgR V.rgH V.rgP V.chk
  simp only [hid_eq]
  obtain ⟨p1, q1, r1⟩ := pick_val (n := 4) g1 (by omega)
  obtain ⟨p2, q2, r2⟩ := pick_val (n := 16384) g2 (by omega)
  obtain ⟨p3, q3, r3⟩ := pick_val (n := 65536) g3 (by omega)
  obtain ⟨p4, q4, r4⟩ := pick_val (n := 65536) g4 (by omega)
  obtain ⟨p5, q5, r5⟩ := pick_val (n := 65536) g5 (by omega)
  rw [if_pos p1, if_pos p2, if_pos p3, if_pos p4, if_pos p5]
  rw [IntWalk.i64_in (1 + V.lpick_r0 k 4) (by omega), IntWalk.i64_in (1 + V.lpick_r0 r 16384) (by omega), IntWalk.i64_in (1 + V.lpick_r0 hx 65536) (by omega), IntWalk.i64_in (1 + V.lpick_r0 hy 65536) (by omega), IntWalk.i64_in (1 + V.lpick_r0 hz 65536) (by omega)]
  show (if cEq (kd k) 4 = true then M.right_l0 l (fun x45 => if (!cEq (chkP (kd k) (rad r) (hlf hx) (hlf hy) (hlf hz) x45) 0) = true then k0 3 (rad r) (hlf hx) (hlf hy) (hlf hz) [] else k0 (kd k) (rad r) (hlf hx) (hlf hy) (hlf hz) x45) (100 + l.length + 0 + 0) 0 [] else k0 (kd k) (rad r) (hlf hx) (hlf hy) (hlf hz) []) = _
  have hk := right_l0_val l hl hp (fun x45 => if (!cEq (chkP (kd k) (rad r) (hlf hx) (hlf hy) (hlf hz) x45) 0) = true then k0 3 (rad r) (hlf hx) (hlf hy) (hlf hz) [] else k0 (kd k) (rad r) (hlf hx) (hlf hy) (hlf hz) x45) (100 + l.length + 0 + 0) 0 [] (by omega) (by omega) (by omega) (by simp)
  rw [Int.natCast_zero] at hk
  rw [hk]
  unfold rgKP rgPP chk0
  simp only [cEq_eq, beq_iff_eq]
  by_cases h4 : kd k = 4
  · have e : pts0 k l = (l.take 12).map partP := by unfold pts0; rw [if_pos h4]
    rw [if_pos h4, e]
    simp only [List.nil_append, List.drop_zero, Nat.sub_zero]
    by_cases hc : chkP (kd k) (rad r) (hlf hx) (hlf hy) (hlf hz) ((l.take 12).map partP) = 0
    · rw [hc, if_neg (by decide), if_neg (fun h => h.2 rfl), if_neg (fun h => h.2 rfl)]
    · have : (chkP (kd k) (rad r) (hlf hx) (hlf hy) (hlf hz) ((l.take 12).map partP) == 0) = false := by simpa using hc
      rw [this, if_pos (show (!false) = true from rfl), if_pos ⟨h4, hc⟩, if_pos ⟨h4, hc⟩]
  · have e : pts0 k l = [] := by unfold pts0; rw [if_neg h4]
    rw [if_neg h4, e]
    simp [h4]
noncomputable def right_h {α : Type} (ds : List D) (Q : SV → Hp → Option α) : Option α :=
  dI ds fun k ds => dI ds fun r ds => dI ds fun hx ds => dI ds fun hy ds => dI ds fun hz ds => dL kP ds fun l ds => dE ds (if V.rgG k r hx hy hz l = true then Q (.agg [.int .i64 (V.rgK k r hx hy hz l), .int .i64 (V.rgR r), .int .i64 (V.rgH hx), .int .i64 (V.rgH hy), .int .i64 (V.rgH hz), .sl 0]) ([.seq kP (V.rgP k r hx hy hz l) 23]) else none)
theorem right_h_ok {α : Type} : FnOk E.P 19 (fEnt (α := α) right_sp right_h) :=
  fEntR_ok E (look_dcheck_ok) (exec_sound E E_ok (look_dcheck_ok) (right_l0_lps_ok) 400) fun ds Q r h => by
    unfold right_h at h
    obtain ⟨k, ds, rfl, h1⟩ := dI_inv h
    obtain ⟨r, ds, rfl, h2⟩ := dI_inv h1
    obtain ⟨hx, ds, rfl, h3⟩ := dI_inv h2
    obtain ⟨hy, ds, rfl, h4⟩ := dI_inv h3
    obtain ⟨hz, ds, rfl, h5⟩ := dI_inv h4
    obtain ⟨l, ds, rfl, h6⟩ := dL_inv h5
    obtain ⟨rfl, hE⟩ := dE_inv h6
    split at hE
    · rename_i hg
      exact ⟨_, _, hE, fun vs => ⟨_, _, by kernel_rfl, (right_eq k r hx hy hz l ((cellsV (vs.headD undef)).tail.tail.tail.tail.tail.headD undef) _).trans (right_v k r hx hy hz l hg _)⟩⟩
    · cases hE
noncomputable def look_right {α : Type} : LookF α := addFn 19 (fEnt right_sp right_h) look_dcheck
theorem look_right_ok {α : Type} : LookOk E.P (look_right (α := α)) := addFn_ok right_h_ok (look_dcheck_ok)
end Go.Proofs.Ytkjellhkamfciaa.Sx
end

section
/- the document's hulls. -/
namespace Go.Proofs.Ytkjellhkamfciaa.Sx
open Go
set_option maxRecDepth 20000
set_option linter.unusedVariables false
set_option linter.unusedSimpArgs false
noncomputable abbrev dhas_S1 (y1 : Value) (y2 : L3) (y3 : Bool) (y4 y5 y6 y7 : Int) : St := St.mk (some (SV.ros y1 kP y2) :: none :: some (SV.bool y3) :: none :: some (SV.ptr (nat_lit 0) (nat_lit 0)) :: none :: none :: some (SV.int .i64 y4) :: nn 32 ([])) [.cells [SV.int .i64 y5, SV.int .i64 y6, SV.int .i64 y7] (nat_lit 23)]
noncomputable abbrev dhas_S2 : St := St.mk (some (SV.ros undef kP []) :: none :: some (SV.bool false) :: none :: some (SV.ptr (nat_lit 0) (nat_lit 0)) :: none :: none :: some (SV.int .i64 (0 : Int)) :: nn 32 ([])) [.cells [SV.int .i64 (0 : Int), SV.int .i64 (0 : Int), SV.int .i64 (0 : Int)] (nat_lit 23)]
noncomputable def _root_.Go.Proofs.Ytkjellhkamfciaa.M.dhas_l0_step {α : Type} (x9 : L3) (x10 : Bool) (x12 : Int) (x13 : Int) (x14 : Int) (kn : Int → Option α) (k0 : Option α) (k2 : Option α) (x11 : Int) : Option α :=
  if cLt x11 (↑(List.length x9) : Int) = true then
  if (0 : Int) ≤ x11 ∧ x11 < (↑(List.length x9) : Int) then
    if (cEq (Prod.fst (List.getD x9 (Int.toNat x11) ((0 : Int), (0 : Int), (0 : Int)))) x12 && (cEq (Prod.fst (Prod.snd (List.getD x9 (Int.toNat x11) ((0 : Int), (0 : Int), (0 : Int))))) x13 && (cEq (Prod.snd (Prod.snd (List.getD x9 (Int.toNat x11) ((0 : Int), (0 : Int), (0 : Int))))) x14 && true))) = true then k0
    else
      if x10 = true then
        if (0 : Int) ≤ x11 ∧ x11 < (↑(List.length x9) : Int) then
          if (cEq (Prod.fst (List.getD x9 (Int.toNat x11) ((0 : Int), (0 : Int), (0 : Int)))) (IntKind.wrap .i64 ((0 : Int) - x12)) && (cEq (Prod.fst (Prod.snd (List.getD x9 (Int.toNat x11) ((0 : Int), (0 : Int), (0 : Int))))) (IntKind.wrap .i64 ((0 : Int) - x13)) && (cEq (Prod.snd (Prod.snd (List.getD x9 (Int.toNat x11) ((0 : Int), (0 : Int), (0 : Int))))) (IntKind.wrap .i64 ((0 : Int) - x14)) && true))) = true then k0 else kn (IntKind.wrap .i64 (x11 + (1 : Int)))
        else none
      else kn (IntKind.wrap .i64 (x11 + (1 : Int)))
  else none
else k2
noncomputable def _root_.Go.Proofs.Ytkjellhkamfciaa.M.dhas_l0 {α : Type} (x9 : L3) (x10 : Bool) (x12 : Int) (x13 : Int) (x14 : Int) (k0 : Option α) (k2 : Option α) : Nat → Int → Option α
  | 0, _ => none
  | n + 1, x11 => M.dhas_l0_step x9 x10 x12 x13 x14 (M.dhas_l0 x9 x10 x12 x13 x14 k0 k2 n) k0 k2 x11
theorem dhas_l0_step_eq {α : Type} (x8 : Value) (x9 : L3) (x10 : Bool) (x11 : Int) (x12 : Int) (x13 : Int) (x14 : Int) (Q : Ex → St → Option α) : (loopStep E (exec E look_right noLps 400) 62 [false, true, false, true] 0 (codeAt E.P 62 [false, true, false, true])) (dhas_S1 x8 x9 x10 x11 x12 x13 x14) Q = M.dhas_l0_step x9 x10 x12 x13 x14 (fun (x15 : Int) => Q .normal (dhas_S1 x8 x9 x10 x15 x12 x13 x14)) (Q .ret (St.mk (nn 6 (some (SV.bool true) :: nn 33 ([]))) [])) (Q (.exit 0) (St.mk (nn 40 ([])) [])) x11 := by kernel_rfl
theorem dhas_l0_iter {α : Type} (x8 : Value) (x9 : L3) (x10 : Bool) (x12 : Int) (x13 : Int) (x14 : Int) (Q : Ex → St → Option α) : ∀ (n : Nat) (x11 : Int), iter (loopStep E (exec E look_right noLps 400) 62 [false, true, false, true] 0 (codeAt E.P 62 [false, true, false, true])) n (dhas_S1 x8 x9 x10 x11 x12 x13 x14) Q = M.dhas_l0 x9 x10 x12 x13 x14 (Q .ret (St.mk (nn 6 (some (SV.bool true) :: nn 33 ([]))) [])) (Q (.exit 0) (St.mk (nn 40 ([])) [])) n x11
  | 0, _ => rfl
  | n + 1, x11 => (dhas_l0_step_eq x8 x9 x10 x11 x12 x13 x14 (iterK (loopStep E (exec E look_right noLps 400) 62 [false, true, false, true] 0 (codeAt E.P 62 [false, true, false, true])) n Q)).trans (congrArg (fun kn => M.dhas_l0_step x9 x10 x12 x13 x14 kn (Q .ret (St.mk (nn 6 (some (SV.bool true) :: nn 33 ([]))) [])) (Q (.exit 0) (St.mk (nn 40 ([])) [])) x11) (funext fun x11 => dhas_l0_iter x8 x9 x10 x12 x13 x14 Q n x11))
noncomputable def dhas_l0_go {α : Type} (ds : List D) (Q : Ex → St → Option α) : Option α :=
  dV ds fun x8 ds => dL kP ds fun x9 ds => dB ds fun x10 ds => dI ds fun x11 ds => dI ds fun x12 ds => dI ds fun x13 ds => dI ds fun x14 ds => dE ds (M.dhas_l0 x9 x10 x12 x13 x14 (Q .ret (St.mk (nn 6 (some (SV.bool true) :: nn 33 ([]))) [])) (Q (.exit 0) (St.mk (nn 40 ([])) [])) (100 + x9.length) x11)
theorem dhas_l0_ok {α : Type} : LoopOk E.P 62 [false, true, false, true] 0 (lEnt (α := α) (dhas_S2) dhas_l0_go) :=
  lEnt_ok E (exec_sound E E_ok (look_right_ok) (noLps_ok _) 400) fun ds Q r h S hS => by
    unfold dhas_l0_go at h
    obtain ⟨x8, ds, rfl, h1⟩ := dV_inv h
    obtain ⟨x9, ds, rfl, h2⟩ := dL_inv h1
    obtain ⟨x10, ds, rfl, h3⟩ := dB_inv h2
    obtain ⟨x11, ds, rfl, h4⟩ := dI_inv h3
    obtain ⟨x12, ds, rfl, h5⟩ := dI_inv h4
    obtain ⟨x13, ds, rfl, h6⟩ := dI_inv h5
    obtain ⟨x14, ds, rfl, h7⟩ := dI_inv h6
    obtain ⟨rfl, hE⟩ := dE_inv h7
    have e : fillS (dhas_S2) [.v x8, .l kP x9, .b x10, .i x11, .i x12, .i x13, .i x14] = some (dhas_S1 x8 x9 x10 x11 x12 x13 x14) := by kernel_rfl
    rw [e] at hS
    cases hS
    exact ⟨_, (dhas_l0_iter x8 x9 x10 x12 x13 x14 Q _ x11).trans hE⟩
noncomputable def dhas_l0_lps {α : Type} : LookL α := addLp 62 [false, true, false, true] 0 (lEnt (dhas_S2) dhas_l0_go) noLps
theorem dhas_l0_lps_ok {α : Type} : LoopsOk E.P (dhas_l0_lps (α := α)) := addLp_ok dhas_l0_ok (noLps_ok _)

noncomputable def _root_.Go.Proofs.Ytkjellhkamfciaa.M.dhas {α : Type} (l : L3) (x : Int) (y : Int) (z : Int) (both : Bool) (k0 : Bool → Option α) : Option α :=
  M.dhas_l0 l both x y z (k0 true) (k0 false) ((100 : Nat) + List.length l) (0 : Int)
theorem dhas_eq {α : Type} (l : L3) (x : Int) (y : Int) (z : Int) (both : Bool) (v16 : Value) (Q : SV → Hp → Option α) : callI E look_right (exec E look_right dhas_l0_lps 400) 62 ([SV.ros v16 kP l, SV.agg [SV.int .i64 x, SV.int .i64 y, SV.int .i64 z], SV.bool both]) ([]) Q = M.dhas l x y z both (fun (x17 : Bool) => Q (SV.bool x17) ([])) := by kernel_rfl
def dhas_sp : List AS := [.ro kP, .val (.agg [.int .i64 0, .int .i64 0, .int .i64 0]), .val (.bool false)]
noncomputable def _root_.Go.Proofs.Ytkjellhkamfciaa.V.has2 (l : List P3) (p : P3) (both : Bool) : Bool := V.hasP l p || (both && V.hasP l (negP p))
theorem dhas_v {α : Type} (l : List P3) (x y z : Int) (both : Bool) (hg : V.lenB l.length = true) (k0 : Bool → Option α) : M.dhas l x y z both k0 = k0 (V.has2 l (x, y, z) both) := by
  have hl := lenB_lt hg
  unfold M.dhas
  have h := scan (fun f i => M.dhas_l0 l both x y z (k0 true) (k0 false) f i) l.length (fun i => pt l i = (x, y, z) ∨ (both = true ∧ pt l i = negP (x, y, z))) (k0 true) (k0 false) ?_ ?_ (100 + l.length) 0 (by omega) (by omega)
  · refine Eq.trans h ?_
    have e : exB (∃ j, 0 ≤ j ∧ j < l.length ∧ (pt l j = (x, y, z) ∨ (both = true ∧ pt l j = negP (x, y, z)))) = V.has2 l (x, y, z) both := by
      rw [Bool.eq_iff_iff, exB_iff]
      unfold V.has2 V.hasP
      simp only [Bool.or_eq_true, Bool.and_eq_true, decide_eq_true_eq]
      constructor
      · rintro ⟨j, _, hj, h | ⟨h1, h2⟩⟩
        · exact .inl (h ▸ pt_mem l j hj)
        · exact .inr ⟨h1, h2 ▸ pt_mem l j hj⟩
      · rintro (h | ⟨h1, h2⟩)
        · obtain ⟨j, hj, e⟩ := pt_of_mem h
          exact ⟨j, Nat.zero_le _, hj, .inl e⟩
        · obtain ⟨j, hj, e⟩ := pt_of_mem h2
          exact ⟨j, Nat.zero_le _, hj, .inr ⟨h1, e⟩⟩
    rw [e]
    cases V.has2 l (x, y, z) both <;> rfl
  · intro f i hi
    show M.dhas_l0_step _ _ _ _ _ _ _ _ _ = _
    unfold M.dhas_l0_step
    have a : (0 : Int) ≤ (i : Int) ∧ (i : Int) < (l.length : Int) := by omega
    have e1 : ∀ x y z : Int, (cEq (l.getD (Int.toNat (i : Int)) (0, 0, 0)).1 x && (cEq (l.getD (Int.toNat (i : Int)) (0, 0, 0)).2.1 y && (cEq (l.getD (Int.toNat (i : Int)) (0, 0, 0)).2.2 z && true))) = decide (pt l i = (x, y, z)) := fun x y z => eq3 _ _ _ (x, y, z)
    rw [cLt_nat, if_pos (by simpa using hi), w_next (by omega)]
    simp only [if_pos a, e1]
    have en : ((IntKind.wrap .i64 (0 - x), IntKind.wrap .i64 (0 - y), IntKind.wrap .i64 (0 - z)) : P3) = negP (x, y, z) := rfl
    rw [en]
    by_cases c1 : pt l i = (x, y, z)
    · rw [exB_true (.inl c1)]; simp [c1]
    · by_cases c2 : both = true ∧ pt l i = negP (x, y, z)
      · rw [exB_true (.inr c2)]; simp [c1, c2.1, c2.2]
      · rw [exB_false (fun h => h.elim c1 c2)]
        cases both with
        | false => simp [c1]
        | true =>
          have c3 : ¬ pt l i = negP (x, y, z) := fun h => c2 ⟨rfl, h⟩
          simp [c1, c3]
  · intro f
    show M.dhas_l0_step _ _ _ _ _ _ _ _ _ = _
    unfold M.dhas_l0_step
    rw [cLt_nat, if_neg (by simp)]
noncomputable def dhas_h {α : Type} (ds : List D) (Q : SV → Hp → Option α) : Option α :=
  dL kP ds fun l ds => dI ds fun x ds => dI ds fun y ds => dI ds fun z ds => dB ds fun both ds => dE ds (if V.lenB l.length = true then Q (.bool (V.has2 l (x, y, z) both)) ([]) else none)
theorem dhas_h_ok {α : Type} : FnOk E.P 62 (fEnt (α := α) dhas_sp dhas_h) :=
  fEntR_ok E (look_right_ok) (exec_sound E E_ok (look_right_ok) (dhas_l0_lps_ok) 400) fun ds Q r h => by
    unfold dhas_h at h
    obtain ⟨l, ds, rfl, h1⟩ := dL_inv h
    obtain ⟨x, ds, rfl, h2⟩ := dI_inv h1
    obtain ⟨y, ds, rfl, h3⟩ := dI_inv h2
    obtain ⟨z, ds, rfl, h4⟩ := dI_inv h3
    obtain ⟨both, ds, rfl, h5⟩ := dB_inv h4
    obtain ⟨rfl, hE⟩ := dE_inv h5
    split at hE
    · rename_i hg
      exact ⟨_, _, hE, fun vs => ⟨_, _, by kernel_rfl, (dhas_eq l x y z both (vs.headD undef) _).trans (dhas_v l x y z both hg _)⟩⟩
    · cases hE
noncomputable def look_dhas {α : Type} : LookF α := addFn 62 (fEnt dhas_sp dhas_h) look_right
theorem look_dhas_ok {α : Type} : LookOk E.P (look_dhas (α := α)) := addFn_ok dhas_h_ok (look_right_ok)
noncomputable abbrev dside_S1 (y1 : Value) (y2 : L3) (y3 y4 y5 y6 y7 y8 y9 y10 y11 : Int) : St := St.mk (some (SV.ros y1 kP y2) :: nn 3 (some (SV.ptr (nat_lit 0) (nat_lit 0)) :: some (SV.ptr (nat_lit 1) (nat_lit 0)) :: none :: some (SV.int .i64 y3) :: some (SV.int .i64 y4) :: some (SV.int .i64 y5) :: nn 25 ([]))) [.cells [SV.int .i64 y6, SV.int .i64 y7, SV.int .i64 y8] (nat_lit 23), .cells [SV.int .i64 y9, SV.int .i64 y10, SV.int .i64 y11] (nat_lit 23)]
noncomputable abbrev dside_S2 : St := St.mk (some (SV.ros undef kP []) :: nn 3 (some (SV.ptr (nat_lit 0) (nat_lit 0)) :: some (SV.ptr (nat_lit 1) (nat_lit 0)) :: none :: some (SV.int .i64 (0 : Int)) :: some (SV.int .i64 (0 : Int)) :: some (SV.int .i64 (0 : Int)) :: nn 25 ([]))) [.cells [SV.int .i64 (0 : Int), SV.int .i64 (0 : Int), SV.int .i64 (0 : Int)] (nat_lit 23), .cells [SV.int .i64 (0 : Int), SV.int .i64 (0 : Int), SV.int .i64 (0 : Int)] (nat_lit 23)]
abbrev dside_P1 : List Bool := [false, true, false, true, true, true]
noncomputable def _root_.Go.Proofs.Ytkjellhkamfciaa.M.dside_l0_step {α : Type} (x31 : L3) (x35 : Int) (x36 : Int) (x37 : Int) (x38 : Int) (x39 : Int) (x40 : Int) (kn : Int → Int → Int → Option α) (k1 : Int → Int → Option α) (x32 : Int) (x33 : Int) (x34 : Int) : Option α :=
  if cLt x34 (↑(List.length x31) : Int) = true then
  if (0 : Int) ≤ x34 ∧ x34 < (↑(List.length x31) : Int) then
    kn (if V.pDot (x35, x36, x37) (V.pSub (List.getD x31 (Int.toNat x34) ((0 : Int), (0 : Int), (0 : Int))) (x38, x39, x40)) < x32 then V.pDot (x35, x36, x37) (V.pSub (List.getD x31 (Int.toNat x34) ((0 : Int), (0 : Int), (0 : Int))) (x38, x39, x40)) else x32)
      (if V.pDot (x35, x36, x37) (V.pSub (List.getD x31 (Int.toNat x34) ((0 : Int), (0 : Int), (0 : Int))) (x38, x39, x40)) > x33 then V.pDot (x35, x36, x37) (V.pSub (List.getD x31 (Int.toNat x34) ((0 : Int), (0 : Int), (0 : Int))) (x38, x39, x40)) else x33) (IntKind.wrap .i64 (x34 + (1 : Int)))
  else none
else k1 x32 x33
noncomputable def _root_.Go.Proofs.Ytkjellhkamfciaa.M.dside_l0 {α : Type} (x31 : L3) (x35 : Int) (x36 : Int) (x37 : Int) (x38 : Int) (x39 : Int) (x40 : Int) (k1 : Int → Int → Option α) : Nat → Int → Int → Int → Option α
  | 0, _, _, _ => none
  | n + 1, x32, x33, x34 => M.dside_l0_step x31 x35 x36 x37 x38 x39 x40 (M.dside_l0 x31 x35 x36 x37 x38 x39 x40 k1 n) k1 x32 x33 x34
theorem dside_l0_step_eq {α : Type} (x30 : Value) (x31 : L3) (x32 : Int) (x33 : Int) (x34 : Int) (x35 : Int) (x36 : Int) (x37 : Int) (x38 : Int) (x39 : Int) (x40 : Int) (Q : Ex → St → Option α) : (loopStep E (exec E look_dhas noLps 400) 61 dside_P1 0 (codeAt E.P 61 dside_P1)) (dside_S1 x30 x31 x32 x33 x34 x35 x36 x37 x38 x39 x40) Q = M.dside_l0_step x31 x35 x36 x37 x38 x39 x40 (fun (x43 : Int) (x44 : Int) (x45 : Int) => Q .normal (dside_S1 x30 x31 x43 x44 x45 x35 x36 x37 x38 x39 x40)) (fun (x41 : Int) (x42 : Int) => Q (.exit 0) (St.mk (nn 7 (some (SV.int .i64 x41) :: some (SV.int .i64 x42) :: nn 26 ([]))) [])) x32 x33 x34 := by kernel_rfl
theorem dside_l0_iter {α : Type} (x30 : Value) (x31 : L3) (x35 : Int) (x36 : Int) (x37 : Int) (x38 : Int) (x39 : Int) (x40 : Int) (Q : Ex → St → Option α) : ∀ (n : Nat) (x32 : Int) (x33 : Int) (x34 : Int), iter (loopStep E (exec E look_dhas noLps 400) 61 dside_P1 0 (codeAt E.P 61 dside_P1)) n (dside_S1 x30 x31 x32 x33 x34 x35 x36 x37 x38 x39 x40) Q = M.dside_l0 x31 x35 x36 x37 x38 x39 x40 (fun (x41 : Int) (x42 : Int) => Q (.exit 0) (St.mk (nn 7 (some (SV.int .i64 x41) :: some (SV.int .i64 x42) :: nn 26 ([]))) [])) n x32 x33 x34
  | 0, _, _, _ => rfl
  | n + 1, x32, x33, x34 => (dside_l0_step_eq x30 x31 x32 x33 x34 x35 x36 x37 x38 x39 x40 (iterK (loopStep E (exec E look_dhas noLps 400) 61 dside_P1 0 (codeAt E.P 61 dside_P1)) n Q)).trans (congrArg (fun kn => M.dside_l0_step x31 x35 x36 x37 x38 x39 x40 kn (fun (x41 : Int) (x42 : Int) => Q (.exit 0) (St.mk (nn 7 (some (SV.int .i64 x41) :: some (SV.int .i64 x42) :: nn 26 ([]))) [])) x32 x33 x34) (funext fun x32 => funext fun x33 => funext fun x34 => dside_l0_iter x30 x31 x35 x36 x37 x38 x39 x40 Q n x32 x33 x34))
noncomputable def dside_l0_go {α : Type} (ds : List D) (Q : Ex → St → Option α) : Option α :=
  dV ds fun x30 ds => dL kP ds fun x31 ds => dI ds fun x32 ds => dI ds fun x33 ds => dI ds fun x34 ds => dI ds fun x35 ds => dI ds fun x36 ds => dI ds fun x37 ds => dI ds fun x38 ds => dI ds fun x39 ds => dI ds fun x40 ds => dE ds (M.dside_l0 x31 x35 x36 x37 x38 x39 x40 (fun (x41 : Int) (x42 : Int) => Q (.exit 0) (St.mk (nn 7 (some (SV.int .i64 x41) :: some (SV.int .i64 x42) :: nn 26 ([]))) [])) (100 + x31.length) x32 x33 x34)
theorem dside_l0_ok {α : Type} : LoopOk E.P 61 dside_P1 0 (lEnt (α := α) (dside_S2) dside_l0_go) :=
  lEnt_ok E (exec_sound E E_ok (look_dhas_ok) (noLps_ok _) 400) fun ds Q r h S hS => by
    unfold dside_l0_go at h
    obtain ⟨x30, ds, rfl, h1⟩ := dV_inv h
    obtain ⟨x31, ds, rfl, h2⟩ := dL_inv h1
    obtain ⟨x32, ds, rfl, h3⟩ := dI_inv h2
    obtain ⟨x33, ds, rfl, h4⟩ := dI_inv h3
    obtain ⟨x34, ds, rfl, h5⟩ := dI_inv h4
    obtain ⟨x35, ds, rfl, h6⟩ := dI_inv h5
    obtain ⟨x36, ds, rfl, h7⟩ := dI_inv h6
    obtain ⟨x37, ds, rfl, h8⟩ := dI_inv h7
    obtain ⟨x38, ds, rfl, h9⟩ := dI_inv h8
    obtain ⟨x39, ds, rfl, h10⟩ := dI_inv h9
    obtain ⟨x40, ds, rfl, h11⟩ := dI_inv h10
    obtain ⟨rfl, hE⟩ := dE_inv h11
    have e : fillS (dside_S2) [.v x30, .l kP x31, .i x32, .i x33, .i x34, .i x35, .i x36, .i x37, .i x38, .i x39, .i x40] = some (dside_S1 x30 x31 x32 x33 x34 x35 x36 x37 x38 x39 x40) := by kernel_rfl
    rw [e] at hS
    cases hS
    exact ⟨_, (dside_l0_iter x30 x31 x35 x36 x37 x38 x39 x40 Q _ x32 x33 x34).trans hE⟩
noncomputable def dside_l0_lps {α : Type} : LookL α := addLp 61 dside_P1 0 (lEnt (dside_S2) dside_l0_go) noLps
theorem dside_l0_lps_ok {α : Type} : LoopsOk E.P (dside_l0_lps (α := α)) := addLp_ok dside_l0_ok (noLps_ok _)

noncomputable def _root_.Go.Proofs.Ytkjellhkamfciaa.M.dside {α : Type} (l : L3) (nx : Int) (ny : Int) (nz : Int) (ax : Int) (ay : Int) (az : Int) (k0 : Int → Option α) : Option α :=
  M.dside_l0 l nx ny nz ax ay az (fun (x47 x48 : Int) ↦ if cLe x48 (0 : Int) = true then k0 (1 : Int) else if cLe (0 : Int) x47 = true then k0 (-1 : Int) else k0 (0 : Int)) ((100 : Nat) + List.length l) (0 : Int) (0 : Int) (0 : Int)
theorem dside_eq {α : Type} (l : L3) (nx : Int) (ny : Int) (nz : Int) (ax : Int) (ay : Int) (az : Int) (v46 : Value) (Q : SV → Hp → Option α) : callI E look_dhas (exec E look_dhas dside_l0_lps 400) 61 ([SV.ros v46 kP l, SV.agg [SV.int .i64 nx, SV.int .i64 ny, SV.int .i64 nz], SV.agg [SV.int .i64 ax, SV.int .i64 ay, SV.int .i64 az]]) ([]) Q = M.dside l nx ny nz ax ay az (fun (x49 : Int) => Q (SV.int .i64 x49) ([])) := by kernel_rfl
def dside_sp : List AS := [.ro kP, .val (.agg [.int .i64 0, .int .i64 0, .int .i64 0]), .val (.agg [.int .i64 0, .int .i64 0, .int .i64 0])]
theorem dside_l0_val {α : Type} (l : List P3) (hl : l.length < 1099511627776) (n a : P3) (k1 : Int → Int → Option α) : ∀ (fuel i : Nat) (lo hi : Int), i ≤ l.length → l.length - i < fuel →
    M.dside_l0 l n.1 n.2.1 n.2.2 a.1 a.2.1 a.2.2 k1 fuel lo hi (i : Int) = k1 (minF n a (l.drop i) lo) (maxF n a (l.drop i) hi)
  | 0, i, lo, hi, h1, h2 => by omega
  | f + 1, i, lo, hi, h1, h2 => by
    unfold M.dside_l0 M.dside_l0_step
    rw [cLt_nat]
    by_cases hx : i < l.length
    · rw [w_next (by omega), dside_l0_val l hl n a k1 f (i + 1) _ _ (by omega) (by omega)]
      simp only [hx, decide_true, if_true, inB hx, toNat_nat]
      rw [drop_pt l i hx]
      rfl
    · have : i = l.length := by omega
      subst this
      simp [minF, maxF]
theorem dside_v {α : Type} (l : List P3) (nx ny nz ax ay az : Int) (hg : V.lenB l.length = true) (k0 : Int → Option α) : M.dside l nx ny nz ax ay az k0 = k0 (V.sideP l (nx, ny, nz) (ax, ay, az)) := by
  unfold M.dside V.sideP
  have := dside_l0_val l (lenB_lt hg) (nx, ny, nz) (ax, ay, az) (fun (x53 x54 : Int) => if cLe x54 (0 : Int) = true then k0 (1 : Int) else if cLe (0 : Int) x53 = true then k0 (-1 : Int) else k0 (0 : Int)) (100 + l.length) 0 0 0 (by omega) (by omega)
  simp only at this
  refine this.trans ?_
  simp only [cLe_eq, decide_eq_true_eq, minF_ge, maxF_le, Int.le_refl, true_and, List.drop_zero]
  split
  · rfl
  · split <;> rfl
noncomputable def dside_h {α : Type} (ds : List D) (Q : SV → Hp → Option α) : Option α :=
  dL kP ds fun l ds => dI ds fun nx ds => dI ds fun ny ds => dI ds fun nz ds => dI ds fun ax ds => dI ds fun ay ds => dI ds fun az ds => dE ds (if V.lenB l.length = true then Q (.int .i64 (V.sideP l (nx, ny, nz) (ax, ay, az))) ([]) else none)
theorem dside_h_ok {α : Type} : FnOk E.P 61 (fEnt (α := α) dside_sp dside_h) :=
  fEntR_ok E (look_dhas_ok) (exec_sound E E_ok (look_dhas_ok) (dside_l0_lps_ok) 400) fun ds Q r h => by
    unfold dside_h at h
    obtain ⟨l, ds, rfl, h1⟩ := dL_inv h
    obtain ⟨nx, ds, rfl, h2⟩ := dI_inv h1
    obtain ⟨ny, ds, rfl, h3⟩ := dI_inv h2
    obtain ⟨nz, ds, rfl, h4⟩ := dI_inv h3
    obtain ⟨ax, ds, rfl, h5⟩ := dI_inv h4
    obtain ⟨ay, ds, rfl, h6⟩ := dI_inv h5
    obtain ⟨az, ds, rfl, h7⟩ := dI_inv h6
    obtain ⟨rfl, hE⟩ := dE_inv h7
    split at hE
    · rename_i hg
      exact ⟨_, _, hE, fun vs => ⟨_, _, by kernel_rfl, (dside_eq l nx ny nz ax ay az (vs.headD undef) _).trans (dside_v l nx ny nz ax ay az hg _)⟩⟩
    · cases hE
noncomputable def look_dside {α : Type} : LookF α := addFn 61 (fEnt dside_sp dside_h) look_dhas
theorem look_dside_ok {α : Type} : LookOk E.P (look_dside (α := α)) := addFn_ok dside_h_ok (look_dhas_ok)
end Go.Proofs.Ytkjellhkamfciaa.Sx
end

section
/- the document's hulls: axes and edges. -/
namespace Go.Proofs.Ytkjellhkamfciaa.Sx
open Go
set_option maxRecDepth 20000
set_option linter.unusedVariables false
set_option linter.unusedSimpArgs false
noncomputable abbrev dhull_S1 (y1 : Value) (y2 : L3) (y3 y4 y5 y6 : Int) (y7 y8 y9 : L3) : St := St.mk (some (SV.ros y1 kP y2) :: nn 3 (some (SV.sl (nat_lit 0)) :: some (SV.sl (nat_lit 1)) :: some (SV.int .i64 y3) :: some (SV.int .i64 y4) :: some (SV.int .i64 y5) :: nn 4 (some (SV.sl (nat_lit 2)) :: some (SV.int .i64 y6) :: nn 125 ([])))) [.seq kP y7 (nat_lit 23), .seq kP y8 (nat_lit 23), .seq kP y9 (nat_lit 23)]
noncomputable abbrev dhull_S2 (y1 : Value) (y2 : L3) (y3 y4 y5 : Int) (y6 y7 : L3) : St := St.mk (some (SV.ros y1 kP y2) :: nn 3 (some (SV.sl (nat_lit 0)) :: some (SV.sl (nat_lit 1)) :: some (SV.int .i64 y3) :: some (SV.int .i64 y4) :: some (SV.int .i64 y5) :: nn 131 ([]))) [.seq kP y6 (nat_lit 23), .seq kP y7 (nat_lit 23)]
noncomputable abbrev dhull_S3 : St := St.mk (some (SV.ros undef kP []) :: nn 3 (some (SV.sl (nat_lit 0)) :: some (SV.sl (nat_lit 1)) :: some (SV.int .i64 (0 : Int)) :: some (SV.int .i64 (0 : Int)) :: some (SV.int .i64 (0 : Int)) :: nn 4 (some (SV.sl (nat_lit 2)) :: some (SV.int .i64 (0 : Int)) :: nn 125 ([])))) [.seq kP [] (nat_lit 23), .seq kP [] (nat_lit 23), .seq kP [] (nat_lit 23)]
noncomputable abbrev dhull_S4 (y1 : Value) (y2 : L3) (y3 y4 : Int) (y5 y6 : L3) : St := St.mk (some (SV.ros y1 kP y2) :: nn 3 (some (SV.sl (nat_lit 0)) :: some (SV.sl (nat_lit 1)) :: some (SV.int .i64 y3) :: some (SV.int .i64 y4) :: nn 132 ([]))) [.seq kP y5 (nat_lit 23), .seq kP y6 (nat_lit 23)]
noncomputable abbrev dhull_S5 : St := St.mk (some (SV.ros undef kP []) :: nn 3 (some (SV.sl (nat_lit 0)) :: some (SV.sl (nat_lit 1)) :: some (SV.int .i64 (0 : Int)) :: some (SV.int .i64 (0 : Int)) :: some (SV.int .i64 (0 : Int)) :: nn 131 ([]))) [.seq kP [] (nat_lit 23), .seq kP [] (nat_lit 23)]
noncomputable abbrev dhull_S6 (y1 : Value) (y2 : L3) (y3 : Int) (y4 y5 : L3) : St := St.mk (some (SV.ros y1 kP y2) :: nn 3 (some (SV.sl (nat_lit 0)) :: some (SV.sl (nat_lit 1)) :: some (SV.int .i64 y3) :: nn 133 ([]))) [.seq kP y4 (nat_lit 23), .seq kP y5 (nat_lit 23)]
noncomputable abbrev dhull_S7 : St := St.mk (some (SV.ros undef kP []) :: nn 3 (some (SV.sl (nat_lit 0)) :: some (SV.sl (nat_lit 1)) :: some (SV.int .i64 (0 : Int)) :: some (SV.int .i64 (0 : Int)) :: nn 132 ([]))) [.seq kP [] (nat_lit 23), .seq kP [] (nat_lit 23)]
noncomputable abbrev dhull_S8 (y1 y2 : L3) : St := St.mk (nn 4 (some (SV.sl (nat_lit 0)) :: some (SV.sl (nat_lit 1)) :: nn 134 ([]))) [.seq kP y1 (nat_lit 23), .seq kP y2 (nat_lit 23)]
noncomputable abbrev dhull_S9 : St := St.mk (some (SV.ros undef kP []) :: nn 3 (some (SV.sl (nat_lit 0)) :: some (SV.sl (nat_lit 1)) :: some (SV.int .i64 (0 : Int)) :: nn 133 ([]))) [.seq kP [] (nat_lit 23), .seq kP [] (nat_lit 23)]
abbrev dhull_P1 : List Bool := [false, true, true, true, true, true, true, true, true, false, false, true, false, false, true, false, false, true, false, false, true, false, false, true, false, false, true, false, true, true, true]
abbrev dhull_P2 : List Bool := [false, true, false, false, true, false, false, true, false, false, true, false, false, true, false, true, true, true]
abbrev dhull_P3 : List Bool := [false, true, false, false, true, false, false, true, false, true, true, true]
abbrev dhull_P4 : List Bool := [false, true, false, true, true, true]
noncomputable def _root_.Go.Proofs.Ytkjellhkamfciaa.M.dhull_l0_step {α : Type} (x54 : L3) (kn : Int → L3 → Option α) (k1 : L3 → Option α) (x51 : Int) (x53 : L3) : Option α :=
  if cLt x51 (3 : Int) = true then
  if (0 : Int) ≤ x51 ∧ x51 < (↑(List.length x54) : Int) then
    if V.lenB (List.length x53) = true then if (!V.has2 x53 (List.getD x54 (Int.toNat x51) ((0 : Int), (0 : Int), (0 : Int))) true) = true then if (0 : Int) ≤ x51 ∧ x51 < (↑(List.length x54) : Int) then if (List.length x53 + ((0 : Nat) + (1 : Nat))) * (24 : Nat) ≤ (140737488355328 : Nat) then kn (IntKind.wrap .i64 (x51 + (1 : Int))) (x53 ++ [List.getD x54 (Int.toNat x51) ((0 : Int), (0 : Int), (0 : Int))]) else none else none else kn (IntKind.wrap .i64 (x51 + (1 : Int))) x53
    else none
  else none
else k1 x53
noncomputable def _root_.Go.Proofs.Ytkjellhkamfciaa.M.dhull_l0 {α : Type} (x54 : L3) (k1 : L3 → Option α) : Nat → Int → L3 → Option α
  | 0, _, _ => none
  | n + 1, x51, x53 => M.dhull_l0_step x54 (M.dhull_l0 x54 k1 n) k1 x51 x53
theorem dhull_l0_step_eq {α : Type} (x46 : Value) (x47 : L3) (x48 : Int) (x49 : Int) (x50 : Int) (x51 : Int) (x52 : L3) (x53 : L3) (x54 : L3) (Q : Ex → St → Option α) : (loopStep E (exec E look_dside noLps 400) 31 dhull_P1 0 (codeAt E.P 31 dhull_P1)) (dhull_S1 x46 x47 x48 x49 x50 x51 x52 x53 x54) Q = M.dhull_l0_step x54 (fun (x56 : Int) (x57 : L3) => Q .normal (dhull_S1 x46 x47 x48 x49 x50 x56 x52 x57 x54)) (fun (x55 : L3) => Q (.exit 6) (dhull_S2 x46 x47 x48 x49 x50 x52 x55)) x51 x53 := by kernel_rfl
theorem dhull_l0_iter {α : Type} (x46 : Value) (x47 : L3) (x48 : Int) (x49 : Int) (x50 : Int) (x52 : L3) (x54 : L3) (Q : Ex → St → Option α) : ∀ (n : Nat) (x51 : Int) (x53 : L3), iter (loopStep E (exec E look_dside noLps 400) 31 dhull_P1 0 (codeAt E.P 31 dhull_P1)) n (dhull_S1 x46 x47 x48 x49 x50 x51 x52 x53 x54) Q = M.dhull_l0 x54 (fun (x55 : L3) => Q (.exit 6) (dhull_S2 x46 x47 x48 x49 x50 x52 x55)) n x51 x53
  | 0, _, _ => rfl
  | n + 1, x51, x53 => (dhull_l0_step_eq x46 x47 x48 x49 x50 x51 x52 x53 x54 (iterK (loopStep E (exec E look_dside noLps 400) 31 dhull_P1 0 (codeAt E.P 31 dhull_P1)) n Q)).trans (congrArg (fun kn => M.dhull_l0_step x54 kn (fun (x55 : L3) => Q (.exit 6) (dhull_S2 x46 x47 x48 x49 x50 x52 x55)) x51 x53) (funext fun x51 => funext fun x53 => dhull_l0_iter x46 x47 x48 x49 x50 x52 x54 Q n x51 x53))
noncomputable def dhull_l0_go {α : Type} (ds : List D) (Q : Ex → St → Option α) : Option α :=
  dV ds fun x46 ds => dL kP ds fun x47 ds => dI ds fun x48 ds => dI ds fun x49 ds => dI ds fun x50 ds => dI ds fun x51 ds => dL kP ds fun x52 ds => dL kP ds fun x53 ds => dL kP ds fun x54 ds => dE ds (M.dhull_l0 x54 (fun (x55 : L3) => Q (.exit 6) (dhull_S2 x46 x47 x48 x49 x50 x52 x55)) (100 + x47.length + x52.length + x53.length + x54.length) x51 x53)
theorem dhull_l0_ok {α : Type} : LoopOk E.P 31 dhull_P1 0 (lEnt (α := α) (dhull_S3) dhull_l0_go) :=
  lEnt_ok E (exec_sound E E_ok (look_dside_ok) (noLps_ok _) 400) fun ds Q r h S hS => by
    unfold dhull_l0_go at h
    obtain ⟨x46, ds, rfl, h1⟩ := dV_inv h
    obtain ⟨x47, ds, rfl, h2⟩ := dL_inv h1
    obtain ⟨x48, ds, rfl, h3⟩ := dI_inv h2
    obtain ⟨x49, ds, rfl, h4⟩ := dI_inv h3
    obtain ⟨x50, ds, rfl, h5⟩ := dI_inv h4
    obtain ⟨x51, ds, rfl, h6⟩ := dI_inv h5
    obtain ⟨x52, ds, rfl, h7⟩ := dL_inv h6
    obtain ⟨x53, ds, rfl, h8⟩ := dL_inv h7
    obtain ⟨x54, ds, rfl, h9⟩ := dL_inv h8
    obtain ⟨rfl, hE⟩ := dE_inv h9
    have e : fillS (dhull_S3) [.v x46, .l kP x47, .i x48, .i x49, .i x50, .i x51, .l kP x52, .l kP x53, .l kP x54] = some (dhull_S1 x46 x47 x48 x49 x50 x51 x52 x53 x54) := by kernel_rfl
    rw [e] at hS
    cases hS
    exact ⟨_, (dhull_l0_iter x46 x47 x48 x49 x50 x52 x54 Q _ x51 x53).trans hE⟩
noncomputable def dhull_l0_lps {α : Type} : LookL α := addLp 31 dhull_P1 0 (lEnt (dhull_S3) dhull_l0_go) noLps
theorem dhull_l0_lps_ok {α : Type} : LoopsOk E.P (dhull_l0_lps (α := α)) := addLp_ok dhull_l0_ok (noLps_ok _)

noncomputable def _root_.Go.Proofs.Ytkjellhkamfciaa.M.dhull_l1_step {α : Type} (x59 : L3) (x60 : Int) (x61 : Int) (kn : Int → L3 → L3 → Option α) (k1 : L3 → L3 → Option α) (x62 : Int) (x63 : L3) (x64 : L3) : Option α :=
  if cLt x62 (↑(List.length x59) : Int) = true then
  if (0 : Int) ≤ x60 ∧ x60 < (↑(List.length x59) : Int) then
    if (0 : Int) ≤ x61 ∧ x61 < (↑(List.length x59) : Int) then
      if (0 : Int) ≤ x62 ∧ x62 < (↑(List.length x59) : Int) then
        if (0 : Int) ≤ x60 ∧ x60 < (↑(List.length x59) : Int) then
          if V.lenB (List.length x59) = true then
            if
                (cEq (Prod.fst (V.pCross (V.pSub (List.getD x59 (Int.toNat x61) ((0 : Int), (0 : Int), (0 : Int))) (List.getD x59 (Int.toNat x60) ((0 : Int), (0 : Int), (0 : Int)))) (V.pSub (List.getD x59 (Int.toNat x62) ((0 : Int), (0 : Int), (0 : Int))) (List.getD x59 (Int.toNat x60) ((0 : Int), (0 : Int), (0 : Int)))))) (0 : Int) &&
                    (cEq (Prod.fst (Prod.snd (V.pCross (V.pSub (List.getD x59 (Int.toNat x61) ((0 : Int), (0 : Int), (0 : Int))) (List.getD x59 (Int.toNat x60) ((0 : Int), (0 : Int), (0 : Int)))) (V.pSub (List.getD x59 (Int.toNat x62) ((0 : Int), (0 : Int), (0 : Int))) (List.getD x59 (Int.toNat x60) ((0 : Int), (0 : Int), (0 : Int))))))) (0 : Int) &&
                      (cEq (Prod.snd (Prod.snd (V.pCross (V.pSub (List.getD x59 (Int.toNat x61) ((0 : Int), (0 : Int), (0 : Int))) (List.getD x59 (Int.toNat x60) ((0 : Int), (0 : Int), (0 : Int)))) (V.pSub (List.getD x59 (Int.toNat x62) ((0 : Int), (0 : Int), (0 : Int))) (List.getD x59 (Int.toNat x60) ((0 : Int), (0 : Int), (0 : Int))))))) (0 : Int) && true))) =
                  true then
              kn (IntKind.wrap .i64 (x62 + (1 : Int))) x63 x64
            else
              if cEq (V.sideP x59 (V.pCross (V.pSub (List.getD x59 (Int.toNat x61) ((0 : Int), (0 : Int), (0 : Int))) (List.getD x59 (Int.toNat x60) ((0 : Int), (0 : Int), (0 : Int)))) (V.pSub (List.getD x59 (Int.toNat x62) ((0 : Int), (0 : Int), (0 : Int))) (List.getD x59 (Int.toNat x60) ((0 : Int), (0 : Int), (0 : Int))))) (List.getD x59 (Int.toNat x60) ((0 : Int), (0 : Int), (0 : Int)))) (0 : Int) = true then kn (IntKind.wrap .i64 (x62 + (1 : Int))) x63 x64
              else
                if V.lenB (List.length x63) = true then
                  if
                      (!V.has2 x63
                            (V.pShort
                              (IntKind.wrap .i64
                                  (V.sideP x59 (V.pCross (V.pSub (List.getD x59 (Int.toNat x61) ((0 : Int), (0 : Int), (0 : Int))) (List.getD x59 (Int.toNat x60) ((0 : Int), (0 : Int), (0 : Int)))) (V.pSub (List.getD x59 (Int.toNat x62) ((0 : Int), (0 : Int), (0 : Int))) (List.getD x59 (Int.toNat x60) ((0 : Int), (0 : Int), (0 : Int))))) (List.getD x59 (Int.toNat x60) ((0 : Int), (0 : Int), (0 : Int))) *
                                    Prod.fst (V.pCross (V.pSub (List.getD x59 (Int.toNat x61) ((0 : Int), (0 : Int), (0 : Int))) (List.getD x59 (Int.toNat x60) ((0 : Int), (0 : Int), (0 : Int)))) (V.pSub (List.getD x59 (Int.toNat x62) ((0 : Int), (0 : Int), (0 : Int))) (List.getD x59 (Int.toNat x60) ((0 : Int), (0 : Int), (0 : Int)))))),
                                IntKind.wrap .i64
                                  (V.sideP x59 (V.pCross (V.pSub (List.getD x59 (Int.toNat x61) ((0 : Int), (0 : Int), (0 : Int))) (List.getD x59 (Int.toNat x60) ((0 : Int), (0 : Int), (0 : Int)))) (V.pSub (List.getD x59 (Int.toNat x62) ((0 : Int), (0 : Int), (0 : Int))) (List.getD x59 (Int.toNat x60) ((0 : Int), (0 : Int), (0 : Int))))) (List.getD x59 (Int.toNat x60) ((0 : Int), (0 : Int), (0 : Int))) *
                                    Prod.fst (Prod.snd (V.pCross (V.pSub (List.getD x59 (Int.toNat x61) ((0 : Int), (0 : Int), (0 : Int))) (List.getD x59 (Int.toNat x60) ((0 : Int), (0 : Int), (0 : Int)))) (V.pSub (List.getD x59 (Int.toNat x62) ((0 : Int), (0 : Int), (0 : Int))) (List.getD x59 (Int.toNat x60) ((0 : Int), (0 : Int), (0 : Int))))))),
                                IntKind.wrap .i64
                                  (V.sideP x59 (V.pCross (V.pSub (List.getD x59 (Int.toNat x61) ((0 : Int), (0 : Int), (0 : Int))) (List.getD x59 (Int.toNat x60) ((0 : Int), (0 : Int), (0 : Int)))) (V.pSub (List.getD x59 (Int.toNat x62) ((0 : Int), (0 : Int), (0 : Int))) (List.getD x59 (Int.toNat x60) ((0 : Int), (0 : Int), (0 : Int))))) (List.getD x59 (Int.toNat x60) ((0 : Int), (0 : Int), (0 : Int))) *
                                    Prod.snd (Prod.snd (V.pCross (V.pSub (List.getD x59 (Int.toNat x61) ((0 : Int), (0 : Int), (0 : Int))) (List.getD x59 (Int.toNat x60) ((0 : Int), (0 : Int), (0 : Int)))) (V.pSub (List.getD x59 (Int.toNat x62) ((0 : Int), (0 : Int), (0 : Int))) (List.getD x59 (Int.toNat x60) ((0 : Int), (0 : Int), (0 : Int)))))))))
                            false) =
                        true then
                    if (List.length x63 + ((0 : Nat) + (1 : Nat))) * (24 : Nat) ≤ (140737488355328 : Nat) then
                      if (0 : Int) ≤ x61 ∧ x61 < (↑(List.length x59) : Int) then
                        if (0 : Int) ≤ x60 ∧ x60 < (↑(List.length x59) : Int) then
                          if (0 : Int) ≤ x62 ∧ x62 < (↑(List.length x59) : Int) then
                            if (0 : Int) ≤ x60 ∧ x60 < (↑(List.length x59) : Int) then
                              if (0 : Int) ≤ x62 ∧ x62 < (↑(List.length x59) : Int) then
                                if (0 : Int) ≤ x61 ∧ x61 < (↑(List.length x59) : Int) then
                                  M.dhull_l0 [V.pShort (V.pSub (List.getD x59 (Int.toNat x61) ((0 : Int), (0 : Int), (0 : Int))) (List.getD x59 (Int.toNat x60) ((0 : Int), (0 : Int), (0 : Int)))), V.pShort (V.pSub (List.getD x59 (Int.toNat x62) ((0 : Int), (0 : Int), (0 : Int))) (List.getD x59 (Int.toNat x60) ((0 : Int), (0 : Int), (0 : Int)))), V.pShort (V.pSub (List.getD x59 (Int.toNat x62) ((0 : Int), (0 : Int), (0 : Int))) (List.getD x59 (Int.toNat x61) ((0 : Int), (0 : Int), (0 : Int))))]
                                    (fun (x65 : L3) ↦
                                      kn (IntKind.wrap .i64 (x62 + (1 : Int)))
                                        (x63 ++
                                          [V.pShort
                                              (IntKind.wrap .i64
                                                  (V.sideP x59 (V.pCross (V.pSub (List.getD x59 (Int.toNat x61) ((0 : Int), (0 : Int), (0 : Int))) (List.getD x59 (Int.toNat x60) ((0 : Int), (0 : Int), (0 : Int)))) (V.pSub (List.getD x59 (Int.toNat x62) ((0 : Int), (0 : Int), (0 : Int))) (List.getD x59 (Int.toNat x60) ((0 : Int), (0 : Int), (0 : Int))))) (List.getD x59 (Int.toNat x60) ((0 : Int), (0 : Int), (0 : Int))) *
                                                    Prod.fst (V.pCross (V.pSub (List.getD x59 (Int.toNat x61) ((0 : Int), (0 : Int), (0 : Int))) (List.getD x59 (Int.toNat x60) ((0 : Int), (0 : Int), (0 : Int)))) (V.pSub (List.getD x59 (Int.toNat x62) ((0 : Int), (0 : Int), (0 : Int))) (List.getD x59 (Int.toNat x60) ((0 : Int), (0 : Int), (0 : Int)))))),
                                                IntKind.wrap .i64
                                                  (V.sideP x59 (V.pCross (V.pSub (List.getD x59 (Int.toNat x61) ((0 : Int), (0 : Int), (0 : Int))) (List.getD x59 (Int.toNat x60) ((0 : Int), (0 : Int), (0 : Int)))) (V.pSub (List.getD x59 (Int.toNat x62) ((0 : Int), (0 : Int), (0 : Int))) (List.getD x59 (Int.toNat x60) ((0 : Int), (0 : Int), (0 : Int))))) (List.getD x59 (Int.toNat x60) ((0 : Int), (0 : Int), (0 : Int))) *
                                                    Prod.fst (Prod.snd (V.pCross (V.pSub (List.getD x59 (Int.toNat x61) ((0 : Int), (0 : Int), (0 : Int))) (List.getD x59 (Int.toNat x60) ((0 : Int), (0 : Int), (0 : Int)))) (V.pSub (List.getD x59 (Int.toNat x62) ((0 : Int), (0 : Int), (0 : Int))) (List.getD x59 (Int.toNat x60) ((0 : Int), (0 : Int), (0 : Int))))))),
                                                IntKind.wrap .i64
                                                  (V.sideP x59 (V.pCross (V.pSub (List.getD x59 (Int.toNat x61) ((0 : Int), (0 : Int), (0 : Int))) (List.getD x59 (Int.toNat x60) ((0 : Int), (0 : Int), (0 : Int)))) (V.pSub (List.getD x59 (Int.toNat x62) ((0 : Int), (0 : Int), (0 : Int))) (List.getD x59 (Int.toNat x60) ((0 : Int), (0 : Int), (0 : Int))))) (List.getD x59 (Int.toNat x60) ((0 : Int), (0 : Int), (0 : Int))) *
                                                    Prod.snd (Prod.snd (V.pCross (V.pSub (List.getD x59 (Int.toNat x61) ((0 : Int), (0 : Int), (0 : Int))) (List.getD x59 (Int.toNat x60) ((0 : Int), (0 : Int), (0 : Int)))) (V.pSub (List.getD x59 (Int.toNat x62) ((0 : Int), (0 : Int), (0 : Int))) (List.getD x59 (Int.toNat x60) ((0 : Int), (0 : Int), (0 : Int))))))))])
                                        x65)
                                    ((100 : Nat) + List.length x59 +
                                          List.length
                                            (x63 ++
                                              [V.pShort
                                                  (IntKind.wrap .i64
                                                      (V.sideP x59 (V.pCross (V.pSub (List.getD x59 (Int.toNat x61) ((0 : Int), (0 : Int), (0 : Int))) (List.getD x59 (Int.toNat x60) ((0 : Int), (0 : Int), (0 : Int)))) (V.pSub (List.getD x59 (Int.toNat x62) ((0 : Int), (0 : Int), (0 : Int))) (List.getD x59 (Int.toNat x60) ((0 : Int), (0 : Int), (0 : Int))))) (List.getD x59 (Int.toNat x60) ((0 : Int), (0 : Int), (0 : Int))) *
                                                        Prod.fst (V.pCross (V.pSub (List.getD x59 (Int.toNat x61) ((0 : Int), (0 : Int), (0 : Int))) (List.getD x59 (Int.toNat x60) ((0 : Int), (0 : Int), (0 : Int)))) (V.pSub (List.getD x59 (Int.toNat x62) ((0 : Int), (0 : Int), (0 : Int))) (List.getD x59 (Int.toNat x60) ((0 : Int), (0 : Int), (0 : Int)))))),
                                                    IntKind.wrap .i64
                                                      (V.sideP x59 (V.pCross (V.pSub (List.getD x59 (Int.toNat x61) ((0 : Int), (0 : Int), (0 : Int))) (List.getD x59 (Int.toNat x60) ((0 : Int), (0 : Int), (0 : Int)))) (V.pSub (List.getD x59 (Int.toNat x62) ((0 : Int), (0 : Int), (0 : Int))) (List.getD x59 (Int.toNat x60) ((0 : Int), (0 : Int), (0 : Int))))) (List.getD x59 (Int.toNat x60) ((0 : Int), (0 : Int), (0 : Int))) *
                                                        Prod.fst (Prod.snd (V.pCross (V.pSub (List.getD x59 (Int.toNat x61) ((0 : Int), (0 : Int), (0 : Int))) (List.getD x59 (Int.toNat x60) ((0 : Int), (0 : Int), (0 : Int)))) (V.pSub (List.getD x59 (Int.toNat x62) ((0 : Int), (0 : Int), (0 : Int))) (List.getD x59 (Int.toNat x60) ((0 : Int), (0 : Int), (0 : Int))))))),
                                                    IntKind.wrap .i64
                                                      (V.sideP x59 (V.pCross (V.pSub (List.getD x59 (Int.toNat x61) ((0 : Int), (0 : Int), (0 : Int))) (List.getD x59 (Int.toNat x60) ((0 : Int), (0 : Int), (0 : Int)))) (V.pSub (List.getD x59 (Int.toNat x62) ((0 : Int), (0 : Int), (0 : Int))) (List.getD x59 (Int.toNat x60) ((0 : Int), (0 : Int), (0 : Int))))) (List.getD x59 (Int.toNat x60) ((0 : Int), (0 : Int), (0 : Int))) *
                                                        Prod.snd (Prod.snd (V.pCross (V.pSub (List.getD x59 (Int.toNat x61) ((0 : Int), (0 : Int), (0 : Int))) (List.getD x59 (Int.toNat x60) ((0 : Int), (0 : Int), (0 : Int)))) (V.pSub (List.getD x59 (Int.toNat x62) ((0 : Int), (0 : Int), (0 : Int))) (List.getD x59 (Int.toNat x60) ((0 : Int), (0 : Int), (0 : Int))))))))]) +
                                        List.length x64 +
                                      ((2 : Nat) + (1 : Nat)))
                                    (0 : Int) x64
                                else none
                              else none
                            else none
                          else none
                        else none
                      else none
                    else none
                  else
                    if (0 : Int) ≤ x61 ∧ x61 < (↑(List.length x59) : Int) then
                      if (0 : Int) ≤ x60 ∧ x60 < (↑(List.length x59) : Int) then
                        if (0 : Int) ≤ x62 ∧ x62 < (↑(List.length x59) : Int) then
                          if (0 : Int) ≤ x60 ∧ x60 < (↑(List.length x59) : Int) then
                            if (0 : Int) ≤ x62 ∧ x62 < (↑(List.length x59) : Int) then
                              if (0 : Int) ≤ x61 ∧ x61 < (↑(List.length x59) : Int) then
                                M.dhull_l0 [V.pShort (V.pSub (List.getD x59 (Int.toNat x61) ((0 : Int), (0 : Int), (0 : Int))) (List.getD x59 (Int.toNat x60) ((0 : Int), (0 : Int), (0 : Int)))), V.pShort (V.pSub (List.getD x59 (Int.toNat x62) ((0 : Int), (0 : Int), (0 : Int))) (List.getD x59 (Int.toNat x60) ((0 : Int), (0 : Int), (0 : Int)))), V.pShort (V.pSub (List.getD x59 (Int.toNat x62) ((0 : Int), (0 : Int), (0 : Int))) (List.getD x59 (Int.toNat x61) ((0 : Int), (0 : Int), (0 : Int))))]
                                  (fun (x66 : L3) ↦ kn (IntKind.wrap .i64 (x62 + (1 : Int))) x63 x66) ((100 : Nat) + List.length x59 + List.length x63 + List.length x64 + ((2 : Nat) + (1 : Nat))) (0 : Int) x64
                              else none
                            else none
                          else none
                        else none
                      else none
                    else none
                else none
          else none
        else none
      else none
    else none
  else none
else k1 x63 x64
noncomputable def _root_.Go.Proofs.Ytkjellhkamfciaa.M.dhull_l1 {α : Type} (x59 : L3) (x60 : Int) (x61 : Int) (k1 : L3 → L3 → Option α) : Nat → Int → L3 → L3 → Option α
  | 0, _, _, _ => none
  | n + 1, x62, x63, x64 => M.dhull_l1_step x59 x60 x61 (M.dhull_l1 x59 x60 x61 k1 n) k1 x62 x63 x64
theorem dhull_l1_step_eq {α : Type} (x58 : Value) (x59 : L3) (x60 : Int) (x61 : Int) (x62 : Int) (x63 : L3) (x64 : L3) (Q : Ex → St → Option α) : (loopStep E (exec E look_dside dhull_l0_lps 400) 31 dhull_P2 0 (codeAt E.P 31 dhull_P2)) (dhull_S2 x58 x59 x60 x61 x62 x63 x64) Q = M.dhull_l1_step x59 x60 x61 (fun (x69 : Int) (x70 : L3) (x71 : L3) => Q .normal (dhull_S2 x58 x59 x60 x61 x69 x70 x71)) (fun (x67 : L3) (x68 : L3) => Q (.exit 4) (dhull_S4 x58 x59 x60 x61 x67 x68)) x62 x63 x64 := by kernel_rfl
theorem dhull_l1_iter {α : Type} (x58 : Value) (x59 : L3) (x60 : Int) (x61 : Int) (Q : Ex → St → Option α) : ∀ (n : Nat) (x62 : Int) (x63 : L3) (x64 : L3), iter (loopStep E (exec E look_dside dhull_l0_lps 400) 31 dhull_P2 0 (codeAt E.P 31 dhull_P2)) n (dhull_S2 x58 x59 x60 x61 x62 x63 x64) Q = M.dhull_l1 x59 x60 x61 (fun (x67 : L3) (x68 : L3) => Q (.exit 4) (dhull_S4 x58 x59 x60 x61 x67 x68)) n x62 x63 x64
  | 0, _, _, _ => rfl
  | n + 1, x62, x63, x64 => (dhull_l1_step_eq x58 x59 x60 x61 x62 x63 x64 (iterK (loopStep E (exec E look_dside dhull_l0_lps 400) 31 dhull_P2 0 (codeAt E.P 31 dhull_P2)) n Q)).trans (congrArg (fun kn => M.dhull_l1_step x59 x60 x61 kn (fun (x67 : L3) (x68 : L3) => Q (.exit 4) (dhull_S4 x58 x59 x60 x61 x67 x68)) x62 x63 x64) (funext fun x62 => funext fun x63 => funext fun x64 => dhull_l1_iter x58 x59 x60 x61 Q n x62 x63 x64))
noncomputable def dhull_l1_go {α : Type} (ds : List D) (Q : Ex → St → Option α) : Option α :=
  dV ds fun x58 ds => dL kP ds fun x59 ds => dI ds fun x60 ds => dI ds fun x61 ds => dI ds fun x62 ds => dL kP ds fun x63 ds => dL kP ds fun x64 ds => dE ds (M.dhull_l1 x59 x60 x61 (fun (x67 : L3) (x68 : L3) => Q (.exit 4) (dhull_S4 x58 x59 x60 x61 x67 x68)) (100 + x59.length + x63.length + x64.length) x62 x63 x64)
theorem dhull_l1_ok {α : Type} : LoopOk E.P 31 dhull_P2 0 (lEnt (α := α) (dhull_S5) dhull_l1_go) :=
  lEnt_ok E (exec_sound E E_ok (look_dside_ok) (dhull_l0_lps_ok) 400) fun ds Q r h S hS => by
    unfold dhull_l1_go at h
    obtain ⟨x58, ds, rfl, h1⟩ := dV_inv h
    obtain ⟨x59, ds, rfl, h2⟩ := dL_inv h1
    obtain ⟨x60, ds, rfl, h3⟩ := dI_inv h2
    obtain ⟨x61, ds, rfl, h4⟩ := dI_inv h3
    obtain ⟨x62, ds, rfl, h5⟩ := dI_inv h4
    obtain ⟨x63, ds, rfl, h6⟩ := dL_inv h5
    obtain ⟨x64, ds, rfl, h7⟩ := dL_inv h6
    obtain ⟨rfl, hE⟩ := dE_inv h7
    have e : fillS (dhull_S5) [.v x58, .l kP x59, .i x60, .i x61, .i x62, .l kP x63, .l kP x64] = some (dhull_S2 x58 x59 x60 x61 x62 x63 x64) := by kernel_rfl
    rw [e] at hS
    cases hS
    exact ⟨_, (dhull_l1_iter x58 x59 x60 x61 Q _ x62 x63 x64).trans hE⟩
noncomputable def dhull_l1_lps {α : Type} : LookL α := addLp 31 dhull_P2 0 (lEnt (dhull_S5) dhull_l1_go) dhull_l0_lps
theorem dhull_l1_lps_ok {α : Type} : LoopsOk E.P (dhull_l1_lps (α := α)) := addLp_ok dhull_l1_ok (dhull_l0_lps_ok)

noncomputable def _root_.Go.Proofs.Ytkjellhkamfciaa.M.dhull_l2_step {α : Type} (x73 : L3) (x74 : Int) (kn : Int → L3 → L3 → Option α) (k1 : L3 → L3 → Option α) (x75 : Int) (x76 : L3) (x77 : L3) : Option α :=
  if cLt x75 (↑(List.length x73) : Int) = true then M.dhull_l1 x73 x74 x75 (fun (x78 x79 : L3) ↦ kn (IntKind.wrap .i64 (x75 + (1 : Int))) x78 x79) ((100 : Nat) + List.length x73 + List.length x76 + List.length x77) (IntKind.wrap .i64 (x75 + (1 : Int))) x76 x77 else k1 x76 x77
noncomputable def _root_.Go.Proofs.Ytkjellhkamfciaa.M.dhull_l2 {α : Type} (x73 : L3) (x74 : Int) (k1 : L3 → L3 → Option α) : Nat → Int → L3 → L3 → Option α
  | 0, _, _, _ => none
  | n + 1, x75, x76, x77 => M.dhull_l2_step x73 x74 (M.dhull_l2 x73 x74 k1 n) k1 x75 x76 x77
theorem dhull_l2_step_eq {α : Type} (x72 : Value) (x73 : L3) (x74 : Int) (x75 : Int) (x76 : L3) (x77 : L3) (Q : Ex → St → Option α) : (loopStep E (exec E look_dside dhull_l1_lps 400) 31 dhull_P3 0 (codeAt E.P 31 dhull_P3)) (dhull_S4 x72 x73 x74 x75 x76 x77) Q = M.dhull_l2_step x73 x74 (fun (x82 : Int) (x83 : L3) (x84 : L3) => Q .normal (dhull_S4 x72 x73 x74 x82 x83 x84)) (fun (x80 : L3) (x81 : L3) => Q (.exit 2) (dhull_S6 x72 x73 x74 x80 x81)) x75 x76 x77 := by kernel_rfl
theorem dhull_l2_iter {α : Type} (x72 : Value) (x73 : L3) (x74 : Int) (Q : Ex → St → Option α) : ∀ (n : Nat) (x75 : Int) (x76 : L3) (x77 : L3), iter (loopStep E (exec E look_dside dhull_l1_lps 400) 31 dhull_P3 0 (codeAt E.P 31 dhull_P3)) n (dhull_S4 x72 x73 x74 x75 x76 x77) Q = M.dhull_l2 x73 x74 (fun (x80 : L3) (x81 : L3) => Q (.exit 2) (dhull_S6 x72 x73 x74 x80 x81)) n x75 x76 x77
  | 0, _, _, _ => rfl
  | n + 1, x75, x76, x77 => (dhull_l2_step_eq x72 x73 x74 x75 x76 x77 (iterK (loopStep E (exec E look_dside dhull_l1_lps 400) 31 dhull_P3 0 (codeAt E.P 31 dhull_P3)) n Q)).trans (congrArg (fun kn => M.dhull_l2_step x73 x74 kn (fun (x80 : L3) (x81 : L3) => Q (.exit 2) (dhull_S6 x72 x73 x74 x80 x81)) x75 x76 x77) (funext fun x75 => funext fun x76 => funext fun x77 => dhull_l2_iter x72 x73 x74 Q n x75 x76 x77))
noncomputable def dhull_l2_go {α : Type} (ds : List D) (Q : Ex → St → Option α) : Option α :=
  dV ds fun x72 ds => dL kP ds fun x73 ds => dI ds fun x74 ds => dI ds fun x75 ds => dL kP ds fun x76 ds => dL kP ds fun x77 ds => dE ds (M.dhull_l2 x73 x74 (fun (x80 : L3) (x81 : L3) => Q (.exit 2) (dhull_S6 x72 x73 x74 x80 x81)) (100 + x73.length + x76.length + x77.length) x75 x76 x77)
theorem dhull_l2_ok {α : Type} : LoopOk E.P 31 dhull_P3 0 (lEnt (α := α) (dhull_S7) dhull_l2_go) :=
  lEnt_ok E (exec_sound E E_ok (look_dside_ok) (dhull_l1_lps_ok) 400) fun ds Q r h S hS => by
    unfold dhull_l2_go at h
    obtain ⟨x72, ds, rfl, h1⟩ := dV_inv h
    obtain ⟨x73, ds, rfl, h2⟩ := dL_inv h1
    obtain ⟨x74, ds, rfl, h3⟩ := dI_inv h2
    obtain ⟨x75, ds, rfl, h4⟩ := dI_inv h3
    obtain ⟨x76, ds, rfl, h5⟩ := dL_inv h4
    obtain ⟨x77, ds, rfl, h6⟩ := dL_inv h5
    obtain ⟨rfl, hE⟩ := dE_inv h6
    have e : fillS (dhull_S7) [.v x72, .l kP x73, .i x74, .i x75, .l kP x76, .l kP x77] = some (dhull_S4 x72 x73 x74 x75 x76 x77) := by kernel_rfl
    rw [e] at hS
    cases hS
    exact ⟨_, (dhull_l2_iter x72 x73 x74 Q _ x75 x76 x77).trans hE⟩
noncomputable def dhull_l2_lps {α : Type} : LookL α := addLp 31 dhull_P3 0 (lEnt (dhull_S7) dhull_l2_go) dhull_l1_lps
theorem dhull_l2_lps_ok {α : Type} : LoopsOk E.P (dhull_l2_lps (α := α)) := addLp_ok dhull_l2_ok (dhull_l1_lps_ok)

noncomputable def _root_.Go.Proofs.Ytkjellhkamfciaa.M.dhull_l3_step {α : Type} (x86 : L3) (kn : Int → L3 → L3 → Option α) (k1 : L3 → L3 → Option α) (x87 : Int) (x88 : L3) (x89 : L3) : Option α :=
  if cLt x87 (↑(List.length x86) : Int) = true then M.dhull_l2 x86 x87 (fun (x90 x91 : L3) ↦ kn (IntKind.wrap .i64 (x87 + (1 : Int))) x90 x91) ((100 : Nat) + List.length x86 + List.length x88 + List.length x89) (IntKind.wrap .i64 (x87 + (1 : Int))) x88 x89 else k1 x88 x89
noncomputable def _root_.Go.Proofs.Ytkjellhkamfciaa.M.dhull_l3 {α : Type} (x86 : L3) (k1 : L3 → L3 → Option α) : Nat → Int → L3 → L3 → Option α
  | 0, _, _, _ => none
  | n + 1, x87, x88, x89 => M.dhull_l3_step x86 (M.dhull_l3 x86 k1 n) k1 x87 x88 x89
theorem dhull_l3_step_eq {α : Type} (x85 : Value) (x86 : L3) (x87 : Int) (x88 : L3) (x89 : L3) (Q : Ex → St → Option α) : (loopStep E (exec E look_dside dhull_l2_lps 400) 31 dhull_P4 0 (codeAt E.P 31 dhull_P4)) (dhull_S6 x85 x86 x87 x88 x89) Q = M.dhull_l3_step x86 (fun (x94 : Int) (x95 : L3) (x96 : L3) => Q .normal (dhull_S6 x85 x86 x94 x95 x96)) (fun (x92 : L3) (x93 : L3) => Q (.exit 0) (dhull_S8 x92 x93)) x87 x88 x89 := by kernel_rfl
theorem dhull_l3_iter {α : Type} (x85 : Value) (x86 : L3) (Q : Ex → St → Option α) : ∀ (n : Nat) (x87 : Int) (x88 : L3) (x89 : L3), iter (loopStep E (exec E look_dside dhull_l2_lps 400) 31 dhull_P4 0 (codeAt E.P 31 dhull_P4)) n (dhull_S6 x85 x86 x87 x88 x89) Q = M.dhull_l3 x86 (fun (x92 : L3) (x93 : L3) => Q (.exit 0) (dhull_S8 x92 x93)) n x87 x88 x89
  | 0, _, _, _ => rfl
  | n + 1, x87, x88, x89 => (dhull_l3_step_eq x85 x86 x87 x88 x89 (iterK (loopStep E (exec E look_dside dhull_l2_lps 400) 31 dhull_P4 0 (codeAt E.P 31 dhull_P4)) n Q)).trans (congrArg (fun kn => M.dhull_l3_step x86 kn (fun (x92 : L3) (x93 : L3) => Q (.exit 0) (dhull_S8 x92 x93)) x87 x88 x89) (funext fun x87 => funext fun x88 => funext fun x89 => dhull_l3_iter x85 x86 Q n x87 x88 x89))
noncomputable def dhull_l3_go {α : Type} (ds : List D) (Q : Ex → St → Option α) : Option α :=
  dV ds fun x85 ds => dL kP ds fun x86 ds => dI ds fun x87 ds => dL kP ds fun x88 ds => dL kP ds fun x89 ds => dE ds (M.dhull_l3 x86 (fun (x92 : L3) (x93 : L3) => Q (.exit 0) (dhull_S8 x92 x93)) (100 + x86.length + x88.length + x89.length) x87 x88 x89)
theorem dhull_l3_ok {α : Type} : LoopOk E.P 31 dhull_P4 0 (lEnt (α := α) (dhull_S9) dhull_l3_go) :=
  lEnt_ok E (exec_sound E E_ok (look_dside_ok) (dhull_l2_lps_ok) 400) fun ds Q r h S hS => by
    unfold dhull_l3_go at h
    obtain ⟨x85, ds, rfl, h1⟩ := dV_inv h
    obtain ⟨x86, ds, rfl, h2⟩ := dL_inv h1
    obtain ⟨x87, ds, rfl, h3⟩ := dI_inv h2
    obtain ⟨x88, ds, rfl, h4⟩ := dL_inv h3
    obtain ⟨x89, ds, rfl, h5⟩ := dL_inv h4
    obtain ⟨rfl, hE⟩ := dE_inv h5
    have e : fillS (dhull_S9) [.v x85, .l kP x86, .i x87, .l kP x88, .l kP x89] = some (dhull_S6 x85 x86 x87 x88 x89) := by kernel_rfl
    rw [e] at hS
    cases hS
    exact ⟨_, (dhull_l3_iter x85 x86 Q _ x87 x88 x89).trans hE⟩
noncomputable def dhull_l3_lps {α : Type} : LookL α := addLp 31 dhull_P4 0 (lEnt (dhull_S9) dhull_l3_go) dhull_l2_lps
theorem dhull_l3_lps_ok {α : Type} : LoopsOk E.P (dhull_l3_lps (α := α)) := addLp_ok dhull_l3_ok (dhull_l2_lps_ok)

noncomputable def _root_.Go.Proofs.Ytkjellhkamfciaa.M.dhull {α : Type} (l : L3) (k0 : L3 → L3 → Option α) : Option α :=
  M.dhull_l3 l (fun (x98 x99 : L3) ↦ k0 x98 x99) ((100 : Nat) + List.length l + (0 : Nat) + (0 : Nat)) (0 : Int) [] []
theorem dhull_eq {α : Type} (l : L3) (v97 : Value) (Q : SV → Hp → Option α) : callI E look_dside (exec E look_dside dhull_l3_lps 400) 31 ([SV.ros v97 kP l]) ([]) Q = M.dhull l (fun (x100 : L3) (x101 : L3) => Q (SV.tup [SV.sl (nat_lit 0), SV.sl (nat_lit 1)]) ([.seq kP x100 (nat_lit 23), .seq kP x101 (nat_lit 23)])) := by kernel_rfl
def dhull_sp : List AS := [.ro kP]
theorem pt_map (f : P3 → P3) (l : List P3) (i : Nat) (h : i < l.length) : pt (l.map f) i = f (pt l i) := by simp [pt, List.getD_eq_getElem?_getD, h]
theorem hulE_val {α : Type} (es : List P3) (he : es.length = 3) (k1 : List P3 → Option α) : ∀ (fuel i : Nat) (E : List P3), i ≤ 3 → 3 - i < fuel → E.length + (3 - i) < 1000000 →
    M.dhull_l0 (es.map V.pShort) k1 fuel (i : Int) E = k1 ((es.drop i).foldl addE E)
  | 0, i, E, h1, h2, h3 => by omega
  | f + 1, i, E, h1, h2, h3 => by
    unfold M.dhull_l0 M.dhull_l0_step
    rw [show cLt (i : Int) (3 : Int) = decide (i < 3) from cLt_nat i 3]
    by_cases hi : i < 3
    · have a2 := addE_len E (pt es i)
      have hd := drop_pt es i (by omega)
      have hm : ((es.map V.pShort).length : Int) = 3 := by simp [he]
      have hp : List.getD (es.map V.pShort) (Int.toNat (i : Int)) (0, 0, 0) = V.pShort (pt es i) := pt_map _ es i (by omega)
      rw [w_next (by omega), if_pos (by simpa using hi), hm, if_pos (by omega : (0 : Int) ≤ (i : Int) ∧ (i : Int) < 3), if_pos (lenB_of (n := E.length) (by omega)), hp]
      rw [if_pos (by omega : (0 : Int) ≤ (i : Int) ∧ (i : Int) < 3), if_pos (by omega : (E.length + (0 + 1)) * 24 ≤ 140737488355328), hd, List.foldl_cons]
      have e : ∀ X, X = addE E (pt es i) → M.dhull_l0 (es.map V.pShort) k1 f ((i + 1 : Nat) : Int) X = k1 ((es.drop (i + 1)).foldl addE (addE E (pt es i))) := by
        intro X hX
        rw [hX]
        exact hulE_val es he k1 f (i + 1) _ (by omega) (by omega) (by omega)
      unfold V.has2 V.hasP
      by_cases c1 : V.pShort (pt es i) ∈ E ∨ negP (V.pShort (pt es i)) ∈ E
      · rw [if_neg (by simp; intro h; exact c1.resolve_left h)]
        exact e E (by unfold addE; rw [if_pos c1])
      · rw [if_pos (by simp; exact ⟨fun h => c1 (.inl h), fun h => c1 (.inr h)⟩)]
        exact e _ (by unfold addE; rw [if_neg c1])
    · have : i = 3 := by omega
      subst this
      rw [if_neg (by simp), List.drop_of_length_le (by omega)]
      rfl
theorem has2_false (l : List P3) (p : P3) : V.has2 l p false = V.hasP l p := by unfold V.has2; simp
theorem dtri_val {α : Type} (l : List P3) (hl : l.length ≤ 12) (i j k : Nat) (hi : i < l.length) (hj : j < l.length) (hk : k < l.length) (A E : List P3) (hA : A.length + E.length < 900000) (k1 : List P3 → List P3 → Option α) (kn : Int → List P3 → List P3 → Option α) :
    M.dhull_l1_step l (i : Int) (j : Int) kn k1 (k : Int) A E = kn ((k + 1 : Nat) : Int) (trip l i j k (A, E)).1 (trip l i j k (A, E)).2 := by
  unfold M.dhull_l1_step
  have ci : (0 : Int) ≤ (i : Int) ∧ (i : Int) < (l.length : Int) := by omega
  have cj : (0 : Int) ≤ (j : Int) ∧ (j : Int) < (l.length : Int) := by omega
  have ck : (0 : Int) ≤ (k : Int) ∧ (k : Int) < (l.length : Int) := by omega
  rw [cLt_nat, if_pos (by simpa using hk), if_pos ci, if_pos cj, if_pos ck, if_pos ci, if_pos (lenB_of (n := l.length) (by omega)), w_next (by omega)]
  have hN : (cEq (triN l i j k).1 (0 : Int) && (cEq (triN l i j k).2.1 (0 : Int) && (cEq (triN l i j k).2.2 (0 : Int) && true))) = decide (triN l i j k = (0, 0, 0)) := eq3 _ _ _ (0, 0, 0)
  show (if (cEq (triN l i j k).1 (0 : Int) && (cEq (triN l i j k).2.1 (0 : Int) && (cEq (triN l i j k).2.2 (0 : Int) && true))) = true then kn _ A E else if cEq (triS l i j k) 0 = true then kn _ A E else _) = _
  rw [hN, cEq_eq]
  by_cases c1 : triN l i j k = (0, 0, 0)
  · have e : trip l i j k (A, E) = (A, E) := by unfold trip; rw [if_pos c1]
    rw [if_pos (by simpa using c1), e]
  · rw [if_neg (by simpa using c1)]
    by_cases c2 : triS l i j k = 0
    · have e : trip l i j k (A, E) = (A, E) := by unfold trip; rw [if_neg c1, if_pos c2]
      rw [if_pos (by simpa using c2), e]
    · rw [if_neg (by simpa using c2), if_pos (lenB_of (n := A.length) (by omega))]
      have e : trip l i j k (A, E) = (if triA l i j k ∈ A then A else A ++ [triA l i j k], (triE l i j k).foldl addE E) := by unfold trip; rw [if_neg c1, if_neg c2]
      rw [e]
      show (if (!V.has2 A (triA l i j k) false) = true then _ else _) = _
      rw [has2_false]
      unfold V.hasP
      have h2 : ∀ (fuel : Nat) (k1 : List P3 → Option α), 3 < fuel → M.dhull_l0 ((triE l i j k).map V.pShort) k1 fuel (0 : Int) E = k1 ((triE l i j k).foldl addE E) := by
        intro fuel k1 hf
        exact hulE_val (triE l i j k) rfl k1 fuel 0 E (Nat.zero_le _) (by omega) (by omega)
      by_cases c3 : triA l i j k ∈ A
      · rw [if_neg (by simp [c3]), if_pos cj, if_pos ci, if_pos ck, if_pos ci, if_pos ck, if_pos cj, if_pos c3]
        refine (h2 _ _ (by omega)).trans ?_
        rfl
      · rw [if_pos (by simp [c3]), if_pos (by omega : (A.length + (0 + 1)) * 24 ≤ 140737488355328), if_pos cj, if_pos ci, if_pos ck, if_pos ci, if_pos ck, if_pos cj, if_neg c3]
        refine (h2 _ _ (by omega)).trans ?_
        rfl
theorem dk_val {α : Type} (l : List P3) (hl : l.length ≤ 12) (i j : Nat) (hi : i < l.length) (hj : j < l.length) (k1 : List P3 → List P3 → Option α) : ∀ (fuel k : Nat) (st : St2), k ≤ l.length → l.length - k < fuel → sz2 st + 4 * (l.length - k) < 900000 →
    M.dhull_l1 l (i : Int) (j : Int) k1 fuel (k : Int) st.1 st.2 = k1 (kF l i j (l.length - k) k st).1 (kF l i j (l.length - k) k st).2
  | 0, k, st, h1, h2, h3 => by omega
  | fu + 1, k, st, h1, h2, h3 => by
    unfold M.dhull_l1
    by_cases hk : k < l.length
    · have hs := trip_len l i j k st
      rw [dtri_val l hl i j k hi hj hk _ _ (by unfold sz2 at h3; omega)]
      rw [dk_val l hl i j hi hj k1 fu (k + 1) (trip l i j k (st.1, st.2)) (by omega) (by omega) (by show sz2 (trip l i j k st) + _ < _; omega)]
      have hq : l.length - k = (l.length - (k + 1)) + 1 := by omega
      rw [hq]
      rfl
    · have hk' : k = l.length := by omega
      subst hk'
      unfold M.dhull_l1_step
      rw [cLt_nat, if_neg (by simp), Nat.sub_self]
      simp only [kF]
theorem dj_val {α : Type} (l : List P3) (hl : l.length ≤ 12) (i : Nat) (hi : i < l.length) (kk : List P3 → List P3 → Option α) : ∀ (fuel j : Nat) (st : St2), i < j → j ≤ l.length → l.length - j < fuel → sz2 st + 48 * (l.length - j) < 800000 →
    M.dhull_l2 l (i : Int) kk fuel (j : Int) st.1 st.2 = kk (jF l i (l.length - j) j st).1 (jF l i (l.length - j) j st).2
  | 0, j, st, h0, h1, h2, h3 => by omega
  | fu + 1, j, st, h0, h1, h2, h3 => by
    unfold M.dhull_l2 M.dhull_l2_step
    rw [cLt_nat]
    by_cases hj : j < l.length
    · have hs := kF_len l i j (l.length - (j + 1)) (j + 1) st
      rw [if_pos (by simpa using hj), w_next (by omega)]
      rw [dk_val l hl i j hi hj _ _ (j + 1) st (by omega) (by omega) (by omega)]
      have hq : l.length - j = (l.length - (j + 1)) + 1 := by omega
      rw [hq]
      simp only [jF]
      exact dj_val l hl i hi kk fu (j + 1) (kF l i j (l.length - (j + 1)) (j + 1) st) (by omega) (by omega) (by omega) (by omega)
    · have hj' : j = l.length := by omega
      subst hj'
      rw [if_neg (by simp), Nat.sub_self]
      simp only [jF]
theorem di_val {α : Type} (l : List P3) (hl : l.length ≤ 12) (k1 : List P3 → List P3 → Option α) : ∀ (fuel i : Nat) (st : St2), i ≤ l.length → l.length - i < fuel → sz2 st + 576 * (l.length - i) < 700000 →
    M.dhull_l3 l k1 fuel (i : Int) st.1 st.2 = k1 (iF l (l.length - i) i st).1 (iF l (l.length - i) i st).2
  | 0, i, st, h1, h2, h3 => by omega
  | fu + 1, i, st, h1, h2, h3 => by
    unfold M.dhull_l3 M.dhull_l3_step
    rw [cLt_nat]
    by_cases hi : i < l.length
    · have hs := jF_len l i hl (l.length - (i + 1)) (i + 1) st
      rw [if_pos (by simpa using hi), w_next (by omega)]
      rw [dj_val l hl i hi _ _ (i + 1) st (by omega) (by omega) (by omega) (by omega)]
      have hq : l.length - i = (l.length - (i + 1)) + 1 := by omega
      rw [hq]
      simp only [iF]
      exact di_val l hl k1 fu (i + 1) (jF l i (l.length - (i + 1)) (i + 1) st) (by omega) (by omega) (by omega)
    · have hi' : i = l.length := by omega
      subst hi'
      rw [if_neg (by simp), Nat.sub_self]
      simp only [iF]
noncomputable def _root_.Go.Proofs.Ytkjellhkamfciaa.V.hulG (l : List P3) : Bool := V.gB (l.length ≤ 12)
noncomputable def _root_.Go.Proofs.Ytkjellhkamfciaa.V.hulP (l : List P3) : List P3 × List P3 := hid (facesP l)
theorem dhull_v {α : Type} (l : List P3) (hg : V.hulG l = true) (k0 : List P3 → List P3 → Option α) : M.dhull l k0 = k0 (V.hulP l).1 (V.hulP l).2 := by
  have hl := gB_iff hg
  unfold M.dhull V.hulP
  rw [hid_eq]
  exact di_val l hl k0 _ 0 ([], []) (by omega) (by omega) (by show 0 + 576 * _ < 700000; omega)
noncomputable def dhull_h {α : Type} (ds : List D) (Q : SV → Hp → Option α) : Option α :=
  dL kP ds fun l ds => dE ds (if V.hulG l = true then Q (.tup [.sl 0, .sl 1]) ([.seq (.st (.i .i64) [.i .i64, .i .i64]) (V.hulP l).1 23, .seq (.st (.i .i64) [.i .i64, .i .i64]) (V.hulP l).2 23]) else none)
theorem dhull_h_ok {α : Type} : FnOk E.P 31 (fEnt (α := α) dhull_sp dhull_h) :=
  fEntR_ok E (look_dside_ok) (exec_sound E E_ok (look_dside_ok) (dhull_l3_lps_ok) 400) fun ds Q r h => by
    unfold dhull_h at h
    obtain ⟨l, ds, rfl, h1⟩ := dL_inv h
    obtain ⟨rfl, hE⟩ := dE_inv h1
    split at hE
    · rename_i hg
      exact ⟨_, _, hE, fun vs => ⟨_, _, by kernel_rfl, (dhull_eq l (vs.headD undef) _).trans (dhull_v l hg _)⟩⟩
    · cases hE
noncomputable def look_dhull {α : Type} : LookF α := addFn 31 (fEnt dhull_sp dhull_h) look_dside
theorem look_dhull_ok {α : Type} : LookOk E.P (look_dhull (α := α)) := addFn_ok dhull_h_ok (look_dside_ok)
end Go.Proofs.Ytkjellhkamfciaa.Sx
end

section
/- The document's own numbers: what digits are worth; Of, size, Times. -/
namespace Go.Proofs.Ytkjellhkamfciaa.Sx
open Go
set_option maxRecDepth 20000
set_option linter.unusedVariables false
set_option linter.unusedSimpArgs false
def val : List Int → Int
  | [] => 0
  | d :: ds => d + 16777216 * val ds
def okD : List Int → Bool
  | [] => true
  | d :: ds => (decide (0 ≤ d) && decide (d < 16777216)) && okD ds
def _root_.Go.Proofs.Ytkjellhkamfciaa.V.ok8 (D : List Int) : Bool := D.length == 8 && okD D
theorem okD_cons {d : Int} {ds : List Int} : okD (d :: ds) = true ↔ (0 ≤ d ∧ d < 16777216) ∧ okD ds = true := by simp [okD]
theorem okD_append {l m : List Int} : okD (l ++ m) = true ↔ okD l = true ∧ okD m = true := by
  induction l with
  | nil => simp [okD]
  | cons d l ih => rw [List.cons_append, okD_cons, okD_cons, ih]; exact ⟨fun ⟨a, b, c⟩ => ⟨⟨a, b⟩, c⟩, fun ⟨⟨a, b⟩, c⟩ => ⟨a, b, c⟩⟩
theorem pB (n : Nat) : (0 : Int) < 16777216 ^ n := Int.pow_pos (by decide)
theorem pB1 (n : Nat) : (16777216 : Int) ^ (n + 1) = 16777216 * 16777216 ^ n := by rw [Int.pow_succ, Int.mul_comm]
theorem val_bound : ∀ {D : List Int}, okD D = true → 0 ≤ val D ∧ val D < 16777216 ^ D.length
  | [], _ => by simp [val]
  | d :: ds, h => by
    rw [okD_cons] at h
    have := val_bound h.2
    rw [List.length_cons, pB1]
    unfold val
    omega
theorem val_append : ∀ (l m : List Int), val (l ++ m) = val l + 16777216 ^ l.length * val m
  | [], m => by simp [val]
  | d :: l, m => by
    rw [List.cons_append, val, val, val_append l m, List.length_cons, pB1]; grind
theorem okD_take {D : List Int} (h : okD D = true) (n : Nat) : okD (D.take n) = true := by
  rw [← List.take_append_drop n D, okD_append] at h; exact h.1
theorem okD_drop {D : List Int} (h : okD D = true) (n : Nat) : okD (D.drop n) = true := by
  rw [← List.take_append_drop n D, okD_append] at h; exact h.2
theorem okD_get : ∀ {D : List Int}, okD D = true → ∀ i, 0 ≤ D.getD i 0 ∧ D.getD i 0 < 16777216
  | [], _, i => by simp
  | d :: ds, h, 0 => by rw [okD_cons] at h; simpa using h.1
  | d :: ds, h, i + 1 => by rw [okD_cons] at h; simpa using okD_get h.2 i
/-- A sum's lowest digit and the rest. -/
theorem mod_split (a b M : Int) (hM : 0 < M) : (a + 16777216 * b) % (16777216 * M) = a % 16777216 + 16777216 * ((b + a / 16777216) % M) := by
  have e1 : a + 16777216 * b = (a % 16777216 + 16777216 * ((b + a / 16777216) % M)) + 16777216 * M * ((b + a / 16777216) / M) := by
    have h1 : 16777216 * (a / 16777216) + a % 16777216 = a := Int.mul_ediv_add_emod a 16777216
    have h2 : M * ((b + a / 16777216) / M) + (b + a / 16777216) % M = b + a / 16777216 := Int.mul_ediv_add_emod _ M
    grind
  rw [e1, Int.add_mul_emod_self_left]
  apply Int.emod_eq_of_lt
  · have := Int.emod_nonneg (b + a / 16777216) (show M ≠ 0 by omega)
    omega
  · have := Int.emod_lt_of_pos (b + a / 16777216) hM
    have h3 : 16777216 * ((b + a / 16777216) % M + 1) ≤ 16777216 * M := by omega
    omega
theorem take_set_succ {o : List Int} {i : Nat} (x : Int) (h : i < o.length) : (o.set i x).take (i + 1) = o.take i ++ [x] := by
  rw [List.take_add_one]
  simp [h, List.take_set_of_le]
theorem drop_set_succ {o : List Int} {i : Nat} (x : Int) : (o.set i x).drop (i + 1) = o.drop (i + 1) := by
  rw [List.drop_set_of_lt (by omega)]
/-! Of. -/
noncomputable def _root_.Go.Proofs.Ytkjellhkamfciaa.M.of_l0_step {α : Type} (kn : Int → Int → List Int → Option α) (k1 : List Int → Option α) (x6 : Int) (x7 : Int) (x11 : List Int) : Option α :=
  if cLt x7 (8 : Int) = true then if (0 : Int) ≤ x7 ∧ x7 < (8 : Int) then kn (IntKind.wrap IntKind.u64 (Int.tdiv x6 (16777216 : Int))) (IntKind.wrap .i64 (x7 + (1 : Int))) (List.set x11 (Int.toNat x7) (IntKind.wrap .i64 (Int.tmod x6 (16777216 : Int)))) else none else k1 x11
noncomputable def _root_.Go.Proofs.Ytkjellhkamfciaa.M.of_l0 {α : Type} (k1 : List Int → Option α) : Nat → Int → Int → List Int → Option α
  | 0, _, _, _ => none
  | n + 1, x6, x7, x11 => M.of_l0_step (M.of_l0 k1 n) k1 x6 x7 x11
theorem of_l0_step_eq {α : Type} (x6 : Int) (x7 : Int) (x8 : Bool) (x9 : List Int) (x10 : Bool) (x11 : List Int) (Q : Ex → St → Option α) : (loopStep E (exec E look_div64 noLps 400) 75 [false, true, false, true, true, true, true, true] 0 (codeAt E.P 75 [false, true, false, true, true, true, true, true])) (St.mk (none :: none :: some (SV.ptr (nat_lit 0) (nat_lit 0)) :: some (SV.ptr (nat_lit 1) (nat_lit 0)) :: some (SV.int IntKind.u64 x6) :: some (SV.int .i64 x7) :: nn 22 ([])) [.cells [SV.bool x8, SV.arr (K.int IntKind.i64) x9 (nat_lit 8)] (nat_lit 96), .cells [SV.bool x10, SV.arr (K.int IntKind.i64) x11 (nat_lit 8)] (nat_lit 96)]) Q = M.of_l0_step (fun (x13 : Int) (x14 : Int) (x15 : List Int) => Q .normal (St.mk (none :: none :: some (SV.ptr (nat_lit 0) (nat_lit 0)) :: some (SV.ptr (nat_lit 1) (nat_lit 0)) :: some (SV.int IntKind.u64 x13) :: some (SV.int .i64 x14) :: nn 22 ([])) [.cells [SV.bool x8, SV.arr (K.int IntKind.i64) x9 (nat_lit 8)] (nat_lit 96), .cells [SV.bool x10, SV.arr (K.int IntKind.i64) x15 (nat_lit 8)] (nat_lit 96)])) (fun (x12 : List Int) => Q (.exit 0) (St.mk (none :: none :: some (SV.ptr (nat_lit 0) (nat_lit 0)) :: some (SV.ptr (nat_lit 1) (nat_lit 0)) :: nn 24 ([])) [.cells [SV.bool x8, SV.arr (K.int IntKind.i64) x9 (nat_lit 8)] (nat_lit 96), .cells [SV.bool x10, SV.arr (K.int IntKind.i64) x12 (nat_lit 8)] (nat_lit 96)])) x6 x7 x11 := by kernel_rfl
theorem of_l0_iter {α : Type} (x8 : Bool) (x9 : List Int) (x10 : Bool) (Q : Ex → St → Option α) : ∀ (n : Nat) (x6 : Int) (x7 : Int) (x11 : List Int), iter (loopStep E (exec E look_div64 noLps 400) 75 [false, true, false, true, true, true, true, true] 0 (codeAt E.P 75 [false, true, false, true, true, true, true, true])) n (St.mk (none :: none :: some (SV.ptr (nat_lit 0) (nat_lit 0)) :: some (SV.ptr (nat_lit 1) (nat_lit 0)) :: some (SV.int IntKind.u64 x6) :: some (SV.int .i64 x7) :: nn 22 ([])) [.cells [SV.bool x8, SV.arr (K.int IntKind.i64) x9 (nat_lit 8)] (nat_lit 96), .cells [SV.bool x10, SV.arr (K.int IntKind.i64) x11 (nat_lit 8)] (nat_lit 96)]) Q = M.of_l0 (fun (x12 : List Int) => Q (.exit 0) (St.mk (none :: none :: some (SV.ptr (nat_lit 0) (nat_lit 0)) :: some (SV.ptr (nat_lit 1) (nat_lit 0)) :: nn 24 ([])) [.cells [SV.bool x8, SV.arr (K.int IntKind.i64) x9 (nat_lit 8)] (nat_lit 96), .cells [SV.bool x10, SV.arr (K.int IntKind.i64) x12 (nat_lit 8)] (nat_lit 96)])) n x6 x7 x11
  | 0, _, _, _ => rfl
  | n + 1, x6, x7, x11 => (of_l0_step_eq x6 x7 x8 x9 x10 x11 (iterK (loopStep E (exec E look_div64 noLps 400) 75 [false, true, false, true, true, true, true, true] 0 (codeAt E.P 75 [false, true, false, true, true, true, true, true])) n Q)).trans (congrArg (fun kn => M.of_l0_step kn (fun (x12 : List Int) => Q (.exit 0) (St.mk (none :: none :: some (SV.ptr (nat_lit 0) (nat_lit 0)) :: some (SV.ptr (nat_lit 1) (nat_lit 0)) :: nn 24 ([])) [.cells [SV.bool x8, SV.arr (K.int IntKind.i64) x9 (nat_lit 8)] (nat_lit 96), .cells [SV.bool x10, SV.arr (K.int IntKind.i64) x12 (nat_lit 8)] (nat_lit 96)])) x6 x7 x11) (funext fun x6 => funext fun x7 => funext fun x11 => of_l0_iter x8 x9 x10 Q n x6 x7 x11))
noncomputable def of_l0_go {α : Type} (ds : List D) (Q : Ex → St → Option α) : Option α :=
  dI ds fun x6 ds => dI ds fun x7 ds => dB ds fun x8 ds => dL (K.int IntKind.i64) ds fun x9 ds => dB ds fun x10 ds => dL (K.int IntKind.i64) ds fun x11 ds => dE ds (M.of_l0 (fun (x12 : List Int) => Q (.exit 0) (St.mk (none :: none :: some (SV.ptr (nat_lit 0) (nat_lit 0)) :: some (SV.ptr (nat_lit 1) (nat_lit 0)) :: nn 24 ([])) [.cells [SV.bool x8, SV.arr (K.int IntKind.i64) x9 (nat_lit 8)] (nat_lit 96), .cells [SV.bool x10, SV.arr (K.int IntKind.i64) x12 (nat_lit 8)] (nat_lit 96)])) (100 + x9.length + x11.length) x6 x7 x11)
theorem of_l0_ok {α : Type} : LoopOk E.P 75 [false, true, false, true, true, true, true, true] 0 (lEnt (α := α) (St.mk (none :: none :: some (SV.ptr (nat_lit 0) (nat_lit 0)) :: some (SV.ptr (nat_lit 1) (nat_lit 0)) :: some (SV.int IntKind.u64 (0 : Int)) :: some (SV.int .i64 (0 : Int)) :: nn 22 ([])) [.cells [SV.bool false, SV.arr (K.int IntKind.i64) [] (nat_lit 8)] (nat_lit 96), .cells [SV.bool false, SV.arr (K.int IntKind.i64) [] (nat_lit 8)] (nat_lit 96)]) of_l0_go) :=
  lEnt_ok E (exec_sound E E_ok (look_div64_ok) (noLps_ok _) 400) fun ds Q r h S hS => by
    unfold of_l0_go at h
    obtain ⟨x6, ds, rfl, h1⟩ := dI_inv h
    obtain ⟨x7, ds, rfl, h2⟩ := dI_inv h1
    obtain ⟨x8, ds, rfl, h3⟩ := dB_inv h2
    obtain ⟨x9, ds, rfl, h4⟩ := dL_inv h3
    obtain ⟨x10, ds, rfl, h5⟩ := dB_inv h4
    obtain ⟨x11, ds, rfl, h6⟩ := dL_inv h5
    obtain ⟨rfl, hE⟩ := dE_inv h6
    have e : fillS (St.mk (none :: none :: some (SV.ptr (nat_lit 0) (nat_lit 0)) :: some (SV.ptr (nat_lit 1) (nat_lit 0)) :: some (SV.int IntKind.u64 (0 : Int)) :: some (SV.int .i64 (0 : Int)) :: nn 22 ([])) [.cells [SV.bool false, SV.arr (K.int IntKind.i64) [] (nat_lit 8)] (nat_lit 96), .cells [SV.bool false, SV.arr (K.int IntKind.i64) [] (nat_lit 8)] (nat_lit 96)]) [.i x6, .i x7, .b x8, .l (K.int IntKind.i64) x9, .b x10, .l (K.int IntKind.i64) x11] = some (St.mk (none :: none :: some (SV.ptr (nat_lit 0) (nat_lit 0)) :: some (SV.ptr (nat_lit 1) (nat_lit 0)) :: some (SV.int IntKind.u64 x6) :: some (SV.int .i64 x7) :: nn 22 ([])) [.cells [SV.bool x8, SV.arr (K.int IntKind.i64) x9 (nat_lit 8)] (nat_lit 96), .cells [SV.bool x10, SV.arr (K.int IntKind.i64) x11 (nat_lit 8)] (nat_lit 96)]) := by kernel_rfl
    rw [e] at hS
    cases hS
    exact ⟨_, (of_l0_iter x8 x9 x10 Q _ x6 x7 x11).trans hE⟩
noncomputable def of_l0_lps {α : Type} : LookL α := addLp 75 [false, true, false, true, true, true, true, true] 0 (lEnt (St.mk (none :: none :: some (SV.ptr (nat_lit 0) (nat_lit 0)) :: some (SV.ptr (nat_lit 1) (nat_lit 0)) :: some (SV.int IntKind.u64 (0 : Int)) :: some (SV.int .i64 (0 : Int)) :: nn 22 ([])) [.cells [SV.bool false, SV.arr (K.int IntKind.i64) [] (nat_lit 8)] (nat_lit 96), .cells [SV.bool false, SV.arr (K.int IntKind.i64) [] (nat_lit 8)] (nat_lit 96)]) of_l0_go) noLps
theorem of_l0_lps_ok {α : Type} : LoopsOk E.P (of_l0_lps (α := α)) := addLp_ok of_l0_ok (noLps_ok _)

noncomputable def _root_.Go.Proofs.Ytkjellhkamfciaa.M.of {α : Type} (n : Int) (k0 : Bool → List Int → Option α) : Option α :=
  if cLt n (0 : Int) = true then M.of_l0 (fun (x16 : List Int) ↦ k0 (cLt n (0 : Int)) x16) (116 : Nat) (IntKind.wrap IntKind.u64 ((0 : Int) - IntKind.wrap IntKind.u64 n)) (0 : Int) (List.replicate (8 : Nat) (0 : Int)) else M.of_l0 (fun (x17 : List Int) ↦ k0 (cLt n (0 : Int)) x17) (116 : Nat) (IntKind.wrap IntKind.u64 n) (0 : Int) (List.replicate (8 : Nat) (0 : Int))
theorem of_eq {α : Type} (n : Int) (Q : SV → Hp → Option α) : callI E look_div64 (exec E look_div64 of_l0_lps 400) 75 ([SV.int .i64 n]) ([]) Q = M.of n (fun (x18 : Bool) (x19 : List Int) => Q (SV.agg [SV.bool x18, SV.arr (K.int IntKind.i64) x19 (nat_lit 8)]) ([])) := by kernel_rfl
def of_sp : List AS := [.val (.int .i64 0)]
noncomputable def of_go {α : Type} (ds : List D) (Q : SV → Hp → Option α) : Option α :=
  dI ds fun n ds => dE ds (M.of n (fun (x18 : Bool) (x19 : List Int) => Q (SV.agg [SV.bool x18, SV.arr (K.int IntKind.i64) x19 (nat_lit 8)]) ([])))
theorem of_ok {α : Type} : FnOk E.P 75 (fEnt (α := α) of_sp of_go) :=
  fEnt_ok E (look_div64_ok) (exec_sound E E_ok (look_div64_ok) (of_l0_lps_ok) 400) fun ds Q r h => by
    unfold of_go at h
    obtain ⟨n, ds, rfl, h1⟩ := dI_inv h
    obtain ⟨rfl, hE⟩ := dE_inv h1
    exact ⟨[SV.int .i64 n], [], fun vs => by kernel_rfl, (of_eq n Q).trans hE⟩
def ofD : Nat → Int → List Int
  | 0, _ => []
  | k + 1, u => u % 16777216 :: ofD k (u / 16777216)
theorem ofD_len : ∀ (k : Nat) (u : Int), (ofD k u).length = k
  | 0, _ => rfl
  | k + 1, u => by simp [ofD, ofD_len k]
theorem ofD_ok : ∀ (k : Nat) (u : Int), okD (ofD k u) = true
  | 0, _ => rfl
  | k + 1, u => by rw [ofD, okD_cons]; exact ⟨by omega, ofD_ok k _⟩
theorem ofD_val : ∀ (k : Nat) (u : Int), val (ofD k u) = u % 16777216 ^ k
  | 0, u => by simp [ofD, val]
  | k + 1, u => by
    rw [ofD, val, ofD_val k, pB1]
    have := mod_split u 0 (16777216 ^ k) (pB k)
    simp only [Int.mul_zero, Int.add_zero, Int.zero_add] at this
    rw [this]
theorem of_l0_val {α : Type} (k1 : List Int → Option α) : ∀ (fuel i : Nat) (u : Int) (o : List Int), i ≤ 8 → 8 - i < fuel → o.length = 8 → 0 ≤ u → u < 18446744073709551616 →
    M.of_l0 k1 fuel u (i : Int) o = k1 (o.take i ++ ofD (8 - i) u)
  | 0, i, u, o, h1, h2, _, _, _ => by omega
  | n + 1, i, u, o, h1, h2, ho, hu0, hu1 => by
    unfold M.of_l0 M.of_l0_step
    rw [cLt_eq]
    by_cases hi : i < 8
    · have c1 : (i : Int) < 8 := by omega
      have c2 : (0 : Int) ≤ (i : Int) := by omega
      simp only [c1, c2, decide_true, if_true, and_self]
      rw [Int.tdiv_eq_ediv_of_nonneg hu0, Int.tmod_eq_emod_of_nonneg hu0, u64_in' (by omega) (by omega), IntWalk.i64_in ((i : Int) + 1) (by omega), IntWalk.i64_in (u % 16777216) (by omega)]
      have := of_l0_val k1 n (i + 1) (u / 16777216) (o.set i (u % 16777216)) (by omega) (by omega) (by simpa using ho) (by omega) (by omega)
      push_cast at this
      rw [Int.toNat_natCast, this, take_set_succ _ (by omega)]
      rw [show 8 - i = (7 - i) + 1 by omega, ofD, List.append_assoc, List.singleton_append]
    · have : i = 8 := by omega
      subst this
      have e : ¬ ((8 : Nat) : Int) < 8 := by omega
      simp only [e, decide_false, Bool.false_eq_true, if_false, Nat.sub_self, ofD, List.append_nil]
      rw [List.take_of_length_le (by omega)]
/-- The digits of a number's size. -/
def _root_.Go.Proofs.Ytkjellhkamfciaa.V.ofN (n : Int) : List Int := ofD 8 (if n < 0 then -n else n)
theorem of_v {α : Type} (n : Int) (h : -9223372036854775808 ≤ n ∧ n < 9223372036854775808) (k0 : Bool → List Int → Option α) : M.of n k0 = k0 (decide (n < 0)) (V.ofN n) := by
  unfold M.of V.ofN
  rw [cLt_eq]
  have len : (List.replicate 8 (0 : Int)).length = 8 := rfl
  by_cases hn : n < 0
  · have e : IntKind.wrap .u64 (0 - IntKind.wrap .u64 n) = -n := by simp only [IntKind.wrap_u64]; omega
    simp only [hn, decide_true, if_true]
    have := of_l0_val (fun x => k0 true x) 116 0 (-n) (List.replicate 8 0) (by omega) (by omega) len (by omega) (by omega)
    rw [Int.natCast_zero] at this
    rw [e, this]; rfl
  · have e : IntKind.wrap .u64 n = n := u64_in' (by omega) (by omega)
    simp only [hn, decide_false, Bool.false_eq_true, if_false]
    have := of_l0_val (fun x => k0 false x) 116 0 n (List.replicate 8 0) (by omega) (by omega) len (by omega) (by omega)
    rw [Int.natCast_zero] at this
    rw [e, this]; rfl
theorem ofN_ok (n : Int) : V.ok8 (V.ofN n) = true := by unfold V.ok8 V.ofN; rw [ofD_len, ofD_ok]; rfl
theorem ofN_val {n : Int} (h : -9223372036854775808 ≤ n ∧ n < 9223372036854775808) : val (V.ofN n) = if n < 0 then -n else n := by
  unfold V.ofN
  rw [ofD_val]
  have e : (16777216 : Int) ^ 8 = 6277101735386680763835789423207666416102355444464034512896 := by kernel_rfl
  rw [e]
  split <;> omega
noncomputable def of_h {α : Type} (ds : List D) (Q : SV → Hp → Option α) : Option α :=
  dI ds fun n ds => dE ds (if -9223372036854775808 ≤ n ∧ n < 9223372036854775808 then Q (.agg [.bool (decide (n < 0)), .arr (.int .i64) (V.ofN n) 8]) ([]) else none)
theorem of_h_ok {α : Type} : FnOk E.P 75 (fEnt (α := α) of_sp of_h) :=
  fEnt_ok E (look_div64_ok) (exec_sound E E_ok (look_div64_ok) (of_l0_lps_ok) 400) fun ds Q r h => by
    unfold of_h at h
    obtain ⟨n, ds, rfl, h1⟩ := dI_inv h
    obtain ⟨rfl, hE⟩ := dE_inv h1
    split at hE
    · rename_i hg
      exact ⟨[SV.int .i64 n], [], fun vs => by kernel_rfl, (of_eq n Q).trans ((of_v n hg _).trans hE)⟩
    · cases hE
noncomputable def look_of {α : Type} : LookF α := addFn 75 (fEnt of_sp of_h) look_div64
theorem look_of_ok {α : Type} : LookOk E.P (look_of (α := α)) := addFn_ok of_h_ok (look_div64_ok)
/-! size. -/
theorem val_take_succ {D : List Int} {m : Nat} (h : m < D.length) : val (D.take (m + 1)) = val (D.take m) + 16777216 ^ m * D.getD m 0 := by
  rw [List.take_add_one, val_append]
  simp [h, val, List.length_take, Nat.min_eq_left (Nat.le_of_lt h), List.getD_eq_getElem?_getD]
def _root_.Go.Proofs.Ytkjellhkamfciaa.V.cmp (x y : Int) : Int := if x < y then -1 else if y < x then 1 else 0
noncomputable def _root_.Go.Proofs.Ytkjellhkamfciaa.V.szD (a b : List Int) : Int := V.cmp (val a) (val b)
theorem ok8_iff {D : List Int} : V.ok8 D = true ↔ D.length = 8 ∧ okD D = true := by simp [V.ok8]
end Go.Proofs.Ytkjellhkamfciaa.Sx
end

section
/- The document's own numbers: Plus. -/
namespace Go.Proofs.Ytkjellhkamfciaa.Sx
open Go
set_option linter.unusedVariables false
set_option linter.unusedSimpArgs false
/-- Digit by digit: xs and m times ys and c. -/
def linL (m : Int) : List Int → List Int → Int → List Int
  | x :: xs, y :: ys, c => (x + m * y + c) % 16777216 :: linL m xs ys ((x + m * y + c) / 16777216)
  | _, _, _ => []
theorem linL_len (m : Int) : ∀ (xs ys : List Int) (c : Int), xs.length ≤ ys.length → (linL m xs ys c).length = xs.length
  | [], ys, c, _ => by simp [linL]
  | x :: xs, [], c, h => by simp at h
  | x :: xs, y :: ys, c, h => by simp only [linL, List.length_cons]; rw [linL_len m xs ys _ (by simpa using h)]
theorem linL_ok (m : Int) : ∀ (xs ys : List Int) (c : Int), okD (linL m xs ys c) = true
  | [], ys, c => by simp [linL, okD]
  | x :: xs, [], c => by simp [linL, okD]
  | x :: xs, y :: ys, c => by rw [linL, okD_cons]; exact ⟨by omega, linL_ok m xs ys _⟩
theorem linL_val (m : Int) : ∀ (xs ys : List Int) (c : Int), xs.length ≤ ys.length → val (linL m xs ys c) = (val xs + m * val ys + c) % 16777216 ^ xs.length
  | [], ys, c, _ => by simp [linL, val, Int.emod_one]
  | x :: xs, [], c, h => by simp at h
  | x :: xs, y :: ys, c, h => by
    rw [linL, val, linL_val m xs ys _ (by simpa using h), List.length_cons, pB1, ← mod_split _ _ _ (pB _)]
    congr 1
    simp only [val]
    grind
theorem drop_getD {a : List Int} {i : Nat} (h : i < a.length) : a.drop i = a.getD i 0 :: a.drop (i + 1) := by
  rw [List.drop_eq_getElem_cons h]; simp [List.getD_eq_getElem?_getD, h]
theorem linL_drop (m : Int) {a b : List Int} {i : Nat} (h1 : i < a.length) (h2 : i < b.length) (c : Int) :
    linL m (a.drop i) (b.drop i) c = (a.getD i 0 + m * b.getD i 0 + c) % 16777216 :: linL m (a.drop (i + 1)) (b.drop (i + 1)) ((a.getD i 0 + m * b.getD i 0 + c) / 16777216) := by
  rw [drop_getD h1, drop_getD h2, linL]
/-- A sum's sign and digits. -/
noncomputable def _root_.Go.Proofs.Ytkjellhkamfciaa.V.plN (an : Bool) (a : List Int) (bn : Bool) (b : List Int) : Bool := if an == bn then an else if val a < val b then bn else an
noncomputable def _root_.Go.Proofs.Ytkjellhkamfciaa.V.plD (an : Bool) (a : List Int) (bn : Bool) (b : List Int) : List Int := if an == bn then linL 1 a b 0 else if val a < val b then linL (-1) b a 0 else linL (-1) a b 0
/-- What a number of the document is worth. -/
def wv (n : Bool) (D : List Int) : Int := if n then -val D else val D
theorem plD_ok (an : Bool) {a : List Int} (bn : Bool) {b : List Int} (ha : V.ok8 a = true) (hb : V.ok8 b = true) : V.ok8 (V.plD an a bn b) = true := by
  rw [ok8_iff] at ha hb ⊢
  unfold V.plD
  split
  · exact ⟨by rw [linL_len _ _ _ _ (by omega)]; exact ha.1, linL_ok _ _ _ _⟩
  · split
    · exact ⟨by rw [linL_len _ _ _ _ (by omega)]; exact hb.1, linL_ok _ _ _ _⟩
    · exact ⟨by rw [linL_len _ _ _ _ (by omega)]; exact ha.1, linL_ok _ _ _ _⟩
theorem p8 : (16777216 : Int) ^ 8 = 6277101735386680763835789423207666416102355444464034512896 := by kernel_rfl
theorem pl_val (an : Bool) {a : List Int} (bn : Bool) {b : List Int} (ha : V.ok8 a = true) (hb : V.ok8 b = true) (h1 : val a + val b < 6277101735386680763835789423207666416102355444464034512896) :
    wv (V.plN an a bn b) (V.plD an a bn b) = wv an a + wv bn b ∧ val (V.plD an a bn b) ≤ val a + val b := by
  rw [ok8_iff] at ha hb
  have va := val_bound ha.2
  have vb := val_bound hb.2
  unfold V.plN V.plD wv
  cases hs : (an == bn) with
  | true =>
    have : an = bn := by simpa using hs
    subst this
    simp only [if_true]
    rw [linL_val 1 a b 0 (by omega), ha.1, p8, Int.one_mul, Int.add_zero, Int.emod_eq_of_lt (by omega) h1]
    cases an <;> simp <;> omega
  | false =>
    have hne : an = !bn := by cases an <;> cases bn <;> simp_all
    subst hne
    simp only [Bool.false_eq_true, if_false]
    by_cases h : val a < val b
    · simp only [h, if_true]
      rw [linL_val (-1) b a 0 (by omega), hb.1, p8, Int.emod_eq_of_lt (by omega) (by omega)]
      cases bn <;> simp <;> omega
    · simp only [h, if_false]
      rw [linL_val (-1) a b 0 (by omega), ha.1, p8, Int.emod_eq_of_lt (by omega) (by omega)]
      cases bn <;> simp <;> omega
end Go.Proofs.Ytkjellhkamfciaa.Sx
end

section
/- The document's own numbers: Times. -/
namespace Go.Proofs.Ytkjellhkamfciaa.Sx
open Go
set_option maxRecDepth 20000
set_option linter.unusedVariables false
set_option linter.unusedSimpArgs false
noncomputable def _root_.Go.Proofs.Ytkjellhkamfciaa.M.rtimes_l0_step {α : Type} (x29 : Int) (x33 : List Int) (x35 : List Int) (kn : Int → Int → List Int → Option α) (k1 : List Int → Option α) (x30 : Int) (x31 : Int) (x39 : List Int) : Option α :=
  if cLt (IntKind.wrap .i64 (x29 + x31)) (8 : Int) = true then
  if (0 : Int) ≤ IntKind.wrap .i64 (x29 + x31) ∧ IntKind.wrap .i64 (x29 + x31) < (8 : Int) then
    if (0 : Int) ≤ x29 ∧ x29 < (8 : Int) then
      if (0 : Int) ≤ x31 ∧ x31 < (8 : Int) then
        if (0 : Int) ≤ IntKind.wrap .i64 (x29 + x31) ∧ IntKind.wrap .i64 (x29 + x31) < (8 : Int) then
          kn (IntKind.wrap .i64 (Int.tdiv (IntKind.wrap .i64 (IntKind.wrap .i64 (List.getD x39 (Int.toNat (IntKind.wrap .i64 (x29 + x31))) (0 : Int) + IntKind.wrap .i64 (List.getD x33 (Int.toNat x29) (0 : Int) * List.getD x35 (Int.toNat x31) (0 : Int))) + x30)) (16777216 : Int))) (IntKind.wrap .i64 (x31 + (1 : Int)))
            (List.set x39 (Int.toNat (IntKind.wrap .i64 (x29 + x31))) (Int.tmod (IntKind.wrap .i64 (IntKind.wrap .i64 (List.getD x39 (Int.toNat (IntKind.wrap .i64 (x29 + x31))) (0 : Int) + IntKind.wrap .i64 (List.getD x33 (Int.toNat x29) (0 : Int) * List.getD x35 (Int.toNat x31) (0 : Int))) + x30)) (16777216 : Int)))
        else none
      else none
    else none
  else none
else k1 x39
noncomputable def _root_.Go.Proofs.Ytkjellhkamfciaa.M.rtimes_l0 {α : Type} (x29 : Int) (x33 : List Int) (x35 : List Int) (k1 : List Int → Option α) : Nat → Int → Int → List Int → Option α
  | 0, _, _, _ => none
  | n + 1, x30, x31, x39 => M.rtimes_l0_step x29 x33 x35 (M.rtimes_l0 x29 x33 x35 k1 n) k1 x30 x31 x39
theorem rtimes_l0_step_eq {α : Type} (x29 : Int) (x30 : Int) (x31 : Int) (x32 : Bool) (x33 : List Int) (x34 : Bool) (x35 : List Int) (x36 : Bool) (x37 : List Int) (x38 : Bool) (x39 : List Int) (Q : Ex → St → Option α) : (loopStep E (exec E look_of noLps 400) 74 [false, true, true, true, false, false, true, false, false, true, false, true, true] 0 (codeAt E.P 74 [false, true, true, true, false, false, true, false, false, true, false, true, true])) (St.mk (none :: none :: some (SV.ptr (nat_lit 0) (nat_lit 0)) :: some (SV.ptr (nat_lit 1) (nat_lit 0)) :: some (SV.ptr (nat_lit 2) (nat_lit 0)) :: some (SV.ptr (nat_lit 3) (nat_lit 0)) :: some (SV.int .i64 x29) :: some (SV.int .i64 x30) :: some (SV.int .i64 x31) :: nn 50 ([]))
  [.cells [SV.bool x32, SV.arr (K.int IntKind.i64) x33 (nat_lit 8)] (nat_lit 96), .cells [SV.bool x34, SV.arr (K.int IntKind.i64) x35 (nat_lit 8)] (nat_lit 96), .cells [SV.bool x36, SV.arr (K.int IntKind.i64) x37 (nat_lit 8)] (nat_lit 96), .cells [SV.bool x38, SV.arr (K.int IntKind.i64) x39 (nat_lit 8)] (nat_lit 96)]) Q = M.rtimes_l0_step x29 x33 x35 (fun (x41 : Int) (x42 : Int) (x43 : List Int) => Q .normal (St.mk (none :: none :: some (SV.ptr (nat_lit 0) (nat_lit 0)) :: some (SV.ptr (nat_lit 1) (nat_lit 0)) :: some (SV.ptr (nat_lit 2) (nat_lit 0)) :: some (SV.ptr (nat_lit 3) (nat_lit 0)) :: some (SV.int .i64 x29) :: some (SV.int .i64 x41) :: some (SV.int .i64 x42) :: nn 50 ([]))
  [.cells [SV.bool x32, SV.arr (K.int IntKind.i64) x33 (nat_lit 8)] (nat_lit 96), .cells [SV.bool x34, SV.arr (K.int IntKind.i64) x35 (nat_lit 8)] (nat_lit 96), .cells [SV.bool x36, SV.arr (K.int IntKind.i64) x37 (nat_lit 8)] (nat_lit 96), .cells [SV.bool x38, SV.arr (K.int IntKind.i64) x43 (nat_lit 8)] (nat_lit 96)])) (fun (x40 : List Int) => Q (.exit 2) (St.mk (none :: none :: some (SV.ptr (nat_lit 0) (nat_lit 0)) :: some (SV.ptr (nat_lit 1) (nat_lit 0)) :: some (SV.ptr (nat_lit 2) (nat_lit 0)) :: some (SV.ptr (nat_lit 3) (nat_lit 0)) :: some (SV.int .i64 x29) :: nn 52 ([]))
  [.cells [SV.bool x32, SV.arr (K.int IntKind.i64) x33 (nat_lit 8)] (nat_lit 96), .cells [SV.bool x34, SV.arr (K.int IntKind.i64) x35 (nat_lit 8)] (nat_lit 96), .cells [SV.bool x36, SV.arr (K.int IntKind.i64) x37 (nat_lit 8)] (nat_lit 96), .cells [SV.bool x38, SV.arr (K.int IntKind.i64) x40 (nat_lit 8)] (nat_lit 96)])) x30 x31 x39 := by kernel_rfl
theorem rtimes_l0_iter {α : Type} (x29 : Int) (x32 : Bool) (x33 : List Int) (x34 : Bool) (x35 : List Int) (x36 : Bool) (x37 : List Int) (x38 : Bool) (Q : Ex → St → Option α) : ∀ (n : Nat) (x30 : Int) (x31 : Int) (x39 : List Int), iter (loopStep E (exec E look_of noLps 400) 74 [false, true, true, true, false, false, true, false, false, true, false, true, true] 0 (codeAt E.P 74 [false, true, true, true, false, false, true, false, false, true, false, true, true])) n (St.mk (none :: none :: some (SV.ptr (nat_lit 0) (nat_lit 0)) :: some (SV.ptr (nat_lit 1) (nat_lit 0)) :: some (SV.ptr (nat_lit 2) (nat_lit 0)) :: some (SV.ptr (nat_lit 3) (nat_lit 0)) :: some (SV.int .i64 x29) :: some (SV.int .i64 x30) :: some (SV.int .i64 x31) :: nn 50 ([]))
  [.cells [SV.bool x32, SV.arr (K.int IntKind.i64) x33 (nat_lit 8)] (nat_lit 96), .cells [SV.bool x34, SV.arr (K.int IntKind.i64) x35 (nat_lit 8)] (nat_lit 96), .cells [SV.bool x36, SV.arr (K.int IntKind.i64) x37 (nat_lit 8)] (nat_lit 96), .cells [SV.bool x38, SV.arr (K.int IntKind.i64) x39 (nat_lit 8)] (nat_lit 96)]) Q = M.rtimes_l0 x29 x33 x35 (fun (x40 : List Int) => Q (.exit 2) (St.mk (none :: none :: some (SV.ptr (nat_lit 0) (nat_lit 0)) :: some (SV.ptr (nat_lit 1) (nat_lit 0)) :: some (SV.ptr (nat_lit 2) (nat_lit 0)) :: some (SV.ptr (nat_lit 3) (nat_lit 0)) :: some (SV.int .i64 x29) :: nn 52 ([]))
  [.cells [SV.bool x32, SV.arr (K.int IntKind.i64) x33 (nat_lit 8)] (nat_lit 96), .cells [SV.bool x34, SV.arr (K.int IntKind.i64) x35 (nat_lit 8)] (nat_lit 96), .cells [SV.bool x36, SV.arr (K.int IntKind.i64) x37 (nat_lit 8)] (nat_lit 96), .cells [SV.bool x38, SV.arr (K.int IntKind.i64) x40 (nat_lit 8)] (nat_lit 96)])) n x30 x31 x39
  | 0, _, _, _ => rfl
  | n + 1, x30, x31, x39 => (rtimes_l0_step_eq x29 x30 x31 x32 x33 x34 x35 x36 x37 x38 x39 (iterK (loopStep E (exec E look_of noLps 400) 74 [false, true, true, true, false, false, true, false, false, true, false, true, true] 0 (codeAt E.P 74 [false, true, true, true, false, false, true, false, false, true, false, true, true])) n Q)).trans (congrArg (fun kn => M.rtimes_l0_step x29 x33 x35 kn (fun (x40 : List Int) => Q (.exit 2) (St.mk (none :: none :: some (SV.ptr (nat_lit 0) (nat_lit 0)) :: some (SV.ptr (nat_lit 1) (nat_lit 0)) :: some (SV.ptr (nat_lit 2) (nat_lit 0)) :: some (SV.ptr (nat_lit 3) (nat_lit 0)) :: some (SV.int .i64 x29) :: nn 52 ([]))
  [.cells [SV.bool x32, SV.arr (K.int IntKind.i64) x33 (nat_lit 8)] (nat_lit 96), .cells [SV.bool x34, SV.arr (K.int IntKind.i64) x35 (nat_lit 8)] (nat_lit 96), .cells [SV.bool x36, SV.arr (K.int IntKind.i64) x37 (nat_lit 8)] (nat_lit 96), .cells [SV.bool x38, SV.arr (K.int IntKind.i64) x40 (nat_lit 8)] (nat_lit 96)])) x30 x31 x39) (funext fun x30 => funext fun x31 => funext fun x39 => rtimes_l0_iter x29 x32 x33 x34 x35 x36 x37 x38 Q n x30 x31 x39))
noncomputable def rtimes_l0_go {α : Type} (ds : List D) (Q : Ex → St → Option α) : Option α :=
  dI ds fun x29 ds => dI ds fun x30 ds => dI ds fun x31 ds => dB ds fun x32 ds => dL (K.int IntKind.i64) ds fun x33 ds => dB ds fun x34 ds => dL (K.int IntKind.i64) ds fun x35 ds => dB ds fun x36 ds => dL (K.int IntKind.i64) ds fun x37 ds => dB ds fun x38 ds => dL (K.int IntKind.i64) ds fun x39 ds => dE ds (M.rtimes_l0 x29 x33 x35 (fun (x40 : List Int) => Q (.exit 2) (St.mk (none :: none :: some (SV.ptr (nat_lit 0) (nat_lit 0)) :: some (SV.ptr (nat_lit 1) (nat_lit 0)) :: some (SV.ptr (nat_lit 2) (nat_lit 0)) :: some (SV.ptr (nat_lit 3) (nat_lit 0)) :: some (SV.int .i64 x29) :: nn 52 ([]))
  [.cells [SV.bool x32, SV.arr (K.int IntKind.i64) x33 (nat_lit 8)] (nat_lit 96), .cells [SV.bool x34, SV.arr (K.int IntKind.i64) x35 (nat_lit 8)] (nat_lit 96), .cells [SV.bool x36, SV.arr (K.int IntKind.i64) x37 (nat_lit 8)] (nat_lit 96), .cells [SV.bool x38, SV.arr (K.int IntKind.i64) x40 (nat_lit 8)] (nat_lit 96)])) (100 + x33.length + x35.length + x37.length + x39.length) x30 x31 x39)
theorem rtimes_l0_ok {α : Type} : LoopOk E.P 74 [false, true, true, true, false, false, true, false, false, true, false, true, true] 0 (lEnt (α := α) (St.mk (none :: none :: some (SV.ptr (nat_lit 0) (nat_lit 0)) :: some (SV.ptr (nat_lit 1) (nat_lit 0)) :: some (SV.ptr (nat_lit 2) (nat_lit 0)) :: some (SV.ptr (nat_lit 3) (nat_lit 0)) :: some (SV.int .i64 (0 : Int)) :: some (SV.int .i64 (0 : Int)) :: some (SV.int .i64 (0 : Int)) :: nn 50 ([]))
  [.cells [SV.bool false, SV.arr (K.int IntKind.i64) [] (nat_lit 8)] (nat_lit 96), .cells [SV.bool false, SV.arr (K.int IntKind.i64) [] (nat_lit 8)] (nat_lit 96), .cells [SV.bool false, SV.arr (K.int IntKind.i64) [] (nat_lit 8)] (nat_lit 96), .cells [SV.bool false, SV.arr (K.int IntKind.i64) [] (nat_lit 8)] (nat_lit 96)]) rtimes_l0_go) :=
  lEnt_ok E (exec_sound E E_ok (look_of_ok) (noLps_ok _) 400) fun ds Q r h S hS => by
    unfold rtimes_l0_go at h
    obtain ⟨x29, ds, rfl, h1⟩ := dI_inv h
    obtain ⟨x30, ds, rfl, h2⟩ := dI_inv h1
    obtain ⟨x31, ds, rfl, h3⟩ := dI_inv h2
    obtain ⟨x32, ds, rfl, h4⟩ := dB_inv h3
    obtain ⟨x33, ds, rfl, h5⟩ := dL_inv h4
    obtain ⟨x34, ds, rfl, h6⟩ := dB_inv h5
    obtain ⟨x35, ds, rfl, h7⟩ := dL_inv h6
    obtain ⟨x36, ds, rfl, h8⟩ := dB_inv h7
    obtain ⟨x37, ds, rfl, h9⟩ := dL_inv h8
    obtain ⟨x38, ds, rfl, h10⟩ := dB_inv h9
    obtain ⟨x39, ds, rfl, h11⟩ := dL_inv h10
    obtain ⟨rfl, hE⟩ := dE_inv h11
    have e : fillS (St.mk (none :: none :: some (SV.ptr (nat_lit 0) (nat_lit 0)) :: some (SV.ptr (nat_lit 1) (nat_lit 0)) :: some (SV.ptr (nat_lit 2) (nat_lit 0)) :: some (SV.ptr (nat_lit 3) (nat_lit 0)) :: some (SV.int .i64 (0 : Int)) :: some (SV.int .i64 (0 : Int)) :: some (SV.int .i64 (0 : Int)) :: nn 50 ([]))
  [.cells [SV.bool false, SV.arr (K.int IntKind.i64) [] (nat_lit 8)] (nat_lit 96), .cells [SV.bool false, SV.arr (K.int IntKind.i64) [] (nat_lit 8)] (nat_lit 96), .cells [SV.bool false, SV.arr (K.int IntKind.i64) [] (nat_lit 8)] (nat_lit 96), .cells [SV.bool false, SV.arr (K.int IntKind.i64) [] (nat_lit 8)] (nat_lit 96)]) [.i x29, .i x30, .i x31, .b x32, .l (K.int IntKind.i64) x33, .b x34, .l (K.int IntKind.i64) x35, .b x36, .l (K.int IntKind.i64) x37, .b x38, .l (K.int IntKind.i64) x39] = some (St.mk (none :: none :: some (SV.ptr (nat_lit 0) (nat_lit 0)) :: some (SV.ptr (nat_lit 1) (nat_lit 0)) :: some (SV.ptr (nat_lit 2) (nat_lit 0)) :: some (SV.ptr (nat_lit 3) (nat_lit 0)) :: some (SV.int .i64 x29) :: some (SV.int .i64 x30) :: some (SV.int .i64 x31) :: nn 50 ([]))
  [.cells [SV.bool x32, SV.arr (K.int IntKind.i64) x33 (nat_lit 8)] (nat_lit 96), .cells [SV.bool x34, SV.arr (K.int IntKind.i64) x35 (nat_lit 8)] (nat_lit 96), .cells [SV.bool x36, SV.arr (K.int IntKind.i64) x37 (nat_lit 8)] (nat_lit 96), .cells [SV.bool x38, SV.arr (K.int IntKind.i64) x39 (nat_lit 8)] (nat_lit 96)]) := by kernel_rfl
    rw [e] at hS
    cases hS
    exact ⟨_, (rtimes_l0_iter x29 x32 x33 x34 x35 x36 x37 x38 Q _ x30 x31 x39).trans hE⟩
noncomputable def rtimes_l0_lps {α : Type} : LookL α := addLp 74 [false, true, true, true, false, false, true, false, false, true, false, true, true] 0 (lEnt (St.mk (none :: none :: some (SV.ptr (nat_lit 0) (nat_lit 0)) :: some (SV.ptr (nat_lit 1) (nat_lit 0)) :: some (SV.ptr (nat_lit 2) (nat_lit 0)) :: some (SV.ptr (nat_lit 3) (nat_lit 0)) :: some (SV.int .i64 (0 : Int)) :: some (SV.int .i64 (0 : Int)) :: some (SV.int .i64 (0 : Int)) :: nn 50 ([]))
  [.cells [SV.bool false, SV.arr (K.int IntKind.i64) [] (nat_lit 8)] (nat_lit 96), .cells [SV.bool false, SV.arr (K.int IntKind.i64) [] (nat_lit 8)] (nat_lit 96), .cells [SV.bool false, SV.arr (K.int IntKind.i64) [] (nat_lit 8)] (nat_lit 96), .cells [SV.bool false, SV.arr (K.int IntKind.i64) [] (nat_lit 8)] (nat_lit 96)]) rtimes_l0_go) noLps
theorem rtimes_l0_lps_ok {α : Type} : LoopsOk E.P (rtimes_l0_lps (α := α)) := addLp_ok rtimes_l0_ok (noLps_ok _)

noncomputable def _root_.Go.Proofs.Ytkjellhkamfciaa.M.rtimes_l1_step {α : Type} (x46 : List Int) (x48 : List Int) (x50 : List Int) (kn : Int → List Int → Option α) (k1 : List Int → Option α) (x44 : Int) (x52 : List Int) : Option α :=
  if cLt x44 (8 : Int) = true then if (0 : Int) ≤ x44 ∧ x44 < (8 : Int) then if cEq (List.getD x46 (Int.toNat x44) (0 : Int)) (0 : Int) = true then kn (IntKind.wrap .i64 (x44 + (1 : Int))) x52 else M.rtimes_l0 x44 x46 x48 (fun (x53 : List Int) ↦ kn (IntKind.wrap .i64 (x44 + (1 : Int))) x53) ((100 : Nat) + List.length x46 + List.length x48 + List.length x50 + List.length x52) (0 : Int) (0 : Int) x52 else none else k1 x52
noncomputable def _root_.Go.Proofs.Ytkjellhkamfciaa.M.rtimes_l1 {α : Type} (x46 : List Int) (x48 : List Int) (x50 : List Int) (k1 : List Int → Option α) : Nat → Int → List Int → Option α
  | 0, _, _ => none
  | n + 1, x44, x52 => M.rtimes_l1_step x46 x48 x50 (M.rtimes_l1 x46 x48 x50 k1 n) k1 x44 x52
theorem rtimes_l1_step_eq {α : Type} (x44 : Int) (x45 : Bool) (x46 : List Int) (x47 : Bool) (x48 : List Int) (x49 : Bool) (x50 : List Int) (x51 : Bool) (x52 : List Int) (Q : Ex → St → Option α) : (loopStep E (exec E look_of rtimes_l0_lps 400) 74 [false, true, false, true, true] 0 (codeAt E.P 74 [false, true, false, true, true])) (St.mk (none :: none :: some (SV.ptr (nat_lit 0) (nat_lit 0)) :: some (SV.ptr (nat_lit 1) (nat_lit 0)) :: some (SV.ptr (nat_lit 2) (nat_lit 0)) :: some (SV.ptr (nat_lit 3) (nat_lit 0)) :: some (SV.int .i64 x44) :: nn 52 ([]))
  [.cells [SV.bool x45, SV.arr (K.int IntKind.i64) x46 (nat_lit 8)] (nat_lit 96), .cells [SV.bool x47, SV.arr (K.int IntKind.i64) x48 (nat_lit 8)] (nat_lit 96), .cells [SV.bool x49, SV.arr (K.int IntKind.i64) x50 (nat_lit 8)] (nat_lit 96), .cells [SV.bool x51, SV.arr (K.int IntKind.i64) x52 (nat_lit 8)] (nat_lit 96)]) Q = M.rtimes_l1_step x46 x48 x50 (fun (x55 : Int) (x56 : List Int) => Q .normal (St.mk (none :: none :: some (SV.ptr (nat_lit 0) (nat_lit 0)) :: some (SV.ptr (nat_lit 1) (nat_lit 0)) :: some (SV.ptr (nat_lit 2) (nat_lit 0)) :: some (SV.ptr (nat_lit 3) (nat_lit 0)) :: some (SV.int .i64 x55) :: nn 52 ([]))
  [.cells [SV.bool x45, SV.arr (K.int IntKind.i64) x46 (nat_lit 8)] (nat_lit 96), .cells [SV.bool x47, SV.arr (K.int IntKind.i64) x48 (nat_lit 8)] (nat_lit 96), .cells [SV.bool x49, SV.arr (K.int IntKind.i64) x50 (nat_lit 8)] (nat_lit 96), .cells [SV.bool x51, SV.arr (K.int IntKind.i64) x56 (nat_lit 8)] (nat_lit 96)])) (fun (x54 : List Int) => Q (.exit 0) (St.mk (none :: none :: some (SV.ptr (nat_lit 0) (nat_lit 0)) :: some (SV.ptr (nat_lit 1) (nat_lit 0)) :: some (SV.ptr (nat_lit 2) (nat_lit 0)) :: some (SV.ptr (nat_lit 3) (nat_lit 0)) :: nn 53 ([]))
  [.cells [SV.bool x45, SV.arr (K.int IntKind.i64) x46 (nat_lit 8)] (nat_lit 96), .cells [SV.bool x47, SV.arr (K.int IntKind.i64) x48 (nat_lit 8)] (nat_lit 96), .cells [SV.bool x49, SV.arr (K.int IntKind.i64) x50 (nat_lit 8)] (nat_lit 96), .cells [SV.bool x51, SV.arr (K.int IntKind.i64) x54 (nat_lit 8)] (nat_lit 96)])) x44 x52 := by kernel_rfl
theorem rtimes_l1_iter {α : Type} (x45 : Bool) (x46 : List Int) (x47 : Bool) (x48 : List Int) (x49 : Bool) (x50 : List Int) (x51 : Bool) (Q : Ex → St → Option α) : ∀ (n : Nat) (x44 : Int) (x52 : List Int), iter (loopStep E (exec E look_of rtimes_l0_lps 400) 74 [false, true, false, true, true] 0 (codeAt E.P 74 [false, true, false, true, true])) n (St.mk (none :: none :: some (SV.ptr (nat_lit 0) (nat_lit 0)) :: some (SV.ptr (nat_lit 1) (nat_lit 0)) :: some (SV.ptr (nat_lit 2) (nat_lit 0)) :: some (SV.ptr (nat_lit 3) (nat_lit 0)) :: some (SV.int .i64 x44) :: nn 52 ([]))
  [.cells [SV.bool x45, SV.arr (K.int IntKind.i64) x46 (nat_lit 8)] (nat_lit 96), .cells [SV.bool x47, SV.arr (K.int IntKind.i64) x48 (nat_lit 8)] (nat_lit 96), .cells [SV.bool x49, SV.arr (K.int IntKind.i64) x50 (nat_lit 8)] (nat_lit 96), .cells [SV.bool x51, SV.arr (K.int IntKind.i64) x52 (nat_lit 8)] (nat_lit 96)]) Q = M.rtimes_l1 x46 x48 x50 (fun (x54 : List Int) => Q (.exit 0) (St.mk (none :: none :: some (SV.ptr (nat_lit 0) (nat_lit 0)) :: some (SV.ptr (nat_lit 1) (nat_lit 0)) :: some (SV.ptr (nat_lit 2) (nat_lit 0)) :: some (SV.ptr (nat_lit 3) (nat_lit 0)) :: nn 53 ([]))
  [.cells [SV.bool x45, SV.arr (K.int IntKind.i64) x46 (nat_lit 8)] (nat_lit 96), .cells [SV.bool x47, SV.arr (K.int IntKind.i64) x48 (nat_lit 8)] (nat_lit 96), .cells [SV.bool x49, SV.arr (K.int IntKind.i64) x50 (nat_lit 8)] (nat_lit 96), .cells [SV.bool x51, SV.arr (K.int IntKind.i64) x54 (nat_lit 8)] (nat_lit 96)])) n x44 x52
  | 0, _, _ => rfl
  | n + 1, x44, x52 => (rtimes_l1_step_eq x44 x45 x46 x47 x48 x49 x50 x51 x52 (iterK (loopStep E (exec E look_of rtimes_l0_lps 400) 74 [false, true, false, true, true] 0 (codeAt E.P 74 [false, true, false, true, true])) n Q)).trans (congrArg (fun kn => M.rtimes_l1_step x46 x48 x50 kn (fun (x54 : List Int) => Q (.exit 0) (St.mk (none :: none :: some (SV.ptr (nat_lit 0) (nat_lit 0)) :: some (SV.ptr (nat_lit 1) (nat_lit 0)) :: some (SV.ptr (nat_lit 2) (nat_lit 0)) :: some (SV.ptr (nat_lit 3) (nat_lit 0)) :: nn 53 ([]))
  [.cells [SV.bool x45, SV.arr (K.int IntKind.i64) x46 (nat_lit 8)] (nat_lit 96), .cells [SV.bool x47, SV.arr (K.int IntKind.i64) x48 (nat_lit 8)] (nat_lit 96), .cells [SV.bool x49, SV.arr (K.int IntKind.i64) x50 (nat_lit 8)] (nat_lit 96), .cells [SV.bool x51, SV.arr (K.int IntKind.i64) x54 (nat_lit 8)] (nat_lit 96)])) x44 x52) (funext fun x44 => funext fun x52 => rtimes_l1_iter x45 x46 x47 x48 x49 x50 x51 Q n x44 x52))
noncomputable def rtimes_l1_go {α : Type} (ds : List D) (Q : Ex → St → Option α) : Option α :=
  dI ds fun x44 ds => dB ds fun x45 ds => dL (K.int IntKind.i64) ds fun x46 ds => dB ds fun x47 ds => dL (K.int IntKind.i64) ds fun x48 ds => dB ds fun x49 ds => dL (K.int IntKind.i64) ds fun x50 ds => dB ds fun x51 ds => dL (K.int IntKind.i64) ds fun x52 ds => dE ds (M.rtimes_l1 x46 x48 x50 (fun (x54 : List Int) => Q (.exit 0) (St.mk (none :: none :: some (SV.ptr (nat_lit 0) (nat_lit 0)) :: some (SV.ptr (nat_lit 1) (nat_lit 0)) :: some (SV.ptr (nat_lit 2) (nat_lit 0)) :: some (SV.ptr (nat_lit 3) (nat_lit 0)) :: nn 53 ([]))
  [.cells [SV.bool x45, SV.arr (K.int IntKind.i64) x46 (nat_lit 8)] (nat_lit 96), .cells [SV.bool x47, SV.arr (K.int IntKind.i64) x48 (nat_lit 8)] (nat_lit 96), .cells [SV.bool x49, SV.arr (K.int IntKind.i64) x50 (nat_lit 8)] (nat_lit 96), .cells [SV.bool x51, SV.arr (K.int IntKind.i64) x54 (nat_lit 8)] (nat_lit 96)])) (100 + x46.length + x48.length + x50.length + x52.length) x44 x52)
theorem rtimes_l1_ok {α : Type} : LoopOk E.P 74 [false, true, false, true, true] 0 (lEnt (α := α) (St.mk (none :: none :: some (SV.ptr (nat_lit 0) (nat_lit 0)) :: some (SV.ptr (nat_lit 1) (nat_lit 0)) :: some (SV.ptr (nat_lit 2) (nat_lit 0)) :: some (SV.ptr (nat_lit 3) (nat_lit 0)) :: some (SV.int .i64 (0 : Int)) :: nn 52 ([]))
  [.cells [SV.bool false, SV.arr (K.int IntKind.i64) [] (nat_lit 8)] (nat_lit 96), .cells [SV.bool false, SV.arr (K.int IntKind.i64) [] (nat_lit 8)] (nat_lit 96), .cells [SV.bool false, SV.arr (K.int IntKind.i64) [] (nat_lit 8)] (nat_lit 96), .cells [SV.bool false, SV.arr (K.int IntKind.i64) [] (nat_lit 8)] (nat_lit 96)]) rtimes_l1_go) :=
  lEnt_ok E (exec_sound E E_ok (look_of_ok) (rtimes_l0_lps_ok) 400) fun ds Q r h S hS => by
    unfold rtimes_l1_go at h
    obtain ⟨x44, ds, rfl, h1⟩ := dI_inv h
    obtain ⟨x45, ds, rfl, h2⟩ := dB_inv h1
    obtain ⟨x46, ds, rfl, h3⟩ := dL_inv h2
    obtain ⟨x47, ds, rfl, h4⟩ := dB_inv h3
    obtain ⟨x48, ds, rfl, h5⟩ := dL_inv h4
    obtain ⟨x49, ds, rfl, h6⟩ := dB_inv h5
    obtain ⟨x50, ds, rfl, h7⟩ := dL_inv h6
    obtain ⟨x51, ds, rfl, h8⟩ := dB_inv h7
    obtain ⟨x52, ds, rfl, h9⟩ := dL_inv h8
    obtain ⟨rfl, hE⟩ := dE_inv h9
    have e : fillS (St.mk (none :: none :: some (SV.ptr (nat_lit 0) (nat_lit 0)) :: some (SV.ptr (nat_lit 1) (nat_lit 0)) :: some (SV.ptr (nat_lit 2) (nat_lit 0)) :: some (SV.ptr (nat_lit 3) (nat_lit 0)) :: some (SV.int .i64 (0 : Int)) :: nn 52 ([]))
  [.cells [SV.bool false, SV.arr (K.int IntKind.i64) [] (nat_lit 8)] (nat_lit 96), .cells [SV.bool false, SV.arr (K.int IntKind.i64) [] (nat_lit 8)] (nat_lit 96), .cells [SV.bool false, SV.arr (K.int IntKind.i64) [] (nat_lit 8)] (nat_lit 96), .cells [SV.bool false, SV.arr (K.int IntKind.i64) [] (nat_lit 8)] (nat_lit 96)]) [.i x44, .b x45, .l (K.int IntKind.i64) x46, .b x47, .l (K.int IntKind.i64) x48, .b x49, .l (K.int IntKind.i64) x50, .b x51, .l (K.int IntKind.i64) x52] = some (St.mk (none :: none :: some (SV.ptr (nat_lit 0) (nat_lit 0)) :: some (SV.ptr (nat_lit 1) (nat_lit 0)) :: some (SV.ptr (nat_lit 2) (nat_lit 0)) :: some (SV.ptr (nat_lit 3) (nat_lit 0)) :: some (SV.int .i64 x44) :: nn 52 ([]))
  [.cells [SV.bool x45, SV.arr (K.int IntKind.i64) x46 (nat_lit 8)] (nat_lit 96), .cells [SV.bool x47, SV.arr (K.int IntKind.i64) x48 (nat_lit 8)] (nat_lit 96), .cells [SV.bool x49, SV.arr (K.int IntKind.i64) x50 (nat_lit 8)] (nat_lit 96), .cells [SV.bool x51, SV.arr (K.int IntKind.i64) x52 (nat_lit 8)] (nat_lit 96)]) := by kernel_rfl
    rw [e] at hS
    cases hS
    exact ⟨_, (rtimes_l1_iter x45 x46 x47 x48 x49 x50 x51 Q _ x44 x52).trans hE⟩
noncomputable def rtimes_l1_lps {α : Type} : LookL α := addLp 74 [false, true, false, true, true] 0 (lEnt (St.mk (none :: none :: some (SV.ptr (nat_lit 0) (nat_lit 0)) :: some (SV.ptr (nat_lit 1) (nat_lit 0)) :: some (SV.ptr (nat_lit 2) (nat_lit 0)) :: some (SV.ptr (nat_lit 3) (nat_lit 0)) :: some (SV.int .i64 (0 : Int)) :: nn 52 ([]))
  [.cells [SV.bool false, SV.arr (K.int IntKind.i64) [] (nat_lit 8)] (nat_lit 96), .cells [SV.bool false, SV.arr (K.int IntKind.i64) [] (nat_lit 8)] (nat_lit 96), .cells [SV.bool false, SV.arr (K.int IntKind.i64) [] (nat_lit 8)] (nat_lit 96), .cells [SV.bool false, SV.arr (K.int IntKind.i64) [] (nat_lit 8)] (nat_lit 96)]) rtimes_l1_go) rtimes_l0_lps
theorem rtimes_l1_lps_ok {α : Type} : LoopsOk E.P (rtimes_l1_lps (α := α)) := addLp_ok rtimes_l1_ok (rtimes_l0_lps_ok)

noncomputable def _root_.Go.Proofs.Ytkjellhkamfciaa.M.rtimes {α : Type} (an : Bool) (ad : List Int) (bn : Bool) (bd : List Int) (k0 : Bool → List Int → Option α) : Option α :=
  M.rtimes_l1 ad bd (List.replicate (8 : Nat) (0 : Int)) (fun (x57 : List Int) ↦ k0 (!an == bn) x57) ((100 : Nat) + List.length ad + List.length bd + (8 : Nat) + (8 : Nat)) (0 : Int) (List.replicate (8 : Nat) (0 : Int))
theorem rtimes_eq {α : Type} (an : Bool) (ad : List Int) (bn : Bool) (bd : List Int) (Q : SV → Hp → Option α) : callI E look_of (exec E look_of rtimes_l1_lps 400) 74 ([SV.agg [SV.bool an, SV.arr (K.int IntKind.i64) ad (nat_lit 8)], SV.agg [SV.bool bn, SV.arr (K.int IntKind.i64) bd (nat_lit 8)]]) ([]) Q = M.rtimes an ad bn bd (fun (x58 : Bool) (x59 : List Int) => Q (SV.agg [SV.bool x58, SV.arr (K.int IntKind.i64) x59 (nat_lit 8)]) ([])) := by kernel_rfl
def rtimes_sp : List AS := [.val (.agg [.bool false, .arr (.int .i64) [] 8]), .val (.agg [.bool false, .arr (.int .i64) [] 8])]
noncomputable def rtimes_go {α : Type} (ds : List D) (Q : SV → Hp → Option α) : Option α :=
  dB ds fun an ds => dL (K.int IntKind.i64) ds fun ad ds => dB ds fun bn ds => dL (K.int IntKind.i64) ds fun bd ds => dE ds (M.rtimes an ad bn bd (fun (x58 : Bool) (x59 : List Int) => Q (SV.agg [SV.bool x58, SV.arr (K.int IntKind.i64) x59 (nat_lit 8)]) ([])))
theorem rtimes_ok {α : Type} : FnOk E.P 74 (fEnt (α := α) rtimes_sp rtimes_go) :=
  fEnt_ok E (look_of_ok) (exec_sound E E_ok (look_of_ok) (rtimes_l1_lps_ok) 400) fun ds Q r h => by
    unfold rtimes_go at h
    obtain ⟨an, ds, rfl, h1⟩ := dB_inv h
    obtain ⟨ad, ds, rfl, h2⟩ := dL_inv h1
    obtain ⟨bn, ds, rfl, h3⟩ := dB_inv h2
    obtain ⟨bd, ds, rfl, h4⟩ := dL_inv h3
    obtain ⟨rfl, hE⟩ := dE_inv h4
    exact ⟨[SV.agg [SV.bool an, SV.arr (K.int IntKind.i64) ad (nat_lit 8)], SV.agg [SV.bool bn, SV.arr (K.int IntKind.i64) bd (nat_lit 8)]], [], fun vs => by kernel_rfl, (rtimes_eq an ad bn bd Q).trans hE⟩
theorem rtimes_l0_val {α : Type} (a b : List Int) (ha : okD a = true) (hb : okD b = true) (la : a.length = 8) (lb : b.length = 8) (i : Nat) (hi : i < 8) (k1 : List Int → Option α) : ∀ (fuel k : Nat) (c : Int) (o : List Int), i + k ≤ 8 → 8 - k < fuel → o.length = 8 → okD o = true → 0 ≤ c → c < 16777216 →
    M.rtimes_l0 (i : Int) a b k1 fuel c (k : Int) o = k1 (o.take (i + k) ++ linL (a.getD i 0) (o.drop (i + k)) (b.drop k) c)
  | 0, k, c, o, h1, h2, _, _, _, _ => by omega
  | n + 1, k, c, o, h1, h2, lo, ho, hc0, hc1 => by
    unfold M.rtimes_l0 M.rtimes_l0_step
    have ew : IntKind.wrap .i64 ((i : Int) + (k : Int)) = ((i + k : Nat) : Int) := by rw [IntWalk.i64_in _ (by omega)]; push_cast; rfl
    rw [ew, cLt_eq]
    by_cases hk : i + k < 8
    · have c1 : ((i + k : Nat) : Int) < 8 := by omega
      have c2 : (0 : Int) ≤ ((i + k : Nat) : Int) := by omega
      have c3 : (i : Int) < 8 := by omega
      have c4 : (k : Int) < 8 := by omega
      have da := okD_get ha i
      have db := okD_get hb k
      have dd := okD_get ho (i + k)
      simp only [c1, c2, c3, c4, Int.natCast_nonneg, decide_true, if_true, and_self, Int.toNat_natCast]
      have hlin : linL (a.getD i 0) (o.drop (i + k)) (b.drop k) c = (o.getD (i + k) 0 + a.getD i 0 * b.getD k 0 + c) % 16777216 :: linL (a.getD i 0) (o.drop (i + k + 1)) (b.drop (k + 1)) ((o.getD (i + k) 0 + a.getD i 0 * b.getD k 0 + c) / 16777216) := by
        rw [drop_getD (by omega : i + k < o.length), drop_getD (by omega : k < b.length), linL]
      rw [hlin]
      generalize hx : a.getD i 0 = x at *
      generalize b.getD k 0 = y at *
      generalize o.getD (i + k) 0 = z at *
      have p1 : x * y ≤ 16777215 * 16777215 := Int.mul_le_mul (by omega) (by omega) db.1 (by omega)
      have p0 : 0 ≤ x * y := Int.mul_nonneg da.1 db.1
      rw [IntWalk.i64_in (x * y) (by omega), IntWalk.i64_in (z + x * y) (by omega), IntWalk.i64_in (z + x * y + c) (by omega), Int.tdiv_eq_ediv_of_nonneg (by omega), Int.tmod_eq_emod_of_nonneg (by omega), IntWalk.i64_in ((z + x * y + c) / 16777216) (by omega), IntWalk.i64_in ((k : Int) + 1) (by omega)]
      have ho' : okD (o.set (i + k) ((z + x * y + c) % 16777216)) = true := by
        rw [← List.take_append_drop (i + k + 1) (o.set (i + k) _), okD_append, take_set_succ _ (by omega), drop_set_succ, okD_append]
        exact ⟨⟨okD_take ho _, by rw [okD_cons]; exact ⟨by omega, rfl⟩⟩, okD_drop ho _⟩
      have := rtimes_l0_val a b ha hb la lb i hi k1 n (k + 1) ((z + x * y + c) / 16777216) (o.set (i + k) ((z + x * y + c) % 16777216)) (by omega) (by omega) (by simpa using lo) ho' (by omega) (by omega)
      rw [hx] at this
      push_cast at this
      rw [this, show i + (k + 1) = i + k + 1 by omega, take_set_succ _ (by omega), drop_set_succ, List.append_assoc, List.singleton_append]
    · have e : i + k = 8 := by omega
      rw [e]
      have e2 : ¬ ((8 : Nat) : Int) < 8 := by omega
      simp only [e2, decide_false, Bool.false_eq_true, if_false]
      rw [List.take_of_length_le (by omega), List.drop_of_length_le (by omega : o.length ≤ 8), linL, List.append_nil]
      · intro _ _ _ _ _; simp_all
def tmL : List Int → Nat → List Int → List Int → List Int
  | [], _, o, _ => o
  | x :: us, i, o, b => tmL us (i + 1) (o.take i ++ linL x (o.drop i) b 0) b
theorem linL_zero : ∀ (xs ys : List Int), okD xs = true → xs.length ≤ ys.length → linL 0 xs ys 0 = xs
  | [], ys, _, _ => by simp [linL]
  | x :: xs, [], _, h => by simp at h
  | x :: xs, y :: ys, h, hl => by
    rw [okD_cons] at h
    rw [linL, Int.zero_mul, Int.add_zero, Int.add_zero, show x % 16777216 = x by omega, show x / 16777216 = 0 by omega, linL_zero xs ys h.2 (by simpa using hl)]
theorem tm_step {o b : List Int} (x : Int) {i : Nat} (lo : o.length = 8) (lb : b.length = 8) (ho : okD o = true) (hi : i ≤ 8) : (o.take i ++ linL x (o.drop i) b 0).length = 8 ∧ okD (o.take i ++ linL x (o.drop i) b 0) = true := by
  refine ⟨?_, ?_⟩
  · rw [List.length_append, linL_len _ _ _ _ (by rw [List.length_drop]; omega), List.length_take, List.length_drop]; omega
  · rw [okD_append]; exact ⟨okD_take ho i, linL_ok _ _ _ _⟩
theorem rtimes_l1_val {α : Type} (a b z : List Int) (ha : okD a = true) (hb : okD b = true) (la : a.length = 8) (lb : b.length = 8) (k1 : List Int → Option α) : ∀ (fuel i : Nat) (o : List Int), i ≤ 8 → 8 - i < fuel → o.length = 8 → okD o = true →
    M.rtimes_l1 a b z k1 fuel (i : Int) o = k1 (tmL (a.drop i) i o b)
  | 0, i, o, h1, h2, _, _ => by omega
  | n + 1, i, o, h1, h2, lo, ho => by
    unfold M.rtimes_l1 M.rtimes_l1_step
    rw [cLt_eq]
    by_cases hi : i < 8
    · have c1 : (i : Int) < 8 := by omega
      have c2 : (0 : Int) ≤ (i : Int) := by omega
      simp only [c1, c2, decide_true, if_true, and_self, Int.toNat_natCast, cEq_eq]
      rw [IntWalk.i64_in ((i : Int) + 1) (by omega), drop_getD (by omega : i < a.length), tmL]
      obtain ⟨l', o'⟩ := tm_step (b := b) (a.getD i 0) lo lb ho h1
      have rc := rtimes_l1_val a b z ha hb la lb k1 n (i + 1) (o.take i ++ linL (a.getD i 0) (o.drop i) b 0) (by omega) (by omega) l' o'
      push_cast at rc
      by_cases h0 : a.getD i 0 = 0
      · rw [h0] at rc ⊢
        rw [linL_zero _ _ (okD_drop ho i) (by rw [List.length_drop]; omega), List.take_append_drop] at rc ⊢
        simp only [beq_self_eq_true, if_true]
        exact rc
      · have : (a.getD i 0 == 0) = false := by simpa using h0
        simp only [this, Bool.false_eq_true, if_false]
        have inner := rtimes_l0_val a b ha hb la lb i hi (fun x => M.rtimes_l1 a b z k1 n ((i : Int) + 1) x) (100 + a.length + b.length + z.length + o.length) 0 0 o (by omega) (by omega) lo ho (by omega) (by omega)
        simp only [Int.natCast_zero, Nat.add_zero, List.drop_zero] at inner
        exact inner.trans rc
    · have : i = 8 := by omega
      subst this
      have e : ¬ ((8 : Nat) : Int) < 8 := by omega
      simp only [e, decide_false, Bool.false_eq_true, if_false]
      rw [List.drop_of_length_le (by omega : a.length ≤ 8), tmL]
theorem tmL_ok (b : List Int) (lb : b.length = 8) : ∀ (us : List Int) (i : Nat) (o : List Int), us.length + i = 8 → o.length = 8 → okD o = true → (tmL us i o b).length = 8 ∧ okD (tmL us i o b) = true
  | [], i, o, _, lo, ho => ⟨lo, ho⟩
  | x :: us, i, o, h, lo, ho => by
    simp only [List.length_cons] at h
    obtain ⟨l', o'⟩ := tm_step (b := b) x lo lb ho (by omega : i ≤ 8)
    exact tmL_ok b lb us (i + 1) _ (by omega) l' o'
theorem tmL_val (b : List Int) (lb : b.length = 8) : ∀ (us : List Int) (i : Nat) (o : List Int), us.length + i = 8 → o.length = 8 → okD o = true → val (tmL us i o b) = (val o + 16777216 ^ i * val us * val b) % 16777216 ^ 8
  | [], i, o, _, lo, ho => by
    have := val_bound ho
    rw [lo] at this
    simp only [tmL, val, Int.mul_zero, Int.zero_mul, Int.add_zero]
    rw [Int.emod_eq_of_lt this.1 this.2]
  | x :: us, i, o, h, lo, ho => by
    simp only [List.length_cons] at h
    obtain ⟨l', o'⟩ := tm_step (b := b) x lo lb ho (by omega : i ≤ 8)
    rw [tmL, tmL_val b lb us (i + 1) _ (by omega) l' o', val_append, linL_val _ _ _ _ (by rw [List.length_drop]; omega), List.length_take, List.length_drop, lo, Nat.min_eq_left (by omega : i ≤ 8)]
    have e0 : val o = val (o.take i) + 16777216 ^ i * val (o.drop i) := by
      have := val_append (o.take i) (o.drop i)
      rw [List.take_append_drop, List.length_take, lo, Nat.min_eq_left (by omega : i ≤ 8)] at this
      exact this
    have e1 : (16777216 : Int) ^ i * 16777216 ^ (8 - i) = 16777216 ^ 8 := by rw [← Int.pow_add]; exact congrArg (fun e : Nat => (16777216 : Int) ^ e) (by omega)
    have e2 := Int.mul_ediv_add_emod (val (o.drop i) + x * val b + 0) (16777216 ^ (8 - i))
    rw [e0, pB1, val]
    generalize hM : (16777216 : Int) ^ (8 - i) = M at *
    generalize hP : (16777216 : Int) ^ i = P at *
    generalize hq : (val (o.drop i) + x * val b + 0) / M = q at *
    generalize hr : (val (o.drop i) + x * val b + 0) % M = r at *
    have : val (o.take i) + P * val (o.drop i) + P * (x + 16777216 * val us) * val b = val (o.take i) + P * r + 16777216 * P * val us * val b + 16777216 ^ 8 * q := by
      rw [← e1]
      grind
    rw [this, Int.add_mul_emod_self_left]
noncomputable def _root_.Go.Proofs.Ytkjellhkamfciaa.V.tmD (a b : List Int) : List Int := tmL a 0 (List.replicate 8 0) b
def _root_.Go.Proofs.Ytkjellhkamfciaa.V.tmN (an bn : Bool) : Bool := !(an == bn)
theorem rtimes_v {α : Type} (an : Bool) (a : List Int) (bn : Bool) (b : List Int) (ha : V.ok8 a = true) (hb : V.ok8 b = true) (k0 : Bool → List Int → Option α) : M.rtimes an a bn b k0 = k0 (V.tmN an bn) (V.tmD a b) := by
  rw [ok8_iff] at ha hb
  unfold M.rtimes V.tmN V.tmD
  have := rtimes_l1_val a b (List.replicate 8 0) ha.2 hb.2 ha.1 hb.1 (fun x => k0 (!(an == bn)) x) (100 + a.length + b.length + 8 + 8) 0 (List.replicate 8 0) (by omega) (by omega) rfl rfl
  simp only [Int.natCast_zero, List.drop_zero] at this
  exact this
noncomputable def rtimes_h {α : Type} (ds : List D) (Q : SV → Hp → Option α) : Option α :=
  dB ds fun an ds => dL (K.int IntKind.i64) ds fun ad ds => dB ds fun bn ds => dL (K.int IntKind.i64) ds fun bd ds => dE ds (if V.ok8 ad = true ∧ V.ok8 bd = true then Q (.agg [.bool (V.tmN an bn), .arr (.int .i64) (V.tmD ad bd) 8]) ([]) else none)
theorem rtimes_h_ok {α : Type} : FnOk E.P 74 (fEnt (α := α) rtimes_sp rtimes_h) :=
  fEnt_ok E (look_of_ok) (exec_sound E E_ok (look_of_ok) (rtimes_l1_lps_ok) 400) fun ds Q r h => by
    unfold rtimes_h at h
    obtain ⟨an, ds, rfl, h1⟩ := dB_inv h
    obtain ⟨ad, ds, rfl, h2⟩ := dL_inv h1
    obtain ⟨bn, ds, rfl, h3⟩ := dB_inv h2
    obtain ⟨bd, ds, rfl, h4⟩ := dL_inv h3
    obtain ⟨rfl, hE⟩ := dE_inv h4
    split at hE
    · rename_i hg
      exact ⟨[SV.agg [SV.bool an, SV.arr (K.int IntKind.i64) ad (nat_lit 8)], SV.agg [SV.bool bn, SV.arr (K.int IntKind.i64) bd (nat_lit 8)]], [], fun vs => by kernel_rfl, (rtimes_eq an ad bn bd Q).trans ((rtimes_v an ad bn bd hg.1 hg.2 _).trans hE)⟩
    · cases hE
noncomputable def look_rtimes {α : Type} : LookF α := addFn 74 (fEnt rtimes_sp rtimes_h) look_of
theorem look_rtimes_ok {α : Type} : LookOk E.P (look_rtimes (α := α)) := addFn_ok rtimes_h_ok (look_of_ok)
theorem tmD_ok {a b : List Int} (ha : V.ok8 a = true) (hb : V.ok8 b = true) : V.ok8 (V.tmD a b) = true := by
  rw [ok8_iff] at ha hb ⊢
  exact tmL_ok b hb.1 a 0 _ (by omega) rfl rfl
theorem tmD_val {a b : List Int} (ha : V.ok8 a = true) (hb : V.ok8 b = true) (h : val a * val b < 6277101735386680763835789423207666416102355444464034512896) : val (V.tmD a b) = val a * val b := by
  rw [ok8_iff] at ha hb
  have va := val_bound ha.2
  have vb := val_bound hb.2
  have h0 : 0 ≤ val a * val b := Int.mul_nonneg va.1 vb.1
  unfold V.tmD
  rw [tmL_val b hb.1 a 0 _ (by omega) rfl rfl, p8]
  have e : val (List.replicate 8 (0 : Int)) = 0 := by decide
  rw [e, Int.pow_zero, Int.one_mul, Int.zero_add, Int.emod_eq_of_lt h0 h]
theorem tm_val (an : Bool) {a : List Int} (bn : Bool) {b : List Int} (ha : V.ok8 a = true) (hb : V.ok8 b = true) (h : val a * val b < 6277101735386680763835789423207666416102355444464034512896) : wv (V.tmN an bn) (V.tmD a b) = wv an a * wv bn b := by
  unfold wv V.tmN
  rw [tmD_val ha hb h]
  cases an <;> cases bn <;> simp [Int.mul_neg, Int.neg_mul]
end Go.Proofs.Ytkjellhkamfciaa.Sx
end

section
/- The document's own numbers: Less, Down. -/
namespace Go.Proofs.Ytkjellhkamfciaa.Sx
open Go
set_option maxRecDepth 20000
set_option linter.unusedVariables false
set_option linter.unusedSimpArgs false
noncomputable def _root_.Go.Proofs.Ytkjellhkamfciaa.V.wval (n : Bool) (D : List Int) : Int := wv n D
def _root_.Go.Proofs.Ytkjellhkamfciaa.V.two (a b : List Int) : Bool := V.ok8 a && V.ok8 b && decide (val a + val b < 6277101735386680763835789423207666416102355444464034512896)
noncomputable def _root_.Go.Proofs.Ytkjellhkamfciaa.V.ls (an : Bool) (a : List Int) (bn : Bool) (b : List Int) : Bool := decide (wv an a < wv bn b)
noncomputable def _root_.Go.Proofs.Ytkjellhkamfciaa.M.down_l0_step {α : Type} (x22 : Int) (x26 : Int) (x29 : List Int) (kn : Int → Int → Int → Option α) (k0 : Int → Int → Option α) (k2 : Int → Int → Option α) (x24 : Int) (x25 : Int) (x27 : Int) : Option α :=
  if cLt (0 : Int) x27 = true then
  if (0 : Int) ≤ x26 ∧ x26 < (8 : Int) then
    if x27 = (0 : Int) then none
    else
      if cEq (Int.tmod (IntKind.wrap .i64 (Int.tdiv (List.getD x29 (Int.toNat x26) (0 : Int)) x27)) (2 : Int)) (1 : Int) = true then
        if cLt (2305843009213693951 : Int) x24 = true then k0 x24 (IntKind.wrap .i64 (IntKind.wrap .i64 ((2 : Int) * x25) + (1 : Int)))
        else
          if cLe x22 (IntKind.wrap .i64 (IntKind.wrap .i64 ((2 : Int) * x25) + (1 : Int))) = true then kn (IntKind.wrap .i64 (IntKind.wrap .i64 ((2 : Int) * x24) + (1 : Int))) (IntKind.wrap .i64 (IntKind.wrap .i64 (IntKind.wrap .i64 ((2 : Int) * x25) + (1 : Int)) - x22)) (IntKind.wrap .i64 (Int.tdiv x27 (2 : Int)))
          else kn (IntKind.wrap .i64 ((2 : Int) * x24)) (IntKind.wrap .i64 (IntKind.wrap .i64 ((2 : Int) * x25) + (1 : Int))) (IntKind.wrap .i64 (Int.tdiv x27 (2 : Int)))
      else
        if cLt (2305843009213693951 : Int) x24 = true then k0 x24 (IntKind.wrap .i64 ((2 : Int) * x25))
        else if cLe x22 (IntKind.wrap .i64 ((2 : Int) * x25)) = true then kn (IntKind.wrap .i64 (IntKind.wrap .i64 ((2 : Int) * x24) + (1 : Int))) (IntKind.wrap .i64 (IntKind.wrap .i64 ((2 : Int) * x25) - x22)) (IntKind.wrap .i64 (Int.tdiv x27 (2 : Int))) else kn (IntKind.wrap .i64 ((2 : Int) * x24)) (IntKind.wrap .i64 ((2 : Int) * x25)) (IntKind.wrap .i64 (Int.tdiv x27 (2 : Int)))
  else none
else k2 x24 x25
noncomputable def _root_.Go.Proofs.Ytkjellhkamfciaa.M.down_l0 {α : Type} (x22 : Int) (x26 : Int) (x29 : List Int) (k0 : Int → Int → Option α) (k2 : Int → Int → Option α) : Nat → Int → Int → Int → Option α
  | 0, _, _, _ => none
  | n + 1, x24, x25, x27 => M.down_l0_step x22 x26 x29 (M.down_l0 x22 x26 x29 k0 k2 n) k0 k2 x24 x25 x27
theorem down_l0_step_eq {α : Type} (x22 : Int) (x23 : Bool) (x24 : Int) (x25 : Int) (x26 : Int) (x27 : Int) (x28 : Bool) (x29 : List Int) (Q : Ex → St → Option α) : (loopStep E (exec E look_rtimes noLps 400) 73 [false, true, true, false, false, true, false, false, true, false, true, true, true, true, true] 0 (codeAt E.P 73 [false, true, true, false, false, true, false, false, true, false, true, true, true, true, true])) (St.mk (none :: some (SV.int .i64 x22) :: some (SV.ptr (nat_lit 0) (nat_lit 0)) :: nn 3 (some (SV.bool x23) :: some (SV.int .i64 x24) :: some (SV.int .i64 x25) :: some (SV.int .i64 x26) :: some (SV.int .i64 x27) :: nn 66 ([])))
  [.cells [SV.bool x28, SV.arr (K.int IntKind.i64) x29 (nat_lit 8)] (nat_lit 96)]) Q = M.down_l0_step x22 x26 x29 (fun (x34 : Int) (x35 : Int) (x36 : Int) => Q .normal (St.mk (none :: some (SV.int .i64 x22) :: some (SV.ptr (nat_lit 0) (nat_lit 0)) :: nn 3 (some (SV.bool x23) :: some (SV.int .i64 x34) :: some (SV.int .i64 x35) :: some (SV.int .i64 x26) :: some (SV.int .i64 x36) :: nn 66 ([])))
  [.cells [SV.bool x28, SV.arr (K.int IntKind.i64) x29 (nat_lit 8)] (nat_lit 96)])) (fun (x30 : Int) (x31 : Int) => Q .ret (St.mk (none :: some (SV.int .i64 x22) :: some (SV.ptr (nat_lit 0) (nat_lit 0)) :: none :: some (SV.int .i64 (0 : Int)) :: some (SV.bool false) :: some (SV.bool x23) :: some (SV.int .i64 x30) :: some (SV.int .i64 x31) :: some (SV.int .i64 x26) :: nn 67 ([]))
  [.cells [SV.bool x28, SV.arr (K.int IntKind.i64) x29 (nat_lit 8)] (nat_lit 96)])) (fun (x32 : Int) (x33 : Int) => Q (.exit 2) (St.mk (none :: some (SV.int .i64 x22) :: some (SV.ptr (nat_lit 0) (nat_lit 0)) :: nn 3 (some (SV.bool x23) :: some (SV.int .i64 x32) :: some (SV.int .i64 x33) :: some (SV.int .i64 x26) :: nn 67 ([])))
  [.cells [SV.bool x28, SV.arr (K.int IntKind.i64) x29 (nat_lit 8)] (nat_lit 96)])) x24 x25 x27 := by kernel_rfl
theorem down_l0_iter {α : Type} (x22 : Int) (x23 : Bool) (x26 : Int) (x28 : Bool) (x29 : List Int) (Q : Ex → St → Option α) : ∀ (n : Nat) (x24 : Int) (x25 : Int) (x27 : Int), iter (loopStep E (exec E look_rtimes noLps 400) 73 [false, true, true, false, false, true, false, false, true, false, true, true, true, true, true] 0 (codeAt E.P 73 [false, true, true, false, false, true, false, false, true, false, true, true, true, true, true])) n (St.mk (none :: some (SV.int .i64 x22) :: some (SV.ptr (nat_lit 0) (nat_lit 0)) :: nn 3 (some (SV.bool x23) :: some (SV.int .i64 x24) :: some (SV.int .i64 x25) :: some (SV.int .i64 x26) :: some (SV.int .i64 x27) :: nn 66 ([])))
  [.cells [SV.bool x28, SV.arr (K.int IntKind.i64) x29 (nat_lit 8)] (nat_lit 96)]) Q = M.down_l0 x22 x26 x29 (fun (x30 : Int) (x31 : Int) => Q .ret (St.mk (none :: some (SV.int .i64 x22) :: some (SV.ptr (nat_lit 0) (nat_lit 0)) :: none :: some (SV.int .i64 (0 : Int)) :: some (SV.bool false) :: some (SV.bool x23) :: some (SV.int .i64 x30) :: some (SV.int .i64 x31) :: some (SV.int .i64 x26) :: nn 67 ([]))
  [.cells [SV.bool x28, SV.arr (K.int IntKind.i64) x29 (nat_lit 8)] (nat_lit 96)])) (fun (x32 : Int) (x33 : Int) => Q (.exit 2) (St.mk (none :: some (SV.int .i64 x22) :: some (SV.ptr (nat_lit 0) (nat_lit 0)) :: nn 3 (some (SV.bool x23) :: some (SV.int .i64 x32) :: some (SV.int .i64 x33) :: some (SV.int .i64 x26) :: nn 67 ([])))
  [.cells [SV.bool x28, SV.arr (K.int IntKind.i64) x29 (nat_lit 8)] (nat_lit 96)])) n x24 x25 x27
  | 0, _, _, _ => rfl
  | n + 1, x24, x25, x27 => (down_l0_step_eq x22 x23 x24 x25 x26 x27 x28 x29 (iterK (loopStep E (exec E look_rtimes noLps 400) 73 [false, true, true, false, false, true, false, false, true, false, true, true, true, true, true] 0 (codeAt E.P 73 [false, true, true, false, false, true, false, false, true, false, true, true, true, true, true])) n Q)).trans (congrArg (fun kn => M.down_l0_step x22 x26 x29 kn (fun (x30 : Int) (x31 : Int) => Q .ret (St.mk (none :: some (SV.int .i64 x22) :: some (SV.ptr (nat_lit 0) (nat_lit 0)) :: none :: some (SV.int .i64 (0 : Int)) :: some (SV.bool false) :: some (SV.bool x23) :: some (SV.int .i64 x30) :: some (SV.int .i64 x31) :: some (SV.int .i64 x26) :: nn 67 ([]))
  [.cells [SV.bool x28, SV.arr (K.int IntKind.i64) x29 (nat_lit 8)] (nat_lit 96)])) (fun (x32 : Int) (x33 : Int) => Q (.exit 2) (St.mk (none :: some (SV.int .i64 x22) :: some (SV.ptr (nat_lit 0) (nat_lit 0)) :: nn 3 (some (SV.bool x23) :: some (SV.int .i64 x32) :: some (SV.int .i64 x33) :: some (SV.int .i64 x26) :: nn 67 ([])))
  [.cells [SV.bool x28, SV.arr (K.int IntKind.i64) x29 (nat_lit 8)] (nat_lit 96)])) x24 x25 x27) (funext fun x24 => funext fun x25 => funext fun x27 => down_l0_iter x22 x23 x26 x28 x29 Q n x24 x25 x27))
noncomputable def down_l0_go {α : Type} (ds : List D) (Q : Ex → St → Option α) : Option α :=
  dI ds fun x22 ds => dB ds fun x23 ds => dI ds fun x24 ds => dI ds fun x25 ds => dI ds fun x26 ds => dI ds fun x27 ds => dB ds fun x28 ds => dL (K.int IntKind.i64) ds fun x29 ds => dE ds (M.down_l0 x22 x26 x29 (fun (x30 : Int) (x31 : Int) => Q .ret (St.mk (none :: some (SV.int .i64 x22) :: some (SV.ptr (nat_lit 0) (nat_lit 0)) :: none :: some (SV.int .i64 (0 : Int)) :: some (SV.bool false) :: some (SV.bool x23) :: some (SV.int .i64 x30) :: some (SV.int .i64 x31) :: some (SV.int .i64 x26) :: nn 67 ([]))
  [.cells [SV.bool x28, SV.arr (K.int IntKind.i64) x29 (nat_lit 8)] (nat_lit 96)])) (fun (x32 : Int) (x33 : Int) => Q (.exit 2) (St.mk (none :: some (SV.int .i64 x22) :: some (SV.ptr (nat_lit 0) (nat_lit 0)) :: nn 3 (some (SV.bool x23) :: some (SV.int .i64 x32) :: some (SV.int .i64 x33) :: some (SV.int .i64 x26) :: nn 67 ([])))
  [.cells [SV.bool x28, SV.arr (K.int IntKind.i64) x29 (nat_lit 8)] (nat_lit 96)])) (100 + x29.length) x24 x25 x27)
theorem down_l0_ok {α : Type} : LoopOk E.P 73 [false, true, true, false, false, true, false, false, true, false, true, true, true, true, true] 0 (lEnt (α := α) (St.mk (none :: some (SV.int .i64 (0 : Int)) :: some (SV.ptr (nat_lit 0) (nat_lit 0)) :: nn 3 (some (SV.bool false) :: some (SV.int .i64 (0 : Int)) :: some (SV.int .i64 (0 : Int)) :: some (SV.int .i64 (0 : Int)) :: some (SV.int .i64 (0 : Int)) :: nn 66 ([])))
  [.cells [SV.bool false, SV.arr (K.int IntKind.i64) [] (nat_lit 8)] (nat_lit 96)]) down_l0_go) :=
  lEnt_ok E (exec_sound E E_ok (look_rtimes_ok) (noLps_ok _) 400) fun ds Q r h S hS => by
    unfold down_l0_go at h
    obtain ⟨x22, ds, rfl, h1⟩ := dI_inv h
    obtain ⟨x23, ds, rfl, h2⟩ := dB_inv h1
    obtain ⟨x24, ds, rfl, h3⟩ := dI_inv h2
    obtain ⟨x25, ds, rfl, h4⟩ := dI_inv h3
    obtain ⟨x26, ds, rfl, h5⟩ := dI_inv h4
    obtain ⟨x27, ds, rfl, h6⟩ := dI_inv h5
    obtain ⟨x28, ds, rfl, h7⟩ := dB_inv h6
    obtain ⟨x29, ds, rfl, h8⟩ := dL_inv h7
    obtain ⟨rfl, hE⟩ := dE_inv h8
    have e : fillS (St.mk (none :: some (SV.int .i64 (0 : Int)) :: some (SV.ptr (nat_lit 0) (nat_lit 0)) :: nn 3 (some (SV.bool false) :: some (SV.int .i64 (0 : Int)) :: some (SV.int .i64 (0 : Int)) :: some (SV.int .i64 (0 : Int)) :: some (SV.int .i64 (0 : Int)) :: nn 66 ([])))
  [.cells [SV.bool false, SV.arr (K.int IntKind.i64) [] (nat_lit 8)] (nat_lit 96)]) [.i x22, .b x23, .i x24, .i x25, .i x26, .i x27, .b x28, .l (K.int IntKind.i64) x29] = some (St.mk (none :: some (SV.int .i64 x22) :: some (SV.ptr (nat_lit 0) (nat_lit 0)) :: nn 3 (some (SV.bool x23) :: some (SV.int .i64 x24) :: some (SV.int .i64 x25) :: some (SV.int .i64 x26) :: some (SV.int .i64 x27) :: nn 66 ([])))
  [.cells [SV.bool x28, SV.arr (K.int IntKind.i64) x29 (nat_lit 8)] (nat_lit 96)]) := by kernel_rfl
    rw [e] at hS
    cases hS
    exact ⟨_, (down_l0_iter x22 x23 x26 x28 x29 Q _ x24 x25 x27).trans hE⟩
noncomputable def down_l0_lps {α : Type} : LookL α := addLp 73 [false, true, true, false, false, true, false, false, true, false, true, true, true, true, true] 0 (lEnt (St.mk (none :: some (SV.int .i64 (0 : Int)) :: some (SV.ptr (nat_lit 0) (nat_lit 0)) :: nn 3 (some (SV.bool false) :: some (SV.int .i64 (0 : Int)) :: some (SV.int .i64 (0 : Int)) :: some (SV.int .i64 (0 : Int)) :: some (SV.int .i64 (0 : Int)) :: nn 66 ([])))
  [.cells [SV.bool false, SV.arr (K.int IntKind.i64) [] (nat_lit 8)] (nat_lit 96)]) down_l0_go) noLps
theorem down_l0_lps_ok {α : Type} : LoopsOk E.P (down_l0_lps (α := α)) := addLp_ok down_l0_ok (noLps_ok _)

noncomputable def _root_.Go.Proofs.Ytkjellhkamfciaa.M.down_l1_step {α : Type} (x37 : Int) (x43 : List Int) (kn : Int → Int → Int → Option α) (k1 : Int → Int → Option α) (k2 : Int → Int → Option α) (x39 : Int) (x40 : Int) (x41 : Int) : Option α :=
  if cLe (0 : Int) x41 = true then
  if (0 : Int) ≤ x41 ∧ x41 < (8 : Int) then
    if cEq (List.getD x43 (Int.toNat x41) (0 : Int)) (0 : Int) = true then
      if cEq x39 (0 : Int) = true then if cEq x40 (0 : Int) = true then kn x39 x40 (IntKind.wrap .i64 (x41 - (1 : Int))) else M.down_l0 x37 x41 x43 (fun (x44 x45 : Int) ↦ k1 x44 x45) (fun (x46 x47 : Int) ↦ kn x46 x47 (IntKind.wrap .i64 (x41 - (1 : Int)))) ((100 : Nat) + List.length x43) x39 x40 (8388608 : Int)
      else M.down_l0 x37 x41 x43 (fun (x48 x49 : Int) ↦ k1 x48 x49) (fun (x50 x51 : Int) ↦ kn x50 x51 (IntKind.wrap .i64 (x41 - (1 : Int)))) ((100 : Nat) + List.length x43) x39 x40 (8388608 : Int)
    else M.down_l0 x37 x41 x43 (fun (x52 x53 : Int) ↦ k1 x52 x53) (fun (x54 x55 : Int) ↦ kn x54 x55 (IntKind.wrap .i64 (x41 - (1 : Int)))) ((100 : Nat) + List.length x43) x39 x40 (8388608 : Int)
  else none
else k2 x39 x40
noncomputable def _root_.Go.Proofs.Ytkjellhkamfciaa.M.down_l1 {α : Type} (x37 : Int) (x43 : List Int) (k1 : Int → Int → Option α) (k2 : Int → Int → Option α) : Nat → Int → Int → Int → Option α
  | 0, _, _, _ => none
  | n + 1, x39, x40, x41 => M.down_l1_step x37 x43 (M.down_l1 x37 x43 k1 k2 n) k1 k2 x39 x40 x41
theorem down_l1_step_eq {α : Type} (x37 : Int) (x38 : Bool) (x39 : Int) (x40 : Int) (x41 : Int) (x42 : Bool) (x43 : List Int) (Q : Ex → St → Option α) : (loopStep E (exec E look_rtimes down_l0_lps 400) 73 [false, true, false, true, true, true, true, true] 0 (codeAt E.P 73 [false, true, false, true, true, true, true, true])) (St.mk (none :: some (SV.int .i64 x37) :: some (SV.ptr (nat_lit 0) (nat_lit 0)) :: nn 3 (some (SV.bool x38) :: some (SV.int .i64 x39) :: some (SV.int .i64 x40) :: some (SV.int .i64 x41) :: nn 67 ([])))
  [.cells [SV.bool x42, SV.arr (K.int IntKind.i64) x43 (nat_lit 8)] (nat_lit 96)]) Q = M.down_l1_step x37 x43 (fun (x60 : Int) (x61 : Int) (x62 : Int) => Q .normal (St.mk (none :: some (SV.int .i64 x37) :: some (SV.ptr (nat_lit 0) (nat_lit 0)) :: nn 3 (some (SV.bool x38) :: some (SV.int .i64 x60) :: some (SV.int .i64 x61) :: some (SV.int .i64 x62) :: nn 67 ([])))
  [.cells [SV.bool x42, SV.arr (K.int IntKind.i64) x43 (nat_lit 8)] (nat_lit 96)])) (fun (x56 : Int) (x57 : Int) => Q .ret (St.mk (nn 4 (some (SV.int .i64 (0 : Int)) :: some (SV.bool false) :: some (SV.bool x38) :: some (SV.int .i64 x56) :: some (SV.int .i64 x57) :: nn 68 ([])))
  [])) (fun (x58 : Int) (x59 : Int) => Q (.exit 0) (St.mk (nn 6 (some (SV.bool x38) :: some (SV.int .i64 x58) :: some (SV.int .i64 x59) :: nn 68 ([])))
  [])) x39 x40 x41 := by kernel_rfl
theorem down_l1_iter {α : Type} (x37 : Int) (x38 : Bool) (x42 : Bool) (x43 : List Int) (Q : Ex → St → Option α) : ∀ (n : Nat) (x39 : Int) (x40 : Int) (x41 : Int), iter (loopStep E (exec E look_rtimes down_l0_lps 400) 73 [false, true, false, true, true, true, true, true] 0 (codeAt E.P 73 [false, true, false, true, true, true, true, true])) n (St.mk (none :: some (SV.int .i64 x37) :: some (SV.ptr (nat_lit 0) (nat_lit 0)) :: nn 3 (some (SV.bool x38) :: some (SV.int .i64 x39) :: some (SV.int .i64 x40) :: some (SV.int .i64 x41) :: nn 67 ([])))
  [.cells [SV.bool x42, SV.arr (K.int IntKind.i64) x43 (nat_lit 8)] (nat_lit 96)]) Q = M.down_l1 x37 x43 (fun (x56 : Int) (x57 : Int) => Q .ret (St.mk (nn 4 (some (SV.int .i64 (0 : Int)) :: some (SV.bool false) :: some (SV.bool x38) :: some (SV.int .i64 x56) :: some (SV.int .i64 x57) :: nn 68 ([])))
  [])) (fun (x58 : Int) (x59 : Int) => Q (.exit 0) (St.mk (nn 6 (some (SV.bool x38) :: some (SV.int .i64 x58) :: some (SV.int .i64 x59) :: nn 68 ([])))
  [])) n x39 x40 x41
  | 0, _, _, _ => rfl
  | n + 1, x39, x40, x41 => (down_l1_step_eq x37 x38 x39 x40 x41 x42 x43 (iterK (loopStep E (exec E look_rtimes down_l0_lps 400) 73 [false, true, false, true, true, true, true, true] 0 (codeAt E.P 73 [false, true, false, true, true, true, true, true])) n Q)).trans (congrArg (fun kn => M.down_l1_step x37 x43 kn (fun (x56 : Int) (x57 : Int) => Q .ret (St.mk (nn 4 (some (SV.int .i64 (0 : Int)) :: some (SV.bool false) :: some (SV.bool x38) :: some (SV.int .i64 x56) :: some (SV.int .i64 x57) :: nn 68 ([])))
  [])) (fun (x58 : Int) (x59 : Int) => Q (.exit 0) (St.mk (nn 6 (some (SV.bool x38) :: some (SV.int .i64 x58) :: some (SV.int .i64 x59) :: nn 68 ([])))
  [])) x39 x40 x41) (funext fun x39 => funext fun x40 => funext fun x41 => down_l1_iter x37 x38 x42 x43 Q n x39 x40 x41))
noncomputable def down_l1_go {α : Type} (ds : List D) (Q : Ex → St → Option α) : Option α :=
  dI ds fun x37 ds => dB ds fun x38 ds => dI ds fun x39 ds => dI ds fun x40 ds => dI ds fun x41 ds => dB ds fun x42 ds => dL (K.int IntKind.i64) ds fun x43 ds => dE ds (M.down_l1 x37 x43 (fun (x56 : Int) (x57 : Int) => Q .ret (St.mk (nn 4 (some (SV.int .i64 (0 : Int)) :: some (SV.bool false) :: some (SV.bool x38) :: some (SV.int .i64 x56) :: some (SV.int .i64 x57) :: nn 68 ([])))
  [])) (fun (x58 : Int) (x59 : Int) => Q (.exit 0) (St.mk (nn 6 (some (SV.bool x38) :: some (SV.int .i64 x58) :: some (SV.int .i64 x59) :: nn 68 ([])))
  [])) (100 + x43.length) x39 x40 x41)
theorem down_l1_ok {α : Type} : LoopOk E.P 73 [false, true, false, true, true, true, true, true] 0 (lEnt (α := α) (St.mk (none :: some (SV.int .i64 (0 : Int)) :: some (SV.ptr (nat_lit 0) (nat_lit 0)) :: nn 3 (some (SV.bool false) :: some (SV.int .i64 (0 : Int)) :: some (SV.int .i64 (0 : Int)) :: some (SV.int .i64 (0 : Int)) :: nn 67 ([])))
  [.cells [SV.bool false, SV.arr (K.int IntKind.i64) [] (nat_lit 8)] (nat_lit 96)]) down_l1_go) :=
  lEnt_ok E (exec_sound E E_ok (look_rtimes_ok) (down_l0_lps_ok) 400) fun ds Q r h S hS => by
    unfold down_l1_go at h
    obtain ⟨x37, ds, rfl, h1⟩ := dI_inv h
    obtain ⟨x38, ds, rfl, h2⟩ := dB_inv h1
    obtain ⟨x39, ds, rfl, h3⟩ := dI_inv h2
    obtain ⟨x40, ds, rfl, h4⟩ := dI_inv h3
    obtain ⟨x41, ds, rfl, h5⟩ := dI_inv h4
    obtain ⟨x42, ds, rfl, h6⟩ := dB_inv h5
    obtain ⟨x43, ds, rfl, h7⟩ := dL_inv h6
    obtain ⟨rfl, hE⟩ := dE_inv h7
    have e : fillS (St.mk (none :: some (SV.int .i64 (0 : Int)) :: some (SV.ptr (nat_lit 0) (nat_lit 0)) :: nn 3 (some (SV.bool false) :: some (SV.int .i64 (0 : Int)) :: some (SV.int .i64 (0 : Int)) :: some (SV.int .i64 (0 : Int)) :: nn 67 ([])))
  [.cells [SV.bool false, SV.arr (K.int IntKind.i64) [] (nat_lit 8)] (nat_lit 96)]) [.i x37, .b x38, .i x39, .i x40, .i x41, .b x42, .l (K.int IntKind.i64) x43] = some (St.mk (none :: some (SV.int .i64 x37) :: some (SV.ptr (nat_lit 0) (nat_lit 0)) :: nn 3 (some (SV.bool x38) :: some (SV.int .i64 x39) :: some (SV.int .i64 x40) :: some (SV.int .i64 x41) :: nn 67 ([])))
  [.cells [SV.bool x42, SV.arr (K.int IntKind.i64) x43 (nat_lit 8)] (nat_lit 96)]) := by kernel_rfl
    rw [e] at hS
    cases hS
    exact ⟨_, (down_l1_iter x37 x38 x42 x43 Q _ x39 x40 x41).trans hE⟩
noncomputable def down_l1_lps {α : Type} : LookL α := addLp 73 [false, true, false, true, true, true, true, true] 0 (lEnt (St.mk (none :: some (SV.int .i64 (0 : Int)) :: some (SV.ptr (nat_lit 0) (nat_lit 0)) :: nn 3 (some (SV.bool false) :: some (SV.int .i64 (0 : Int)) :: some (SV.int .i64 (0 : Int)) :: some (SV.int .i64 (0 : Int)) :: nn 67 ([])))
  [.cells [SV.bool false, SV.arr (K.int IntKind.i64) [] (nat_lit 8)] (nat_lit 96)]) down_l1_go) down_l0_lps
theorem down_l1_lps_ok {α : Type} : LoopsOk E.P (down_l1_lps (α := α)) := addLp_ok down_l1_ok (down_l0_lps_ok)

noncomputable def _root_.Go.Proofs.Ytkjellhkamfciaa.M.down {α : Type} (neg : Bool) (d : List Int) (c : Int) (k0 : Int → Bool → Option α) : Option α :=
  if cLt c (0 : Int) = true then
  M.down_l1 (IntKind.wrap .i64 ((0 : Int) - c)) d (fun (x63 x64 : Int) ↦ k0 (0 : Int) false)
    (fun (x65 x66 : Int) ↦
      if (!neg) = true then
        if cLt (0 : Int) x66 = true then if cLt (4611686018427387903 : Int) (IntKind.wrap .i64 (x65 + (1 : Int))) = true then k0 (0 : Int) false else if (!neg) = true then k0 (IntKind.wrap .i64 ((0 : Int) - IntKind.wrap .i64 (x65 + (1 : Int)))) true else k0 (IntKind.wrap .i64 (x65 + (1 : Int))) true else if cLt (4611686018427387903 : Int) x65 = true then k0 (0 : Int) false else if (!neg) = true then k0 (IntKind.wrap .i64 ((0 : Int) - x65)) true else k0 x65 true
      else if cLt (4611686018427387903 : Int) x65 = true then k0 (0 : Int) false else if (!neg) = true then k0 (IntKind.wrap .i64 ((0 : Int) - x65)) true else k0 x65 true)
    ((100 : Nat) + List.length d) (0 : Int) (0 : Int) (7 : Int)
else
  M.down_l1 c d (fun (x67 x68 : Int) ↦ k0 (0 : Int) false)
    (fun (x69 x70 : Int) ↦
      if neg = true then
        if cLt (0 : Int) x70 = true then if cLt (4611686018427387903 : Int) (IntKind.wrap .i64 (x69 + (1 : Int))) = true then k0 (0 : Int) false else if neg = true then k0 (IntKind.wrap .i64 ((0 : Int) - IntKind.wrap .i64 (x69 + (1 : Int)))) true else k0 (IntKind.wrap .i64 (x69 + (1 : Int))) true else if cLt (4611686018427387903 : Int) x69 = true then k0 (0 : Int) false else if neg = true then k0 (IntKind.wrap .i64 ((0 : Int) - x69)) true else k0 x69 true
      else if cLt (4611686018427387903 : Int) x69 = true then k0 (0 : Int) false else if neg = true then k0 (IntKind.wrap .i64 ((0 : Int) - x69)) true else k0 x69 true)
    ((100 : Nat) + List.length d) (0 : Int) (0 : Int) (7 : Int)
theorem down_eq {α : Type} (neg : Bool) (d : List Int) (c : Int) (Q : SV → Hp → Option α) : callI E look_rtimes (exec E look_rtimes down_l1_lps 400) 73 ([SV.agg [SV.bool neg, SV.arr (K.int IntKind.i64) d (nat_lit 8)], SV.int .i64 c]) ([]) Q = M.down neg d c (fun (x71 : Int) (x72 : Bool) => Q (SV.tup [SV.int .i64 x71, SV.bool x72]) ([])) := by kernel_rfl
def down_sp : List AS := [.val (.agg [.bool false, .arr (.int .i64) [] 8]), .val (.int .i64 0)]
noncomputable def down_go {α : Type} (ds : List D) (Q : SV → Hp → Option α) : Option α :=
  dB ds fun neg ds => dL (K.int IntKind.i64) ds fun d ds => dI ds fun c ds => dE ds (M.down neg d c (fun (x71 : Int) (x72 : Bool) => Q (SV.tup [SV.int .i64 x71, SV.bool x72]) ([])))
theorem down_ok {α : Type} : FnOk E.P 73 (fEnt (α := α) down_sp down_go) :=
  fEnt_ok E (look_rtimes_ok) (exec_sound E E_ok (look_rtimes_ok) (down_l1_lps_ok) 400) fun ds Q r h => by
    unfold down_go at h
    obtain ⟨neg, ds, rfl, h1⟩ := dB_inv h
    obtain ⟨d, ds, rfl, h2⟩ := dL_inv h1
    obtain ⟨c, ds, rfl, h3⟩ := dI_inv h2
    obtain ⟨rfl, hE⟩ := dE_inv h3
    exact ⟨[SV.agg [SV.bool neg, SV.arr (K.int IntKind.i64) d (nat_lit 8)], SV.int .i64 c], [], fun vs => by kernel_rfl, (down_eq neg d c Q).trans hE⟩
def bitOf : Nat → Int
  | 0 => 0
  | k + 1 => 2 ^ k
theorem bitOf0 : bitOf 0 = 0 := rfl
theorem bitOfS (k : Nat) : bitOf (k + 1) = 2 ^ k := rfl
theorem bitOf_half (k : Nat) : Int.tdiv (2 ^ k) 2 = bitOf k := by
  cases k with
  | zero => decide
  | succ k =>
    rw [bitOfS, Int.tdiv_eq_ediv_of_nonneg (Int.le_of_lt (Int.pow_pos (by decide))), Int.pow_succ]
    omega
theorem p2 (k : Nat) : (0 : Int) < 2 ^ k := Int.pow_pos (by decide)
theorem p2le {k n : Nat} (h : k ≤ n) : (2 : Int) ^ k ≤ 2 ^ n := by
  obtain ⟨m, rfl⟩ := Nat.le.dest h
  rw [Int.pow_add]
  have := Int.mul_le_mul_of_nonneg_left (show (1 : Int) ≤ 2 ^ m by have := p2 m; omega) (Int.le_of_lt (p2 k))
  omega
theorem p23 : (2 : Int) ^ 23 = 8388608 := by kernel_rfl
theorem down_l0_val {α : Type} (cc : Int) (j : Nat) (d : List Int) (hd : okD d = true) (hj : j < 8) (hc0 : 0 < cc) (hc1 : cc ≤ 4611686018427387903) (k0 k2 : Int → Int → Option α) : ∀ (m fuel : Nat) (T : Int), m ≤ 24 → m < fuel → 0 ≤ T → T / cc < 4611686018427387904 →
    (∃ q r, M.down_l0 cc (j : Int) d k0 k2 fuel (T / cc) (T % cc) (bitOf m) = k0 q r ∧ 4611686018427387904 ≤ (T * 2 ^ m + d.getD j 0 % 2 ^ m) / cc) ∨
    (M.down_l0 cc (j : Int) d k0 k2 fuel (T / cc) (T % cc) (bitOf m) = k2 ((T * 2 ^ m + d.getD j 0 % 2 ^ m) / cc) ((T * 2 ^ m + d.getD j 0 % 2 ^ m) % cc) ∧ (T * 2 ^ m + d.getD j 0 % 2 ^ m) / cc < 4611686018427387904)
  | 0, fuel, T, h1, h2, hT, hq => by
    obtain ⟨f, rfl⟩ : ∃ f, fuel = f + 1 := ⟨fuel - 1, by omega⟩
    right
    unfold M.down_l0 M.down_l0_step
    simp only [bitOf0, cLt_eq, Int.lt_irrefl, decide_false, Bool.false_eq_true, if_false, Int.pow_zero, Int.emod_one, Int.mul_one, Int.add_zero, true_and]
    exact hq
  | m + 1, fuel, T, h1, h2, hT, hq => by
    obtain ⟨f, rfl⟩ : ∃ f, fuel = f + 1 := ⟨fuel - 1, by omega⟩
    have da := okD_get hd j
    have hp := p2 m
    have hp24 : (2 : Int) ^ m ≤ 8388608 := Int.le_trans (p2le (show m ≤ 23 by omega)) (Int.le_of_eq p23)
    have hps : (2 : Int) ^ (m + 1) = 2 * 2 ^ m := by rw [Int.pow_succ]; omega
    have hq0 : 0 ≤ T / cc := Int.ediv_nonneg hT (by omega)
    have hr0 : 0 ≤ T % cc := Int.emod_nonneg T (by omega)
    have hr1 : T % cc < cc := Int.emod_lt_of_pos T hc0
    have hTe : T / cc * cc + T % cc = T := Int.ediv_mul_add_emod T cc
    generalize ha : d.getD j 0 = a at *
    -- the bit
    have hb0 : 0 ≤ a / 2 ^ m := Int.ediv_nonneg da.1 (by omega)
    have hble : a / 2 ^ m ≤ a := Int.ediv_le_self _ da.1
    have hbit : a % 2 ^ (m + 1) = a / 2 ^ m % 2 * 2 ^ m + a % 2 ^ m := by
      have e1 : a / 2 ^ m * 2 ^ m + a % 2 ^ m = a := Int.ediv_mul_add_emod a _
      have e2 : 2 * (a / 2 ^ m / 2) + a / 2 ^ m % 2 = a / 2 ^ m := Int.mul_ediv_add_emod _ 2
      have hm0 : 0 ≤ a % 2 ^ m := Int.emod_nonneg a (by omega)
      have hm1 : a % 2 ^ m < 2 ^ m := Int.emod_lt_of_pos a hp
      have e3 : a = (a / 2 ^ m % 2 * 2 ^ m + a % 2 ^ m) + 2 ^ (m + 1) * (a / 2 ^ m / 2) := by
        rw [hps]; grind
      have e4 : a / 2 ^ m % 2 = 0 ∨ a / 2 ^ m % 2 = 1 := by omega
      conv => lhs; rw [e3]
      rw [Int.add_mul_emod_self_left]
      apply Int.emod_eq_of_lt
      · rcases e4 with h | h <;> rw [h] <;> omega
      · rw [hps]; rcases e4 with h | h <;> rw [h] <;> omega
    generalize hβ : a / 2 ^ m % 2 = β at *
    have hβ' : β = 0 ∨ β = 1 := by omega
    -- what comes next
    have hnext : T * 2 ^ (m + 1) + a % 2 ^ (m + 1) = (2 * T + β) * 2 ^ m + a % 2 ^ m := by rw [hbit, hps]; grind
    have hm0 : 0 ≤ a % 2 ^ m := Int.emod_nonneg a (by omega)
    rw [hnext]
    have hexit : 2305843009213693951 < T / cc → 4611686018427387904 ≤ ((2 * T + β) * 2 ^ m + a % 2 ^ m) / cc := by
      intro h
      apply Int.le_ediv_of_mul_le hc0
      have g1 : 2305843009213693952 * cc ≤ T / cc * cc := Int.mul_le_mul_of_nonneg_right (by omega) (by omega)
      have g2 : (2 * T + β) * 1 ≤ (2 * T + β) * 2 ^ m := Int.mul_le_mul_of_nonneg_left (by omega) (by omega)
      omega
    have hstep : T / cc ≤ 2305843009213693951 → (2 * T + β) / cc = (if cc ≤ 2 * (T % cc) + β then 2 * (T / cc) + 1 else 2 * (T / cc)) ∧ (2 * T + β) % cc = (if cc ≤ 2 * (T % cc) + β then 2 * (T % cc) + β - cc else 2 * (T % cc) + β) := by
      intro h
      split
      · have e : 2 * T + β = (2 * (T % cc) + β - cc) + cc * (2 * (T / cc) + 1) := by
          have : cc * (2 * (T / cc) + 1) = 2 * (T / cc * cc) + cc := by grind
          omega
        constructor
        · rw [e, Int.add_mul_ediv_left _ _ (by omega), Int.ediv_eq_zero_of_lt (by omega) (by omega)]; omega
        · rw [e, Int.add_mul_emod_self_left]; exact Int.emod_eq_of_lt (by omega) (by omega)
      · have e : 2 * T + β = (2 * (T % cc) + β) + cc * (2 * (T / cc)) := by
          have : cc * (2 * (T / cc)) = 2 * (T / cc * cc) := by grind
          omega
        constructor
        · rw [e, Int.add_mul_ediv_left _ _ (by omega), Int.ediv_eq_zero_of_lt (by omega) (by omega)]; omega
        · rw [e, Int.add_mul_emod_self_left]; exact Int.emod_eq_of_lt (by omega) (by omega)
    have ih := down_l0_val cc j d hd hj hc0 hc1 k0 k2 m f (2 * T + β) (by omega) (by omega) (by omega)
    rw [ha] at ih
    conv => enter [1, 1, q, 1, r]; lhs; unfold M.down_l0 M.down_l0_step
    conv => enter [2]; lhs; lhs; unfold M.down_l0 M.down_l0_step
    have hj0 : (0 : Int) ≤ (j : Int) ∧ (j : Int) < 8 := by omega
    have hbit0 : ¬ (2 : Int) ^ m = 0 := by omega
    have hdig : Int.tmod (IntKind.wrap IntKind.i64 (Int.tdiv a (2 ^ m))) 2 = β := by
      rw [Int.tdiv_eq_ediv_of_nonneg da.1, IntWalk.i64_in _ (by omega), Int.tmod_eq_emod_of_nonneg hb0]; exact hβ
    have w2 : IntKind.wrap .i64 (2 * (T % cc)) = 2 * (T % cc) := IntWalk.i64_in _ (by omega)
    have w3 : IntKind.wrap .i64 (2 * (T % cc) + 1) = 2 * (T % cc) + 1 := IntWalk.i64_in _ (by omega)
    have w4 : IntKind.wrap .i64 (Int.tdiv (2 ^ m) 2) = bitOf m := by
      rw [bitOf_half]
      apply IntWalk.i64_in
      cases m with
      | zero => rw [bitOf0]; omega
      | succ k => rw [bitOfS]; have g1 := p2 k; have g2 : (2 : Int) ^ k ≤ 8388608 := Int.le_trans (p2le (show k ≤ 23 by omega)) (Int.le_of_eq p23); omega
    simp only [bitOfS, cLt_eq, cLe_eq, cEq_eq, hp, hj0, hbit0, Int.toNat_natCast, ha, hdig, w2, w3, w4, decide_true, if_true, if_false, and_self]
    by_cases hbig : 2305843009213693951 < T / cc
    · left
      rcases hβ' with h | h
      · exact ⟨T / cc, 2 * (T % cc), by simp [h, hbig], hexit hbig⟩
      · exact ⟨T / cc, 2 * (T % cc) + 1, by simp [h, hbig], hexit hbig⟩
    · obtain ⟨s1, s2⟩ := hstep (by omega)
      have w5 : IntKind.wrap .i64 (2 * (T / cc)) = 2 * (T / cc) := IntWalk.i64_in _ (by omega)
      have w6 : IntKind.wrap .i64 (2 * (T / cc) + 1) = 2 * (T / cc) + 1 := IntWalk.i64_in _ (by omega)
      have hq' : (2 * T + β) / cc < 4611686018427387904 := by rw [s1]; split <;> omega
      have ih := ih hq'
      rw [s1, s2] at ih
      simp only [hbig, decide_false, Bool.false_eq_true, if_false, w5, w6]
      rcases hβ' with h | h
      · subst h
        simp only [Int.add_zero] at ih ⊢
        have e : ((0 : Int) == 1) = false := by decide
        simp only [e, Bool.false_eq_true, if_false]
        by_cases hge : cc ≤ 2 * (T % cc)
        · have w7 : IntKind.wrap .i64 (2 * (T % cc) - cc) = 2 * (T % cc) - cc := IntWalk.i64_in _ (by omega)
          simp only [hge, decide_true, if_true, w7] at ih ⊢
          exact ih
        · simp only [hge, decide_false, Bool.false_eq_true, if_false] at ih ⊢
          exact ih
      · subst h
        simp only [beq_self_eq_true, if_true]
        by_cases hge : cc ≤ 2 * (T % cc) + 1
        · have w7 : IntKind.wrap .i64 (2 * (T % cc) + 1 - cc) = 2 * (T % cc) + 1 - cc := IntWalk.i64_in _ (by omega)
          simp only [hge, decide_true, if_true, w7] at ih ⊢
          exact ih
        · simp only [hge, decide_false, Bool.false_eq_true, if_false] at ih ⊢
          exact ih
theorem p24 : (2 : Int) ^ 24 = 16777216 := by kernel_rfl
theorem val_drop_le {D : List Int} (h : okD D = true) (m : Nat) : val (D.drop m) ≤ val D := by
  have e := val_append (D.take m) (D.drop m)
  rw [List.take_append_drop] at e
  have h1 := val_bound (okD_take h m)
  have h2 := val_bound (okD_drop h m)
  have := Int.mul_le_mul_of_nonneg_right (show (1 : Int) ≤ 16777216 ^ (D.take m).length by have := pB (D.take m).length; omega) h2.1
  omega
theorem down_l1_val {α : Type} (cc : Int) (d : List Int) (hd : okD d = true) (ld : d.length = 8) (hc0 : 0 < cc) (hc1 : cc ≤ 4611686018427387903) (k1 k2 : Int → Int → Option α) : ∀ (m fuel : Nat), m ≤ 8 → m < fuel → val (d.drop m) / cc < 4611686018427387904 →
    (∃ q r, M.down_l1 cc d k1 k2 fuel (val (d.drop m) / cc) (val (d.drop m) % cc) ((m : Int) - 1) = k1 q r ∧ 4611686018427387904 ≤ val d / cc) ∨
    (M.down_l1 cc d k1 k2 fuel (val (d.drop m) / cc) (val (d.drop m) % cc) ((m : Int) - 1) = k2 (val d / cc) (val d % cc) ∧ val d / cc < 4611686018427387904)
  | 0, fuel, h1, h2, hq => by
    obtain ⟨f, rfl⟩ : ∃ f, fuel = f + 1 := ⟨fuel - 1, by omega⟩
    right
    unfold M.down_l1 M.down_l1_step
    have e : ¬ (0 : Int) ≤ ((0 : Nat) : Int) - 1 := by omega
    rw [List.drop_zero] at hq ⊢
    simp only [cLe_eq, e, decide_false, Bool.false_eq_true, if_false, true_and]
    exact hq
  | m + 1, fuel, h1, h2, hq => by
    obtain ⟨f, rfl⟩ : ∃ f, fuel = f + 1 := ⟨fuel - 1, by omega⟩
    have e0 : (((m + 1 : Nat) : Int) - 1) = (m : Int) := by omega
    rw [e0]
    have dm := okD_get hd m
    have hT0 := (val_bound (okD_drop hd (m + 1))).1
    have hT'0 := (val_bound (okD_drop hd m)).1
    have hT' : val (d.drop m) = val (d.drop (m + 1)) * 2 ^ 24 + d.getD m 0 % 2 ^ 24 := by
      rw [drop_getD (by omega : m < d.length), val, p24]; omega
    have hTe : val (d.drop (m + 1)) / cc * cc + val (d.drop (m + 1)) % cc = val (d.drop (m + 1)) := Int.ediv_mul_add_emod _ cc
    have ih := down_l1_val cc d hd ld hc0 hc1 k1 k2 m f (by omega) (by omega)
    have hle : val (d.drop m) / cc ≤ val d / cc := Int.ediv_le_ediv hc0 (val_drop_le hd m)
    have w1 : IntKind.wrap .i64 ((m : Int) - 1) = (m : Int) - 1 := IntWalk.i64_in _ (by omega)
    -- the digit's bits
    have hR : (∃ q r, M.down_l0 cc (m : Int) d (fun x y => k1 x y) (fun x y => M.down_l1 cc d k1 k2 f x y ((m : Int) - 1)) (100 + d.length) (val (d.drop (m + 1)) / cc) (val (d.drop (m + 1)) % cc) 8388608 = k1 q r ∧ 4611686018427387904 ≤ val d / cc) ∨
        (M.down_l0 cc (m : Int) d (fun x y => k1 x y) (fun x y => M.down_l1 cc d k1 k2 f x y ((m : Int) - 1)) (100 + d.length) (val (d.drop (m + 1)) / cc) (val (d.drop (m + 1)) % cc) 8388608 = k2 (val d / cc) (val d % cc) ∧ val d / cc < 4611686018427387904) := by
      have hb : (8388608 : Int) = bitOf 24 := p23.symm
      rw [hb]
      rcases down_l0_val cc m d hd (by omega) hc0 hc1 (fun x y => k1 x y) (fun x y => M.down_l1 cc d k1 k2 f x y ((m : Int) - 1)) 24 (100 + d.length) (val (d.drop (m + 1))) (by omega) (by omega) hT0 hq with ⟨q, r, g1, g2⟩ | ⟨g1, g2⟩
      · rw [← hT'] at g2
        exact .inl ⟨q, r, g1, by omega⟩
      · rw [← hT'] at g1 g2
        rw [g1]
        exact ih g2
    conv => enter [1, 1, q, 1, r]; lhs; unfold M.down_l1 M.down_l1_step
    conv => enter [2]; lhs; lhs; unfold M.down_l1 M.down_l1_step
    have c1 : (0 : Int) ≤ (m : Int) := by omega
    have c2 : (m : Int) < 8 := by omega
    simp only [cLe_eq, cEq_eq, c1, c2, decide_true, if_true, and_self, Int.toNat_natCast, w1]
    by_cases z1 : d.getD m 0 = 0
    · by_cases z2 : val (d.drop (m + 1)) / cc = 0
      · by_cases z3 : val (d.drop (m + 1)) % cc = 0
        · have hz : val (d.drop m) = 0 := by
            rw [z2, z3] at hTe
            rw [hT', z1, ← hTe]; simp
          rw [hz] at ih
          have := ih (by rw [Int.zero_ediv]; omega)
          rw [Int.zero_ediv, Int.zero_emod] at this
          simp only [z1, z2, z3, beq_self_eq_true, if_true]
          exact this
        · have f3 : (val (d.drop (m + 1)) % cc == 0) = false := by simpa using z3
          rw [z2] at hR
          simp only [z1, z2, f3, beq_self_eq_true, if_true, Bool.false_eq_true, if_false]
          exact hR
      · have f2 : (val (d.drop (m + 1)) / cc == 0) = false := by simpa using z2
        simp only [z1, f2, beq_self_eq_true, if_true, Bool.false_eq_true, if_false]
        exact hR
    · have : (d.getD m 0 == 0) = false := by simpa using z1
      simp only [this, Bool.false_eq_true, if_false]
      exact hR
def _root_.Go.Proofs.Ytkjellhkamfciaa.V.sm (o : Option Int) : Bool := o.isSome
noncomputable def _root_.Go.Proofs.Ytkjellhkamfciaa.V.dn (n : Bool) (d : List Int) (c : Int) : Option Int := V.tl (Int.fdiv (wv n d) c)
/-- What Down does with a quotient and a rest. -/
theorem down_fin {α : Type} (N : Bool) (X cc : Int) (hX : 0 ≤ X) (hc0 : 0 < cc) (hq : X / cc < 4611686018427387904) (k0 : Int → Bool → Option α) :
    (if N = true then
        if cLt (0 : Int) (X % cc) = true then
          if cLt (4611686018427387903 : Int) (IntKind.wrap IntKind.i64 (X / cc + (1 : Int))) = true then k0 (0 : Int) false
          else
            if N = true then k0 (IntKind.wrap IntKind.i64 ((0 : Int) - IntKind.wrap IntKind.i64 (X / cc + (1 : Int)))) true
            else k0 (IntKind.wrap IntKind.i64 (X / cc + (1 : Int))) true
        else
          if cLt (4611686018427387903 : Int) (X / cc) = true then k0 (0 : Int) false else if N = true then k0 (IntKind.wrap IntKind.i64 ((0 : Int) - X / cc)) true else k0 (X / cc) true
      else
        if cLt (4611686018427387903 : Int) (X / cc) = true then k0 (0 : Int) false else if N = true then k0 (IntKind.wrap IntKind.i64 ((0 : Int) - X / cc)) true else k0 (X / cc) true) =
      k0 (V.gv (V.tl ((if N then -X else X) / cc))) (V.sm (V.tl ((if N then -X else X) / cc))) := by
  have hq0 : 0 ≤ X / cc := Int.ediv_nonneg hX (by omega)
  have hm0 : 0 ≤ X % cc := Int.emod_nonneg X (by omega)
  have hm1 : X % cc < cc := Int.emod_lt_of_pos X hc0
  have hd : X / cc * cc + X % cc = X := Int.ediv_mul_add_emod X cc
  have hneg : (-X) / cc = if 0 < X % cc then -(X / cc) - 1 else -(X / cc) := by
    split
    · rename_i h
      apply Int.ediv_eq_iff_of_pos hc0 |>.2
      have e : (-(X / cc) - 1) * cc = -(X / cc * cc) - cc := by grind
      constructor <;> grind
    · rename_i h
      have e : X = cc * (X / cc) := by rw [Int.mul_comm]; omega
      have : -X = cc * (-(X / cc)) := by rw [Int.mul_neg, ← e]
      rw [this, Int.mul_ediv_cancel_left _ (by omega)]
  simp only [cLt_eq]
  unfold V.tl V.gv V.sm
  cases N with
  | false =>
    simp only [Bool.false_eq_true, if_false]
    have h1 : ¬ 4611686018427387903 < X / cc := by omega
    have h2 : isG (X / cc) = false := by rw [isG_false]; omega
    simp [h1, h2]
  | true =>
    simp only [if_true]
    rw [hneg]
    by_cases c0 : 0 < X % cc
    · simp only [c0, decide_true, if_true]
      rw [IntWalk.i64_in (X / cc + 1) (by omega)]
      by_cases c1 : 4611686018427387903 < X / cc + 1
      · have h2 : isG (-(X / cc) - 1) = true := by rw [isG_iff]; omega
        simp [c1, h2]
      · have h2 : isG (-(X / cc) - 1) = false := by rw [isG_false]; omega
        rw [IntWalk.i64_in (0 - (X / cc + 1)) (by omega)]
        simp only [c1, h2, decide_false, Bool.false_eq_true, if_false, Option.getD_some, Option.isSome_some]
        rw [show (0 : Int) - (X / cc + 1) = -(X / cc) - 1 by omega]
    · simp only [c0, decide_false, Bool.false_eq_true, if_false]
      have h1 : ¬ 4611686018427387903 < X / cc := by omega
      have h2 : isG (-(X / cc)) = false := by rw [isG_false]; omega
      rw [IntWalk.i64_in (0 - X / cc) (by omega)]
      simp only [h1, h2, decide_false, Bool.false_eq_true, if_false, Option.getD_some, Option.isSome_some]
      rw [show (0 : Int) - X / cc = -(X / cc) by omega]
theorem down_main {α : Type} (N : Bool) (cc : Int) (d : List Int) (hd : V.ok8 d = true) (hc0 : 0 < cc) (hc1 : cc ≤ 4611686018427387903) (k0 : Int → Bool → Option α) (k2 : Int → Int → Option α)
    (hk : ∀ X, 0 ≤ X → X / cc < 4611686018427387904 → k2 (X / cc) (X % cc) = k0 (V.gv (V.tl ((if N then -X else X) / cc))) (V.sm (V.tl ((if N then -X else X) / cc)))) :
    M.down_l1 cc d (fun _ _ => k0 0 false) k2 (100 + d.length) 0 0 7 = k0 (V.gv (V.tl (wv N d / cc))) (V.sm (V.tl (wv N d / cc))) := by
  rw [ok8_iff] at hd
  have v := val_bound hd.2
  have e8 : d.drop 8 = [] := List.drop_of_length_le (by omega)
  have h := down_l1_val cc d hd.2 hd.1 hc0 hc1 (fun _ _ => k0 0 false) k2 8 (100 + d.length) (by omega) (by omega) (by rw [e8, val, Int.zero_ediv]; omega)
  rw [e8, val, Int.zero_ediv, Int.zero_emod, show (((8 : Nat) : Int) - 1) = 7 by rfl] at h
  rcases h with ⟨_, _, g1, g2⟩ | ⟨g1, g2⟩
  · rw [g1]
    have hg : isG (wv N d / cc) = true := by
      rw [isG_iff]
      unfold wv
      cases N with
      | false => simp only [Bool.false_eq_true, if_false]; omega
      | true =>
        simp only [if_true]
        left
        have : (-val d) / cc ≤ -(val d / cc) := by
          have h1 : (-val d) / cc * cc + (-val d) % cc = -val d := Int.ediv_mul_add_emod _ cc
          have h2 : val d / cc * cc + val d % cc = val d := Int.ediv_mul_add_emod _ cc
          have h3 : 0 ≤ (-val d) % cc := Int.emod_nonneg _ (by omega)
          have h4 : 0 ≤ val d % cc := Int.emod_nonneg _ (by omega)
          by_cases hlt : (-val d) / cc ≤ -(val d / cc)
          · exact hlt
          · have : (-(val d / cc) + 1) * cc ≤ (-val d) / cc * cc := Int.mul_le_mul_of_nonneg_right (by omega) (by omega)
            have e : (-(val d / cc) + 1) * cc = -(val d / cc * cc) + cc := by grind
            omega
        omega
    unfold V.tl V.gv V.sm
    simp [hg]
  · rw [g1, hk _ v.1 g2]
    rfl
theorem down_v {α : Type} (n : Bool) (d : List Int) (c : Int) (hd : V.ok8 d = true) (h0 : c ≠ 0) (hc : -4611686018427387903 ≤ c ∧ c ≤ 4611686018427387903) (k0 : Int → Bool → Option α) : M.down n d c k0 = k0 (V.gv (V.dn n d c)) (V.sm (V.dn n d c)) := by
  unfold M.down V.dn
  rw [cLt_eq]
  by_cases hn : c < 0
  · simp only [hn, decide_true, if_true]
    rw [IntWalk.i64_in (0 - c) (by omega)]
    have hf : Int.fdiv (wv n d) c = wv (!n) d / (0 - c) := by
      rw [← Int.neg_fdiv_neg, fdiv_pos _ _ (by omega), Int.zero_sub]
      unfold wv; cases n <;> simp
    rw [hf]
    exact down_main (!n) (0 - c) d hd (by omega) (by omega) k0 _ (fun X hX hq => down_fin (!n) X (0 - c) hX (by omega) hq k0)
  · simp only [hn, decide_false, Bool.false_eq_true, if_false]
    rw [fdiv_pos _ _ (by omega)]
    exact down_main n c d hd (by omega) (by omega) k0 _ (fun X hX hq => down_fin n X c hX (by omega) hq k0)
noncomputable def down_h {α : Type} (ds : List D) (Q : SV → Hp → Option α) : Option α :=
  dB ds fun neg ds => dL (K.int IntKind.i64) ds fun d ds => dI ds fun c ds => dE ds (if V.ok8 d = true ∧ c ≠ 0 ∧ -4611686018427387903 ≤ c ∧ c ≤ 4611686018427387903 then Q (.tup [.int .i64 (V.gv (V.dn neg d c)), .bool (V.sm (V.dn neg d c))]) ([]) else none)
theorem down_h_ok {α : Type} : FnOk E.P 73 (fEnt (α := α) down_sp down_h) :=
  fEnt_ok E (look_rtimes_ok) (exec_sound E E_ok (look_rtimes_ok) (down_l1_lps_ok) 400) fun ds Q r h => by
    unfold down_h at h
    obtain ⟨neg, ds, rfl, h1⟩ := dB_inv h
    obtain ⟨d, ds, rfl, h2⟩ := dL_inv h1
    obtain ⟨c, ds, rfl, h3⟩ := dI_inv h2
    obtain ⟨rfl, hE⟩ := dE_inv h3
    split at hE
    · rename_i hg
      exact ⟨[SV.agg [SV.bool neg, SV.arr (K.int IntKind.i64) d (nat_lit 8)], SV.int .i64 c], [], fun vs => by kernel_rfl, (down_eq neg d c Q).trans ((down_v neg d c hg.1 hg.2.1 hg.2.2 _).trans hE)⟩
    · cases hE
noncomputable def look_down {α : Type} : LookF α := addFn 73 (fEnt down_sp down_h) look_rtimes
theorem look_down_ok {α : Type} : LookOk E.P (look_down (α := α)) := addFn_ok down_h_ok (look_rtimes_ok)
end Go.Proofs.Ytkjellhkamfciaa.Sx
end

section
/- The document's own numbers: RootOf, Sum. -/
namespace Go.Proofs.Ytkjellhkamfciaa.Sx
open Go
set_option linter.unusedVariables false
set_option linter.unusedSimpArgs false
theorem anyG_cons' (x : Int) (l : List Int) : V.anyG (x :: l) = (isG x || V.anyG l) := by simp [V.anyG]
theorem ofN_prod {x y : Int} (hx : isG x = false) (hy : isG y = false) : val (V.ofN x) * val (V.ofN y) ≤ 21267647932558653966460912964485513216 ∧ V.ok8 (V.tmD (V.ofN x) (V.ofN y)) = true ∧ val (V.tmD (V.ofN x) (V.ofN y)) ≤ 21267647932558653966460912964485513216 ∧
    wv (V.tmN (decide (x < 0)) (decide (y < 0))) (V.tmD (V.ofN x) (V.ofN y)) = x * y := by
  rw [isG_false] at hx hy
  have ex := ofN_val (n := x) (by omega)
  have ey := ofN_val (n := y) (by omega)
  have bx : 0 ≤ val (V.ofN x) ∧ val (V.ofN x) ≤ 4611686018427387903 := by rw [ex]; split <;> omega
  have bY : 0 ≤ val (V.ofN y) ∧ val (V.ofN y) ≤ 4611686018427387903 := by rw [ey]; split <;> omega
  have hp : val (V.ofN x) * val (V.ofN y) ≤ 4611686018427387903 * 4611686018427387903 := Int.mul_le_mul bx.2 bY.2 bY.1 (by omega)
  have ok := tmD_ok (ofN_ok x) (ofN_ok y)
  have hv := tmD_val (ofN_ok x) (ofN_ok y) (by omega)
  refine ⟨by omega, ok, by rw [hv]; omega, ?_⟩
  rw [tm_val _ _ (ofN_ok x) (ofN_ok y) (by omega)]
  unfold wv
  rw [ex, ey]
  by_cases h1 : x < 0 <;> by_cases h2 : y < 0 <;> simp [h1, h2]
theorem sq_ls {d : List Int} {t : Int} (hd : V.ok8 d = true) (h0 : 0 ≤ t) (h1 : t ≤ 4611686018427387904) (hs : val d < 1569275433846670190958947355801916604025588861116008628224) :
    V.two d (V.tmD (V.ofN t) (V.ofN t)) = true ∧ V.ls false d (V.tmN (decide (t < 0)) (decide (t < 0))) (V.tmD (V.ofN t) (V.ofN t)) = decide (val d < t * t) := by
  have ex := ofN_val (n := t) (by omega)
  rw [if_neg (by omega)] at ex
  have hp : t * t ≤ 4611686018427387904 * 4611686018427387904 := Int.mul_le_mul h1 h1 h0 (by omega)
  have ok := tmD_ok (ofN_ok t) (ofN_ok t)
  have hv := tmD_val (ofN_ok t) (ofN_ok t) (by rw [ex]; omega)
  rw [ex] at hv
  have hn : ¬ t < 0 := by omega
  refine ⟨?_, ?_⟩
  · unfold V.two
    rw [hd, ok, hv]
    simp only [Bool.and_self, Bool.true_and, decide_eq_true_eq]
    omega
  · unfold V.ls wv V.tmN
    simp [hn, hv]
theorem p62 : (2 : Int) ^ 62 = 4611686018427387904 := by kernel_rfl
theorem p61 : (2305843009213693952 : Int) = bitOf 62 := by kernel_rfl
theorem isq_big {x : Int} (h0 : 0 ≤ x) : (4611686018427387903 < V.isq x) ↔ ¬ x < 4611686018427387904 * 4611686018427387904 := by
  have hex : ∀ n : Nat, ∃ r : Int, 0 ≤ r ∧ r * r ≤ (n : Int) ∧ (n : Int) < (r + 1) * (r + 1) := by
    intro n
    induction n with
    | zero => exact ⟨0, by decide, by decide, by decide⟩
    | succ n ih =>
      obtain ⟨r, h0, h1, h2⟩ := ih
      by_cases h : ((n + 1 : Nat) : Int) < (r + 1) * (r + 1)
      · exact ⟨r, h0, by push_cast; omega, h⟩
      · refine ⟨r + 1, by omega, by omega, ?_⟩
        have e : (r + 1 + 1) * (r + 1 + 1) = (r + 1) * (r + 1) + 2 * r + 3 := by grind
        push_cast at h ⊢
        omega
  obtain ⟨n, rfl⟩ := Int.eq_ofNat_of_zero_le h0
  obtain ⟨r, hr⟩ := hex n
  rw [isq_eq hr]
  constructor
  · intro h
    have : 4611686018427387904 * 4611686018427387904 ≤ r * r := Int.mul_le_mul (by omega) (by omega) (by omega) (by omega)
    omega
  · intro h
    by_cases hlt : 4611686018427387903 < r
    · exact hlt
    · have : (r + 1) * (r + 1) ≤ 4611686018427387904 * 4611686018427387904 := Int.mul_le_mul (by omega) (by omega) (by omega) (by omega)
      omega
def _root_.Go.Proofs.Ytkjellhkamfciaa.V.vl (d : List Int) : Int := val d
noncomputable def smF : List Int → List Int → Bool → List Int → Bool × List Int
  | x :: a, y :: b, n, D => smF a b (V.plN n D (V.tmN (decide (x < 0)) (decide (y < 0))) (V.tmD (V.ofN x) (V.ofN y))) (V.plD n D (V.tmN (decide (x < 0)) (decide (y < 0))) (V.tmD (V.ofN x) (V.ofN y)))
  | _, _, n, D => (n, D)
theorem smF_val : ∀ (a b : List Int) (n : Bool) (D : List Int) (K : Nat), V.anyG a = false → V.anyG b = false → V.ok8 D = true → val D ≤ 21267647932558653966460912964485513216 * (K : Int) → K + a.length ≤ 16 →
    V.ok8 (smF a b n D).2 = true ∧ wv (smF a b n D).1 (smF a b n D).2 = wv n D + V.dotZ a b ∧ val (smF a b n D).2 ≤ 21267647932558653966460912964485513216 * ((K + a.length : Nat) : Int)
  | [], b, n, D, K, _, _, hD, hv, hK => by simp [smF, V.dotZ, hD]; exact hv
  | x :: a, [], n, D, K, _, _, hD, hv, hK => by simp [smF, V.dotZ, hD]; omega
  | x :: a, y :: b, n, D, K, ha, hb, hD, hv, hK => by
    rw [anyG_cons', Bool.or_eq_false_iff] at ha hb
    obtain ⟨p1, p2, p3, p4⟩ := ofN_prod ha.1 hb.1
    simp only [List.length_cons] at hK ⊢
    obtain ⟨q1, q2⟩ := pl_val n (V.tmN (decide (x < 0)) (decide (y < 0))) hD p2 (by omega)
    have ok := plD_ok n (V.tmN (decide (x < 0)) (decide (y < 0))) hD p2
    obtain ⟨r1, r2, r3⟩ := smF_val a b _ _ (K + 1) ha.2 hb.2 ok (by push_cast; omega) (by omega)
    rw [smF]
    refine ⟨r1, ?_, ?_⟩
    · rw [r2, q1, p4]
      simp only [V.dotZ, List.zipWith_cons_cons, List.sum_cons]
      omega
    · rw [show K + (a.length + 1) = K + 1 + a.length by omega]; exact r3
theorem smF_sq : ∀ (a : List Int) (D : List Int), (smF a a false D).1 = false
  | [], D => rfl
  | x :: a, D => by
    rw [smF]
    have : V.plN false D (V.tmN (decide (x < 0)) (decide (x < 0))) (V.tmD (V.ofN x) (V.ofN x)) = false := by unfold V.plN V.tmN; simp
    rw [this]
    exact smF_sq a _
theorem smF_drop (a b : List Int) (i : Nat) (h1 : i < a.length) (h2 : i < b.length) (n : Bool) (D : List Int) :
    smF (a.drop i) (b.drop i) n D = smF (a.drop (i + 1)) (b.drop (i + 1)) (V.plN n D (V.tmN (decide (a.getD i 0 < 0)) (decide (b.getD i 0 < 0))) (V.tmD (V.ofN (a.getD i 0)) (V.ofN (b.getD i 0)))) (V.plD n D (V.tmN (decide (a.getD i 0 < 0)) (decide (b.getD i 0 < 0))) (V.tmD (V.ofN (a.getD i 0)) (V.ofN (b.getD i 0)))) := by
  rw [drop_getD h1, drop_getD h2, smF]
theorem anyG_getG {l : List Int} (h : V.anyG l = false) (i : Nat) : isG (l.getD i 0) = false := by
  unfold V.anyG at h
  by_cases hi : i < l.length
  · have := List.any_eq_false.1 h (l[i]) (List.getElem_mem hi)
    simpa [List.getD_eq_getElem?_getD, hi] using this
  · have e : l.getD i 0 = 0 := by simp [List.getD_eq_getElem?_getD, hi]
    rw [e]; decide
noncomputable def _root_.Go.Proofs.Ytkjellhkamfciaa.V.smN (a b : List Int) : Bool := (smF a b false (List.replicate 8 0)).1
noncomputable def _root_.Go.Proofs.Ytkjellhkamfciaa.V.smD (a b : List Int) : List Int := (smF a b false (List.replicate 8 0)).2
end Go.Proofs.Ytkjellhkamfciaa.Sx
end

section
/- The document's own words. -/
namespace Go.Proofs.Ytkjellhkamfciaa.Sx
open Go
set_option maxRecDepth 20000
set_option linter.unusedVariables false
set_option linter.unusedSimpArgs false
theorem tells_none (bad : Bool) (n : Int) : V.tells_r0 bad n false = V.gv none ∧ V.tells_r1 bad n false = V.gn none bad := by
  unfold V.tells_r0 V.tells_r1 V.gv V.gn; simp
theorem tells_tl (bad : Bool) (n : Int) : V.tells_r0 bad n true = V.gv (V.tl n) ∧ V.tells_r1 bad n true = V.gn (V.tl n) bad := by
  unfold V.tells_r0 V.tells_r1 V.gv V.gn V.tl
  simp only [cLt_eq]
  by_cases h1 : n < -4611686018427387903
  · have : isG n = true := by rw [isG_iff]; omega
    simp [h1, this]
  · by_cases h2 : 4611686018427387903 < n
    · have : isG n = true := by rw [isG_iff]; omega
      simp [h1, h2, this]
    · have : isG n = false := by rw [isG_false]; omega
      simp [h1, h2, this]
theorem tells_o (bad : Bool) {o : Option Int} (h : ∀ n, o = some n → isG n = false) : V.tells_r0 bad (V.gv o) (V.sm o) = V.gv o ∧ V.tells_r1 bad (V.gv o) (V.sm o) = V.gn o bad := by
  cases o with
  | none => exact tells_none bad _
  | some n =>
    have := tells_tl bad n
    unfold V.tl at this
    rw [h n rfl] at this
    exact this
theorem tl_G {n m : Int} (h : V.tl n = some m) : isG m = false := by
  unfold V.tl at h
  cases hg : isG n <;> simp_all
theorem mRt_G {x m : Int} (h : V.mRt x = some m) : isG m = false := by
  unfold V.mRt at h
  split at h
  · cases h
  · cases h
    have : 0 ≤ V.isq x := by
      unfold V.isq
      split
      · rename_i he; exact (Classical.choose_spec he).1
      · omega
    rw [isG_false]; omega
theorem aG2 (a b : Int) : V.anyG [a, b] = (isG a || isG b) := by simp [V.anyG]
theorem aG3 (a b c : Int) : V.anyG [a, b, c] = (isG a || isG b || isG c) := by simp [V.anyG, Bool.or_assoc]
theorem aG1 (a : Int) : V.anyG [a] = isG a := by simp [V.anyG]
noncomputable def _root_.Go.Proofs.Ytkjellhkamfciaa.M.radd {α : Type} (bad : Bool) (a : Int) (b : Int) (k0 : Int → Bool → Option α) : Option α :=
  if V.anyG [a, b] = true then k0 (V.tells_r0 bad (0 : Int) false) (V.tells_r1 bad (0 : Int) false) else k0 (V.tells_r0 bad (IntKind.wrap .i64 (a + b)) true) (V.tells_r1 bad (IntKind.wrap .i64 (a + b)) true)
theorem radd_eq {α : Type} (bad : Bool) (a : Int) (b : Int) (Q : SV → Hp → Option α) : callI E look_down (exec E look_down noLps 400) 43 ([SV.ptr (nat_lit 0) (nat_lit 0), SV.int .i64 a, SV.int .i64 b]) ([.cells [SV.bool bad] (nat_lit 68)]) Q = M.radd bad a b (fun (x0 : Int) (x1 : Bool) => Q (SV.int .i64 x0) ([.cells [SV.bool x1] (nat_lit 68)])) := by kernel_rfl
def radd_sp : List AS := [.ptr 68 [.bool false], .val (.int .i64 0), .val (.int .i64 0)]
noncomputable def radd_go {α : Type} (ds : List D) (Q : SV → Hp → Option α) : Option α :=
  dB ds fun bad ds => dI ds fun a ds => dI ds fun b ds => dE ds (M.radd bad a b (fun (x0 : Int) (x1 : Bool) => Q (SV.int .i64 x0) ([.cells [SV.bool x1] (nat_lit 68)])))
theorem radd_ok {α : Type} : FnOk E.P 43 (fEnt (α := α) radd_sp radd_go) :=
  fEnt_ok E (look_down_ok) (exec_sound E E_ok (look_down_ok) (noLps_ok _) 400) fun ds Q r h => by
    unfold radd_go at h
    obtain ⟨bad, ds, rfl, h1⟩ := dB_inv h
    obtain ⟨a, ds, rfl, h2⟩ := dI_inv h1
    obtain ⟨b, ds, rfl, h3⟩ := dI_inv h2
    obtain ⟨rfl, hE⟩ := dE_inv h3
    exact ⟨[SV.ptr (nat_lit 0) (nat_lit 0), SV.int .i64 a, SV.int .i64 b], [.cells [SV.bool bad] (nat_lit 68)], fun vs => by kernel_rfl, (radd_eq bad a b Q).trans hE⟩
theorem radd_v {α : Type} (bad : Bool) (a b : Int) (k0 : Int → Bool → Option α) : M.radd bad a b k0 = k0 (V.gv (V.mAdd a b)) (V.gn (V.mAdd a b) bad) := by
  unfold M.radd V.mAdd
  rw [aG2]
  cases h : (isG a || isG b) with
  | true => simp only [if_true]; rw [(tells_none bad 0).1, (tells_none bad 0).2]
  | false =>
    simp only [Bool.false_eq_true, if_false]
    simp only [Bool.or_eq_false_iff, isG_false] at h
    rw [IntWalk.i64_in _ (by omega), (tells_tl bad _).1, (tells_tl bad _).2]
noncomputable def radd_h {α : Type} (ds : List D) (Q : SV → Hp → Option α) : Option α :=
  dB ds fun bad ds => dI ds fun a ds => dI ds fun b ds => dE ds (Q (.int .i64 (V.gv (V.mAdd a b))) ([.cells [.bool (V.gn (V.mAdd a b) bad)] 68]))
theorem radd_h_ok {α : Type} : FnOk E.P 43 (fEnt (α := α) radd_sp radd_h) :=
  fEnt_ok E (look_down_ok) (exec_sound E E_ok (look_down_ok) (noLps_ok _) 400) fun ds Q r h => by
    unfold radd_h at h
    obtain ⟨bad, ds, rfl, h1⟩ := dB_inv h
    obtain ⟨a, ds, rfl, h2⟩ := dI_inv h1
    obtain ⟨b, ds, rfl, h3⟩ := dI_inv h2
    obtain ⟨rfl, hE⟩ := dE_inv h3
    exact ⟨[SV.ptr (nat_lit 0) (nat_lit 0), SV.int .i64 a, SV.int .i64 b], [.cells [SV.bool bad] (nat_lit 68)], fun vs => by kernel_rfl, (radd_eq bad a b Q).trans ((radd_v bad a b _).trans hE)⟩
noncomputable def look_radd {α : Type} : LookF α := addFn 43 (fEnt radd_sp radd_h) look_down
theorem look_radd_ok {α : Type} : LookOk E.P (look_radd (α := α)) := addFn_ok radd_h_ok (look_down_ok)
noncomputable def _root_.Go.Proofs.Ytkjellhkamfciaa.M.rratio {α : Type} (bad : Bool) (a : Int) (b : Int) (c : Int) (k0 : Int → Bool → Option α) : Option α :=
  if V.anyG [a, b, c] = true then k0 (V.tells_r0 bad (0 : Int) false) (V.tells_r1 bad (0 : Int) false)
else
  if cEq c (0 : Int) = true then k0 (V.tells_r0 bad (0 : Int) false) (V.tells_r1 bad (0 : Int) false)
  else
    if (-9223372036854775808 : Int) ≤ a ∧ a < (9223372036854775808 : Int) then
      if (-9223372036854775808 : Int) ≤ b ∧ b < (9223372036854775808 : Int) then
        if V.ok8 (V.ofN a) = true ∧ V.ok8 (V.ofN b) = true then
          if V.ok8 (V.tmD (V.ofN a) (V.ofN b)) = true ∧ ¬c = (0 : Int) ∧ (-4611686018427387903 : Int) ≤ c ∧ c ≤ (4611686018427387903 : Int) then
            k0 (V.tells_r0 bad (V.gv (V.dn (V.tmN (decide (a < (0 : Int))) (decide (b < (0 : Int)))) (V.tmD (V.ofN a) (V.ofN b)) c)) (V.sm (V.dn (V.tmN (decide (a < (0 : Int))) (decide (b < (0 : Int)))) (V.tmD (V.ofN a) (V.ofN b)) c))) (V.tells_r1 bad (V.gv (V.dn (V.tmN (decide (a < (0 : Int))) (decide (b < (0 : Int)))) (V.tmD (V.ofN a) (V.ofN b)) c)) (V.sm (V.dn (V.tmN (decide (a < (0 : Int))) (decide (b < (0 : Int)))) (V.tmD (V.ofN a) (V.ofN b)) c)))
          else none
        else none
      else none
    else none
theorem rratio_eq {α : Type} (bad : Bool) (a : Int) (b : Int) (c : Int) (Q : SV → Hp → Option α) : callI E look_radd (exec E look_radd noLps 400) 40 ([SV.ptr (nat_lit 0) (nat_lit 0), SV.int .i64 a, SV.int .i64 b, SV.int .i64 c]) ([.cells [SV.bool bad] (nat_lit 68)]) Q = M.rratio bad a b c (fun (x2 : Int) (x3 : Bool) => Q (SV.int .i64 x2) ([.cells [SV.bool x3] (nat_lit 68)])) := by kernel_rfl
def rratio_sp : List AS := [.ptr 68 [.bool false], .val (.int .i64 0), .val (.int .i64 0), .val (.int .i64 0)]
noncomputable def rratio_go {α : Type} (ds : List D) (Q : SV → Hp → Option α) : Option α :=
  dB ds fun bad ds => dI ds fun a ds => dI ds fun b ds => dI ds fun c ds => dE ds (M.rratio bad a b c (fun (x2 : Int) (x3 : Bool) => Q (SV.int .i64 x2) ([.cells [SV.bool x3] (nat_lit 68)])))
theorem rratio_ok {α : Type} : FnOk E.P 40 (fEnt (α := α) rratio_sp rratio_go) :=
  fEnt_ok E (look_radd_ok) (exec_sound E E_ok (look_radd_ok) (noLps_ok _) 400) fun ds Q r h => by
    unfold rratio_go at h
    obtain ⟨bad, ds, rfl, h1⟩ := dB_inv h
    obtain ⟨a, ds, rfl, h2⟩ := dI_inv h1
    obtain ⟨b, ds, rfl, h3⟩ := dI_inv h2
    obtain ⟨c, ds, rfl, h4⟩ := dI_inv h3
    obtain ⟨rfl, hE⟩ := dE_inv h4
    exact ⟨[SV.ptr (nat_lit 0) (nat_lit 0), SV.int .i64 a, SV.int .i64 b, SV.int .i64 c], [.cells [SV.bool bad] (nat_lit 68)], fun vs => by kernel_rfl, (rratio_eq bad a b c Q).trans hE⟩
def _root_.Go.Proofs.Ytkjellhkamfciaa.V.rRatio (a b c : Int) : Option Int := if c == 0 || isG a || isG b || isG c then none else V.tl (Int.fdiv (a * b) c)
theorem rratio_v {α : Type} (bad : Bool) (a b c : Int) (k0 : Int → Bool → Option α) : M.rratio bad a b c k0 = k0 (V.gv (V.rRatio a b c)) (V.gn (V.rRatio a b c) bad) := by
  unfold M.rratio V.rRatio
  rw [aG3, cEq_eq]
  cases hG : (isG a || isG b || isG c) with
  | true =>
    have : (c == 0 || isG a || isG b || isG c) = true := by rw [Bool.or_assoc (c == 0), Bool.or_assoc (c == 0), hG, Bool.or_true]
    rw [this]
    simp only [if_true]
    rw [(tells_none bad 0).1, (tells_none bad 0).2]
  | false =>
    have h2 : (c == 0 || isG a || isG b || isG c) = (c == 0) := by rw [Bool.or_assoc (c == 0), Bool.or_assoc (c == 0), hG, Bool.or_false]
    rw [h2]
    simp only [Bool.or_eq_false_iff] at hG
    obtain ⟨⟨ga, gb⟩, gc⟩ := hG
    cases h0 : (c == 0) with
    | true =>
      simp only [if_true, Bool.false_eq_true, if_false]
      rw [(tells_none bad 0).1, (tells_none bad 0).2]
    | false =>
      simp only [Bool.false_eq_true, if_false]
      have hc0 : ¬ c = 0 := by simpa using h0
      obtain ⟨p1, p2, p3, p4⟩ := ofN_prod ga gb
      have ra := (isG_false a).1 ga
      have rb := (isG_false b).1 gb
      have rc := (isG_false c).1 gc
      rw [if_pos (by omega), if_pos (by omega), if_pos ⟨ofN_ok a, ofN_ok b⟩, if_pos ⟨p2, hc0, rc.1, rc.2⟩]
      unfold V.dn
      rw [p4]
      obtain ⟨t1, t2⟩ := tells_o bad (o := V.tl (Int.fdiv (a * b) c)) (fun n h => tl_G h)
      rw [t1, t2]
noncomputable def rratio_h {α : Type} (ds : List D) (Q : SV → Hp → Option α) : Option α :=
  dB ds fun bad ds => dI ds fun a ds => dI ds fun b ds => dI ds fun c ds => dE ds (Q (.int .i64 (V.gv (V.rRatio a b c))) ([.cells [.bool (V.gn (V.rRatio a b c) bad)] 68]))
theorem rratio_h_ok {α : Type} : FnOk E.P 40 (fEnt (α := α) rratio_sp rratio_h) :=
  fEnt_ok E (look_radd_ok) (exec_sound E E_ok (look_radd_ok) (noLps_ok _) 400) fun ds Q r h => by
    unfold rratio_h at h
    obtain ⟨bad, ds, rfl, h1⟩ := dB_inv h
    obtain ⟨a, ds, rfl, h2⟩ := dI_inv h1
    obtain ⟨b, ds, rfl, h3⟩ := dI_inv h2
    obtain ⟨c, ds, rfl, h4⟩ := dI_inv h3
    obtain ⟨rfl, hE⟩ := dE_inv h4
    exact ⟨[SV.ptr (nat_lit 0) (nat_lit 0), SV.int .i64 a, SV.int .i64 b, SV.int .i64 c], [.cells [SV.bool bad] (nat_lit 68)], fun vs => by kernel_rfl, (rratio_eq bad a b c Q).trans ((rratio_v bad a b c _).trans hE)⟩
noncomputable def look_rratio {α : Type} : LookF α := addFn 40 (fEnt rratio_sp rratio_h) look_radd
theorem look_rratio_ok {α : Type} : LookOk E.P (look_rratio (α := α)) := addFn_ok rratio_h_ok (look_radd_ok)
noncomputable def _root_.Go.Proofs.Ytkjellhkamfciaa.M.rmul {α : Type} (bad : Bool) (a : Int) (b : Int) (k0 : Int → Bool → Option α) : Option α :=
  k0 (V.gv (V.rRatio a b (4294967296 : Int))) (V.gn (V.rRatio a b (4294967296 : Int)) bad)
theorem rmul_eq {α : Type} (bad : Bool) (a : Int) (b : Int) (Q : SV → Hp → Option α) : callI E look_rratio (exec E look_rratio noLps 400) 41 ([SV.ptr (nat_lit 0) (nat_lit 0), SV.int .i64 a, SV.int .i64 b]) ([.cells [SV.bool bad] (nat_lit 68)]) Q = M.rmul bad a b (fun (x4 : Int) (x5 : Bool) => Q (SV.int .i64 x4) ([.cells [SV.bool x5] (nat_lit 68)])) := by kernel_rfl
def rmul_sp : List AS := [.ptr 68 [.bool false], .val (.int .i64 0), .val (.int .i64 0)]
noncomputable def _root_.Go.Proofs.Ytkjellhkamfciaa.V.rmul_r0 (bad : Bool) (a : Int) (b : Int) : Int :=
  V.gv (V.rRatio a b (4294967296 : Int))
noncomputable def _root_.Go.Proofs.Ytkjellhkamfciaa.V.rmul_r1 (bad : Bool) (a : Int) (b : Int) : Bool :=
  V.gn (V.rRatio a b (4294967296 : Int)) bad
theorem rmul_val {α : Type} (bad : Bool) (a : Int) (b : Int) (k0 : Int → Bool → Option α) : M.rmul bad a b k0 = k0 (V.rmul_r0 bad a b) (V.rmul_r1 bad a b) := by
  unfold M.rmul V.rmul_r0 V.rmul_r1
  repeat' first | rfl | (split <;> rename_i h <;> first | simp only [if_pos h] | simp only [if_neg h] | skip)
noncomputable def rmul_c {α : Type} (ds : List D) (Q : SV → Hp → Option α) : Option α :=
  dB ds fun bad ds => dI ds fun a ds => dI ds fun b ds => dE ds (Q (SV.int .i64 (V.rmul_r0 bad a b)) ([.cells [SV.bool (V.rmul_r1 bad a b)] (nat_lit 68)]))
theorem rmul_c_ok {α : Type} : FnOk E.P 41 (fEnt (α := α) rmul_sp rmul_c) :=
  fEnt_ok E (look_rratio_ok) (exec_sound E E_ok (look_rratio_ok) (noLps_ok _) 400) fun ds Q r h => by
    unfold rmul_c at h
    obtain ⟨bad, ds, rfl, h1⟩ := dB_inv h
    obtain ⟨a, ds, rfl, h2⟩ := dI_inv h1
    obtain ⟨b, ds, rfl, h3⟩ := dI_inv h2
    obtain ⟨rfl, hE⟩ := dE_inv h3
    exact ⟨[SV.ptr (nat_lit 0) (nat_lit 0), SV.int .i64 a, SV.int .i64 b], [.cells [SV.bool bad] (nat_lit 68)], fun vs => by kernel_rfl, (rmul_eq bad a b Q).trans ((rmul_val bad a b (fun (x4 : Int) (x5 : Bool) => Q (SV.int .i64 x4) ([.cells [SV.bool x5] (nat_lit 68)]))).trans hE)⟩
noncomputable def rmul_go {α : Type} (ds : List D) (Q : SV → Hp → Option α) : Option α :=
  dB ds fun bad ds => dI ds fun a ds => dI ds fun b ds => dE ds (M.rmul bad a b (fun (x4 : Int) (x5 : Bool) => Q (SV.int .i64 x4) ([.cells [SV.bool x5] (nat_lit 68)])))
theorem rmul_ok {α : Type} : FnOk E.P 41 (fEnt (α := α) rmul_sp rmul_go) :=
  fEnt_ok E (look_rratio_ok) (exec_sound E E_ok (look_rratio_ok) (noLps_ok _) 400) fun ds Q r h => by
    unfold rmul_go at h
    obtain ⟨bad, ds, rfl, h1⟩ := dB_inv h
    obtain ⟨a, ds, rfl, h2⟩ := dI_inv h1
    obtain ⟨b, ds, rfl, h3⟩ := dI_inv h2
    obtain ⟨rfl, hE⟩ := dE_inv h3
    exact ⟨[SV.ptr (nat_lit 0) (nat_lit 0), SV.int .i64 a, SV.int .i64 b], [.cells [SV.bool bad] (nat_lit 68)], fun vs => by kernel_rfl, (rmul_eq bad a b Q).trans hE⟩
noncomputable def look_rmul {α : Type} : LookF α := addFn 41 (fEnt rmul_sp rmul_c) look_rratio
theorem look_rmul_ok {α : Type} : LookOk E.P (look_rmul (α := α)) := addFn_ok rmul_c_ok (look_rratio_ok)
end Go.Proofs.Ytkjellhkamfciaa.Sx
end

section
/- The document's own roots, sums of products, norms. -/
namespace Go.Proofs.Ytkjellhkamfciaa.Sx
open Go
set_option linter.unusedVariables false
set_option linter.unusedSimpArgs false
theorem sm_facts {a b : List Int} (hl : a.length ≤ 8) (ha : V.anyG a = false) (hb : V.anyG b = false) : V.ok8 (V.smD a b) = true ∧ wv (V.smN a b) (V.smD a b) = V.dotZ a b ∧ val (V.smD a b) ≤ 170141183460469231731687303715884105728 := by
  obtain ⟨h1, h2, h3⟩ := smF_val a b false (List.replicate 8 0) 0 ha hb (by decide) (by decide) (by omega)
  refine ⟨h1, ?_, ?_⟩
  · unfold V.smN V.smD
    rw [h2]
    have : wv false (List.replicate 8 (0 : Int)) = 0 := by decide
    omega
  · unfold V.smD
    omega
end Go.Proofs.Ytkjellhkamfciaa.Sx
end

section
/- The document's products and quotients are the program's. -/
namespace Go.Proofs.Ytkjellhkamfciaa.Sx
open Go
set_option maxRecDepth 20000
set_option linter.unusedVariables false
set_option linter.unusedSimpArgs false
theorem mMul_rR (a b : Int) : V.mMul a b = V.rRatio a b 4294967296 := by
  unfold V.mMul V.rRatio
  have e1 : isG 4294967296 = false := by decide
  have e2 : ((4294967296 : Int) == 0) = false := by decide
  rw [e1, e2, Bool.or_false, Bool.false_or, fdiv_pos _ _ (by decide)]
theorem mDiv_rR (a b : Int) : V.mDiv a b = V.rRatio a 4294967296 b := by
  rw [mDivF]
  unfold V.rRatio
  have e1 : isG 4294967296 = false := by decide
  rw [e1, Bool.or_false]
noncomputable def _root_.Go.Proofs.Ytkjellhkamfciaa.M.rmul2 {α : Type} (bad : Bool) (a : Int) (b : Int) (k0 : Int → Bool → Option α) : Option α :=
  k0 (V.rmul_r0 bad a b) (V.rmul_r1 bad a b)
theorem rmul2_eq {α : Type} (bad : Bool) (a : Int) (b : Int) (Q : SV → Hp → Option α) : callI E look_rmul (exec E look_rmul noLps 400) 41 ([SV.ptr (nat_lit 0) (nat_lit 0), SV.int .i64 a, SV.int .i64 b]) ([.cells [SV.bool bad] (nat_lit 68)]) Q = M.rmul2 bad a b (fun (x0 : Int) (x1 : Bool) => Q (SV.int .i64 x0) ([.cells [SV.bool x1] (nat_lit 68)])) := by kernel_rfl
def rmul2_sp : List AS := [.ptr 68 [.bool false], .val (.int .i64 0), .val (.int .i64 0)]
noncomputable def rmul2_go {α : Type} (ds : List D) (Q : SV → Hp → Option α) : Option α :=
  dB ds fun bad ds => dI ds fun a ds => dI ds fun b ds => dE ds (M.rmul2 bad a b (fun (x0 : Int) (x1 : Bool) => Q (SV.int .i64 x0) ([.cells [SV.bool x1] (nat_lit 68)])))
theorem rmul2_ok {α : Type} : FnOk E.P 41 (fEnt (α := α) rmul2_sp rmul2_go) :=
  fEnt_ok E (look_rmul_ok) (exec_sound E E_ok (look_rmul_ok) (noLps_ok _) 400) fun ds Q r h => by
    unfold rmul2_go at h
    obtain ⟨bad, ds, rfl, h1⟩ := dB_inv h
    obtain ⟨a, ds, rfl, h2⟩ := dI_inv h1
    obtain ⟨b, ds, rfl, h3⟩ := dI_inv h2
    obtain ⟨rfl, hE⟩ := dE_inv h3
    exact ⟨[SV.ptr (nat_lit 0) (nat_lit 0), SV.int .i64 a, SV.int .i64 b], [.cells [SV.bool bad] (nat_lit 68)], fun vs => by kernel_rfl, (rmul2_eq bad a b Q).trans hE⟩
theorem rmul2_v {α : Type} (bad : Bool) (a b : Int) (k0 : Int → Bool → Option α) : M.rmul2 bad a b k0 = k0 (V.gv (V.mMul a b)) (V.gn (V.mMul a b) bad) := by
  rw [mMul_rR]; rfl
noncomputable def rmul2_h {α : Type} (ds : List D) (Q : SV → Hp → Option α) : Option α :=
  dB ds fun bad ds => dI ds fun a ds => dI ds fun b ds => dE ds (Q (.int .i64 (V.gv (V.mMul a b))) ([.cells [.bool (V.gn (V.mMul a b) bad)] 68]))
theorem rmul2_h_ok {α : Type} : FnOk E.P 41 (fEnt (α := α) rmul2_sp rmul2_h) :=
  fEnt_ok E (look_rmul_ok) (exec_sound E E_ok (look_rmul_ok) (noLps_ok _) 400) fun ds Q r h => by
    unfold rmul2_h at h
    obtain ⟨bad, ds, rfl, h1⟩ := dB_inv h
    obtain ⟨a, ds, rfl, h2⟩ := dI_inv h1
    obtain ⟨b, ds, rfl, h3⟩ := dI_inv h2
    obtain ⟨rfl, hE⟩ := dE_inv h3
    exact ⟨[SV.ptr (nat_lit 0) (nat_lit 0), SV.int .i64 a, SV.int .i64 b], [.cells [SV.bool bad] (nat_lit 68)], fun vs => by kernel_rfl, (rmul2_eq bad a b Q).trans ((rmul2_v bad a b _).trans hE)⟩
noncomputable def look_rmul2 {α : Type} : LookF α := addFn 41 (fEnt rmul2_sp rmul2_h) look_rmul
theorem look_rmul2_ok {α : Type} : LookOk E.P (look_rmul2 (α := α)) := addFn_ok rmul2_h_ok (look_rmul_ok)
end Go.Proofs.Ytkjellhkamfciaa.Sx
end
