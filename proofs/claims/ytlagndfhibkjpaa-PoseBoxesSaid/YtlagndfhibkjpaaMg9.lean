/- Texts of the walk, merged. -/
import Derived.Test.YtlagndfhibkjpaaMg4
import Derived.ProofKit
import Derived.OpenShut
import Derived.Test.YtlagndfhibkjpaaMg8
section
/- SX: from a law's run to its row. -/
namespace Go.Proofs.Ytlagndfhibkjpaa.Sx
open Go Go.RowKit Go.ChangeShapes
set_option linter.unusedVariables false

section
variable {H : Type} {enc : TypeId × Value → H} {P : Program}

theorem trodAll_keep (hl : laidOutB P = true) {W W' : World} {sp : Nat → Bool} : ∀ (ts : List TypeId) (vs : List Value) (ds : List (DataW H)) (ps : List MemPlace), (∀ t ∈ ts, P.readableRec t = true ∧ t < P.types.size) →
    DataW.TrodAll enc P W 0 (fun _ => true) true ts vs ds ps → (∀ x ∈ ps, W.sameAt W' x) → (∀ x ∈ ps, sp x.block = true) → DataW.TrodAll enc P W' 0 sp true ts vs ds ps
  | [], [], [], ps, _, h, _, _ => h
  | t :: ts, v :: vs, d :: ds, ps, hr, h, h1, h2 => by
    obtain ⟨p, q, a, b, rfl⟩ := h
    exact ⟨p, q, WideElems.Trod_stays hl (hr t (by simp)).1 (hr t (by simp)).2 a (fun x hx => h1 x (by simp [hx])) (fun x hx => h2 x (by simp [hx])),
      trodAll_keep hl ts vs ds q (fun t ht => hr t (by simp [ht])) b (fun x hx => h1 x (by simp [hx])) (fun x hx => h2 x (by simp [hx])), rfl⟩
  | [], _ :: _, _, _, _, h, _, _ => h.elim
  | [], [], _ :: _, _, _, h, _, _ => h.elim
  | _ :: _, [], _, _, _, h, _, _ => h.elim
  | _ :: _, _ :: _, [], _, _, h, _, _ => h.elim

/-- A law that tells true and turns nothing of what was there keeps its row. -/
theorem post_of_below {f : Func} {s : ChangeSpec} {apart fresh handsOn again : Bool} {W W' : World} {args : Array Value} {ds gs : List (DataW H)} {before : List MemPlace} {tb : TypeId}
    (hl : laidOutB P = true) (hr : ∀ t ∈ f.params.toList, P.readableRec t = true ∧ t < P.types.size) (hv : s.vars = []) (hres : f.resultTypes = #[tb]) (htb : P.underlying tb = some .bool)
    (hfn : (s.fn H (ds ++ gs)) = { results := [.lit (.bool true)], args := ds }) (hW : DataW.Whole enc P f.params.toList s.vars apart W args.toList ds gs before) (hb : Below W.heap.size W W') :
    s.post enc P f apart fresh handsOn again W args (.bool true) W' := by
  have hW0 := hW
  obtain ⟨p, q, hA, hV, hps, hfz, hnd⟩ := hW
  rw [hv] at hV
  obtain ⟨rfl, rfl⟩ := trodVars_none hV
  rw [List.append_nil] at hps
  subst hps
  have hlt : ∀ x ∈ before, x.block < W.heap.size := fun x hx => hW0.lt x hx
  have hsame : ∀ x ∈ before, W.sameAt W' x := fun x hx => hb.same (hlt x hx)
  have hargs : ∀ sp : Nat → Bool, (∀ x ∈ before, sp x.block = true) → DataW.TrodAll enc P W' 0 sp true f.params.toList args.toList ds before := fun sp hsp => trodAll_keep hl _ _ _ _ hr hA hsame hsp
  have hbool : ∀ (b : Nat) (sp : Nat → Bool) (hd : Bool), DataW.Trod enc P W' b sp hd tb (.bool true) (.lit (.bool true)) [] := fun b sp hd => ⟨1, by simp [DataW.trod, Value.cells, htb]⟩
  have hres1 : ∀ (b : Nat) (sp : Nat → Bool) (hd : Bool), DataW.TrodAll enc P W' b sp hd f.resultTypes.toList ((Value.bool true).resultList f.resultTypes.size) [.lit (.bool true)] [] := by
    intro b sp hd
    rw [hres]
    exact trodAll_mk1 (hbool b sp hd)
  have hk : W.keptBut W' (fun _ => False) := by
    refine ⟨hb.os, hb.output, fun i hi => ?_⟩
    rw [hb.block i hi]
    cases W.heap[i]? with
    | none => rfl
    | some o => cases o with
      | cells c t fr => exact ⟨rfl, rfl, rfl, fun _ _ => rfl⟩
      | map es ck => exact .inr ⟨rfl, rfl⟩
      | _ => rfl
  refine ⟨ds, [], before, [], before, [], hW0, ?_, ?_, ?_, World.keptBut_mono (fun _ h => h.elim) hk, fun _ => ⟨?_, _, [], ([] ++ before) ++ [], ⟨[] ++ before, [], trodAll_append (hargs _ fun _ _ => rfl) (hres1 _ _ _), ?_, rfl, ?_, ?_⟩, fun x hx _ => by simpa using hx⟩⟩
  · rw [hfn]; exact hres1 _ _ _
  · rw [hfn]; exact hargs _ fun x hx => by simpa using hlt x hx
  · rw [hfn, hv]; rfl
  · intro j t r h1 h2
    rw [hres] at h1 h2
    cases j with
    | zero =>
      simp [Value.resultList] at h1 h2
      subst h1; subst h2
      simp [Value.okWide, htb, Cell.okWide, Cell.ok]
    | succ j => simp at h1
  · rw [hv]; rfl
  · intro b off hx
    have hx' : MemPlace.cell b off ∈ before := by simpa using hx
    have := hfz b off hx'
    unfold World.frozen? at this ⊢
    have hbl : b < W.heap.size := hlt _ hx'
    simp only [hb.block b hbl]
    exact this
  · intro ha
    simpa using hnd ha
end
theorem flat_get (κ : K) : ∀ (xs : List κ.T) (q m : Nat), q < xs.length → m < κ.sz → (xs.flatMap κ.cells)[q * κ.sz + m]? = (κ.cells (xs[q]?.getD κ.dflt))[m]?
  | [], q, m, h, _ => by simp at h
  | x :: xs, 0, m, h, hm => by
    rw [List.flatMap_cons, List.getElem?_append_left (by rw [K.cells_length]; omega)]
    simp
  | x :: xs, q + 1, m, h, hm => by
    rw [List.flatMap_cons, List.getElem?_append_right (by rw [K.cells_length, Nat.add_mul]; omega), K.cells_length]
    rw [show (q + 1) * κ.sz + m - κ.sz = q * κ.sz + m by rw [Nat.add_mul]; omega]
    simpa using flat_get κ xs q m (by simpa using h) hm
theorem okWide_slice' {P : Program} {w : World} {r : Reach} {base : Nat} {t e : TypeId} {v : Value} (ht : P.underlying t = some (.slice e)) (h : Value.okWide P w r base t v) : ∃ a l c, v = .slice a l c := by
  unfold Value.okWide at h
  rw [ht] at h
  cases v <;> simp_all [Cell.okWide, Cell.ok]
/-- A slice: what it reads as. -/
theorem ros_trod {H : Type} {enc : TypeId × Value → H} {P : Program} {W : World} {t e : TypeId} {κ : K} {good : κ.T → Prop} {fuel : Nat} {cs : List Value} {x : DataW H × List MemPlace} (ht : P.underlying t = some (.slice e)) (hc : P.cellsOf e = κ.sz)
    (hel : ∀ n cs x, DataW.trod enc P W 0 (fun _ => true) true n e cs = some x → ∃ y : κ.T, cs = κ.cells y ∧ good y) (h : DataW.trod enc P W 0 (fun _ => true) true fuel t cs = some x) :
    ∃ v, cs = [v] ∧ ∃ xs : List κ.T, (∀ x ∈ xs, good x) ∧ xs.length < 9223372036854775808 ∧ RosOk (fun b => b < W.heap.size) W v κ xs := by
  rcases DataW.trod_slice ht h with ⟨rfl, _⟩ | ⟨a, l0, c0, elems, rest, n, _, rfl, _, hb, hl, hm, hlen, hes, _, _⟩
  · exact ⟨_, rfl, [], by simp, by simp, .inl ⟨rfl, none, 0, rfl⟩⟩
  · refine ⟨_, rfl, ?_⟩
    have each : ∀ i, i < l0 → ∃ y : κ.T, W.cells? 0 (a.add (i * κ.sz)) κ.sz = some (κ.cells y) ∧ good y := by
      intro i hi
      have h1 := hes i hi
      rw [hc] at h1
      have h2 : elems[i]? = some (elems[i]'(by omega)) := List.getElem?_eq_getElem (by omega)
      rw [h2, Option.bind_eq_some_iff] at h1
      obtain ⟨cs, hcs, hx⟩ := h1
      obtain ⟨y, rfl, hy⟩ := hel _ _ _ hx
      exact ⟨y, hcs, hy⟩
    have all : ∀ k, k ≤ l0 → ∃ xs : List κ.T, xs.length = k ∧ (∀ x ∈ xs, good x) ∧ ∀ i, (hi : i < xs.length) → W.cells? 0 (a.add (i * κ.sz)) κ.sz = some (κ.cells xs[i]) := by
      intro k
      induction k with
      | zero => exact fun _ => ⟨[], rfl, by simp, by simp⟩
      | succ k ih =>
        intro hk
        obtain ⟨xs, e1, e2, e3⟩ := ih (by omega)
        obtain ⟨y, e4, e5⟩ := each k (by omega)
        refine ⟨xs ++ [y], by simp [e1], ?_, ?_⟩
        · intro x hx
          rcases List.mem_append.1 hx with hx | hx
          · exact e2 x hx
          · simp at hx; subst hx; exact e5
        · intro i hi
          by_cases hik : i < xs.length
          · rw [List.getElem_append_left hik]; exact e3 i hik
          · have : i = xs.length := by simp at hi; omega
            subst this
            rw [List.getElem_append_right (by omega)]
            simpa [e1] using e4
    obtain ⟨xs, e1, e2, e3⟩ := all l0 (Nat.le_refl _)
    refine ⟨xs, e2, by unfold maxLen at hm; omega, ?_⟩
    by_cases h0 : l0 = 0
    · subst h0
      exact .inl ⟨List.eq_nil_of_length_eq_zero e1, _, _, rfl⟩
    · have hcell : ∀ i j, i < l0 → j < κ.sz → W.cell? ((a.add (i * κ.sz)).add j) = (κ.cells (xs[i]?.getD κ.dflt))[j]? := by
        intro i j hi hj
        have := (World.cells?_some (e3 i (by omega))).2.2 j hj
        rw [this]
        simp [show i < xs.length by omega]
      have hsz : 0 < κ.sz := K.sz_pos κ
      have h00 := hcell 0 0 (by omega) hsz
      have hsp : a.spot = none ∧ a.block < W.heap.size := by
        have e0 : (a.add (0 * κ.sz)).add 0 = a := by simp [Addr.add]
        rw [e0] at h00
        have hne : (κ.cells (xs[0]?.getD κ.dflt))[0]? ≠ none := by
          rw [List.getElem?_eq_getElem (by rw [K.cells_length]; exact hsz)]; simp
        rw [← h00] at hne
        unfold World.cell? at hne
        split at hne
        · rename_i c t' f' hh
          refine ⟨?_, ?_⟩
          · cases hs : a.spot with
            | none => rfl
            | some q => simp [hs] at hne
          · exact (Array.getElem?_eq_some_iff.1 hh).1
        · simp at hne
      refine .inr ⟨a, c0, by rw [e1], by omega, hsp.1, hsp.2, ?_⟩
      intro j c hj
      have hjl : j < xs.length * κ.sz := by
        have := (List.getElem?_eq_some_iff.1 hj).1
        rwa [cells_flat_length] at this
      have hq : j / κ.sz < xs.length := Nat.div_lt_of_lt_mul (by rwa [Nat.mul_comm])
      have hm' : j % κ.sz < κ.sz := Nat.mod_lt _ hsz
      have hadd : (⟨a.block, a.off + j, none⟩ : Addr) = (a.add (j / κ.sz * κ.sz)).add (j % κ.sz) := by
        obtain ⟨ab, ao, asp⟩ := a
        have : asp = none := hsp.1
        subst this
        rw [add_lit, add_lit, Nat.add_assoc, Nat.div_add_mod' j κ.sz]
      rw [hadd, hcell _ _ (by omega) hm']
      rw [← flat_get κ xs (j / κ.sz) (j % κ.sz) hq hm', Nat.div_add_mod' j κ.sz]
      exact hj
/-- A slice that is handed to a law: what it reads as. -/
theorem ros_slice {H : Type} {enc : TypeId × Value → H} {P : Program} {W : World} {r : Reach} {b0 : Nat} {t e : TypeId} {κ : K} {good : κ.T → Prop} {v : Value} {d : DataW H} {ps : List MemPlace} (ht : P.underlying t = some (.slice e)) (hc : P.cellsOf e = κ.sz)
    (hel : ∀ n cs x, DataW.trod enc P W 0 (fun _ => true) true n e cs = some x → ∃ y : κ.T, cs = κ.cells y ∧ good y) (hval : Value.okWide P W r b0 t v) (h : DataW.Trod enc P W 0 (fun _ => true) true t v d ps) :
    ∃ xs : List κ.T, (∀ x ∈ xs, good x) ∧ xs.length < 9223372036854775808 ∧ RosOk (fun b => b < W.heap.size) W v κ xs := by
  obtain ⟨a0, l0, c0, rfl⟩ := okWide_slice' ht hval
  obtain ⟨fuel, h⟩ := h
  have hcs : (Value.slice a0 l0 c0).cells.toList = [.slice a0 l0 c0] := rfl
  rw [hcs] at h
  obtain ⟨v, hv, hx⟩ := ros_trod ht hc hel h
  cases hv
  exact hx
theorem wf64 {n : Int} (h : (Lit.int .i64 n).wf = true) : -9223372036854775808 ≤ n ∧ n < 9223372036854775808 := by
  simp only [Lit.wf, Bool.and_eq_true, decide_eq_true_eq] at h
  have h1 : IntKind.i64.min = -9223372036854775808 := by decide
  have h2 : IntKind.i64.max = 9223372036854775807 := by decide
  rw [h1, h2] at h
  omega
theorem el_int {H : Type} {enc : TypeId × Value → H} {P : Program} {W : World} {e : TypeId} (he : P.underlying e = some (.int .i64)) :
    ∀ n cs x, DataW.trod enc P W 0 (fun _ => true) true n e cs = some x → ∃ y : (K.int .i64).T, cs = (K.int .i64).cells y ∧ (-9223372036854775808 ≤ y ∧ y < 9223372036854775808) := by
  intro n cs x h
  obtain ⟨m, rfl, _, hw⟩ := DataW.trod_int he h
  exact ⟨m, rfl, wf64 hw⟩
theorem el_v3 {H : Type} {enc : TypeId × Value → H} {P : Program} {W : World} {t e : TypeId} (ht : P.underlying t = some (.array 3 e)) (he : P.underlying e = some (.int .i64)) (hc : P.cellsOf e = 1) (hct : P.cellsOf t = 3) :
    ∀ n cs x, DataW.trod enc P W 0 (fun _ => true) true n t cs = some x → ∃ y : K.v3.T, cs = K.v3.cells y ∧ True := by
  intro n cs x h
  obtain ⟨xs, m, _, _, hl, hx, hi⟩ := DataW.trod_array ht h
  rw [hct] at hl
  have get : ∀ i, i < 3 → ∃ y : Int, cs[i]? = some (.int .i64 y) := by
    intro i h3
    have h1 := hi i h3
    rw [hc, Nat.mul_one, List.getElem?_eq_getElem (by omega)] at h1
    obtain ⟨y, h2, _, _⟩ := DataW.trod_int he h1
    refine ⟨y, ?_⟩
    have := congrArg (fun l => l[0]?) h2
    simpa using this
  obtain ⟨a, ha⟩ := get 0 (by omega)
  obtain ⟨b, hb⟩ := get 1 (by omega)
  obtain ⟨c, hc⟩ := get 2 (by omega)
  refine ⟨⟨a, b, c⟩, ?_, trivial⟩
  obtain ⟨p, q, r, rfl⟩ : ∃ p q r, cs = [p, q, r] := match cs, hl with | [p, q, r], _ => ⟨p, q, r, rfl⟩
  simp at ha hb hc
  subst ha; subst hb; subst hc
  rfl
theorem sound_of {P : Program} {f : FuncId} {c : List SV → Hp → (SV → Hp → Option (SV × Hp)) → Option (SV × Hp)} {args : List SV} {v : SV} {H' : Hp} (h : FnOk P f c) (hc : c args [] (fun v H => some (v, H)) = some (v, H')) : Sound P f args [] v H' := by
  obtain ⟨v, H', h1, h2⟩ := h _ _ _ _ hc
  cases h1
  exact h2
/-- A law's run, out of any memory: what was there stays. -/
theorem law_calls {P : Program} {f : FuncId} {args : List SV} (hs : Sound P f args [] (.bool true) []) (W : World)
    (hok : ∀ (ρ : Nat → Tk), SV.okL (fun b => b < W.heap.size) W ρ 0 args) :
    Calls P f (denL (fun _ => ⟨0, .slice none 0 0⟩) args).toArray W fun e W' => e = .returned (.bool true) ∧ Below W.heap.size W W' := by
  have := hs.run ⟨fun b => b < W.heap.size, W, fun b => W.heap.size ≤ b⟩ (fun _ => ⟨0, .slice none 0 0⟩) W
    { obj := by intro t o h; simp at h
      sep := by intro t t' b h; simp [blkOf] at h
      own := by intro t b h; simp [blkOf] at h
      hdr := fun t => ⟨none, 0, 0, rfl⟩
      keep := fun _ _ _ => rfl
      size := Nat.le_refl _
      os := rfl
      tape := rfl
      output := rfl
      ok := by intro t o h; simp at h
      fit := ⟨fun b h => h, fun b h => ⟨h, by show ¬ (W.heap.size ≤ b); have : b < W.heap.size := h; omega⟩⟩ } (hok _)
  refine this.mono fun e W' ⟨ρ', _, he, hR, _⟩ => ⟨by rw [he]; rfl, hR.os, hR.tape, hR.output, hR.size, fun k hk => hR.keep k hk (by show ¬ (W.heap.size ≤ k); omega)⟩
/-! Plain structs: what they read as. -/
def LK.good : (k : LK) → k.T → Prop
  | .i k, n => (Lit.int k n).wf = true
  | .b, _ => True
def RT.good : (k : LK) → (ks : List LK) → RT k ks → Prop
  | k, [], x => k.good x
  | k, k' :: ks, x => k.good x.1 ∧ RT.good k' ks x.2
def Mt : List LK → List Value → Prop
  | [], [] => True
  | .i k :: ks, .int k' n :: cs => k' = k ∧ (Lit.int k n).wf = true ∧ Mt ks cs
  | .b :: ks, .bool _ :: cs => Mt ks cs
  | _, _ => False
theorem Mt.length : ∀ {ks : List LK} {cs : List Value}, Mt ks cs → cs.length = ks.length
  | [], [], _ => rfl
  | .i _ :: ks, .int _ _ :: cs, h => by simp [Mt.length (ks := ks) (cs := cs) h.2.2]
  | .b :: ks, .bool _ :: cs, h => by simp [Mt.length (ks := ks) (cs := cs) h]
  | [], _ :: _, h => h.elim
  | .i _ :: _, [], h => h.elim
  | .b :: _, [], h => h.elim
theorem Mt.append : ∀ {ks ls : List LK} {cs ds : List Value}, Mt ks cs → Mt ls ds → Mt (ks ++ ls) (cs ++ ds)
  | [], ls, [], ds, _, h => h
  | .i _ :: ks, ls, .int _ _ :: cs, ds, h, h' => ⟨h.1, h.2.1, Mt.append h.2.2 h'⟩
  | .b :: ks, ls, .bool _ :: cs, ds, h, h' => Mt.append (ks := ks) (cs := cs) h h'
  | [], _, _ :: _, _, h, _ => h.elim
  | .i _ :: _, _, [], _, h, _ => h.elim
  | .b :: _, _, [], _, h, _ => h.elim
theorem Mt.data : ∀ {k : LK} {ks : List LK} {cs : List Value}, Mt (k :: ks) cs → ∃ x : RT k ks, cs = RT.cells k ks x ∧ RT.good k ks x
  | .i k, [], [.int k' n], h => by obtain ⟨rfl, h2, _⟩ := h; exact ⟨n, rfl, h2⟩
  | .b, [], [.bool v], h => ⟨v, rfl, trivial⟩
  | .i k, k2 :: ks, .int k' n :: cs, h => by
    obtain ⟨rfl, h2, h3⟩ := h
    obtain ⟨x, rfl, hx⟩ := Mt.data h3
    exact ⟨(n, x), rfl, h2, hx⟩
  | .b, k2 :: ks, .bool v :: cs, h => by
    obtain ⟨x, rfl, hx⟩ := Mt.data (cs := cs) (k := k2) (ks := ks) h
    exact ⟨(v, x), rfl, trivial, hx⟩
  | .i _, [], .int _ _ :: _ :: _, h => h.2.2.elim
  | .b, [], .bool _ :: _ :: _, h => h.elim
  | .i _, _, [], h => h.elim
  | .b, _, [], h => h.elim
/-- The leaves' kinds of a plain type. -/
def shpFs (P : Program) (f : TypeId → Option (List LK)) : List Field → Nat → Option (List LK)
  | [], _ => some []
  | x :: l, off => if x.offset = off then (f x.type).bind fun ks => if ks.length = P.cellsOf x.type then (shpFs P f l (off + ks.length)).map fun ls => ks ++ ls else none else none
def rep {α : Type} : Nat → List α → List α
  | 0, _ => []
  | n + 1, l => l ++ rep n l
def shp (P : Program) : Nat → TypeId → Option (List LK)
  | 0, _ => none
  | d + 1, t => match P.underlying t with
    | some (.int k) => some [.i k]
    | some .bool => some [.b]
    | some (.struct fs) => (shpFs P (shp P d) fs.toList 0).bind fun ks => if ks.length = P.cellsOf t then some ks else none
    | some (.array n e) => (shp P d e).bind fun ks => if ks.length = P.cellsOf e ∧ n * ks.length = P.cellsOf t then some (rep n ks) else none
    | _ => none
theorem rep_length {α : Type} (l : List α) : ∀ n, (rep n l).length = n * l.length
  | 0 => by simp [rep]
  | n + 1 => by rw [rep, List.length_append, rep_length l n, Nat.add_mul]; omega
theorem trod_bool' {H : Type} {enc : TypeId × Value → H} {P : Program} {W : World} {b : Nat} {sp : Nat → Bool} {hd : Bool} {t : TypeId} {n : Nat} {cs : List Value} {x : DataW H × List MemPlace}
    (ht : P.underlying t = some .bool) (h : DataW.trod enc P W b sp hd n t cs = some x) : ∃ v, cs = [.bool v] := by
  cases n with
  | zero => simp [DataW.trod] at h
  | succ n =>
    unfold DataW.trod at h
    rw [ht] at h
    split at h <;> simp_all
theorem trod_shp {H : Type} {enc : TypeId × Value → H} {P : Program} {W : World} {b : Nat} {sp : Nat → Bool} {hd : Bool} : ∀ (d : Nat) (t : TypeId) (ks : List LK), shp P d t = some ks →
    ∀ (n : Nat) (cs : List Value) (x : DataW H × List MemPlace), DataW.trod enc P W b sp hd n t cs = some x → Mt ks cs
  | 0, t, ks, h => by simp [shp] at h
  | d + 1, t, ks, h => by
    intro n cs x hx
    have ih := trod_shp (enc := enc) (P := P) (W := W) (b := b) (sp := sp) (hd := hd) d
    unfold shp at h
    split at h
    · rename_i k ht
      cases h
      obtain ⟨m, rfl, _, hw⟩ := DataW.trod_int ht hx
      exact ⟨rfl, hw, trivial⟩
    · rename_i ht
      cases h
      obtain ⟨v, rfl⟩ := trod_bool' ht hx
      trivial
    · rename_i fs ht
      rw [Option.bind_eq_some_iff] at h
      obtain ⟨ks', h1, h2⟩ := h
      split at h2
      · rename_i hl
        cases h2
        obtain ⟨xs, m, _, _, hlen, hxl, hf⟩ := DataW.trod_struct ht hx
        have each : ∀ f ∈ fs.toList, ∃ x, DataW.trod enc P W b sp hd m f.type ((cs.drop f.offset).take (P.cellsOf f.type)) = some x := by
          intro f hf'
          obtain ⟨i, hi, rfl⟩ := List.mem_iff_getElem.1 hf'
          have hi' : i < fs.size := by simpa using hi
          have := hf i _ (by simp [hi'] : fs[i]? = some (fs.toList[i]))
          exact ⟨xs[i]'(by omega), by rw [this]; simp [show i < xs.length by omega]⟩
        have main : ∀ (l : List Field) (off : Nat) (ks : List LK), (∀ f ∈ l, ∃ x, DataW.trod enc P W b sp hd m f.type ((cs.drop f.offset).take (P.cellsOf f.type)) = some x) →
            shpFs P (shp P d) l off = some ks → cs.length = off + ks.length → Mt ks (cs.drop off) := by
          intro l
          induction l with
          | nil =>
            intro off ks _ hk hl2
            simp [shpFs] at hk
            subst hk
            rw [List.drop_eq_nil_of_le (by simp at hl2; omega)]
            trivial
          | cons f l ihl =>
            intro off ks he hk hl2
            unfold shpFs at hk
            split at hk
            · rename_i ho
              rw [Option.bind_eq_some_iff] at hk
              obtain ⟨k1, a1, a2⟩ := hk
              split at a2
              · rename_i hk1
                rw [Option.map_eq_some_iff] at a2
                obtain ⟨k2, a3, rfl⟩ := a2
                obtain ⟨y, hy⟩ := he f (by simp)
                have m1 := ih _ _ a1 _ _ _ hy
                have m2 := ihl (off + k1.length) k2 (fun g hg => he g (by simp [hg])) a3 (by simp at hl2; omega)
                rw [ho, ← hk1] at m1
                have e : cs.drop off = (cs.drop off).take k1.length ++ cs.drop (off + k1.length) := by
                  rw [← List.drop_drop, List.take_append_drop]
                rw [e]
                exact m1.append m2
              · cases a2
            · cases hk
        have := main fs.toList 0 _ each h1 (by omega)
        simpa using this
      · cases h2
    · rename_i n' e ht
      rw [Option.bind_eq_some_iff] at h
      obtain ⟨k1, h1, h2⟩ := h
      split at h2
      · rename_i hl
        cases h2
        obtain ⟨xs, m, _, _, hlen, hxl, hf⟩ := DataW.trod_array ht hx
        have each : ∀ i, i < n' → Mt k1 ((cs.drop (i * k1.length)).take k1.length) := by
          intro i hi
          have := hf i hi
          rw [List.getElem?_eq_getElem (by omega)] at this
          have := ih _ _ h1 _ _ _ this
          rwa [← hl.1] at this
        have main : ∀ j, j ≤ n' → Mt (rep j k1) (cs.drop ((n' - j) * k1.length)) := by
          intro j
          induction j with
          | zero =>
            intro _
            rw [List.drop_eq_nil_of_le (by simp; omega)]
            trivial
          | succ j ihj =>
            intro hj
            have m1 := each (n' - (j + 1)) (by omega)
            have m2 := ihj (by omega)
            have e0 : (n' - (j + 1)) * k1.length + k1.length = (n' - j) * k1.length := by
              rw [show n' - j = (n' - (j + 1)) + 1 by omega, Nat.add_mul]; omega
            have e : cs.drop ((n' - (j + 1)) * k1.length) = (cs.drop ((n' - (j + 1)) * k1.length)).take k1.length ++ cs.drop ((n' - j) * k1.length) := by
              rw [← e0, ← List.drop_drop, List.take_append_drop]
            rw [e]
            exact m1.append m2
        have := main n' (Nat.le_refl _)
        simpa using this
      · cases h2
    · cases h
theorem el_st {H : Type} {enc : TypeId × Value → H} {P : Program} {W : World} {t : TypeId} {k : LK} {ks : List LK} (d : Nat) (hs : shp P d t = some (k :: ks)) :
    ∀ n cs x, DataW.trod enc P W 0 (fun _ => true) true n t cs = some x → ∃ y : (K.st k ks).T, cs = (K.st k ks).cells y ∧ RT.good k ks y :=
  fun n cs x h => (trod_shp d t _ hs n cs x h).data
/-- A plain struct that is handed to a law. -/
theorem open_st {H : Type} {enc : TypeId × Value → H} {P : Program} {W : World} {r : Reach} {b0 : Nat} {t : TypeId} {v : Value} {dd : DataW H} {ps : List MemPlace} {k : LK} {ks : List LK} (d : Nat) (hs : shp P d t = some (k :: ks))
    (ha : (match P.underlying t with | some (.struct _) | some (.array _ _) => true | _ => false) = true) (hval : Value.okWide P W r b0 t v) (h : DataW.Trod enc P W 0 (fun _ => true) true t v dd ps) :
    ∃ y : RT k ks, v = .agg (RT.cells k ks y).toArray ∧ RT.good k ks y := by
  have : ∃ cs, v = .agg cs := by
    unfold Value.okWide at hval
    split at hval
    · obtain ⟨cs, rfl, _⟩ := hval; exact ⟨cs, rfl⟩
    · obtain ⟨cs, rfl, _⟩ := hval; exact ⟨cs, rfl⟩
    · rename_i h1 h2
      exfalso
      split at ha
      · rename_i fs hf; exact h1 fs hf
      · rename_i n e hf; exact h2 n e hf
      · cases ha
  obtain ⟨cs, rfl⟩ := this
  obtain ⟨fuel, h⟩ := h
  obtain ⟨y, hy, hg⟩ := (trod_shp d t _ hs _ _ _ h).data
  have hy' : cs.toList = RT.cells k ks y := hy
  exact ⟨y, by rw [← hy'], hg⟩
/-! Structs with slices. -/
inductive RK where
  | leaf (k : LK) | sl (t : TypeId)
def MtR {H : Type} (enc : TypeId × Value → H) (P : Program) (W : World) : List RK → List Value → Prop
  | [], [] => True
  | .leaf (.i k) :: ks, .int k' n :: cs => k' = k ∧ (Lit.int k n).wf = true ∧ MtR enc P W ks cs
  | .leaf .b :: ks, .bool _ :: cs => MtR enc P W ks cs
  | .sl t :: ks, v :: cs => (∃ fuel x, DataW.trod enc P W 0 (fun _ => true) true fuel t [v] = some x) ∧ MtR enc P W ks cs
  | _, _ => False
theorem MtR.append {H : Type} {enc : TypeId × Value → H} {P : Program} {W : World} : ∀ {ks ls : List RK} {cs ds : List Value}, MtR enc P W ks cs → MtR enc P W ls ds → MtR enc P W (ks ++ ls) (cs ++ ds)
  | [], ls, [], ds, _, h => h
  | .leaf (.i _) :: ks, ls, .int _ _ :: cs, ds, h, h' => ⟨h.1, h.2.1, MtR.append h.2.2 h'⟩
  | .leaf .b :: ks, ls, .bool _ :: cs, ds, h, h' => MtR.append (ks := ks) (cs := cs) h h'
  | .sl _ :: ks, ls, v :: cs, ds, h, h' => ⟨h.1, MtR.append h.2 h'⟩
theorem MtR.ci {H : Type} {enc : TypeId × Value → H} {P : Program} {W : World} {k : IntKind} {ks : List RK} : ∀ {cs : List Value}, MtR enc P W (.leaf (.i k) :: ks) cs → ∃ n cs', cs = .int k n :: cs' ∧ (Lit.int k n).wf = true ∧ MtR enc P W ks cs'
  | .int _ n :: cs, h => by obtain ⟨rfl, h2, h3⟩ := h; exact ⟨n, cs, rfl, h2, h3⟩
theorem MtR.cb {H : Type} {enc : TypeId × Value → H} {P : Program} {W : World} {ks : List RK} : ∀ {cs : List Value}, MtR enc P W (.leaf .b :: ks) cs → ∃ b cs', cs = .bool b :: cs' ∧ MtR enc P W ks cs'
  | .bool b :: cs, h => ⟨b, cs, rfl, h⟩
theorem MtR.cs {H : Type} {enc : TypeId × Value → H} {P : Program} {W : World} {t : TypeId} {ks : List RK} : ∀ {cs : List Value}, MtR enc P W (.sl t :: ks) cs → ∃ v cs', cs = v :: cs' ∧ (∃ fuel x, DataW.trod enc P W 0 (fun _ => true) true fuel t [v] = some x) ∧ MtR enc P W ks cs'
  | v :: cs, h => ⟨v, cs, rfl, h.1, h.2⟩
theorem MtR.nil {H : Type} {enc : TypeId × Value → H} {P : Program} {W : World} : ∀ {cs : List Value}, MtR enc P W [] cs → cs = []
  | [], _ => rfl
def shpRF (P : Program) (f : TypeId → Option (List RK)) : List Field → Nat → Option (List RK)
  | [], _ => some []
  | x :: l, off => if x.offset = off then (f x.type).bind fun ks => if ks.length = P.cellsOf x.type then (shpRF P f l (off + ks.length)).map fun ls => ks ++ ls else none else none
def shpR (P : Program) : Nat → TypeId → Option (List RK)
  | 0, _ => none
  | d + 1, t => match P.underlying t with
    | some (.int k) => some [.leaf (.i k)]
    | some .bool => some [.leaf .b]
    | some (.slice _) => some [.sl t]
    | some (.struct fs) => (shpRF P (shpR P d) fs.toList 0).bind fun ks => if ks.length = P.cellsOf t then some ks else none
    | _ => none
theorem trod_shpR {H : Type} {enc : TypeId × Value → H} {P : Program} {W : World} : ∀ (d : Nat) (t : TypeId) (ks : List RK), shpR P d t = some ks →
    ∀ (n : Nat) (cs : List Value) (x : DataW H × List MemPlace), DataW.trod enc P W 0 (fun _ => true) true n t cs = some x → MtR enc P W ks cs
  | 0, t, ks, h => by simp [shpR] at h
  | d + 1, t, ks, h => by
    intro n cs x hx
    have ih := trod_shpR (enc := enc) (P := P) (W := W) d
    unfold shpR at h
    split at h
    · rename_i k ht
      cases h
      obtain ⟨m, rfl, _, hw⟩ := DataW.trod_int ht hx
      exact ⟨rfl, hw, trivial⟩
    · rename_i ht
      cases h
      obtain ⟨v, rfl⟩ := trod_bool' ht hx
      trivial
    · rename_i e ht
      cases h
      rcases DataW.trod_slice ht hx with ⟨rfl, _⟩ | ⟨a, l0, c0, elems, rest, n, _, rfl, _⟩
      · exact ⟨⟨_, _, hx⟩, trivial⟩
      · exact ⟨⟨_, _, hx⟩, trivial⟩
    · rename_i fs ht
      rw [Option.bind_eq_some_iff] at h
      obtain ⟨ks', h1, h2⟩ := h
      split at h2
      · rename_i hl
        cases h2
        obtain ⟨xs, m, _, _, hlen, hxl, hf⟩ := DataW.trod_struct ht hx
        have each : ∀ f ∈ fs.toList, ∃ x, DataW.trod enc P W 0 (fun _ => true) true m f.type ((cs.drop f.offset).take (P.cellsOf f.type)) = some x := by
          intro f hf'
          obtain ⟨i, hi, rfl⟩ := List.mem_iff_getElem.1 hf'
          have hi' : i < fs.size := by simpa using hi
          have := hf i _ (by simp [hi'] : fs[i]? = some (fs.toList[i]))
          exact ⟨xs[i]'(by omega), by rw [this]; simp [show i < xs.length by omega]⟩
        have main : ∀ (l : List Field) (off : Nat) (ks : List RK), (∀ f ∈ l, ∃ x, DataW.trod enc P W 0 (fun _ => true) true m f.type ((cs.drop f.offset).take (P.cellsOf f.type)) = some x) →
            shpRF P (shpR P d) l off = some ks → cs.length = off + ks.length → MtR enc P W ks (cs.drop off) := by
          intro l
          induction l with
          | nil =>
            intro off ks _ hk hl2
            simp [shpRF] at hk
            subst hk
            rw [List.drop_eq_nil_of_le (by simp at hl2; omega)]
            trivial
          | cons f l ihl =>
            intro off ks he hk hl2
            unfold shpRF at hk
            split at hk
            · rename_i ho
              rw [Option.bind_eq_some_iff] at hk
              obtain ⟨k1, a1, a2⟩ := hk
              split at a2
              · rename_i hk1
                rw [Option.map_eq_some_iff] at a2
                obtain ⟨k2, a3, rfl⟩ := a2
                obtain ⟨y, hy⟩ := he f (by simp)
                have m1 := ih _ _ a1 _ _ _ hy
                have m2 := ihl (off + k1.length) k2 (fun g hg => he g (by simp [hg])) a3 (by simp at hl2; omega)
                rw [ho, ← hk1] at m1
                have e : cs.drop off = (cs.drop off).take k1.length ++ cs.drop (off + k1.length) := by
                  rw [← List.drop_drop, List.take_append_drop]
                rw [e]
                exact m1.append m2
              · cases a2
            · cases hk
        have := main fs.toList 0 _ each h1 (by omega)
        simpa using this
      · cases h2
    · cases h
/-- A struct with slices that is handed to a law. -/
theorem open_str {H : Type} {enc : TypeId × Value → H} {P : Program} {W : World} {r : Reach} {b0 : Nat} {t : TypeId} {v : Value} {dd : DataW H} {ps : List MemPlace} {ks : List RK} (d : Nat) (hs : shpR P d t = some ks)
    (ha : (match P.underlying t with | some (.struct _) | some (.array _ _) => true | _ => false) = true) (hval : Value.okWide P W r b0 t v) (h : DataW.Trod enc P W 0 (fun _ => true) true t v dd ps) :
    ∃ cs : List Value, v = .agg cs.toArray ∧ MtR enc P W ks cs := by
  have : ∃ cs, v = .agg cs := by
    unfold Value.okWide at hval
    split at hval
    · obtain ⟨cs, rfl, _⟩ := hval; exact ⟨cs, rfl⟩
    · obtain ⟨cs, rfl, _⟩ := hval; exact ⟨cs, rfl⟩
    · rename_i h1 h2
      exfalso
      split at ha
      · rename_i fs hf; exact h1 fs hf
      · rename_i n e hf; exact h2 n e hf
      · cases ha
  obtain ⟨cs, rfl⟩ := this
  obtain ⟨fuel, h⟩ := h
  exact ⟨cs.toList, by simp, trod_shpR d t _ hs _ _ _ h⟩
/-- Whatever is said. (By choice, so that no checker looks at it.) -/
noncomputable def _root_.Go.Proofs.Ytlagndfhibkjpaa.V.gB (p : Prop) : Bool := open Classical in Classical.choose (⟨decide p, rfl⟩ : ∃ r : Bool, r = decide p)
theorem gB_of {p : Prop} (h : p) : V.gB p = true := by
  have e : V.gB p = _ := Classical.choose_spec (⟨open Classical in decide p, rfl⟩ : ∃ r : Bool, r = open Classical in decide p)
  rw [e]; simp [h]
theorem gB_iff {p : Prop} (h : V.gB p = true) : p := by
  have e : V.gB p = _ := Classical.choose_spec (⟨open Classical in decide p, rfl⟩ : ∃ r : Bool, r = open Classical in decide p)
  rw [e] at h; simpa using h
end Go.Proofs.Ytlagndfhibkjpaa.Sx
end

section
/- pose: the laws' examples, and cores held against each other. -/
namespace Go.Proofs.Ytlagndfhibkjpaa.Sx
open Go
set_option maxRecDepth 20000
set_option linter.unusedVariables false
set_option linter.unusedSimpArgs false
noncomputable def _root_.Go.Proofs.Ytlagndfhibkjpaa.M.pawake {α : Type} (k0 : Bool → Option α) : Option α :=
  if V.lenB (List.length (V.corP (1 : Int) (5 : Int) (0 : Int) (0 : Int) (0 : Int) [])) = true ∧ V.lenB (List.length (V.corA (1 : Int) (5 : Int) (0 : Int) (0 : Int) (0 : Int) [])) = true ∧ V.lenB (List.length (V.corE (1 : Int) (5 : Int) (0 : Int) (0 : Int) (0 : Int) [])) = true then
  if V.plG (V.plc (V.corP (1 : Int) (5 : Int) (0 : Int) (0 : Int) (0 : Int) []) (V.corA (1 : Int) (5 : Int) (0 : Int) (0 : Int) (0 : Int) []) (V.corE (1 : Int) (5 : Int) (0 : Int) (0 : Int) (0 : Int) []) ((4294967296 : Int), (0 : Int), (-1 : Int)) ((4294967296 : Int), (0 : Int), (0 : Int), (0 : Int))) = true then
    if V.lenB (List.length (V.plP (V.plc (V.corP (1 : Int) (5 : Int) (0 : Int) (0 : Int) (0 : Int) []) (V.corA (1 : Int) (5 : Int) (0 : Int) (0 : Int) (0 : Int) []) (V.corE (1 : Int) (5 : Int) (0 : Int) (0 : Int) (0 : Int) []) ((4294967296 : Int), (0 : Int), (-1 : Int)) ((4294967296 : Int), (0 : Int), (0 : Int), (0 : Int))))) = true then
      if cEq (V.chk (1 : Int) (5 : Int) (0 : Int) (0 : Int) (0 : Int) []) (0 : Int) = true then
        if cEq (↑(List.length (V.plP (V.plc (V.corP (1 : Int) (5 : Int) (0 : Int) (0 : Int) (0 : Int) []) (V.corA (1 : Int) (5 : Int) (0 : Int) (0 : Int) (0 : Int) []) (V.corE (1 : Int) (5 : Int) (0 : Int) (0 : Int) (0 : Int) []) ((4294967296 : Int), (0 : Int), (-1 : Int)) ((4294967296 : Int), (0 : Int), (0 : Int), (0 : Int))))) : Int) (1 : Int) = true then
          if (0 : Int) ≤ (0 : Int) ∧ (0 : Int) < (↑(List.length (V.plP (V.plc (V.corP (1 : Int) (5 : Int) (0 : Int) (0 : Int) (0 : Int) []) (V.corA (1 : Int) (5 : Int) (0 : Int) (0 : Int) (0 : Int) []) (V.corE (1 : Int) (5 : Int) (0 : Int) (0 : Int) (0 : Int) []) ((4294967296 : Int), (0 : Int), (-1 : Int)) ((4294967296 : Int), (0 : Int), (0 : Int), (0 : Int))))) : Int) then
            if
                (cEq (Prod.fst (List.getD (V.plP (V.plc (V.corP (1 : Int) (5 : Int) (0 : Int) (0 : Int) (0 : Int) []) (V.corA (1 : Int) (5 : Int) (0 : Int) (0 : Int) (0 : Int) []) (V.corE (1 : Int) (5 : Int) (0 : Int) (0 : Int) (0 : Int) []) ((4294967296 : Int), (0 : Int), (-1 : Int)) ((4294967296 : Int), (0 : Int), (0 : Int), (0 : Int)))) (0 : Nat) ((0 : Int), (0 : Int), (0 : Int)))) (4096 : Int) &&
                    (cEq (Prod.fst (Prod.snd (List.getD (V.plP (V.plc (V.corP (1 : Int) (5 : Int) (0 : Int) (0 : Int) (0 : Int) []) (V.corA (1 : Int) (5 : Int) (0 : Int) (0 : Int) (0 : Int) []) (V.corE (1 : Int) (5 : Int) (0 : Int) (0 : Int) (0 : Int) []) ((4294967296 : Int), (0 : Int), (-1 : Int)) ((4294967296 : Int), (0 : Int), (0 : Int), (0 : Int)))) (0 : Nat) ((0 : Int), (0 : Int), (0 : Int))))) (0 : Int) &&
                      (cEq (Prod.snd (Prod.snd (List.getD (V.plP (V.plc (V.corP (1 : Int) (5 : Int) (0 : Int) (0 : Int) (0 : Int) []) (V.corA (1 : Int) (5 : Int) (0 : Int) (0 : Int) (0 : Int) []) (V.corE (1 : Int) (5 : Int) (0 : Int) (0 : Int) (0 : Int) []) ((4294967296 : Int), (0 : Int), (-1 : Int)) ((4294967296 : Int), (0 : Int), (0 : Int), (0 : Int)))) (0 : Nat) ((0 : Int), (0 : Int), (0 : Int))))) (-1 : Int) && true))) =
                  true then
              k0
                (cEq (Prod.fst (V.spn (V.plP (V.plc (V.corP (1 : Int) (5 : Int) (0 : Int) (0 : Int) (0 : Int) []) (V.corA (1 : Int) (5 : Int) (0 : Int) (0 : Int) (0 : Int) []) (V.corE (1 : Int) (5 : Int) (0 : Int) (0 : Int) (0 : Int) []) ((4294967296 : Int), (0 : Int), (-1 : Int)) ((4294967296 : Int), (0 : Int), (0 : Int), (0 : Int)))) (V.corR (1 : Int) (5 : Int) (0 : Int) (0 : Int) (0 : Int) []))) (4091 : Int) &&
                    (cEq (Prod.fst (Prod.snd (V.spn (V.plP (V.plc (V.corP (1 : Int) (5 : Int) (0 : Int) (0 : Int) (0 : Int) []) (V.corA (1 : Int) (5 : Int) (0 : Int) (0 : Int) (0 : Int) []) (V.corE (1 : Int) (5 : Int) (0 : Int) (0 : Int) (0 : Int) []) ((4294967296 : Int), (0 : Int), (-1 : Int)) ((4294967296 : Int), (0 : Int), (0 : Int), (0 : Int)))) (V.corR (1 : Int) (5 : Int) (0 : Int) (0 : Int) (0 : Int) [])))) (-5 : Int) &&
                      (cEq (Prod.fst (Prod.snd (Prod.snd (V.spn (V.plP (V.plc (V.corP (1 : Int) (5 : Int) (0 : Int) (0 : Int) (0 : Int) []) (V.corA (1 : Int) (5 : Int) (0 : Int) (0 : Int) (0 : Int) []) (V.corE (1 : Int) (5 : Int) (0 : Int) (0 : Int) (0 : Int) []) ((4294967296 : Int), (0 : Int), (-1 : Int)) ((4294967296 : Int), (0 : Int), (0 : Int), (0 : Int)))) (V.corR (1 : Int) (5 : Int) (0 : Int) (0 : Int) (0 : Int) []))))) (-6 : Int) && true)) &&
                  (cEq (Prod.fst (Prod.snd (Prod.snd (Prod.snd (V.spn (V.plP (V.plc (V.corP (1 : Int) (5 : Int) (0 : Int) (0 : Int) (0 : Int) []) (V.corA (1 : Int) (5 : Int) (0 : Int) (0 : Int) (0 : Int) []) (V.corE (1 : Int) (5 : Int) (0 : Int) (0 : Int) (0 : Int) []) ((4294967296 : Int), (0 : Int), (-1 : Int)) ((4294967296 : Int), (0 : Int), (0 : Int), (0 : Int)))) (V.corR (1 : Int) (5 : Int) (0 : Int) (0 : Int) (0 : Int) [])))))) (4101 : Int) &&
                      (cEq (Prod.fst (Prod.snd (Prod.snd (Prod.snd (Prod.snd (V.spn (V.plP (V.plc (V.corP (1 : Int) (5 : Int) (0 : Int) (0 : Int) (0 : Int) []) (V.corA (1 : Int) (5 : Int) (0 : Int) (0 : Int) (0 : Int) []) (V.corE (1 : Int) (5 : Int) (0 : Int) (0 : Int) (0 : Int) []) ((4294967296 : Int), (0 : Int), (-1 : Int)) ((4294967296 : Int), (0 : Int), (0 : Int), (0 : Int)))) (V.corR (1 : Int) (5 : Int) (0 : Int) (0 : Int) (0 : Int) []))))))) (5 : Int) &&
                        (cEq (Prod.snd (Prod.snd (Prod.snd (Prod.snd (Prod.snd (V.spn (V.plP (V.plc (V.corP (1 : Int) (5 : Int) (0 : Int) (0 : Int) (0 : Int) []) (V.corA (1 : Int) (5 : Int) (0 : Int) (0 : Int) (0 : Int) []) (V.corE (1 : Int) (5 : Int) (0 : Int) (0 : Int) (0 : Int) []) ((4294967296 : Int), (0 : Int), (-1 : Int)) ((4294967296 : Int), (0 : Int), (0 : Int), (0 : Int)))) (V.corR (1 : Int) (5 : Int) (0 : Int) (0 : Int) (0 : Int) []))))))) (4 : Int) && true)) &&
                    true))
            else k0 false
          else none
        else k0 false
      else k0 false
    else none
  else if V.lenB (0 : Nat) = true then if cEq (V.chk (1 : Int) (5 : Int) (0 : Int) (0 : Int) (0 : Int) []) (0 : Int) = true then k0 false else k0 false else none
else none
theorem pawake_eq {α : Type} (Q : SV → Hp → Option α) : callI E look_rplace (exec E look_rplace noLps 400) 8 ([]) ([]) Q = M.pawake (fun (x0 : Bool) => Q (SV.bool x0) ([])) := by kernel_rfl
def pawake_sp : List AS := []
noncomputable def pawake_go {α : Type} (ds : List D) (Q : SV → Hp → Option α) : Option α :=
  dE ds (M.pawake (fun (x0 : Bool) => Q (SV.bool x0) ([])))
theorem pawake_ok {α : Type} : FnOk E.P 8 (fEnt (α := α) pawake_sp pawake_go) :=
  fEnt_ok E (look_rplace_ok) (exec_sound E E_ok (look_rplace_ok) (noLps_ok _) 400) fun ds Q r h => by
    unfold pawake_go at h
    obtain ⟨rfl, hE⟩ := dE_inv h
    exact ⟨[], [], fun vs => by kernel_rfl, (pawake_eq Q).trans hE⟩
theorem plG_some (t : List P3 × List P3 × List P3) : V.plG (some t) = true := hid_eq _
theorem plP_some (t : List P3 × List P3 × List P3) : V.plP (some t) = t.1 := hid_eq _
theorem plA_some (t : List P3 × List P3 × List P3) : V.plA (some t) = t.2.1 := hid_eq _
theorem plE_some (t : List P3 × List P3 × List P3) : V.plE (some t) = t.2.2 := hid_eq _
def idM : V.T9 := ((4294967296, 0, 0), (0, 4294967296, 0), (0, 0, 4294967296))
theorem id_rows : V.tRows (4294967296, 0, 0, 0) = some idM := by decide +kernel
theorem wy_nil (f : Bool) (m : V.T9) : V.wy f m [] = (true, f, []) := hid_eq _
theorem aw_plc : V.plc [(0, 0, 0)] [] [] (4294967296, 0, -1) (4294967296, 0, 0, 0) = some ([(4096, 0, -1)], [], []) := by
  unfold V.plc
  rw [hid_eq]
  unfold plcP
  rw [id_rows]
  have hA : atT idM (0, 0, 0) = some (0, 0, 0) := by decide +kernel
  have hB : atA idM (4294967296, 0, -1) (0, 0, 0) = some (4294967296, 0, -1) := by decide +kernel
  have hQ : atQ idM (4294967296, 0, -1) (0, 0, 0) = (4096, 0, -1) := by decide +kernel
  have hr : placeRun (V.q9 (some idM)) (4294967296, 0, -1) [(0, 0, 0)] (V.on (some idM) false) [] = some (false, [(4096, 0, -1)]) := by
    show (if Sm (0, 0, 0) 1048576 then (if Sm (atQ idM (4294967296, 0, -1) (0, 0, 0)) 8388608 then some (V.on (atA idM (4294967296, 0, -1) (0, 0, 0)) (V.on (atT idM (0, 0, 0)) false), [] ++ [atQ idM (4294967296, 0, -1) (0, 0, 0)]) else none) else none) = _
    rw [hA, hB, hQ, if_pos (by decide), if_pos (by decide)]
    rfl
  rw [hr]
  show plcK (V.q9 (some idM)) [] [] false [(4096, 0, -1)] = _
  unfold plcK
  rw [wy_nil, wy_nil]
  rfl
theorem pawake_v {α : Type} (k0 : Bool → Option α) : M.pawake k0 = k0 true := by
  have h0 : chkP 1 5 0 0 0 [] = 0 := by unfold chkP; rw [if_pos rfl, if_pos (by decide)]
  have c0 : V.chk 1 5 0 0 0 [] = 0 := (hid_eq _).trans h0
  have cP : V.corP 1 5 0 0 0 [] = [(0, 0, 0)] := by unfold V.corP; rw [hid_eq, if_pos h0]; rfl
  have cA : V.corA 1 5 0 0 0 [] = [] := by unfold V.corA; rw [hid_eq, if_pos h0]; rfl
  have cE : V.corE 1 5 0 0 0 [] = [] := by unfold V.corE; rw [hid_eq, if_pos h0]; rfl
  have cR : V.corR 1 5 0 0 0 [] = 5 := by unfold V.corR; rw [hid_eq, if_pos h0]
  have cS : V.spn [(4096, 0, -1)] 5 = (4091, -5, -6, 4101, 5, 4) := by unfold V.spn; rw [hid_eq]; decide +kernel
  unfold M.pawake
  rw [c0, cP, cA, cE, cR, aw_plc, plG_some, plP_some]
  show (if _ then if true = true then if V.lenB (List.length ([(4096, 0, -1)] : List P3)) = true then _ else _ else _ else _) = _
  rw [if_pos ⟨lenB_of (by decide), lenB_of (by decide), lenB_of (by decide)⟩, if_pos rfl, if_pos (lenB_of (by decide)), cS]
  simp [cEq_eq]
noncomputable def pawake_h {α : Type} (ds : List D) (Q : SV → Hp → Option α) : Option α :=
  dE ds (Q (.bool true) ([]))
theorem pawake_h_ok {α : Type} : FnOk E.P 8 (fEnt (α := α) pawake_sp pawake_h) :=
  fEnt_ok E (look_rplace_ok) (exec_sound E E_ok (look_rplace_ok) (noLps_ok _) 400) fun ds Q r h => by
    unfold pawake_h at h
    obtain ⟨rfl, hE⟩ := dE_inv h
    exact ⟨[], [], fun vs => by kernel_rfl, (pawake_eq Q).trans ((pawake_v _).trans hE)⟩
noncomputable def look_pawake {α : Type} : LookF α := addFn 8 (fEnt pawake_sp pawake_h) look_rplace
theorem look_pawake_ok {α : Type} : LookOk E.P (look_pawake (α := α)) := addFn_ok pawake_h_ok (look_rplace_ok)
noncomputable def _root_.Go.Proofs.Ytlagndfhibkjpaa.M.pboxes {α : Type} (a0 : Int) (a1 : Int) (a2 : Int) (a3 : Int) (a4 : Int) (a5 : Int) (b0 : Int) (b1 : Int) (b2 : Int) (b3 : Int) (b4 : Int) (b5 : Int) (c0 : Int) (c1 : Int) (c2 : Int) (c3 : Int) (c4 : Int) (c5 : Int) (n : Int) (k0 : Bool → Option α) : Option α :=
  if (!V.pmeet_r0 a0 a1 a2 a3 a4 a5 b0 b1 b2 b3 b4 b5 == V.rmeet_r0 a0 a1 a2 a3 a4 a5 b0 b1 b2 b3 b4 b5) = true then k0 false
else
  if (!V.pmeet_r0 b0 b1 b2 b3 b4 b5 a0 a1 a2 a3 a4 a5 == V.pmeet_r0 a0 a1 a2 a3 a4 a5 b0 b1 b2 b3 b4 b5) = true then k0 false
  else
    if
        (!(cEq (V.pgrown_r0 a0 a1 a2 a3 a4 a5 n) (V.rgrown_r0 a0 a1 a2 a3 a4 a5 n) && (cEq (V.pgrown_r1 a0 a1 a2 a3 a4 a5 n) (V.rgrown_r1 a0 a1 a2 a3 a4 a5 n) && (cEq (V.pgrown_r2 a0 a1 a2 a3 a4 a5 n) (V.rgrown_r2 a0 a1 a2 a3 a4 a5 n) && true)) && (cEq (V.pgrown_r3 a0 a1 a2 a3 a4 a5 n) (V.rgrown_r3 a0 a1 a2 a3 a4 a5 n) && (cEq (V.pgrown_r4 a0 a1 a2 a3 a4 a5 n) (V.rgrown_r4 a0 a1 a2 a3 a4 a5 n) && (cEq (V.pgrown_r5 a0 a1 a2 a3 a4 a5 n) (V.rgrown_r5 a0 a1 a2 a3 a4 a5 n) && true)) && true))) =
          true then
      k0 false
    else
      if
          (!(cEq (V.pjoin_r0 a0 a1 a2 a3 a4 a5 b0 b1 b2 b3 b4 b5) (V.rjoin_r0 a0 a1 a2 a3 a4 a5 b0 b1 b2 b3 b4 b5) && (cEq (V.pjoin_r1 a0 a1 a2 a3 a4 a5 b0 b1 b2 b3 b4 b5) (V.rjoin_r1 a0 a1 a2 a3 a4 a5 b0 b1 b2 b3 b4 b5) && (cEq (V.pjoin_r2 a0 a1 a2 a3 a4 a5 b0 b1 b2 b3 b4 b5) (V.rjoin_r2 a0 a1 a2 a3 a4 a5 b0 b1 b2 b3 b4 b5) && true)) &&
                (cEq (V.pjoin_r3 a0 a1 a2 a3 a4 a5 b0 b1 b2 b3 b4 b5) (V.rjoin_r3 a0 a1 a2 a3 a4 a5 b0 b1 b2 b3 b4 b5) && (cEq (V.pjoin_r4 a0 a1 a2 a3 a4 a5 b0 b1 b2 b3 b4 b5) (V.rjoin_r4 a0 a1 a2 a3 a4 a5 b0 b1 b2 b3 b4 b5) && (cEq (V.pjoin_r5 a0 a1 a2 a3 a4 a5 b0 b1 b2 b3 b4 b5) (V.rjoin_r5 a0 a1 a2 a3 a4 a5 b0 b1 b2 b3 b4 b5) && true)) && true))) =
            true then
        k0 false
      else if (!V.pmeet_r0 c0 c1 c2 c3 c4 c5 a0 a1 a2 a3 a4 a5) = true then k0 true else k0 (V.pmeet_r0 c0 c1 c2 c3 c4 c5 (V.pjoin_r0 a0 a1 a2 a3 a4 a5 b0 b1 b2 b3 b4 b5) (V.pjoin_r1 a0 a1 a2 a3 a4 a5 b0 b1 b2 b3 b4 b5) (V.pjoin_r2 a0 a1 a2 a3 a4 a5 b0 b1 b2 b3 b4 b5) (V.pjoin_r3 a0 a1 a2 a3 a4 a5 b0 b1 b2 b3 b4 b5) (V.pjoin_r4 a0 a1 a2 a3 a4 a5 b0 b1 b2 b3 b4 b5) (V.pjoin_r5 a0 a1 a2 a3 a4 a5 b0 b1 b2 b3 b4 b5))
theorem pboxes_eq {α : Type} (a0 : Int) (a1 : Int) (a2 : Int) (a3 : Int) (a4 : Int) (a5 : Int) (b0 : Int) (b1 : Int) (b2 : Int) (b3 : Int) (b4 : Int) (b5 : Int) (c0 : Int) (c1 : Int) (c2 : Int) (c3 : Int) (c4 : Int) (c5 : Int) (n : Int) (Q : SV → Hp → Option α) : callI E look_pawake (exec E look_pawake noLps 400) 4 ([SV.agg [SV.int .i64 a0, SV.int .i64 a1, SV.int .i64 a2, SV.int .i64 a3, SV.int .i64 a4, SV.int .i64 a5], SV.agg [SV.int .i64 b0, SV.int .i64 b1, SV.int .i64 b2, SV.int .i64 b3, SV.int .i64 b4, SV.int .i64 b5], SV.agg [SV.int .i64 c0, SV.int .i64 c1, SV.int .i64 c2, SV.int .i64 c3, SV.int .i64 c4, SV.int .i64 c5], SV.int .i64 n]) ([]) Q = M.pboxes a0 a1 a2 a3 a4 a5 b0 b1 b2 b3 b4 b5 c0 c1 c2 c3 c4 c5 n (fun (x1 : Bool) => Q (SV.bool x1) ([])) := by kernel_rfl
def pboxes_sp : List AS := [.val (.agg [.int .i64 0, .int .i64 0, .int .i64 0, .int .i64 0, .int .i64 0, .int .i64 0]), .val (.agg [.int .i64 0, .int .i64 0, .int .i64 0, .int .i64 0, .int .i64 0, .int .i64 0]), .val (.agg [.int .i64 0, .int .i64 0, .int .i64 0, .int .i64 0, .int .i64 0, .int .i64 0]), .val (.int .i64 0)]
noncomputable def pboxes_go {α : Type} (ds : List D) (Q : SV → Hp → Option α) : Option α :=
  dI ds fun a0 ds => dI ds fun a1 ds => dI ds fun a2 ds => dI ds fun a3 ds => dI ds fun a4 ds => dI ds fun a5 ds => dI ds fun b0 ds => dI ds fun b1 ds => dI ds fun b2 ds => dI ds fun b3 ds => dI ds fun b4 ds => dI ds fun b5 ds => dI ds fun c0 ds => dI ds fun c1 ds => dI ds fun c2 ds => dI ds fun c3 ds => dI ds fun c4 ds => dI ds fun c5 ds => dI ds fun n ds => dE ds (M.pboxes a0 a1 a2 a3 a4 a5 b0 b1 b2 b3 b4 b5 c0 c1 c2 c3 c4 c5 n (fun (x1 : Bool) => Q (SV.bool x1) ([])))
theorem pboxes_ok {α : Type} : FnOk E.P 4 (fEnt (α := α) pboxes_sp pboxes_go) :=
  fEnt_ok E (look_pawake_ok) (exec_sound E E_ok (look_pawake_ok) (noLps_ok _) 400) fun ds Q r h => by
    unfold pboxes_go at h
    obtain ⟨a0, ds, rfl, h1⟩ := dI_inv h
    obtain ⟨a1, ds, rfl, h2⟩ := dI_inv h1
    obtain ⟨a2, ds, rfl, h3⟩ := dI_inv h2
    obtain ⟨a3, ds, rfl, h4⟩ := dI_inv h3
    obtain ⟨a4, ds, rfl, h5⟩ := dI_inv h4
    obtain ⟨a5, ds, rfl, h6⟩ := dI_inv h5
    obtain ⟨b0, ds, rfl, h7⟩ := dI_inv h6
    obtain ⟨b1, ds, rfl, h8⟩ := dI_inv h7
    obtain ⟨b2, ds, rfl, h9⟩ := dI_inv h8
    obtain ⟨b3, ds, rfl, h10⟩ := dI_inv h9
    obtain ⟨b4, ds, rfl, h11⟩ := dI_inv h10
    obtain ⟨b5, ds, rfl, h12⟩ := dI_inv h11
    obtain ⟨c0, ds, rfl, h13⟩ := dI_inv h12
    obtain ⟨c1, ds, rfl, h14⟩ := dI_inv h13
    obtain ⟨c2, ds, rfl, h15⟩ := dI_inv h14
    obtain ⟨c3, ds, rfl, h16⟩ := dI_inv h15
    obtain ⟨c4, ds, rfl, h17⟩ := dI_inv h16
    obtain ⟨c5, ds, rfl, h18⟩ := dI_inv h17
    obtain ⟨n, ds, rfl, h19⟩ := dI_inv h18
    obtain ⟨rfl, hE⟩ := dE_inv h19
    exact ⟨[SV.agg [SV.int .i64 a0, SV.int .i64 a1, SV.int .i64 a2, SV.int .i64 a3, SV.int .i64 a4, SV.int .i64 a5], SV.agg [SV.int .i64 b0, SV.int .i64 b1, SV.int .i64 b2, SV.int .i64 b3, SV.int .i64 b4, SV.int .i64 b5], SV.agg [SV.int .i64 c0, SV.int .i64 c1, SV.int .i64 c2, SV.int .i64 c3, SV.int .i64 c4, SV.int .i64 c5], SV.int .i64 n], [], fun vs => by kernel_rfl, (pboxes_eq a0 a1 a2 a3 a4 a5 b0 b1 b2 b3 b4 b5 c0 c1 c2 c3 c4 c5 n Q).trans hE⟩
theorem pmeet_iff (a0 a1 a2 a3 a4 a5 b0 b1 b2 b3 b4 b5 : Int) : V.pmeet_r0 a0 a1 a2 a3 a4 a5 b0 b1 b2 b3 b4 b5 = true ↔ a0 ≤ b3 ∧ b0 ≤ a3 ∧ a1 ≤ b4 ∧ b1 ≤ a4 ∧ a2 ≤ b5 ∧ b2 ≤ a5 := by
  unfold V.pmeet_r0
  simp only [cLe_eq, ifb]
  simp only [Bool.and_eq_true, decide_eq_true_eq]
theorem pmeet_comm (a0 a1 a2 a3 a4 a5 b0 b1 b2 b3 b4 b5 : Int) : V.pmeet_r0 b0 b1 b2 b3 b4 b5 a0 a1 a2 a3 a4 a5 = V.pmeet_r0 a0 a1 a2 a3 a4 a5 b0 b1 b2 b3 b4 b5 := by
  rw [Bool.eq_iff_iff, pmeet_iff, pmeet_iff]; omega
theorem mn_le (a b : Int) : (if b < a then b else a) ≤ a ∧ (if b < a then b else a) ≤ b := by split <;> omega
theorem le_mx (a b : Int) : a ≤ (if b > a then b else a) ∧ b ≤ (if b > a then b else a) := by split <;> omega
theorem pmeet_join (a0 a1 a2 a3 a4 a5 b0 b1 b2 b3 b4 b5 c0 c1 c2 c3 c4 c5 : Int) (h : V.pmeet_r0 c0 c1 c2 c3 c4 c5 a0 a1 a2 a3 a4 a5 = true) :
    V.pmeet_r0 c0 c1 c2 c3 c4 c5 (V.pjoin_r0 a0 a1 a2 a3 a4 a5 b0 b1 b2 b3 b4 b5) (V.pjoin_r1 a0 a1 a2 a3 a4 a5 b0 b1 b2 b3 b4 b5) (V.pjoin_r2 a0 a1 a2 a3 a4 a5 b0 b1 b2 b3 b4 b5) (V.pjoin_r3 a0 a1 a2 a3 a4 a5 b0 b1 b2 b3 b4 b5) (V.pjoin_r4 a0 a1 a2 a3 a4 a5 b0 b1 b2 b3 b4 b5) (V.pjoin_r5 a0 a1 a2 a3 a4 a5 b0 b1 b2 b3 b4 b5) = true := by
  rw [pmeet_iff] at h ⊢
  unfold V.pjoin_r0 V.pjoin_r1 V.pjoin_r2 V.pjoin_r3 V.pjoin_r4 V.pjoin_r5
  have h0 := mn_le a0 b0
  have h1 := mn_le a1 b1
  have h2 := mn_le a2 b2
  have h3 := le_mx a3 b3
  have h4 := le_mx a4 b4
  have h5 := le_mx a5 b5
  refine ⟨?_, ?_, ?_, ?_, ?_, ?_⟩ <;> omega
theorem pboxes_v {α : Type} (a0 a1 a2 a3 a4 a5 b0 b1 b2 b3 b4 b5 c0 c1 c2 c3 c4 c5 n : Int) (k0 : Bool → Option α) : M.pboxes a0 a1 a2 a3 a4 a5 b0 b1 b2 b3 b4 b5 c0 c1 c2 c3 c4 c5 n k0 = k0 true := by
  unfold M.pboxes
  have ee : ∀ a : Int, cEq a a = true := by intro a; rw [cEq_eq]; simp
  have e0 : V.rmeet_r0 a0 a1 a2 a3 a4 a5 b0 b1 b2 b3 b4 b5 = V.pmeet_r0 a0 a1 a2 a3 a4 a5 b0 b1 b2 b3 b4 b5 := rfl
  have g0 : V.rgrown_r0 a0 a1 a2 a3 a4 a5 n = V.pgrown_r0 a0 a1 a2 a3 a4 a5 n := rfl
  have g1 : V.rgrown_r1 a0 a1 a2 a3 a4 a5 n = V.pgrown_r1 a0 a1 a2 a3 a4 a5 n := rfl
  have g2 : V.rgrown_r2 a0 a1 a2 a3 a4 a5 n = V.pgrown_r2 a0 a1 a2 a3 a4 a5 n := rfl
  have g3 : V.rgrown_r3 a0 a1 a2 a3 a4 a5 n = V.pgrown_r3 a0 a1 a2 a3 a4 a5 n := rfl
  have g4 : V.rgrown_r4 a0 a1 a2 a3 a4 a5 n = V.pgrown_r4 a0 a1 a2 a3 a4 a5 n := rfl
  have g5 : V.rgrown_r5 a0 a1 a2 a3 a4 a5 n = V.pgrown_r5 a0 a1 a2 a3 a4 a5 n := rfl
  have j0 : V.rjoin_r0 a0 a1 a2 a3 a4 a5 b0 b1 b2 b3 b4 b5 = V.pjoin_r0 a0 a1 a2 a3 a4 a5 b0 b1 b2 b3 b4 b5 := rfl
  have j1 : V.rjoin_r1 a0 a1 a2 a3 a4 a5 b0 b1 b2 b3 b4 b5 = V.pjoin_r1 a0 a1 a2 a3 a4 a5 b0 b1 b2 b3 b4 b5 := rfl
  have j2 : V.rjoin_r2 a0 a1 a2 a3 a4 a5 b0 b1 b2 b3 b4 b5 = V.pjoin_r2 a0 a1 a2 a3 a4 a5 b0 b1 b2 b3 b4 b5 := rfl
  have j3 : V.rjoin_r3 a0 a1 a2 a3 a4 a5 b0 b1 b2 b3 b4 b5 = V.pjoin_r3 a0 a1 a2 a3 a4 a5 b0 b1 b2 b3 b4 b5 := rfl
  have j4 : V.rjoin_r4 a0 a1 a2 a3 a4 a5 b0 b1 b2 b3 b4 b5 = V.pjoin_r4 a0 a1 a2 a3 a4 a5 b0 b1 b2 b3 b4 b5 := rfl
  have j5 : V.rjoin_r5 a0 a1 a2 a3 a4 a5 b0 b1 b2 b3 b4 b5 = V.pjoin_r5 a0 a1 a2 a3 a4 a5 b0 b1 b2 b3 b4 b5 := rfl
  rw [e0, pmeet_comm a0 a1 a2 a3 a4 a5 b0 b1 b2 b3 b4 b5, g0, g1, g2, g3, g4, g5, j0, j1, j2, j3, j4, j5]
  simp only [ee, Bool.and_true, Bool.not_true, Bool.false_eq_true, if_false, beq_self_eq_true]
  by_cases h : V.pmeet_r0 c0 c1 c2 c3 c4 c5 a0 a1 a2 a3 a4 a5 = true
  · rw [if_neg (by rw [h]; decide), pmeet_join a0 a1 a2 a3 a4 a5 b0 b1 b2 b3 b4 b5 c0 c1 c2 c3 c4 c5 h]
  · rw [if_pos (by simpa using h)]
noncomputable def pboxes_h {α : Type} (ds : List D) (Q : SV → Hp → Option α) : Option α :=
  dI ds fun a0 ds => dI ds fun a1 ds => dI ds fun a2 ds => dI ds fun a3 ds => dI ds fun a4 ds => dI ds fun a5 ds => dI ds fun b0 ds => dI ds fun b1 ds => dI ds fun b2 ds => dI ds fun b3 ds => dI ds fun b4 ds => dI ds fun b5 ds => dI ds fun c0 ds => dI ds fun c1 ds => dI ds fun c2 ds => dI ds fun c3 ds => dI ds fun c4 ds => dI ds fun c5 ds => dI ds fun n ds => dE ds (if V.gB ((-9223372036854775808 ≤ a0 ∧ a0 < 9223372036854775808) ∧ (-9223372036854775808 ≤ a1 ∧ a1 < 9223372036854775808) ∧ (-9223372036854775808 ≤ a2 ∧ a2 < 9223372036854775808) ∧ (-9223372036854775808 ≤ a3 ∧ a3 < 9223372036854775808) ∧ (-9223372036854775808 ≤ a4 ∧ a4 < 9223372036854775808) ∧ (-9223372036854775808 ≤ a5 ∧ a5 < 9223372036854775808) ∧ (-9223372036854775808 ≤ b0 ∧ b0 < 9223372036854775808) ∧ (-9223372036854775808 ≤ b1 ∧ b1 < 9223372036854775808) ∧ (-9223372036854775808 ≤ b2 ∧ b2 < 9223372036854775808) ∧ (-9223372036854775808 ≤ b3 ∧ b3 < 9223372036854775808) ∧ (-9223372036854775808 ≤ b4 ∧ b4 < 9223372036854775808) ∧ (-9223372036854775808 ≤ b5 ∧ b5 < 9223372036854775808) ∧ (-9223372036854775808 ≤ c0 ∧ c0 < 9223372036854775808) ∧ (-9223372036854775808 ≤ c1 ∧ c1 < 9223372036854775808) ∧ (-9223372036854775808 ≤ c2 ∧ c2 < 9223372036854775808) ∧ (-9223372036854775808 ≤ c3 ∧ c3 < 9223372036854775808) ∧ (-9223372036854775808 ≤ c4 ∧ c4 < 9223372036854775808) ∧ (-9223372036854775808 ≤ c5 ∧ c5 < 9223372036854775808) ∧ (-9223372036854775808 ≤ n ∧ n < 9223372036854775808)) = true then Q (.bool true) ([]) else none)
theorem pboxes_h_ok {α : Type} : FnOk E.P 4 (fEnt (α := α) pboxes_sp pboxes_h) :=
  fEnt_ok E (look_pawake_ok) (exec_sound E E_ok (look_pawake_ok) (noLps_ok _) 400) fun ds Q r h => by
    unfold pboxes_h at h
    obtain ⟨a0, ds, rfl, h1⟩ := dI_inv h
    obtain ⟨a1, ds, rfl, h2⟩ := dI_inv h1
    obtain ⟨a2, ds, rfl, h3⟩ := dI_inv h2
    obtain ⟨a3, ds, rfl, h4⟩ := dI_inv h3
    obtain ⟨a4, ds, rfl, h5⟩ := dI_inv h4
    obtain ⟨a5, ds, rfl, h6⟩ := dI_inv h5
    obtain ⟨b0, ds, rfl, h7⟩ := dI_inv h6
    obtain ⟨b1, ds, rfl, h8⟩ := dI_inv h7
    obtain ⟨b2, ds, rfl, h9⟩ := dI_inv h8
    obtain ⟨b3, ds, rfl, h10⟩ := dI_inv h9
    obtain ⟨b4, ds, rfl, h11⟩ := dI_inv h10
    obtain ⟨b5, ds, rfl, h12⟩ := dI_inv h11
    obtain ⟨c0, ds, rfl, h13⟩ := dI_inv h12
    obtain ⟨c1, ds, rfl, h14⟩ := dI_inv h13
    obtain ⟨c2, ds, rfl, h15⟩ := dI_inv h14
    obtain ⟨c3, ds, rfl, h16⟩ := dI_inv h15
    obtain ⟨c4, ds, rfl, h17⟩ := dI_inv h16
    obtain ⟨c5, ds, rfl, h18⟩ := dI_inv h17
    obtain ⟨n, ds, rfl, h19⟩ := dI_inv h18
    obtain ⟨rfl, hE⟩ := dE_inv h19
    split at hE
    · rename_i hg
      exact ⟨[SV.agg [SV.int .i64 a0, SV.int .i64 a1, SV.int .i64 a2, SV.int .i64 a3, SV.int .i64 a4, SV.int .i64 a5], SV.agg [SV.int .i64 b0, SV.int .i64 b1, SV.int .i64 b2, SV.int .i64 b3, SV.int .i64 b4, SV.int .i64 b5], SV.agg [SV.int .i64 c0, SV.int .i64 c1, SV.int .i64 c2, SV.int .i64 c3, SV.int .i64 c4, SV.int .i64 c5], SV.int .i64 n], [], fun vs => by kernel_rfl, (pboxes_eq a0 a1 a2 a3 a4 a5 b0 b1 b2 b3 b4 b5 c0 c1 c2 c3 c4 c5 n Q).trans ((pboxes_v a0 a1 a2 a3 a4 a5 b0 b1 b2 b3 b4 b5 c0 c1 c2 c3 c4 c5 n _).trans hE)⟩
    · cases hE
end Go.Proofs.Ytlagndfhibkjpaa.Sx
end
