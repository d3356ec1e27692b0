/- Texts of the walk, merged. -/
import Derived.Test.YtlagndfhibkjpaaMi4
import Derived.ProofKit
import Derived.OpenShut
import Derived.Test.YtlagndfhibkjpaaMi7
section
/- SX: from a law's run to its row. -/
namespace Go.Proofs.Ytlagndfhibkjpaa.Sx
open Go Go.RowKit Go.ChangeShapes
set_option linter.unusedVariables false

section
variable {H:Type} {enc:TypeId × Value → H} {P:Program}

theorem trodAll_keep (hl:laidOutB P = true) {W W':World} {sp:Nat → Bool}:∀ (ts:List TypeId) (vs:List Value) (ds:List (DataW H)) (ps:List MemPlace),(∀ t ∈ ts,P.readableRec t = true ∧ t < P.types.size) →
    DataW.TrodAll enc P W 0 (fun _ => true) true ts vs ds ps → (∀ x ∈ ps,W.sameAt W' x) → (∀ x ∈ ps,sp x.block = true) → DataW.TrodAll enc P W' 0 sp true ts vs ds ps
  | [],[],[],ps,_,h,_,_ => h
  | t :: ts,v :: vs,d :: ds,ps,hr,h,h1,h2 => by
    obtain ⟨p,q,a,b,rfl⟩ := h
    exact ⟨p, q, WideElems.Trod_stays hl (hr t (by simp)).1 (hr t (by simp)).2 a (fun x hx => h1 x (by simp [hx])) (fun x hx => h2 x (by simp [hx])),
      trodAll_keep hl ts vs ds q (fun t ht => hr t (by simp [ht])) b (fun x hx => h1 x (by simp [hx])) (fun x hx => h2 x (by simp [hx])),rfl⟩
  | [],_ :: _,_,_,_,h,_,_ => h.elim
  | [],[],_ :: _,_,_,h,_,_ => h.elim
  | _ :: _,[],_,_,_,h,_,_ => h.elim
  | _ :: _,_ :: _,[],_,_,h,_,_ => h.elim

/-- A law that tells true and turns nothing of what was there keeps its row. -/
theorem post_of_below {f:Func} {s:ChangeSpec} {apart fresh handsOn again:Bool} {W W':World} {args:Array Value} {ds gs:List (DataW H)} {before:List MemPlace} {tb:TypeId}
    (hl:laidOutB P = true) (hr:∀ t ∈ f.params.toList,P.readableRec t = true ∧ t < P.types.size) (hv:s.vars = []) (hres:f.resultTypes = #[tb]) (htb:P.underlying tb = some .bool)
    (hfn:(s.fn H (ds ++ gs)) = { results := [.lit (.bool true)],args := ds }) (hW:DataW.Whole enc P f.params.toList s.vars apart W args.toList ds gs before) (hb:Below W.heap.size W W') :
    s.post enc P f apart fresh handsOn again W args (.bool true) W' := by
  have hW0 := hW
  obtain ⟨p,q,hA,hV,hps,hfz,hnd⟩ := hW
  rw [hv] at hV
  obtain ⟨rfl,rfl⟩ := trodVars_none hV
  rw [List.append_nil] at hps
  subst hps
  have hlt:∀ x ∈ before,x.block < W.heap.size := fun x hx => hW0.lt x hx
  have hsame:∀ x ∈ before,W.sameAt W' x := fun x hx => hb.same (hlt x hx)
  have hargs:∀ sp:Nat → Bool,(∀ x ∈ before,sp x.block = true) → DataW.TrodAll enc P W' 0 sp true f.params.toList args.toList ds before := fun sp hsp => trodAll_keep hl _ _ _ _ hr hA hsame hsp
  have hbool:∀ (b:Nat) (sp:Nat → Bool) (hd:Bool),DataW.Trod enc P W' b sp hd tb (.bool true) (.lit (.bool true)) [] := fun b sp hd => ⟨1,by simp [DataW.trod,Value.cells,htb]⟩
  have hres1:∀ (b:Nat) (sp:Nat → Bool) (hd:Bool),DataW.TrodAll enc P W' b sp hd f.resultTypes.toList ((Value.bool true).resultList f.resultTypes.size) [.lit (.bool true)] [] := by
    intro b sp hd
    rw [hres]
    exact trodAll_mk1 (hbool b sp hd)
  have hk : W.keptBut W' (fun _ => False) := by
    refine ⟨hb.os,hb.output,fun i hi => ?_⟩
    rw [hb.block i hi]
    cases W.heap[i]? with
    | none => rfl
    | some o => cases o with
      | cells c t fr => exact ⟨rfl,rfl,rfl,fun _ _ => rfl⟩
      | map es ck => exact .inr ⟨rfl,rfl⟩
      | _ => rfl
  refine ⟨ds,[],before,[],before,[],hW0,?_,?_,?_,World.keptBut_mono (fun _ h => h.elim) hk,fun _ => ⟨?_,_,[],([] ++ before) ++ [],⟨[] ++ before,[],trodAll_append (hargs _ fun _ _ => rfl) (hres1 _ _ _),?_,rfl,?_,?_⟩,fun x hx _ => by simpa using hx⟩⟩
  · rw [hfn]; exact hres1 _ _ _
  · rw [hfn]; exact hargs _ fun x hx => by simpa using hlt x hx
  · rw [hfn,hv]; rfl
  · intro j t r h1 h2
    rw [hres] at h1 h2
    cases j with
    | zero =>
      simp [Value.resultList] at h1 h2
      subst h1; subst h2
      simp [Value.okWide,htb,Cell.okWide,Cell.ok]
    | succ j => simp at h1
  · rw [hv]; rfl
  · intro b off hx
    have hx':MemPlace.cell b off ∈ before := by simpa using hx
    have := hfz b off hx'
    unfold World.frozen? at this ⊢
    have hbl:b < W.heap.size := hlt _ hx'
    simp only [hb.block b hbl]
    exact this
  · intro ha
    simpa using hnd ha
end
theorem flat_get (κ:K):∀ (xs:List κ.T) (q m:Nat),q < xs.length → m < κ.sz → (xs.flatMap κ.cells)[q * κ.sz + m]? = (κ.cells (xs[q]?.getD κ.dflt))[m]?
  | [],q,m,h,_ => by simp at h
  | x :: xs,0,m,h,hm => by
    rw [List.flatMap_cons,List.getElem?_append_left (by rw [K.cells_length]; omega)]
    simp
  | x :: xs,q + 1,m,h,hm => by
    rw [List.flatMap_cons,List.getElem?_append_right (by rw [K.cells_length,Nat.add_mul]; omega),K.cells_length]
    rw [show (q + 1) * κ.sz + m - κ.sz = q * κ.sz + m by rw [Nat.add_mul]; omega]
    simpa using flat_get κ xs q m (by simpa using h) hm
theorem okWide_slice' {P:Program} {w:World} {r:Reach} {base:Nat} {t e:TypeId} {v:Value} (ht:P.underlying t = some (.slice e)) (h:Value.okWide P w r base t v):∃ a l c,v = .slice a l c := by
  unfold Value.okWide at h
  rw [ht] at h
  cases v <;> simp_all [Cell.okWide,Cell.ok]
/-- A slice: what it reads as. -/
theorem ros_trod {H:Type} {enc:TypeId × Value → H} {P:Program} {W:World} {t e:TypeId} {κ:K} {good:κ.T → Prop} {fuel:Nat} {cs:List Value} {x:DataW H × List MemPlace} (ht:P.underlying t = some (.slice e)) (hc:P.cellsOf e = κ.sz)
    (hel:∀ n cs x,DataW.trod enc P W 0 (fun _ => true) true n e cs = some x → ∃ y:κ.T,cs = κ.cells y ∧ good y) (h:DataW.trod enc P W 0 (fun _ => true) true fuel t cs = some x) :
    ∃ v,cs = [v] ∧ ∃ xs:List κ.T,(∀ x ∈ xs,good x) ∧ xs.length < 9223372036854775808 ∧ RosOk (fun b => b < W.heap.size) W v κ xs := by
  rcases DataW.trod_slice ht h with ⟨rfl,_⟩ | ⟨a,l0,c0,elems,rest,n,_,rfl,_,hb,hl,hm,hlen,hes,_,_⟩
  · exact ⟨_,rfl,[],by simp,by simp,.inl ⟨rfl,none,0,rfl⟩⟩
  · refine ⟨_, rfl, ?_⟩
    have each:∀ i,i < l0 → ∃ y:κ.T,W.cells? 0 (a.add (i * κ.sz)) κ.sz = some (κ.cells y) ∧ good y := by
      intro i hi
      have h1 := hes i hi
      rw [hc] at h1
      have h2:elems[i]? = some (elems[i]'(by omega)) := List.getElem?_eq_getElem (by omega)
      rw [h2,Option.bind_eq_some_iff] at h1
      obtain ⟨cs,hcs,hx⟩ := h1
      obtain ⟨y,rfl,hy⟩ := hel _ _ _ hx
      exact ⟨y,hcs,hy⟩
    have all:∀ k,k ≤ l0 → ∃ xs:List κ.T,xs.length = k ∧ (∀ x ∈ xs,good x) ∧ ∀ i,(hi:i < xs.length) → W.cells? 0 (a.add (i * κ.sz)) κ.sz = some (κ.cells xs[i]) := by
      intro k
      induction k with
      | zero => exact fun _ => ⟨[],rfl,by simp,by simp⟩
      | succ k ih =>
        intro hk
        obtain ⟨xs,e1,e2,e3⟩ := ih (by omega)
        obtain ⟨y,e4,e5⟩ := each k (by omega)
        refine ⟨xs ++ [y],by simp [e1],?_,?_⟩
        · intro x hx
          rcases List.mem_append.1 hx with hx | hx
          · exact e2 x hx
          · simp at hx; subst hx; exact e5
        · intro i hi
          by_cases hik:i < xs.length
          · rw [List.getElem_append_left hik]; exact e3 i hik
          · have : i = xs.length := by simp at hi; omega
            subst this
            rw [List.getElem_append_right (by omega)]
            simpa [e1] using e4
    obtain ⟨xs,e1,e2,e3⟩ := all l0 (Nat.le_refl _)
    refine ⟨xs,e2,by unfold maxLen at hm; omega,?_⟩
    by_cases h0:l0 = 0
    · subst h0
      exact .inl ⟨List.eq_nil_of_length_eq_zero e1,_,_,rfl⟩
    · have hcell : ∀ i j, i < l0 → j < κ.sz → W.cell? ((a.add (i * κ.sz)).add j) = (κ.cells (xs[i]?.getD κ.dflt))[j]? := by
        intro i j hi hj
        have := (World.cells?_some (e3 i (by omega))).2.2 j hj
        rw [this]
        simp [show i < xs.length by omega]
      have hsz:0 < κ.sz := K.sz_pos κ
      have h00 := hcell 0 0 (by omega) hsz
      have hsp:a.spot = none ∧ a.block < W.heap.size := by
        have e0:(a.add (0 * κ.sz)).add 0 = a := by simp [Addr.add]
        rw [e0] at h00
        have hne:(κ.cells (xs[0]?.getD κ.dflt))[0]? ≠ none := by
          rw [List.getElem?_eq_getElem (by rw [K.cells_length]; exact hsz)]; simp
        rw [← h00] at hne
        unfold World.cell? at hne
        split at hne
        · rename_i c t' f' hh
          refine ⟨?_,?_⟩
          · cases hs : a.spot with
            | none => rfl
            | some q => simp [hs] at hne
          · exact (Array.getElem?_eq_some_iff.1 hh).1
        · simp at hne
      refine .inr ⟨a,c0,by rw [e1],by omega,hsp.1,hsp.2,?_⟩
      intro j c hj
      have hjl:j < xs.length * κ.sz := by
        have := (List.getElem?_eq_some_iff.1 hj).1
        rwa [cells_flat_length] at this
      have hq:j / κ.sz < xs.length := Nat.div_lt_of_lt_mul (by rwa [Nat.mul_comm])
      have hm':j % κ.sz < κ.sz := Nat.mod_lt _ hsz
      have hadd:(⟨a.block,a.off + j,none⟩:Addr) = (a.add (j / κ.sz * κ.sz)).add (j % κ.sz) := by
        obtain ⟨ab,ao,asp⟩ := a
        have:asp = none := hsp.1
        subst this
        rw [add_lit,add_lit,Nat.add_assoc,Nat.div_add_mod' j κ.sz]
      rw [hadd,hcell _ _ (by omega) hm']
      rw [← flat_get κ xs (j / κ.sz) (j % κ.sz) hq hm',Nat.div_add_mod' j κ.sz]
      exact hj
/-- A slice that is handed to a law: what it reads as. -/
theorem ros_slice {H:Type} {enc:TypeId × Value → H} {P:Program} {W:World} {r:Reach} {b0:Nat} {t e:TypeId} {κ:K} {good:κ.T → Prop} {v:Value} {d:DataW H} {ps:List MemPlace} (ht:P.underlying t = some (.slice e)) (hc:P.cellsOf e = κ.sz)
    (hel:∀ n cs x,DataW.trod enc P W 0 (fun _ => true) true n e cs = some x → ∃ y:κ.T,cs = κ.cells y ∧ good y) (hval:Value.okWide P W r b0 t v) (h:DataW.Trod enc P W 0 (fun _ => true) true t v d ps) :
    ∃ xs:List κ.T,(∀ x ∈ xs,good x) ∧ xs.length < 9223372036854775808 ∧ RosOk (fun b => b < W.heap.size) W v κ xs := by
  obtain ⟨a0,l0,c0,rfl⟩ := okWide_slice' ht hval
  obtain ⟨fuel,h⟩ := h
  have hcs:(Value.slice a0 l0 c0).cells.toList = [.slice a0 l0 c0] := rfl
  rw [hcs] at h
  obtain ⟨v,hv,hx⟩ := ros_trod ht hc hel h
  cases hv
  exact hx
theorem wf64 {n:Int} (h:(Lit.int .i64 n).wf = true):-9223372036854775808 ≤ n ∧ n < 9223372036854775808 := by
  simp only [Lit.wf,Bool.and_eq_true,decide_eq_true_eq] at h
  have h1:IntKind.i64.min = -9223372036854775808 := by decide
  have h2:IntKind.i64.max = 9223372036854775807 := by decide
  rw [h1,h2] at h
  omega
theorem el_int {H:Type} {enc:TypeId × Value → H} {P:Program} {W:World} {e:TypeId} (he:P.underlying e = some (.int .i64)) :
    ∀ n cs x,DataW.trod enc P W 0 (fun _ => true) true n e cs = some x → ∃ y:(K.int .i64).T,cs = (K.int .i64).cells y ∧ (-9223372036854775808 ≤ y ∧ y < 9223372036854775808) := by
  intro n cs x h
  obtain ⟨m,rfl,_,hw⟩ := DataW.trod_int he h
  exact ⟨m,rfl,wf64 hw⟩
theorem el_v3 {H:Type} {enc:TypeId × Value → H} {P:Program} {W:World} {t e:TypeId} (ht:P.underlying t = some (.array 3 e)) (he:P.underlying e = some (.int .i64)) (hc:P.cellsOf e = 1) (hct:P.cellsOf t = 3) :
    ∀ n cs x,DataW.trod enc P W 0 (fun _ => true) true n t cs = some x → ∃ y:K.v3.T,cs = K.v3.cells y ∧ True := by
  intro n cs x h
  obtain ⟨xs,m,_,_,hl,hx,hi⟩ := DataW.trod_array ht h
  rw [hct] at hl
  have get:∀ i,i < 3 → ∃ y:Int,cs[i]? = some (.int .i64 y) := by
    intro i h3
    have h1 := hi i h3
    rw [hc,Nat.mul_one,List.getElem?_eq_getElem (by omega)] at h1
    obtain ⟨y,h2,_,_⟩ := DataW.trod_int he h1
    refine ⟨y,?_⟩
    have := congrArg (fun l => l[0]?) h2
    simpa using this
  obtain ⟨a,ha⟩ := get 0 (by omega)
  obtain ⟨b,hb⟩ := get 1 (by omega)
  obtain ⟨c,hc⟩ := get 2 (by omega)
  refine ⟨⟨a,b,c⟩,?_,trivial⟩
  obtain ⟨p,q,r,rfl⟩:∃ p q r,cs = [p,q,r] := match cs,hl with | [p,q,r],_ => ⟨p,q,r,rfl⟩
  simp at ha hb hc
  subst ha; subst hb; subst hc
  rfl
theorem sound_of {P:Program} {f:FuncId} {c:List SV → Hp → (SV → Hp → Option (SV × Hp)) → Option (SV × Hp)} {args:List SV} {v:SV} {H':Hp} (h:FnOk P f c) (hc:c args [] (fun v H => some (v,H)) = some (v,H')):Sound P f args [] v H' := by
  obtain ⟨v,H',h1,h2⟩ := h _ _ _ _ hc
  cases h1
  exact h2
/-- A law's run, out of any memory: what was there stays. -/
theorem law_calls {P:Program} {f:FuncId} {args:List SV} (hs:Sound P f args [] (.bool true) []) (W:World)
    (hok:∀ (ρ:Nat → Tk),SV.okL (fun b => b < W.heap.size) W ρ 0 args) :
    Calls P f (denL (fun _ => ⟨0,.slice none 0 0⟩) args).toArray W fun e W' => e = .returned (.bool true) ∧ Below W.heap.size W W' := by
  have := hs.run ⟨fun b => b < W.heap.size, W, fun b => W.heap.size ≤ b⟩ (fun _ => ⟨0, .slice none 0 0⟩) W
    { obj := by intro t o h; simp at h
      sep := by intro t t' b h; simp [blkOf] at h
      own := by intro t b h; simp [blkOf] at h
      hdr := fun t => ⟨none,0,0,rfl⟩
      keep := fun _ _ _ => rfl
      size := Nat.le_refl _
      os := rfl
      tape := rfl
      output := rfl
      ok := by intro t o h; simp at h
      fit := ⟨fun b h => h,fun b h => ⟨h,by show ¬ (W.heap.size ≤ b); have:b < W.heap.size := h; omega⟩⟩ } (hok _)
  refine this.mono fun e W' ⟨ρ',_,he,hR,_⟩ => ⟨by rw [he]; rfl,hR.os,hR.tape,hR.output,hR.size,fun k hk => hR.keep k hk (by show ¬ (W.heap.size ≤ k); omega)⟩
/-! Plain structs: what they read as. -/
def LK.good:(k:LK) → k.T → Prop
  | .i k,n => (Lit.int k n).wf = true
  | .b,_ => True
def RT.good:(k:LK) → (ks:List LK) → RT k ks → Prop
  | k,[],x => k.good x
  | k,k' :: ks,x => k.good x.1 ∧ RT.good k' ks x.2
def Mt:List LK → List Value → Prop
  | [],[] => True
  | .i k :: ks,.int k' n :: cs => k' = k ∧ (Lit.int k n).wf = true ∧ Mt ks cs
  | .b :: ks,.bool _ :: cs => Mt ks cs
  | _,_ => False
theorem Mt.length:∀ {ks:List LK} {cs:List Value},Mt ks cs → cs.length = ks.length
  | [],[],_ => rfl
  | .i _ :: ks,.int _ _ :: cs,h => by simp [Mt.length (ks := ks) (cs := cs) h.2.2]
  | .b :: ks,.bool _ :: cs,h => by simp [Mt.length (ks := ks) (cs := cs) h]
  | [],_ :: _,h => h.elim
  | .i _ :: _,[],h => h.elim
  | .b :: _,[],h => h.elim
theorem Mt.append:∀ {ks ls:List LK} {cs ds:List Value},Mt ks cs → Mt ls ds → Mt (ks ++ ls) (cs ++ ds)
  | [],ls,[],ds,_,h => h
  | .i _ :: ks,ls,.int _ _ :: cs,ds,h,h' => ⟨h.1,h.2.1,Mt.append h.2.2 h'⟩
  | .b :: ks,ls,.bool _ :: cs,ds,h,h' => Mt.append (ks := ks) (cs := cs) h h'
  | [],_,_ :: _,_,h,_ => h.elim
  | .i _ :: _,_,[],_,h,_ => h.elim
  | .b :: _,_,[],_,h,_ => h.elim
theorem Mt.data:∀ {k:LK} {ks:List LK} {cs:List Value},Mt (k :: ks) cs → ∃ x:RT k ks,cs = RT.cells k ks x ∧ RT.good k ks x
  | .i k,[],[.int k' n],h => by obtain ⟨rfl,h2,_⟩ := h; exact ⟨n,rfl,h2⟩
  | .b,[],[.bool v],h => ⟨v,rfl,trivial⟩
  | .i k,k2 :: ks,.int k' n :: cs,h => by
    obtain ⟨rfl,h2,h3⟩ := h
    obtain ⟨x,rfl,hx⟩ := Mt.data h3
    exact ⟨(n,x),rfl,h2,hx⟩
  | .b,k2 :: ks,.bool v :: cs,h => by
    obtain ⟨x,rfl,hx⟩ := Mt.data (cs := cs) (k := k2) (ks := ks) h
    exact ⟨(v,x),rfl,trivial,hx⟩
  | .i _,[],.int _ _ :: _ :: _,h => h.2.2.elim
  | .b,[],.bool _ :: _ :: _,h => h.elim
  | .i _,_,[],h => h.elim
  | .b,_,[],h => h.elim
/-- The leaves' kinds of a plain type. -/
def shpFs (P:Program) (f:TypeId → Option (List LK)):List Field → Nat → Option (List LK)
  | [],_ => some []
  | x :: l,off => if x.offset = off then (f x.type).bind fun ks => if ks.length = P.cellsOf x.type then (shpFs P f l (off + ks.length)).map fun ls => ks ++ ls else none else none
def rep {α:Type}:Nat → List α → List α
  | 0,_ => []
  | n + 1,l => l ++ rep n l
def shp (P:Program):Nat → TypeId → Option (List LK)
  | 0,_ => none
  | d + 1, t => match P.underlying t with
    | some (.int k) => some [.i k]
    | some .bool => some [.b]
    | some (.struct fs) => (shpFs P (shp P d) fs.toList 0).bind fun ks => if ks.length = P.cellsOf t then some ks else none
    | some (.array n e) => (shp P d e).bind fun ks => if ks.length = P.cellsOf e ∧ n * ks.length = P.cellsOf t then some (rep n ks) else none
    | _ => none
theorem rep_length {α:Type} (l:List α):∀ n,(rep n l).length = n * l.length
  | 0 => by simp [rep]
  | n + 1 => by rw [rep,List.length_append,rep_length l n,Nat.add_mul]; omega
theorem trod_bool' {H:Type} {enc:TypeId × Value → H} {P:Program} {W:World} {b:Nat} {sp:Nat → Bool} {hd:Bool} {t:TypeId} {n:Nat} {cs:List Value} {x:DataW H × List MemPlace}
    (ht:P.underlying t = some .bool) (h:DataW.trod enc P W b sp hd n t cs = some x):∃ v,cs = [.bool v] := by
  cases n with
  | zero => simp [DataW.trod] at h
  | succ n =>
    unfold DataW.trod at h
    rw [ht] at h
    split at h <;> simp_all
theorem trod_shp {H:Type} {enc:TypeId × Value → H} {P:Program} {W:World} {b:Nat} {sp:Nat → Bool} {hd:Bool}:∀ (d:Nat) (t:TypeId) (ks:List LK),shp P d t = some ks →
    ∀ (n:Nat) (cs:List Value) (x:DataW H × List MemPlace),DataW.trod enc P W b sp hd n t cs = some x → Mt ks cs
  | 0,t,ks,h => by simp [shp] at h
  | d + 1,t,ks,h => by
    intro n cs x hx
    have ih := trod_shp (enc := enc) (P := P) (W := W) (b := b) (sp := sp) (hd := hd) d
    unfold shp at h
    split at h
    · rename_i k ht
      cases h
      obtain ⟨m,rfl,_,hw⟩ := DataW.trod_int ht hx
      exact ⟨rfl,hw,trivial⟩
    · rename_i ht
      cases h
      obtain ⟨v,rfl⟩ := trod_bool' ht hx
      trivial
    · rename_i fs ht
      rw [Option.bind_eq_some_iff] at h
      obtain ⟨ks',h1,h2⟩ := h
      split at h2
      · rename_i hl
        cases h2
        obtain ⟨xs,m,_,_,hlen,hxl,hf⟩ := DataW.trod_struct ht hx
        have each:∀ f ∈ fs.toList,∃ x,DataW.trod enc P W b sp hd m f.type ((cs.drop f.offset).take (P.cellsOf f.type)) = some x := by
          intro f hf'
          obtain ⟨i,hi,rfl⟩ := List.mem_iff_getElem.1 hf'
          have hi':i < fs.size := by simpa using hi
          have := hf i _ (by simp [hi']:fs[i]? = some (fs.toList[i]))
          exact ⟨xs[i]'(by omega),by rw [this]; simp [show i < xs.length by omega]⟩
        have main:∀ (l:List Field) (off:Nat) (ks:List LK),(∀ f ∈ l,∃ x,DataW.trod enc P W b sp hd m f.type ((cs.drop f.offset).take (P.cellsOf f.type)) = some x) →
            shpFs P (shp P d) l off = some ks → cs.length = off + ks.length → Mt ks (cs.drop off) := by
          intro l
          induction l with
          | nil =>
            intro off ks _ hk hl2
            simp [shpFs] at hk
            subst hk
            rw [List.drop_eq_nil_of_le (by simp at hl2; omega)]
            trivial
          | cons f l ihl =>
            intro off ks he hk hl2
            unfold shpFs at hk
            split at hk
            · rename_i ho
              rw [Option.bind_eq_some_iff] at hk
              obtain ⟨k1,a1,a2⟩ := hk
              split at a2
              · rename_i hk1
                rw [Option.map_eq_some_iff] at a2
                obtain ⟨k2,a3,rfl⟩ := a2
                obtain ⟨y,hy⟩ := he f (by simp)
                have m1 := ih _ _ a1 _ _ _ hy
                have m2 := ihl (off + k1.length) k2 (fun g hg => he g (by simp [hg])) a3 (by simp at hl2; omega)
                rw [ho,← hk1] at m1
                have e:cs.drop off = (cs.drop off).take k1.length ++ cs.drop (off + k1.length) := by
                  rw [← List.drop_drop,List.take_append_drop]
                rw [e]
                exact m1.append m2
              · cases a2
            · cases hk
        have := main fs.toList 0 _ each h1 (by omega)
        simpa using this
      · cases h2
    · rename_i n' e ht
      rw [Option.bind_eq_some_iff] at h
      obtain ⟨k1,h1,h2⟩ := h
      split at h2
      · rename_i hl
        cases h2
        obtain ⟨xs,m,_,_,hlen,hxl,hf⟩ := DataW.trod_array ht hx
        have each:∀ i,i < n' → Mt k1 ((cs.drop (i * k1.length)).take k1.length) := by
          intro i hi
          have := hf i hi
          rw [List.getElem?_eq_getElem (by omega)] at this
          have := ih _ _ h1 _ _ _ this
          rwa [← hl.1] at this
        have main:∀ j,j ≤ n' → Mt (rep j k1) (cs.drop ((n' - j) * k1.length)) := by
          intro j
          induction j with
          | zero =>
            intro _
            rw [List.drop_eq_nil_of_le (by simp; omega)]
            trivial
          | succ j ihj =>
            intro hj
            have m1 := each (n' - (j + 1)) (by omega)
            have m2 := ihj (by omega)
            have e0:(n' - (j + 1)) * k1.length + k1.length = (n' - j) * k1.length := by
              rw [show n' - j = (n' - (j + 1)) + 1 by omega,Nat.add_mul]; omega
            have e:cs.drop ((n' - (j + 1)) * k1.length) = (cs.drop ((n' - (j + 1)) * k1.length)).take k1.length ++ cs.drop ((n' - j) * k1.length) := by
              rw [← e0,← List.drop_drop,List.take_append_drop]
            rw [e]
            exact m1.append m2
        have := main n' (Nat.le_refl _)
        simpa using this
      · cases h2
    · cases h
theorem el_st {H:Type} {enc:TypeId × Value → H} {P:Program} {W:World} {t:TypeId} {k:LK} {ks:List LK} (d:Nat) (hs:shp P d t = some (k :: ks)) :
    ∀ n cs x,DataW.trod enc P W 0 (fun _ => true) true n t cs = some x → ∃ y:(K.st k ks).T,cs = (K.st k ks).cells y ∧ RT.good k ks y :=
  fun n cs x h => (trod_shp d t _ hs n cs x h).data
/-- A plain struct that is handed to a law. -/
theorem open_st {H:Type} {enc:TypeId × Value → H} {P:Program} {W:World} {r:Reach} {b0:Nat} {t:TypeId} {v:Value} {dd:DataW H} {ps:List MemPlace} {k:LK} {ks:List LK} (d:Nat) (hs:shp P d t = some (k :: ks))
    (ha:(match P.underlying t with | some (.struct _) | some (.array _ _) => true | _ => false) = true) (hval:Value.okWide P W r b0 t v) (h:DataW.Trod enc P W 0 (fun _ => true) true t v dd ps) :
    ∃ y:RT k ks,v = .agg (RT.cells k ks y).toArray ∧ RT.good k ks y := by
  have:∃ cs,v = .agg cs := by
    unfold Value.okWide at hval
    split at hval
    · obtain ⟨cs,rfl,_⟩ := hval; exact ⟨cs,rfl⟩
    · obtain ⟨cs,rfl,_⟩ := hval; exact ⟨cs,rfl⟩
    · rename_i h1 h2
      exfalso
      split at ha
      · rename_i fs hf; exact h1 fs hf
      · rename_i n e hf; exact h2 n e hf
      · cases ha
  obtain ⟨cs,rfl⟩ := this
  obtain ⟨fuel,h⟩ := h
  obtain ⟨y,hy,hg⟩ := (trod_shp d t _ hs _ _ _ h).data
  have hy':cs.toList = RT.cells k ks y := hy
  exact ⟨y,by rw [← hy'],hg⟩
/-! Structs with slices. -/
inductive RK where
  | leaf (k:LK) | sl (t:TypeId)
def MtR {H:Type} (enc:TypeId × Value → H) (P:Program) (W:World):List RK → List Value → Prop
  | [],[] => True
  | .leaf (.i k) :: ks,.int k' n :: cs => k' = k ∧ (Lit.int k n).wf = true ∧ MtR enc P W ks cs
  | .leaf .b :: ks,.bool _ :: cs => MtR enc P W ks cs
  | .sl t :: ks,v :: cs => (∃ fuel x,DataW.trod enc P W 0 (fun _ => true) true fuel t [v] = some x) ∧ MtR enc P W ks cs
  | _,_ => False
theorem MtR.append {H:Type} {enc:TypeId × Value → H} {P:Program} {W:World}:∀ {ks ls:List RK} {cs ds:List Value},MtR enc P W ks cs → MtR enc P W ls ds → MtR enc P W (ks ++ ls) (cs ++ ds)
  | [],ls,[],ds,_,h => h
  | .leaf (.i _) :: ks,ls,.int _ _ :: cs,ds,h,h' => ⟨h.1,h.2.1,MtR.append h.2.2 h'⟩
  | .leaf .b :: ks,ls,.bool _ :: cs,ds,h,h' => MtR.append (ks := ks) (cs := cs) h h'
  | .sl _ :: ks,ls,v :: cs,ds,h,h' => ⟨h.1,MtR.append h.2 h'⟩
theorem MtR.ci {H:Type} {enc:TypeId × Value → H} {P:Program} {W:World} {k:IntKind} {ks:List RK}:∀ {cs:List Value},MtR enc P W (.leaf (.i k) :: ks) cs → ∃ n cs',cs = .int k n :: cs' ∧ (Lit.int k n).wf = true ∧ MtR enc P W ks cs'
  | .int _ n :: cs,h => by obtain ⟨rfl,h2,h3⟩ := h; exact ⟨n,cs,rfl,h2,h3⟩
theorem MtR.cb {H:Type} {enc:TypeId × Value → H} {P:Program} {W:World} {ks:List RK}:∀ {cs:List Value},MtR enc P W (.leaf .b :: ks) cs → ∃ b cs',cs = .bool b :: cs' ∧ MtR enc P W ks cs'
  | .bool b :: cs,h => ⟨b,cs,rfl,h⟩
theorem MtR.cs {H:Type} {enc:TypeId × Value → H} {P:Program} {W:World} {t:TypeId} {ks:List RK}:∀ {cs:List Value},MtR enc P W (.sl t :: ks) cs → ∃ v cs',cs = v :: cs' ∧ (∃ fuel x,DataW.trod enc P W 0 (fun _ => true) true fuel t [v] = some x) ∧ MtR enc P W ks cs'
  | v :: cs,h => ⟨v,cs,rfl,h.1,h.2⟩
theorem MtR.nil {H:Type} {enc:TypeId × Value → H} {P:Program} {W:World}:∀ {cs:List Value},MtR enc P W [] cs → cs = []
  | [],_ => rfl
def shpRF (P:Program) (f:TypeId → Option (List RK)):List Field → Nat → Option (List RK)
  | [],_ => some []
  | x :: l,off => if x.offset = off then (f x.type).bind fun ks => if ks.length = P.cellsOf x.type then (shpRF P f l (off + ks.length)).map fun ls => ks ++ ls else none else none
def shpR (P:Program):Nat → TypeId → Option (List RK)
  | 0,_ => none
  | d + 1, t => match P.underlying t with
    | some (.int k) => some [.leaf (.i k)]
    | some .bool => some [.leaf .b]
    | some (.slice _) => some [.sl t]
    | some (.struct fs) => (shpRF P (shpR P d) fs.toList 0).bind fun ks => if ks.length = P.cellsOf t then some ks else none
    | _ => none
theorem trod_shpR {H:Type} {enc:TypeId × Value → H} {P:Program} {W:World}:∀ (d:Nat) (t:TypeId) (ks:List RK),shpR P d t = some ks →
    ∀ (n:Nat) (cs:List Value) (x:DataW H × List MemPlace),DataW.trod enc P W 0 (fun _ => true) true n t cs = some x → MtR enc P W ks cs
  | 0,t,ks,h => by simp [shpR] at h
  | d + 1,t,ks,h => by
    intro n cs x hx
    have ih := trod_shpR (enc := enc) (P := P) (W := W) d
    unfold shpR at h
    split at h
    · rename_i k ht
      cases h
      obtain ⟨m,rfl,_,hw⟩ := DataW.trod_int ht hx
      exact ⟨rfl,hw,trivial⟩
    · rename_i ht
      cases h
      obtain ⟨v,rfl⟩ := trod_bool' ht hx
      trivial
    · rename_i e ht
      cases h
      rcases DataW.trod_slice ht hx with ⟨rfl,_⟩ | ⟨a,l0,c0,elems,rest,n,_,rfl,_⟩
      · exact ⟨⟨_,_,hx⟩,trivial⟩
      · exact ⟨⟨_,_,hx⟩,trivial⟩
    · rename_i fs ht
      rw [Option.bind_eq_some_iff] at h
      obtain ⟨ks',h1,h2⟩ := h
      split at h2
      · rename_i hl
        cases h2
        obtain ⟨xs,m,_,_,hlen,hxl,hf⟩ := DataW.trod_struct ht hx
        have each:∀ f ∈ fs.toList,∃ x,DataW.trod enc P W 0 (fun _ => true) true m f.type ((cs.drop f.offset).take (P.cellsOf f.type)) = some x := by
          intro f hf'
          obtain ⟨i,hi,rfl⟩ := List.mem_iff_getElem.1 hf'
          have hi':i < fs.size := by simpa using hi
          have := hf i _ (by simp [hi']:fs[i]? = some (fs.toList[i]))
          exact ⟨xs[i]'(by omega),by rw [this]; simp [show i < xs.length by omega]⟩
        have main:∀ (l:List Field) (off:Nat) (ks:List RK),(∀ f ∈ l,∃ x,DataW.trod enc P W 0 (fun _ => true) true m f.type ((cs.drop f.offset).take (P.cellsOf f.type)) = some x) →
            shpRF P (shpR P d) l off = some ks → cs.length = off + ks.length → MtR enc P W ks (cs.drop off) := by
          intro l
          induction l with
          | nil =>
            intro off ks _ hk hl2
            simp [shpRF] at hk
            subst hk
            rw [List.drop_eq_nil_of_le (by simp at hl2; omega)]
            trivial
          | cons f l ihl =>
            intro off ks he hk hl2
            unfold shpRF at hk
            split at hk
            · rename_i ho
              rw [Option.bind_eq_some_iff] at hk
              obtain ⟨k1,a1,a2⟩ := hk
              split at a2
              · rename_i hk1
                rw [Option.map_eq_some_iff] at a2
                obtain ⟨k2,a3,rfl⟩ := a2
                obtain ⟨y,hy⟩ := he f (by simp)
                have m1 := ih _ _ a1 _ _ _ hy
                have m2 := ihl (off + k1.length) k2 (fun g hg => he g (by simp [hg])) a3 (by simp at hl2; omega)
                rw [ho,← hk1] at m1
                have e:cs.drop off = (cs.drop off).take k1.length ++ cs.drop (off + k1.length) := by
                  rw [← List.drop_drop,List.take_append_drop]
                rw [e]
                exact m1.append m2
              · cases a2
            · cases hk
        have := main fs.toList 0 _ each h1 (by omega)
        simpa using this
      · cases h2
    · cases h
/-- A struct with slices that is handed to a law. -/
theorem open_str {H:Type} {enc:TypeId × Value → H} {P:Program} {W:World} {r:Reach} {b0:Nat} {t:TypeId} {v:Value} {dd:DataW H} {ps:List MemPlace} {ks:List RK} (d:Nat) (hs:shpR P d t = some ks)
    (ha:(match P.underlying t with | some (.struct _) | some (.array _ _) => true | _ => false) = true) (hval:Value.okWide P W r b0 t v) (h:DataW.Trod enc P W 0 (fun _ => true) true t v dd ps) :
    ∃ cs:List Value,v = .agg cs.toArray ∧ MtR enc P W ks cs := by
  have:∃ cs,v = .agg cs := by
    unfold Value.okWide at hval
    split at hval
    · obtain ⟨cs,rfl,_⟩ := hval; exact ⟨cs,rfl⟩
    · obtain ⟨cs,rfl,_⟩ := hval; exact ⟨cs,rfl⟩
    · rename_i h1 h2
      exfalso
      split at ha
      · rename_i fs hf; exact h1 fs hf
      · rename_i n e hf; exact h2 n e hf
      · cases ha
  obtain ⟨cs,rfl⟩ := this
  obtain ⟨fuel,h⟩ := h
  exact ⟨cs.toList,by simp,trod_shpR d t _ hs _ _ _ h⟩
/-- Whatever is said. (By choice, so that no checker looks at it.) -/
noncomputable def _root_.Go.Proofs.Ytlagndfhibkjpaa.V.gB (p:Prop):Bool := open Classical in Classical.choose (⟨decide p,rfl⟩:∃ r:Bool,r = decide p)
theorem gB_of {p:Prop} (h:p):V.gB p = true := by
  have e:V.gB p = _ := Classical.choose_spec (⟨open Classical in decide p,rfl⟩:∃ r:Bool,r = open Classical in decide p)
  rw [e]; simp [h]
theorem gB_iff {p:Prop} (h:V.gB p = true):p := by
  have e:V.gB p = _ := Classical.choose_spec (⟨open Classical in decide p,rfl⟩:∃ r:Bool,r = open Classical in decide p)
  rw [e] at h; simpa using h
end Go.Proofs.Ytlagndfhibkjpaa.Sx
end

section
/- shape, plainly: raw shapes made right. -/
namespace Go.Proofs.Ytlagndfhibkjpaa.Sx
open Go
set_option linter.unusedVariables false
set_option linter.unusedSimpArgs false
def Rr (n:Int):Prop := -9223372036854775808 ≤ n ∧ n < 9223372036854775808
theorem pick_val {c n:Int} (hc:Rr c) (hn:0 < n ∧ n < 9223372036854775808):V.lpick_g c n = true ∧ 0 ≤ V.lpick_r0 c n ∧ V.lpick_r0 c n < n := by
  unfold Rr at hc
  have h0:¬ n = 0 := by omega
  unfold V.lpick_g V.lpick_r0
  simp only [cLt_eq,if_neg h0,ite_self,true_and]
  by_cases h:c < 0
  · rw [if_pos (by simpa using h), IntWalk.i64_in (c + 1) (by omega), IntWalk.i64_in (0 - (c + 1)) (by omega)]
    rw [Int.tmod_eq_emod_of_nonneg (by omega)]
    exact ⟨Int.emod_nonneg _ h0,Int.emod_lt_of_pos _ hn.1⟩
  · rw [if_neg (by simpa using h)]
    rw [Int.tmod_eq_emod_of_nonneg (by omega)]
    exact ⟨Int.emod_nonneg _ h0,Int.emod_lt_of_pos _ hn.1⟩
theorem part_val {c n:Int} (hc:Rr c) (hn:0 ≤ n ∧ n ≤ 1152921504606846976):V.lpart_g c n = true ∧ -n ≤ V.lpart_r0 c n ∧ V.lpart_r0 c n ≤ n := by
  have e:IntKind.wrap .i64 (IntKind.wrap .i64 (2 * n) + 1) = 2 * n + 1 := by
    rw [IntWalk.i64_in (2 * n) (by omega),IntWalk.i64_in _ (by omega)]
  obtain ⟨p1,p2,p3⟩ := pick_val (n := 2 * n + 1) hc (by omega)
  unfold V.lpart_g V.lpart_r0
  rw [e,if_pos p1,if_pos p1,IntWalk.i64_in _ (by omega)]
  exact ⟨rfl,by omega,by omega⟩
/-- A raw point as one that may be. -/
noncomputable def partP (p:P3):P3 := (V.lpart_r0 p.1 65536,V.lpart_r0 p.2.1 65536,V.lpart_r0 p.2.2 65536)
def RP (p:P3):Prop := Rr p.1 ∧ Rr p.2.1 ∧ Rr p.2.2
noncomputable def kd (k:Int):Int := 1 + V.lpick_r0 k 4
noncomputable def rad (r:Int):Int := 1 + V.lpick_r0 r 16384
noncomputable def hlf (h:Int):Int := 1 + V.lpick_r0 h 65536
noncomputable def pts0 (k:Int) (l:List P3):List P3 := if kd k = 4 then (l.take 12).map partP else []
noncomputable def chk0 (k r hx hy hz:Int) (l:List P3):Int := chkP (kd k) (rad r) (hlf hx) (hlf hy) (hlf hz) (pts0 k l)
noncomputable def rgKP (k r hx hy hz:Int) (l:List P3):Int := if kd k = 4 ∧ chk0 k r hx hy hz l ≠ 0 then 3 else kd k
noncomputable def rgPP (k r hx hy hz:Int) (l:List P3):List P3 := if kd k = 4 ∧ chk0 k r hx hy hz l ≠ 0 then [] else pts0 k l
theorem kd_val {k:Int} (h:Rr k):1 ≤ kd k ∧ kd k ≤ 4 := by obtain ⟨_,p2,p3⟩ := pick_val (n := 4) h (by omega); unfold kd; omega
theorem rad_val {k:Int} (h:Rr k):1 ≤ rad k ∧ rad k ≤ 16384 := by obtain ⟨_,p2,p3⟩ := pick_val (n := 16384) h (by omega); unfold rad; omega
theorem hlf_val {k:Int} (h:Rr k):1 ≤ hlf k ∧ hlf k ≤ 65536 := by obtain ⟨_,p2,p3⟩ := pick_val (n := 65536) h (by omega); unfold hlf; omega
theorem right_ok {k r hx hy hz:Int} {l:List P3} (h1:Rr k) (h2:Rr r) (h3:Rr hx) (h4:Rr hy) (h5:Rr hz) :
    chkP (rgKP k r hx hy hz l) (rad r) (hlf hx) (hlf hy) (hlf hz) (rgPP k r hx hy hz l) = 0 := by
  have a1 := kd_val h1
  have a2 := rad_val h2
  have a3 := hlf_val h3
  have a4 := hlf_val h4
  have a5 := hlf_val h5
  unfold rgKP rgPP
  split
  · unfold chkP
    rw [if_neg (by decide),if_neg (by decide),if_pos rfl,if_pos (by simp [inZ]; omega)]
  · rename_i hc
    by_cases h4':kd k = 4
    · apply Classical.byContradiction
      intro hn
      exact hc ⟨h4',hn⟩
    · have : kd k = 1 ∨ kd k = 2 ∨ kd k = 3 := by omega
      unfold chkP
      rcases this with e | e | e <;> rw [e]
      · rw [if_pos rfl,if_pos (by simp [inZ]; omega)]
      · rw [if_neg (by decide),if_pos rfl,if_pos (by simp [inZ]; omega)]
      · rw [if_neg (by decide),if_neg (by decide),if_pos rfl,if_pos (by simp [inZ]; omega)]
theorem right_kind {k r hx hy hz:Int} {l:List P3} (h1:Rr k):1 ≤ rgKP k r hx hy hz l ∧ rgKP k r hx hy hz l ≤ 4 := by
  have a1 := kd_val h1
  unfold rgKP
  split <;> omega
theorem pts0_len (k:Int) (l:List P3):(pts0 k l).length ≤ 12 := by
  unfold pts0
  split
  · rw [List.length_map,List.length_take]; omega
  · simp
theorem rgPP_len (k r hx hy hz:Int) (l:List P3):(rgPP k r hx hy hz l).length ≤ 12 := by
  unfold rgPP
  split
  · simp
  · exact pts0_len k l
/-! Lists without doubles. -/
theorem nodup_le:∀ {l t:List P3},l.Nodup → (∀ a ∈ l,a ∈ t) → l.length ≤ t.length
  | [],t,_,_ => by simp
  | a :: l,t,hn,h => by
    rw [List.nodup_cons] at hn
    have ha := h a (by simp)
    have h1 := List.length_erase_of_mem ha
    have h2:0 < t.length := List.length_pos_of_mem ha
    have := nodup_le (t := t.erase a) hn.2 fun b hb => by
      have hne:b ≠ a := fun e => hn.1 (e ▸ hb)
      exact (List.mem_erase_of_ne hne).2 (h b (by simp [hb]))
    simp only [List.length_cons]
    omega
theorem faces_len {l:List P3} (hl:l.length ≤ 12):(facesP l).1.length ≤ 7000 ∧ (facesP l).2.length ≤ 7000 := by
  have := iF_len l hl l.length 0 ([],[])
  unfold facesP
  unfold sz2 at this
  simp only [List.length_nil] at this
  omega
theorem corA_len (k r hx hy hz:Int) (l:List P3):(V.corA k r hx hy hz l).length ≤ 7000 ∧ (V.corE k r hx hy hz l).length ≤ 7000 ∧ (V.corP k r hx hy hz l).length ≤ 12 := by
  unfold V.corA V.corE V.corP
  simp only [hid_eq]
  by_cases hc:chkP k r hx hy hz l = 0
  · simp only [if_pos hc]
    refine ⟨?_,?_,(corPP_pos hc).2.1⟩
    · unfold corAP
      rcases chk_range hc with ⟨rfl,_⟩ | ⟨rfl,_⟩ | ⟨rfl,_⟩ | ⟨rfl,_,h,_⟩ <;> simp
      exact (faces_len h.2).1
    · unfold corEP
      rcases chk_range hc with ⟨rfl,_⟩ | ⟨rfl,_⟩ | ⟨rfl,_⟩ | ⟨rfl,_,h,_⟩ <;> simp
      exact (faces_len h.2).2
  · simp [hc]
noncomputable def _root_.Go.Proofs.Ytlagndfhibkjpaa.V.rgK (k r hx hy hz:Int) (l:List P3):Int := hid (rgKP k r hx hy hz l)
noncomputable def _root_.Go.Proofs.Ytlagndfhibkjpaa.V.rgR (r:Int):Int := hid (rad r)
noncomputable def _root_.Go.Proofs.Ytlagndfhibkjpaa.V.rgH (h:Int):Int := hid (hlf h)
noncomputable def _root_.Go.Proofs.Ytlagndfhibkjpaa.V.rgP (k r hx hy hz:Int) (l:List P3):List P3 := hid (rgPP k r hx hy hz l)
theorem pick_lt {c n:Int} (h:0 ≤ c ∧ c < n) (hn:n < 9223372036854775808):V.lpick_r0 c n = c := by
  unfold V.lpick_r0
  rw [cLt_eq,if_neg (by simp; omega),if_neg (by omega),Int.tmod_eq_emod_of_nonneg h.1,Int.emod_eq_of_lt h.1 h.2]
theorem good_rp {p:P3} (h:RT.good (.i .i64) [.i .i64,.i .i64] p):RP p := ⟨wf64 h.1,wf64 h.2.1,wf64 h.2.2⟩
end Go.Proofs.Ytlagndfhibkjpaa.Sx
end

section
/- shape: raw shapes made right. -/
namespace Go.Proofs.Ytlagndfhibkjpaa.Sx
open Go
set_option maxRecDepth 20000
set_option linter.unusedVariables false
set_option linter.unusedSimpArgs false
noncomputable abbrev right_S1 (y1 y2 y3 y4 y5 y6:Int) (y7:Value) (y8:L3) (y9 y10 y11 y12 y13:Int) (y14:L3) (y15 y16 y17 y18 y19:Int) (y20:L3):St := St.mk (none :: some (SV.ptr (nat_lit 0) (nat_lit 0)) :: some (SV.ptr (nat_lit 1) (nat_lit 0)) :: some (SV.ptr (nat_lit 3) (nat_lit 0)) :: some (SV.int .i64 y1) :: nn 67 ([])) [.cells [SV.int .i64 y2,SV.int .i64 y3,SV.int .i64 y4,SV.int .i64 y5,SV.int .i64 y6,SV.ros y7 kP y8] (nat_lit 26),.cells [SV.int .i64 y9,SV.int .i64 y10,SV.int .i64 y11,SV.int .i64 y12,SV.int .i64 y13,SV.sl (nat_lit 2)] (nat_lit 33),.seq kP y14 (nat_lit 23),.cells [SV.int .i64 y15,SV.int .i64 y16,SV.int .i64 y17,SV.int .i64 y18,SV.int .i64 y19,SV.sl (nat_lit 4)] (nat_lit 33),.seq kP y20 (nat_lit 23)]
noncomputable abbrev right_S2 (y1 y2 y3 y4 y5:Int) (y6:L3) (y7 y8 y9 y10 y11:Int) (y12:L3):St := St.mk (none :: none :: some (SV.ptr (nat_lit 0) (nat_lit 0)) :: some (SV.ptr (nat_lit 2) (nat_lit 0)) :: nn 68 ([])) [.cells [SV.int .i64 y1,SV.int .i64 y2,SV.int .i64 y3,SV.int .i64 y4,SV.int .i64 y5,SV.sl (nat_lit 1)] (nat_lit 33),.seq kP y6 (nat_lit 23),.cells [SV.int .i64 y7,SV.int .i64 y8,SV.int .i64 y9,SV.int .i64 y10,SV.int .i64 y11,SV.sl (nat_lit 3)] (nat_lit 33),.seq kP y12 (nat_lit 23)]
noncomputable abbrev right_S3:St := St.mk (none :: some (SV.ptr (nat_lit 0) (nat_lit 0)) :: some (SV.ptr (nat_lit 1) (nat_lit 0)) :: some (SV.ptr (nat_lit 3) (nat_lit 0)) :: some (SV.int .i64 (0:Int)) :: nn 67 ([])) [.cells [SV.int .i64 (0:Int),SV.int .i64 (0:Int),SV.int .i64 (0:Int),SV.int .i64 (0:Int),SV.int .i64 (0:Int),SV.ros undef kP []] (nat_lit 26),.cells [SV.int .i64 (0:Int),SV.int .i64 (0:Int),SV.int .i64 (0:Int),SV.int .i64 (0:Int),SV.int .i64 (0:Int),SV.sl (nat_lit 2)] (nat_lit 33),.seq kP [] (nat_lit 23),.cells [SV.int .i64 (0:Int),SV.int .i64 (0:Int),SV.int .i64 (0:Int),SV.int .i64 (0:Int),SV.int .i64 (0:Int),SV.sl (nat_lit 4)] (nat_lit 33),.seq kP [] (nat_lit 23)]
abbrev right_P1:List Bool := [false,true,false,false,true,false,true,true,true]
noncomputable def _root_.Go.Proofs.Ytlagndfhibkjpaa.M.right_l0_step {α:Type} (x28:L3) (kn:Int → L3 → Option α) (k1:L3 → Option α) (x21:Int) (x40:L3):Option α := if cLt x21 (↑(List.length x28):Int) = true then if cLt x21 (12:Int) = true then if (0:Int) ≤ x21 ∧ x21 < (↑(List.length x28):Int) then if V.lpart_g (Prod.fst (List.getD x28 (Int.toNat x21) ((0:Int),(0:Int),(0:Int)))) (65536:Int) = true then if V.lpart_g (Prod.fst (Prod.snd (List.getD x28 (Int.toNat x21) ((0:Int),(0:Int),(0:Int))))) (65536:Int) = true then if V.lpart_g (Prod.snd (Prod.snd (List.getD x28 (Int.toNat x21) ((0:Int),(0:Int),(0:Int))))) (65536:Int) = true then if (List.length x40 + ((0:Nat) + (1:Nat))) * (24:Nat) ≤ (140737488355328:Nat) then kn (IntKind.wrap .i64 (x21 + (1:Int))) (x40 ++ [(V.lpart_r0 (Prod.fst (List.getD x28 (Int.toNat x21) ((0:Int),(0:Int),(0:Int)))) (65536:Int),V.lpart_r0 (Prod.fst (Prod.snd (List.getD x28 (Int.toNat x21) ((0:Int),(0:Int),(0:Int))))) (65536:Int),V.lpart_r0 (Prod.snd (Prod.snd (List.getD x28 (Int.toNat x21) ((0:Int),(0:Int),(0:Int))))) (65536:Int))]) else none else none else none else none else none else k1 x40 else k1 x40
noncomputable def _root_.Go.Proofs.Ytlagndfhibkjpaa.M.right_l0 {α:Type} (x28:L3) (k1:L3 → Option α):Nat → Int → L3 → Option α
  | 0,_,_ => none
  | n + 1,x21,x40 => M.right_l0_step x28 (M.right_l0 x28 k1 n) k1 x21 x40
theorem right_l0_step_eq {α:Type} (x21 x22 x23 x24 x25 x26:Int) (x27:Value) (x28:L3) (x29 x30 x31 x32 x33:Int) (x34:L3) (x35 x36 x37 x38 x39:Int) (x40:L3) (Q:Ex → St → Option α):(loopStep E (exec E look_dcheck noLps 400) 10 right_P1 0 (codeAt E.P 10 right_P1)) (right_S1 x21 x22 x23 x24 x25 x26 x27 x28 x29 x30 x31 x32 x33 x34 x35 x36 x37 x38 x39 x40) Q = M.right_l0_step x28 (fun (x42:Int) (x43:L3) => Q .normal (right_S1 x42 x22 x23 x24 x25 x26 x27 x28 x29 x30 x31 x32 x33 x34 x35 x36 x37 x38 x39 x43)) (fun (x41:L3) => Q (.exit 0) (right_S2 x29 x30 x31 x32 x33 x34 x35 x36 x37 x38 x39 x41)) x21 x40 := by kernel_rfl
theorem right_l0_iter {α:Type} (x22 x23 x24 x25 x26:Int) (x27:Value) (x28:L3) (x29 x30 x31 x32 x33:Int) (x34:L3) (x35 x36 x37 x38 x39:Int) (Q:Ex → St → Option α):∀ (n:Nat) (x21:Int) (x40:L3),iter (loopStep E (exec E look_dcheck noLps 400) 10 right_P1 0 (codeAt E.P 10 right_P1)) n (right_S1 x21 x22 x23 x24 x25 x26 x27 x28 x29 x30 x31 x32 x33 x34 x35 x36 x37 x38 x39 x40) Q = M.right_l0 x28 (fun (x41:L3) => Q (.exit 0) (right_S2 x29 x30 x31 x32 x33 x34 x35 x36 x37 x38 x39 x41)) n x21 x40
  | 0,_,_ => rfl
  | n + 1,x21,x40 => (right_l0_step_eq x21 x22 x23 x24 x25 x26 x27 x28 x29 x30 x31 x32 x33 x34 x35 x36 x37 x38 x39 x40 (iterK (loopStep E (exec E look_dcheck noLps 400) 10 right_P1 0 (codeAt E.P 10 right_P1)) n Q)).trans (congrArg (fun kn => M.right_l0_step x28 kn (fun (x41:L3) => Q (.exit 0) (right_S2 x29 x30 x31 x32 x33 x34 x35 x36 x37 x38 x39 x41)) x21 x40) (funext fun x21 => funext fun x40 => right_l0_iter x22 x23 x24 x25 x26 x27 x28 x29 x30 x31 x32 x33 x34 x35 x36 x37 x38 x39 Q n x21 x40))
noncomputable def right_l0_go {α:Type} (ds:List D) (Q:Ex → St → Option α):Option α :=
  dI ds fun x21 ds => dI ds fun x22 ds => dI ds fun x23 ds => dI ds fun x24 ds => dI ds fun x25 ds => dI ds fun x26 ds => dV ds fun x27 ds => dL kP ds fun x28 ds => dI ds fun x29 ds => dI ds fun x30 ds => dI ds fun x31 ds => dI ds fun x32 ds => dI ds fun x33 ds => dL kP ds fun x34 ds => dI ds fun x35 ds => dI ds fun x36 ds => dI ds fun x37 ds => dI ds fun x38 ds => dI ds fun x39 ds => dL kP ds fun x40 ds => dE ds (M.right_l0 x28 (fun (x41:L3) => Q (.exit 0) (right_S2 x29 x30 x31 x32 x33 x34 x35 x36 x37 x38 x39 x41)) (100 + x28.length + x34.length + x40.length) x21 x40)
theorem right_l0_ok {α:Type}:LoopOk E.P 10 right_P1 0 (lEnt (α := α) (right_S3) right_l0_go) :=
  lEnt_ok E (exec_sound E E_ok (look_dcheck_ok) (noLps_ok _) 400) fun ds Q r h S hS => by
    unfold right_l0_go at h
    obtain ⟨x21,ds,rfl,h1⟩ := dI_inv h
    obtain ⟨x22,ds,rfl,h2⟩ := dI_inv h1
    obtain ⟨x23,ds,rfl,h3⟩ := dI_inv h2
    obtain ⟨x24,ds,rfl,h4⟩ := dI_inv h3
    obtain ⟨x25,ds,rfl,h5⟩ := dI_inv h4
    obtain ⟨x26,ds,rfl,h6⟩ := dI_inv h5
    obtain ⟨x27,ds,rfl,h7⟩ := dV_inv h6
    obtain ⟨x28,ds,rfl,h8⟩ := dL_inv h7
    obtain ⟨x29,ds,rfl,h9⟩ := dI_inv h8
    obtain ⟨x30,ds,rfl,h10⟩ := dI_inv h9
    obtain ⟨x31,ds,rfl,h11⟩ := dI_inv h10
    obtain ⟨x32,ds,rfl,h12⟩ := dI_inv h11
    obtain ⟨x33,ds,rfl,h13⟩ := dI_inv h12
    obtain ⟨x34,ds,rfl,h14⟩ := dL_inv h13
    obtain ⟨x35,ds,rfl,h15⟩ := dI_inv h14
    obtain ⟨x36,ds,rfl,h16⟩ := dI_inv h15
    obtain ⟨x37,ds,rfl,h17⟩ := dI_inv h16
    obtain ⟨x38,ds,rfl,h18⟩ := dI_inv h17
    obtain ⟨x39,ds,rfl,h19⟩ := dI_inv h18
    obtain ⟨x40,ds,rfl,h20⟩ := dL_inv h19
    obtain ⟨rfl,hE⟩ := dE_inv h20
    have e:fillS (right_S3) [.i x21,.i x22,.i x23,.i x24,.i x25,.i x26,.v x27,.l kP x28,.i x29,.i x30,.i x31,.i x32,.i x33,.l kP x34,.i x35,.i x36,.i x37,.i x38,.i x39,.l kP x40] = some (right_S1 x21 x22 x23 x24 x25 x26 x27 x28 x29 x30 x31 x32 x33 x34 x35 x36 x37 x38 x39 x40) := by kernel_rfl
    rw [e] at hS
    cases hS
    exact ⟨_,(right_l0_iter x22 x23 x24 x25 x26 x27 x28 x29 x30 x31 x32 x33 x34 x35 x36 x37 x38 x39 Q _ x21 x40).trans hE⟩
noncomputable def right_l0_lps {α:Type}:LookL α := addLp 10 right_P1 0 (lEnt (right_S3) right_l0_go) noLps
theorem right_l0_lps_ok {α:Type}:LoopsOk E.P (right_l0_lps (α := α)) := addLp_ok right_l0_ok (noLps_ok _)

noncomputable def _root_.Go.Proofs.Ytlagndfhibkjpaa.M.right {α:Type} (k:Int) (r:Int) (hx:Int) (hy:Int) (hz:Int) (l:L3) (k0:Int → Int → Int → Int → Int → L3 → Option α):Option α := if V.lpick_g k (4:Int) = true then if V.lpick_g r (16384:Int) = true then if V.lpick_g hx (65536:Int) = true then if V.lpick_g hy (65536:Int) = true then if V.lpick_g hz (65536:Int) = true then if cEq (IntKind.wrap .i64 ((1:Int) + V.lpick_r0 k (4:Int))) (4:Int) = true then M.right_l0 l (fun (x45:L3) ↦ if (!cEq (V.chk (IntKind.wrap .i64 ((1:Int) + V.lpick_r0 k (4:Int))) (IntKind.wrap .i64 ((1:Int) + V.lpick_r0 r (16384:Int))) (IntKind.wrap .i64 ((1:Int) + V.lpick_r0 hx (65536:Int))) (IntKind.wrap .i64 ((1:Int) + V.lpick_r0 hy (65536:Int))) (IntKind.wrap .i64 ((1:Int) + V.lpick_r0 hz (65536:Int))) x45) (0:Int)) = true then k0 (3:Int) (IntKind.wrap .i64 ((1:Int) + V.lpick_r0 r (16384:Int))) (IntKind.wrap .i64 ((1:Int) + V.lpick_r0 hx (65536:Int))) (IntKind.wrap .i64 ((1:Int) + V.lpick_r0 hy (65536:Int))) (IntKind.wrap .i64 ((1:Int) + V.lpick_r0 hz (65536:Int))) [] else k0 (IntKind.wrap .i64 ((1:Int) + V.lpick_r0 k (4:Int))) (IntKind.wrap .i64 ((1:Int) + V.lpick_r0 r (16384:Int))) (IntKind.wrap .i64 ((1:Int) + V.lpick_r0 hx (65536:Int))) (IntKind.wrap .i64 ((1:Int) + V.lpick_r0 hy (65536:Int))) (IntKind.wrap .i64 ((1:Int) + V.lpick_r0 hz (65536:Int))) x45) ((100:Nat) + List.length l + (0:Nat) + (0:Nat)) (0:Int) [] else k0 (IntKind.wrap .i64 ((1:Int) + V.lpick_r0 k (4:Int))) (IntKind.wrap .i64 ((1:Int) + V.lpick_r0 r (16384:Int))) (IntKind.wrap .i64 ((1:Int) + V.lpick_r0 hx (65536:Int))) (IntKind.wrap .i64 ((1:Int) + V.lpick_r0 hy (65536:Int))) (IntKind.wrap .i64 ((1:Int) + V.lpick_r0 hz (65536:Int))) [] else none else none else none else none else none
theorem right_eq {α:Type} (k:Int) (r:Int) (hx:Int) (hy:Int) (hz:Int) (l:L3) (v44:Value) (Q:SV → Hp → Option α):callI E look_dcheck (exec E look_dcheck right_l0_lps 400) 10 ([SV.agg [SV.int .i64 k,SV.int .i64 r,SV.int .i64 hx,SV.int .i64 hy,SV.int .i64 hz,SV.ros v44 kP l]]) ([]) Q = M.right k r hx hy hz l (fun (x46 x47 x48 x49 x50:Int) (x51:L3) => Q (SV.agg [SV.int .i64 x46,SV.int .i64 x47,SV.int .i64 x48,SV.int .i64 x49,SV.int .i64 x50,SV.sl (nat_lit 0)]) ([.seq kP x51 (nat_lit 23)])) := by kernel_rfl
def right_sp:List AS := [.st [.leaf (.int .i64 0),.leaf (.int .i64 0),.leaf (.int .i64 0),.leaf (.int .i64 0),.leaf (.int .i64 0),.ro kP]]
theorem right_l0_val {α:Type} (l:List P3) (hl:l.length < 9223372036854775808) (hp:∀ p ∈ l,RP p) (k1:List P3 → Option α):∀ (fuel i:Nat) (acc:List P3),i ≤ l.length → i ≤ 12 → 12 - i < fuel → acc.length ≤ i →
    M.right_l0 l k1 fuel (i:Int) acc = k1 (acc ++ ((l.drop i).take (12 - i)).map partP)
  | 0,i,acc,h1,h2,h3,h4 => by omega
  | f + 1,i,acc,h1,h2,h3,h4 => by
    unfold M.right_l0 M.right_l0_step
    rw [cLt_nat]
    by_cases hi:i < l.length
    · rw [if_pos (by simpa using hi)]
      by_cases h12:i < 12
      · have c12 : cLt (i : Int) 12 = true := by rw [cLt_eq]; simp; omega
        have hin:(0:Int) ≤ (i:Int) ∧ (i:Int) < (l.length:Int) := by omega
        obtain ⟨r1,r2,r3⟩ := hp _ (pt_mem l i hi)
        have g1 := (part_val r1 (n := 65536) (by omega)).1
        have g2 := (part_val r2 (n := 65536) (by omega)).1
        have g3 := (part_val r3 (n := 65536) (by omega)).1
        unfold pt at g1 g2 g3
        have ih := right_l0_val l hl hp k1 f (i + 1) (acc ++ [partP (pt l i)]) (by omega) (by omega) (by omega) (by rw [List.length_append,List.length_singleton]; omega)
        simp only [c12,if_true,if_pos hin,toNat_nat,g1,g2,g3]
        rw [if_pos (by omega:(acc.length + (0 + 1)) * 24 ≤ 140737488355328),w_next (by omega)]
        refine Eq.trans ih ?_
        rw [drop_pt l i hi,show 12 - i = (12 - (i + 1)) + 1 by omega,List.take_succ_cons,List.map_cons,List.append_assoc]
        rfl
      · have : i = 12 := by omega
        subst this
        rw [if_neg (by rw [cLt_eq]; decide)]
        simp
    · have : i = l.length := by omega
      subst this
      rw [if_neg (by simp)]
      simp
noncomputable def _root_.Go.Proofs.Ytlagndfhibkjpaa.V.rgG (k r hx hy hz:Int) (l:List P3):Bool := V.gB ((Rr k ∧ Rr r ∧ Rr hx ∧ Rr hy ∧ Rr hz) ∧ l.length < 9223372036854775808 ∧ ∀ p ∈ l,RP p)
theorem right_v {α:Type} (k r hx hy hz:Int) (l:List P3) (hg:V.rgG k r hx hy hz l = true) (k0:Int → Int → Int → Int → Int → List P3 → Option α) :
    M.right k r hx hy hz l k0 = k0 (V.rgK k r hx hy hz l) (V.rgR r) (V.rgH hx) (V.rgH hy) (V.rgH hz) (V.rgP k r hx hy hz l) := by
  obtain ⟨⟨g1,g2,g3,g4,g5⟩,hl,hp⟩ := gB_iff hg
  unfold M.right V.rgK V.rgR V.rgH V.rgP V.chk
  simp only [hid_eq]
  obtain ⟨p1,q1,r1⟩ := pick_val (n := 4) g1 (by omega)
  obtain ⟨p2,q2,r2⟩ := pick_val (n := 16384) g2 (by omega)
  obtain ⟨p3,q3,r3⟩ := pick_val (n := 65536) g3 (by omega)
  obtain ⟨p4,q4,r4⟩ := pick_val (n := 65536) g4 (by omega)
  obtain ⟨p5,q5,r5⟩ := pick_val (n := 65536) g5 (by omega)
  rw [if_pos p1,if_pos p2,if_pos p3,if_pos p4,if_pos p5]
  rw [IntWalk.i64_in (1 + V.lpick_r0 k 4) (by omega),IntWalk.i64_in (1 + V.lpick_r0 r 16384) (by omega),IntWalk.i64_in (1 + V.lpick_r0 hx 65536) (by omega),IntWalk.i64_in (1 + V.lpick_r0 hy 65536) (by omega),IntWalk.i64_in (1 + V.lpick_r0 hz 65536) (by omega)]
  show (if cEq (kd k) 4 = true then M.right_l0 l (fun x45 => if (!cEq (chkP (kd k) (rad r) (hlf hx) (hlf hy) (hlf hz) x45) 0) = true then k0 3 (rad r) (hlf hx) (hlf hy) (hlf hz) [] else k0 (kd k) (rad r) (hlf hx) (hlf hy) (hlf hz) x45) (100 + l.length + 0 + 0) 0 [] else k0 (kd k) (rad r) (hlf hx) (hlf hy) (hlf hz) []) = _
  have hk := right_l0_val l hl hp (fun x45 => if (!cEq (chkP (kd k) (rad r) (hlf hx) (hlf hy) (hlf hz) x45) 0) = true then k0 3 (rad r) (hlf hx) (hlf hy) (hlf hz) [] else k0 (kd k) (rad r) (hlf hx) (hlf hy) (hlf hz) x45) (100 + l.length + 0 + 0) 0 [] (by omega) (by omega) (by omega) (by simp)
  rw [Int.natCast_zero] at hk
  rw [hk]
  unfold rgKP rgPP chk0
  simp only [cEq_eq,beq_iff_eq]
  by_cases h4:kd k = 4
  · have e : pts0 k l = (l.take 12).map partP := by unfold pts0; rw [if_pos h4]
    rw [if_pos h4,e]
    simp only [List.nil_append,List.drop_zero,Nat.sub_zero]
    by_cases hc:chkP (kd k) (rad r) (hlf hx) (hlf hy) (hlf hz) ((l.take 12).map partP) = 0
    · rw [hc,if_neg (by decide),if_neg (fun h => h.2 rfl),if_neg (fun h => h.2 rfl)]
    · have : (chkP (kd k) (rad r) (hlf hx) (hlf hy) (hlf hz) ((l.take 12).map partP) == 0) = false := by simpa using hc
      rw [this,if_pos (show (!false) = true from rfl),if_pos ⟨h4,hc⟩,if_pos ⟨h4,hc⟩]
  · have e : pts0 k l = [] := by unfold pts0; rw [if_neg h4]
    rw [if_neg h4,e]
    simp [h4]
noncomputable def right_h {α:Type} (ds:List D) (Q:SV → Hp → Option α):Option α :=
  dI ds fun k ds => dI ds fun r ds => dI ds fun hx ds => dI ds fun hy ds => dI ds fun hz ds => dL kP ds fun l ds => dE ds (if V.rgG k r hx hy hz l = true then Q (.agg [.int .i64 (V.rgK k r hx hy hz l),.int .i64 (V.rgR r),.int .i64 (V.rgH hx),.int .i64 (V.rgH hy),.int .i64 (V.rgH hz),.sl 0]) ([.seq kP (V.rgP k r hx hy hz l) 23]) else none)
theorem right_h_ok {α:Type}:FnOk E.P 10 (fEnt (α := α) right_sp right_h) :=
  fEntR_ok E (look_dcheck_ok) (exec_sound E E_ok (look_dcheck_ok) (right_l0_lps_ok) 400) fun ds Q r h => by
    unfold right_h at h
    obtain ⟨k,ds,rfl,h1⟩ := dI_inv h
    obtain ⟨r,ds,rfl,h2⟩ := dI_inv h1
    obtain ⟨hx,ds,rfl,h3⟩ := dI_inv h2
    obtain ⟨hy,ds,rfl,h4⟩ := dI_inv h3
    obtain ⟨hz,ds,rfl,h5⟩ := dI_inv h4
    obtain ⟨l,ds,rfl,h6⟩ := dL_inv h5
    obtain ⟨rfl,hE⟩ := dE_inv h6
    split at hE
    · rename_i hg
      exact ⟨_,_,hE,fun vs => ⟨_,_,by kernel_rfl,(right_eq k r hx hy hz l ((cellsV (vs.headD undef)).tail.tail.tail.tail.tail.headD undef) _).trans (right_v k r hx hy hz l hg _)⟩⟩
    · cases hE
noncomputable def look_right {α:Type}:LookF α := addFn 10 (fEnt right_sp right_h) look_dcheck
theorem look_right_ok {α:Type}:LookOk E.P (look_right (α := α)) := addFn_ok right_h_ok (look_dcheck_ok)
end Go.Proofs.Ytlagndfhibkjpaa.Sx
end

section
/- PoseHalf: its run tells true. -/
namespace Go.Proofs.Ytlagndfhibkjpaa.Sx
open Go
set_option maxRecDepth 20000
set_option linter.unusedVariables false
set_option linter.unusedSimpArgs false
noncomputable def look_PoH_place {α:Type}:LookF α := addFn 12 (fEnt place_sp place_h) look_right
theorem look_PoH_place_ok {α:Type}:LookOk E.P (look_PoH_place (α := α)) := addFn_ok place_h_ok (look_right_ok)
noncomputable def look_PoH_pawake {α:Type}:LookF α := addFn 8 (fEnt pawake_sp pawake_h) look_PoH_place
theorem look_PoH_pawake_ok {α:Type}:LookOk E.P (look_PoH_pawake (α := α)) := addFn_ok pawake_h_ok (look_PoH_place_ok)
noncomputable def _root_.Go.Proofs.Ytlagndfhibkjpaa.M.ppick {α:Type} (c:Int) (n:Int) (k0:Int → Option α):Option α := if cLt c (0:Int) = true then if n = (0:Int) then none else k0 (Int.tmod (IntKind.wrap .i64 ((0:Int) - IntKind.wrap .i64 (c + (1:Int)))) n) else if n = (0:Int) then none else k0 (Int.tmod c n)
theorem ppick_eq {α:Type} (c:Int) (n:Int) (Q:SV → Hp → Option α):callI E look_PoH_pawake (exec E look_PoH_pawake noLps 400) 11 ([SV.int .i64 c,SV.int .i64 n]) ([]) Q = M.ppick c n (fun (x0:Int) => Q (SV.int .i64 x0) ([])) := by kernel_rfl
def ppick_sp:List AS := [.val (.int .i64 0),.val (.int .i64 0)]
noncomputable def _root_.Go.Proofs.Ytlagndfhibkjpaa.V.ppick_g (c:Int) (n:Int):Bool := if cLt c (0:Int) = true then if n = (0:Int) then false else true else if n = (0:Int) then false else true
noncomputable def _root_.Go.Proofs.Ytlagndfhibkjpaa.V.ppick_r0 (c:Int) (n:Int):Int := if cLt c (0:Int) = true then if n = (0:Int) then (0:Int) else Int.tmod (IntKind.wrap .i64 ((0:Int) - IntKind.wrap .i64 (c + (1:Int)))) n else if n = (0:Int) then (0:Int) else Int.tmod c n
theorem ppick_val {α:Type} (c:Int) (n:Int) (k0:Int → Option α):M.ppick c n k0 = if V.ppick_g c n = true then k0 (V.ppick_r0 c n) else none := by
  unfold M.ppick V.ppick_g V.ppick_r0
  repeat' first | rfl | (split <;> rename_i h <;> first | simp only [if_pos h] | simp only [if_neg h] | skip)
noncomputable def ppick_c {α:Type} (ds:List D) (Q:SV → Hp → Option α):Option α :=
  dI ds fun c ds => dI ds fun n ds => dE ds (if V.ppick_g c n = true then Q (SV.int .i64 (V.ppick_r0 c n)) ([]) else none)
theorem ppick_c_ok {α:Type}:FnOk E.P 11 (fEnt (α := α) ppick_sp ppick_c) :=
  fEnt_ok E (look_PoH_pawake_ok) (exec_sound E E_ok (look_PoH_pawake_ok) (noLps_ok _) 400) fun ds Q r h => by
    unfold ppick_c at h
    obtain ⟨c,ds,rfl,h1⟩ := dI_inv h
    obtain ⟨n,ds,rfl,h2⟩ := dI_inv h1
    obtain ⟨rfl,hE⟩ := dE_inv h2
    exact ⟨[SV.int .i64 c,SV.int .i64 n],[],fun vs => by kernel_rfl,(ppick_eq c n Q).trans ((ppick_val c n (fun (x0:Int) => Q (SV.int .i64 x0) ([]))).trans hE)⟩
noncomputable def ppick_go {α:Type} (ds:List D) (Q:SV → Hp → Option α):Option α :=
  dI ds fun c ds => dI ds fun n ds => dE ds (M.ppick c n (fun (x0:Int) => Q (SV.int .i64 x0) ([])))
theorem ppick_ok {α:Type}:FnOk E.P 11 (fEnt (α := α) ppick_sp ppick_go) :=
  fEnt_ok E (look_PoH_pawake_ok) (exec_sound E E_ok (look_PoH_pawake_ok) (noLps_ok _) 400) fun ds Q r h => by
    unfold ppick_go at h
    obtain ⟨c,ds,rfl,h1⟩ := dI_inv h
    obtain ⟨n,ds,rfl,h2⟩ := dI_inv h1
    obtain ⟨rfl,hE⟩ := dE_inv h2
    exact ⟨[SV.int .i64 c,SV.int .i64 n],[],fun vs => by kernel_rfl,(ppick_eq c n Q).trans hE⟩
noncomputable def look_ppick {α:Type}:LookF α := addFn 11 (fEnt ppick_sp ppick_c) look_PoH_pawake
theorem look_ppick_ok {α:Type}:LookOk E.P (look_ppick (α := α)) := addFn_ok ppick_c_ok (look_PoH_pawake_ok)
noncomputable abbrev phalf_S1 (y1 y2:Int) (y3 y4 y5:L3) (y6 y7 y8:Int) (y9 y10:Nat) (y11:Int) (y12 y13 y14:L3):St := St.mk (nn 6 (some (SV.ptr (nat_lit 0) (nat_lit 0)) :: nn 3 (some (SV.ptr (nat_lit 4) (nat_lit 0)) :: some (SV.ptr (nat_lit 5) (nat_lit 0)) :: nn 3 (some (SV.int .i64 y1) :: nn 109 ([]))))) [.cells [SV.sl (nat_lit 1),SV.sl (nat_lit 2),SV.sl (nat_lit 3),SV.int .i64 y2] (nat_lit 29),.seq kP y3 (nat_lit 23),.seq kP y4 (nat_lit 23),.seq kP y5 (nat_lit 23),.cells [SV.int .i64 y6,SV.int .i64 y7,SV.int .i64 y8] (nat_lit 23),.cells [SV.sl (nat_lit 6),SV.clp (nat_lit 7) kP y9,SV.clp (nat_lit 8) kP y10,SV.int .i64 y11] (nat_lit 29),.seq kP y12 (nat_lit 23),.seq kP y13 (nat_lit 23),.seq kP y14 (nat_lit 23)]
noncomputable abbrev phalf_S2:St := St.mk (nn 6 (some (SV.ptr (nat_lit 0) (nat_lit 0)) :: nn 3 (some (SV.ptr (nat_lit 4) (nat_lit 0)) :: some (SV.ptr (nat_lit 5) (nat_lit 0)) :: nn 3 (some (SV.int .i64 (0:Int)) :: nn 109 ([]))))) [.cells [SV.sl (nat_lit 1),SV.sl (nat_lit 2),SV.sl (nat_lit 3),SV.int .i64 (0:Int)] (nat_lit 29),.seq kP [] (nat_lit 23),.seq kP [] (nat_lit 23),.seq kP [] (nat_lit 23),.cells [SV.int .i64 (0:Int),SV.int .i64 (0:Int),SV.int .i64 (0:Int)] (nat_lit 23),.cells [SV.sl (nat_lit 6),SV.clp (nat_lit 7) kP (0:Nat),SV.clp (nat_lit 8) kP (0:Nat),SV.int .i64 (0:Int)] (nat_lit 29),.seq kP [] (nat_lit 23),.seq kP [] (nat_lit 23),.seq kP [] (nat_lit 23)]
abbrev phalf_P1:List Bool := [false,true,false,true,true,true,true,true,true,true,true,true,true]
noncomputable def _root_.Go.Proofs.Ytlagndfhibkjpaa.M.phalf_l0_step {α:Type} (x18:L3) (x21 x22 x23:Int) (x27:L3) (kn:Int → Option α) (k0:Option α) (k2:Option α) (x16:Int):Option α := if cLt x16 (↑(List.length x18):Int) = true then if (0:Int) ≤ x16 ∧ x16 < (↑(List.length x18):Int) then if (0:Int) ≤ x16 ∧ x16 < (↑(List.length x27):Int) then if (!(cEq (Prod.fst (List.getD x27 (Int.toNat x16) ((0:Int),(0:Int),(0:Int)))) (IntKind.wrap .i64 (x21 * Prod.fst (List.getD x18 (Int.toNat x16) ((0:Int),(0:Int),(0:Int))))) && (cEq (Prod.fst (Prod.snd (List.getD x27 (Int.toNat x16) ((0:Int),(0:Int),(0:Int))))) (IntKind.wrap .i64 (x22 * Prod.fst (Prod.snd (List.getD x18 (Int.toNat x16) ((0:Int),(0:Int),(0:Int)))))) && (cEq (Prod.snd (Prod.snd (List.getD x27 (Int.toNat x16) ((0:Int),(0:Int),(0:Int))))) (IntKind.wrap .i64 (x23 * Prod.snd (Prod.snd (List.getD x18 (Int.toNat x16) ((0:Int),(0:Int),(0:Int)))))) && true)))) = true then k0 else kn (IntKind.wrap .i64 (x16 + (1:Int))) else none else none else k2
noncomputable def _root_.Go.Proofs.Ytlagndfhibkjpaa.M.phalf_l0 {α:Type} (x18:L3) (x21 x22 x23:Int) (x27:L3) (k0:Option α) (k2:Option α):Nat → Int → Option α
  | 0,_ => none
  | n + 1,x16 => M.phalf_l0_step x18 x21 x22 x23 x27 (M.phalf_l0 x18 x21 x22 x23 x27 k0 k2 n) k0 k2 x16
theorem phalf_l0_step_eq {α:Type} (x16 x17:Int) (x18 x19 x20:L3) (x21 x22 x23:Int) (x24 x25:Nat) (x26:Int) (x27 x28 x29:L3) (Q:Ex → St → Option α):(loopStep E (exec E look_ppick noLps 400) 3 phalf_P1 0 (codeAt E.P 3 phalf_P1)) (phalf_S1 x16 x17 x18 x19 x20 x21 x22 x23 x24 x25 x26 x27 x28 x29) Q = M.phalf_l0_step x18 x21 x22 x23 x27 (fun (x30:Int) => Q .normal (phalf_S1 x30 x17 x18 x19 x20 x21 x22 x23 x24 x25 x26 x27 x28 x29)) (Q .ret (St.mk (nn 4 (some (SV.bool false) :: nn 120 ([])))
  [])) (Q (.exit 0) (St.mk (nn 125 ([]))
  [])) x16 := by kernel_rfl
theorem phalf_l0_iter {α:Type} (x17:Int) (x18 x19 x20:L3) (x21 x22 x23:Int) (x24 x25:Nat) (x26:Int) (x27 x28 x29:L3) (Q:Ex → St → Option α):∀ (n:Nat) (x16:Int),iter (loopStep E (exec E look_ppick noLps 400) 3 phalf_P1 0 (codeAt E.P 3 phalf_P1)) n (phalf_S1 x16 x17 x18 x19 x20 x21 x22 x23 x24 x25 x26 x27 x28 x29) Q = M.phalf_l0 x18 x21 x22 x23 x27 (Q .ret (St.mk (nn 4 (some (SV.bool false) :: nn 120 ([])))
  [])) (Q (.exit 0) (St.mk (nn 125 ([]))
  [])) n x16
  | 0,_ => rfl
  | n + 1,x16 => (phalf_l0_step_eq x16 x17 x18 x19 x20 x21 x22 x23 x24 x25 x26 x27 x28 x29 (iterK (loopStep E (exec E look_ppick noLps 400) 3 phalf_P1 0 (codeAt E.P 3 phalf_P1)) n Q)).trans (congrArg (fun kn => M.phalf_l0_step x18 x21 x22 x23 x27 kn (Q .ret (St.mk (nn 4 (some (SV.bool false) :: nn 120 ([])))
  [])) (Q (.exit 0) (St.mk (nn 125 ([]))
  [])) x16) (funext fun x16 => phalf_l0_iter x17 x18 x19 x20 x21 x22 x23 x24 x25 x26 x27 x28 x29 Q n x16))
noncomputable def phalf_l0_go {α:Type} (ds:List D) (Q:Ex → St → Option α):Option α :=
  dI ds fun x16 ds => dI ds fun x17 ds => dL kP ds fun x18 ds => dL kP ds fun x19 ds => dL kP ds fun x20 ds => dI ds fun x21 ds => dI ds fun x22 ds => dI ds fun x23 ds => dN ds fun x24 ds => dN ds fun x25 ds => dI ds fun x26 ds => dL kP ds fun x27 ds => dL kP ds fun x28 ds => dL kP ds fun x29 ds => dE ds (M.phalf_l0 x18 x21 x22 x23 x27 (Q .ret (St.mk (nn 4 (some (SV.bool false) :: nn 120 ([])))
  [])) (Q (.exit 0) (St.mk (nn 125 ([]))
  [])) (100 + x18.length + x19.length + x20.length + x27.length + x28.length + x29.length) x16)
theorem phalf_l0_ok {α:Type}:LoopOk E.P 3 phalf_P1 0 (lEnt (α := α) (phalf_S2) phalf_l0_go) :=
  lEnt_ok E (exec_sound E E_ok (look_ppick_ok) (noLps_ok _) 400) fun ds Q r h S hS => by
    unfold phalf_l0_go at h
    obtain ⟨x16,ds,rfl,h1⟩ := dI_inv h
    obtain ⟨x17,ds,rfl,h2⟩ := dI_inv h1
    obtain ⟨x18,ds,rfl,h3⟩ := dL_inv h2
    obtain ⟨x19,ds,rfl,h4⟩ := dL_inv h3
    obtain ⟨x20,ds,rfl,h5⟩ := dL_inv h4
    obtain ⟨x21,ds,rfl,h6⟩ := dI_inv h5
    obtain ⟨x22,ds,rfl,h7⟩ := dI_inv h6
    obtain ⟨x23,ds,rfl,h8⟩ := dI_inv h7
    obtain ⟨x24,ds,rfl,h9⟩ := dN_inv h8
    obtain ⟨x25,ds,rfl,h10⟩ := dN_inv h9
    obtain ⟨x26,ds,rfl,h11⟩ := dI_inv h10
    obtain ⟨x27,ds,rfl,h12⟩ := dL_inv h11
    obtain ⟨x28,ds,rfl,h13⟩ := dL_inv h12
    obtain ⟨x29,ds,rfl,h14⟩ := dL_inv h13
    obtain ⟨rfl,hE⟩ := dE_inv h14
    have e:fillS (phalf_S2) [.i x16,.i x17,.l kP x18,.l kP x19,.l kP x20,.i x21,.i x22,.i x23,.n x24,.n x25,.i x26,.l kP x27,.l kP x28,.l kP x29] = some (phalf_S1 x16 x17 x18 x19 x20 x21 x22 x23 x24 x25 x26 x27 x28 x29) := by kernel_rfl
    rw [e] at hS
    cases hS
    exact ⟨_,(phalf_l0_iter x17 x18 x19 x20 x21 x22 x23 x24 x25 x26 x27 x28 x29 Q _ x16).trans hE⟩
noncomputable def phalf_l0_lps {α:Type}:LookL α := addLp 3 phalf_P1 0 (lEnt (phalf_S2) phalf_l0_go) noLps
theorem phalf_l0_lps_ok {α:Type}:LoopsOk E.P (phalf_l0_lps (α := α)) := addLp_ok phalf_l0_ok (noLps_ok _)

noncomputable def _root_.Go.Proofs.Ytlagndfhibkjpaa.M.phalf {α:Type} (k:Int) (r:Int) (hx:Int) (hy:Int) (hz:Int) (l:L3) (w:Int) (k0:Bool → Option α):Option α := let s32:List P3 := V.corE (V.rgK k r hx hy hz l) (V.rgR r) (V.rgH hx) (V.rgH hy) (V.rgH hz) (V.rgP k r hx hy hz l); let s33:List P3 := V.corP (V.rgK k r hx hy hz l) (V.rgR r) (V.rgH hx) (V.rgH hy) (V.rgH hz) (V.rgP k r hx hy hz l); let s34:List P3 := V.corA (V.rgK k r hx hy hz l) (V.rgR r) (V.rgH hx) (V.rgH hy) (V.rgH hz) (V.rgP k r hx hy hz l); let s35:Nat := List.length s33; let s36:K.T kP := List.getD [((1:Int),(-1:Int),(-1:Int)),((-1:Int),(1:Int),(-1:Int)),((-1:Int),(-1:Int),(1:Int))] (Int.toNat (V.ppick_r0 w (3:Int))) ((0:Int),(0:Int),(0:Int)); let s37:RT (LK.i IntKind.i64) [LK.i IntKind.i64] := Prod.snd s36; let s38:K.T (K.st (LK.i IntKind.i64) [LK.i IntKind.i64,LK.i IntKind.i64,LK.i IntKind.i64]) := List.getD [((0:Int),(4294967296:Int),(0:Int),(0:Int)),((0:Int),(0:Int),(4294967296:Int),(0:Int)),((0:Int),(0:Int),(0:Int),(4294967296:Int))] (Int.toNat (V.ppick_r0 w (3:Int))) ((0:Int),(0:Int),(0:Int),(0:Int)); let s39:Option (List P3 × List P3 × List P3) := V.plc s33 s34 s32 ((0:Int),(0:Int),(0:Int)) s38; let s40:List P3 := V.plA s39; let s41:List P3 := V.plE s39; let s42:List P3 := V.plP s39; let s43:Nat := List.length s42; let s44:List (K.T kP) := List.take (List.length s40) s40; let s45:List (K.T kP) := List.take (List.length s41) s41; let s46:Option (List P3 × List P3 × List P3) := V.plc s42 s44 s45 ((0:Int),(0:Int),(0:Int)) s38; let s47:List P3 := V.plE s46; let s48:List P3 := V.plP s46; let s49:List (K.T kP) := List.take (List.length s47) s47; if V.rgG k r hx hy hz l = true then if (!cEq (V.chk (V.rgK k r hx hy hz l) (V.rgR r) (V.rgH hx) (V.rgH hy) (V.rgH hz) (V.rgP k r hx hy hz l)) (0:Int)) = true then k0 false else if V.ppick_g w (3:Int) = true then if (0:Int) ≤ V.ppick_r0 w (3:Int) ∧ V.ppick_r0 w (3:Int) < (3:Int) then if (0:Int) ≤ V.ppick_r0 w (3:Int) ∧ V.ppick_r0 w (3:Int) < (3:Int) then if V.lenB (List.length s33) = true ∧ V.lenB (List.length s34) = true ∧ V.lenB (List.length s32) = true then if V.plG s39 = true then if V.lenB (List.length s42) = true ∧ V.lenB (List.length s44) = true ∧ V.lenB (List.length s45) = true then if V.plG s46 = true then if (!cEq (↑s43:Int) (↑s35:Int)) = true then k0 false else if V.lenB (List.length s48) = true then if (!V.ptsEq s48 s33) = true then k0 false else if V.lenB (List.length s49) = true then if (!V.ptsEq s49 s32) = true then k0 false else M.phalf_l0 s33 (Prod.fst s36) (Prod.fst s37) (Prod.snd s37) s42 (k0 false) (k0 true) ((100:Nat) + s35 + List.length s34 + List.length s32 + s43 + List.length s40 + List.length s41) (0:Int) else none else none else k0 false else none else if V.lenB (0:Nat) = true ∧ V.lenB (0:Nat) = true ∧ V.lenB (0:Nat) = true then if V.plG (V.plc [] [] [] ((0:Int),(0:Int),(0:Int)) s38) = true then k0 false else k0 false else none else none else none else none else none else none
theorem phalf_eq {α:Type} (k:Int) (r:Int) (hx:Int) (hy:Int) (hz:Int) (l:L3) (w:Int) (v31:Value) (Q:SV → Hp → Option α):callI E look_ppick (exec E look_ppick phalf_l0_lps 400) 3 ([SV.agg [SV.int .i64 k,SV.int .i64 r,SV.int .i64 hx,SV.int .i64 hy,SV.int .i64 hz,SV.ros v31 kP l],SV.int .i64 w]) ([]) Q = M.phalf k r hx hy hz l w (fun (x50:Bool) => Q (SV.bool x50) ([])) := by kernel_rfl
def phalf_sp:List AS := [.st [.leaf (.int .i64 0),.leaf (.int .i64 0),.leaf (.int .i64 0),.leaf (.int .i64 0),.leaf (.int .i64 0),.ro kP],.val (.int .i64 0)]
theorem ppick3 {w:Int} (h:-9223372036854775808 ≤ w ∧ w < 9223372036854775808):V.ppick_g w 3 = true ∧ (V.ppick_r0 w 3 = 0 ∨ V.ppick_r0 w 3 = 1 ∨ V.ppick_r0 w 3 = 2) := by
  unfold V.ppick_g V.ppick_r0
  rw [cLt_eq]
  by_cases h0:w < 0
  · have c1 : decide (w < 0) = true := decide_eq_true h0
    simp only [c1,if_true,show ¬ ((3:Int) = 0) by decide,if_false]
    rw [IntWalk.i64_in (w + 1) (by omega),IntWalk.i64_in (0 - (w + 1)) (by omega),Int.tmod_eq_emod_of_nonneg (by omega)]
    exact ⟨by first | rfl | trivial,by omega⟩
  · have c1 : decide (w < 0) = false := decide_eq_false h0
    simp only [c1,if_true,show ¬ ((3:Int) = 0) by decide,if_false,Bool.false_eq_true]
    rw [Int.tmod_eq_emod_of_nonneg (by omega)]
    exact ⟨by first | rfl | trivial,by omega⟩
theorem corLens (k r hx hy hz:Int) (l:List P3):(V.corP k r hx hy hz l).length ≤ 12 ∧ (V.corA k r hx hy hz l).length ≤ 7000 ∧ (V.corE k r hx hy hz l).length ≤ 7000 := by
  unfold V.corP V.corA V.corE
  simp only [hid_eq]
  by_cases hc:chkP k r hx hy hz l = 0
  · simp only [if_pos hc]
    refine ⟨(corPP_pos hc).2.1,?_,?_⟩
    · unfold corAP
      split
      · decide
      · split
        · rename_i h4
          have hl:l.length ≤ 12 := by rcases chk_range hc with ⟨h,_⟩ | ⟨h,_⟩ | ⟨h,_⟩ | ⟨_,_,h,_⟩ <;> omega
          have := iF_len l hl l.length 0 ([],[])
          have e:sz2 (([],[]):St2) = 0 := rfl
          unfold facesP
          unfold sz2 at this
          have e2:(([],[]):St2).1.length = 0 := rfl
          have e3:(([],[]):St2).2.length = 0 := rfl
          omega
        · decide
    · unfold corEP
      split
      · decide
      · split
        · decide
        · split
          · rename_i h4
            have hl:l.length ≤ 12 := by rcases chk_range hc with ⟨h,_⟩ | ⟨h,_⟩ | ⟨h,_⟩ | ⟨_,_,h,_⟩ <;> omega
            have := iF_len l hl l.length 0 ([],[])
            unfold facesP
            unfold sz2 at this
            have e2:(([],[]):St2).1.length = 0 := rfl
            have e3:(([],[]):St2).2.length = 0 := rfl
            omega
          · decide
  · simp only [if_neg hc]
    exact ⟨by simp,by simp,by simp⟩
theorem map_sg_sg {s:P3} (hs:Sgn s) (l:List P3):(l.map (sg s)).map (sg s) = l := by
  rw [List.map_map]
  exact (List.map_congr_left (fun p _ => sg_sg hs p)).trans (List.map_id l)
theorem half_key {w:Int} (h:V.ppick_r0 w 3 = 0 ∨ V.ppick_r0 w 3 = 1 ∨ V.ppick_r0 w 3 = 2):∃ (s:P3) (q:V.T4),Sgn s ∧ V.tRows q = some (mS s) ∧
    List.getD [((1:Int),(-1:Int),(-1:Int)),((-1:Int),(1:Int),(-1:Int)),((-1:Int),(-1:Int),(1:Int))] (Int.toNat (V.ppick_r0 w (3:Int))) ((0:Int),(0:Int),(0:Int)) = s ∧
    List.getD [((0:Int),(4294967296:Int),(0:Int),(0:Int)),((0:Int),(0:Int),(4294967296:Int),(0:Int)),((0:Int),(0:Int),(0:Int),(4294967296:Int))] (Int.toNat (V.ppick_r0 w (3:Int))) ((0:Int),(0:Int),(0:Int),(0:Int)) = q := by
  rcases h with h | h | h <;> rw [h]
  · exact ⟨(1,-1,-1),(0,4294967296,0,0),⟨.inl rfl,.inr rfl,.inr rfl⟩,by decide +kernel,rfl,rfl⟩
  · exact ⟨(-1,1,-1),(0,0,4294967296,0),⟨.inr rfl,.inl rfl,.inr rfl⟩,by decide +kernel,rfl,rfl⟩
  · exact ⟨(-1,-1,1),(0,0,0,4294967296),⟨.inr rfl,.inr rfl,.inl rfl⟩,by decide +kernel,rfl,rfl⟩
theorem phalf_l0_val {α:Type} {s:P3} (hs:Sgn s) (P:List P3) (hP:∀ p ∈ P,Sm p 65536) (hl:P.length < 1099511627776) (k0 k2:Option α):∀ (fuel i:Nat),i ≤ P.length → P.length - i < fuel →
    M.phalf_l0 P s.1 s.2.1 s.2.2 (P.map (sg s)) k0 k2 fuel (i:Int) = k2
  | 0,i,h1,h2 => by omega
  | f + 1,i,h1,h2 => by
    unfold M.phalf_l0 M.phalf_l0_step
    rw [cLt_nat]
    by_cases hi:i < P.length
    · have hm : (P.map (sg s)).length = P.length := List.length_map ..
      have hp := hP (pt P i) (pt_mem P i hi)
      have e1:List.getD (P.map (sg s)) (Int.toNat (i:Int)) ((0:Int),(0:Int),(0:Int)) = sg s (pt P i) := by
        rw [toNat_nat]
        unfold pt
        simp [List.getD_eq_getElem?_getD,hi]
      have e2:List.getD P (Int.toNat (i:Int)) ((0:Int),(0:Int),(0:Int)) = pt P i := by rw [toNat_nat]; rfl
      have ew:∀ u x:Int,(u = 1 ∨ u = -1) → (-65536 ≤ x ∧ x ≤ 65536) → IntKind.wrap .i64 (u * x) = u * x := by
        intro u x hu hx
        exact IntWalk.i64_in _ (by rcases hu with rfl | rfl <;> omega)
      rw [if_pos (by simpa using hi),if_pos (by omega),if_pos (by omega),e1,e2,ew _ _ hs.a hp.1,ew _ _ hs.b hp.2.1,ew _ _ hs.c hp.2.2,w_next (by omega)]
      rw [show (cEq (sg s (pt P i)).1 (s.1 * (pt P i).1) && (cEq (sg s (pt P i)).2.1 (s.2.1 * (pt P i).2.1) && (cEq (sg s (pt P i)).2.2 (s.2.2 * (pt P i).2.2) && true))) = true by simp only [cEq_eq,sg]; simp]
      rw [if_neg (by decide)]
      exact phalf_l0_val hs P hP hl k0 k2 f (i + 1) (by omega) (by omega)
    · rw [if_neg (by simpa using hi)]
theorem phalf_v {α:Type} (k r hx hy hz:Int) (l:List P3) (w:Int) (hg:(-9223372036854775808 ≤ k ∧ k < 9223372036854775808) ∧ (-9223372036854775808 ≤ r ∧ r < 9223372036854775808) ∧ (-9223372036854775808 ≤ hx ∧ hx < 9223372036854775808) ∧ (-9223372036854775808 ≤ hy ∧ hy < 9223372036854775808) ∧ (-9223372036854775808 ≤ hz ∧ hz < 9223372036854775808) ∧ (l.length < 9223372036854775808 ∧ ∀ x ∈ l,(RT.good (.i .i64) [.i .i64,.i .i64]) x) ∧ (-9223372036854775808 ≤ w ∧ w < 9223372036854775808)) (k0:Bool → Option α):M.phalf k r hx hy hz l w k0 = k0 true := by
  obtain ⟨g1,g2,g3,g4,g5,⟨gl,gp⟩,g6⟩ := hg
  unfold M.phalf
  have hG:V.rgG k r hx hy hz l = true := gB_of ⟨⟨g1,g2,g3,g4,g5⟩,gl,fun p hp => good_rp (gp p hp)⟩
  obtain ⟨b1,b2⟩ := ppick3 g6
  have b3:(0:Int) ≤ V.ppick_r0 w 3 ∧ V.ppick_r0 w 3 < 3 := by rcases b2 with h | h | h <;> rw [h] <;> decide
  obtain ⟨s,q,hs,hq,e36,e38⟩ := half_key b2
  have ok1 := right_ok (l := l) g1 g2 g3 g4 g5
  have hc:chkP (V.rgK k r hx hy hz l) (V.rgR r) (V.rgH hx) (V.rgH hy) (V.rgH hz) (V.rgP k r hx hy hz l) = 0 := by
    simp only [V.rgK,V.rgR,V.rgH,V.rgP,hid_eq]; exact ok1
  have hchk:V.chk (V.rgK k r hx hy hz l) (V.rgR r) (V.rgH hx) (V.rgH hy) (V.rgH hz) (V.rgP k r hx hy hz l) = 0 := (hid_eq _).trans hc
  obtain ⟨p1,p2,p3⟩ := corPP_pos hc
  obtain ⟨t1,t2,t3⟩ := core_tidy hc
  obtain ⟨c1,c2,c3⟩ := corLens (V.rgK k r hx hy hz l) (V.rgR r) (V.rgH hx) (V.rgH hy) (V.rgH hz) (V.rgP k r hx hy hz l)
  have eP:V.corP (V.rgK k r hx hy hz l) (V.rgR r) (V.rgH hx) (V.rgH hy) (V.rgH hz) (V.rgP k r hx hy hz l) = corPP (V.rgK k r hx hy hz l) (V.rgH hx) (V.rgH hy) (V.rgH hz) (V.rgP k r hx hy hz l) := by unfold V.corP; rw [hid_eq,if_pos hc]
  have eA:V.corA (V.rgK k r hx hy hz l) (V.rgR r) (V.rgH hx) (V.rgH hy) (V.rgH hz) (V.rgP k r hx hy hz l) = corAP (V.rgK k r hx hy hz l) (V.rgP k r hx hy hz l) := by unfold V.corA; rw [hid_eq,if_pos hc]
  have eE:V.corE (V.rgK k r hx hy hz l) (V.rgR r) (V.rgH hx) (V.rgH hy) (V.rgH hz) (V.rgP k r hx hy hz l) = corEP (V.rgK k r hx hy hz l) (V.rgP k r hx hy hz l) := by unfold V.corE; rw [hid_eq,if_pos hc]
  rw [← eP] at p1 p2 p3
  rw [← eA] at t1 t2
  have t4 := t3.neat
  rw [← eE] at t4
  simp only
  rw [hchk,e36,e38,if_pos hG,if_neg (by rw [cEq_eq]; decide),if_pos b1,if_pos b3,if_pos b3]
  clear hchk eP eA eE hc ok1 t1 t3
  generalize V.corP (V.rgK k r hx hy hz l) (V.rgR r) (V.rgH hx) (V.rgH hy) (V.rgH hz) (V.rgP k r hx hy hz l) = P at *
  generalize V.corA (V.rgK k r hx hy hz l) (V.rgR r) (V.rgH hx) (V.rgH hy) (V.rgH hz) (V.rgP k r hx hy hz l) = A at *
  generalize V.corE (V.rgK k r hx hy hz l) (V.rgR r) (V.rgH hx) (V.rgH hy) (V.rgH hz) (V.rgP k r hx hy hz l) = E at *
  have hP1:∀ p ∈ P,Sm p 1048576 := fun p hp => (p3 p hp).mono (by omega)
  have e1 := plc_sg hs hq (l := P) (A := A) (E := E) (by omega) hP1 t2 t4
  have e2 := plc_sg hs hq (l := P.map (sg s)) (A := A.map (sg s)) (E := E.map (sg s)) (by rw [List.length_map]; omega)
    (by intro p hp; obtain ⟨q',hq',rfl⟩ := List.mem_map.1 hp; exact (sm_sg hs q' _).2 (hP1 q' hq'))
    (by intro p hp; obtain ⟨q',hq',rfl⟩ := List.mem_map.1 hp; exact neat_sg hs (t2 q' hq'))
    (by intro p hp; obtain ⟨q',hq',rfl⟩ := List.mem_map.1 hp; exact neat_sg hs (t4 q' hq'))
  rw [map_sg_sg hs,map_sg_sg hs,map_sg_sg hs] at e2
  have l1:V.lenB P.length = true := lenB_of (by omega)
  have l2:V.lenB A.length = true := lenB_of (by omega)
  have l3:V.lenB E.length = true := lenB_of (by omega)
  have ee:∀ a:Int,cEq a a = true := by intro a; rw [cEq_eq]; simp
  have ep:∀ a:List P3,V.ptsEq a a = true := by intro a; unfold V.ptsEq; simp
  have e3:(E.map (sg s)).length = E.length := List.length_map ..
  have tk:∀ X:List P3,List.take X.length (X.map (sg s)) = X.map (sg s) := fun X => List.take_of_length_le (by rw [List.length_map]; omega)
  simp only [e1,plG_some,plP_some,plA_some,plE_some,List.take_length,tk,e2,List.length_map,l1,l2,l3,ee,ep,and_self,if_true,Bool.not_true,Bool.false_eq_true,if_false]
  refine phalf_l0_val hs P p3 (by omega) _ _ _ 0 (by omega) ?_
  omega
noncomputable def phalf_h {α:Type} (ds:List D) (Q:SV → Hp → Option α):Option α :=
  dI ds fun k ds => dI ds fun r ds => dI ds fun hx ds => dI ds fun hy ds => dI ds fun hz ds => dL kP ds fun l ds => dI ds fun w ds => dE ds (if V.gB ((-9223372036854775808 ≤ k ∧ k < 9223372036854775808) ∧ (-9223372036854775808 ≤ r ∧ r < 9223372036854775808) ∧ (-9223372036854775808 ≤ hx ∧ hx < 9223372036854775808) ∧ (-9223372036854775808 ≤ hy ∧ hy < 9223372036854775808) ∧ (-9223372036854775808 ≤ hz ∧ hz < 9223372036854775808) ∧ (l.length < 9223372036854775808 ∧ ∀ x ∈ l,(RT.good (.i .i64) [.i .i64,.i .i64]) x) ∧ (-9223372036854775808 ≤ w ∧ w < 9223372036854775808)) = true then Q (.bool true) ([]) else none)
theorem phalf_h_ok {α:Type}:FnOk E.P 3 (fEnt (α := α) phalf_sp phalf_h) :=
  fEntR_ok E (look_ppick_ok) (exec_sound E E_ok (look_ppick_ok) (phalf_l0_lps_ok) 400) fun ds Q r h => by
    unfold phalf_h at h
    obtain ⟨k,ds,rfl,h1⟩ := dI_inv h
    obtain ⟨r,ds,rfl,h2⟩ := dI_inv h1
    obtain ⟨hx,ds,rfl,h3⟩ := dI_inv h2
    obtain ⟨hy,ds,rfl,h4⟩ := dI_inv h3
    obtain ⟨hz,ds,rfl,h5⟩ := dI_inv h4
    obtain ⟨l,ds,rfl,h6⟩ := dL_inv h5
    obtain ⟨w,ds,rfl,h7⟩ := dI_inv h6
    obtain ⟨rfl,hE⟩ := dE_inv h7
    split at hE
    · rename_i hg
      exact ⟨_,_,hE,fun vs => ⟨_,_,by kernel_rfl,(phalf_eq k r hx hy hz l w ((cellsV (vs.headD undef)).tail.tail.tail.tail.tail.headD undef) _).trans (phalf_v k r hx hy hz l w (gB_iff hg) _)⟩⟩
    · cases hE
noncomputable def look_phalf {α:Type}:LookF α := addFn 3 (fEnt phalf_sp phalf_h) look_ppick
theorem look_phalf_ok {α:Type}:LookOk E.P (look_phalf (α := α)) := addFn_ok phalf_h_ok (look_ppick_ok)
end Go.Proofs.Ytlagndfhibkjpaa.Sx
end
