/- Texts of the walk, merged. -/
import Derived.Test.YtlagndfhibkjpaaMh4
import Derived.ProofKit
import Derived.OpenShut
import Derived.Test.YtlagndfhibkjpaaMh8
section
/- SX: from a law's run to its row. -/
namespace Go.Proofs.Ytlagndfhibkjpaa.Sx
open Go Go.RowKit Go.ChangeShapes
set_option linter.unusedVariables false

section
variable {H:Type} {enc:TypeId × Value → H} {P:Program}

theorem trodAll_keep (hl:laidOutB P = true) {W W':World} {sp:Nat → Bool}:∀ (ts:List TypeId) (vs:List Value) (ds:List (DataW H)) (ps:List MemPlace),(∀ t ∈ ts,P.readableRec t = true ∧ t < P.types.size) →
    DataW.TrodAll enc P W 0 (fun _ => true) true ts vs ds ps → (∀ x ∈ ps,W.sameAt W' x) → (∀ x ∈ ps,sp x.block = true) → DataW.TrodAll enc P W' 0 sp true ts vs ds ps
  | [],[],[],ps,_,h,_,_ => h
  | t :: ts,v :: vs,d :: ds,ps,hr,h,h1,h2 => by
    obtain ⟨p,q,a,b,rfl⟩ := h
    exact ⟨p, q, WideElems.Trod_stays hl (hr t (by simp)).1 (hr t (by simp)).2 a (fun x hx => h1 x (by simp [hx])) (fun x hx => h2 x (by simp [hx])),
      trodAll_keep hl ts vs ds q (fun t ht => hr t (by simp [ht])) b (fun x hx => h1 x (by simp [hx])) (fun x hx => h2 x (by simp [hx])),rfl⟩
  | [],_ :: _,_,_,_,h,_,_ => h.elim
  | [],[],_ :: _,_,_,h,_,_ => h.elim
  | _ :: _,[],_,_,_,h,_,_ => h.elim
  | _ :: _,_ :: _,[],_,_,h,_,_ => h.elim

/-- A law that tells true and turns nothing of what was there keeps its row. -/
theorem post_of_below {f:Func} {s:ChangeSpec} {apart fresh handsOn again:Bool} {W W':World} {args:Array Value} {ds gs:List (DataW H)} {before:List MemPlace} {tb:TypeId}
    (hl:laidOutB P = true) (hr:∀ t ∈ f.params.toList,P.readableRec t = true ∧ t < P.types.size) (hv:s.vars = []) (hres:f.resultTypes = #[tb]) (htb:P.underlying tb = some .bool)
    (hfn:(s.fn H (ds ++ gs)) = { results := [.lit (.bool true)],args := ds }) (hW:DataW.Whole enc P f.params.toList s.vars apart W args.toList ds gs before) (hb:Below W.heap.size W W') :
    s.post enc P f apart fresh handsOn again W args (.bool true) W' := by
  have hW0 := hW
  obtain ⟨p,q,hA,hV,hps,hfz,hnd⟩ := hW
  rw [hv] at hV
  obtain ⟨rfl,rfl⟩ := trodVars_none hV
  rw [List.append_nil] at hps
  subst hps
  have hlt:∀ x ∈ before,x.block < W.heap.size := fun x hx => hW0.lt x hx
  have hsame:∀ x ∈ before,W.sameAt W' x := fun x hx => hb.same (hlt x hx)
  have hargs:∀ sp:Nat → Bool,(∀ x ∈ before,sp x.block = true) → DataW.TrodAll enc P W' 0 sp true f.params.toList args.toList ds before := fun sp hsp => trodAll_keep hl _ _ _ _ hr hA hsame hsp
  have hbool:∀ (b:Nat) (sp:Nat → Bool) (hd:Bool),DataW.Trod enc P W' b sp hd tb (.bool true) (.lit (.bool true)) [] := fun b sp hd => ⟨1,by simp [DataW.trod,Value.cells,htb]⟩
  have hres1:∀ (b:Nat) (sp:Nat → Bool) (hd:Bool),DataW.TrodAll enc P W' b sp hd f.resultTypes.toList ((Value.bool true).resultList f.resultTypes.size) [.lit (.bool true)] [] := by
    intro b sp hd
    rw [hres]
    exact trodAll_mk1 (hbool b sp hd)
  have hk : W.keptBut W' (fun _ => False) := by
    refine ⟨hb.os,hb.output,fun i hi => ?_⟩
    rw [hb.block i hi]
    cases W.heap[i]? with
    | none => rfl
    | some o => cases o with
      | cells c t fr => exact ⟨rfl,rfl,rfl,fun _ _ => rfl⟩
      | map es ck => exact .inr ⟨rfl,rfl⟩
      | _ => rfl
  refine ⟨ds,[],before,[],before,[],hW0,?_,?_,?_,World.keptBut_mono (fun _ h => h.elim) hk,fun _ => ⟨?_,_,[],([] ++ before) ++ [],⟨[] ++ before,[],trodAll_append (hargs _ fun _ _ => rfl) (hres1 _ _ _),?_,rfl,?_,?_⟩,fun x hx _ => by simpa using hx⟩⟩
  · rw [hfn]; exact hres1 _ _ _
  · rw [hfn]; exact hargs _ fun x hx => by simpa using hlt x hx
  · rw [hfn,hv]; rfl
  · intro j t r h1 h2
    rw [hres] at h1 h2
    cases j with
    | zero =>
      simp [Value.resultList] at h1 h2
      subst h1; subst h2
      simp [Value.okWide,htb,Cell.okWide,Cell.ok]
    | succ j => simp at h1
  · rw [hv]; rfl
  · intro b off hx
    have hx':MemPlace.cell b off ∈ before := by simpa using hx
    have := hfz b off hx'
    unfold World.frozen? at this ⊢
    have hbl:b < W.heap.size := hlt _ hx'
    simp only [hb.block b hbl]
    exact this
  · intro ha
    simpa using hnd ha
end
theorem flat_get (κ:K):∀ (xs:List κ.T) (q m:Nat),q < xs.length → m < κ.sz → (xs.flatMap κ.cells)[q * κ.sz + m]? = (κ.cells (xs[q]?.getD κ.dflt))[m]?
  | [],q,m,h,_ => by simp at h
  | x :: xs,0,m,h,hm => by
    rw [List.flatMap_cons,List.getElem?_append_left (by rw [K.cells_length]; omega)]
    simp
  | x :: xs,q + 1,m,h,hm => by
    rw [List.flatMap_cons,List.getElem?_append_right (by rw [K.cells_length,Nat.add_mul]; omega),K.cells_length]
    rw [show (q + 1) * κ.sz + m - κ.sz = q * κ.sz + m by rw [Nat.add_mul]; omega]
    simpa using flat_get κ xs q m (by simpa using h) hm
theorem okWide_slice' {P:Program} {w:World} {r:Reach} {base:Nat} {t e:TypeId} {v:Value} (ht:P.underlying t = some (.slice e)) (h:Value.okWide P w r base t v):∃ a l c,v = .slice a l c := by
  unfold Value.okWide at h
  rw [ht] at h
  cases v <;> simp_all [Cell.okWide,Cell.ok]
/-- A slice: what it reads as. -/
theorem ros_trod {H:Type} {enc:TypeId × Value → H} {P:Program} {W:World} {t e:TypeId} {κ:K} {good:κ.T → Prop} {fuel:Nat} {cs:List Value} {x:DataW H × List MemPlace} (ht:P.underlying t = some (.slice e)) (hc:P.cellsOf e = κ.sz)
    (hel:∀ n cs x,DataW.trod enc P W 0 (fun _ => true) true n e cs = some x → ∃ y:κ.T,cs = κ.cells y ∧ good y) (h:DataW.trod enc P W 0 (fun _ => true) true fuel t cs = some x) :
    ∃ v,cs = [v] ∧ ∃ xs:List κ.T,(∀ x ∈ xs,good x) ∧ xs.length < 9223372036854775808 ∧ RosOk (fun b => b < W.heap.size) W v κ xs := by
  rcases DataW.trod_slice ht h with ⟨rfl,_⟩ | ⟨a,l0,c0,elems,rest,n,_,rfl,_,hb,hl,hm,hlen,hes,_,_⟩
  · exact ⟨_,rfl,[],by simp,by simp,.inl ⟨rfl,none,0,rfl⟩⟩
  · refine ⟨_, rfl, ?_⟩
    have each:∀ i,i < l0 → ∃ y:κ.T,W.cells? 0 (a.add (i * κ.sz)) κ.sz = some (κ.cells y) ∧ good y := by
      intro i hi
      have h1 := hes i hi
      rw [hc] at h1
      have h2:elems[i]? = some (elems[i]'(by omega)) := List.getElem?_eq_getElem (by omega)
      rw [h2,Option.bind_eq_some_iff] at h1
      obtain ⟨cs,hcs,hx⟩ := h1
      obtain ⟨y,rfl,hy⟩ := hel _ _ _ hx
      exact ⟨y,hcs,hy⟩
    have all:∀ k,k ≤ l0 → ∃ xs:List κ.T,xs.length = k ∧ (∀ x ∈ xs,good x) ∧ ∀ i,(hi:i < xs.length) → W.cells? 0 (a.add (i * κ.sz)) κ.sz = some (κ.cells xs[i]) := by
      intro k
      induction k with
      | zero => exact fun _ => ⟨[],rfl,by simp,by simp⟩
      | succ k ih =>
        intro hk
        obtain ⟨xs,e1,e2,e3⟩ := ih (by omega)
        obtain ⟨y,e4,e5⟩ := each k (by omega)
        refine ⟨xs ++ [y],by simp [e1],?_,?_⟩
        · intro x hx
          rcases List.mem_append.1 hx with hx | hx
          · exact e2 x hx
          · simp at hx; subst hx; exact e5
        · intro i hi
          by_cases hik:i < xs.length
          · rw [List.getElem_append_left hik]; exact e3 i hik
          · have : i = xs.length := by simp at hi; omega
            subst this
            rw [List.getElem_append_right (by omega)]
            simpa [e1] using e4
    obtain ⟨xs,e1,e2,e3⟩ := all l0 (Nat.le_refl _)
    refine ⟨xs,e2,by unfold maxLen at hm; omega,?_⟩
    by_cases h0:l0 = 0
    · subst h0
      exact .inl ⟨List.eq_nil_of_length_eq_zero e1,_,_,rfl⟩
    · have hcell : ∀ i j, i < l0 → j < κ.sz → W.cell? ((a.add (i * κ.sz)).add j) = (κ.cells (xs[i]?.getD κ.dflt))[j]? := by
        intro i j hi hj
        have := (World.cells?_some (e3 i (by omega))).2.2 j hj
        rw [this]
        simp [show i < xs.length by omega]
      have hsz:0 < κ.sz := K.sz_pos κ
      have h00 := hcell 0 0 (by omega) hsz
      have hsp:a.spot = none ∧ a.block < W.heap.size := by
        have e0:(a.add (0 * κ.sz)).add 0 = a := by simp [Addr.add]
        rw [e0] at h00
        have hne:(κ.cells (xs[0]?.getD κ.dflt))[0]? ≠ none := by
          rw [List.getElem?_eq_getElem (by rw [K.cells_length]; exact hsz)]; simp
        rw [← h00] at hne
        unfold World.cell? at hne
        split at hne
        · rename_i c t' f' hh
          refine ⟨?_,?_⟩
          · cases hs : a.spot with
            | none => rfl
            | some q => simp [hs] at hne
          · exact (Array.getElem?_eq_some_iff.1 hh).1
        · simp at hne
      refine .inr ⟨a,c0,by rw [e1],by omega,hsp.1,hsp.2,?_⟩
      intro j c hj
      have hjl:j < xs.length * κ.sz := by
        have := (List.getElem?_eq_some_iff.1 hj).1
        rwa [cells_flat_length] at this
      have hq:j / κ.sz < xs.length := Nat.div_lt_of_lt_mul (by rwa [Nat.mul_comm])
      have hm':j % κ.sz < κ.sz := Nat.mod_lt _ hsz
      have hadd:(⟨a.block,a.off + j,none⟩:Addr) = (a.add (j / κ.sz * κ.sz)).add (j % κ.sz) := by
        obtain ⟨ab,ao,asp⟩ := a
        have:asp = none := hsp.1
        subst this
        rw [add_lit,add_lit,Nat.add_assoc,Nat.div_add_mod' j κ.sz]
      rw [hadd,hcell _ _ (by omega) hm']
      rw [← flat_get κ xs (j / κ.sz) (j % κ.sz) hq hm',Nat.div_add_mod' j κ.sz]
      exact hj
/-- A slice that is handed to a law: what it reads as. -/
theorem ros_slice {H:Type} {enc:TypeId × Value → H} {P:Program} {W:World} {r:Reach} {b0:Nat} {t e:TypeId} {κ:K} {good:κ.T → Prop} {v:Value} {d:DataW H} {ps:List MemPlace} (ht:P.underlying t = some (.slice e)) (hc:P.cellsOf e = κ.sz)
    (hel:∀ n cs x,DataW.trod enc P W 0 (fun _ => true) true n e cs = some x → ∃ y:κ.T,cs = κ.cells y ∧ good y) (hval:Value.okWide P W r b0 t v) (h:DataW.Trod enc P W 0 (fun _ => true) true t v d ps) :
    ∃ xs:List κ.T,(∀ x ∈ xs,good x) ∧ xs.length < 9223372036854775808 ∧ RosOk (fun b => b < W.heap.size) W v κ xs := by
  obtain ⟨a0,l0,c0,rfl⟩ := okWide_slice' ht hval
  obtain ⟨fuel,h⟩ := h
  have hcs:(Value.slice a0 l0 c0).cells.toList = [.slice a0 l0 c0] := rfl
  rw [hcs] at h
  obtain ⟨v,hv,hx⟩ := ros_trod ht hc hel h
  cases hv
  exact hx
theorem wf64 {n:Int} (h:(Lit.int .i64 n).wf = true):-9223372036854775808 ≤ n ∧ n < 9223372036854775808 := by
  simp only [Lit.wf,Bool.and_eq_true,decide_eq_true_eq] at h
  have h1:IntKind.i64.min = -9223372036854775808 := by decide
  have h2:IntKind.i64.max = 9223372036854775807 := by decide
  rw [h1,h2] at h
  omega
theorem el_int {H:Type} {enc:TypeId × Value → H} {P:Program} {W:World} {e:TypeId} (he:P.underlying e = some (.int .i64)) :
    ∀ n cs x,DataW.trod enc P W 0 (fun _ => true) true n e cs = some x → ∃ y:(K.int .i64).T,cs = (K.int .i64).cells y ∧ (-9223372036854775808 ≤ y ∧ y < 9223372036854775808) := by
  intro n cs x h
  obtain ⟨m,rfl,_,hw⟩ := DataW.trod_int he h
  exact ⟨m,rfl,wf64 hw⟩
theorem el_v3 {H:Type} {enc:TypeId × Value → H} {P:Program} {W:World} {t e:TypeId} (ht:P.underlying t = some (.array 3 e)) (he:P.underlying e = some (.int .i64)) (hc:P.cellsOf e = 1) (hct:P.cellsOf t = 3) :
    ∀ n cs x,DataW.trod enc P W 0 (fun _ => true) true n t cs = some x → ∃ y:K.v3.T,cs = K.v3.cells y ∧ True := by
  intro n cs x h
  obtain ⟨xs,m,_,_,hl,hx,hi⟩ := DataW.trod_array ht h
  rw [hct] at hl
  have get:∀ i,i < 3 → ∃ y:Int,cs[i]? = some (.int .i64 y) := by
    intro i h3
    have h1 := hi i h3
    rw [hc,Nat.mul_one,List.getElem?_eq_getElem (by omega)] at h1
    obtain ⟨y,h2,_,_⟩ := DataW.trod_int he h1
    refine ⟨y,?_⟩
    have := congrArg (fun l => l[0]?) h2
    simpa using this
  obtain ⟨a,ha⟩ := get 0 (by omega)
  obtain ⟨b,hb⟩ := get 1 (by omega)
  obtain ⟨c,hc⟩ := get 2 (by omega)
  refine ⟨⟨a,b,c⟩,?_,trivial⟩
  obtain ⟨p,q,r,rfl⟩:∃ p q r,cs = [p,q,r] := match cs,hl with | [p,q,r],_ => ⟨p,q,r,rfl⟩
  simp at ha hb hc
  subst ha; subst hb; subst hc
  rfl
theorem sound_of {P:Program} {f:FuncId} {c:List SV → Hp → (SV → Hp → Option (SV × Hp)) → Option (SV × Hp)} {args:List SV} {v:SV} {H':Hp} (h:FnOk P f c) (hc:c args [] (fun v H => some (v,H)) = some (v,H')):Sound P f args [] v H' := by
  obtain ⟨v,H',h1,h2⟩ := h _ _ _ _ hc
  cases h1
  exact h2
/-- A law's run, out of any memory: what was there stays. -/
theorem law_calls {P:Program} {f:FuncId} {args:List SV} (hs:Sound P f args [] (.bool true) []) (W:World)
    (hok:∀ (ρ:Nat → Tk),SV.okL (fun b => b < W.heap.size) W ρ 0 args) :
    Calls P f (denL (fun _ => ⟨0,.slice none 0 0⟩) args).toArray W fun e W' => e = .returned (.bool true) ∧ Below W.heap.size W W' := by
  have := hs.run ⟨fun b => b < W.heap.size, W, fun b => W.heap.size ≤ b⟩ (fun _ => ⟨0, .slice none 0 0⟩) W
    { obj := by intro t o h; simp at h
      sep := by intro t t' b h; simp [blkOf] at h
      own := by intro t b h; simp [blkOf] at h
      hdr := fun t => ⟨none,0,0,rfl⟩
      keep := fun _ _ _ => rfl
      size := Nat.le_refl _
      os := rfl
      tape := rfl
      output := rfl
      ok := by intro t o h; simp at h
      fit := ⟨fun b h => h,fun b h => ⟨h,by show ¬ (W.heap.size ≤ b); have:b < W.heap.size := h; omega⟩⟩ } (hok _)
  refine this.mono fun e W' ⟨ρ',_,he,hR,_⟩ => ⟨by rw [he]; rfl,hR.os,hR.tape,hR.output,hR.size,fun k hk => hR.keep k hk (by show ¬ (W.heap.size ≤ k); omega)⟩
/-! Plain structs: what they read as. -/
def LK.good:(k:LK) → k.T → Prop
  | .i k,n => (Lit.int k n).wf = true
  | .b,_ => True
def RT.good:(k:LK) → (ks:List LK) → RT k ks → Prop
  | k,[],x => k.good x
  | k,k' :: ks,x => k.good x.1 ∧ RT.good k' ks x.2
def Mt:List LK → List Value → Prop
  | [],[] => True
  | .i k :: ks,.int k' n :: cs => k' = k ∧ (Lit.int k n).wf = true ∧ Mt ks cs
  | .b :: ks,.bool _ :: cs => Mt ks cs
  | _,_ => False
theorem Mt.length:∀ {ks:List LK} {cs:List Value},Mt ks cs → cs.length = ks.length
  | [],[],_ => rfl
  | .i _ :: ks,.int _ _ :: cs,h => by simp [Mt.length (ks := ks) (cs := cs) h.2.2]
  | .b :: ks,.bool _ :: cs,h => by simp [Mt.length (ks := ks) (cs := cs) h]
  | [],_ :: _,h => h.elim
  | .i _ :: _,[],h => h.elim
  | .b :: _,[],h => h.elim
theorem Mt.append:∀ {ks ls:List LK} {cs ds:List Value},Mt ks cs → Mt ls ds → Mt (ks ++ ls) (cs ++ ds)
  | [],ls,[],ds,_,h => h
  | .i _ :: ks,ls,.int _ _ :: cs,ds,h,h' => ⟨h.1,h.2.1,Mt.append h.2.2 h'⟩
  | .b :: ks,ls,.bool _ :: cs,ds,h,h' => Mt.append (ks := ks) (cs := cs) h h'
  | [],_,_ :: _,_,h,_ => h.elim
  | .i _ :: _,_,[],_,h,_ => h.elim
  | .b :: _,_,[],_,h,_ => h.elim
theorem Mt.data:∀ {k:LK} {ks:List LK} {cs:List Value},Mt (k :: ks) cs → ∃ x:RT k ks,cs = RT.cells k ks x ∧ RT.good k ks x
  | .i k,[],[.int k' n],h => by obtain ⟨rfl,h2,_⟩ := h; exact ⟨n,rfl,h2⟩
  | .b,[],[.bool v],h => ⟨v,rfl,trivial⟩
  | .i k,k2 :: ks,.int k' n :: cs,h => by
    obtain ⟨rfl,h2,h3⟩ := h
    obtain ⟨x,rfl,hx⟩ := Mt.data h3
    exact ⟨(n,x),rfl,h2,hx⟩
  | .b,k2 :: ks,.bool v :: cs,h => by
    obtain ⟨x,rfl,hx⟩ := Mt.data (cs := cs) (k := k2) (ks := ks) h
    exact ⟨(v,x),rfl,trivial,hx⟩
  | .i _,[],.int _ _ :: _ :: _,h => h.2.2.elim
  | .b,[],.bool _ :: _ :: _,h => h.elim
  | .i _,_,[],h => h.elim
  | .b,_,[],h => h.elim
/-- The leaves' kinds of a plain type. -/
def shpFs (P:Program) (f:TypeId → Option (List LK)):List Field → Nat → Option (List LK)
  | [],_ => some []
  | x :: l,off => if x.offset = off then (f x.type).bind fun ks => if ks.length = P.cellsOf x.type then (shpFs P f l (off + ks.length)).map fun ls => ks ++ ls else none else none
def rep {α:Type}:Nat → List α → List α
  | 0,_ => []
  | n + 1,l => l ++ rep n l
def shp (P:Program):Nat → TypeId → Option (List LK)
  | 0,_ => none
  | d + 1, t => match P.underlying t with
    | some (.int k) => some [.i k]
    | some .bool => some [.b]
    | some (.struct fs) => (shpFs P (shp P d) fs.toList 0).bind fun ks => if ks.length = P.cellsOf t then some ks else none
    | some (.array n e) => (shp P d e).bind fun ks => if ks.length = P.cellsOf e ∧ n * ks.length = P.cellsOf t then some (rep n ks) else none
    | _ => none
theorem rep_length {α:Type} (l:List α):∀ n,(rep n l).length = n * l.length
  | 0 => by simp [rep]
  | n + 1 => by rw [rep,List.length_append,rep_length l n,Nat.add_mul]; omega
theorem trod_bool' {H:Type} {enc:TypeId × Value → H} {P:Program} {W:World} {b:Nat} {sp:Nat → Bool} {hd:Bool} {t:TypeId} {n:Nat} {cs:List Value} {x:DataW H × List MemPlace}
    (ht:P.underlying t = some .bool) (h:DataW.trod enc P W b sp hd n t cs = some x):∃ v,cs = [.bool v] := by
  cases n with
  | zero => simp [DataW.trod] at h
  | succ n =>
    unfold DataW.trod at h
    rw [ht] at h
    split at h <;> simp_all
theorem trod_shp {H:Type} {enc:TypeId × Value → H} {P:Program} {W:World} {b:Nat} {sp:Nat → Bool} {hd:Bool}:∀ (d:Nat) (t:TypeId) (ks:List LK),shp P d t = some ks →
    ∀ (n:Nat) (cs:List Value) (x:DataW H × List MemPlace),DataW.trod enc P W b sp hd n t cs = some x → Mt ks cs
  | 0,t,ks,h => by simp [shp] at h
  | d + 1,t,ks,h => by
    intro n cs x hx
    have ih := trod_shp (enc := enc) (P := P) (W := W) (b := b) (sp := sp) (hd := hd) d
    unfold shp at h
    split at h
    · rename_i k ht
      cases h
      obtain ⟨m,rfl,_,hw⟩ := DataW.trod_int ht hx
      exact ⟨rfl,hw,trivial⟩
    · rename_i ht
      cases h
      obtain ⟨v,rfl⟩ := trod_bool' ht hx
      trivial
    · rename_i fs ht
      rw [Option.bind_eq_some_iff] at h
      obtain ⟨ks',h1,h2⟩ := h
      split at h2
      · rename_i hl
        cases h2
        obtain ⟨xs,m,_,_,hlen,hxl,hf⟩ := DataW.trod_struct ht hx
        have each:∀ f ∈ fs.toList,∃ x,DataW.trod enc P W b sp hd m f.type ((cs.drop f.offset).take (P.cellsOf f.type)) = some x := by
          intro f hf'
          obtain ⟨i,hi,rfl⟩ := List.mem_iff_getElem.1 hf'
          have hi':i < fs.size := by simpa using hi
          have := hf i _ (by simp [hi']:fs[i]? = some (fs.toList[i]))
          exact ⟨xs[i]'(by omega),by rw [this]; simp [show i < xs.length by omega]⟩
        have main:∀ (l:List Field) (off:Nat) (ks:List LK),(∀ f ∈ l,∃ x,DataW.trod enc P W b sp hd m f.type ((cs.drop f.offset).take (P.cellsOf f.type)) = some x) →
            shpFs P (shp P d) l off = some ks → cs.length = off + ks.length → Mt ks (cs.drop off) := by
          intro l
          induction l with
          | nil =>
            intro off ks _ hk hl2
            simp [shpFs] at hk
            subst hk
            rw [List.drop_eq_nil_of_le (by simp at hl2; omega)]
            trivial
          | cons f l ihl =>
            intro off ks he hk hl2
            unfold shpFs at hk
            split at hk
            · rename_i ho
              rw [Option.bind_eq_some_iff] at hk
              obtain ⟨k1,a1,a2⟩ := hk
              split at a2
              · rename_i hk1
                rw [Option.map_eq_some_iff] at a2
                obtain ⟨k2,a3,rfl⟩ := a2
                obtain ⟨y,hy⟩ := he f (by simp)
                have m1 := ih _ _ a1 _ _ _ hy
                have m2 := ihl (off + k1.length) k2 (fun g hg => he g (by simp [hg])) a3 (by simp at hl2; omega)
                rw [ho,← hk1] at m1
                have e:cs.drop off = (cs.drop off).take k1.length ++ cs.drop (off + k1.length) := by
                  rw [← List.drop_drop,List.take_append_drop]
                rw [e]
                exact m1.append m2
              · cases a2
            · cases hk
        have := main fs.toList 0 _ each h1 (by omega)
        simpa using this
      · cases h2
    · rename_i n' e ht
      rw [Option.bind_eq_some_iff] at h
      obtain ⟨k1,h1,h2⟩ := h
      split at h2
      · rename_i hl
        cases h2
        obtain ⟨xs,m,_,_,hlen,hxl,hf⟩ := DataW.trod_array ht hx
        have each:∀ i,i < n' → Mt k1 ((cs.drop (i * k1.length)).take k1.length) := by
          intro i hi
          have := hf i hi
          rw [List.getElem?_eq_getElem (by omega)] at this
          have := ih _ _ h1 _ _ _ this
          rwa [← hl.1] at this
        have main:∀ j,j ≤ n' → Mt (rep j k1) (cs.drop ((n' - j) * k1.length)) := by
          intro j
          induction j with
          | zero =>
            intro _
            rw [List.drop_eq_nil_of_le (by simp; omega)]
            trivial
          | succ j ihj =>
            intro hj
            have m1 := each (n' - (j + 1)) (by omega)
            have m2 := ihj (by omega)
            have e0:(n' - (j + 1)) * k1.length + k1.length = (n' - j) * k1.length := by
              rw [show n' - j = (n' - (j + 1)) + 1 by omega,Nat.add_mul]; omega
            have e:cs.drop ((n' - (j + 1)) * k1.length) = (cs.drop ((n' - (j + 1)) * k1.length)).take k1.length ++ cs.drop ((n' - j) * k1.length) := by
              rw [← e0,← List.drop_drop,List.take_append_drop]
            rw [e]
            exact m1.append m2
        have := main n' (Nat.le_refl _)
        simpa using this
      · cases h2
    · cases h
theorem el_st {H:Type} {enc:TypeId × Value → H} {P:Program} {W:World} {t:TypeId} {k:LK} {ks:List LK} (d:Nat) (hs:shp P d t = some (k :: ks)) :
    ∀ n cs x,DataW.trod enc P W 0 (fun _ => true) true n t cs = some x → ∃ y:(K.st k ks).T,cs = (K.st k ks).cells y ∧ RT.good k ks y :=
  fun n cs x h => (trod_shp d t _ hs n cs x h).data
/-- A plain struct that is handed to a law. -/
theorem open_st {H:Type} {enc:TypeId × Value → H} {P:Program} {W:World} {r:Reach} {b0:Nat} {t:TypeId} {v:Value} {dd:DataW H} {ps:List MemPlace} {k:LK} {ks:List LK} (d:Nat) (hs:shp P d t = some (k :: ks))
    (ha:(match P.underlying t with | some (.struct _) | some (.array _ _) => true | _ => false) = true) (hval:Value.okWide P W r b0 t v) (h:DataW.Trod enc P W 0 (fun _ => true) true t v dd ps) :
    ∃ y:RT k ks,v = .agg (RT.cells k ks y).toArray ∧ RT.good k ks y := by
  have:∃ cs,v = .agg cs := by
    unfold Value.okWide at hval
    split at hval
    · obtain ⟨cs,rfl,_⟩ := hval; exact ⟨cs,rfl⟩
    · obtain ⟨cs,rfl,_⟩ := hval; exact ⟨cs,rfl⟩
    · rename_i h1 h2
      exfalso
      split at ha
      · rename_i fs hf; exact h1 fs hf
      · rename_i n e hf; exact h2 n e hf
      · cases ha
  obtain ⟨cs,rfl⟩ := this
  obtain ⟨fuel,h⟩ := h
  obtain ⟨y,hy,hg⟩ := (trod_shp d t _ hs _ _ _ h).data
  have hy':cs.toList = RT.cells k ks y := hy
  exact ⟨y,by rw [← hy'],hg⟩
/-! Structs with slices. -/
inductive RK where
  | leaf (k:LK) | sl (t:TypeId)
def MtR {H:Type} (enc:TypeId × Value → H) (P:Program) (W:World):List RK → List Value → Prop
  | [],[] => True
  | .leaf (.i k) :: ks,.int k' n :: cs => k' = k ∧ (Lit.int k n).wf = true ∧ MtR enc P W ks cs
  | .leaf .b :: ks,.bool _ :: cs => MtR enc P W ks cs
  | .sl t :: ks,v :: cs => (∃ fuel x,DataW.trod enc P W 0 (fun _ => true) true fuel t [v] = some x) ∧ MtR enc P W ks cs
  | _,_ => False
theorem MtR.append {H:Type} {enc:TypeId × Value → H} {P:Program} {W:World}:∀ {ks ls:List RK} {cs ds:List Value},MtR enc P W ks cs → MtR enc P W ls ds → MtR enc P W (ks ++ ls) (cs ++ ds)
  | [],ls,[],ds,_,h => h
  | .leaf (.i _) :: ks,ls,.int _ _ :: cs,ds,h,h' => ⟨h.1,h.2.1,MtR.append h.2.2 h'⟩
  | .leaf .b :: ks,ls,.bool _ :: cs,ds,h,h' => MtR.append (ks := ks) (cs := cs) h h'
  | .sl _ :: ks,ls,v :: cs,ds,h,h' => ⟨h.1,MtR.append h.2 h'⟩
theorem MtR.ci {H:Type} {enc:TypeId × Value → H} {P:Program} {W:World} {k:IntKind} {ks:List RK}:∀ {cs:List Value},MtR enc P W (.leaf (.i k) :: ks) cs → ∃ n cs',cs = .int k n :: cs' ∧ (Lit.int k n).wf = true ∧ MtR enc P W ks cs'
  | .int _ n :: cs,h => by obtain ⟨rfl,h2,h3⟩ := h; exact ⟨n,cs,rfl,h2,h3⟩
theorem MtR.cb {H:Type} {enc:TypeId × Value → H} {P:Program} {W:World} {ks:List RK}:∀ {cs:List Value},MtR enc P W (.leaf .b :: ks) cs → ∃ b cs',cs = .bool b :: cs' ∧ MtR enc P W ks cs'
  | .bool b :: cs,h => ⟨b,cs,rfl,h⟩
theorem MtR.cs {H:Type} {enc:TypeId × Value → H} {P:Program} {W:World} {t:TypeId} {ks:List RK}:∀ {cs:List Value},MtR enc P W (.sl t :: ks) cs → ∃ v cs',cs = v :: cs' ∧ (∃ fuel x,DataW.trod enc P W 0 (fun _ => true) true fuel t [v] = some x) ∧ MtR enc P W ks cs'
  | v :: cs,h => ⟨v,cs,rfl,h.1,h.2⟩
theorem MtR.nil {H:Type} {enc:TypeId × Value → H} {P:Program} {W:World}:∀ {cs:List Value},MtR enc P W [] cs → cs = []
  | [],_ => rfl
def shpRF (P:Program) (f:TypeId → Option (List RK)):List Field → Nat → Option (List RK)
  | [],_ => some []
  | x :: l,off => if x.offset = off then (f x.type).bind fun ks => if ks.length = P.cellsOf x.type then (shpRF P f l (off + ks.length)).map fun ls => ks ++ ls else none else none
def shpR (P:Program):Nat → TypeId → Option (List RK)
  | 0,_ => none
  | d + 1, t => match P.underlying t with
    | some (.int k) => some [.leaf (.i k)]
    | some .bool => some [.leaf .b]
    | some (.slice _) => some [.sl t]
    | some (.struct fs) => (shpRF P (shpR P d) fs.toList 0).bind fun ks => if ks.length = P.cellsOf t then some ks else none
    | _ => none
theorem trod_shpR {H:Type} {enc:TypeId × Value → H} {P:Program} {W:World}:∀ (d:Nat) (t:TypeId) (ks:List RK),shpR P d t = some ks →
    ∀ (n:Nat) (cs:List Value) (x:DataW H × List MemPlace),DataW.trod enc P W 0 (fun _ => true) true n t cs = some x → MtR enc P W ks cs
  | 0,t,ks,h => by simp [shpR] at h
  | d + 1,t,ks,h => by
    intro n cs x hx
    have ih := trod_shpR (enc := enc) (P := P) (W := W) d
    unfold shpR at h
    split at h
    · rename_i k ht
      cases h
      obtain ⟨m,rfl,_,hw⟩ := DataW.trod_int ht hx
      exact ⟨rfl,hw,trivial⟩
    · rename_i ht
      cases h
      obtain ⟨v,rfl⟩ := trod_bool' ht hx
      trivial
    · rename_i e ht
      cases h
      rcases DataW.trod_slice ht hx with ⟨rfl,_⟩ | ⟨a,l0,c0,elems,rest,n,_,rfl,_⟩
      · exact ⟨⟨_,_,hx⟩,trivial⟩
      · exact ⟨⟨_,_,hx⟩,trivial⟩
    · rename_i fs ht
      rw [Option.bind_eq_some_iff] at h
      obtain ⟨ks',h1,h2⟩ := h
      split at h2
      · rename_i hl
        cases h2
        obtain ⟨xs,m,_,_,hlen,hxl,hf⟩ := DataW.trod_struct ht hx
        have each:∀ f ∈ fs.toList,∃ x,DataW.trod enc P W 0 (fun _ => true) true m f.type ((cs.drop f.offset).take (P.cellsOf f.type)) = some x := by
          intro f hf'
          obtain ⟨i,hi,rfl⟩ := List.mem_iff_getElem.1 hf'
          have hi':i < fs.size := by simpa using hi
          have := hf i _ (by simp [hi']:fs[i]? = some (fs.toList[i]))
          exact ⟨xs[i]'(by omega),by rw [this]; simp [show i < xs.length by omega]⟩
        have main:∀ (l:List Field) (off:Nat) (ks:List RK),(∀ f ∈ l,∃ x,DataW.trod enc P W 0 (fun _ => true) true m f.type ((cs.drop f.offset).take (P.cellsOf f.type)) = some x) →
            shpRF P (shpR P d) l off = some ks → cs.length = off + ks.length → MtR enc P W ks (cs.drop off) := by
          intro l
          induction l with
          | nil =>
            intro off ks _ hk hl2
            simp [shpRF] at hk
            subst hk
            rw [List.drop_eq_nil_of_le (by simp at hl2; omega)]
            trivial
          | cons f l ihl =>
            intro off ks he hk hl2
            unfold shpRF at hk
            split at hk
            · rename_i ho
              rw [Option.bind_eq_some_iff] at hk
              obtain ⟨k1,a1,a2⟩ := hk
              split at a2
              · rename_i hk1
                rw [Option.map_eq_some_iff] at a2
                obtain ⟨k2,a3,rfl⟩ := a2
                obtain ⟨y,hy⟩ := he f (by simp)
                have m1 := ih _ _ a1 _ _ _ hy
                have m2 := ihl (off + k1.length) k2 (fun g hg => he g (by simp [hg])) a3 (by simp at hl2; omega)
                rw [ho,← hk1] at m1
                have e:cs.drop off = (cs.drop off).take k1.length ++ cs.drop (off + k1.length) := by
                  rw [← List.drop_drop,List.take_append_drop]
                rw [e]
                exact m1.append m2
              · cases a2
            · cases hk
        have := main fs.toList 0 _ each h1 (by omega)
        simpa using this
      · cases h2
    · cases h
/-- A struct with slices that is handed to a law. -/
theorem open_str {H:Type} {enc:TypeId × Value → H} {P:Program} {W:World} {r:Reach} {b0:Nat} {t:TypeId} {v:Value} {dd:DataW H} {ps:List MemPlace} {ks:List RK} (d:Nat) (hs:shpR P d t = some ks)
    (ha:(match P.underlying t with | some (.struct _) | some (.array _ _) => true | _ => false) = true) (hval:Value.okWide P W r b0 t v) (h:DataW.Trod enc P W 0 (fun _ => true) true t v dd ps) :
    ∃ cs:List Value,v = .agg cs.toArray ∧ MtR enc P W ks cs := by
  have:∃ cs,v = .agg cs := by
    unfold Value.okWide at hval
    split at hval
    · obtain ⟨cs,rfl,_⟩ := hval; exact ⟨cs,rfl⟩
    · obtain ⟨cs,rfl,_⟩ := hval; exact ⟨cs,rfl⟩
    · rename_i h1 h2
      exfalso
      split at ha
      · rename_i fs hf; exact h1 fs hf
      · rename_i n e hf; exact h2 n e hf
      · cases ha
  obtain ⟨cs,rfl⟩ := this
  obtain ⟨fuel,h⟩ := h
  exact ⟨cs.toList,by simp,trod_shpR d t _ hs _ _ _ h⟩
/-- Whatever is said. (By choice, so that no checker looks at it.) -/
noncomputable def _root_.Go.Proofs.Ytlagndfhibkjpaa.V.gB (p:Prop):Bool := open Classical in Classical.choose (⟨decide p,rfl⟩:∃ r:Bool,r = decide p)
theorem gB_of {p:Prop} (h:p):V.gB p = true := by
  have e:V.gB p = _ := Classical.choose_spec (⟨open Classical in decide p,rfl⟩:∃ r:Bool,r = open Classical in decide p)
  rw [e]; simp [h]
theorem gB_iff {p:Prop} (h:V.gB p = true):p := by
  have e:V.gB p = _ := Classical.choose_spec (⟨open Classical in decide p,rfl⟩:∃ r:Bool,r = open Classical in decide p)
  rw [e] at h; simpa using h
end Go.Proofs.Ytlagndfhibkjpaa.Sx
end

section
/- pose: the laws' examples, and cores held against each other. -/
namespace Go.Proofs.Ytlagndfhibkjpaa.Sx
open Go
set_option maxRecDepth 20000
set_option linter.unusedVariables false
set_option linter.unusedSimpArgs false
noncomputable def _root_.Go.Proofs.Ytlagndfhibkjpaa.M.pawake {α:Type} (k0:Bool → Option α):Option α := if V.lenB (List.length (V.corP (1:Int) (5:Int) (0:Int) (0:Int) (0:Int) [])) = true ∧ V.lenB (List.length (V.corA (1:Int) (5:Int) (0:Int) (0:Int) (0:Int) [])) = true ∧ V.lenB (List.length (V.corE (1:Int) (5:Int) (0:Int) (0:Int) (0:Int) [])) = true then if V.plG (V.plc (V.corP (1:Int) (5:Int) (0:Int) (0:Int) (0:Int) []) (V.corA (1:Int) (5:Int) (0:Int) (0:Int) (0:Int) []) (V.corE (1:Int) (5:Int) (0:Int) (0:Int) (0:Int) []) ((4294967296:Int),(0:Int),(-1:Int)) ((4294967296:Int),(0:Int),(0:Int),(0:Int))) = true then if V.lenB (List.length (V.plP (V.plc (V.corP (1:Int) (5:Int) (0:Int) (0:Int) (0:Int) []) (V.corA (1:Int) (5:Int) (0:Int) (0:Int) (0:Int) []) (V.corE (1:Int) (5:Int) (0:Int) (0:Int) (0:Int) []) ((4294967296:Int),(0:Int),(-1:Int)) ((4294967296:Int),(0:Int),(0:Int),(0:Int))))) = true then if cEq (V.chk (1:Int) (5:Int) (0:Int) (0:Int) (0:Int) []) (0:Int) = true then if cEq (↑(List.length (V.plP (V.plc (V.corP (1:Int) (5:Int) (0:Int) (0:Int) (0:Int) []) (V.corA (1:Int) (5:Int) (0:Int) (0:Int) (0:Int) []) (V.corE (1:Int) (5:Int) (0:Int) (0:Int) (0:Int) []) ((4294967296:Int),(0:Int),(-1:Int)) ((4294967296:Int),(0:Int),(0:Int),(0:Int))))):Int) (1:Int) = true then if (0:Int) ≤ (0:Int) ∧ (0:Int) < (↑(List.length (V.plP (V.plc (V.corP (1:Int) (5:Int) (0:Int) (0:Int) (0:Int) []) (V.corA (1:Int) (5:Int) (0:Int) (0:Int) (0:Int) []) (V.corE (1:Int) (5:Int) (0:Int) (0:Int) (0:Int) []) ((4294967296:Int),(0:Int),(-1:Int)) ((4294967296:Int),(0:Int),(0:Int),(0:Int))))):Int) then if (cEq (Prod.fst (List.getD (V.plP (V.plc (V.corP (1:Int) (5:Int) (0:Int) (0:Int) (0:Int) []) (V.corA (1:Int) (5:Int) (0:Int) (0:Int) (0:Int) []) (V.corE (1:Int) (5:Int) (0:Int) (0:Int) (0:Int) []) ((4294967296:Int),(0:Int),(-1:Int)) ((4294967296:Int),(0:Int),(0:Int),(0:Int)))) (0:Nat) ((0:Int),(0:Int),(0:Int)))) (4096:Int) && (cEq (Prod.fst (Prod.snd (List.getD (V.plP (V.plc (V.corP (1:Int) (5:Int) (0:Int) (0:Int) (0:Int) []) (V.corA (1:Int) (5:Int) (0:Int) (0:Int) (0:Int) []) (V.corE (1:Int) (5:Int) (0:Int) (0:Int) (0:Int) []) ((4294967296:Int),(0:Int),(-1:Int)) ((4294967296:Int),(0:Int),(0:Int),(0:Int)))) (0:Nat) ((0:Int),(0:Int),(0:Int))))) (0:Int) && (cEq (Prod.snd (Prod.snd (List.getD (V.plP (V.plc (V.corP (1:Int) (5:Int) (0:Int) (0:Int) (0:Int) []) (V.corA (1:Int) (5:Int) (0:Int) (0:Int) (0:Int) []) (V.corE (1:Int) (5:Int) (0:Int) (0:Int) (0:Int) []) ((4294967296:Int),(0:Int),(-1:Int)) ((4294967296:Int),(0:Int),(0:Int),(0:Int)))) (0:Nat) ((0:Int),(0:Int),(0:Int))))) (-1:Int) && true))) = true then k0 (cEq (Prod.fst (V.spn (V.plP (V.plc (V.corP (1:Int) (5:Int) (0:Int) (0:Int) (0:Int) []) (V.corA (1:Int) (5:Int) (0:Int) (0:Int) (0:Int) []) (V.corE (1:Int) (5:Int) (0:Int) (0:Int) (0:Int) []) ((4294967296:Int),(0:Int),(-1:Int)) ((4294967296:Int),(0:Int),(0:Int),(0:Int)))) (V.corR (1:Int) (5:Int) (0:Int) (0:Int) (0:Int) []))) (4091:Int) && (cEq (Prod.fst (Prod.snd (V.spn (V.plP (V.plc (V.corP (1:Int) (5:Int) (0:Int) (0:Int) (0:Int) []) (V.corA (1:Int) (5:Int) (0:Int) (0:Int) (0:Int) []) (V.corE (1:Int) (5:Int) (0:Int) (0:Int) (0:Int) []) ((4294967296:Int),(0:Int),(-1:Int)) ((4294967296:Int),(0:Int),(0:Int),(0:Int)))) (V.corR (1:Int) (5:Int) (0:Int) (0:Int) (0:Int) [])))) (-5:Int) && (cEq (Prod.fst (Prod.snd (Prod.snd (V.spn (V.plP (V.plc (V.corP (1:Int) (5:Int) (0:Int) (0:Int) (0:Int) []) (V.corA (1:Int) (5:Int) (0:Int) (0:Int) (0:Int) []) (V.corE (1:Int) (5:Int) (0:Int) (0:Int) (0:Int) []) ((4294967296:Int),(0:Int),(-1:Int)) ((4294967296:Int),(0:Int),(0:Int),(0:Int)))) (V.corR (1:Int) (5:Int) (0:Int) (0:Int) (0:Int) []))))) (-6:Int) && true)) && (cEq (Prod.fst (Prod.snd (Prod.snd (Prod.snd (V.spn (V.plP (V.plc (V.corP (1:Int) (5:Int) (0:Int) (0:Int) (0:Int) []) (V.corA (1:Int) (5:Int) (0:Int) (0:Int) (0:Int) []) (V.corE (1:Int) (5:Int) (0:Int) (0:Int) (0:Int) []) ((4294967296:Int),(0:Int),(-1:Int)) ((4294967296:Int),(0:Int),(0:Int),(0:Int)))) (V.corR (1:Int) (5:Int) (0:Int) (0:Int) (0:Int) [])))))) (4101:Int) && (cEq (Prod.fst (Prod.snd (Prod.snd (Prod.snd (Prod.snd (V.spn (V.plP (V.plc (V.corP (1:Int) (5:Int) (0:Int) (0:Int) (0:Int) []) (V.corA (1:Int) (5:Int) (0:Int) (0:Int) (0:Int) []) (V.corE (1:Int) (5:Int) (0:Int) (0:Int) (0:Int) []) ((4294967296:Int),(0:Int),(-1:Int)) ((4294967296:Int),(0:Int),(0:Int),(0:Int)))) (V.corR (1:Int) (5:Int) (0:Int) (0:Int) (0:Int) []))))))) (5:Int) && (cEq (Prod.snd (Prod.snd (Prod.snd (Prod.snd (Prod.snd (V.spn (V.plP (V.plc (V.corP (1:Int) (5:Int) (0:Int) (0:Int) (0:Int) []) (V.corA (1:Int) (5:Int) (0:Int) (0:Int) (0:Int) []) (V.corE (1:Int) (5:Int) (0:Int) (0:Int) (0:Int) []) ((4294967296:Int),(0:Int),(-1:Int)) ((4294967296:Int),(0:Int),(0:Int),(0:Int)))) (V.corR (1:Int) (5:Int) (0:Int) (0:Int) (0:Int) []))))))) (4:Int) && true)) && true)) else k0 false else none else k0 false else k0 false else none else if V.lenB (0:Nat) = true then if cEq (V.chk (1:Int) (5:Int) (0:Int) (0:Int) (0:Int) []) (0:Int) = true then k0 false else k0 false else none else none
theorem pawake_eq {α:Type} (Q:SV → Hp → Option α):callI E look_rplace (exec E look_rplace noLps 400) 8 ([]) ([]) Q = M.pawake (fun (x0:Bool) => Q (SV.bool x0) ([])) := by kernel_rfl
def pawake_sp:List AS := []
noncomputable def pawake_go {α:Type} (ds:List D) (Q:SV → Hp → Option α):Option α :=
  dE ds (M.pawake (fun (x0:Bool) => Q (SV.bool x0) ([])))
theorem pawake_ok {α:Type}:FnOk E.P 8 (fEnt (α := α) pawake_sp pawake_go) :=
  fEnt_ok E (look_rplace_ok) (exec_sound E E_ok (look_rplace_ok) (noLps_ok _) 400) fun ds Q r h => by
    unfold pawake_go at h
    obtain ⟨rfl,hE⟩ := dE_inv h
    exact ⟨[],[],fun vs => by kernel_rfl,(pawake_eq Q).trans hE⟩
theorem plG_some (t:List P3 × List P3 × List P3):V.plG (some t) = true := hid_eq _
theorem plP_some (t:List P3 × List P3 × List P3):V.plP (some t) = t.1 := hid_eq _
theorem plA_some (t:List P3 × List P3 × List P3):V.plA (some t) = t.2.1 := hid_eq _
theorem plE_some (t:List P3 × List P3 × List P3):V.plE (some t) = t.2.2 := hid_eq _
def idM:V.T9 := ((4294967296,0,0),(0,4294967296,0),(0,0,4294967296))
theorem id_rows:V.tRows (4294967296,0,0,0) = some idM := by decide +kernel
theorem wy_nil (f:Bool) (m:V.T9):V.wy f m [] = (true,f,[]) := hid_eq _
theorem aw_plc:V.plc [(0,0,0)] [] [] (4294967296,0,-1) (4294967296,0,0,0) = some ([(4096,0,-1)],[],[]) := by
  unfold V.plc
  rw [hid_eq]
  unfold plcP
  rw [id_rows]
  have hA:atT idM (0,0,0) = some (0,0,0) := by decide +kernel
  have hB:atA idM (4294967296,0,-1) (0,0,0) = some (4294967296,0,-1) := by decide +kernel
  have hQ:atQ idM (4294967296,0,-1) (0,0,0) = (4096,0,-1) := by decide +kernel
  have hr:placeRun (V.q9 (some idM)) (4294967296,0,-1) [(0,0,0)] (V.on (some idM) false) [] = some (false,[(4096,0,-1)]) := by
    show (if Sm (0,0,0) 1048576 then (if Sm (atQ idM (4294967296,0,-1) (0,0,0)) 8388608 then some (V.on (atA idM (4294967296,0,-1) (0,0,0)) (V.on (atT idM (0,0,0)) false),[] ++ [atQ idM (4294967296,0,-1) (0,0,0)]) else none) else none) = _
    rw [hA,hB,hQ,if_pos (by decide),if_pos (by decide)]
    rfl
  rw [hr]
  show plcK (V.q9 (some idM)) [] [] false [(4096,0,-1)] = _
  unfold plcK
  rw [wy_nil,wy_nil]
  rfl
theorem pawake_v {α:Type} (k0:Bool → Option α):M.pawake k0 = k0 true := by
  have h0:chkP 1 5 0 0 0 [] = 0 := by unfold chkP; rw [if_pos rfl,if_pos (by decide)]
  have c0:V.chk 1 5 0 0 0 [] = 0 := (hid_eq _).trans h0
  have cP:V.corP 1 5 0 0 0 [] = [(0,0,0)] := by unfold V.corP; rw [hid_eq,if_pos h0]; rfl
  have cA:V.corA 1 5 0 0 0 [] = [] := by unfold V.corA; rw [hid_eq,if_pos h0]; rfl
  have cE:V.corE 1 5 0 0 0 [] = [] := by unfold V.corE; rw [hid_eq,if_pos h0]; rfl
  have cR:V.corR 1 5 0 0 0 [] = 5 := by unfold V.corR; rw [hid_eq,if_pos h0]
  have cS:V.spn [(4096,0,-1)] 5 = (4091,-5,-6,4101,5,4) := by unfold V.spn; rw [hid_eq]; decide +kernel
  unfold M.pawake
  rw [c0,cP,cA,cE,cR,aw_plc,plG_some,plP_some]
  show (if _ then if true = true then if V.lenB (List.length ([(4096,0,-1)]:List P3)) = true then _ else _ else _ else _) = _
  rw [if_pos ⟨lenB_of (by decide),lenB_of (by decide),lenB_of (by decide)⟩,if_pos rfl,if_pos (lenB_of (by decide)),cS]
  simp [cEq_eq]
noncomputable def pawake_h {α:Type} (ds:List D) (Q:SV → Hp → Option α):Option α :=
  dE ds (Q (.bool true) ([]))
theorem pawake_h_ok {α:Type}:FnOk E.P 8 (fEnt (α := α) pawake_sp pawake_h) :=
  fEnt_ok E (look_rplace_ok) (exec_sound E E_ok (look_rplace_ok) (noLps_ok _) 400) fun ds Q r h => by
    unfold pawake_h at h
    obtain ⟨rfl,hE⟩ := dE_inv h
    exact ⟨[],[],fun vs => by kernel_rfl,(pawake_eq Q).trans ((pawake_v _).trans hE)⟩
noncomputable def look_pawake {α:Type}:LookF α := addFn 8 (fEnt pawake_sp pawake_h) look_rplace
theorem look_pawake_ok {α:Type}:LookOk E.P (look_pawake (α := α)) := addFn_ok pawake_h_ok (look_rplace_ok)
noncomputable def _root_.Go.Proofs.Ytlagndfhibkjpaa.M.pboxes {α:Type} (a0:Int) (a1:Int) (a2:Int) (a3:Int) (a4:Int) (a5:Int) (b0:Int) (b1:Int) (b2:Int) (b3:Int) (b4:Int) (b5:Int) (c0:Int) (c1:Int) (c2:Int) (c3:Int) (c4:Int) (c5:Int) (n:Int) (k0:Bool → Option α):Option α := if (!V.pmeet_r0 a0 a1 a2 a3 a4 a5 b0 b1 b2 b3 b4 b5 == V.rmeet_r0 a0 a1 a2 a3 a4 a5 b0 b1 b2 b3 b4 b5) = true then k0 false else if (!V.pmeet_r0 b0 b1 b2 b3 b4 b5 a0 a1 a2 a3 a4 a5 == V.pmeet_r0 a0 a1 a2 a3 a4 a5 b0 b1 b2 b3 b4 b5) = true then k0 false else if (!(cEq (V.pgrown_r0 a0 a1 a2 a3 a4 a5 n) (V.rgrown_r0 a0 a1 a2 a3 a4 a5 n) && (cEq (V.pgrown_r1 a0 a1 a2 a3 a4 a5 n) (V.rgrown_r1 a0 a1 a2 a3 a4 a5 n) && (cEq (V.pgrown_r2 a0 a1 a2 a3 a4 a5 n) (V.rgrown_r2 a0 a1 a2 a3 a4 a5 n) && true)) && (cEq (V.pgrown_r3 a0 a1 a2 a3 a4 a5 n) (V.rgrown_r3 a0 a1 a2 a3 a4 a5 n) && (cEq (V.pgrown_r4 a0 a1 a2 a3 a4 a5 n) (V.rgrown_r4 a0 a1 a2 a3 a4 a5 n) && (cEq (V.pgrown_r5 a0 a1 a2 a3 a4 a5 n) (V.rgrown_r5 a0 a1 a2 a3 a4 a5 n) && true)) && true))) = true then k0 false else if (!(cEq (V.pjoin_r0 a0 a1 a2 a3 a4 a5 b0 b1 b2 b3 b4 b5) (V.rjoin_r0 a0 a1 a2 a3 a4 a5 b0 b1 b2 b3 b4 b5) && (cEq (V.pjoin_r1 a0 a1 a2 a3 a4 a5 b0 b1 b2 b3 b4 b5) (V.rjoin_r1 a0 a1 a2 a3 a4 a5 b0 b1 b2 b3 b4 b5) && (cEq (V.pjoin_r2 a0 a1 a2 a3 a4 a5 b0 b1 b2 b3 b4 b5) (V.rjoin_r2 a0 a1 a2 a3 a4 a5 b0 b1 b2 b3 b4 b5) && true)) && (cEq (V.pjoin_r3 a0 a1 a2 a3 a4 a5 b0 b1 b2 b3 b4 b5) (V.rjoin_r3 a0 a1 a2 a3 a4 a5 b0 b1 b2 b3 b4 b5) && (cEq (V.pjoin_r4 a0 a1 a2 a3 a4 a5 b0 b1 b2 b3 b4 b5) (V.rjoin_r4 a0 a1 a2 a3 a4 a5 b0 b1 b2 b3 b4 b5) && (cEq (V.pjoin_r5 a0 a1 a2 a3 a4 a5 b0 b1 b2 b3 b4 b5) (V.rjoin_r5 a0 a1 a2 a3 a4 a5 b0 b1 b2 b3 b4 b5) && true)) && true))) = true then k0 false else if (!V.pmeet_r0 c0 c1 c2 c3 c4 c5 a0 a1 a2 a3 a4 a5) = true then k0 true else k0 (V.pmeet_r0 c0 c1 c2 c3 c4 c5 (V.pjoin_r0 a0 a1 a2 a3 a4 a5 b0 b1 b2 b3 b4 b5) (V.pjoin_r1 a0 a1 a2 a3 a4 a5 b0 b1 b2 b3 b4 b5) (V.pjoin_r2 a0 a1 a2 a3 a4 a5 b0 b1 b2 b3 b4 b5) (V.pjoin_r3 a0 a1 a2 a3 a4 a5 b0 b1 b2 b3 b4 b5) (V.pjoin_r4 a0 a1 a2 a3 a4 a5 b0 b1 b2 b3 b4 b5) (V.pjoin_r5 a0 a1 a2 a3 a4 a5 b0 b1 b2 b3 b4 b5))
theorem pboxes_eq {α:Type} (a0:Int) (a1:Int) (a2:Int) (a3:Int) (a4:Int) (a5:Int) (b0:Int) (b1:Int) (b2:Int) (b3:Int) (b4:Int) (b5:Int) (c0:Int) (c1:Int) (c2:Int) (c3:Int) (c4:Int) (c5:Int) (n:Int) (Q:SV → Hp → Option α):callI E look_pawake (exec E look_pawake noLps 400) 4 ([SV.agg [SV.int .i64 a0,SV.int .i64 a1,SV.int .i64 a2,SV.int .i64 a3,SV.int .i64 a4,SV.int .i64 a5],SV.agg [SV.int .i64 b0,SV.int .i64 b1,SV.int .i64 b2,SV.int .i64 b3,SV.int .i64 b4,SV.int .i64 b5],SV.agg [SV.int .i64 c0,SV.int .i64 c1,SV.int .i64 c2,SV.int .i64 c3,SV.int .i64 c4,SV.int .i64 c5],SV.int .i64 n]) ([]) Q = M.pboxes a0 a1 a2 a3 a4 a5 b0 b1 b2 b3 b4 b5 c0 c1 c2 c3 c4 c5 n (fun (x1:Bool) => Q (SV.bool x1) ([])) := by kernel_rfl
def pboxes_sp:List AS := [.val (.agg [.int .i64 0,.int .i64 0,.int .i64 0,.int .i64 0,.int .i64 0,.int .i64 0]),.val (.agg [.int .i64 0,.int .i64 0,.int .i64 0,.int .i64 0,.int .i64 0,.int .i64 0]),.val (.agg [.int .i64 0,.int .i64 0,.int .i64 0,.int .i64 0,.int .i64 0,.int .i64 0]),.val (.int .i64 0)]
noncomputable def pboxes_go {α:Type} (ds:List D) (Q:SV → Hp → Option α):Option α :=
  dI ds fun a0 ds => dI ds fun a1 ds => dI ds fun a2 ds => dI ds fun a3 ds => dI ds fun a4 ds => dI ds fun a5 ds => dI ds fun b0 ds => dI ds fun b1 ds => dI ds fun b2 ds => dI ds fun b3 ds => dI ds fun b4 ds => dI ds fun b5 ds => dI ds fun c0 ds => dI ds fun c1 ds => dI ds fun c2 ds => dI ds fun c3 ds => dI ds fun c4 ds => dI ds fun c5 ds => dI ds fun n ds => dE ds (M.pboxes a0 a1 a2 a3 a4 a5 b0 b1 b2 b3 b4 b5 c0 c1 c2 c3 c4 c5 n (fun (x1:Bool) => Q (SV.bool x1) ([])))
theorem pboxes_ok {α:Type}:FnOk E.P 4 (fEnt (α := α) pboxes_sp pboxes_go) :=
  fEnt_ok E (look_pawake_ok) (exec_sound E E_ok (look_pawake_ok) (noLps_ok _) 400) fun ds Q r h => by
    unfold pboxes_go at h
    obtain ⟨a0,ds,rfl,h1⟩ := dI_inv h
    obtain ⟨a1,ds,rfl,h2⟩ := dI_inv h1
    obtain ⟨a2,ds,rfl,h3⟩ := dI_inv h2
    obtain ⟨a3,ds,rfl,h4⟩ := dI_inv h3
    obtain ⟨a4,ds,rfl,h5⟩ := dI_inv h4
    obtain ⟨a5,ds,rfl,h6⟩ := dI_inv h5
    obtain ⟨b0,ds,rfl,h7⟩ := dI_inv h6
    obtain ⟨b1,ds,rfl,h8⟩ := dI_inv h7
    obtain ⟨b2,ds,rfl,h9⟩ := dI_inv h8
    obtain ⟨b3,ds,rfl,h10⟩ := dI_inv h9
    obtain ⟨b4,ds,rfl,h11⟩ := dI_inv h10
    obtain ⟨b5,ds,rfl,h12⟩ := dI_inv h11
    obtain ⟨c0,ds,rfl,h13⟩ := dI_inv h12
    obtain ⟨c1,ds,rfl,h14⟩ := dI_inv h13
    obtain ⟨c2,ds,rfl,h15⟩ := dI_inv h14
    obtain ⟨c3,ds,rfl,h16⟩ := dI_inv h15
    obtain ⟨c4,ds,rfl,h17⟩ := dI_inv h16
    obtain ⟨c5,ds,rfl,h18⟩ := dI_inv h17
    obtain ⟨n,ds,rfl,h19⟩ := dI_inv h18
    obtain ⟨rfl,hE⟩ := dE_inv h19
    exact ⟨[SV.agg [SV.int .i64 a0,SV.int .i64 a1,SV.int .i64 a2,SV.int .i64 a3,SV.int .i64 a4,SV.int .i64 a5],SV.agg [SV.int .i64 b0,SV.int .i64 b1,SV.int .i64 b2,SV.int .i64 b3,SV.int .i64 b4,SV.int .i64 b5],SV.agg [SV.int .i64 c0,SV.int .i64 c1,SV.int .i64 c2,SV.int .i64 c3,SV.int .i64 c4,SV.int .i64 c5],SV.int .i64 n],[],fun vs => by kernel_rfl,(pboxes_eq a0 a1 a2 a3 a4 a5 b0 b1 b2 b3 b4 b5 c0 c1 c2 c3 c4 c5 n Q).trans hE⟩
theorem pmeet_iff (a0 a1 a2 a3 a4 a5 b0 b1 b2 b3 b4 b5:Int):V.pmeet_r0 a0 a1 a2 a3 a4 a5 b0 b1 b2 b3 b4 b5 = true ↔ a0 ≤ b3 ∧ b0 ≤ a3 ∧ a1 ≤ b4 ∧ b1 ≤ a4 ∧ a2 ≤ b5 ∧ b2 ≤ a5 := by
  unfold V.pmeet_r0
  simp only [cLe_eq,ifb]
  simp only [Bool.and_eq_true,decide_eq_true_eq]
theorem pmeet_comm (a0 a1 a2 a3 a4 a5 b0 b1 b2 b3 b4 b5:Int):V.pmeet_r0 b0 b1 b2 b3 b4 b5 a0 a1 a2 a3 a4 a5 = V.pmeet_r0 a0 a1 a2 a3 a4 a5 b0 b1 b2 b3 b4 b5 := by
  rw [Bool.eq_iff_iff,pmeet_iff,pmeet_iff]; omega
theorem mn_le (a b:Int):(if b < a then b else a) ≤ a ∧ (if b < a then b else a) ≤ b := by split <;> omega
theorem le_mx (a b:Int):a ≤ (if b > a then b else a) ∧ b ≤ (if b > a then b else a) := by split <;> omega
theorem pmeet_join (a0 a1 a2 a3 a4 a5 b0 b1 b2 b3 b4 b5 c0 c1 c2 c3 c4 c5:Int) (h:V.pmeet_r0 c0 c1 c2 c3 c4 c5 a0 a1 a2 a3 a4 a5 = true) :
    V.pmeet_r0 c0 c1 c2 c3 c4 c5 (V.pjoin_r0 a0 a1 a2 a3 a4 a5 b0 b1 b2 b3 b4 b5) (V.pjoin_r1 a0 a1 a2 a3 a4 a5 b0 b1 b2 b3 b4 b5) (V.pjoin_r2 a0 a1 a2 a3 a4 a5 b0 b1 b2 b3 b4 b5) (V.pjoin_r3 a0 a1 a2 a3 a4 a5 b0 b1 b2 b3 b4 b5) (V.pjoin_r4 a0 a1 a2 a3 a4 a5 b0 b1 b2 b3 b4 b5) (V.pjoin_r5 a0 a1 a2 a3 a4 a5 b0 b1 b2 b3 b4 b5) = true := by
  rw [pmeet_iff] at h ⊢
  unfold V.pjoin_r0 V.pjoin_r1 V.pjoin_r2 V.pjoin_r3 V.pjoin_r4 V.pjoin_r5
  have h0 := mn_le a0 b0
  have h1 := mn_le a1 b1
  have h2 := mn_le a2 b2
  have h3 := le_mx a3 b3
  have h4 := le_mx a4 b4
  have h5 := le_mx a5 b5
  refine ⟨?_,?_,?_,?_,?_,?_⟩ <;> omega
theorem pboxes_v {α:Type} (a0 a1 a2 a3 a4 a5 b0 b1 b2 b3 b4 b5 c0 c1 c2 c3 c4 c5 n:Int) (k0:Bool → Option α):M.pboxes a0 a1 a2 a3 a4 a5 b0 b1 b2 b3 b4 b5 c0 c1 c2 c3 c4 c5 n k0 = k0 true := by
  unfold M.pboxes
  have ee:∀ a:Int,cEq a a = true := by intro a; rw [cEq_eq]; simp
  have e0:V.rmeet_r0 a0 a1 a2 a3 a4 a5 b0 b1 b2 b3 b4 b5 = V.pmeet_r0 a0 a1 a2 a3 a4 a5 b0 b1 b2 b3 b4 b5 := rfl
  have g0:V.rgrown_r0 a0 a1 a2 a3 a4 a5 n = V.pgrown_r0 a0 a1 a2 a3 a4 a5 n := rfl
  have g1:V.rgrown_r1 a0 a1 a2 a3 a4 a5 n = V.pgrown_r1 a0 a1 a2 a3 a4 a5 n := rfl
  have g2:V.rgrown_r2 a0 a1 a2 a3 a4 a5 n = V.pgrown_r2 a0 a1 a2 a3 a4 a5 n := rfl
  have g3:V.rgrown_r3 a0 a1 a2 a3 a4 a5 n = V.pgrown_r3 a0 a1 a2 a3 a4 a5 n := rfl
  have g4:V.rgrown_r4 a0 a1 a2 a3 a4 a5 n = V.pgrown_r4 a0 a1 a2 a3 a4 a5 n := rfl
  have g5:V.rgrown_r5 a0 a1 a2 a3 a4 a5 n = V.pgrown_r5 a0 a1 a2 a3 a4 a5 n := rfl
  have j0:V.rjoin_r0 a0 a1 a2 a3 a4 a5 b0 b1 b2 b3 b4 b5 = V.pjoin_r0 a0 a1 a2 a3 a4 a5 b0 b1 b2 b3 b4 b5 := rfl
  have j1:V.rjoin_r1 a0 a1 a2 a3 a4 a5 b0 b1 b2 b3 b4 b5 = V.pjoin_r1 a0 a1 a2 a3 a4 a5 b0 b1 b2 b3 b4 b5 := rfl
  have j2:V.rjoin_r2 a0 a1 a2 a3 a4 a5 b0 b1 b2 b3 b4 b5 = V.pjoin_r2 a0 a1 a2 a3 a4 a5 b0 b1 b2 b3 b4 b5 := rfl
  have j3:V.rjoin_r3 a0 a1 a2 a3 a4 a5 b0 b1 b2 b3 b4 b5 = V.pjoin_r3 a0 a1 a2 a3 a4 a5 b0 b1 b2 b3 b4 b5 := rfl
  have j4:V.rjoin_r4 a0 a1 a2 a3 a4 a5 b0 b1 b2 b3 b4 b5 = V.pjoin_r4 a0 a1 a2 a3 a4 a5 b0 b1 b2 b3 b4 b5 := rfl
  have j5:V.rjoin_r5 a0 a1 a2 a3 a4 a5 b0 b1 b2 b3 b4 b5 = V.pjoin_r5 a0 a1 a2 a3 a4 a5 b0 b1 b2 b3 b4 b5 := rfl
  rw [e0,pmeet_comm a0 a1 a2 a3 a4 a5 b0 b1 b2 b3 b4 b5,g0,g1,g2,g3,g4,g5,j0,j1,j2,j3,j4,j5]
  simp only [ee,Bool.and_true,Bool.not_true,Bool.false_eq_true,if_false,beq_self_eq_true]
  by_cases h:V.pmeet_r0 c0 c1 c2 c3 c4 c5 a0 a1 a2 a3 a4 a5 = true
  · rw [if_neg (by rw [h]; decide),pmeet_join a0 a1 a2 a3 a4 a5 b0 b1 b2 b3 b4 b5 c0 c1 c2 c3 c4 c5 h]
  · rw [if_pos (by simpa using h)]
noncomputable def pboxes_h {α:Type} (ds:List D) (Q:SV → Hp → Option α):Option α :=
  dI ds fun a0 ds => dI ds fun a1 ds => dI ds fun a2 ds => dI ds fun a3 ds => dI ds fun a4 ds => dI ds fun a5 ds => dI ds fun b0 ds => dI ds fun b1 ds => dI ds fun b2 ds => dI ds fun b3 ds => dI ds fun b4 ds => dI ds fun b5 ds => dI ds fun c0 ds => dI ds fun c1 ds => dI ds fun c2 ds => dI ds fun c3 ds => dI ds fun c4 ds => dI ds fun c5 ds => dI ds fun n ds => dE ds (if V.gB ((-9223372036854775808 ≤ a0 ∧ a0 < 9223372036854775808) ∧ (-9223372036854775808 ≤ a1 ∧ a1 < 9223372036854775808) ∧ (-9223372036854775808 ≤ a2 ∧ a2 < 9223372036854775808) ∧ (-9223372036854775808 ≤ a3 ∧ a3 < 9223372036854775808) ∧ (-9223372036854775808 ≤ a4 ∧ a4 < 9223372036854775808) ∧ (-9223372036854775808 ≤ a5 ∧ a5 < 9223372036854775808) ∧ (-9223372036854775808 ≤ b0 ∧ b0 < 9223372036854775808) ∧ (-9223372036854775808 ≤ b1 ∧ b1 < 9223372036854775808) ∧ (-9223372036854775808 ≤ b2 ∧ b2 < 9223372036854775808) ∧ (-9223372036854775808 ≤ b3 ∧ b3 < 9223372036854775808) ∧ (-9223372036854775808 ≤ b4 ∧ b4 < 9223372036854775808) ∧ (-9223372036854775808 ≤ b5 ∧ b5 < 9223372036854775808) ∧ (-9223372036854775808 ≤ c0 ∧ c0 < 9223372036854775808) ∧ (-9223372036854775808 ≤ c1 ∧ c1 < 9223372036854775808) ∧ (-9223372036854775808 ≤ c2 ∧ c2 < 9223372036854775808) ∧ (-9223372036854775808 ≤ c3 ∧ c3 < 9223372036854775808) ∧ (-9223372036854775808 ≤ c4 ∧ c4 < 9223372036854775808) ∧ (-9223372036854775808 ≤ c5 ∧ c5 < 9223372036854775808) ∧ (-9223372036854775808 ≤ n ∧ n < 9223372036854775808)) = true then Q (.bool true) ([]) else none)
theorem pboxes_h_ok {α:Type}:FnOk E.P 4 (fEnt (α := α) pboxes_sp pboxes_h) :=
  fEnt_ok E (look_pawake_ok) (exec_sound E E_ok (look_pawake_ok) (noLps_ok _) 400) fun ds Q r h => by
    unfold pboxes_h at h
    obtain ⟨a0,ds,rfl,h1⟩ := dI_inv h
    obtain ⟨a1,ds,rfl,h2⟩ := dI_inv h1
    obtain ⟨a2,ds,rfl,h3⟩ := dI_inv h2
    obtain ⟨a3,ds,rfl,h4⟩ := dI_inv h3
    obtain ⟨a4,ds,rfl,h5⟩ := dI_inv h4
    obtain ⟨a5,ds,rfl,h6⟩ := dI_inv h5
    obtain ⟨b0,ds,rfl,h7⟩ := dI_inv h6
    obtain ⟨b1,ds,rfl,h8⟩ := dI_inv h7
    obtain ⟨b2,ds,rfl,h9⟩ := dI_inv h8
    obtain ⟨b3,ds,rfl,h10⟩ := dI_inv h9
    obtain ⟨b4,ds,rfl,h11⟩ := dI_inv h10
    obtain ⟨b5,ds,rfl,h12⟩ := dI_inv h11
    obtain ⟨c0,ds,rfl,h13⟩ := dI_inv h12
    obtain ⟨c1,ds,rfl,h14⟩ := dI_inv h13
    obtain ⟨c2,ds,rfl,h15⟩ := dI_inv h14
    obtain ⟨c3,ds,rfl,h16⟩ := dI_inv h15
    obtain ⟨c4,ds,rfl,h17⟩ := dI_inv h16
    obtain ⟨c5,ds,rfl,h18⟩ := dI_inv h17
    obtain ⟨n,ds,rfl,h19⟩ := dI_inv h18
    obtain ⟨rfl,hE⟩ := dE_inv h19
    split at hE
    · rename_i hg
      exact ⟨[SV.agg [SV.int .i64 a0,SV.int .i64 a1,SV.int .i64 a2,SV.int .i64 a3,SV.int .i64 a4,SV.int .i64 a5],SV.agg [SV.int .i64 b0,SV.int .i64 b1,SV.int .i64 b2,SV.int .i64 b3,SV.int .i64 b4,SV.int .i64 b5],SV.agg [SV.int .i64 c0,SV.int .i64 c1,SV.int .i64 c2,SV.int .i64 c3,SV.int .i64 c4,SV.int .i64 c5],SV.int .i64 n],[],fun vs => by kernel_rfl,(pboxes_eq a0 a1 a2 a3 a4 a5 b0 b1 b2 b3 b4 b5 c0 c1 c2 c3 c4 c5 n Q).trans ((pboxes_v a0 a1 a2 a3 a4 a5 b0 b1 b2 b3 b4 b5 c0 c1 c2 c3 c4 c5 n _).trans hE)⟩
    · cases hE
end Go.Proofs.Ytlagndfhibkjpaa.Sx
end

section
/- PosePlaces: its run tells true. -/
namespace Go.Proofs.Ytlagndfhibkjpaa.Sx
open Go
set_option maxRecDepth 20000
set_option linter.unusedVariables false
set_option linter.unusedSimpArgs false
noncomputable def _root_.Go.Proofs.Ytlagndfhibkjpaa.M.lcores {α:Type} (ap:L3) (ax:L3) (ae:L3) (ar:Int) (bp:L3) (bx:L3) (be:L3) (br:Int) (k0:Bool → Option α):Option α := if cEq ar br = true then if V.lenB (List.length ap) = true then if V.ptsEq ap bp = true then if V.lenB (List.length ax) = true then if V.ptsEq ax bx = true then if V.lenB (List.length ae) = true then k0 (V.ptsEq ae be) else none else k0 false else none else k0 false else none else k0 false
theorem lcores_eq {α:Type} (ap:L3) (ax:L3) (ae:L3) (ar:Int) (bp:L3) (bx:L3) (be:L3) (br:Int) (v0:Value) (v1:Value) (v2:Value) (v3:Value) (v4:Value) (v5:Value) (Q:SV → Hp → Option α):callI E look_pawake (exec E look_pawake noLps 400) 25 ([SV.agg [SV.ros v0 kP ap,SV.ros v1 kP ax,SV.ros v2 kP ae,SV.int .i64 ar],
  SV.agg [SV.ros v3 kP bp,SV.ros v4 kP bx,SV.ros v5 kP be,SV.int .i64 br]]) ([]) Q = M.lcores ap ax ae ar bp bx be br (fun (x6:Bool) => Q (SV.bool x6) ([])) := by kernel_rfl
def lcores_sp:List AS := [.st [.ro kP,.ro kP,.ro kP,.leaf (.int .i64 0)],.st [.ro kP,.ro kP,.ro kP,.leaf (.int .i64 0)]]
def _root_.Go.Proofs.Ytlagndfhibkjpaa.V.corEq (ap ax ae:List P3) (ar:Int) (bp bx be:List P3) (br:Int):Bool := decide (ar = br ∧ ap = bp ∧ ax = bx ∧ ae = be)
theorem lcores_v {α:Type} (ap ax ae:List P3) (ar:Int) (bp bx be:List P3) (br:Int) (h1:V.lenB ap.length = true) (h2:V.lenB ax.length = true) (h3:V.lenB ae.length = true) (k0:Bool → Option α) :
    M.lcores ap ax ae ar bp bx be br k0 = k0 (V.corEq ap ax ae ar bp bx be br) := by
  unfold M.lcores V.corEq V.ptsEq
  rw [cEq_eq,if_pos h1,if_pos h2,if_pos h3]
  by_cases c1:ar = br
  · by_cases c2 : ap = bp
    · by_cases c3 : ax = bx
      · simp [c1,c2,c3]
      · simp [c1,c2,c3]
    · simp [c1,c2]
  · simp [c1]
noncomputable def lcores_h {α:Type} (ds:List D) (Q:SV → Hp → Option α):Option α :=
  dL kP ds fun ap ds => dL kP ds fun ax ds => dL kP ds fun ae ds => dI ds fun ar ds => dL kP ds fun bp ds => dL kP ds fun bx ds => dL kP ds fun be ds => dI ds fun br ds => dE ds (if V.lenB ap.length = true ∧ V.lenB ax.length = true ∧ V.lenB ae.length = true then Q (.bool (V.corEq ap ax ae ar bp bx be br)) ([]) else none)
theorem lcores_h_ok {α:Type}:FnOk E.P 25 (fEnt (α := α) lcores_sp lcores_h) :=
  fEntR_ok E (look_pawake_ok) (exec_sound E E_ok (look_pawake_ok) (noLps_ok _) 400) fun ds Q r h => by
    unfold lcores_h at h
    obtain ⟨ap,ds,rfl,h1⟩ := dL_inv h
    obtain ⟨ax,ds,rfl,h2⟩ := dL_inv h1
    obtain ⟨ae,ds,rfl,h3⟩ := dL_inv h2
    obtain ⟨ar,ds,rfl,h4⟩ := dI_inv h3
    obtain ⟨bp,ds,rfl,h5⟩ := dL_inv h4
    obtain ⟨bx,ds,rfl,h6⟩ := dL_inv h5
    obtain ⟨be,ds,rfl,h7⟩ := dL_inv h6
    obtain ⟨br,ds,rfl,h8⟩ := dI_inv h7
    obtain ⟨rfl,hE⟩ := dE_inv h8
    split at hE
    · rename_i hg
      exact ⟨_,_,hE,fun vs => ⟨_,_,by kernel_rfl,(lcores_eq ap ax ae ar bp bx be br ((cellsV (vs.headD undef)).headD undef) ((cellsV (vs.headD undef)).tail.headD undef) ((cellsV (vs.headD undef)).tail.tail.headD undef) ((cellsV (vs.tail.headD undef)).headD undef) ((cellsV (vs.tail.headD undef)).tail.headD undef) ((cellsV (vs.tail.headD undef)).tail.tail.headD undef) _).trans (lcores_v ap ax ae ar bp bx be br hg.1 hg.2.1 hg.2.2 _)⟩⟩
    · cases hE
noncomputable def look_lcores {α:Type}:LookF α := addFn 25 (fEnt lcores_sp lcores_h) look_pawake
theorem look_lcores_ok {α:Type}:LookOk E.P (look_lcores (α := α)) := addFn_ok lcores_h_ok (look_pawake_ok)
noncomputable abbrev pplaces_S1 (y1 y2 y3 y4:Bool) (y5:Int) (y6:Value) (y7:L3) (y8:Value) (y9:L3) (y10:Value) (y11:L3) (y12:Int) (y13 y14 y15:L3) (y16 y17:Nat) (y18:Int) (y19 y20 y21:L3) (y22:Int) (y23 y24 y25:L3):St := St.mk (nn 3 (some (SV.ptr (nat_lit 0) (nat_lit 0)) :: nn 3 (some (SV.bool y1) :: some (SV.sl (nat_lit 1)) :: some (SV.sl (nat_lit 2)) :: some (SV.sl (nat_lit 3)) :: some (SV.ptr (nat_lit 4) (nat_lit 0)) :: some (SV.bool y2) :: none :: some (SV.bool y3) :: some (SV.ptr (nat_lit 8) (nat_lit 0)) :: none :: some (SV.bool y4) :: some (SV.int .i64 y5) :: nn 121 ([])))) [.cells [SV.ros y6 kP y7,SV.ros y8 kP y9,SV.ros y10 kP y11,SV.int .i64 y12] (nat_lit 29),.seq kP y13 (nat_lit 23),.seq kP y14 (nat_lit 23),.seq kP y15 (nat_lit 23),.cells [SV.sl (nat_lit 5),SV.clp (nat_lit 6) kP y16,SV.clp (nat_lit 7) kP y17,SV.int .i64 y18] (nat_lit 29),.seq kP y19 (nat_lit 23),.seq kP y20 (nat_lit 23),.seq kP y21 (nat_lit 23),.cells [SV.sl (nat_lit 9),SV.sl (nat_lit 10),SV.sl (nat_lit 11),SV.int .i64 y22] (nat_lit 29),.seq kP y23 (nat_lit 23),.seq kP y24 (nat_lit 23),.seq kP y25 (nat_lit 23)]
noncomputable abbrev pplaces_S2 (y1 y2 y3 y4:Bool) (y5:Value) (y6:L3) (y7:Value) (y8:L3) (y9:Value) (y10:L3) (y11:Int) (y12 y13 y14:L3) (y15 y16:Nat) (y17:Int) (y18 y19 y20:L3) (y21:Int) (y22 y23 y24:L3):St := St.mk (nn 3 (some (SV.ptr (nat_lit 0) (nat_lit 0)) :: nn 3 (some (SV.bool y1) :: some (SV.sl (nat_lit 1)) :: some (SV.sl (nat_lit 2)) :: some (SV.sl (nat_lit 3)) :: some (SV.ptr (nat_lit 4) (nat_lit 0)) :: some (SV.bool y2) :: none :: some (SV.bool y3) :: some (SV.ptr (nat_lit 8) (nat_lit 0)) :: none :: some (SV.bool y4) :: nn 122 ([])))) [.cells [SV.ros y5 kP y6,SV.ros y7 kP y8,SV.ros y9 kP y10,SV.int .i64 y11] (nat_lit 29),.seq kP y12 (nat_lit 23),.seq kP y13 (nat_lit 23),.seq kP y14 (nat_lit 23),.cells [SV.sl (nat_lit 5),SV.clp (nat_lit 6) kP y15,SV.clp (nat_lit 7) kP y16,SV.int .i64 y17] (nat_lit 29),.seq kP y18 (nat_lit 23),.seq kP y19 (nat_lit 23),.seq kP y20 (nat_lit 23),.cells [SV.sl (nat_lit 9),SV.sl (nat_lit 10),SV.sl (nat_lit 11),SV.int .i64 y21] (nat_lit 29),.seq kP y22 (nat_lit 23),.seq kP y23 (nat_lit 23),.seq kP y24 (nat_lit 23)]
noncomputable abbrev pplaces_S3:St := St.mk (nn 3 (some (SV.ptr (nat_lit 0) (nat_lit 0)) :: nn 3 (some (SV.bool false) :: some (SV.sl (nat_lit 1)) :: some (SV.sl (nat_lit 2)) :: some (SV.sl (nat_lit 3)) :: some (SV.ptr (nat_lit 4) (nat_lit 0)) :: some (SV.bool false) :: none :: some (SV.bool false) :: some (SV.ptr (nat_lit 8) (nat_lit 0)) :: none :: some (SV.bool false) :: some (SV.int .i64 (0:Int)) :: nn 121 ([])))) [.cells [SV.ros undef kP [],SV.ros undef kP [],SV.ros undef kP [],SV.int .i64 (0:Int)] (nat_lit 29),.seq kP [] (nat_lit 23),.seq kP [] (nat_lit 23),.seq kP [] (nat_lit 23),.cells [SV.sl (nat_lit 5),SV.clp (nat_lit 6) kP (0:Nat),SV.clp (nat_lit 7) kP (0:Nat),SV.int .i64 (0:Int)] (nat_lit 29),.seq kP [] (nat_lit 23),.seq kP [] (nat_lit 23),.seq kP [] (nat_lit 23),.cells [SV.sl (nat_lit 9),SV.sl (nat_lit 10),SV.sl (nat_lit 11),SV.int .i64 (0:Int)] (nat_lit 29),.seq kP [] (nat_lit 23),.seq kP [] (nat_lit 23),.seq kP [] (nat_lit 23)]
noncomputable abbrev pplaces_S4 (y1 y2 y3 y4:Bool) (y5:Int) (y6:Value) (y7:L3) (y8:Value) (y9:L3) (y10:Value) (y11:L3) (y12:Int) (y13 y14 y15:L3) (y16 y17:Nat) (y18:Int) (y19 y20 y21:L3) (y22:Int) (y23 y24 y25:L3):St := St.mk (nn 3 (some (SV.ptr (nat_lit 0) (nat_lit 0)) :: nn 3 (some (SV.bool y1) :: some (SV.sl (nat_lit 1)) :: some (SV.sl (nat_lit 2)) :: some (SV.sl (nat_lit 3)) :: some (SV.ptr (nat_lit 4) (nat_lit 0)) :: some (SV.bool y2) :: none :: some (SV.bool y3) :: some (SV.ptr (nat_lit 8) (nat_lit 0)) :: none :: some (SV.bool y4) :: none :: some (SV.int .i64 y5) :: nn 120 ([])))) [.cells [SV.ros y6 kP y7,SV.ros y8 kP y9,SV.ros y10 kP y11,SV.int .i64 y12] (nat_lit 29),.seq kP y13 (nat_lit 23),.seq kP y14 (nat_lit 23),.seq kP y15 (nat_lit 23),.cells [SV.sl (nat_lit 5),SV.clp (nat_lit 6) kP y16,SV.clp (nat_lit 7) kP y17,SV.int .i64 y18] (nat_lit 29),.seq kP y19 (nat_lit 23),.seq kP y20 (nat_lit 23),.seq kP y21 (nat_lit 23),.cells [SV.sl (nat_lit 9),SV.sl (nat_lit 10),SV.sl (nat_lit 11),SV.int .i64 y22] (nat_lit 29),.seq kP y23 (nat_lit 23),.seq kP y24 (nat_lit 23),.seq kP y25 (nat_lit 23)]
noncomputable abbrev pplaces_S5 (y1 y2 y3 y4:Bool) (y5:Value) (y6:L3) (y7:Value) (y8:L3) (y9:Value) (y10:L3) (y11:Int) (y12 y13 y14:L3) (y15 y16:Nat) (y17:Int) (y18 y19 y20:L3):St := St.mk (nn 3 (some (SV.ptr (nat_lit 0) (nat_lit 0)) :: nn 3 (some (SV.bool y1) :: some (SV.sl (nat_lit 1)) :: some (SV.sl (nat_lit 2)) :: some (SV.sl (nat_lit 3)) :: some (SV.ptr (nat_lit 4) (nat_lit 0)) :: some (SV.bool y2) :: none :: some (SV.bool y3) :: none :: none :: some (SV.bool y4) :: nn 122 ([])))) [.cells [SV.ros y5 kP y6,SV.ros y7 kP y8,SV.ros y9 kP y10,SV.int .i64 y11] (nat_lit 29),.seq kP y12 (nat_lit 23),.seq kP y13 (nat_lit 23),.seq kP y14 (nat_lit 23),.cells [SV.sl (nat_lit 5),SV.clp (nat_lit 6) kP y15,SV.clp (nat_lit 7) kP y16,SV.int .i64 y17] (nat_lit 29),.seq kP y18 (nat_lit 23),.seq kP y19 (nat_lit 23),.seq kP y20 (nat_lit 23)]
noncomputable abbrev pplaces_S6:St := St.mk (nn 3 (some (SV.ptr (nat_lit 0) (nat_lit 0)) :: nn 3 (some (SV.bool false) :: some (SV.sl (nat_lit 1)) :: some (SV.sl (nat_lit 2)) :: some (SV.sl (nat_lit 3)) :: some (SV.ptr (nat_lit 4) (nat_lit 0)) :: some (SV.bool false) :: none :: some (SV.bool false) :: some (SV.ptr (nat_lit 8) (nat_lit 0)) :: none :: some (SV.bool false) :: none :: some (SV.int .i64 (0:Int)) :: nn 120 ([])))) [.cells [SV.ros undef kP [],SV.ros undef kP [],SV.ros undef kP [],SV.int .i64 (0:Int)] (nat_lit 29),.seq kP [] (nat_lit 23),.seq kP [] (nat_lit 23),.seq kP [] (nat_lit 23),.cells [SV.sl (nat_lit 5),SV.clp (nat_lit 6) kP (0:Nat),SV.clp (nat_lit 7) kP (0:Nat),SV.int .i64 (0:Int)] (nat_lit 29),.seq kP [] (nat_lit 23),.seq kP [] (nat_lit 23),.seq kP [] (nat_lit 23),.cells [SV.sl (nat_lit 9),SV.sl (nat_lit 10),SV.sl (nat_lit 11),SV.int .i64 (0:Int)] (nat_lit 29),.seq kP [] (nat_lit 23),.seq kP [] (nat_lit 23),.seq kP [] (nat_lit 23)]
noncomputable abbrev pplaces_S7 (y1 y2 y3 y4:Bool) (y5:Int) (y6:Value) (y7:L3) (y8:Value) (y9:L3) (y10:Value) (y11:L3) (y12:Int) (y13 y14 y15:L3) (y16 y17:Nat) (y18:Int) (y19 y20 y21:L3):St := St.mk (nn 3 (some (SV.ptr (nat_lit 0) (nat_lit 0)) :: nn 3 (some (SV.bool y1) :: some (SV.sl (nat_lit 1)) :: some (SV.sl (nat_lit 2)) :: some (SV.sl (nat_lit 3)) :: some (SV.ptr (nat_lit 4) (nat_lit 0)) :: some (SV.bool y2) :: none :: some (SV.bool y3) :: none :: none :: some (SV.bool y4) :: none :: none :: some (SV.int .i64 y5) :: nn 119 ([])))) [.cells [SV.ros y6 kP y7,SV.ros y8 kP y9,SV.ros y10 kP y11,SV.int .i64 y12] (nat_lit 29),.seq kP y13 (nat_lit 23),.seq kP y14 (nat_lit 23),.seq kP y15 (nat_lit 23),.cells [SV.sl (nat_lit 5),SV.clp (nat_lit 6) kP y16,SV.clp (nat_lit 7) kP y17,SV.int .i64 y18] (nat_lit 29),.seq kP y19 (nat_lit 23),.seq kP y20 (nat_lit 23),.seq kP y21 (nat_lit 23)]
noncomputable abbrev pplaces_S8 (y1 y2 y3 y4:Bool) (y5:Value) (y6:L3) (y7:Value) (y8:L3) (y9:Value) (y10:L3) (y11:Int) (y12 y13 y14:L3):St := St.mk (nn 3 (some (SV.ptr (nat_lit 0) (nat_lit 0)) :: nn 3 (some (SV.bool y1) :: some (SV.sl (nat_lit 1)) :: some (SV.sl (nat_lit 2)) :: some (SV.sl (nat_lit 3)) :: none :: some (SV.bool y2) :: none :: some (SV.bool y3) :: none :: none :: some (SV.bool y4) :: nn 122 ([])))) [.cells [SV.ros y5 kP y6,SV.ros y7 kP y8,SV.ros y9 kP y10,SV.int .i64 y11] (nat_lit 29),.seq kP y12 (nat_lit 23),.seq kP y13 (nat_lit 23),.seq kP y14 (nat_lit 23)]
noncomputable abbrev pplaces_S9:St := St.mk (nn 3 (some (SV.ptr (nat_lit 0) (nat_lit 0)) :: nn 3 (some (SV.bool false) :: some (SV.sl (nat_lit 1)) :: some (SV.sl (nat_lit 2)) :: some (SV.sl (nat_lit 3)) :: some (SV.ptr (nat_lit 4) (nat_lit 0)) :: some (SV.bool false) :: none :: some (SV.bool false) :: none :: none :: some (SV.bool false) :: none :: none :: some (SV.int .i64 (0:Int)) :: nn 119 ([])))) [.cells [SV.ros undef kP [],SV.ros undef kP [],SV.ros undef kP [],SV.int .i64 (0:Int)] (nat_lit 29),.seq kP [] (nat_lit 23),.seq kP [] (nat_lit 23),.seq kP [] (nat_lit 23),.cells [SV.sl (nat_lit 5),SV.clp (nat_lit 6) kP (0:Nat),SV.clp (nat_lit 7) kP (0:Nat),SV.int .i64 (0:Int)] (nat_lit 29),.seq kP [] (nat_lit 23),.seq kP [] (nat_lit 23),.seq kP [] (nat_lit 23)]
noncomputable abbrev pplaces_S10 (y1 y2 y3 y4:Bool) (y5:Int) (y6:Value) (y7:L3) (y8:Value) (y9:L3) (y10:Value) (y11:L3) (y12:Int) (y13 y14 y15:L3) (y16:Int) (y17 y18 y19:L3) (y20:Int) (y21 y22 y23:L3):St := St.mk (nn 3 (some (SV.ptr (nat_lit 0) (nat_lit 0)) :: nn 3 (some (SV.bool y1) :: some (SV.sl (nat_lit 1)) :: some (SV.sl (nat_lit 2)) :: some (SV.sl (nat_lit 3)) :: some (SV.ptr (nat_lit 4) (nat_lit 0)) :: some (SV.bool y2) :: none :: some (SV.bool y3) :: some (SV.ptr (nat_lit 8) (nat_lit 0)) :: none :: some (SV.bool y4) :: some (SV.int .i64 y5) :: nn 121 ([])))) [.cells [SV.ros y6 kP y7,SV.ros y8 kP y9,SV.ros y10 kP y11,SV.int .i64 y12] (nat_lit 29),.seq kP y13 (nat_lit 23),.seq kP y14 (nat_lit 23),.seq kP y15 (nat_lit 23),.cells [SV.sl (nat_lit 5),SV.sl (nat_lit 6),SV.sl (nat_lit 7),SV.int .i64 y16] (nat_lit 29),.seq kP y17 (nat_lit 23),.seq kP y18 (nat_lit 23),.seq kP y19 (nat_lit 23),.cells [SV.sl (nat_lit 9),SV.sl (nat_lit 10),SV.sl (nat_lit 11),SV.int .i64 y20] (nat_lit 29),.seq kP y21 (nat_lit 23),.seq kP y22 (nat_lit 23),.seq kP y23 (nat_lit 23)]
noncomputable abbrev pplaces_S11 (y1 y2 y3 y4:Bool) (y5:Value) (y6:L3) (y7:Value) (y8:L3) (y9:Value) (y10:L3) (y11:Int) (y12 y13 y14:L3) (y15:Int) (y16 y17 y18:L3) (y19:Int) (y20 y21 y22:L3):St := St.mk (nn 3 (some (SV.ptr (nat_lit 0) (nat_lit 0)) :: nn 3 (some (SV.bool y1) :: some (SV.sl (nat_lit 1)) :: some (SV.sl (nat_lit 2)) :: some (SV.sl (nat_lit 3)) :: some (SV.ptr (nat_lit 4) (nat_lit 0)) :: some (SV.bool y2) :: none :: some (SV.bool y3) :: some (SV.ptr (nat_lit 8) (nat_lit 0)) :: none :: some (SV.bool y4) :: nn 122 ([])))) [.cells [SV.ros y5 kP y6,SV.ros y7 kP y8,SV.ros y9 kP y10,SV.int .i64 y11] (nat_lit 29),.seq kP y12 (nat_lit 23),.seq kP y13 (nat_lit 23),.seq kP y14 (nat_lit 23),.cells [SV.sl (nat_lit 5),SV.sl (nat_lit 6),SV.sl (nat_lit 7),SV.int .i64 y15] (nat_lit 29),.seq kP y16 (nat_lit 23),.seq kP y17 (nat_lit 23),.seq kP y18 (nat_lit 23),.cells [SV.sl (nat_lit 9),SV.sl (nat_lit 10),SV.sl (nat_lit 11),SV.int .i64 y19] (nat_lit 29),.seq kP y20 (nat_lit 23),.seq kP y21 (nat_lit 23),.seq kP y22 (nat_lit 23)]
noncomputable abbrev pplaces_S12:St := St.mk (nn 3 (some (SV.ptr (nat_lit 0) (nat_lit 0)) :: nn 3 (some (SV.bool false) :: some (SV.sl (nat_lit 1)) :: some (SV.sl (nat_lit 2)) :: some (SV.sl (nat_lit 3)) :: some (SV.ptr (nat_lit 4) (nat_lit 0)) :: some (SV.bool false) :: none :: some (SV.bool false) :: some (SV.ptr (nat_lit 8) (nat_lit 0)) :: none :: some (SV.bool false) :: some (SV.int .i64 (0:Int)) :: nn 121 ([])))) [.cells [SV.ros undef kP [],SV.ros undef kP [],SV.ros undef kP [],SV.int .i64 (0:Int)] (nat_lit 29),.seq kP [] (nat_lit 23),.seq kP [] (nat_lit 23),.seq kP [] (nat_lit 23),.cells [SV.sl (nat_lit 5),SV.sl (nat_lit 6),SV.sl (nat_lit 7),SV.int .i64 (0:Int)] (nat_lit 29),.seq kP [] (nat_lit 23),.seq kP [] (nat_lit 23),.seq kP [] (nat_lit 23),.cells [SV.sl (nat_lit 9),SV.sl (nat_lit 10),SV.sl (nat_lit 11),SV.int .i64 (0:Int)] (nat_lit 29),.seq kP [] (nat_lit 23),.seq kP [] (nat_lit 23),.seq kP [] (nat_lit 23)]
noncomputable abbrev pplaces_S13 (y1 y2 y3 y4:Bool) (y5:Int) (y6:Value) (y7:L3) (y8:Value) (y9:L3) (y10:Value) (y11:L3) (y12:Int) (y13 y14 y15:L3) (y16:Int) (y17 y18 y19:L3) (y20:Int) (y21 y22 y23:L3):St := St.mk (nn 3 (some (SV.ptr (nat_lit 0) (nat_lit 0)) :: nn 3 (some (SV.bool y1) :: some (SV.sl (nat_lit 1)) :: some (SV.sl (nat_lit 2)) :: some (SV.sl (nat_lit 3)) :: some (SV.ptr (nat_lit 4) (nat_lit 0)) :: some (SV.bool y2) :: none :: some (SV.bool y3) :: some (SV.ptr (nat_lit 8) (nat_lit 0)) :: none :: some (SV.bool y4) :: none :: some (SV.int .i64 y5) :: nn 120 ([])))) [.cells [SV.ros y6 kP y7,SV.ros y8 kP y9,SV.ros y10 kP y11,SV.int .i64 y12] (nat_lit 29),.seq kP y13 (nat_lit 23),.seq kP y14 (nat_lit 23),.seq kP y15 (nat_lit 23),.cells [SV.sl (nat_lit 5),SV.sl (nat_lit 6),SV.sl (nat_lit 7),SV.int .i64 y16] (nat_lit 29),.seq kP y17 (nat_lit 23),.seq kP y18 (nat_lit 23),.seq kP y19 (nat_lit 23),.cells [SV.sl (nat_lit 9),SV.sl (nat_lit 10),SV.sl (nat_lit 11),SV.int .i64 y20] (nat_lit 29),.seq kP y21 (nat_lit 23),.seq kP y22 (nat_lit 23),.seq kP y23 (nat_lit 23)]
noncomputable abbrev pplaces_S14 (y1 y2 y3 y4:Bool) (y5:Value) (y6:L3) (y7:Value) (y8:L3) (y9:Value) (y10:L3) (y11:Int) (y12 y13 y14:L3) (y15:Int) (y16 y17 y18:L3):St := St.mk (nn 3 (some (SV.ptr (nat_lit 0) (nat_lit 0)) :: nn 3 (some (SV.bool y1) :: some (SV.sl (nat_lit 1)) :: some (SV.sl (nat_lit 2)) :: some (SV.sl (nat_lit 3)) :: some (SV.ptr (nat_lit 4) (nat_lit 0)) :: some (SV.bool y2) :: none :: some (SV.bool y3) :: none :: none :: some (SV.bool y4) :: nn 122 ([])))) [.cells [SV.ros y5 kP y6,SV.ros y7 kP y8,SV.ros y9 kP y10,SV.int .i64 y11] (nat_lit 29),.seq kP y12 (nat_lit 23),.seq kP y13 (nat_lit 23),.seq kP y14 (nat_lit 23),.cells [SV.sl (nat_lit 5),SV.sl (nat_lit 6),SV.sl (nat_lit 7),SV.int .i64 y15] (nat_lit 29),.seq kP y16 (nat_lit 23),.seq kP y17 (nat_lit 23),.seq kP y18 (nat_lit 23)]
noncomputable abbrev pplaces_S15:St := St.mk (nn 3 (some (SV.ptr (nat_lit 0) (nat_lit 0)) :: nn 3 (some (SV.bool false) :: some (SV.sl (nat_lit 1)) :: some (SV.sl (nat_lit 2)) :: some (SV.sl (nat_lit 3)) :: some (SV.ptr (nat_lit 4) (nat_lit 0)) :: some (SV.bool false) :: none :: some (SV.bool false) :: some (SV.ptr (nat_lit 8) (nat_lit 0)) :: none :: some (SV.bool false) :: none :: some (SV.int .i64 (0:Int)) :: nn 120 ([])))) [.cells [SV.ros undef kP [],SV.ros undef kP [],SV.ros undef kP [],SV.int .i64 (0:Int)] (nat_lit 29),.seq kP [] (nat_lit 23),.seq kP [] (nat_lit 23),.seq kP [] (nat_lit 23),.cells [SV.sl (nat_lit 5),SV.sl (nat_lit 6),SV.sl (nat_lit 7),SV.int .i64 (0:Int)] (nat_lit 29),.seq kP [] (nat_lit 23),.seq kP [] (nat_lit 23),.seq kP [] (nat_lit 23),.cells [SV.sl (nat_lit 9),SV.sl (nat_lit 10),SV.sl (nat_lit 11),SV.int .i64 (0:Int)] (nat_lit 29),.seq kP [] (nat_lit 23),.seq kP [] (nat_lit 23),.seq kP [] (nat_lit 23)]
noncomputable abbrev pplaces_S16 (y1 y2 y3 y4:Bool) (y5:Int) (y6:Value) (y7:L3) (y8:Value) (y9:L3) (y10:Value) (y11:L3) (y12:Int) (y13 y14 y15:L3) (y16:Int) (y17 y18 y19:L3):St := St.mk (nn 3 (some (SV.ptr (nat_lit 0) (nat_lit 0)) :: nn 3 (some (SV.bool y1) :: some (SV.sl (nat_lit 1)) :: some (SV.sl (nat_lit 2)) :: some (SV.sl (nat_lit 3)) :: some (SV.ptr (nat_lit 4) (nat_lit 0)) :: some (SV.bool y2) :: none :: some (SV.bool y3) :: none :: none :: some (SV.bool y4) :: none :: none :: some (SV.int .i64 y5) :: nn 119 ([])))) [.cells [SV.ros y6 kP y7,SV.ros y8 kP y9,SV.ros y10 kP y11,SV.int .i64 y12] (nat_lit 29),.seq kP y13 (nat_lit 23),.seq kP y14 (nat_lit 23),.seq kP y15 (nat_lit 23),.cells [SV.sl (nat_lit 5),SV.sl (nat_lit 6),SV.sl (nat_lit 7),SV.int .i64 y16] (nat_lit 29),.seq kP y17 (nat_lit 23),.seq kP y18 (nat_lit 23),.seq kP y19 (nat_lit 23)]
noncomputable abbrev pplaces_S17:St := St.mk (nn 3 (some (SV.ptr (nat_lit 0) (nat_lit 0)) :: nn 3 (some (SV.bool false) :: some (SV.sl (nat_lit 1)) :: some (SV.sl (nat_lit 2)) :: some (SV.sl (nat_lit 3)) :: some (SV.ptr (nat_lit 4) (nat_lit 0)) :: some (SV.bool false) :: none :: some (SV.bool false) :: none :: none :: some (SV.bool false) :: none :: none :: some (SV.int .i64 (0:Int)) :: nn 119 ([])))) [.cells [SV.ros undef kP [],SV.ros undef kP [],SV.ros undef kP [],SV.int .i64 (0:Int)] (nat_lit 29),.seq kP [] (nat_lit 23),.seq kP [] (nat_lit 23),.seq kP [] (nat_lit 23),.cells [SV.sl (nat_lit 5),SV.sl (nat_lit 6),SV.sl (nat_lit 7),SV.int .i64 (0:Int)] (nat_lit 29),.seq kP [] (nat_lit 23),.seq kP [] (nat_lit 23),.seq kP [] (nat_lit 23)]
abbrev pplaces_P1:List Bool := [false,true,false,true,true,true,true,true,true,true,true,true,true,true,true,true]
abbrev pplaces_P2:List Bool := [false,true,false,true,true,true,true,true,true,true,true,true,true,true,true]
abbrev pplaces_P3:List Bool := [false,true,false,true,true,true,true,true,true,true,true,true,true,true]
noncomputable def _root_.Go.Proofs.Ytlagndfhibkjpaa.M.pplaces_l0_step {α:Type} (kn:Int → L3 → Option α) (k1:L3 → Option α) (x39:Int) (x57:L3):Option α := if cLt x39 (↑(List.length x57):Int) = true then if (0:Int) ≤ x39 ∧ x39 < (↑(List.length x57):Int) then kn (IntKind.wrap .i64 (x39 + (1:Int))) (List.set x57 (Int.toNat x39) ((-9:Int),Prod.snd (List.getD x57 (Int.toNat x39) ((0:Int),(0:Int),(0:Int))))) else none else k1 x57
noncomputable def _root_.Go.Proofs.Ytlagndfhibkjpaa.M.pplaces_l0 {α:Type} (k1:L3 → Option α):Nat → Int → L3 → Option α
  | 0,_,_ => none
  | n + 1,x39,x57 => M.pplaces_l0_step (M.pplaces_l0 k1 n) k1 x39 x57
theorem pplaces_l0_step_eq {α:Type} (x35 x36 x37 x38:Bool) (x39:Int) (x40:Value) (x41:L3) (x42:Value) (x43:L3) (x44:Value) (x45:L3) (x46:Int) (x47 x48 x49:L3) (x50 x51:Nat) (x52:Int) (x53 x54 x55:L3) (x56:Int) (x57 x58 x59:L3) (Q:Ex → St → Option α):(loopStep E (exec E look_lcores noLps 400) 6 pplaces_P3 0 (codeAt E.P 6 pplaces_P3)) (pplaces_S1 x35 x36 x37 x38 x39 x40 x41 x42 x43 x44 x45 x46 x47 x48 x49 x50 x51 x52 x53 x54 x55 x56 x57 x58 x59) Q = M.pplaces_l0_step (fun (x61:Int) (x62:L3) => Q .normal (pplaces_S1 x35 x36 x37 x38 x61 x40 x41 x42 x43 x44 x45 x46 x47 x48 x49 x50 x51 x52 x53 x54 x55 x56 x62 x58 x59)) (fun (x60:L3) => Q (.exit 0) (pplaces_S2 x35 x36 x37 x38 x40 x41 x42 x43 x44 x45 x46 x47 x48 x49 x50 x51 x52 x53 x54 x55 x56 x60 x58 x59)) x39 x57 := by kernel_rfl
theorem pplaces_l0_iter {α:Type} (x35 x36 x37 x38:Bool) (x40:Value) (x41:L3) (x42:Value) (x43:L3) (x44:Value) (x45:L3) (x46:Int) (x47 x48 x49:L3) (x50 x51:Nat) (x52:Int) (x53 x54 x55:L3) (x56:Int) (x58 x59:L3) (Q:Ex → St → Option α):∀ (n:Nat) (x39:Int) (x57:L3),iter (loopStep E (exec E look_lcores noLps 400) 6 pplaces_P3 0 (codeAt E.P 6 pplaces_P3)) n (pplaces_S1 x35 x36 x37 x38 x39 x40 x41 x42 x43 x44 x45 x46 x47 x48 x49 x50 x51 x52 x53 x54 x55 x56 x57 x58 x59) Q = M.pplaces_l0 (fun (x60:L3) => Q (.exit 0) (pplaces_S2 x35 x36 x37 x38 x40 x41 x42 x43 x44 x45 x46 x47 x48 x49 x50 x51 x52 x53 x54 x55 x56 x60 x58 x59)) n x39 x57
  | 0,_,_ => rfl
  | n + 1,x39,x57 => (pplaces_l0_step_eq x35 x36 x37 x38 x39 x40 x41 x42 x43 x44 x45 x46 x47 x48 x49 x50 x51 x52 x53 x54 x55 x56 x57 x58 x59 (iterK (loopStep E (exec E look_lcores noLps 400) 6 pplaces_P3 0 (codeAt E.P 6 pplaces_P3)) n Q)).trans (congrArg (fun kn => M.pplaces_l0_step kn (fun (x60:L3) => Q (.exit 0) (pplaces_S2 x35 x36 x37 x38 x40 x41 x42 x43 x44 x45 x46 x47 x48 x49 x50 x51 x52 x53 x54 x55 x56 x60 x58 x59)) x39 x57) (funext fun x39 => funext fun x57 => pplaces_l0_iter x35 x36 x37 x38 x40 x41 x42 x43 x44 x45 x46 x47 x48 x49 x50 x51 x52 x53 x54 x55 x56 x58 x59 Q n x39 x57))
noncomputable def pplaces_l0_go {α:Type} (ds:List D) (Q:Ex → St → Option α):Option α :=
  dB ds fun x35 ds => dB ds fun x36 ds => dB ds fun x37 ds => dB ds fun x38 ds => dI ds fun x39 ds => dV ds fun x40 ds => dL kP ds fun x41 ds => dV ds fun x42 ds => dL kP ds fun x43 ds => dV ds fun x44 ds => dL kP ds fun x45 ds => dI ds fun x46 ds => dL kP ds fun x47 ds => dL kP ds fun x48 ds => dL kP ds fun x49 ds => dN ds fun x50 ds => dN ds fun x51 ds => dI ds fun x52 ds => dL kP ds fun x53 ds => dL kP ds fun x54 ds => dL kP ds fun x55 ds => dI ds fun x56 ds => dL kP ds fun x57 ds => dL kP ds fun x58 ds => dL kP ds fun x59 ds => dE ds (M.pplaces_l0 (fun (x60:L3) => Q (.exit 0) (pplaces_S2 x35 x36 x37 x38 x40 x41 x42 x43 x44 x45 x46 x47 x48 x49 x50 x51 x52 x53 x54 x55 x56 x60 x58 x59)) (100 + x41.length + x43.length + x45.length + x47.length + x48.length + x49.length + x53.length + x54.length + x55.length + x57.length + x58.length + x59.length) x39 x57)
theorem pplaces_l0_ok {α:Type}:LoopOk E.P 6 pplaces_P3 0 (lEnt (α := α) (pplaces_S3) pplaces_l0_go) :=
  lEnt_ok E (exec_sound E E_ok (look_lcores_ok) (noLps_ok _) 400) fun ds Q r h S hS => by
    unfold pplaces_l0_go at h
    obtain ⟨x35,ds,rfl,h1⟩ := dB_inv h
    obtain ⟨x36,ds,rfl,h2⟩ := dB_inv h1
    obtain ⟨x37,ds,rfl,h3⟩ := dB_inv h2
    obtain ⟨x38,ds,rfl,h4⟩ := dB_inv h3
    obtain ⟨x39,ds,rfl,h5⟩ := dI_inv h4
    obtain ⟨x40,ds,rfl,h6⟩ := dV_inv h5
    obtain ⟨x41,ds,rfl,h7⟩ := dL_inv h6
    obtain ⟨x42,ds,rfl,h8⟩ := dV_inv h7
    obtain ⟨x43,ds,rfl,h9⟩ := dL_inv h8
    obtain ⟨x44,ds,rfl,h10⟩ := dV_inv h9
    obtain ⟨x45,ds,rfl,h11⟩ := dL_inv h10
    obtain ⟨x46,ds,rfl,h12⟩ := dI_inv h11
    obtain ⟨x47,ds,rfl,h13⟩ := dL_inv h12
    obtain ⟨x48,ds,rfl,h14⟩ := dL_inv h13
    obtain ⟨x49,ds,rfl,h15⟩ := dL_inv h14
    obtain ⟨x50,ds,rfl,h16⟩ := dN_inv h15
    obtain ⟨x51,ds,rfl,h17⟩ := dN_inv h16
    obtain ⟨x52,ds,rfl,h18⟩ := dI_inv h17
    obtain ⟨x53,ds,rfl,h19⟩ := dL_inv h18
    obtain ⟨x54,ds,rfl,h20⟩ := dL_inv h19
    obtain ⟨x55,ds,rfl,h21⟩ := dL_inv h20
    obtain ⟨x56,ds,rfl,h22⟩ := dI_inv h21
    obtain ⟨x57,ds,rfl,h23⟩ := dL_inv h22
    obtain ⟨x58,ds,rfl,h24⟩ := dL_inv h23
    obtain ⟨x59,ds,rfl,h25⟩ := dL_inv h24
    obtain ⟨rfl,hE⟩ := dE_inv h25
    have e:fillS (pplaces_S3) [.b x35,.b x36,.b x37,.b x38,.i x39,.v x40,.l kP x41,.v x42,.l kP x43,.v x44,.l kP x45,.i x46,.l kP x47,.l kP x48,.l kP x49,.n x50,.n x51,.i x52,.l kP x53,.l kP x54,.l kP x55,.i x56,.l kP x57,.l kP x58,.l kP x59] = some (pplaces_S1 x35 x36 x37 x38 x39 x40 x41 x42 x43 x44 x45 x46 x47 x48 x49 x50 x51 x52 x53 x54 x55 x56 x57 x58 x59) := by kernel_rfl
    rw [e] at hS
    cases hS
    exact ⟨_,(pplaces_l0_iter x35 x36 x37 x38 x40 x41 x42 x43 x44 x45 x46 x47 x48 x49 x50 x51 x52 x53 x54 x55 x56 x58 x59 Q _ x39 x57).trans hE⟩
noncomputable def pplaces_l0_lps {α:Type}:LookL α := addLp 6 pplaces_P3 0 (lEnt (pplaces_S3) pplaces_l0_go) noLps
theorem pplaces_l0_lps_ok {α:Type}:LoopsOk E.P (pplaces_l0_lps (α := α)) := addLp_ok pplaces_l0_ok (noLps_ok _)

noncomputable def _root_.Go.Proofs.Ytlagndfhibkjpaa.M.pplaces_l1_step {α:Type} (kn:Int → L3 → Option α) (k1:Option α) (x96:Int) (x115:L3):Option α := if cLt x96 (↑(List.length x115):Int) = true then if (0:Int) ≤ x96 ∧ x96 < (↑(List.length x115):Int) then kn (IntKind.wrap .i64 (x96 + (1:Int))) (List.set x115 (Int.toNat x96) ((-9:Int),Prod.snd (List.getD x115 (Int.toNat x96) ((0:Int),(0:Int),(0:Int))))) else none else k1
noncomputable def _root_.Go.Proofs.Ytlagndfhibkjpaa.M.pplaces_l1 {α:Type} (k1:Option α):Nat → Int → L3 → Option α
  | 0,_,_ => none
  | n + 1,x96,x115 => M.pplaces_l1_step (M.pplaces_l1 k1 n) k1 x96 x115
theorem pplaces_l1_step_eq {α:Type} (x92 x93 x94 x95:Bool) (x96:Int) (x97:Value) (x98:L3) (x99:Value) (x100:L3) (x101:Value) (x102:L3) (x103:Int) (x104 x105 x106:L3) (x107 x108:Nat) (x109:Int) (x110 x111 x112:L3) (x113:Int) (x114 x115 x116:L3) (Q:Ex → St → Option α):(loopStep E (exec E look_lcores pplaces_l0_lps 400) 6 pplaces_P2 0 (codeAt E.P 6 pplaces_P2)) (pplaces_S4 x92 x93 x94 x95 x96 x97 x98 x99 x100 x101 x102 x103 x104 x105 x106 x107 x108 x109 x110 x111 x112 x113 x114 x115 x116) Q = M.pplaces_l1_step (fun (x117:Int) (x118:L3) => Q .normal (pplaces_S4 x92 x93 x94 x95 x117 x97 x98 x99 x100 x101 x102 x103 x104 x105 x106 x107 x108 x109 x110 x111 x112 x113 x114 x118 x116)) (Q (.exit 2) (pplaces_S5 x92 x93 x94 x95 x97 x98 x99 x100 x101 x102 x103 x104 x105 x106 x107 x108 x109 x110 x111 x112)) x96 x115 := by kernel_rfl
theorem pplaces_l1_iter {α:Type} (x92 x93 x94 x95:Bool) (x97:Value) (x98:L3) (x99:Value) (x100:L3) (x101:Value) (x102:L3) (x103:Int) (x104 x105 x106:L3) (x107 x108:Nat) (x109:Int) (x110 x111 x112:L3) (x113:Int) (x114 x116:L3) (Q:Ex → St → Option α):∀ (n:Nat) (x96:Int) (x115:L3),iter (loopStep E (exec E look_lcores pplaces_l0_lps 400) 6 pplaces_P2 0 (codeAt E.P 6 pplaces_P2)) n (pplaces_S4 x92 x93 x94 x95 x96 x97 x98 x99 x100 x101 x102 x103 x104 x105 x106 x107 x108 x109 x110 x111 x112 x113 x114 x115 x116) Q = M.pplaces_l1 (Q (.exit 2) (pplaces_S5 x92 x93 x94 x95 x97 x98 x99 x100 x101 x102 x103 x104 x105 x106 x107 x108 x109 x110 x111 x112)) n x96 x115
  | 0,_,_ => rfl
  | n + 1,x96,x115 => (pplaces_l1_step_eq x92 x93 x94 x95 x96 x97 x98 x99 x100 x101 x102 x103 x104 x105 x106 x107 x108 x109 x110 x111 x112 x113 x114 x115 x116 (iterK (loopStep E (exec E look_lcores pplaces_l0_lps 400) 6 pplaces_P2 0 (codeAt E.P 6 pplaces_P2)) n Q)).trans (congrArg (fun kn => M.pplaces_l1_step kn (Q (.exit 2) (pplaces_S5 x92 x93 x94 x95 x97 x98 x99 x100 x101 x102 x103 x104 x105 x106 x107 x108 x109 x110 x111 x112)) x96 x115) (funext fun x96 => funext fun x115 => pplaces_l1_iter x92 x93 x94 x95 x97 x98 x99 x100 x101 x102 x103 x104 x105 x106 x107 x108 x109 x110 x111 x112 x113 x114 x116 Q n x96 x115))
noncomputable def pplaces_l1_go {α:Type} (ds:List D) (Q:Ex → St → Option α):Option α :=
  dB ds fun x92 ds => dB ds fun x93 ds => dB ds fun x94 ds => dB ds fun x95 ds => dI ds fun x96 ds => dV ds fun x97 ds => dL kP ds fun x98 ds => dV ds fun x99 ds => dL kP ds fun x100 ds => dV ds fun x101 ds => dL kP ds fun x102 ds => dI ds fun x103 ds => dL kP ds fun x104 ds => dL kP ds fun x105 ds => dL kP ds fun x106 ds => dN ds fun x107 ds => dN ds fun x108 ds => dI ds fun x109 ds => dL kP ds fun x110 ds => dL kP ds fun x111 ds => dL kP ds fun x112 ds => dI ds fun x113 ds => dL kP ds fun x114 ds => dL kP ds fun x115 ds => dL kP ds fun x116 ds => dE ds (M.pplaces_l1 (Q (.exit 2) (pplaces_S5 x92 x93 x94 x95 x97 x98 x99 x100 x101 x102 x103 x104 x105 x106 x107 x108 x109 x110 x111 x112)) (100 + x98.length + x100.length + x102.length + x104.length + x105.length + x106.length + x110.length + x111.length + x112.length + x114.length + x115.length + x116.length) x96 x115)
theorem pplaces_l1_ok {α:Type}:LoopOk E.P 6 pplaces_P2 0 (lEnt (α := α) (pplaces_S6) pplaces_l1_go) :=
  lEnt_ok E (exec_sound E E_ok (look_lcores_ok) (pplaces_l0_lps_ok) 400) fun ds Q r h S hS => by
    unfold pplaces_l1_go at h
    obtain ⟨x92,ds,rfl,h1⟩ := dB_inv h
    obtain ⟨x93,ds,rfl,h2⟩ := dB_inv h1
    obtain ⟨x94,ds,rfl,h3⟩ := dB_inv h2
    obtain ⟨x95,ds,rfl,h4⟩ := dB_inv h3
    obtain ⟨x96,ds,rfl,h5⟩ := dI_inv h4
    obtain ⟨x97,ds,rfl,h6⟩ := dV_inv h5
    obtain ⟨x98,ds,rfl,h7⟩ := dL_inv h6
    obtain ⟨x99,ds,rfl,h8⟩ := dV_inv h7
    obtain ⟨x100,ds,rfl,h9⟩ := dL_inv h8
    obtain ⟨x101,ds,rfl,h10⟩ := dV_inv h9
    obtain ⟨x102,ds,rfl,h11⟩ := dL_inv h10
    obtain ⟨x103,ds,rfl,h12⟩ := dI_inv h11
    obtain ⟨x104,ds,rfl,h13⟩ := dL_inv h12
    obtain ⟨x105,ds,rfl,h14⟩ := dL_inv h13
    obtain ⟨x106,ds,rfl,h15⟩ := dL_inv h14
    obtain ⟨x107,ds,rfl,h16⟩ := dN_inv h15
    obtain ⟨x108,ds,rfl,h17⟩ := dN_inv h16
    obtain ⟨x109,ds,rfl,h18⟩ := dI_inv h17
    obtain ⟨x110,ds,rfl,h19⟩ := dL_inv h18
    obtain ⟨x111,ds,rfl,h20⟩ := dL_inv h19
    obtain ⟨x112,ds,rfl,h21⟩ := dL_inv h20
    obtain ⟨x113,ds,rfl,h22⟩ := dI_inv h21
    obtain ⟨x114,ds,rfl,h23⟩ := dL_inv h22
    obtain ⟨x115,ds,rfl,h24⟩ := dL_inv h23
    obtain ⟨x116,ds,rfl,h25⟩ := dL_inv h24
    obtain ⟨rfl,hE⟩ := dE_inv h25
    have e:fillS (pplaces_S6) [.b x92,.b x93,.b x94,.b x95,.i x96,.v x97,.l kP x98,.v x99,.l kP x100,.v x101,.l kP x102,.i x103,.l kP x104,.l kP x105,.l kP x106,.n x107,.n x108,.i x109,.l kP x110,.l kP x111,.l kP x112,.i x113,.l kP x114,.l kP x115,.l kP x116] = some (pplaces_S4 x92 x93 x94 x95 x96 x97 x98 x99 x100 x101 x102 x103 x104 x105 x106 x107 x108 x109 x110 x111 x112 x113 x114 x115 x116) := by kernel_rfl
    rw [e] at hS
    cases hS
    exact ⟨_,(pplaces_l1_iter x92 x93 x94 x95 x97 x98 x99 x100 x101 x102 x103 x104 x105 x106 x107 x108 x109 x110 x111 x112 x113 x114 x116 Q _ x96 x115).trans hE⟩
noncomputable def pplaces_l1_lps {α:Type}:LookL α := addLp 6 pplaces_P2 0 (lEnt (pplaces_S6) pplaces_l1_go) pplaces_l0_lps
theorem pplaces_l1_lps_ok {α:Type}:LoopsOk E.P (pplaces_l1_lps (α := α)) := addLp_ok pplaces_l1_ok (pplaces_l0_lps_ok)

noncomputable def _root_.Go.Proofs.Ytlagndfhibkjpaa.M.pplaces_l2_step {α:Type} (x159:Nat) (kn:Int → L3 → Option α) (k1:Option α) (x148:Int) (x163:L3):Option α := if cLt x148 (↑x159:Int) = true then if (0:Int) ≤ x148 ∧ x148 < (↑x159:Int) then kn (IntKind.wrap .i64 (x148 + (1:Int))) (List.set x163 (Int.toNat x148) ((-9:Int),Prod.snd (List.getD x163 (Int.toNat x148) ((0:Int),(0:Int),(0:Int))))) else none else k1
noncomputable def _root_.Go.Proofs.Ytlagndfhibkjpaa.M.pplaces_l2 {α:Type} (x159:Nat) (k1:Option α):Nat → Int → L3 → Option α
  | 0,_,_ => none
  | n + 1,x148,x163 => M.pplaces_l2_step x159 (M.pplaces_l2 x159 k1 n) k1 x148 x163
theorem pplaces_l2_step_eq {α:Type} (x144 x145 x146 x147:Bool) (x148:Int) (x149:Value) (x150:L3) (x151:Value) (x152:L3) (x153:Value) (x154:L3) (x155:Int) (x156 x157 x158:L3) (x159 x160:Nat) (x161:Int) (x162 x163 x164:L3) (Q:Ex → St → Option α):(loopStep E (exec E look_lcores pplaces_l1_lps 400) 6 pplaces_P1 0 (codeAt E.P 6 pplaces_P1)) (pplaces_S7 x144 x145 x146 x147 x148 x149 x150 x151 x152 x153 x154 x155 x156 x157 x158 x159 x160 x161 x162 x163 x164) Q = M.pplaces_l2_step x159 (fun (x165:Int) (x166:L3) => Q .normal (pplaces_S7 x144 x145 x146 x147 x165 x149 x150 x151 x152 x153 x154 x155 x156 x157 x158 x159 x160 x161 x162 x166 x164)) (Q (.exit 4) (pplaces_S8 x144 x145 x146 x147 x149 x150 x151 x152 x153 x154 x155 x156 x157 x158)) x148 x163 := by kernel_rfl
theorem pplaces_l2_iter {α:Type} (x144 x145 x146 x147:Bool) (x149:Value) (x150:L3) (x151:Value) (x152:L3) (x153:Value) (x154:L3) (x155:Int) (x156 x157 x158:L3) (x159 x160:Nat) (x161:Int) (x162 x164:L3) (Q:Ex → St → Option α):∀ (n:Nat) (x148:Int) (x163:L3),iter (loopStep E (exec E look_lcores pplaces_l1_lps 400) 6 pplaces_P1 0 (codeAt E.P 6 pplaces_P1)) n (pplaces_S7 x144 x145 x146 x147 x148 x149 x150 x151 x152 x153 x154 x155 x156 x157 x158 x159 x160 x161 x162 x163 x164) Q = M.pplaces_l2 x159 (Q (.exit 4) (pplaces_S8 x144 x145 x146 x147 x149 x150 x151 x152 x153 x154 x155 x156 x157 x158)) n x148 x163
  | 0,_,_ => rfl
  | n + 1,x148,x163 => (pplaces_l2_step_eq x144 x145 x146 x147 x148 x149 x150 x151 x152 x153 x154 x155 x156 x157 x158 x159 x160 x161 x162 x163 x164 (iterK (loopStep E (exec E look_lcores pplaces_l1_lps 400) 6 pplaces_P1 0 (codeAt E.P 6 pplaces_P1)) n Q)).trans (congrArg (fun kn => M.pplaces_l2_step x159 kn (Q (.exit 4) (pplaces_S8 x144 x145 x146 x147 x149 x150 x151 x152 x153 x154 x155 x156 x157 x158)) x148 x163) (funext fun x148 => funext fun x163 => pplaces_l2_iter x144 x145 x146 x147 x149 x150 x151 x152 x153 x154 x155 x156 x157 x158 x159 x160 x161 x162 x164 Q n x148 x163))
noncomputable def pplaces_l2_go {α:Type} (ds:List D) (Q:Ex → St → Option α):Option α :=
  dB ds fun x144 ds => dB ds fun x145 ds => dB ds fun x146 ds => dB ds fun x147 ds => dI ds fun x148 ds => dV ds fun x149 ds => dL kP ds fun x150 ds => dV ds fun x151 ds => dL kP ds fun x152 ds => dV ds fun x153 ds => dL kP ds fun x154 ds => dI ds fun x155 ds => dL kP ds fun x156 ds => dL kP ds fun x157 ds => dL kP ds fun x158 ds => dN ds fun x159 ds => dN ds fun x160 ds => dI ds fun x161 ds => dL kP ds fun x162 ds => dL kP ds fun x163 ds => dL kP ds fun x164 ds => dE ds (M.pplaces_l2 x159 (Q (.exit 4) (pplaces_S8 x144 x145 x146 x147 x149 x150 x151 x152 x153 x154 x155 x156 x157 x158)) (100 + x150.length + x152.length + x154.length + x156.length + x157.length + x158.length + x162.length + x163.length + x164.length) x148 x163)
theorem pplaces_l2_ok {α:Type}:LoopOk E.P 6 pplaces_P1 0 (lEnt (α := α) (pplaces_S9) pplaces_l2_go) :=
  lEnt_ok E (exec_sound E E_ok (look_lcores_ok) (pplaces_l1_lps_ok) 400) fun ds Q r h S hS => by
    unfold pplaces_l2_go at h
    obtain ⟨x144,ds,rfl,h1⟩ := dB_inv h
    obtain ⟨x145,ds,rfl,h2⟩ := dB_inv h1
    obtain ⟨x146,ds,rfl,h3⟩ := dB_inv h2
    obtain ⟨x147,ds,rfl,h4⟩ := dB_inv h3
    obtain ⟨x148,ds,rfl,h5⟩ := dI_inv h4
    obtain ⟨x149,ds,rfl,h6⟩ := dV_inv h5
    obtain ⟨x150,ds,rfl,h7⟩ := dL_inv h6
    obtain ⟨x151,ds,rfl,h8⟩ := dV_inv h7
    obtain ⟨x152,ds,rfl,h9⟩ := dL_inv h8
    obtain ⟨x153,ds,rfl,h10⟩ := dV_inv h9
    obtain ⟨x154,ds,rfl,h11⟩ := dL_inv h10
    obtain ⟨x155,ds,rfl,h12⟩ := dI_inv h11
    obtain ⟨x156,ds,rfl,h13⟩ := dL_inv h12
    obtain ⟨x157,ds,rfl,h14⟩ := dL_inv h13
    obtain ⟨x158,ds,rfl,h15⟩ := dL_inv h14
    obtain ⟨x159,ds,rfl,h16⟩ := dN_inv h15
    obtain ⟨x160,ds,rfl,h17⟩ := dN_inv h16
    obtain ⟨x161,ds,rfl,h18⟩ := dI_inv h17
    obtain ⟨x162,ds,rfl,h19⟩ := dL_inv h18
    obtain ⟨x163,ds,rfl,h20⟩ := dL_inv h19
    obtain ⟨x164,ds,rfl,h21⟩ := dL_inv h20
    obtain ⟨rfl,hE⟩ := dE_inv h21
    have e:fillS (pplaces_S9) [.b x144,.b x145,.b x146,.b x147,.i x148,.v x149,.l kP x150,.v x151,.l kP x152,.v x153,.l kP x154,.i x155,.l kP x156,.l kP x157,.l kP x158,.n x159,.n x160,.i x161,.l kP x162,.l kP x163,.l kP x164] = some (pplaces_S7 x144 x145 x146 x147 x148 x149 x150 x151 x152 x153 x154 x155 x156 x157 x158 x159 x160 x161 x162 x163 x164) := by kernel_rfl
    rw [e] at hS
    cases hS
    exact ⟨_,(pplaces_l2_iter x144 x145 x146 x147 x149 x150 x151 x152 x153 x154 x155 x156 x157 x158 x159 x160 x161 x162 x164 Q _ x148 x163).trans hE⟩
noncomputable def pplaces_l2_lps {α:Type}:LookL α := addLp 6 pplaces_P1 0 (lEnt (pplaces_S9) pplaces_l2_go) pplaces_l1_lps
theorem pplaces_l2_lps_ok {α:Type}:LoopsOk E.P (pplaces_l2_lps (α := α)) := addLp_ok pplaces_l2_ok (pplaces_l1_lps_ok)

noncomputable def _root_.Go.Proofs.Ytlagndfhibkjpaa.M.pplaces_l3_step {α:Type} (kn:Int → L3 → Option α) (k1:L3 → Option α) (x199:Int) (x215:L3):Option α := if cLt x199 (↑(List.length x215):Int) = true then if (0:Int) ≤ x199 ∧ x199 < (↑(List.length x215):Int) then kn (IntKind.wrap .i64 (x199 + (1:Int))) (List.set x215 (Int.toNat x199) ((-9:Int),Prod.snd (List.getD x215 (Int.toNat x199) ((0:Int),(0:Int),(0:Int))))) else none else k1 x215
noncomputable def _root_.Go.Proofs.Ytlagndfhibkjpaa.M.pplaces_l3 {α:Type} (k1:L3 → Option α):Nat → Int → L3 → Option α
  | 0,_,_ => none
  | n + 1,x199,x215 => M.pplaces_l3_step (M.pplaces_l3 k1 n) k1 x199 x215
theorem pplaces_l3_step_eq {α:Type} (x195 x196 x197 x198:Bool) (x199:Int) (x200:Value) (x201:L3) (x202:Value) (x203:L3) (x204:Value) (x205:L3) (x206:Int) (x207 x208 x209:L3) (x210:Int) (x211 x212 x213:L3) (x214:Int) (x215 x216 x217:L3) (Q:Ex → St → Option α):(loopStep E (exec E look_lcores pplaces_l2_lps 400) 6 pplaces_P3 0 (codeAt E.P 6 pplaces_P3)) (pplaces_S10 x195 x196 x197 x198 x199 x200 x201 x202 x203 x204 x205 x206 x207 x208 x209 x210 x211 x212 x213 x214 x215 x216 x217) Q = M.pplaces_l3_step (fun (x219:Int) (x220:L3) => Q .normal (pplaces_S10 x195 x196 x197 x198 x219 x200 x201 x202 x203 x204 x205 x206 x207 x208 x209 x210 x211 x212 x213 x214 x220 x216 x217)) (fun (x218:L3) => Q (.exit 0) (pplaces_S11 x195 x196 x197 x198 x200 x201 x202 x203 x204 x205 x206 x207 x208 x209 x210 x211 x212 x213 x214 x218 x216 x217)) x199 x215 := by kernel_rfl
theorem pplaces_l3_iter {α:Type} (x195 x196 x197 x198:Bool) (x200:Value) (x201:L3) (x202:Value) (x203:L3) (x204:Value) (x205:L3) (x206:Int) (x207 x208 x209:L3) (x210:Int) (x211 x212 x213:L3) (x214:Int) (x216 x217:L3) (Q:Ex → St → Option α):∀ (n:Nat) (x199:Int) (x215:L3),iter (loopStep E (exec E look_lcores pplaces_l2_lps 400) 6 pplaces_P3 0 (codeAt E.P 6 pplaces_P3)) n (pplaces_S10 x195 x196 x197 x198 x199 x200 x201 x202 x203 x204 x205 x206 x207 x208 x209 x210 x211 x212 x213 x214 x215 x216 x217) Q = M.pplaces_l3 (fun (x218:L3) => Q (.exit 0) (pplaces_S11 x195 x196 x197 x198 x200 x201 x202 x203 x204 x205 x206 x207 x208 x209 x210 x211 x212 x213 x214 x218 x216 x217)) n x199 x215
  | 0,_,_ => rfl
  | n + 1,x199,x215 => (pplaces_l3_step_eq x195 x196 x197 x198 x199 x200 x201 x202 x203 x204 x205 x206 x207 x208 x209 x210 x211 x212 x213 x214 x215 x216 x217 (iterK (loopStep E (exec E look_lcores pplaces_l2_lps 400) 6 pplaces_P3 0 (codeAt E.P 6 pplaces_P3)) n Q)).trans (congrArg (fun kn => M.pplaces_l3_step kn (fun (x218:L3) => Q (.exit 0) (pplaces_S11 x195 x196 x197 x198 x200 x201 x202 x203 x204 x205 x206 x207 x208 x209 x210 x211 x212 x213 x214 x218 x216 x217)) x199 x215) (funext fun x199 => funext fun x215 => pplaces_l3_iter x195 x196 x197 x198 x200 x201 x202 x203 x204 x205 x206 x207 x208 x209 x210 x211 x212 x213 x214 x216 x217 Q n x199 x215))
noncomputable def pplaces_l3_go {α:Type} (ds:List D) (Q:Ex → St → Option α):Option α :=
  dB ds fun x195 ds => dB ds fun x196 ds => dB ds fun x197 ds => dB ds fun x198 ds => dI ds fun x199 ds => dV ds fun x200 ds => dL kP ds fun x201 ds => dV ds fun x202 ds => dL kP ds fun x203 ds => dV ds fun x204 ds => dL kP ds fun x205 ds => dI ds fun x206 ds => dL kP ds fun x207 ds => dL kP ds fun x208 ds => dL kP ds fun x209 ds => dI ds fun x210 ds => dL kP ds fun x211 ds => dL kP ds fun x212 ds => dL kP ds fun x213 ds => dI ds fun x214 ds => dL kP ds fun x215 ds => dL kP ds fun x216 ds => dL kP ds fun x217 ds => dE ds (M.pplaces_l3 (fun (x218:L3) => Q (.exit 0) (pplaces_S11 x195 x196 x197 x198 x200 x201 x202 x203 x204 x205 x206 x207 x208 x209 x210 x211 x212 x213 x214 x218 x216 x217)) (100 + x201.length + x203.length + x205.length + x207.length + x208.length + x209.length + x211.length + x212.length + x213.length + x215.length + x216.length + x217.length) x199 x215)
theorem pplaces_l3_ok {α:Type}:LoopOk E.P 6 pplaces_P3 0 (lEnt (α := α) (pplaces_S12) pplaces_l3_go) :=
  lEnt_ok E (exec_sound E E_ok (look_lcores_ok) (pplaces_l2_lps_ok) 400) fun ds Q r h S hS => by
    unfold pplaces_l3_go at h
    obtain ⟨x195,ds,rfl,h1⟩ := dB_inv h
    obtain ⟨x196,ds,rfl,h2⟩ := dB_inv h1
    obtain ⟨x197,ds,rfl,h3⟩ := dB_inv h2
    obtain ⟨x198,ds,rfl,h4⟩ := dB_inv h3
    obtain ⟨x199,ds,rfl,h5⟩ := dI_inv h4
    obtain ⟨x200,ds,rfl,h6⟩ := dV_inv h5
    obtain ⟨x201,ds,rfl,h7⟩ := dL_inv h6
    obtain ⟨x202,ds,rfl,h8⟩ := dV_inv h7
    obtain ⟨x203,ds,rfl,h9⟩ := dL_inv h8
    obtain ⟨x204,ds,rfl,h10⟩ := dV_inv h9
    obtain ⟨x205,ds,rfl,h11⟩ := dL_inv h10
    obtain ⟨x206,ds,rfl,h12⟩ := dI_inv h11
    obtain ⟨x207,ds,rfl,h13⟩ := dL_inv h12
    obtain ⟨x208,ds,rfl,h14⟩ := dL_inv h13
    obtain ⟨x209,ds,rfl,h15⟩ := dL_inv h14
    obtain ⟨x210,ds,rfl,h16⟩ := dI_inv h15
    obtain ⟨x211,ds,rfl,h17⟩ := dL_inv h16
    obtain ⟨x212,ds,rfl,h18⟩ := dL_inv h17
    obtain ⟨x213,ds,rfl,h19⟩ := dL_inv h18
    obtain ⟨x214,ds,rfl,h20⟩ := dI_inv h19
    obtain ⟨x215,ds,rfl,h21⟩ := dL_inv h20
    obtain ⟨x216,ds,rfl,h22⟩ := dL_inv h21
    obtain ⟨x217,ds,rfl,h23⟩ := dL_inv h22
    obtain ⟨rfl,hE⟩ := dE_inv h23
    have e:fillS (pplaces_S12) [.b x195,.b x196,.b x197,.b x198,.i x199,.v x200,.l kP x201,.v x202,.l kP x203,.v x204,.l kP x205,.i x206,.l kP x207,.l kP x208,.l kP x209,.i x210,.l kP x211,.l kP x212,.l kP x213,.i x214,.l kP x215,.l kP x216,.l kP x217] = some (pplaces_S10 x195 x196 x197 x198 x199 x200 x201 x202 x203 x204 x205 x206 x207 x208 x209 x210 x211 x212 x213 x214 x215 x216 x217) := by kernel_rfl
    rw [e] at hS
    cases hS
    exact ⟨_,(pplaces_l3_iter x195 x196 x197 x198 x200 x201 x202 x203 x204 x205 x206 x207 x208 x209 x210 x211 x212 x213 x214 x216 x217 Q _ x199 x215).trans hE⟩
noncomputable def pplaces_l3_lps {α:Type}:LookL α := addLp 6 pplaces_P3 0 (lEnt (pplaces_S12) pplaces_l3_go) pplaces_l2_lps
theorem pplaces_l3_lps_ok {α:Type}:LoopsOk E.P (pplaces_l3_lps (α := α)) := addLp_ok pplaces_l3_ok (pplaces_l2_lps_ok)

noncomputable def _root_.Go.Proofs.Ytlagndfhibkjpaa.M.pplaces_l4_step {α:Type} (kn:Int → L3 → Option α) (k1:Option α) (x254:Int) (x271:L3):Option α := if cLt x254 (↑(List.length x271):Int) = true then if (0:Int) ≤ x254 ∧ x254 < (↑(List.length x271):Int) then kn (IntKind.wrap .i64 (x254 + (1:Int))) (List.set x271 (Int.toNat x254) ((-9:Int),Prod.snd (List.getD x271 (Int.toNat x254) ((0:Int),(0:Int),(0:Int))))) else none else k1
noncomputable def _root_.Go.Proofs.Ytlagndfhibkjpaa.M.pplaces_l4 {α:Type} (k1:Option α):Nat → Int → L3 → Option α
  | 0,_,_ => none
  | n + 1,x254,x271 => M.pplaces_l4_step (M.pplaces_l4 k1 n) k1 x254 x271
theorem pplaces_l4_step_eq {α:Type} (x250 x251 x252 x253:Bool) (x254:Int) (x255:Value) (x256:L3) (x257:Value) (x258:L3) (x259:Value) (x260:L3) (x261:Int) (x262 x263 x264:L3) (x265:Int) (x266 x267 x268:L3) (x269:Int) (x270 x271 x272:L3) (Q:Ex → St → Option α):(loopStep E (exec E look_lcores pplaces_l3_lps 400) 6 pplaces_P2 0 (codeAt E.P 6 pplaces_P2)) (pplaces_S13 x250 x251 x252 x253 x254 x255 x256 x257 x258 x259 x260 x261 x262 x263 x264 x265 x266 x267 x268 x269 x270 x271 x272) Q = M.pplaces_l4_step (fun (x273:Int) (x274:L3) => Q .normal (pplaces_S13 x250 x251 x252 x253 x273 x255 x256 x257 x258 x259 x260 x261 x262 x263 x264 x265 x266 x267 x268 x269 x270 x274 x272)) (Q (.exit 2) (pplaces_S14 x250 x251 x252 x253 x255 x256 x257 x258 x259 x260 x261 x262 x263 x264 x265 x266 x267 x268)) x254 x271 := by kernel_rfl
theorem pplaces_l4_iter {α:Type} (x250 x251 x252 x253:Bool) (x255:Value) (x256:L3) (x257:Value) (x258:L3) (x259:Value) (x260:L3) (x261:Int) (x262 x263 x264:L3) (x265:Int) (x266 x267 x268:L3) (x269:Int) (x270 x272:L3) (Q:Ex → St → Option α):∀ (n:Nat) (x254:Int) (x271:L3),iter (loopStep E (exec E look_lcores pplaces_l3_lps 400) 6 pplaces_P2 0 (codeAt E.P 6 pplaces_P2)) n (pplaces_S13 x250 x251 x252 x253 x254 x255 x256 x257 x258 x259 x260 x261 x262 x263 x264 x265 x266 x267 x268 x269 x270 x271 x272) Q = M.pplaces_l4 (Q (.exit 2) (pplaces_S14 x250 x251 x252 x253 x255 x256 x257 x258 x259 x260 x261 x262 x263 x264 x265 x266 x267 x268)) n x254 x271
  | 0,_,_ => rfl
  | n + 1,x254,x271 => (pplaces_l4_step_eq x250 x251 x252 x253 x254 x255 x256 x257 x258 x259 x260 x261 x262 x263 x264 x265 x266 x267 x268 x269 x270 x271 x272 (iterK (loopStep E (exec E look_lcores pplaces_l3_lps 400) 6 pplaces_P2 0 (codeAt E.P 6 pplaces_P2)) n Q)).trans (congrArg (fun kn => M.pplaces_l4_step kn (Q (.exit 2) (pplaces_S14 x250 x251 x252 x253 x255 x256 x257 x258 x259 x260 x261 x262 x263 x264 x265 x266 x267 x268)) x254 x271) (funext fun x254 => funext fun x271 => pplaces_l4_iter x250 x251 x252 x253 x255 x256 x257 x258 x259 x260 x261 x262 x263 x264 x265 x266 x267 x268 x269 x270 x272 Q n x254 x271))
noncomputable def pplaces_l4_go {α:Type} (ds:List D) (Q:Ex → St → Option α):Option α :=
  dB ds fun x250 ds => dB ds fun x251 ds => dB ds fun x252 ds => dB ds fun x253 ds => dI ds fun x254 ds => dV ds fun x255 ds => dL kP ds fun x256 ds => dV ds fun x257 ds => dL kP ds fun x258 ds => dV ds fun x259 ds => dL kP ds fun x260 ds => dI ds fun x261 ds => dL kP ds fun x262 ds => dL kP ds fun x263 ds => dL kP ds fun x264 ds => dI ds fun x265 ds => dL kP ds fun x266 ds => dL kP ds fun x267 ds => dL kP ds fun x268 ds => dI ds fun x269 ds => dL kP ds fun x270 ds => dL kP ds fun x271 ds => dL kP ds fun x272 ds => dE ds (M.pplaces_l4 (Q (.exit 2) (pplaces_S14 x250 x251 x252 x253 x255 x256 x257 x258 x259 x260 x261 x262 x263 x264 x265 x266 x267 x268)) (100 + x256.length + x258.length + x260.length + x262.length + x263.length + x264.length + x266.length + x267.length + x268.length + x270.length + x271.length + x272.length) x254 x271)
theorem pplaces_l4_ok {α:Type}:LoopOk E.P 6 pplaces_P2 0 (lEnt (α := α) (pplaces_S15) pplaces_l4_go) :=
  lEnt_ok E (exec_sound E E_ok (look_lcores_ok) (pplaces_l3_lps_ok) 400) fun ds Q r h S hS => by
    unfold pplaces_l4_go at h
    obtain ⟨x250,ds,rfl,h1⟩ := dB_inv h
    obtain ⟨x251,ds,rfl,h2⟩ := dB_inv h1
    obtain ⟨x252,ds,rfl,h3⟩ := dB_inv h2
    obtain ⟨x253,ds,rfl,h4⟩ := dB_inv h3
    obtain ⟨x254,ds,rfl,h5⟩ := dI_inv h4
    obtain ⟨x255,ds,rfl,h6⟩ := dV_inv h5
    obtain ⟨x256,ds,rfl,h7⟩ := dL_inv h6
    obtain ⟨x257,ds,rfl,h8⟩ := dV_inv h7
    obtain ⟨x258,ds,rfl,h9⟩ := dL_inv h8
    obtain ⟨x259,ds,rfl,h10⟩ := dV_inv h9
    obtain ⟨x260,ds,rfl,h11⟩ := dL_inv h10
    obtain ⟨x261,ds,rfl,h12⟩ := dI_inv h11
    obtain ⟨x262,ds,rfl,h13⟩ := dL_inv h12
    obtain ⟨x263,ds,rfl,h14⟩ := dL_inv h13
    obtain ⟨x264,ds,rfl,h15⟩ := dL_inv h14
    obtain ⟨x265,ds,rfl,h16⟩ := dI_inv h15
    obtain ⟨x266,ds,rfl,h17⟩ := dL_inv h16
    obtain ⟨x267,ds,rfl,h18⟩ := dL_inv h17
    obtain ⟨x268,ds,rfl,h19⟩ := dL_inv h18
    obtain ⟨x269,ds,rfl,h20⟩ := dI_inv h19
    obtain ⟨x270,ds,rfl,h21⟩ := dL_inv h20
    obtain ⟨x271,ds,rfl,h22⟩ := dL_inv h21
    obtain ⟨x272,ds,rfl,h23⟩ := dL_inv h22
    obtain ⟨rfl,hE⟩ := dE_inv h23
    have e:fillS (pplaces_S15) [.b x250,.b x251,.b x252,.b x253,.i x254,.v x255,.l kP x256,.v x257,.l kP x258,.v x259,.l kP x260,.i x261,.l kP x262,.l kP x263,.l kP x264,.i x265,.l kP x266,.l kP x267,.l kP x268,.i x269,.l kP x270,.l kP x271,.l kP x272] = some (pplaces_S13 x250 x251 x252 x253 x254 x255 x256 x257 x258 x259 x260 x261 x262 x263 x264 x265 x266 x267 x268 x269 x270 x271 x272) := by kernel_rfl
    rw [e] at hS
    cases hS
    exact ⟨_,(pplaces_l4_iter x250 x251 x252 x253 x255 x256 x257 x258 x259 x260 x261 x262 x263 x264 x265 x266 x267 x268 x269 x270 x272 Q _ x254 x271).trans hE⟩
noncomputable def pplaces_l4_lps {α:Type}:LookL α := addLp 6 pplaces_P2 0 (lEnt (pplaces_S15) pplaces_l4_go) pplaces_l3_lps
theorem pplaces_l4_lps_ok {α:Type}:LoopsOk E.P (pplaces_l4_lps (α := α)) := addLp_ok pplaces_l4_ok (pplaces_l3_lps_ok)

noncomputable def _root_.Go.Proofs.Ytlagndfhibkjpaa.M.pplaces_l5_step {α:Type} (kn:Int → L3 → Option α) (k1:Option α) (x304:Int) (x317:L3):Option α := if cLt x304 (↑(List.length x317):Int) = true then if (0:Int) ≤ x304 ∧ x304 < (↑(List.length x317):Int) then kn (IntKind.wrap .i64 (x304 + (1:Int))) (List.set x317 (Int.toNat x304) ((-9:Int),Prod.snd (List.getD x317 (Int.toNat x304) ((0:Int),(0:Int),(0:Int))))) else none else k1
noncomputable def _root_.Go.Proofs.Ytlagndfhibkjpaa.M.pplaces_l5 {α:Type} (k1:Option α):Nat → Int → L3 → Option α
  | 0,_,_ => none
  | n + 1,x304,x317 => M.pplaces_l5_step (M.pplaces_l5 k1 n) k1 x304 x317
theorem pplaces_l5_step_eq {α:Type} (x300 x301 x302 x303:Bool) (x304:Int) (x305:Value) (x306:L3) (x307:Value) (x308:L3) (x309:Value) (x310:L3) (x311:Int) (x312 x313 x314:L3) (x315:Int) (x316 x317 x318:L3) (Q:Ex → St → Option α):(loopStep E (exec E look_lcores pplaces_l4_lps 400) 6 pplaces_P1 0 (codeAt E.P 6 pplaces_P1)) (pplaces_S16 x300 x301 x302 x303 x304 x305 x306 x307 x308 x309 x310 x311 x312 x313 x314 x315 x316 x317 x318) Q = M.pplaces_l5_step (fun (x319:Int) (x320:L3) => Q .normal (pplaces_S16 x300 x301 x302 x303 x319 x305 x306 x307 x308 x309 x310 x311 x312 x313 x314 x315 x316 x320 x318)) (Q (.exit 4) (pplaces_S8 x300 x301 x302 x303 x305 x306 x307 x308 x309 x310 x311 x312 x313 x314)) x304 x317 := by kernel_rfl
theorem pplaces_l5_iter {α:Type} (x300 x301 x302 x303:Bool) (x305:Value) (x306:L3) (x307:Value) (x308:L3) (x309:Value) (x310:L3) (x311:Int) (x312 x313 x314:L3) (x315:Int) (x316 x318:L3) (Q:Ex → St → Option α):∀ (n:Nat) (x304:Int) (x317:L3),iter (loopStep E (exec E look_lcores pplaces_l4_lps 400) 6 pplaces_P1 0 (codeAt E.P 6 pplaces_P1)) n (pplaces_S16 x300 x301 x302 x303 x304 x305 x306 x307 x308 x309 x310 x311 x312 x313 x314 x315 x316 x317 x318) Q = M.pplaces_l5 (Q (.exit 4) (pplaces_S8 x300 x301 x302 x303 x305 x306 x307 x308 x309 x310 x311 x312 x313 x314)) n x304 x317
  | 0,_,_ => rfl
  | n + 1,x304,x317 => (pplaces_l5_step_eq x300 x301 x302 x303 x304 x305 x306 x307 x308 x309 x310 x311 x312 x313 x314 x315 x316 x317 x318 (iterK (loopStep E (exec E look_lcores pplaces_l4_lps 400) 6 pplaces_P1 0 (codeAt E.P 6 pplaces_P1)) n Q)).trans (congrArg (fun kn => M.pplaces_l5_step kn (Q (.exit 4) (pplaces_S8 x300 x301 x302 x303 x305 x306 x307 x308 x309 x310 x311 x312 x313 x314)) x304 x317) (funext fun x304 => funext fun x317 => pplaces_l5_iter x300 x301 x302 x303 x305 x306 x307 x308 x309 x310 x311 x312 x313 x314 x315 x316 x318 Q n x304 x317))
noncomputable def pplaces_l5_go {α:Type} (ds:List D) (Q:Ex → St → Option α):Option α :=
  dB ds fun x300 ds => dB ds fun x301 ds => dB ds fun x302 ds => dB ds fun x303 ds => dI ds fun x304 ds => dV ds fun x305 ds => dL kP ds fun x306 ds => dV ds fun x307 ds => dL kP ds fun x308 ds => dV ds fun x309 ds => dL kP ds fun x310 ds => dI ds fun x311 ds => dL kP ds fun x312 ds => dL kP ds fun x313 ds => dL kP ds fun x314 ds => dI ds fun x315 ds => dL kP ds fun x316 ds => dL kP ds fun x317 ds => dL kP ds fun x318 ds => dE ds (M.pplaces_l5 (Q (.exit 4) (pplaces_S8 x300 x301 x302 x303 x305 x306 x307 x308 x309 x310 x311 x312 x313 x314)) (100 + x306.length + x308.length + x310.length + x312.length + x313.length + x314.length + x316.length + x317.length + x318.length) x304 x317)
theorem pplaces_l5_ok {α:Type}:LoopOk E.P 6 pplaces_P1 0 (lEnt (α := α) (pplaces_S17) pplaces_l5_go) :=
  lEnt_ok E (exec_sound E E_ok (look_lcores_ok) (pplaces_l4_lps_ok) 400) fun ds Q r h S hS => by
    unfold pplaces_l5_go at h
    obtain ⟨x300,ds,rfl,h1⟩ := dB_inv h
    obtain ⟨x301,ds,rfl,h2⟩ := dB_inv h1
    obtain ⟨x302,ds,rfl,h3⟩ := dB_inv h2
    obtain ⟨x303,ds,rfl,h4⟩ := dB_inv h3
    obtain ⟨x304,ds,rfl,h5⟩ := dI_inv h4
    obtain ⟨x305,ds,rfl,h6⟩ := dV_inv h5
    obtain ⟨x306,ds,rfl,h7⟩ := dL_inv h6
    obtain ⟨x307,ds,rfl,h8⟩ := dV_inv h7
    obtain ⟨x308,ds,rfl,h9⟩ := dL_inv h8
    obtain ⟨x309,ds,rfl,h10⟩ := dV_inv h9
    obtain ⟨x310,ds,rfl,h11⟩ := dL_inv h10
    obtain ⟨x311,ds,rfl,h12⟩ := dI_inv h11
    obtain ⟨x312,ds,rfl,h13⟩ := dL_inv h12
    obtain ⟨x313,ds,rfl,h14⟩ := dL_inv h13
    obtain ⟨x314,ds,rfl,h15⟩ := dL_inv h14
    obtain ⟨x315,ds,rfl,h16⟩ := dI_inv h15
    obtain ⟨x316,ds,rfl,h17⟩ := dL_inv h16
    obtain ⟨x317,ds,rfl,h18⟩ := dL_inv h17
    obtain ⟨x318,ds,rfl,h19⟩ := dL_inv h18
    obtain ⟨rfl,hE⟩ := dE_inv h19
    have e:fillS (pplaces_S17) [.b x300,.b x301,.b x302,.b x303,.i x304,.v x305,.l kP x306,.v x307,.l kP x308,.v x309,.l kP x310,.i x311,.l kP x312,.l kP x313,.l kP x314,.i x315,.l kP x316,.l kP x317,.l kP x318] = some (pplaces_S16 x300 x301 x302 x303 x304 x305 x306 x307 x308 x309 x310 x311 x312 x313 x314 x315 x316 x317 x318) := by kernel_rfl
    rw [e] at hS
    cases hS
    exact ⟨_,(pplaces_l5_iter x300 x301 x302 x303 x305 x306 x307 x308 x309 x310 x311 x312 x313 x314 x315 x316 x318 Q _ x304 x317).trans hE⟩
noncomputable def pplaces_l5_lps {α:Type}:LookL α := addLp 6 pplaces_P1 0 (lEnt (pplaces_S17) pplaces_l5_go) pplaces_l4_lps
theorem pplaces_l5_lps_ok {α:Type}:LoopsOk E.P (pplaces_l5_lps (α := α)) := addLp_ok pplaces_l5_ok (pplaces_l4_lps_ok)

noncomputable def _root_.Go.Proofs.Ytlagndfhibkjpaa.M.pplaces {α:Type} (l:L3) (ax:L3) (ed:L3) (r:Int) (px:Int) (p_y:Int) (pz:Int) (tw:Int) (tx:Int) (ty:Int) (tz:Int) (bx:Int) (b_y:Int) (bz:Int) (k0:Bool → Option α):Option α := let s328:List P3 := V.mvd l (bx,b_y,bz); let s329:Int := Prod.fst (V.spn l r); let s330:Int × Int × Int × Int × Int := Prod.snd (V.spn l r); let s331:Nat := List.length l; let s332:Nat := List.length ed; let s333:Nat := List.length ax; let s334:Int := Prod.fst s330; let s335:Int × Int × Int × Int := Prod.snd s330; let s336:Nat := List.length s328; let s337:Int × Int × Int := Prod.snd s335; let s338:Int := Prod.fst s335; let s339:Option (List P3 × List P3 × List P3) := V.plc l ax ed (px,p_y,pz) (tw,tx,ty,tz); let s340:List P3 := V.plA s339; let s341:Int × Int := Prod.snd s337; let s342:Bool := V.plG s339; let s343:Int := Prod.fst s337; let s344:List P3 := V.plE s339; let s345:List P3 := V.plP s339; let s346:Int := V.plR r s339; let s347:Nat := List.length s340; let s348:Int := Prod.fst s341; let s349:Int := Prod.snd s341; let s350:Nat := List.length s345; let s351:List (K.T kP) := List.take s347 s340; let s352:List (K.T kP) := List.take (List.length s344) s344; let s353:Nat := (100:Nat) + s331 + s333 + s332 + s331 + s333 + s332 + (0:Nat) + (0:Nat) + (0:Nat); let s354:Nat := s353 + s336 + s333 + s332; let s355:Nat := (100:Nat) + s331 + s333 + s332 + s331 + s333 + s332 + s350 + List.length s340 + List.length s344; let s356:Nat := s355 + s336 + s333 + s332; if cLt (200:Int) (IntKind.wrap .i64 (IntKind.wrap .i64 ((↑s331:Int) + (↑s333:Int)) + (↑s332:Int))) = true then k0 true else if s331 * (24:Nat) ≤ (140737488355328:Nat) then if s333 * (24:Nat) ≤ (140737488355328:Nat) then if s332 * (24:Nat) ≤ (140737488355328:Nat) then if V.lenB (List.length l) = true ∧ V.lenB (List.length ax) = true ∧ V.lenB (List.length ed) = true then if s342 = true then if V.lenB (List.length l) = true ∧ V.lenB (List.length ax) = true ∧ V.lenB (List.length ed) = true then if V.lenB (List.length l) = true ∧ V.lenB (List.length ax) = true ∧ V.lenB (List.length ed) = true then if V.lenB (List.length l) = true ∧ V.lenB (List.length ax) = true ∧ V.lenB (List.length ed) = true then if V.lenB s350 = true ∧ V.lenB (List.length s351) = true ∧ V.lenB (List.length s352) = true then if V.corEq s345 s351 s352 r s345 s340 s344 s346 = true then if V.lenB s336 = true ∧ V.lenB s333 = true ∧ V.lenB s332 = true then M.pplaces_l0 (fun (x324:L3) ↦ M.pplaces_l1 (M.pplaces_l2 s347 (if V.corEq s328 ax ed r s328 ax ed r = true then if (true == s342) = true then if V.lenB (List.length l) = true then if V.ptsEq l l = true then if V.lenB (List.length ax) = true then if V.ptsEq ax ax = true then if V.lenB (List.length ed) = true then if V.ptsEq ed ed = true then if V.lenB (List.length l) = true then if V.lenB (List.length l) = true then k0 (cEq s329 s329 && (cEq s334 s334 && (cEq s338 s338 && true)) && (cEq s343 s343 && (cEq s348 s348 && (cEq s349 s349 && true)) && true)) else none else none else k0 false else none else k0 false else none else k0 false else none else k0 false else k0 false) s355 (0:Int) s340) (s355 + List.length x324 + s333 + s332) (0:Int) ax) s356 (0:Int) s328 else none else M.pplaces_l0 (fun (x325:L3) ↦ M.pplaces_l1 (M.pplaces_l2 s347 (k0 false) s355 (0:Int) s340) (s355 + List.length x325 + s333 + s332) (0:Int) ax) s356 (0:Int) s328 else none else none else none else none else if V.lenB (List.length l) = true ∧ V.lenB (List.length ax) = true ∧ V.lenB (List.length ed) = true then if V.lenB (List.length l) = true ∧ V.lenB (List.length ax) = true ∧ V.lenB (List.length ed) = true then if V.lenB (List.length l) = true ∧ V.lenB (List.length ax) = true ∧ V.lenB (List.length ed) = true then if V.lenB (0:Nat) = true ∧ V.lenB (0:Nat) = true ∧ V.lenB (0:Nat) = true then if V.corEq [] [] [] (0:Int) s345 s340 s344 s346 = true then if V.lenB s336 = true ∧ V.lenB s333 = true ∧ V.lenB s332 = true then M.pplaces_l3 (fun (x326:L3) ↦ M.pplaces_l4 (M.pplaces_l5 (if V.corEq s328 ax ed r s328 ax ed r = true then if (false == s342) = true then if V.lenB (List.length l) = true then if V.ptsEq l l = true then if V.lenB (List.length ax) = true then if V.ptsEq ax ax = true then if V.lenB (List.length ed) = true then if V.ptsEq ed ed = true then if V.lenB (List.length l) = true then if V.lenB (List.length l) = true then k0 (cEq s329 s329 && (cEq s334 s334 && (cEq s338 s338 && true)) && (cEq s343 s343 && (cEq s348 s348 && (cEq s349 s349 && true)) && true)) else none else none else k0 false else none else k0 false else none else k0 false else none else k0 false else k0 false) s353 (0:Int) []) (s353 + List.length x326 + s333 + s332) (0:Int) ax) s354 (0:Int) s328 else none else M.pplaces_l3 (fun (x327:L3) ↦ M.pplaces_l4 (M.pplaces_l5 (k0 false) s353 (0:Int) []) (s353 + List.length x327 + s333 + s332) (0:Int) ax) s354 (0:Int) s328 else none else none else none else none else none else none else none else none
theorem pplaces_eq {α:Type} (l:L3) (ax:L3) (ed:L3) (r:Int) (px:Int) (p_y:Int) (pz:Int) (tw:Int) (tx:Int) (ty:Int) (tz:Int) (bx:Int) (b_y:Int) (bz:Int) (v321:Value) (v322:Value) (v323:Value) (Q:SV → Hp → Option α):callI E look_lcores (exec E look_lcores pplaces_l5_lps 400) 6 ([SV.agg [SV.ros v321 kP l,SV.ros v322 kP ax,SV.ros v323 kP ed,SV.int .i64 r],SV.agg [SV.int .i64 px,SV.int .i64 p_y,SV.int .i64 pz,SV.int .i64 tw,SV.int .i64 tx,SV.int .i64 ty,SV.int .i64 tz],
  SV.agg [SV.int .i64 bx,SV.int .i64 b_y,SV.int .i64 bz]]) ([]) Q = M.pplaces l ax ed r px p_y pz tw tx ty tz bx b_y bz (fun (x357:Bool) => Q (SV.bool x357) ([])) := by kernel_rfl
def pplaces_sp:List AS := [.st [.ro kP,.ro kP,.ro kP,.leaf (.int .i64 0)],.val (.agg [.int .i64 0,.int .i64 0,.int .i64 0,.int .i64 0,.int .i64 0,.int .i64 0,.int .i64 0]),.val (.agg [.int .i64 0,.int .i64 0,.int .i64 0])]
theorem pp_l0 {α:Type} (k1:List P3 → Option α):∀ (fuel i:Nat) (X:List P3),X.length < 1099511627776 → i ≤ X.length → X.length - i < fuel → ∃ Y:List P3,Y.length = X.length ∧ M.pplaces_l0 k1 fuel (i:Int) X = k1 Y
  | 0,i,X,h0,h1,h2 => by omega
  | f + 1,i,X,h0,h1,h2 => by
    unfold M.pplaces_l0 M.pplaces_l0_step
    rw [cLt_nat]
    by_cases hi:i < X.length
    · rw [if_pos (by simpa using hi), if_pos (by omega : (0 : Int) ≤ (i : Int) ∧ (i : Int) < (X.length : Int)), w_next (by omega)]
      obtain ⟨Y,y1,y2⟩ := pp_l0 k1 f (i + 1) (List.set X (Int.toNat (i:Int)) ((-9:Int),Prod.snd (List.getD X (Int.toNat (i:Int)) ((0:Int),(0:Int),(0:Int))))) (by rw [List.length_set]; omega) (by rw [List.length_set]; omega) (by rw [List.length_set]; omega)
      exact ⟨Y,by rw [y1,List.length_set],y2⟩
    · exact ⟨X,rfl,by rw [if_neg (by simpa using hi)]⟩
theorem pp_all0 {α:Type} (k1:List P3 → Option α) (v:Option α) (fuel i:Nat) (X:List P3) (h0:X.length < 1099511627776) (h1:i ≤ X.length) (h2:X.length - i < fuel) (h:∀ Y:List P3,Y.length = X.length → k1 Y = v):M.pplaces_l0 k1 fuel (i:Int) X = v := by
  obtain ⟨Y,y1,y2⟩ := pp_l0 k1 fuel i X h0 h1 h2
  rw [y2]; exact h Y y1
theorem pp_l1 {α:Type} (k1:Option α):∀ (fuel i:Nat) (X:List P3),X.length < 1099511627776 → i ≤ X.length → X.length - i < fuel → M.pplaces_l1 k1 fuel (i:Int) X = k1
  | 0,i,X,h0,h1,h2 => by omega
  | f + 1,i,X,h0,h1,h2 => by
    unfold M.pplaces_l1 M.pplaces_l1_step
    rw [cLt_nat]
    by_cases hi:i < X.length
    · rw [if_pos (by simpa using hi), if_pos (by omega : (0 : Int) ≤ (i : Int) ∧ (i : Int) < (X.length : Int)), w_next (by omega)]
      exact pp_l1 k1 f (i + 1) _ (by rw [List.length_set]; omega) (by rw [List.length_set]; omega) (by rw [List.length_set]; omega)
    · rw [if_neg (by simpa using hi)]
theorem pp_l2 {α:Type} (n:Nat) (hn:n < 1099511627776) (k1:Option α):∀ (fuel i:Nat) (X:List P3),i ≤ n → n - i < fuel → M.pplaces_l2 n k1 fuel (i:Int) X = k1
  | 0,i,X,h1,h2 => by omega
  | f + 1,i,X,h1,h2 => by
    unfold M.pplaces_l2 M.pplaces_l2_step
    rw [cLt_nat]
    by_cases hi:i < n
    · rw [if_pos (by simpa using hi), if_pos (by omega : (0 : Int) ≤ (i : Int) ∧ (i : Int) < (n : Int)), w_next (by omega)]
      exact pp_l2 n hn k1 f (i + 1) _ (by omega) (by omega)
    · rw [if_neg (by simpa using hi)]
theorem pp_l3 {α:Type} (k1:List P3 → Option α):∀ (fuel i:Nat) (X:List P3),X.length < 1099511627776 → i ≤ X.length → X.length - i < fuel → ∃ Y:List P3,Y.length = X.length ∧ M.pplaces_l3 k1 fuel (i:Int) X = k1 Y
  | 0,i,X,h0,h1,h2 => by omega
  | f + 1,i,X,h0,h1,h2 => by
    unfold M.pplaces_l3 M.pplaces_l3_step
    rw [cLt_nat]
    by_cases hi:i < X.length
    · rw [if_pos (by simpa using hi), if_pos (by omega : (0 : Int) ≤ (i : Int) ∧ (i : Int) < (X.length : Int)), w_next (by omega)]
      obtain ⟨Y,y1,y2⟩ := pp_l3 k1 f (i + 1) (List.set X (Int.toNat (i:Int)) ((-9:Int),Prod.snd (List.getD X (Int.toNat (i:Int)) ((0:Int),(0:Int),(0:Int))))) (by rw [List.length_set]; omega) (by rw [List.length_set]; omega) (by rw [List.length_set]; omega)
      exact ⟨Y,by rw [y1,List.length_set],y2⟩
    · exact ⟨X,rfl,by rw [if_neg (by simpa using hi)]⟩
theorem pp_all3 {α:Type} (k1:List P3 → Option α) (v:Option α) (fuel i:Nat) (X:List P3) (h0:X.length < 1099511627776) (h1:i ≤ X.length) (h2:X.length - i < fuel) (h:∀ Y:List P3,Y.length = X.length → k1 Y = v):M.pplaces_l3 k1 fuel (i:Int) X = v := by
  obtain ⟨Y,y1,y2⟩ := pp_l3 k1 fuel i X h0 h1 h2
  rw [y2]; exact h Y y1
theorem pp_l4 {α:Type} (k1:Option α):∀ (fuel i:Nat) (X:List P3),X.length < 1099511627776 → i ≤ X.length → X.length - i < fuel → M.pplaces_l4 k1 fuel (i:Int) X = k1
  | 0,i,X,h0,h1,h2 => by omega
  | f + 1,i,X,h0,h1,h2 => by
    unfold M.pplaces_l4 M.pplaces_l4_step
    rw [cLt_nat]
    by_cases hi:i < X.length
    · rw [if_pos (by simpa using hi), if_pos (by omega : (0 : Int) ≤ (i : Int) ∧ (i : Int) < (X.length : Int)), w_next (by omega)]
      exact pp_l4 k1 f (i + 1) _ (by rw [List.length_set]; omega) (by rw [List.length_set]; omega) (by rw [List.length_set]; omega)
    · rw [if_neg (by simpa using hi)]
theorem pp_l5 {α:Type} (k1:Option α):∀ (fuel i:Nat) (X:List P3),X.length < 1099511627776 → i ≤ X.length → X.length - i < fuel → M.pplaces_l5 k1 fuel (i:Int) X = k1
  | 0,i,X,h0,h1,h2 => by omega
  | f + 1,i,X,h0,h1,h2 => by
    unfold M.pplaces_l5 M.pplaces_l5_step
    rw [cLt_nat]
    by_cases hi:i < X.length
    · rw [if_pos (by simpa using hi), if_pos (by omega : (0 : Int) ≤ (i : Int) ∧ (i : Int) < (X.length : Int)), w_next (by omega)]
      exact pp_l5 k1 f (i + 1) _ (by rw [List.length_set]; omega) (by rw [List.length_set]; omega) (by rw [List.length_set]; omega)
    · rw [if_neg (by simpa using hi)]
theorem wayRun_len (m:V.T9):∀ (G:List P3) (f:Bool) (a:List P3),(wayRun m G f a).2.2.length ≤ a.length + G.length
  | [],f,a => by show a.length ≤ _; omega
  | g :: G,f,a => by
    show (if Sm g 1048576 then wayRun m G (V.on (V.tTurn m (scP g 4096)) f) (if wayS m g = (0,0,0) then a else a ++ [wayS m g]) else (false,f,a)).2.2.length ≤ a.length + (G.length + 1)
    by_cases h:Sm g 1048576
    · rw [if_pos h]
      have := wayRun_len m G (V.on (V.tTurn m (scP g 4096)) f) (if wayS m g = (0,0,0) then a else a ++ [wayS m g])
      by_cases h0:wayS m g = (0,0,0)
      · rw [if_pos h0] at this ⊢; omega
      · rw [if_neg h0] at this ⊢
        rw [List.length_append,List.length_singleton] at this
        omega
    · rw [if_neg h]; show a.length ≤ _; omega
theorem wy_len (f:Bool) (m:V.T9) (l:List P3):(V.wy f m l).2.2.length ≤ l.length := by
  have := wayRun_len m (l.map growP) f []
  unfold V.wy
  rw [hid_eq]
  simpa using this
theorem plc_len {l ax ed:List P3} {t:V.T3} {q:V.T4} {w:List P3 × List P3 × List P3} (h:V.plc l ax ed t q = some w):w.1.length = l.length ∧ w.2.1.length ≤ ax.length ∧ w.2.2.length ≤ ed.length := by
  unfold V.plc at h
  rw [hid_eq] at h
  unfold plcP at h
  cases hp:placeRun (V.q9 (V.tRows q)) t l (V.on (V.tRows q) false) [] with
  | none => rw [hp] at h; exact absurd h (by simp)
  | some p =>
    rw [hp] at h
    have hl := placeRun_len _ _ _ _ _ _ hp
    have h2:plcK (V.q9 (V.tRows q)) ax ed p.1 p.2 = some w := h
    unfold plcK at h2
    split at h2
    · injection h2 with h2
      subst h2
      exact ⟨by simpa using hl,wy_len _ _ _,wy_len _ _ _⟩
    · exact absurd h2 (by simp)
theorem plG_none:V.plG none = false := hid_eq _
theorem plP_none:V.plP none = [] := hid_eq _
theorem plA_none:V.plA none = [] := hid_eq _
theorem plE_none:V.plE none = [] := hid_eq _
theorem plR_none (r:Int):V.plR r none = 0 := hid_eq _
theorem plR_some (r:Int) (t:List P3 × List P3 × List P3):V.plR r (some t) = r := hid_eq _
theorem mvd_len (l:List P3) (b:P3):(V.mvd l b).length = l.length := by unfold V.mvd; rw [hid_eq,List.length_map]
theorem pplaces_v {α:Type} (l ax ed:List P3) (r px p_y pz tw tx ty tz bx b_y bz:Int) (g1:l.length < 8796093022208) (g2:ax.length < 8796093022208) (g3:ed.length < 8796093022208) (k0:Bool → Option α):M.pplaces l ax ed r px p_y pz tw tx ty tz bx b_y bz k0 = k0 true := by
  unfold M.pplaces
  have ee:∀ a:Int,cEq a a = true := by intro a; rw [cEq_eq]; simp
  have ec:∀ (a b c:List P3) (n:Int),V.corEq a b c n a b c n = true := by intro a b c n; unfold V.corEq; simp
  have ep:∀ a:List P3,V.ptsEq a a = true := by intro a; unfold V.ptsEq; simp
  have hm := mvd_len l (bx,b_y,bz)
  simp only
  rw [IntWalk.i64_in ((l.length:Int) + (ax.length:Int)) (by omega),IntWalk.i64_in (((l.length:Int) + (ax.length:Int)) + (ed.length:Int)) (by omega),cLt_eq]
  by_cases h200:(200:Int) < ((l.length:Int) + (ax.length:Int)) + (ed.length:Int)
  · rw [if_pos (by simpa using h200)]
  · rw [if_neg (by simpa using h200), if_pos (by omega), if_pos (by omega), if_pos (by omega)]
    have b1:V.lenB l.length = true := lenB_of (by omega)
    have b2:V.lenB ax.length = true := lenB_of (by omega)
    have b3:V.lenB ed.length = true := lenB_of (by omega)
    have b4:V.lenB (V.mvd l (bx,b_y,bz)).length = true := lenB_of (by omega)
    have b0:V.lenB 0 = true := lenB_of (by omega)
    cases ho:V.plc l ax ed (px,p_y,pz) (tw,tx,ty,tz) with
    | none =>
      simp only [plG_none,plP_none,plA_none,plE_none,plR_none,b0,b1,b2,b3,b4,ec,ep,ee,and_self,if_true,Bool.false_eq_true,if_false,beq_self_eq_true,Bool.and_true]
      refine pp_all3 _ (k0 true) _ 0 (V.mvd l (bx,b_y,bz)) (by omega) (by omega) (by omega) fun Y hY => ?_
      refine Eq.trans (pp_l4 _ _ 0 ax (by omega) (by omega) (by omega)) ?_
      exact pp_l5 _ _ 0 [] (by simp) (by simp) (by simp; omega)
    | some w =>
      obtain ⟨w1,w2,w3⟩ := plc_len ho
      have b5:V.lenB w.1.length = true := lenB_of (by omega)
      have b6:V.lenB w.2.1.length = true := lenB_of (by omega)
      have b7:V.lenB w.2.2.length = true := lenB_of (by omega)
      simp only [plG_some,plP_some,plA_some,plE_some,plR_some,List.take_length,b1,b2,b3,b4,b5,b6,b7,ec,ep,ee,and_self,if_true,beq_self_eq_true,Bool.and_true]
      refine pp_all0 _ (k0 true) _ 0 (V.mvd l (bx,b_y,bz)) (by omega) (by omega) (by omega) fun Y hY => ?_
      refine Eq.trans (pp_l1 _ _ 0 ax (by omega) (by omega) (by omega)) ?_
      exact pp_l2 w.2.1.length (by omega) _ _ 0 w.2.1 (by omega) (by omega)
noncomputable def pplaces_h {α:Type} (ds:List D) (Q:SV → Hp → Option α):Option α :=
  dL kP ds fun l ds => dL kP ds fun ax ds => dL kP ds fun ed ds => dI ds fun r ds => dI ds fun px ds => dI ds fun p_y ds => dI ds fun pz ds => dI ds fun tw ds => dI ds fun tx ds => dI ds fun ty ds => dI ds fun tz ds => dI ds fun bx ds => dI ds fun b_y ds => dI ds fun bz ds => dE ds (if V.gB ((l.length < 8796093022208 ∧ ∀ x ∈ l,(RT.good (.i .i64) [.i .i64,.i .i64]) x) ∧ (ax.length < 8796093022208 ∧ ∀ x ∈ ax,(RT.good (.i .i64) [.i .i64,.i .i64]) x) ∧ (ed.length < 8796093022208 ∧ ∀ x ∈ ed,(RT.good (.i .i64) [.i .i64,.i .i64]) x) ∧ (-9223372036854775808 ≤ r ∧ r < 9223372036854775808) ∧ (-9223372036854775808 ≤ px ∧ px < 9223372036854775808) ∧ (-9223372036854775808 ≤ p_y ∧ p_y < 9223372036854775808) ∧ (-9223372036854775808 ≤ pz ∧ pz < 9223372036854775808) ∧ (-9223372036854775808 ≤ tw ∧ tw < 9223372036854775808) ∧ (-9223372036854775808 ≤ tx ∧ tx < 9223372036854775808) ∧ (-9223372036854775808 ≤ ty ∧ ty < 9223372036854775808) ∧ (-9223372036854775808 ≤ tz ∧ tz < 9223372036854775808) ∧ (-9223372036854775808 ≤ bx ∧ bx < 9223372036854775808) ∧ (-9223372036854775808 ≤ b_y ∧ b_y < 9223372036854775808) ∧ (-9223372036854775808 ≤ bz ∧ bz < 9223372036854775808)) = true then Q (.bool true) ([]) else none)
theorem pplaces_h_ok {α:Type}:FnOk E.P 6 (fEnt (α := α) pplaces_sp pplaces_h) :=
  fEntR_ok E (look_lcores_ok) (exec_sound E E_ok (look_lcores_ok) (pplaces_l5_lps_ok) 400) fun ds Q r h => by
    unfold pplaces_h at h
    obtain ⟨l,ds,rfl,h1⟩ := dL_inv h
    obtain ⟨ax,ds,rfl,h2⟩ := dL_inv h1
    obtain ⟨ed,ds,rfl,h3⟩ := dL_inv h2
    obtain ⟨r,ds,rfl,h4⟩ := dI_inv h3
    obtain ⟨px,ds,rfl,h5⟩ := dI_inv h4
    obtain ⟨p_y,ds,rfl,h6⟩ := dI_inv h5
    obtain ⟨pz,ds,rfl,h7⟩ := dI_inv h6
    obtain ⟨tw,ds,rfl,h8⟩ := dI_inv h7
    obtain ⟨tx,ds,rfl,h9⟩ := dI_inv h8
    obtain ⟨ty,ds,rfl,h10⟩ := dI_inv h9
    obtain ⟨tz,ds,rfl,h11⟩ := dI_inv h10
    obtain ⟨bx,ds,rfl,h12⟩ := dI_inv h11
    obtain ⟨b_y,ds,rfl,h13⟩ := dI_inv h12
    obtain ⟨bz,ds,rfl,h14⟩ := dI_inv h13
    obtain ⟨rfl,hE⟩ := dE_inv h14
    split at hE
    · rename_i hg
      exact ⟨_,_,hE,fun vs => ⟨_,_,by kernel_rfl,(pplaces_eq l ax ed r px p_y pz tw tx ty tz bx b_y bz ((cellsV (vs.headD undef)).headD undef) ((cellsV (vs.headD undef)).tail.headD undef) ((cellsV (vs.headD undef)).tail.tail.headD undef) _).trans (pplaces_v l ax ed r px p_y pz tw tx ty tz bx b_y bz (gB_iff hg).1.1 (gB_iff hg).2.1.1 (gB_iff hg).2.2.1.1 _)⟩⟩
    · cases hE
noncomputable def look_pplaces {α:Type}:LookF α := addFn 6 (fEnt pplaces_sp pplaces_h) look_lcores
theorem look_pplaces_ok {α:Type}:LookOk E.P (look_pplaces (α := α)) := addFn_ok pplaces_h_ok (look_lcores_ok)
end Go.Proofs.Ytlagndfhibkjpaa.Sx
end
