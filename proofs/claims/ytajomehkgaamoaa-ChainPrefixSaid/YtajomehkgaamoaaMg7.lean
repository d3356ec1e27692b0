/- Texts of the walk, merged. -/
import Derived.Test.YtajomehkgaamoaaMg4
import Derived.ProofKit
import Derived.OpenShut
import Derived.Test.YtajomehkgaamoaaMg6
set_option linter.unusedVariables false
set_option linter.unusedSimpArgs false
namespace Go.Proofs.Ytajomehkgaamoaa.Sx
section
open Go Go.RowKit Go.ChangeShapes
section
variable {H:Type} {enc:TypeId × Value → H} {P:Program}
theorem trodAll_keep (hl:laidOutB P = true) {W W':World} {sp:Nat → Bool}:∀ (ts:List TypeId) (vs:List Value) (ds:List (DataW H)) (ps:List MemPlace),(∀ t ∈ ts,P.readableRec t = true ∧ t < P.types.size) →
   DataW.TrodAll enc P W 0 (fun _ => true) true ts vs ds ps → (∀ x ∈ ps,W.sameAt W' x) → (∀ x ∈ ps,sp x.block = true) → DataW.TrodAll enc P W' 0 sp true ts vs ds ps
 | [],[],[],ps,_,h,_,_ => h
 | t :: ts,v :: vs,d :: ds,ps,hr,h,h1,h2 => by
   obtain ⟨p,q,a,b,rfl⟩ := h
   exact ⟨p, q, WideElems.Trod_stays hl (hr t (by simp)).1 (hr t (by simp)).2 a (fun x hx => h1 x (by simp [hx])) (fun x hx => h2 x (by simp [hx])),
     trodAll_keep hl ts vs ds q (fun t ht => hr t (by simp [ht])) b (fun x hx => h1 x (by simp [hx])) (fun x hx => h2 x (by simp [hx])),rfl⟩
 | [],_ :: _,_,_,_,h,_,_ => h.elim
 | [],[],_ :: _,_,_,h,_,_ => h.elim
 | _ :: _,[],_,_,_,h,_,_ => h.elim
 | _ :: _,_ :: _,[],_,_,h,_,_ => h.elim
theorem post_of_below {f:Func} {s:ChangeSpec} {apart fresh handsOn again:Bool} {W W':World} {args:Array Value} {ds gs:List (DataW H)} {before:List MemPlace} {tb:TypeId}
   (hl:laidOutB P = true) (hr:∀ t ∈ f.params.toList,P.readableRec t = true ∧ t < P.types.size) (hv:s.vars = []) (hres:f.resultTypes = #[tb]) (htb:P.underlying tb = some .bool)
   (hfn:(s.fn H (ds ++ gs)) = { results := [.lit (.bool true)],args := ds }) (hW:DataW.Whole enc P f.params.toList s.vars apart W args.toList ds gs before) (hb:Below W.heap.size W W') :
   s.post enc P f apart fresh handsOn again W args (.bool true) W' := by
 have hW0 := hW
 obtain ⟨p,q,hA,hV,hps,hfz,hnd⟩ := hW
 rw [hv] at hV
 obtain ⟨rfl,rfl⟩ := trodVars_none hV
 rw [List.append_nil] at hps
 subst hps
 have hlt:∀ x ∈ before,x.block < W.heap.size := fun x hx => hW0.lt x hx
 have hsame:∀ x ∈ before,W.sameAt W' x := fun x hx => hb.same (hlt x hx)
 have hargs:∀ sp:Nat → Bool,(∀ x ∈ before,sp x.block = true) → DataW.TrodAll enc P W' 0 sp true f.params.toList args.toList ds before := fun sp hsp => trodAll_keep hl _ _ _ _ hr hA hsame hsp
 have hbool:∀ (b:Nat) (sp:Nat → Bool) (hd:Bool),DataW.Trod enc P W' b sp hd tb (.bool true) (.lit (.bool true)) [] := fun b sp hd => ⟨1,by simp [DataW.trod,Value.cells,htb]⟩
 have hres1:∀ (b:Nat) (sp:Nat → Bool) (hd:Bool),DataW.TrodAll enc P W' b sp hd f.resultTypes.toList ((Value.bool true).resultList f.resultTypes.size) [.lit (.bool true)] [] := by
   intro b sp hd
   rw [hres]
   exact trodAll_mk1 (hbool b sp hd)
 have hk : W.keptBut W' (fun _ => False) := by
   refine ⟨hb.os,hb.output,fun i hi => ?_⟩
   rw [hb.block i hi]
   cases W.heap[i]? with
   | none => rfl
   | some o => cases o with
     | cells c t fr => exact ⟨rfl,rfl,rfl,fun _ _ => rfl⟩
     | map es ck => exact .inr ⟨rfl,rfl⟩
     | _ => rfl
 refine ⟨ds,[],before,[],before,[],hW0,?_,?_,?_,World.keptBut_mono (fun _ h => h.elim) hk,fun _ => ⟨?_,_,[],([] ++ before) ++ [],⟨[] ++ before,[],trodAll_append (hargs _ fun _ _ => rfl) (hres1 _ _ _),?_,rfl,?_,?_⟩,fun x hx _ => by simpa using hx⟩⟩
 · rw [hfn]; exact hres1 _ _ _
 · rw [hfn]; exact hargs _ fun x hx => by simpa using hlt x hx
 · rw [hfn,hv]; rfl
 · intro j t r h1 h2
   rw [hres] at h1 h2
   cases j with
   | zero =>
     simp [Value.resultList] at h1 h2
     subst h1; subst h2
     simp [Value.okWide,htb,Cell.okWide,Cell.ok]
   | succ j => simp at h1
 · rw [hv]; rfl
 · intro b off hx
   have hx':MemPlace.cell b off ∈ before := by simpa using hx
   have := hfz b off hx'
   unfold World.frozen? at this ⊢
   have hbl:b < W.heap.size := hlt _ hx'
   simp only [hb.block b hbl]
   exact this
 · intro ha
   simpa using hnd ha
end
theorem flat_get (κ:K):∀ (xs:List κ.T) (q m:Nat),q < xs.length → m < κ.sz → (xs.flatMap κ.cells)[q * κ.sz + m]? = (κ.cells (xs[q]?.getD κ.dflt))[m]?
 | [],q,m,h,_ => by simp at h
 | x :: xs,0,m,h,hm => by
   rw [List.flatMap_cons,List.getElem?_append_left (by rw [K.cells_length]; omega)]
   simp
 | x :: xs,q + 1,m,h,hm => by
   rw [List.flatMap_cons,List.getElem?_append_right (by rw [K.cells_length,Nat.add_mul]; omega),K.cells_length]
   rw [show (q + 1) * κ.sz + m - κ.sz = q * κ.sz + m by rw [Nat.add_mul]; omega]
   simpa using flat_get κ xs q m (by simpa using h) hm
theorem okWide_slice' {P:Program} {w:World} {r:Reach} {base:Nat} {t e:TypeId} {v:Value} (ht:P.underlying t = some (.slice e)) (h:Value.okWide P w r base t v):∃ a l c,v = .slice a l c := by
 unfold Value.okWide at h
 rw [ht] at h
 cases v <;> simp_all [Cell.okWide,Cell.ok]
theorem ros_trod {H:Type} {enc:TypeId × Value → H} {P:Program} {W:World} {t e:TypeId} {κ:K} {good:κ.T → Prop} {fuel:Nat} {cs:List Value} {x:DataW H × List MemPlace} (ht:P.underlying t = some (.slice e)) (hc:P.cellsOf e = κ.sz)
   (hel:∀ n cs x,DataW.trod enc P W 0 (fun _ => true) true n e cs = some x → ∃ y:κ.T,cs = κ.cells y ∧ good y) (h:DataW.trod enc P W 0 (fun _ => true) true fuel t cs = some x) (hok:∀ y:κ.T,good y → κ.okT (fun b => b < W.heap.size) W y := by exact fun y _ => _root_.Go.Proofs.Ytajomehkgaamoaa.Sx.inOk_noP _ [y] rfl y (by simp)) :
   ∃ v,cs = [v] ∧ ∃ xs:List κ.T,(∀ x ∈ xs,good x) ∧ xs.length < 9223372036854775808 ∧ RosOk (fun b => b < W.heap.size) W v κ xs := by
 rcases DataW.trod_slice ht h with ⟨rfl,_⟩ | ⟨a,l0,c0,elems,rest,n,_,rfl,_,hb,hl,hm,hlen,hes,_,_⟩
 · exact ⟨_,rfl,[],by simp,by simp,.inl ⟨rfl,none,0,rfl⟩,fun x hx => by cases hx⟩
 · refine ⟨_, rfl, ?_⟩
   have each:∀ i,i < l0 → ∃ y:κ.T,W.cells? 0 (a.add (i * κ.sz)) κ.sz = some (κ.cells y) ∧ good y := by
     intro i hi
     have h1 := hes i hi
     rw [hc] at h1
     have h2:elems[i]? = some (elems[i]'(by omega)) := List.getElem?_eq_getElem (by omega)
     rw [h2,Option.bind_eq_some_iff] at h1
     obtain ⟨cs,hcs,hx⟩ := h1
     obtain ⟨y,rfl,hy⟩ := hel _ _ _ hx
     exact ⟨y,hcs,hy⟩
   have all:∀ k,k ≤ l0 → ∃ xs:List κ.T,xs.length = k ∧ (∀ x ∈ xs,good x) ∧ ∀ i,(hi:i < xs.length) → W.cells? 0 (a.add (i * κ.sz)) κ.sz = some (κ.cells xs[i]) := by
     intro k
     induction k with
     | zero => exact fun _ => ⟨[],rfl,by simp,by simp⟩
     | succ k ih =>
       intro hk
       obtain ⟨xs,e1,e2,e3⟩ := ih (by omega)
       obtain ⟨y,e4,e5⟩ := each k (by omega)
       refine ⟨xs ++ [y],by simp [e1],?_,?_⟩
       · intro x hx
         rcases List.mem_append.1 hx with hx | hx
         · exact e2 x hx
         · simp at hx; subst hx; exact e5
       · intro i hi
         by_cases hik:i < xs.length
         · rw [List.getElem_append_left hik]; exact e3 i hik
         · have : i = xs.length := by simp at hi; omega
           subst this
           rw [List.getElem_append_right (by omega)]
           simpa [e1] using e4
   obtain ⟨xs,e1,e2,e3⟩ := all l0 (Nat.le_refl _)
   refine ⟨xs,e2,by unfold maxLen at hm; omega,?_,fun x hx => hok x (e2 x hx)⟩
   by_cases h0:l0 = 0
   · subst h0
     exact .inl ⟨List.eq_nil_of_length_eq_zero e1,_,_,rfl⟩
   · have hcell : ∀ i j, i < l0 → j < κ.sz → W.cell? ((a.add (i * κ.sz)).add j) = (κ.cells (xs[i]?.getD κ.dflt))[j]? := by
       intro i j hi hj
       have := (World.cells?_some (e3 i (by omega))).2.2 j hj
       rw [this]
       simp [show i < xs.length by omega]
     have hsz:0 < κ.sz := K.sz_pos κ
     have h00 := hcell 0 0 (by omega) hsz
     have hsp:a.spot = none ∧ a.block < W.heap.size := by
       have e0:(a.add (0 * κ.sz)).add 0 = a := by simp [Addr.add]
       rw [e0] at h00
       have hne:(κ.cells (xs[0]?.getD κ.dflt))[0]? ≠ none := by
         rw [List.getElem?_eq_getElem (by rw [K.cells_length]; exact hsz)]; simp
       rw [← h00] at hne
       unfold World.cell? at hne
       split at hne
       · rename_i c t' f' hh
         refine ⟨?_,?_⟩
         · cases hs : a.spot with
           | none => rfl
           | some q => simp [hs] at hne
         · exact (Array.getElem?_eq_some_iff.1 hh).1
       · simp at hne
     refine .inr ⟨a,c0,by rw [e1],by omega,hsp.1,hsp.2,?_⟩
     intro j c hj
     have hjl:j < xs.length * κ.sz := by
       have := (List.getElem?_eq_some_iff.1 hj).1
       rwa [cells_flat_length] at this
     have hq:j / κ.sz < xs.length := Nat.div_lt_of_lt_mul (by rwa [Nat.mul_comm])
     have hm':j % κ.sz < κ.sz := Nat.mod_lt _ hsz
     have hadd:(⟨a.block,a.off + j,none⟩:Addr) = (a.add (j / κ.sz * κ.sz)).add (j % κ.sz) := by
       obtain ⟨ab,ao,asp⟩ := a
       have:asp = none := hsp.1
       subst this
       rw [add_lit,add_lit,Nat.add_assoc,Nat.div_add_mod' j κ.sz]
     rw [hadd,hcell _ _ (by omega) hm']
     rw [← flat_get κ xs (j / κ.sz) (j % κ.sz) hq hm',Nat.div_add_mod' j κ.sz]
     exact hj
theorem ros_slice {H:Type} {enc:TypeId × Value → H} {P:Program} {W:World} {r:Reach} {b0:Nat} {t e:TypeId} {κ:K} {good:κ.T → Prop} {v:Value} {d:DataW H} {ps:List MemPlace} (ht:P.underlying t = some (.slice e)) (hc:P.cellsOf e = κ.sz)
   (hel:∀ n cs x,DataW.trod enc P W 0 (fun _ => true) true n e cs = some x → ∃ y:κ.T,cs = κ.cells y ∧ good y) (hval:Value.okWide P W r b0 t v) (h:DataW.Trod enc P W 0 (fun _ => true) true t v d ps) (hok:∀ y:κ.T,good y → κ.okT (fun b => b < W.heap.size) W y := by exact fun y _ => _root_.Go.Proofs.Ytajomehkgaamoaa.Sx.inOk_noP _ [y] rfl y (by simp)) :
   ∃ xs:List κ.T,(∀ x ∈ xs,good x) ∧ xs.length < 9223372036854775808 ∧ RosOk (fun b => b < W.heap.size) W v κ xs := by
 obtain ⟨a0,l0,c0,rfl⟩ := okWide_slice' ht hval
 obtain ⟨fuel,h⟩ := h
 have hcs:(Value.slice a0 l0 c0).cells.toList = [.slice a0 l0 c0] := rfl
 rw [hcs] at h
 obtain ⟨v,hv,hx⟩ := ros_trod ht hc hel h hok
 cases hv
 exact hx
theorem wf64 {n:Int} (h:(Lit.int .i64 n).wf = true):-9223372036854775808 ≤ n ∧ n < 9223372036854775808 := by
 simp only [Lit.wf,Bool.and_eq_true,decide_eq_true_eq] at h
 have h1:IntKind.i64.min = -9223372036854775808 := by decide
 have h2:IntKind.i64.max = 9223372036854775807 := by decide
 rw [h1,h2] at h
 omega
theorem sound_of {P:Program} {f:FuncId} {c:List SV → Hp → (SV → Hp → Option (SV × Hp)) → Option (SV × Hp)} {args:List SV} {v:SV} {H':Hp} (h:FnOk P f c) (hc:c args [] (fun v H => some (v,H)) = some (v,H')):Sound P f args [] v H' := by
 obtain ⟨v,H',h1,h2⟩ := h _ _ _ _ hc
 cases h1
 exact h2
theorem law_calls {P:Program} {f:FuncId} {args:List SV} (hs:Sound P f args [] (.bool true) []) (W:World)
   (hok:∀ (ρ:Nat → Tk),SV.okL (fun b => b < W.heap.size) W ρ 0 args) :
   Calls P f (denL (fun _ => ⟨0,.slice none 0 0⟩) args).toArray W fun e W' => e = .returned (.bool true) ∧ Below W.heap.size W W' := by
 have := hs.run ⟨fun b => b < W.heap.size, W, fun b => W.heap.size ≤ b⟩ (fun _ => ⟨0, .slice none 0 0⟩) W
   { obj := by intro t o h; simp at h
     sep := by intro t t' b h; simp [blkOf] at h
     own := by intro t b h; simp [blkOf] at h
     hdr := fun t => ⟨none,0,0,rfl⟩
     keep := fun _ _ _ => rfl
     size := Nat.le_refl _
     os := rfl
     tape := rfl
     output := rfl
     ok := by intro t o h; simp at h
     fit := ⟨fun b h => h,fun b h => ⟨h,by show ¬ (W.heap.size ≤ b); have:b < W.heap.size := h; omega⟩⟩ } (hok _)
 refine this.mono fun e W' ⟨ρ',_,he,hR,_⟩ => ⟨by rw [he]; rfl,hR.os,hR.tape,hR.output,hR.size,fun k hk => hR.keep k hk (by show ¬ (W.heap.size ≤ k); omega)⟩
def LK.good:(k:LK) → k.T → Prop
 | .i k,n => (Lit.int k n).wf = true
 | .b,_ => True
 | .p,_ => True
def RT.good:(k:LK) → (ks:List LK) → RT k ks → Prop
 | k,[],x => k.good x
 | k,k' :: ks,x => k.good x.1 ∧ RT.good k' ks x.2
def Mt:List LK → List Value → Prop
 | [],[] => True
 | .i k :: ks,.int k' n :: cs => k' = k ∧ (Lit.int k n).wf = true ∧ Mt ks cs
 | .b :: ks,.bool _ :: cs => Mt ks cs
 | _,_ => False
theorem Mt.length:∀ {ks:List LK} {cs:List Value},Mt ks cs → cs.length = ks.length
 | [],[],_ => rfl
 | .i _ :: ks,.int _ _ :: cs,h => by simp [Mt.length (ks := ks) (cs := cs) h.2.2]
 | .b :: ks,.bool _ :: cs,h => by simp [Mt.length (ks := ks) (cs := cs) h]
 | [],_ :: _,h => h.elim
 | .i _ :: _,[],h => h.elim
 | .b :: _,[],h => h.elim
theorem Mt.append:∀ {ks ls:List LK} {cs ds:List Value},Mt ks cs → Mt ls ds → Mt (ks ++ ls) (cs ++ ds)
 | [],ls,[],ds,_,h => h
 | .i _ :: ks,ls,.int _ _ :: cs,ds,h,h' => ⟨h.1,h.2.1,Mt.append h.2.2 h'⟩
 | .b :: ks,ls,.bool _ :: cs,ds,h,h' => Mt.append (ks := ks) (cs := cs) h h'
 | [],_,_ :: _,_,h,_ => h.elim
 | .i _ :: _,_,[],_,h,_ => h.elim
 | .b :: _,_,[],_,h,_ => h.elim
theorem Mt.data:∀ {k:LK} {ks:List LK} {cs:List Value},Mt (k :: ks) cs → ∃ x:RT k ks,cs = RT.cells k ks x ∧ RT.good k ks x
 | .i k,[],[.int k' n],h => by obtain ⟨rfl,h2,_⟩ := h; exact ⟨n,rfl,h2⟩
 | .b,[],[.bool v],h => ⟨v,rfl,trivial⟩
 | .i k,k2 :: ks,.int k' n :: cs,h => by
   obtain ⟨rfl,h2,h3⟩ := h
   obtain ⟨x,rfl,hx⟩ := Mt.data h3
   exact ⟨(n,x),rfl,h2,hx⟩
 | .b,k2 :: ks,.bool v :: cs,h => by
   obtain ⟨x,rfl,hx⟩ := Mt.data (cs := cs) (k := k2) (ks := ks) h
   exact ⟨(v,x),rfl,trivial,hx⟩
 | .i _,[],.int _ _ :: _ :: _,h => h.2.2.elim
 | .b,[],.bool _ :: _ :: _,h => h.elim
 | .i _,_,[],h => h.elim
 | .b,_,[],h => h.elim
def shpFs (P:Program) (f:TypeId → Option (List LK)):List Field → Nat → Option (List LK)
 | [],_ => some []
 | x :: l,off => if x.offset = off then (f x.type).bind fun ks => if ks.length = P.cellsOf x.type then (shpFs P f l (off + ks.length)).map fun ls => ks ++ ls else none else none
def rep {α:Type}:Nat → List α → List α
 | 0,_ => []
 | n + 1,l => l ++ rep n l
def shp (P:Program):Nat → TypeId → Option (List LK)
 | 0,_ => none
 | d + 1, t => match P.underlying t with
   | some (.int k) => some [.i k]
   | some .bool => some [.b]
   | some (.struct fs) => (shpFs P (shp P d) fs.toList 0).bind fun ks => if ks.length = P.cellsOf t then some ks else none
   | some (.array n e) => (shp P d e).bind fun ks => if ks.length = P.cellsOf e ∧ n * ks.length = P.cellsOf t then some (rep n ks) else none
   | _ => none
theorem trod_bool' {H:Type} {enc:TypeId × Value → H} {P:Program} {W:World} {b:Nat} {sp:Nat → Bool} {hd:Bool} {t:TypeId} {n:Nat} {cs:List Value} {x:DataW H × List MemPlace}
   (ht:P.underlying t = some .bool) (h:DataW.trod enc P W b sp hd n t cs = some x):∃ v,cs = [.bool v] := by
 cases n with
 | zero => simp [DataW.trod] at h
 | succ n =>
   unfold DataW.trod at h
   rw [ht] at h
   split at h <;> simp_all
theorem trod_shp {H:Type} {enc:TypeId × Value → H} {P:Program} {W:World} {b:Nat} {sp:Nat → Bool} {hd:Bool}:∀ (d:Nat) (t:TypeId) (ks:List LK),shp P d t = some ks →
   ∀ (n:Nat) (cs:List Value) (x:DataW H × List MemPlace),DataW.trod enc P W b sp hd n t cs = some x → Mt ks cs
 | 0,t,ks,h => by simp [shp] at h
 | d + 1,t,ks,h => by
   intro n cs x hx
   have ih := trod_shp (enc := enc) (P := P) (W := W) (b := b) (sp := sp) (hd := hd) d
   unfold shp at h
   split at h
   · rename_i k ht
     cases h
     obtain ⟨m,rfl,_,hw⟩ := DataW.trod_int ht hx
     exact ⟨rfl,hw,trivial⟩
   · rename_i ht
     cases h
     obtain ⟨v,rfl⟩ := trod_bool' ht hx
     trivial
   · rename_i fs ht
     rw [Option.bind_eq_some_iff] at h
     obtain ⟨ks',h1,h2⟩ := h
     split at h2
     · rename_i hl
       cases h2
       obtain ⟨xs,m,_,_,hlen,hxl,hf⟩ := DataW.trod_struct ht hx
       have each:∀ f ∈ fs.toList,∃ x,DataW.trod enc P W b sp hd m f.type ((cs.drop f.offset).take (P.cellsOf f.type)) = some x := by
         intro f hf'
         obtain ⟨i,hi,rfl⟩ := List.mem_iff_getElem.1 hf'
         have hi':i < fs.size := by simpa using hi
         have := hf i _ (by simp [hi']:fs[i]? = some (fs.toList[i]))
         exact ⟨xs[i]'(by omega),by rw [this]; simp [show i < xs.length by omega]⟩
       have main:∀ (l:List Field) (off:Nat) (ks:List LK),(∀ f ∈ l,∃ x,DataW.trod enc P W b sp hd m f.type ((cs.drop f.offset).take (P.cellsOf f.type)) = some x) →
           shpFs P (shp P d) l off = some ks → cs.length = off + ks.length → Mt ks (cs.drop off) := by
         intro l
         induction l with
         | nil =>
           intro off ks _ hk hl2
           simp [shpFs] at hk
           subst hk
           rw [List.drop_eq_nil_of_le (by simp at hl2; omega)]
           trivial
         | cons f l ihl =>
           intro off ks he hk hl2
           unfold shpFs at hk
           split at hk
           · rename_i ho
             rw [Option.bind_eq_some_iff] at hk
             obtain ⟨k1,a1,a2⟩ := hk
             split at a2
             · rename_i hk1
               rw [Option.map_eq_some_iff] at a2
               obtain ⟨k2,a3,rfl⟩ := a2
               obtain ⟨y,hy⟩ := he f (by simp)
               have m1 := ih _ _ a1 _ _ _ hy
               have m2 := ihl (off + k1.length) k2 (fun g hg => he g (by simp [hg])) a3 (by simp at hl2; omega)
               rw [ho,← hk1] at m1
               have e:cs.drop off = (cs.drop off).take k1.length ++ cs.drop (off + k1.length) := by
                 rw [← List.drop_drop,List.take_append_drop]
               rw [e]
               exact m1.append m2
             · cases a2
           · cases hk
       have := main fs.toList 0 _ each h1 (by omega)
       simpa using this
     · cases h2
   · rename_i n' e ht
     rw [Option.bind_eq_some_iff] at h
     obtain ⟨k1,h1,h2⟩ := h
     split at h2
     · rename_i hl
       cases h2
       obtain ⟨xs,m,_,_,hlen,hxl,hf⟩ := DataW.trod_array ht hx
       have each:∀ i,i < n' → Mt k1 ((cs.drop (i * k1.length)).take k1.length) := by
         intro i hi
         have := hf i hi
         rw [List.getElem?_eq_getElem (by omega)] at this
         have := ih _ _ h1 _ _ _ this
         rwa [← hl.1] at this
       have main:∀ j,j ≤ n' → Mt (rep j k1) (cs.drop ((n' - j) * k1.length)) := by
         intro j
         induction j with
         | zero =>
           intro _
           rw [List.drop_eq_nil_of_le (by simp; omega)]
           trivial
         | succ j ihj =>
           intro hj
           have m1 := each (n' - (j + 1)) (by omega)
           have m2 := ihj (by omega)
           have e0:(n' - (j + 1)) * k1.length + k1.length = (n' - j) * k1.length := by
             rw [show n' - j = (n' - (j + 1)) + 1 by omega,Nat.add_mul]; omega
           have e:cs.drop ((n' - (j + 1)) * k1.length) = (cs.drop ((n' - (j + 1)) * k1.length)).take k1.length ++ cs.drop ((n' - j) * k1.length) := by
             rw [← e0,← List.drop_drop,List.take_append_drop]
           rw [e]
           exact m1.append m2
       have := main n' (Nat.le_refl _)
       simpa using this
     · cases h2
   · cases h
theorem el_st {H:Type} {enc:TypeId × Value → H} {P:Program} {W:World} {t:TypeId} {k:LK} {ks:List LK} (d:Nat) (hs:shp P d t = some (k :: ks)) :
   ∀ n cs x,DataW.trod enc P W 0 (fun _ => true) true n t cs = some x → ∃ y:(K.st k ks).T,cs = (K.st k ks).cells y ∧ RT.good k ks y :=
 fun n cs x h => (trod_shp d t _ hs n cs x h).data
inductive RK where
 | leaf (k:LK) | sl (t:TypeId)
def MtR {H:Type} (enc:TypeId × Value → H) (P:Program) (W:World):List RK → List Value → Prop
 | [],[] => True
 | .leaf (.i k) :: ks,.int k' n :: cs => k' = k ∧ (Lit.int k n).wf = true ∧ MtR enc P W ks cs
 | .leaf .b :: ks,.bool _ :: cs => MtR enc P W ks cs
 | .sl t :: ks,v :: cs => (∃ fuel x,DataW.trod enc P W 0 (fun _ => true) true fuel t [v] = some x) ∧ MtR enc P W ks cs
 | _,_ => False
theorem MtR.append {H:Type} {enc:TypeId × Value → H} {P:Program} {W:World}:∀ {ks ls:List RK} {cs ds:List Value},MtR enc P W ks cs → MtR enc P W ls ds → MtR enc P W (ks ++ ls) (cs ++ ds)
 | [],ls,[],ds,_,h => h
 | .leaf (.i _) :: ks,ls,.int _ _ :: cs,ds,h,h' => ⟨h.1,h.2.1,MtR.append h.2.2 h'⟩
 | .leaf .b :: ks,ls,.bool _ :: cs,ds,h,h' => MtR.append (ks := ks) (cs := cs) h h'
 | .sl _ :: ks,ls,v :: cs,ds,h,h' => ⟨h.1,MtR.append h.2 h'⟩
theorem MtR.cs {H:Type} {enc:TypeId × Value → H} {P:Program} {W:World} {t:TypeId} {ks:List RK}:∀ {cs:List Value},MtR enc P W (.sl t :: ks) cs → ∃ v cs',cs = v :: cs' ∧ (∃ fuel x,DataW.trod enc P W 0 (fun _ => true) true fuel t [v] = some x) ∧ MtR enc P W ks cs'
 | v :: cs,h => ⟨v,cs,rfl,h.1,h.2⟩
theorem MtR.nil {H:Type} {enc:TypeId × Value → H} {P:Program} {W:World}:∀ {cs:List Value},MtR enc P W [] cs → cs = []
 | [],_ => rfl
noncomputable def _root_.Go.Proofs.Ytajomehkgaamoaa.V.gB (p:Prop):Bool := open Classical in Classical.choose (⟨decide p,rfl⟩:∃ r:Bool,r = decide p)
theorem gB_of {p:Prop} (h:p):V.gB p = true := by
 have e:V.gB p = _ := Classical.choose_spec (⟨open Classical in decide p,rfl⟩:∃ r:Bool,r = open Classical in decide p)
 rw [e]; simp [h]
theorem gB_iff {p:Prop} (h:V.gB p = true):p := by
 have e:V.gB p = _ := Classical.choose_spec (⟨open Classical in decide p,rfl⟩:∃ r:Bool,r = open Classical in decide p)
 rw [e] at h; simpa using h
end
section
open Go
set_option maxRecDepth 20000
noncomputable def look_ChR_dvunit {α:Type}:LookF α := addFn 24 (fEnt dvunit_sp dvunit_h) look_chcheck
theorem look_ChR_dvunit_ok {α:Type}:LookOk E.P (look_ChR_dvunit (α := α)) := addFn_ok dvunit_h_ok (look_chcheck_ok)
noncomputable def look_ChR_dvlen {α:Type}:LookF α := addFn 25 (fEnt dvlen_sp dvlen_h) look_ChR_dvunit
theorem look_ChR_dvlen_ok {α:Type}:LookOk E.P (look_ChR_dvlen (α := α)) := addFn_ok dvlen_h_ok (look_ChR_dvunit_ok)
noncomputable abbrev chright_S1 (y1:Value) (y2:List (Int × Int × Int × Int × Int × Int × Int × Int × Int × Int × Bool × Int × Int × Int × Int)) (y3:Int) (y4:List (Int × Int × Int × Int × Int × Int × Int × Int × Int × Int × Bool × Int × Int × Int × Int)):St := St.mk (some (SV.ros y1 (K.st (LK.i IntKind.i64) [LK.i IntKind.i64,LK.i IntKind.i64,LK.i IntKind.i64,LK.i IntKind.i64,LK.i IntKind.i64,LK.i IntKind.i64,LK.i IntKind.i64,LK.i IntKind.i64,LK.i IntKind.i64,LK.b,LK.i IntKind.i64,LK.i IntKind.i64,LK.i IntKind.i64,LK.i IntKind.i64]) y2) :: none :: none :: some (SV.sl (nat_lit 0)) :: some (SV.int .i64 y3) :: nn 74 ([])) [.seq (K.st (LK.i IntKind.i64) [LK.i IntKind.i64,LK.i IntKind.i64,LK.i IntKind.i64,LK.i IntKind.i64,LK.i IntKind.i64,LK.i IntKind.i64,LK.i IntKind.i64,LK.i IntKind.i64,LK.i IntKind.i64,LK.b,LK.i IntKind.i64,LK.i IntKind.i64,LK.i IntKind.i64,LK.i IntKind.i64]) y4 (nat_lit 35)]
noncomputable abbrev chright_S2 (y1:List (Int × Int × Int × Int × Int × Int × Int × Int × Int × Int × Bool × Int × Int × Int × Int)):St := St.mk (nn 3 (some (SV.sl (nat_lit 0)) :: nn 75 ([]))) [.seq (K.st (LK.i IntKind.i64) [LK.i IntKind.i64,LK.i IntKind.i64,LK.i IntKind.i64,LK.i IntKind.i64,LK.i IntKind.i64,LK.i IntKind.i64,LK.i IntKind.i64,LK.i IntKind.i64,LK.i IntKind.i64,LK.b,LK.i IntKind.i64,LK.i IntKind.i64,LK.i IntKind.i64,LK.i IntKind.i64]) y1 (nat_lit 35)]
noncomputable abbrev chright_S3:St := St.mk (some (SV.ros undef (K.st (LK.i IntKind.i64) [LK.i IntKind.i64,LK.i IntKind.i64,LK.i IntKind.i64,LK.i IntKind.i64,LK.i IntKind.i64,LK.i IntKind.i64,LK.i IntKind.i64,LK.i IntKind.i64,LK.i IntKind.i64,LK.b,LK.i IntKind.i64,LK.i IntKind.i64,LK.i IntKind.i64,LK.i IntKind.i64]) []) :: none :: none :: some (SV.sl (nat_lit 0)) :: some (SV.int .i64 (0:Int)) :: nn 74 ([])) [.seq (K.st (LK.i IntKind.i64) [LK.i IntKind.i64,LK.i IntKind.i64,LK.i IntKind.i64,LK.i IntKind.i64,LK.i IntKind.i64,LK.i IntKind.i64,LK.i IntKind.i64,LK.i IntKind.i64,LK.i IntKind.i64,LK.b,LK.i IntKind.i64,LK.i IntKind.i64,LK.i IntKind.i64,LK.i IntKind.i64]) [] (nat_lit 35)]
noncomputable def M.chright_l0_step {α:Type} (x6:List (Int × Int × Int × Int × Int × Int × Int × Int × Int × Int × Bool × Int × Int × Int × Int)) (kn:Int → List (Int × Int × Int × Int × Int × Int × Int × Int × Int × Int × Bool × Int × Int × Int × Int) → Option α) (k1:List (Int × Int × Int × Int × Int × Int × Int × Int × Int × Int × Bool × Int × Int × Int × Int) → Option α) (x7:Int) (x8:List (Int × Int × Int × Int × Int × Int × Int × Int × Int × Int × Bool × Int × Int × Int × Int)):Option α := let s9:Int := IntKind.wrap .i64 (x7 + (1:Int)); let s10:Int := (↑(List.length x6):Int); let s11:K.T (K.st (LK.i IntKind.i64) [LK.i IntKind.i64,LK.i IntKind.i64,LK.i IntKind.i64,LK.i IntKind.i64,LK.i IntKind.i64,LK.i IntKind.i64,LK.i IntKind.i64,LK.i IntKind.i64,LK.i IntKind.i64,LK.b,LK.i IntKind.i64,LK.i IntKind.i64,LK.i IntKind.i64,LK.i IntKind.i64]) := List.getD x6 (Int.toNat x7) ((0:Int),(0:Int),(0:Int),(0:Int),(0:Int),(0:Int),(0:Int),(0:Int),(0:Int),(0:Int),false,(0:Int),(0:Int),(0:Int),(0:Int)); let s12:RT (LK.i IntKind.i64) [LK.i IntKind.i64,LK.i IntKind.i64,LK.i IntKind.i64,LK.i IntKind.i64,LK.i IntKind.i64,LK.i IntKind.i64,LK.i IntKind.i64,LK.i IntKind.i64,LK.b,LK.i IntKind.i64,LK.i IntKind.i64,LK.i IntKind.i64,LK.i IntKind.i64] := Prod.snd s11; let s13:LK.T (LK.i IntKind.i64) := Prod.fst s11; let s14:RT (LK.i IntKind.i64) [LK.i IntKind.i64,LK.i IntKind.i64,LK.i IntKind.i64,LK.i IntKind.i64,LK.i IntKind.i64,LK.i IntKind.i64,LK.i IntKind.i64,LK.b,LK.i IntKind.i64,LK.i IntKind.i64,LK.i IntKind.i64,LK.i IntKind.i64] := Prod.snd s12; let s15:LK.T (LK.i IntKind.i64) := Prod.fst s12; let s16:RT (LK.i IntKind.i64) [LK.i IntKind.i64,LK.i IntKind.i64,LK.i IntKind.i64,LK.i IntKind.i64,LK.i IntKind.i64,LK.i IntKind.i64,LK.b,LK.i IntKind.i64,LK.i IntKind.i64,LK.i IntKind.i64,LK.i IntKind.i64] := Prod.snd s14; let s17:LK.T (LK.i IntKind.i64) := Prod.fst s14; let s18:LK.T (LK.i IntKind.i64) := Prod.fst s16; let s19:RT (LK.i IntKind.i64) [LK.i IntKind.i64,LK.i IntKind.i64,LK.i IntKind.i64,LK.i IntKind.i64,LK.i IntKind.i64,LK.b,LK.i IntKind.i64,LK.i IntKind.i64,LK.i IntKind.i64,LK.i IntKind.i64] := Prod.snd s16; let s20:RT (LK.i IntKind.i64) [LK.i IntKind.i64,LK.i IntKind.i64,LK.i IntKind.i64,LK.i IntKind.i64,LK.b,LK.i IntKind.i64,LK.i IntKind.i64,LK.i IntKind.i64,LK.i IntKind.i64] := Prod.snd s19; let s21:LK.T (LK.i IntKind.i64) := Prod.fst s19; let s22:LK.T (LK.i IntKind.i64) := Prod.fst s20; let s23:RT (LK.i IntKind.i64) [LK.i IntKind.i64,LK.i IntKind.i64,LK.i IntKind.i64,LK.b,LK.i IntKind.i64,LK.i IntKind.i64,LK.i IntKind.i64,LK.i IntKind.i64] := Prod.snd s20; let s24:LK.T (LK.i IntKind.i64) := Prod.fst s23; let s25:RT (LK.i IntKind.i64) [LK.i IntKind.i64,LK.i IntKind.i64,LK.b,LK.i IntKind.i64,LK.i IntKind.i64,LK.i IntKind.i64,LK.i IntKind.i64] := Prod.snd s23; let s26:RT (LK.i IntKind.i64) [LK.i IntKind.i64,LK.b,LK.i IntKind.i64,LK.i IntKind.i64,LK.i IntKind.i64,LK.i IntKind.i64] := Prod.snd s25; let s27:LK.T (LK.i IntKind.i64) := Prod.fst s25; let s28:RT (LK.i IntKind.i64) [LK.b,LK.i IntKind.i64,LK.i IntKind.i64,LK.i IntKind.i64,LK.i IntKind.i64] := Prod.snd s26; let s29:LK.T (LK.i IntKind.i64) := Prod.fst s26; let s30:RT LK.b [LK.i IntKind.i64,LK.i IntKind.i64,LK.i IntKind.i64,LK.i IntKind.i64] := Prod.snd s28; let s31:LK.T (LK.i IntKind.i64) := Prod.fst s28; let s32:RT (LK.i IntKind.i64) [LK.i IntKind.i64,LK.i IntKind.i64,LK.i IntKind.i64] := Prod.snd s30; let s33:LK.T (LK.i IntKind.i64) := Prod.fst s32; let s34:RT (LK.i IntKind.i64) [LK.i IntKind.i64,LK.i IntKind.i64] := Prod.snd s32; let s35:RT (LK.i IntKind.i64) [LK.i IntKind.i64] := Prod.snd s34; let s36:LK.T (LK.i IntKind.i64) := Prod.fst s34; let s37:RT (LK.i IntKind.i64) [] := Prod.snd s35; let s38:LK.T (LK.i IntKind.i64) := Prod.fst s35; let s39:Option V.T3 := V.tUnit (V.lvec_r0 s15 s17 s18 (1073741824:Int),V.lvec_r1 s15 s17 s18 (1073741824:Int),V.lvec_r2 s15 s17 s18 (1073741824:Int)); let s40:Option Int := V.tLen (V.q3 s39); let s41:Int := V.gv s40; let s42:LK.T (LK.i IntKind.i64) × RT (LK.i IntKind.i64) [LK.i IntKind.i64,LK.i IntKind.i64,LK.i IntKind.i64,LK.i IntKind.i64,LK.b,LK.i IntKind.i64,LK.i IntKind.i64,LK.i IntKind.i64,LK.i IntKind.i64] := (V.lvec_r0 s21 s22 s24 (34359738368:Int),V.lvec_r1 s21 s22 s24 (34359738368:Int),V.lvec_r2 s21 s22 s24 (34359738368:Int),V.lvec_r0 s27 s29 s31 (34359738368:Int),V.lvec_r1 s27 s29 s31 (34359738368:Int),V.lvec_r2 s27 s29 s31 (34359738368:Int),Prod.fst s30,V.part_r0 s33 (17179869184:Int),V.part_r0 s36 (17179869184:Int),V.part_r0 s38 (17179869184:Int),IntKind.wrap .i64 ((16777216:Int) + V.pick_r0 s37 (68719476736:Int))); if cLt x7 s10 = true then if cLt x7 (12:Int) = true then if (0:Int) ≤ x7 ∧ x7 < s10 then if V.lvec_g s15 s17 s18 (1073741824:Int) = true then if V.gn s40 (V.on s39 false) = true then if V.pick_g s13 s9 = true then if V.lvec_g s21 s22 s24 (34359738368:Int) = true then if V.lvec_g s27 s29 s31 (34359738368:Int) = true then if V.part_g s33 (17179869184:Int) = true then if V.part_g s36 (17179869184:Int) = true then if V.part_g s38 (17179869184:Int) = true then if V.pick_g s37 (68719476736:Int) = true then if (List.length x8 + ((0:Nat) + (1:Nat))) * (120:Nat) ≤ (140737488355328:Nat) then kn s9 (x8 ++ [(IntKind.wrap .i64 (V.pick_r0 s13 s9 - (1:Int)),(0:Int),(0:Int),(4294967296:Int),s42)]) else none else none else none else none else none else none else none else none else if cLt s41 (4294967288:Int) = true then if V.pick_g s13 s9 = true then if V.lvec_g s21 s22 s24 (34359738368:Int) = true then if V.lvec_g s27 s29 s31 (34359738368:Int) = true then if V.part_g s33 (17179869184:Int) = true then if V.part_g s36 (17179869184:Int) = true then if V.part_g s38 (17179869184:Int) = true then if V.pick_g s37 (68719476736:Int) = true then if (List.length x8 + ((0:Nat) + (1:Nat))) * (120:Nat) ≤ (140737488355328:Nat) then kn s9 (x8 ++ [(IntKind.wrap .i64 (V.pick_r0 s13 s9 - (1:Int)),(0:Int),(0:Int),(4294967296:Int),s42)]) else none else none else none else none else none else none else none else none else if cLt (4294967304:Int) s41 = true then if V.pick_g s13 s9 = true then if V.lvec_g s21 s22 s24 (34359738368:Int) = true then if V.lvec_g s27 s29 s31 (34359738368:Int) = true then if V.part_g s33 (17179869184:Int) = true then if V.part_g s36 (17179869184:Int) = true then if V.part_g s38 (17179869184:Int) = true then if V.pick_g s37 (68719476736:Int) = true then if (List.length x8 + ((0:Nat) + (1:Nat))) * (120:Nat) ≤ (140737488355328:Nat) then kn s9 (x8 ++ [(IntKind.wrap .i64 (V.pick_r0 s13 s9 - (1:Int)),(0:Int),(0:Int),(4294967296:Int),s42)]) else none else none else none else none else none else none else none else none else if V.pick_g s13 s9 = true then if V.lvec_g s21 s22 s24 (34359738368:Int) = true then if V.lvec_g s27 s29 s31 (34359738368:Int) = true then if V.part_g s33 (17179869184:Int) = true then if V.part_g s36 (17179869184:Int) = true then if V.part_g s38 (17179869184:Int) = true then if V.pick_g s37 (68719476736:Int) = true then if (List.length x8 + ((0:Nat) + (1:Nat))) * (120:Nat) ≤ (140737488355328:Nat) then kn s9 (x8 ++ [(IntKind.wrap .i64 (V.pick_r0 s13 s9 - (1:Int)),V.x3 s39,V.y3 s39,V.z3 s39,s42)]) else none else none else none else none else none else none else none else none else none else none else k1 x8 else k1 x8
noncomputable def M.chright_l0 {α:Type} (x6:List (Int × Int × Int × Int × Int × Int × Int × Int × Int × Int × Bool × Int × Int × Int × Int)) (k1:List (Int × Int × Int × Int × Int × Int × Int × Int × Int × Int × Bool × Int × Int × Int × Int) → Option α):Nat → Int → List (Int × Int × Int × Int × Int × Int × Int × Int × Int × Int × Bool × Int × Int × Int × Int) → Option α
 | 0,_,_ => none
 | n + 1,x7,x8 => M.chright_l0_step x6 (M.chright_l0 x6 k1 n) k1 x7 x8
theorem chright_l0_step_eq {α:Type} (x5:Value) (x6:List (Int × Int × Int × Int × Int × Int × Int × Int × Int × Int × Bool × Int × Int × Int × Int)) (x7:Int) (x8:List (Int × Int × Int × Int × Int × Int × Int × Int × Int × Int × Bool × Int × Int × Int × Int)) (Q:Ex → St → Option α):(loopStep E (exec E look_ChR_dvlen noLps 400) 8 [false,true,false,true,true] 0 (codeAt E.P 8 [false,true,false,true,true])) (chright_S1 x5 x6 x7 x8) Q = M.chright_l0_step x6 (fun (x44:Int) (x45:List (Int × Int × Int × Int × Int × Int × Int × Int × Int × Int × Bool × Int × Int × Int × Int)) => Q .normal (chright_S1 x5 x6 x44 x45)) (fun (x43:List (Int × Int × Int × Int × Int × Int × Int × Int × Int × Int × Bool × Int × Int × Int × Int)) => Q (.exit 0) (chright_S2 x43)) x7 x8 := by kernel_rfl
theorem chright_l0_iter {α:Type} (x5:Value) (x6:List (Int × Int × Int × Int × Int × Int × Int × Int × Int × Int × Bool × Int × Int × Int × Int)) (Q:Ex → St → Option α):∀ (n:Nat) (x7:Int) (x8:List (Int × Int × Int × Int × Int × Int × Int × Int × Int × Int × Bool × Int × Int × Int × Int)),iter (loopStep E (exec E look_ChR_dvlen noLps 400) 8 [false,true,false,true,true] 0 (codeAt E.P 8 [false,true,false,true,true])) n (chright_S1 x5 x6 x7 x8) Q = M.chright_l0 x6 (fun (x43:List (Int × Int × Int × Int × Int × Int × Int × Int × Int × Int × Bool × Int × Int × Int × Int)) => Q (.exit 0) (chright_S2 x43)) n x7 x8
 | 0,_,_ => rfl
 | n + 1,x7,x8 => (chright_l0_step_eq x5 x6 x7 x8 (iterK (loopStep E (exec E look_ChR_dvlen noLps 400) 8 [false,true,false,true,true] 0 (codeAt E.P 8 [false,true,false,true,true])) n Q)).trans (congrArg (fun kn => M.chright_l0_step x6 kn (fun (x43:List (Int × Int × Int × Int × Int × Int × Int × Int × Int × Int × Bool × Int × Int × Int × Int)) => Q (.exit 0) (chright_S2 x43)) x7 x8) (funext fun x7 => funext fun x8 => chright_l0_iter x5 x6 Q n x7 x8))
noncomputable def chright_l0_go {α:Type} (ds:List D) (Q:Ex → St → Option α):Option α :=
 dV ds fun x5 ds => dL (K.st (LK.i IntKind.i64) [LK.i IntKind.i64,LK.i IntKind.i64,LK.i IntKind.i64,LK.i IntKind.i64,LK.i IntKind.i64,LK.i IntKind.i64,LK.i IntKind.i64,LK.i IntKind.i64,LK.i IntKind.i64,LK.b,LK.i IntKind.i64,LK.i IntKind.i64,LK.i IntKind.i64,LK.i IntKind.i64]) ds fun x6 ds => dI ds fun x7 ds => dL (K.st (LK.i IntKind.i64) [LK.i IntKind.i64,LK.i IntKind.i64,LK.i IntKind.i64,LK.i IntKind.i64,LK.i IntKind.i64,LK.i IntKind.i64,LK.i IntKind.i64,LK.i IntKind.i64,LK.i IntKind.i64,LK.b,LK.i IntKind.i64,LK.i IntKind.i64,LK.i IntKind.i64,LK.i IntKind.i64]) ds fun x8 ds => dE ds (M.chright_l0 x6 (fun (x43:List (Int × Int × Int × Int × Int × Int × Int × Int × Int × Int × Bool × Int × Int × Int × Int)) => Q (.exit 0) (chright_S2 x43)) (100 + x6.length + x8.length) x7 x8)
theorem chright_l0_ok {α:Type}:LoopOk E.P 8 [false,true,false,true,true] 0 (lEnt (α := α) (chright_S3) chright_l0_go) :=
 lEnt_ok E (exec_sound E E_ok (look_ChR_dvlen_ok) (noLps_ok _) 400) fun ds Q r h S hS => by
   unfold chright_l0_go at h
   obtain ⟨x5,ds,rfl,h1⟩ := dV_inv h
   obtain ⟨x6,ds,rfl,h2⟩ := dL_inv h1
   obtain ⟨x7,ds,rfl,h3⟩ := dI_inv h2
   obtain ⟨x8,ds,rfl,h4⟩ := dL_inv h3
   obtain ⟨rfl,hE⟩ := dE_inv h4
   have e:fillS (chright_S3) [.v x5,.l (K.st (LK.i IntKind.i64) [LK.i IntKind.i64,LK.i IntKind.i64,LK.i IntKind.i64,LK.i IntKind.i64,LK.i IntKind.i64,LK.i IntKind.i64,LK.i IntKind.i64,LK.i IntKind.i64,LK.i IntKind.i64,LK.b,LK.i IntKind.i64,LK.i IntKind.i64,LK.i IntKind.i64,LK.i IntKind.i64]) x6,.i x7,.l (K.st (LK.i IntKind.i64) [LK.i IntKind.i64,LK.i IntKind.i64,LK.i IntKind.i64,LK.i IntKind.i64,LK.i IntKind.i64,LK.i IntKind.i64,LK.i IntKind.i64,LK.i IntKind.i64,LK.i IntKind.i64,LK.b,LK.i IntKind.i64,LK.i IntKind.i64,LK.i IntKind.i64,LK.i IntKind.i64]) x8] = some (chright_S1 x5 x6 x7 x8) := by kernel_rfl
   rw [e] at hS
   cases hS
   exact ⟨_,(chright_l0_iter x5 x6 Q _ x7 x8).trans hE⟩
noncomputable def chright_l0_lps {α:Type}:LookL α := addLp 8 [false,true,false,true,true] 0 (lEnt (chright_S3) chright_l0_go) noLps
theorem chright_l0_lps_ok {α:Type}:LoopsOk E.P (chright_l0_lps (α := α)) := addLp_ok chright_l0_ok (noLps_ok _)
noncomputable def M.chright {α:Type} (l:List (Int × Int × Int × Int × Int × Int × Int × Int × Int × Int × Bool × Int × Int × Int × Int)) (k0:List (Int × Int × Int × Int × Int × Int × Int × Int × Int × Int × Bool × Int × Int × Int × Int) → Option α):Option α := M.chright_l0 l (fun (x47:List (Int × Int × Int × Int × Int × Int × Int × Int × Int × Int × Bool × Int × Int × Int × Int)) ↦ k0 x47) ((100:Nat) + List.length l + (0:Nat)) (0:Int) []
theorem chright_eq {α:Type} (l:List (Int × Int × Int × Int × Int × Int × Int × Int × Int × Int × Bool × Int × Int × Int × Int)) (v46:Value) (Q:SV → Hp → Option α):callI E look_ChR_dvlen (exec E look_ChR_dvlen chright_l0_lps 400) 8 ([SV.ros v46 (K.st (LK.i IntKind.i64) [LK.i IntKind.i64,LK.i IntKind.i64,LK.i IntKind.i64,LK.i IntKind.i64,LK.i IntKind.i64,LK.i IntKind.i64,LK.i IntKind.i64,LK.i IntKind.i64,LK.i IntKind.i64,LK.b,LK.i IntKind.i64,LK.i IntKind.i64,LK.i IntKind.i64,LK.i IntKind.i64]) l]) ([]) Q = M.chright l (fun (x48:List (Int × Int × Int × Int × Int × Int × Int × Int × Int × Int × Bool × Int × Int × Int × Int)) => Q (SV.sl (nat_lit 0)) ([.seq (K.st (LK.i IntKind.i64) [LK.i IntKind.i64,LK.i IntKind.i64,LK.i IntKind.i64,LK.i IntKind.i64,LK.i IntKind.i64,LK.i IntKind.i64,LK.i IntKind.i64,LK.i IntKind.i64,LK.i IntKind.i64,LK.b,LK.i IntKind.i64,LK.i IntKind.i64,LK.i IntKind.i64,LK.i IntKind.i64]) x48 (nat_lit 35)])) := by kernel_rfl
def chright_sp:List AS := [.ro (.st (.i .i64) [.i .i64,.i .i64,.i .i64,.i .i64,.i .i64,.i .i64,.i .i64,.i .i64,.i .i64,.b,.i .i64,.i .i64,.i .i64,.i .i64])]
theorem pick_bdc {c n:Int} (hc:-9223372036854775808 ≤ c ∧ c < 9223372036854775808) (hn:0 < n ∧ n < 4611686018427387904):0 ≤ V.pick_r0 c n ∧ V.pick_r0 c n < n := by
 unfold V.pick_r0
 rw [cLt_eq]
 by_cases h0:c < 0
 · have c1 : decide (c < 0) = true := decide_eq_true h0
   simp only [c1,if_true]
   rw [IntWalk.i64_in (c + 1) (by omega),IntWalk.i64_in (0 - (c + 1)) (by omega),Int.tmod_eq_emod_of_nonneg (show 0 ≤ 0 - (c + 1) by omega),if_neg (by omega)]
   exact ⟨Int.emod_nonneg _ (by omega),Int.emod_lt_of_pos _ hn.1⟩
 · have c1 : decide (c < 0) = false := decide_eq_false h0
   simp only [c1,if_true,Bool.false_eq_true,if_false]
   rw [Int.tmod_eq_emod_of_nonneg (show 0 ≤ c by omega),if_neg (by omega)]
   exact ⟨Int.emod_nonneg _ (by omega),Int.emod_lt_of_pos _ hn.1⟩
theorem pick_ge {c n:Int} (h:n ≠ 0):V.pick_g c n = true := by
 unfold V.pick_g
 rw [if_neg h,ite_self]
theorem most_eq {m:Int} (h:0 ≤ m ∧ m ≤ 1099511627776):IntKind.wrap .i64 (IntKind.wrap .i64 (2 * m) + 1) = 2 * m + 1 := by
 rw [IntWalk.i64_in (2 * m) (by omega),IntWalk.i64_in _ (by omega)]
theorem part_ge {n m:Int} (h:0 ≤ m ∧ m ≤ 1099511627776):V.part_g n m = true := by
 unfold V.part_g
 rw [most_eq h,pick_ge (by omega),if_pos rfl]
theorem lvec_ge {x y z m:Int} (h:0 ≤ m ∧ m ≤ 1099511627776):V.lvec_g x y z m = true := by
 unfold V.lvec_g
 rw [part_ge h,part_ge h,part_ge h,if_pos rfl,if_pos rfl,if_pos rfl]
theorem lvec_is {x y z m:Int} (h:0 ≤ m ∧ m ≤ 1099511627776):V.lvec_r0 x y z m = V.part_r0 x m ∧ V.lvec_r1 x y z m = V.part_r0 y m ∧ V.lvec_r2 x y z m = V.part_r0 z m := by
 unfold V.lvec_r0 V.lvec_r1 V.lvec_r2
 rw [part_ge h,part_ge h,part_ge h]
 exact ⟨rfl,rfl,rfl⟩
theorem part_bd {n m:Int} (hn:-9223372036854775808 ≤ n ∧ n < 9223372036854775808) (h:0 ≤ m ∧ m ≤ 1099511627776):Inn (V.part_r0 n m) m := by
 unfold V.part_r0
 rw [most_eq h,pick_ge (by omega),if_pos rfl]
 have := pick_bdc hn (n := 2 * m + 1) (by omega)
 rw [IntWalk.i64_in _ (by omega)]
 unfold Inn; omega
noncomputable def rAx (v:V.T3):V.T3 :=
 match V.tUnit v with
 | none => (0,0,4294967296)
 | some a => match V.tLen a with
   | none => (0,0,4294967296)
   | some n => if 4294967288 ≤ n ∧ n ≤ 4294967304 then a else (0,0,4294967296)
noncomputable def pt3 (v:V.T3) (m:Int):V.T3 := (V.part_r0 v.1 m,V.part_r0 v.2.1 m,V.part_r0 v.2.2 m)
noncomputable def rgt (i:Nat) (x:L15):L15 :=
 (IntKind.wrap .i64 (V.pick_r0 x.1 ((i + 1:Nat):Int) - 1),(rAx (pt3 (lAx x) 1073741824)).1,(rAx (pt3 (lAx x) 1073741824)).2.1,(rAx (pt3 (lAx x) 1073741824)).2.2,
   (pt3 (lAt x) 34359738368).1,(pt3 (lAt x) 34359738368).2.1,(pt3 (lAt x) 34359738368).2.2,(pt3 (lMid x) 34359738368).1,(pt3 (lMid x) 34359738368).2.1,(pt3 (lMid x) 34359738368).2.2,
   lSl x,V.part_r0 (lAng x) 17179869184,V.part_r0 (lSpd x) 17179869184,V.part_r0 (lQck x) 17179869184,IntKind.wrap .i64 (16777216 + V.pick_r0 (lMass x) 68719476736))
noncomputable def rtF:Nat → List L15 → List L15
 | _,[] => []
 | i,x :: l => if i < 12 then rgt i x :: rtF (i + 1) l else []
noncomputable def _root_.Go.Proofs.Ytajomehkgaamoaa.V.rtC (l:List (Int × Int × Int × Int × Int × Int × Int × Int × Int × Int × Bool × Int × Int × Int × Int)):List (Int × Int × Int × Int × Int × Int × Int × Int × Int × Int × Bool × Int × Int × Int × Int) := hid (rtF 0 l)
theorem drop_lnk (l:List L15) (i:Nat) (h:i < l.length):l.drop i = lnk l i :: l.drop (i + 1) := by
 rw [List.drop_eq_getElem_cons h]; simp [lnk,List.getD_eq_getElem?_getD,h]
theorem chright_l0_val {α:Type} (l:List L15) (k1:List L15 → Option α):∀ (fuel i:Nat) (acc:List L15),i ≤ l.length → l.length - i < fuel → acc.length ≤ i → i ≤ 12 →
   M.chright_l0 l k1 fuel (i:Int) acc = k1 (acc ++ rtF i (l.drop i))
 | 0,i,acc,h1,h2,h3,h4 => by omega
 | f + 1,i,acc,h1,h2,h3,h4 => by
   unfold M.chright_l0 M.chright_l0_step
   simp only
   rw [cLt_nat]
   by_cases hi:i < l.length
   · rw [if_pos (by simpa using hi), drop_lnk l i hi]
     have e:List.getD l (Int.toNat (i:Int)) (0,0,0,0,0,0,0,0,0,0,false,0,0,0,0) = lnk l i := rfl
     by_cases h12:i < 12
     · rw [show cLt (i : Int) 12 = true by rw [cLt_eq]; exact decide_eq_true (by omega), if_pos rfl, if_pos (by omega), e, w_next (by omega)]
       have ih := fun acc' h => chright_l0_val l k1 f (i + 1) acc' (by omega) (by omega) h (by omega)
       have er:rtF i (lnk l i :: l.drop (i + 1)) = rgt i (lnk l i) :: rtF (i + 1) (l.drop (i + 1)) := by
         show (if i < 12 then _ else _) = _
         rw [if_pos h12]
       rw [er]
       generalize lnk l i = x at *
       have q1:∀ a b c:Int,V.lvec_g a b c 1073741824 = true := fun a b c => lvec_ge (by omega)
       have q2:∀ a b c:Int,V.lvec_g a b c 34359738368 = true := fun a b c => lvec_ge (by omega)
       have q3:∀ a:Int,V.part_g a 17179869184 = true := fun a => part_ge (by omega)
       have q4:V.pick_g x.1 ((i + 1:Nat):Int) = true := pick_ge (by omega)
       have q5:∀ a:Int,V.pick_g a 68719476736 = true := fun a => pick_ge (by omega)
       have v1:∀ a b c:Int,V.lvec_r0 a b c 1073741824 = V.part_r0 a 1073741824 ∧ V.lvec_r1 a b c 1073741824 = V.part_r0 b 1073741824 ∧ V.lvec_r2 a b c 1073741824 = V.part_r0 c 1073741824 := fun a b c => lvec_is (by omega)
       have v2:∀ a b c:Int,V.lvec_r0 a b c 34359738368 = V.part_r0 a 34359738368 ∧ V.lvec_r1 a b c 34359738368 = V.part_r0 b 34359738368 ∧ V.lvec_r2 a b c 34359738368 = V.part_r0 c 34359738368 := fun a b c => lvec_is (by omega)
       have hsz:(acc.length + (0 + 1)) * 120 ≤ 140737488355328 := by omega
       simp only [q1,q2,q3,q4,q5,(v1 _ _ _).1,(v1 _ _ _).2.1,(v1 _ _ _).2.2,(v2 _ _ _).1,(v2 _ _ _).2.1,(v2 _ _ _).2.2,if_true,if_pos hsz]
       have fin:∀ y:L15,y = rgt i x → M.chright_l0 l k1 f ((i + 1:Nat):Int) (acc ++ [y]) = k1 (acc ++ rgt i x :: rtF (i + 1) (l.drop (i + 1))) := by
         intro y hy
         rw [ih (acc ++ [y]) (by rw [List.length_append,List.length_singleton]; omega),hy,List.append_assoc]
         rfl
       have hU:(V.part_r0 x.2.1 1073741824,V.part_r0 x.2.2.1 1073741824,V.part_r0 x.2.2.2.1 1073741824) = pt3 (lAx x) 1073741824 := rfl
       rw [hU]
       cases hu:V.tUnit (pt3 (lAx x) 1073741824) with
       | none =>
         rw [on_none]
         have hA:rAx (pt3 (lAx x) 1073741824) = (0,0,4294967296) := by unfold rAx; rw [hu]
         rw [if_pos (by unfold V.gn; simp)]
         exact fin _ (by unfold rgt; rw [hA]; rfl)
       | some a =>
         rw [on_some]
         have ha:V.q3 (some a) = a := rfl
         rw [ha]
         cases hn:V.tLen a with
         | none =>
           have hA:rAx (pt3 (lAx x) 1073741824) = (0,0,4294967296) := by unfold rAx; rw [hu]; simp only [hn]
           rw [gn_none,if_pos rfl]
           exact fin _ (by unfold rgt; rw [hA]; rfl)
         | some n =>
           rw [gn_some,if_neg (by decide),gv_some,cLt_eq,cLt_eq]
           by_cases c1:n < 4294967288
           · have hA : rAx (pt3 (lAx x) 1073741824) = (0, 0, 4294967296) := by unfold rAx; rw [hu]; simp only [hn]; rw [if_neg (by omega)]
             rw [if_pos (by simpa using c1)]
             exact fin _ (by unfold rgt; rw [hA]; rfl)
           · rw [if_neg (by simpa using c1)]
             by_cases c2:4294967304 < n
             · have hA : rAx (pt3 (lAx x) 1073741824) = (0, 0, 4294967296) := by unfold rAx; rw [hu]; simp only [hn]; rw [if_neg (by omega)]
               rw [if_pos (by simpa using c2)]
               exact fin _ (by unfold rgt; rw [hA]; rfl)
             · have hA : rAx (pt3 (lAx x) 1073741824) = a := by unfold rAx; rw [hu]; simp only [hn]; rw [if_pos (by omega)]
               rw [if_neg (by simpa using c2)]
               exact fin _ (by unfold rgt; rw [hA]; rfl)
     · rw [show cLt (i : Int) 12 = false by rw [cLt_eq]; exact decide_eq_false (by omega), if_neg (by decide)]
       have er:rtF i (lnk l i :: l.drop (i + 1)) = [] := by
         show (if i < 12 then _ else _) = _
         rw [if_neg h12]
       rw [er,List.append_nil]
   · have : i = l.length := by omega
     subst this
     rw [if_neg (by simp),List.drop_length]
     simp [rtF]
theorem chright_v {α:Type} (l:List L15) (k0:List L15 → Option α):M.chright l k0 = k0 (V.rtC l) := by
 unfold M.chright V.rtC
 rw [hid_eq]
 have := chright_l0_val l k0 (100 + l.length + 0) 0 [] (by omega) (by omega) (by simp) (by omega)
 refine Eq.trans this ?_
 rw [List.drop_zero,List.nil_append]
noncomputable def chright_h {α:Type} (ds:List D) (Q:SV → Hp → Option α):Option α :=
 dL (K.st (LK.i IntKind.i64) [LK.i IntKind.i64,LK.i IntKind.i64,LK.i IntKind.i64,LK.i IntKind.i64,LK.i IntKind.i64,LK.i IntKind.i64,LK.i IntKind.i64,LK.i IntKind.i64,LK.i IntKind.i64,LK.b,LK.i IntKind.i64,LK.i IntKind.i64,LK.i IntKind.i64,LK.i IntKind.i64]) ds fun l ds => dE ds (Q (.sl 0) ([.seq (.st (.i .i64) [.i .i64,.i .i64,.i .i64,.i .i64,.i .i64,.i .i64,.i .i64,.i .i64,.i .i64,.b,.i .i64,.i .i64,.i .i64,.i .i64]) (V.rtC l) 35]))
theorem chright_h_ok {α:Type}:FnOk E.P 8 (fEnt (α := α) chright_sp chright_h) :=
 fEntR_ok E (look_ChR_dvlen_ok) (exec_sound E E_ok (look_ChR_dvlen_ok) (chright_l0_lps_ok) 400) fun ds Q r h => by
   unfold chright_h at h
   obtain ⟨l,ds,rfl,h1⟩ := dL_inv h
   obtain ⟨rfl,hE⟩ := dE_inv h1
   exact ⟨_,_,hE,fun vs => ⟨_,_,by kernel_rfl,(chright_eq l (vs.headD undef) _).trans (chright_v l _)⟩⟩
noncomputable def look_chright {α:Type}:LookF α := addFn 8 (fEnt chright_sp chright_h) look_ChR_dvlen
theorem look_chright_ok {α:Type}:LookOk E.P (look_chright (α := α)) := addFn_ok chright_h_ok (look_ChR_dvlen_ok)
abbrev Good15 (x:L15):Prop := RT.good (.i .i64) [.i .i64,.i .i64,.i .i64,.i .i64,.i .i64,.i .i64,.i .i64,.i .i64,.i .i64,.b,.i .i64,.i .i64,.i .i64,.i .i64] x
def Rg64 (n:Int):Prop := -9223372036854775808 ≤ n ∧ n < 9223372036854775808
def Rg3 (v:V.T3):Prop := Rg64 v.1 ∧ Rg64 v.2.1 ∧ Rg64 v.2.2
theorem good15 {x:L15} (h:Good15 x):Rg64 x.1 ∧ Rg3 (lAx x) ∧ Rg3 (lAt x) ∧ Rg3 (lMid x) ∧ Rg64 (lAng x) ∧ Rg64 (lSpd x) ∧ Rg64 (lQck x) ∧ Rg64 (lMass x) := by
 obtain ⟨h0,h1,h2,h3,h4,h5,h6,h7,h8,h9,_,h11,h12,h13,h14⟩ := h
 exact ⟨wf64 h0,⟨wf64 h1,wf64 h2,wf64 h3⟩,⟨wf64 h4,wf64 h5,wf64 h6⟩,⟨wf64 h7,wf64 h8,wf64 h9⟩,wf64 h11,wf64 h12,wf64 h13,wf64 h14⟩
theorem isq_of {x r:Int} (h0:0 ≤ r) (h1:r * r ≤ x) (h2:x < (r + 1) * (r + 1)):V.isq x = r := by
 have p := sq_nn r
 obtain ⟨q0,q1,q2⟩ := isqSpec (x := x) (by omega)
 generalize V.isq x = n at *
 have e1 : ¬ n < r := fun h => by
   have:(n + 1) * (n + 1) ≤ r * r := Int.mul_le_mul (by omega) (by omega) (by omega) (by omega)
   omega
 have e2 : ¬ r < n := fun h => by
   have:(r + 1) * (r + 1) ≤ n * n := Int.mul_le_mul (by omega) (by omega) (by omega) (by omega)
   omega
 omega
theorem len_z:V.tLen (0,0,4294967296) = some 4294967296 := by
 refine mNorm3_some.2 ⟨by decide,by decide,by decide,?_,by decide⟩
 exact (isq_of (by omega) (by simp only []; omega) (by simp only []; omega)).symm
theorem rAx_len (v:V.T3):∃ n,V.tLen (rAx v) = some n ∧ 4294967288 ≤ n ∧ n ≤ 4294967304 := by
 unfold rAx
 cases V.tUnit v with
 | none => exact ⟨_,len_z,by omega,by omega⟩
 | some a =>
   cases hn:V.tLen a with
   | none => simp only [hn]; exact ⟨_,len_z,by omega,by omega⟩
   | some n =>
     simp only [hn]
     by_cases h:4294967288 ≤ n ∧ n ≤ 4294967304
     · rw [if_pos h]; exact ⟨n,hn,h⟩
     · rw [if_neg h]; exact ⟨_,len_z,by omega,by omega⟩
theorem len_parts {a:V.T3} {n:Int} (h:V.tLen a = some n):In3 a n := by
 obtain ⟨_,_,_,hn,_⟩ := mNorm3_some.1 h
 have p1 := sq_nn a.1
 have p2 := sq_nn a.2.1
 have p3 := sq_nn a.2.2
 obtain ⟨q0,q1,q2⟩ := isqSpec (x := a.1 * a.1 + (a.2.1 * a.2.1 + a.2.2 * a.2.2)) (by omega)
 rw [← hn] at q0 q1 q2
 exact ⟨sq_le q0 (by omega),sq_le q0 (by omega),sq_le q0 (by omega)⟩
structure LkC (i:Nat) (x:L15):Prop where
 par:-1 ≤ x.1 ∧ x.1 < (i:Int)
 len:∃ n,V.tLen (lAx x) = some n ∧ 4294967288 ≤ n ∧ n ≤ 4294967304
 mass:16777216 ≤ lMass x ∧ lMass x ≤ 1099511627776
 ang:Inn (lAng x) (if lSl x = true then 68719476736 else 17179869184)
 at':In3 (lAt x) 68719476736
 mid:In3 (lMid x) 68719476736
 spd:Inn (lSpd x) 68719476736
 qck:Inn (lQck x) 68719476736
theorem bey_iff {n x:Int}:bey n x = false ↔ Inn x n := by
 unfold bey Inn
 rw [Bool.or_eq_false_iff,decide_eq_false_iff_not,decide_eq_false_iff_not]
 omega
theorem linkBad_iff {i:Nat} {x:L15}:linkBad i x = false ↔ LkC i x := by
 have e:linkBad i x = (cLt x.1 (-1) || cLe (i:Int) x.1 || cLt (V.gv (V.tLen (lAx x))) 4294967288 || cLt 4294967304 (V.gv (V.tLen (lAx x))) || cLt (lMass x) 16777216 || cLt 1099511627776 (lMass x) ||
     V.anyB (if lSl x = true then 68719476736 else 17179869184) [lAng x] || V.anyB 68719476736 [(lAt x).1,(lAt x).2.1,(lAt x).2.2,(lMid x).1,(lMid x).2.1,(lMid x).2.2,lSpd x,lQck x]) := rfl
 rw [e]
 simp only [cLt_eq,cLe_eq,V.anyB,List.any_cons,List.any_nil,Bool.or_eq_false_iff,decide_eq_false_iff_not,bey_iff,Bool.or_false]
 constructor
 · rintro ⟨⟨⟨⟨⟨⟨⟨h1, h2⟩, h3⟩, h4⟩, h5⟩, h6⟩, h7⟩, h8, h9, h10, h11, h12, h13, h14, h15⟩
   refine ⟨by omega,?_,by omega,h7,⟨h8,h9,h10⟩,⟨h11,h12,h13⟩,h14,h15⟩
   cases hn:V.tLen (lAx x) with
   | none => rw [hn] at h3; exact absurd (show V.gv none < 4294967288 by show (0:Int) < _; omega) h3
   | some n => rw [hn,gv_some] at h3 h4; exact ⟨n,rfl,by omega,by omega⟩
 · rintro ⟨h1, ⟨n, hn, h3⟩, h5, h7, ⟨h8, h9, h10⟩, ⟨h11, h12, h13⟩, h14, h15⟩
   rw [hn,gv_some]
   exact ⟨⟨⟨⟨⟨⟨⟨by omega,by omega⟩,by omega⟩,by omega⟩,by omega⟩,by omega⟩,h7⟩,h8,h9,h10,h11,h12,h13,h14,h15⟩
theorem LkC.ok {i:Nat} {x:L15} (h:LkC i x):LkOk x := by
 obtain ⟨n,hn,h1,h2⟩ := h.len
 have p := len_parts hn
 refine ⟨⟨p.1.mono h2,p.2.1.mono h2,p.2.2.mono h2⟩,h.at',h.mid,?_,fun hs => ?_⟩
 · have := h.ang
   split at this
   · exact this
   · exact this.mono (by omega)
 · have := h.ang
   rwa [if_neg (by rw [hs]; decide)] at this
theorem chC_iff (l:List L15):V.chC l = 0 ↔ l.length ≤ 12 ∧ ∀ (i:Nat) (x:L15),l[i]? = some x → LkC i x := by
 unfold V.chC
 rw [hid_eq]
 have key:(12 < l.length ∨ ∃ j,0 ≤ j ∧ j < l.length ∧ linkBad j (lnk l j) = true) ↔ ¬ (l.length ≤ 12 ∧ ∀ (i:Nat) (x:L15),l[i]? = some x → LkC i x) := by
   constructor
   · rintro (h | ⟨j, _, hj, hb⟩) ⟨h1, h2⟩
     · omega
     · have := linkBad_iff.2 (h2 j (lnk l j) (by simp [lnk, List.getD_eq_getElem?_getD, hj]))
       rw [hb] at this; cases this
   · intro h
     by_cases hl:12 < l.length
     · exact .inl hl
     · refine .inr ?_
       apply Classical.byContradiction
       intro hn
       apply h
       refine ⟨by omega,fun i x hx => linkBad_iff.1 ?_⟩
       have hi := (List.getElem?_eq_some_iff.1 hx).1
       have e:lnk l i = x := by simp [lnk,List.getD_eq_getElem?_getD,hx]
       rw [← e]
       cases hb:linkBad i (lnk l i) with
       | false => rfl
       | true => exact absurd ⟨i,by omega,hi,hb⟩ hn
 by_cases h:l.length ≤ 12 ∧ ∀ (i:Nat) (x:L15),l[i]? = some x → LkC i x
 · rw [if_neg (fun hc => key.1 hc h)]
   exact ⟨fun _ => h,fun _ => rfl⟩
 · rw [if_pos (key.2 h)]
   exact ⟨fun h' => by omega,fun h' => absurd h' h⟩
theorem rgt_ok {i:Nat} (hi:i < 12) {x:L15} (h:Good15 x):LkC i (rgt i x) ∧ Inn (lSpd (rgt i x)) 17179869184 ∧ Inn (lAng (rgt i x)) 17179869184 ∧ In3 (lAt (rgt i x)) 34359738368 := by
 obtain ⟨g0,g1,g2,g3,g4,g5,g6,g7⟩ := good15 h
 have b1 := pick_bdc g0 (n := ((i + 1:Nat):Int)) (by omega)
 have b2 := pick_bdc g7 (n := 68719476736) (by omega)
 have e1:IntKind.wrap .i64 (V.pick_r0 x.1 ((i + 1:Nat):Int) - 1) = V.pick_r0 x.1 ((i + 1:Nat):Int) - 1 := IntWalk.i64_in _ (by omega)
 have e2:IntKind.wrap .i64 (16777216 + V.pick_r0 (lMass x) 68719476736) = 16777216 + V.pick_r0 (lMass x) 68719476736 := IntWalk.i64_in _ (by omega)
 have p3:∀ {v:V.T3},Rg3 v → In3 (pt3 v 34359738368) 34359738368 := fun hv => ⟨part_bd hv.1 (by omega),part_bd hv.2.1 (by omega),part_bd hv.2.2 (by omega)⟩
 have m3:∀ {v:V.T3},In3 v 34359738368 → In3 v 68719476736 := fun hv => ⟨hv.1.mono (by omega),hv.2.1.mono (by omega),hv.2.2.mono (by omega)⟩
 have pa := part_bd g4 (m := 17179869184) (by omega)
 have ps := part_bd g5 (m := 17179869184) (by omega)
 have pq := part_bd g6 (m := 17179869184) (by omega)
 refine ⟨⟨?_,rAx_len _,?_,?_,m3 (p3 g2),m3 (p3 g3),ps.mono (by omega),pq.mono (by omega)⟩,ps,pa,p3 g2⟩
 · show -1 ≤ IntKind.wrap .i64 (V.pick_r0 x.1 ((i + 1 : Nat) : Int) - 1) ∧ IntKind.wrap .i64 (V.pick_r0 x.1 ((i + 1 : Nat) : Int) - 1) < (i : Int)
   rw [e1]; omega
 · show 16777216 ≤ IntKind.wrap .i64 (16777216 + V.pick_r0 (lMass x) 68719476736) ∧ IntKind.wrap .i64 (16777216 + V.pick_r0 (lMass x) 68719476736) ≤ 1099511627776
   rw [e2]; omega
 · refine Inn.mono pa ?_
   split <;> omega
theorem rtF_get:∀ (l:List L15) (i j:Nat) (x:L15),(rtF i l)[j]? = some x → i + j < 12 ∧ ∃ y,l[j]? = some y ∧ x = rgt (i + j) y
 | [],i,j,x,h => by simp [rtF] at h
 | y :: l,i,j,x,h => by
   unfold rtF at h
   split at h
   · rename_i hi
     cases j with
     | zero => simp at h; exact ⟨by omega,y,rfl,h.symm⟩
     | succ j =>
       obtain ⟨h1,z,h2,h3⟩ := rtF_get l (i + 1) j x (by simpa using h)
       exact ⟨by omega,z,by simpa using h2,by rw [h3,show i + 1 + j = i + (j + 1) by omega]⟩
   · simp at h
theorem rtF_len:∀ (l:List L15) (i:Nat),(rtF i l).length = min l.length (12 - i)
 | [],i => by simp [rtF]
 | y :: l,i => by
   unfold rtF
   split
   · rw [List.length_cons,rtF_len l (i + 1),List.length_cons]; omega
   · simp; omega
theorem rtC_facts {l:List L15} (h:∀ x ∈ l,Good15 x):(V.rtC l).length = min l.length 12 ∧ V.chC (V.rtC l) = 0 ∧
   ∀ (i:Nat) (x:L15),(V.rtC l)[i]? = some x → (∃ y,l[i]? = some y ∧ x = rgt i y) ∧ LkC i x ∧ Inn (lSpd x) 17179869184 ∧ Inn (lAng x) 17179869184 ∧ In3 (lAt x) 34359738368 := by
 have e:V.rtC l = rtF 0 l := hid_eq _
 rw [e]
 have hl := rtF_len l 0
 have hg:∀ (i:Nat) (x:L15),(rtF 0 l)[i]? = some x → (∃ y,l[i]? = some y ∧ x = rgt i y) ∧ LkC i x ∧ Inn (lSpd x) 17179869184 ∧ Inn (lAng x) 17179869184 ∧ In3 (lAt x) 34359738368 := by
   intro i x hx
   obtain ⟨h1,y,h2,h3⟩ := rtF_get l 0 i x hx
   rw [Nat.zero_add] at h1 h3
   obtain ⟨k1,k2⟩ := rgt_ok h1 (h y (List.mem_of_getElem? h2))
   rw [h3]
   exact ⟨⟨y,h2,rfl⟩,k1,k2⟩
 exact ⟨by omega,(chC_iff _).2 ⟨by omega,fun i x hx => (hg i x hx).2.1⟩,hg⟩
theorem chC_lay {l:List L15} (h:V.chC l = 0):∃ P,layL l [] = some P := by
 obtain ⟨h1,h2⟩ := (chC_iff l).1 h
 refine layL_ok l [] (fun x hx => ?_) (by simp; omega) (by simp) (fun i x hx => ?_)
 · obtain ⟨i, hi, rfl⟩ := List.mem_iff_getElem.1 hx
   exact (h2 i _ (List.getElem?_eq_getElem hi)).ok
 · have := (h2 i x hx).par.2
   simp only [List.length_nil]; omega
end
section
open Go
set_option maxRecDepth 20000
noncomputable abbrev chlay_S1 (y1:Value) (y2:List (Int × Int × Int × Int × Int × Int × Int × Int × Int × Int × Bool × Int × Int × Int × Int)) (y3 y4:Int) (y5:Bool) (y6:List (Int × Int × Int × Int × Int × Int × Int × Int × Int × Int × Int × Int × Int × Int × Int × Int × Int × Bool × Int × Int × Int × Int × Int × Int × Int × Int × Int × Int × Int × Int × Int × Int × Int × Int)):St := St.mk (some (SV.ptr (nat_lit 0) (nat_lit 0)) :: nn 4 (some (SV.ptr (nat_lit 1) (nat_lit 0)) :: nn 9 (some (SV.ros y1 (K.st (LK.i IntKind.i64) [LK.i IntKind.i64,LK.i IntKind.i64,LK.i IntKind.i64,LK.i IntKind.i64,LK.i IntKind.i64,LK.i IntKind.i64,LK.i IntKind.i64,LK.i IntKind.i64,LK.i IntKind.i64,LK.b,LK.i IntKind.i64,LK.i IntKind.i64,LK.i IntKind.i64,LK.i IntKind.i64]) y2) :: some (SV.int .i64 y3) :: some (SV.int .i64 y4) :: nn 97 ([])))) [.cells [SV.bool y5] (nat_lit 27),.cells [SV.ptr (nat_lit 0) (nat_lit 0),SV.sl (nat_lit 2)] (nat_lit 71),SObj.seq (K.st (LK.i IntKind.i64) (LK.i IntKind.i64 :: LK.i IntKind.i64 :: LK.i IntKind.i64 :: LK.i IntKind.i64 :: LK.i IntKind.i64 :: LK.i IntKind.i64 :: LK.i IntKind.i64 :: LK.i IntKind.i64 :: have y:List LK := LK.i IntKind.i64 :: LK.i IntKind.i64 :: LK.i IntKind.i64 :: LK.i IntKind.i64 :: have y:List LK := have y:List LK := [LK.i IntKind.i64,LK.i IntKind.i64,LK.i IntKind.i64,LK.i IntKind.i64,LK.i IntKind.i64]; LK.i IntKind.i64 :: LK.i IntKind.i64 :: LK.i IntKind.i64 :: LK.i IntKind.i64 :: y; have y:List LK := LK.i IntKind.i64 :: LK.i IntKind.i64 :: LK.i IntKind.i64 :: LK.i IntKind.i64 :: y; LK.b :: LK.i IntKind.i64 :: LK.i IntKind.i64 :: LK.i IntKind.i64 :: y; LK.i IntKind.i64 :: LK.i IntKind.i64 :: LK.i IntKind.i64 :: LK.i IntKind.i64 :: y)) y6 (nat_lit 73)]
noncomputable abbrev chlay_S2 (y1:Bool) (y2:List (Int × Int × Int × Int × Int × Int × Int × Int × Int × Int × Int × Int × Int × Int × Int × Int × Int × Bool × Int × Int × Int × Int × Int × Int × Int × Int × Int × Int × Int × Int × Int × Int × Int × Int)):St := St.mk (nn 5 (some (SV.ptr (nat_lit 1) (nat_lit 0)) :: nn 109 ([]))) [.cells [SV.bool y1] (nat_lit 27),.cells [SV.ptr (nat_lit 0) (nat_lit 0),SV.sl (nat_lit 2)] (nat_lit 71),SObj.seq (K.st (LK.i IntKind.i64) (LK.i IntKind.i64 :: LK.i IntKind.i64 :: LK.i IntKind.i64 :: LK.i IntKind.i64 :: LK.i IntKind.i64 :: LK.i IntKind.i64 :: LK.i IntKind.i64 :: LK.i IntKind.i64 :: have y:List LK := LK.i IntKind.i64 :: LK.i IntKind.i64 :: LK.i IntKind.i64 :: LK.i IntKind.i64 :: have y:List LK := have y:List LK := [LK.i IntKind.i64,LK.i IntKind.i64,LK.i IntKind.i64,LK.i IntKind.i64,LK.i IntKind.i64]; LK.i IntKind.i64 :: LK.i IntKind.i64 :: LK.i IntKind.i64 :: LK.i IntKind.i64 :: y; have y:List LK := LK.i IntKind.i64 :: LK.i IntKind.i64 :: LK.i IntKind.i64 :: LK.i IntKind.i64 :: y; LK.b :: LK.i IntKind.i64 :: LK.i IntKind.i64 :: LK.i IntKind.i64 :: y; LK.i IntKind.i64 :: LK.i IntKind.i64 :: LK.i IntKind.i64 :: LK.i IntKind.i64 :: y)) y2 (nat_lit 73)]
noncomputable abbrev chlay_S3:St := St.mk (some (SV.ptr (nat_lit 0) (nat_lit 0)) :: nn 4 (some (SV.ptr (nat_lit 1) (nat_lit 0)) :: nn 9 (some (SV.ros undef (K.st (LK.i IntKind.i64) [LK.i IntKind.i64,LK.i IntKind.i64,LK.i IntKind.i64,LK.i IntKind.i64,LK.i IntKind.i64,LK.i IntKind.i64,LK.i IntKind.i64,LK.i IntKind.i64,LK.i IntKind.i64,LK.b,LK.i IntKind.i64,LK.i IntKind.i64,LK.i IntKind.i64,LK.i IntKind.i64]) []) :: some (SV.int .i64 (0:Int)) :: some (SV.int .i64 (0:Int)) :: nn 97 ([])))) [.cells [SV.bool false] (nat_lit 27),.cells [SV.ptr (nat_lit 0) (nat_lit 0),SV.sl (nat_lit 2)] (nat_lit 71),SObj.seq (K.st (LK.i IntKind.i64) (LK.i IntKind.i64 :: LK.i IntKind.i64 :: LK.i IntKind.i64 :: LK.i IntKind.i64 :: LK.i IntKind.i64 :: LK.i IntKind.i64 :: LK.i IntKind.i64 :: LK.i IntKind.i64 :: have y:List LK := LK.i IntKind.i64 :: LK.i IntKind.i64 :: LK.i IntKind.i64 :: LK.i IntKind.i64 :: have y:List LK := have y:List LK := [LK.i IntKind.i64,LK.i IntKind.i64,LK.i IntKind.i64,LK.i IntKind.i64,LK.i IntKind.i64]; LK.i IntKind.i64 :: LK.i IntKind.i64 :: LK.i IntKind.i64 :: LK.i IntKind.i64 :: y; have y:List LK := LK.i IntKind.i64 :: LK.i IntKind.i64 :: LK.i IntKind.i64 :: LK.i IntKind.i64 :: y; LK.b :: LK.i IntKind.i64 :: LK.i IntKind.i64 :: LK.i IntKind.i64 :: y; LK.i IntKind.i64 :: LK.i IntKind.i64 :: LK.i IntKind.i64 :: LK.i IntKind.i64 :: y)) [] (nat_lit 73)]
noncomputable def M.chlay_l0_step {α:Type} (x8:List (Int × Int × Int × Int × Int × Int × Int × Int × Int × Int × Bool × Int × Int × Int × Int)) (x9:Int) (kn:Int → Bool → List (Int × Int × Int × Int × Int × Int × Int × Int × Int × Int × Int × Int × Int × Int × Int × Int × Int × Bool × Int × Int × Int × Int × Int × Int × Int × Int × Int × Int × Int × Int × Int × Int × Int × Int) → Option α) (k1:Bool → List (Int × Int × Int × Int × Int × Int × Int × Int × Int × Int × Int × Int × Int × Int × Int × Int × Int × Bool × Int × Int × Int × Int × Int × Int × Int × Int × Int × Int × Int × Int × Int × Int × Int × Int) → Option α) (x10:Int) (x11:Bool) (x12:List (Int × Int × Int × Int × Int × Int × Int × Int × Int × Int × Int × Int × Int × Int × Int × Int × Int × Bool × Int × Int × Int × Int × Int × Int × Int × Int × Int × Int × Int × Int × Int × Int × Int × Int)):Option α := let s13:Nat := List.length x12; let s14:K.T (K.st (LK.i IntKind.i64) [LK.i IntKind.i64,LK.i IntKind.i64,LK.i IntKind.i64,LK.i IntKind.i64,LK.i IntKind.i64,LK.i IntKind.i64,LK.i IntKind.i64,LK.i IntKind.i64,LK.i IntKind.i64,LK.b,LK.i IntKind.i64,LK.i IntKind.i64,LK.i IntKind.i64,LK.i IntKind.i64]) := List.getD x8 (Int.toNat x10) ((0:Int),(0:Int),(0:Int),(0:Int),(0:Int),(0:Int),(0:Int),(0:Int),(0:Int),(0:Int),false,(0:Int),(0:Int),(0:Int),(0:Int)); let s15:LK.T (LK.i IntKind.i64) := Prod.fst s14; let s16:RT (LK.i IntKind.i64) [LK.i IntKind.i64,LK.i IntKind.i64,LK.i IntKind.i64,LK.i IntKind.i64,LK.i IntKind.i64,LK.i IntKind.i64,LK.i IntKind.i64,LK.i IntKind.i64,LK.b,LK.i IntKind.i64,LK.i IntKind.i64,LK.i IntKind.i64,LK.i IntKind.i64] := Prod.snd s14; let s17:RT (LK.i IntKind.i64) [LK.i IntKind.i64,LK.i IntKind.i64,LK.i IntKind.i64,LK.i IntKind.i64,LK.i IntKind.i64,LK.i IntKind.i64,LK.i IntKind.i64,LK.b,LK.i IntKind.i64,LK.i IntKind.i64,LK.i IntKind.i64,LK.i IntKind.i64] := Prod.snd s16; let s18:LK.T (LK.i IntKind.i64) := Prod.fst s16; let s19:LK.T (LK.i IntKind.i64) := Prod.fst s17; let s20:RT (LK.i IntKind.i64) [LK.i IntKind.i64,LK.i IntKind.i64,LK.i IntKind.i64,LK.i IntKind.i64,LK.i IntKind.i64,LK.i IntKind.i64,LK.b,LK.i IntKind.i64,LK.i IntKind.i64,LK.i IntKind.i64,LK.i IntKind.i64] := Prod.snd s17; let s21:LK.T (LK.i IntKind.i64) := Prod.fst s20; let s22:RT (LK.i IntKind.i64) [LK.i IntKind.i64,LK.i IntKind.i64,LK.i IntKind.i64,LK.i IntKind.i64,LK.i IntKind.i64,LK.b,LK.i IntKind.i64,LK.i IntKind.i64,LK.i IntKind.i64,LK.i IntKind.i64] := Prod.snd s20; let s23:LK.T (LK.i IntKind.i64) := Prod.fst s22; let s24:RT (LK.i IntKind.i64) [LK.i IntKind.i64,LK.i IntKind.i64,LK.i IntKind.i64,LK.i IntKind.i64,LK.b,LK.i IntKind.i64,LK.i IntKind.i64,LK.i IntKind.i64,LK.i IntKind.i64] := Prod.snd s22; let s25:RT (LK.i IntKind.i64) [LK.i IntKind.i64,LK.i IntKind.i64,LK.i IntKind.i64,LK.b,LK.i IntKind.i64,LK.i IntKind.i64,LK.i IntKind.i64,LK.i IntKind.i64] := Prod.snd s24; let s26:LK.T (LK.i IntKind.i64) := Prod.fst s24; let s27:LK.T (LK.i IntKind.i64) := Prod.fst s25; let s28:RT (LK.i IntKind.i64) [LK.i IntKind.i64,LK.i IntKind.i64,LK.b,LK.i IntKind.i64,LK.i IntKind.i64,LK.i IntKind.i64,LK.i IntKind.i64] := Prod.snd s25; let s29:RT (LK.i IntKind.i64) [LK.i IntKind.i64,LK.b,LK.i IntKind.i64,LK.i IntKind.i64,LK.i IntKind.i64,LK.i IntKind.i64] := Prod.snd s28; let s30:LK.T (LK.i IntKind.i64) := Prod.fst s28; let s31:LK.T (LK.i IntKind.i64) := Prod.fst s29; let s32:RT (LK.i IntKind.i64) [LK.b,LK.i IntKind.i64,LK.i IntKind.i64,LK.i IntKind.i64,LK.i IntKind.i64] := Prod.snd s29; let s33:LK.T (LK.i IntKind.i64) := Prod.fst s32; let s34:RT LK.b [LK.i IntKind.i64,LK.i IntKind.i64,LK.i IntKind.i64,LK.i IntKind.i64] := Prod.snd s32; let s35:RT (LK.i IntKind.i64) [LK.i IntKind.i64,LK.i IntKind.i64,LK.i IntKind.i64] := Prod.snd s34; let s36:LK.T LK.b := Prod.fst s34; let s37:LK.T (LK.i IntKind.i64) := Prod.fst s35; let s38:RT (LK.i IntKind.i64) [LK.i IntKind.i64,LK.i IntKind.i64] := Prod.snd s35; let s39:RT (LK.i IntKind.i64) [LK.i IntKind.i64] := Prod.snd s38; let s40:Int × Int × Int := (s18,s19,s21); let s41:Option V.T3 := V.tTurn (V.q9 (V.tRows ((4294967296:Int),(0:Int),(0:Int),(0:Int)))) s40; let s42:Int × Int × Int := (s23,s26,s27); let s43:Option V.T3 := V.tTurn (V.q9 (V.tRows ((4294967296:Int),(0:Int),(0:Int),(0:Int)))) s42; let s44:Option V.T3 := V.tAdd ((0:Int),(0:Int),(0:Int)) (V.q3 s43); let s45:Int × Int × Int := (s30,s31,s33); let s46:Option V.T3 := V.tTurn (V.q9 (V.tRows ((4294967296:Int),(0:Int),(0:Int),(0:Int)))) s45; let s47:Option V.T3 := V.tScale s40 s37; let s48:Option V.T4 := V.tWhole ((4294967296:Int),V.q3 s47); let s49:Option V.T3 := V.tScale (V.q3 s41) s37; let s50:Option V.T4 := V.tTimes ((4294967296:Int),(0:Int),(0:Int),(0:Int)) (V.q4 s48); let s51:Option V.T9 := V.tRows (V.q4 s50); let s52:K.T (K.st (LK.i IntKind.i64) (LK.i IntKind.i64 :: LK.i IntKind.i64 :: LK.i IntKind.i64 :: LK.i IntKind.i64 :: LK.i IntKind.i64 :: LK.i IntKind.i64 :: LK.i IntKind.i64 :: LK.i IntKind.i64 :: have y:List LK := LK.i IntKind.i64 :: LK.i IntKind.i64 :: LK.i IntKind.i64 :: LK.i IntKind.i64 :: have y:List LK := have y:List LK := [LK.i IntKind.i64,LK.i IntKind.i64,LK.i IntKind.i64,LK.i IntKind.i64,LK.i IntKind.i64]; LK.i IntKind.i64 :: LK.i IntKind.i64 :: LK.i IntKind.i64 :: LK.i IntKind.i64 :: y; have y:List LK := LK.i IntKind.i64 :: LK.i IntKind.i64 :: LK.i IntKind.i64 :: LK.i IntKind.i64 :: y; LK.b :: LK.i IntKind.i64 :: LK.i IntKind.i64 :: LK.i IntKind.i64 :: y; LK.i IntKind.i64 :: LK.i IntKind.i64 :: LK.i IntKind.i64 :: LK.i IntKind.i64 :: y)) := List.getD x12 (Int.toNat s15) ((0:Int),(0:Int),(0:Int),(0:Int),(0:Int),(0:Int),(0:Int),(0:Int),(0:Int),(0:Int),(0:Int),(0:Int),(0:Int),(0:Int),(0:Int),(0:Int),(0:Int),false,(0:Int),(0:Int),(0:Int),(0:Int),(0:Int),(0:Int),(0:Int),(0:Int),(0:Int),(0:Int),(0:Int),(0:Int),(0:Int),(0:Int),(0:Int),(0:Int)); let s53:RT (LK.i IntKind.i64) (LK.i IntKind.i64 :: LK.i IntKind.i64 :: LK.i IntKind.i64 :: LK.i IntKind.i64 :: LK.i IntKind.i64 :: LK.i IntKind.i64 :: LK.i IntKind.i64 :: have y:List LK := LK.i IntKind.i64 :: LK.i IntKind.i64 :: LK.i IntKind.i64 :: LK.i IntKind.i64 :: have y:List LK := have y:List LK := [LK.i IntKind.i64,LK.i IntKind.i64,LK.i IntKind.i64,LK.i IntKind.i64,LK.i IntKind.i64]; LK.i IntKind.i64 :: LK.i IntKind.i64 :: LK.i IntKind.i64 :: LK.i IntKind.i64 :: y; have y:List LK := LK.i IntKind.i64 :: LK.i IntKind.i64 :: LK.i IntKind.i64 :: LK.i IntKind.i64 :: y; LK.b :: LK.i IntKind.i64 :: LK.i IntKind.i64 :: LK.i IntKind.i64 :: y; LK.i IntKind.i64 :: LK.i IntKind.i64 :: LK.i IntKind.i64 :: LK.i IntKind.i64 :: y) := Prod.snd s52; let s54:RT (LK.i IntKind.i64) (LK.i IntKind.i64 :: LK.i IntKind.i64 :: LK.i IntKind.i64 :: LK.i IntKind.i64 :: LK.i IntKind.i64 :: LK.i IntKind.i64 :: have y:List LK := LK.i IntKind.i64 :: LK.i IntKind.i64 :: LK.i IntKind.i64 :: LK.i IntKind.i64 :: have y:List LK := have y:List LK := [LK.i IntKind.i64,LK.i IntKind.i64,LK.i IntKind.i64,LK.i IntKind.i64,LK.i IntKind.i64]; LK.i IntKind.i64 :: LK.i IntKind.i64 :: LK.i IntKind.i64 :: LK.i IntKind.i64 :: y; have y:List LK := LK.i IntKind.i64 :: LK.i IntKind.i64 :: LK.i IntKind.i64 :: LK.i IntKind.i64 :: y; LK.b :: LK.i IntKind.i64 :: LK.i IntKind.i64 :: LK.i IntKind.i64 :: y; LK.i IntKind.i64 :: LK.i IntKind.i64 :: LK.i IntKind.i64 :: LK.i IntKind.i64 :: y) := Prod.snd s53; let s55:RT (LK.i IntKind.i64) (LK.i IntKind.i64 :: LK.i IntKind.i64 :: LK.i IntKind.i64 :: LK.i IntKind.i64 :: LK.i IntKind.i64 :: have y:List LK := LK.i IntKind.i64 :: LK.i IntKind.i64 :: LK.i IntKind.i64 :: LK.i IntKind.i64 :: have y:List LK := have y:List LK := [LK.i IntKind.i64,LK.i IntKind.i64,LK.i IntKind.i64,LK.i IntKind.i64,LK.i IntKind.i64]; LK.i IntKind.i64 :: LK.i IntKind.i64 :: LK.i IntKind.i64 :: LK.i IntKind.i64 :: y; have y:List LK := LK.i IntKind.i64 :: LK.i IntKind.i64 :: LK.i IntKind.i64 :: LK.i IntKind.i64 :: y; LK.b :: LK.i IntKind.i64 :: LK.i IntKind.i64 :: LK.i IntKind.i64 :: y; LK.i IntKind.i64 :: LK.i IntKind.i64 :: LK.i IntKind.i64 :: LK.i IntKind.i64 :: y) := Prod.snd s54; let s56:RT (LK.i IntKind.i64) (LK.i IntKind.i64 :: LK.i IntKind.i64 :: LK.i IntKind.i64 :: LK.i IntKind.i64 :: have y:List LK := LK.i IntKind.i64 :: LK.i IntKind.i64 :: LK.i IntKind.i64 :: LK.i IntKind.i64 :: have y:List LK := have y:List LK := [LK.i IntKind.i64,LK.i IntKind.i64,LK.i IntKind.i64,LK.i IntKind.i64,LK.i IntKind.i64]; LK.i IntKind.i64 :: LK.i IntKind.i64 :: LK.i IntKind.i64 :: LK.i IntKind.i64 :: y; have y:List LK := LK.i IntKind.i64 :: LK.i IntKind.i64 :: LK.i IntKind.i64 :: LK.i IntKind.i64 :: y; LK.b :: LK.i IntKind.i64 :: LK.i IntKind.i64 :: LK.i IntKind.i64 :: y; LK.i IntKind.i64 :: LK.i IntKind.i64 :: LK.i IntKind.i64 :: LK.i IntKind.i64 :: y) := Prod.snd s55; let s57:LK.T (LK.i IntKind.i64) := Prod.fst s55; let s58:LK.T (LK.i IntKind.i64) := Prod.fst s56; let s59:RT (LK.i IntKind.i64) (LK.i IntKind.i64 :: LK.i IntKind.i64 :: LK.i IntKind.i64 :: have y:List LK := LK.i IntKind.i64 :: LK.i IntKind.i64 :: LK.i IntKind.i64 :: LK.i IntKind.i64 :: have y:List LK := have y:List LK := [LK.i IntKind.i64,LK.i IntKind.i64,LK.i IntKind.i64,LK.i IntKind.i64,LK.i IntKind.i64]; LK.i IntKind.i64 :: LK.i IntKind.i64 :: LK.i IntKind.i64 :: LK.i IntKind.i64 :: y; have y:List LK := LK.i IntKind.i64 :: LK.i IntKind.i64 :: LK.i IntKind.i64 :: LK.i IntKind.i64 :: y; LK.b :: LK.i IntKind.i64 :: LK.i IntKind.i64 :: LK.i IntKind.i64 :: y; LK.i IntKind.i64 :: LK.i IntKind.i64 :: LK.i IntKind.i64 :: LK.i IntKind.i64 :: y) := Prod.snd s56; let s60:LK.T (LK.i IntKind.i64) := Prod.fst s59; let s61:LK.T (LK.i IntKind.i64) := Prod.fst (Prod.snd s59); let s62:Option V.T3 := V.tAdd (V.q3 s44) (V.q3 s49); let s63:Option V.T3 := V.tTurn (V.q9 s51) s45; let s64:Bool := V.on s41 (V.on s44 (V.on s43 (V.on (V.tRows ((4294967296:Int),(0:Int),(0:Int),(0:Int))) x11))); let s65:Option V.T3 := V.tAdd (V.q3 s44) (V.q3 s63); let s66:Option V.T3 := V.tAdd (V.q3 s62) (V.q3 s46); let s67:Int × Int × Int × Int := (s57,s58,s60,s61); let s68:Option V.T9 := V.tRows s67; let s69:Option V.T3 := V.tTurn (V.q9 s68) s40; let s70:Option V.T3 := V.tTurn (V.q9 s68) s42; let s71:Option V.T3 := V.tTurn (V.q9 s68) s45; let s72:Option V.T3 := V.tScale (V.q3 s69) s37; let s73:Option V.T4 := V.tTimes s67 (V.q4 s48); let s74:Option V.T9 := V.tRows (V.q4 s73); let s75:Option V.T3 := V.tTurn (V.q9 s74) s45; let s76:Option V.T3 := V.tAdd (Prod.fst s52,Prod.fst s53,Prod.fst s54) (V.q3 s70); let s77:Option V.T3 := V.tAdd (V.q3 s76) (V.q3 s72); let s78:Option V.T3 := V.tAdd (V.q3 s76) (V.q3 s75); let s79:Option V.T3 := V.tAdd (V.q3 s77) (V.q3 s71); let s80:Bool := V.on s69 (V.on s76 (V.on s70 (V.on s68 x11))); if cLt x10 x9 = true then if (0:Int) ≤ x10 ∧ x10 < (↑(List.length x8):Int) then if cLt s15 (0:Int) = true then if s36 = true then if (s13 + ((0:Nat) + (1:Nat))) * (272:Nat) ≤ (140737488355328:Nat) then kn (IntKind.wrap .i64 (x10 + (1:Int))) (V.on s66 (V.on s46 (V.on (V.tRows ((4294967296:Int),(0:Int),(0:Int),(0:Int))) (V.on s62 (V.on s49 s64))))) (x12 ++ [(V.x3 s62,V.y3 s62,V.z3 s62,(4294967296:Int),(0:Int),(0:Int),(0:Int),s15,s18,s19,s21,s23,s26,s27,s30,s31,s33,s36,s37,Prod.fst s38,Prod.fst s39,Prod.snd s39,V.x3 s41,V.y3 s41,V.z3 s41,V.x3 s66,V.y3 s66,V.z3 s66,(0:Int),(0:Int),(0:Int),(0:Int),(0:Int),(0:Int))]) else none else if (s13 + ((0:Nat) + (1:Nat))) * (272:Nat) ≤ (140737488355328:Nat) then kn (IntKind.wrap .i64 (x10 + (1:Int))) (V.on s65 (V.on s63 (V.on s51 (V.on s50 (V.on s48 (V.on s47 s64)))))) (x12 ++ [(V.x3 s44,V.y3 s44,V.z3 s44,V.w4 s50,V.x4 s50,V.y4 s50,V.z4 s50,s15,s18,s19,s21,s23,s26,s27,s30,s31,s33,s36,s37,Prod.fst s38,Prod.fst s39,Prod.snd s39,V.x3 s41,V.y3 s41,V.z3 s41,V.x3 s65,V.y3 s65,V.z3 s65,(0:Int),(0:Int),(0:Int),(0:Int),(0:Int),(0:Int))]) else none else if (0:Int) ≤ s15 ∧ s15 < (↑s13:Int) then if s36 = true then if (s13 + ((0:Nat) + (1:Nat))) * (272:Nat) ≤ (140737488355328:Nat) then kn (IntKind.wrap .i64 (x10 + (1:Int))) (V.on s79 (V.on s71 (V.on s68 (V.on s77 (V.on s72 s80))))) (x12 ++ [(V.x3 s77,V.y3 s77,V.z3 s77,s57,s58,s60,s61,s15,s18,s19,s21,s23,s26,s27,s30,s31,s33,s36,s37,Prod.fst s38,Prod.fst s39,Prod.snd s39,V.x3 s69,V.y3 s69,V.z3 s69,V.x3 s79,V.y3 s79,V.z3 s79,(0:Int),(0:Int),(0:Int),(0:Int),(0:Int),(0:Int))]) else none else if (s13 + ((0:Nat) + (1:Nat))) * (272:Nat) ≤ (140737488355328:Nat) then kn (IntKind.wrap .i64 (x10 + (1:Int))) (V.on s78 (V.on s75 (V.on s74 (V.on s73 (V.on s48 (V.on s47 s80)))))) (x12 ++ [(V.x3 s76,V.y3 s76,V.z3 s76,V.w4 s73,V.x4 s73,V.y4 s73,V.z4 s73,s15,s18,s19,s21,s23,s26,s27,s30,s31,s33,s36,s37,Prod.fst s38,Prod.fst s39,Prod.snd s39,V.x3 s69,V.y3 s69,V.z3 s69,V.x3 s78,V.y3 s78,V.z3 s78,(0:Int),(0:Int),(0:Int),(0:Int),(0:Int),(0:Int))]) else none else none else none else k1 x11 x12
noncomputable def M.chlay_l0 {α:Type} (x8:List (Int × Int × Int × Int × Int × Int × Int × Int × Int × Int × Bool × Int × Int × Int × Int)) (x9:Int) (k1:Bool → List (Int × Int × Int × Int × Int × Int × Int × Int × Int × Int × Int × Int × Int × Int × Int × Int × Int × Bool × Int × Int × Int × Int × Int × Int × Int × Int × Int × Int × Int × Int × Int × Int × Int × Int) → Option α):Nat → Int → Bool → List (Int × Int × Int × Int × Int × Int × Int × Int × Int × Int × Int × Int × Int × Int × Int × Int × Int × Bool × Int × Int × Int × Int × Int × Int × Int × Int × Int × Int × Int × Int × Int × Int × Int × Int) → Option α
 | 0,_,_,_ => none
 | n + 1,x10,x11,x12 => M.chlay_l0_step x8 x9 (M.chlay_l0 x8 x9 k1 n) k1 x10 x11 x12
theorem chlay_l0_step_eq {α:Type} (x7:Value) (x8:List (Int × Int × Int × Int × Int × Int × Int × Int × Int × Int × Bool × Int × Int × Int × Int)) (x9 x10:Int) (x11:Bool) (x12:List (Int × Int × Int × Int × Int × Int × Int × Int × Int × Int × Int × Int × Int × Int × Int × Int × Int × Bool × Int × Int × Int × Int × Int × Int × Int × Int × Int × Int × Int × Int × Int × Int × Int × Int)) (Q:Ex → St → Option α):(loopStep E (exec E look_chright noLps 400) 52 [false,true,false,true,true] 1 (codeAt E.P 52 [false,true,false,true,true])) (chlay_S1 x7 x8 x9 x10 x11 x12) Q = M.chlay_l0_step x8 x9 (fun (x83:Int) (x84:Bool) (x85:List (Int × Int × Int × Int × Int × Int × Int × Int × Int × Int × Int × Int × Int × Int × Int × Int × Int × Bool × Int × Int × Int × Int × Int × Int × Int × Int × Int × Int × Int × Int × Int × Int × Int × Int)) => Q .normal (chlay_S1 x7 x8 x9 x83 x84 x85)) (fun (x81:Bool) (x82:List (Int × Int × Int × Int × Int × Int × Int × Int × Int × Int × Int × Int × Int × Int × Int × Int × Int × Bool × Int × Int × Int × Int × Int × Int × Int × Int × Int × Int × Int × Int × Int × Int × Int × Int)) => Q (.exit 0) (chlay_S2 x81 x82)) x10 x11 x12 := by kernel_rfl
theorem chlay_l0_iter {α:Type} (x7:Value) (x8:List (Int × Int × Int × Int × Int × Int × Int × Int × Int × Int × Bool × Int × Int × Int × Int)) (x9:Int) (Q:Ex → St → Option α):∀ (n:Nat) (x10:Int) (x11:Bool) (x12:List (Int × Int × Int × Int × Int × Int × Int × Int × Int × Int × Int × Int × Int × Int × Int × Int × Int × Bool × Int × Int × Int × Int × Int × Int × Int × Int × Int × Int × Int × Int × Int × Int × Int × Int)),iter (loopStep E (exec E look_chright noLps 400) 52 [false,true,false,true,true] 1 (codeAt E.P 52 [false,true,false,true,true])) n (chlay_S1 x7 x8 x9 x10 x11 x12) Q = M.chlay_l0 x8 x9 (fun (x81:Bool) (x82:List (Int × Int × Int × Int × Int × Int × Int × Int × Int × Int × Int × Int × Int × Int × Int × Int × Int × Bool × Int × Int × Int × Int × Int × Int × Int × Int × Int × Int × Int × Int × Int × Int × Int × Int)) => Q (.exit 0) (chlay_S2 x81 x82)) n x10 x11 x12
 | 0,_,_,_ => rfl
 | n + 1,x10,x11,x12 => (chlay_l0_step_eq x7 x8 x9 x10 x11 x12 (iterK (loopStep E (exec E look_chright noLps 400) 52 [false,true,false,true,true] 1 (codeAt E.P 52 [false,true,false,true,true])) n Q)).trans (congrArg (fun kn => M.chlay_l0_step x8 x9 kn (fun (x81:Bool) (x82:List (Int × Int × Int × Int × Int × Int × Int × Int × Int × Int × Int × Int × Int × Int × Int × Int × Int × Bool × Int × Int × Int × Int × Int × Int × Int × Int × Int × Int × Int × Int × Int × Int × Int × Int)) => Q (.exit 0) (chlay_S2 x81 x82)) x10 x11 x12) (funext fun x10 => funext fun x11 => funext fun x12 => chlay_l0_iter x7 x8 x9 Q n x10 x11 x12))
noncomputable def chlay_l0_go {α:Type} (ds:List D) (Q:Ex → St → Option α):Option α :=
 dV ds fun x7 ds => dL (K.st (LK.i IntKind.i64) [LK.i IntKind.i64,LK.i IntKind.i64,LK.i IntKind.i64,LK.i IntKind.i64,LK.i IntKind.i64,LK.i IntKind.i64,LK.i IntKind.i64,LK.i IntKind.i64,LK.i IntKind.i64,LK.b,LK.i IntKind.i64,LK.i IntKind.i64,LK.i IntKind.i64,LK.i IntKind.i64]) ds fun x8 ds => dI ds fun x9 ds => dI ds fun x10 ds => dB ds fun x11 ds => dL (K.st (LK.i IntKind.i64)
 (LK.i IntKind.i64 ::
   LK.i IntKind.i64 ::
     LK.i IntKind.i64 ::
       LK.i IntKind.i64 ::
         LK.i IntKind.i64 ::
           LK.i IntKind.i64 ::
             LK.i IntKind.i64 ::
               LK.i IntKind.i64 ::
                 have y:List LK :=
                   LK.i IntKind.i64 ::
                     LK.i IntKind.i64 ::
                       LK.i IntKind.i64 ::
                         LK.i IntKind.i64 ::
                           have y:List LK :=
                             have y:List LK := [LK.i IntKind.i64,LK.i IntKind.i64,LK.i IntKind.i64,LK.i IntKind.i64,LK.i IntKind.i64];
                             LK.i IntKind.i64 :: LK.i IntKind.i64 :: LK.i IntKind.i64 :: LK.i IntKind.i64 :: y;
                           have y:List LK := LK.i IntKind.i64 :: LK.i IntKind.i64 :: LK.i IntKind.i64 :: LK.i IntKind.i64 :: y;
                           LK.b :: LK.i IntKind.i64 :: LK.i IntKind.i64 :: LK.i IntKind.i64 :: y;
                 LK.i IntKind.i64 :: LK.i IntKind.i64 :: LK.i IntKind.i64 :: LK.i IntKind.i64 :: y)) ds fun x12 ds => dE ds (M.chlay_l0 x8 x9 (fun (x81:Bool) (x82:List (Int × Int × Int × Int × Int × Int × Int × Int × Int × Int × Int × Int × Int × Int × Int × Int × Int × Bool × Int × Int × Int × Int × Int × Int × Int × Int × Int × Int × Int × Int × Int × Int × Int × Int)) => Q (.exit 0) (chlay_S2 x81 x82)) (100 + x8.length + x12.length) x10 x11 x12)
theorem chlay_l0_ok {α:Type}:LoopOk E.P 52 [false,true,false,true,true] 1 (lEnt (α := α) (chlay_S3) chlay_l0_go) :=
 lEnt_ok E (exec_sound E E_ok (look_chright_ok) (noLps_ok _) 400) fun ds Q r h S hS => by
   unfold chlay_l0_go at h
   obtain ⟨x7,ds,rfl,h1⟩ := dV_inv h
   obtain ⟨x8,ds,rfl,h2⟩ := dL_inv h1
   obtain ⟨x9,ds,rfl,h3⟩ := dI_inv h2
   obtain ⟨x10,ds,rfl,h4⟩ := dI_inv h3
   obtain ⟨x11,ds,rfl,h5⟩ := dB_inv h4
   obtain ⟨x12,ds,rfl,h6⟩ := dL_inv h5
   obtain ⟨rfl,hE⟩ := dE_inv h6
   have e:fillS (chlay_S3) [.v x7,.l (K.st (LK.i IntKind.i64) [LK.i IntKind.i64,LK.i IntKind.i64,LK.i IntKind.i64,LK.i IntKind.i64,LK.i IntKind.i64,LK.i IntKind.i64,LK.i IntKind.i64,LK.i IntKind.i64,LK.i IntKind.i64,LK.b,LK.i IntKind.i64,LK.i IntKind.i64,LK.i IntKind.i64,LK.i IntKind.i64]) x8,.i x9,.i x10,.b x11,.l (K.st (LK.i IntKind.i64)
 (LK.i IntKind.i64 ::
   LK.i IntKind.i64 ::
     LK.i IntKind.i64 ::
       LK.i IntKind.i64 ::
         LK.i IntKind.i64 ::
           LK.i IntKind.i64 ::
             LK.i IntKind.i64 ::
               LK.i IntKind.i64 ::
                 have y:List LK :=
                   LK.i IntKind.i64 ::
                     LK.i IntKind.i64 ::
                       LK.i IntKind.i64 ::
                         LK.i IntKind.i64 ::
                           have y:List LK :=
                             have y:List LK := [LK.i IntKind.i64,LK.i IntKind.i64,LK.i IntKind.i64,LK.i IntKind.i64,LK.i IntKind.i64];
                             LK.i IntKind.i64 :: LK.i IntKind.i64 :: LK.i IntKind.i64 :: LK.i IntKind.i64 :: y;
                           have y:List LK := LK.i IntKind.i64 :: LK.i IntKind.i64 :: LK.i IntKind.i64 :: LK.i IntKind.i64 :: y;
                           LK.b :: LK.i IntKind.i64 :: LK.i IntKind.i64 :: LK.i IntKind.i64 :: y;
                 LK.i IntKind.i64 :: LK.i IntKind.i64 :: LK.i IntKind.i64 :: LK.i IntKind.i64 :: y)) x12] = some (chlay_S1 x7 x8 x9 x10 x11 x12) := by kernel_rfl
   rw [e] at hS
   cases hS
   exact ⟨_,(chlay_l0_iter x7 x8 x9 Q _ x10 x11 x12).trans hE⟩
noncomputable def chlay_l0_lps {α:Type}:LookL α := addLp 52 [false,true,false,true,true] 1 (lEnt (chlay_S3) chlay_l0_go) noLps
theorem chlay_l0_lps_ok {α:Type}:LoopsOk E.P (chlay_l0_lps (α := α)) := addLp_ok chlay_l0_ok (noLps_ok _)
noncomputable def M.chlay {α:Type} (bad:Bool) (l:List (Int × Int × Int × Int × Int × Int × Int × Int × Int × Int × Bool × Int × Int × Int × Int)) (k0:Bool → List (Int × Int × Int × Int × Int × Int × Int × Int × Int × Int × Int × Int × Int × Int × Int × Int × Int × Bool × Int × Int × Int × Int × Int × Int × Int × Int × Int × Int × Int × Int × Int × Int × Int × Int) → Option α):Option α := M.chlay_l0 l (↑(List.length l):Int) (fun (x87:Bool) (x88:List (Int × Int × Int × Int × Int × Int × Int × Int × Int × Int × Int × Int × Int × Int × Int × Int × Int × Bool × Int × Int × Int × Int × Int × Int × Int × Int × Int × Int × Int × Int × Int × Int × Int × Int)) ↦ k0 x87 x88) ((100:Nat) + List.length l + (0:Nat)) (0:Int) bad []
theorem chlay_eq {α:Type} (bad:Bool) (l:List (Int × Int × Int × Int × Int × Int × Int × Int × Int × Int × Bool × Int × Int × Int × Int)) (v86:Value) (Q:SV → Hp → Option α):callI E look_chright (exec E look_chright chlay_l0_lps 400) 52 ([SV.ptr (nat_lit 0) (nat_lit 0),SV.ros v86 (K.st (LK.i IntKind.i64) [LK.i IntKind.i64,LK.i IntKind.i64,LK.i IntKind.i64,LK.i IntKind.i64,LK.i IntKind.i64,LK.i IntKind.i64,LK.i IntKind.i64,LK.i IntKind.i64,LK.i IntKind.i64,LK.b,LK.i IntKind.i64,LK.i IntKind.i64,LK.i IntKind.i64,LK.i IntKind.i64]) l]) ([.cells [SV.bool bad] (nat_lit 27)]) Q = M.chlay bad l (fun (x89:Bool) (x90:List (Int × Int × Int × Int × Int × Int × Int × Int × Int × Int × Int × Int × Int × Int × Int × Int × Int × Bool × Int × Int × Int × Int × Int × Int × Int × Int × Int × Int × Int × Int × Int × Int × Int × Int)) => Q (SV.ptr (nat_lit 1) (nat_lit 0)) ([.cells [SV.bool x89] (nat_lit 27),.cells [SV.ptr (nat_lit 0) (nat_lit 0),SV.sl (nat_lit 2)] (nat_lit 71),
 SObj.seq
   (K.st (LK.i IntKind.i64)
     (LK.i IntKind.i64 ::
       LK.i IntKind.i64 ::
         LK.i IntKind.i64 ::
           LK.i IntKind.i64 ::
             LK.i IntKind.i64 ::
               LK.i IntKind.i64 ::
                 LK.i IntKind.i64 ::
                   LK.i IntKind.i64 ::
                     have y:List LK :=
                       LK.i IntKind.i64 ::
                         LK.i IntKind.i64 ::
                           LK.i IntKind.i64 ::
                             LK.i IntKind.i64 ::
                               have y:List LK :=
                                 have y:List LK := [LK.i IntKind.i64,LK.i IntKind.i64,LK.i IntKind.i64,LK.i IntKind.i64,LK.i IntKind.i64];
                                 LK.i IntKind.i64 :: LK.i IntKind.i64 :: LK.i IntKind.i64 :: LK.i IntKind.i64 :: y;
                               have y:List LK := LK.i IntKind.i64 :: LK.i IntKind.i64 :: LK.i IntKind.i64 :: LK.i IntKind.i64 :: y;
                               LK.b :: LK.i IntKind.i64 :: LK.i IntKind.i64 :: LK.i IntKind.i64 :: y;
                     LK.i IntKind.i64 :: LK.i IntKind.i64 :: LK.i IntKind.i64 :: LK.i IntKind.i64 :: y))
   x90 (nat_lit 73)])) := by kernel_rfl
def chlay_sp:List AS := [.ptr 27 [.bool false],.ro (.st (.i .i64) [.i .i64,.i .i64,.i .i64,.i .i64,.i .i64,.i .i64,.i .i64,.i .i64,.i .i64,.b,.i .i64,.i .i64,.i .i64,.i .i64])]
abbrev L34 := Int × Int × Int × Int × Int × Int × Int × Int × Int × Int × Int × Int × Int × Int × Int × Int × Int × Bool × Int × Int × Int × Int × Int × Int × Int × Int × Int × Int × Int × Int × Int × Int × Int × Int
def bnT (x:L15) (r:Pl):L34 := (r.1.1,r.1.2.1,r.1.2.2,r.2.1.1,r.2.1.2.1,r.2.1.2.2.1,r.2.1.2.2.2,x.1,x.2.1,x.2.2.1,x.2.2.2.1,x.2.2.2.2.1,x.2.2.2.2.2.1,x.2.2.2.2.2.2.1,x.2.2.2.2.2.2.2.1,x.2.2.2.2.2.2.2.2.1,x.2.2.2.2.2.2.2.2.2.1,x.2.2.2.2.2.2.2.2.2.2.1,x.2.2.2.2.2.2.2.2.2.2.2.1,x.2.2.2.2.2.2.2.2.2.2.2.2.1,x.2.2.2.2.2.2.2.2.2.2.2.2.2.1,x.2.2.2.2.2.2.2.2.2.2.2.2.2.2,r.2.2.1.1,r.2.2.1.2.1,r.2.2.1.2.2,r.2.2.2.1,r.2.2.2.2.1,r.2.2.2.2.2,0,0,0,0,0,0)
def bn0:L34 := (0,0,0,0,0,0,0,0,0,0,0,0,0,0,0,0,0,false,0,0,0,0,0,0,0,0,0,0,0,0,0,0,0,0)
noncomputable def _root_.Go.Proofs.Ytajomehkgaamoaa.V.lay (l:List (Int × Int × Int × Int × Int × Int × Int × Int × Int × Int × Bool × Int × Int × Int × Int)):List (Int × Int × Int × Int × Int × Int × Int × Int × Int × Int × Int × Int × Int × Int × Int × Int × Int × Bool × Int × Int × Int × Int × Int × Int × Int × Int × Int × Int × Int × Int × Int × Int × Int × Int) := hid (List.zipWith bnT l ((layL l []).getD []))
theorem q3_some (t:V.T3):V.q3 (some t) = t := rfl
theorem q4_some (t:V.T4):V.q4 (some t) = t := rfl
theorem q9_some (t:V.T9):V.q9 (some t) = t := rfl
theorem zip_get (l:List L15) (P:List Pl) (i:Nat) (hl:i < l.length) (hP:i < P.length):(List.zipWith bnT l P).getD i bn0 = bnT (lnk l i) (P.getD i pl0) := by
 simp [List.getD_eq_getElem?_getD,List.getElem?_zipWith,lnk,hl,hP]
theorem zip_snoc (l:List L15) (P:List Pl) (i:Nat) (hi:i < l.length) (hP:P.length = i) (r:Pl):List.zipWith bnT (l.take i) P ++ [bnT (lnk l i) r] = List.zipWith bnT (l.take (i + 1)) (P ++ [r]) := by
 rw [List.take_add_one]
 have e:l[i]?.toList = [lnk l i] := by simp [lnk,List.getD_eq_getElem?_getD,hi]
 rw [e,List.zipWith_append (by rw [List.length_take,hP]; omega)]
 rfl
theorem chlay_l0_val {α:Type} (l:List L15) (ht:Tree l) (hl:l.length ≤ 1000) (bad:Bool) (k1:Bool → List L34 → Option α) (R:List Pl):∀ (fuel i:Nat) (P:List Pl),i ≤ l.length → l.length - i < fuel → P.length = i → layL (l.drop i) P = some R →
   M.chlay_l0 l (l.length:Int) k1 fuel (i:Int) bad (List.zipWith bnT (l.take i) P) = k1 bad (List.zipWith bnT l R)
 | 0,i,P,h1,h2,h3,h4 => by omega
 | f + 1,i,P,h1,h2,h3,h4 => by
   have hzl:(List.zipWith bnT (l.take i) P).length = i := by rw [List.length_zipWith,List.length_take,h3]; omega
   by_cases hi:i < l.length
   · rw [drop_lnk l i hi] at h4
     have hx:l[i]? = some (lnk l i) := by simp [lnk,List.getD_eq_getElem?_getD,hi]
     have hp := ht i _ hx
     have hsnoc := zip_snoc l P i hi h3
     have hget:∀ q:Nat,q < i → (List.zipWith bnT (l.take i) P).getD q bn0 = bnT (lnk l q) (P.getD q pl0) := by
       intro q hq
       rw [zip_get _ _ _ (by rw [List.length_take]; omega) (by omega)]
       congr 1
       simp [lnk,List.getD_eq_getElem?_getD,List.getElem?_take,hq]
     unfold layL at h4
     rw [Option.bind_eq_some_iff] at h4
     obtain ⟨r,hr,h5⟩ := h4
     have ih := chlay_l0_val l ht hl bad k1 R f (i + 1) (P ++ [r]) (by omega) (by omega) (by rw [List.length_append,List.length_singleton,h3]) h5
     rw [← hsnoc r] at ih
     have hsz:(i + (0 + 1)) * 272 ≤ 140737488355328 := by omega
     unfold M.chlay_l0 M.chlay_l0_step
     simp only
     rw [cLt_nat,if_pos (by simpa using hi),if_pos (by omega),w_next (by omega),hzl,show List.getD l (Int.toNat (i:Int)) (0,0,0,0,0,0,0,0,0,0,false,0,0,0,0) = lnk l i from rfl]
     generalize List.zipWith bnT (l.take i) P = Z at *
     generalize lnk l i = x at *
     have fin:∀ (y:L34) (b:Bool),y = bnT x r → b = bad → M.chlay_l0 l (l.length:Int) k1 f ((i + 1:Nat):Int) b (Z ++ [y]) = k1 bad (List.zipWith bnT l R) := by
       intro y b hy hb
       rw [hy,hb]; exact ih
     by_cases h0:x.1 < 0
     · have e1 : parP P x.1 = (0, 0, 0) := if_pos h0
       have e2:parQ P x.1 = (4294967296,0,0,0) := if_pos h0
       rw [e1,e2] at hr
       unfold layO at hr
       simp only [Option.bind_eq_some_iff] at hr
       obtain ⟨m,hm,u,hu,a0,ha0,ax,hax,aq,haq,m2,hm2,t,hmt,md,hmd,hre⟩ := hr
       have hu':V.tTurn m (x.2.2.2.2.1,x.2.2.2.2.2.1,x.2.2.2.2.2.2.1) = some u := hu
       have hax':V.tTurn m (x.2.1,x.2.2.1,x.2.2.2.1) = some ax := hax
       rw [if_pos (by rw [cLt_eq]; exact decide_eq_true h0)]
       by_cases hs:x.2.2.2.2.2.2.2.2.2.2.1 = true
       · have hs' : lSl x = true := hs
         rw [if_pos hs'] at haq
         simp only [Option.bind_eq_some_iff,Option.some.injEq] at haq
         obtain ⟨s,hsc,a,ha,rfl⟩ := haq
         have hsc':V.tScale ax x.2.2.2.2.2.2.2.2.2.2.2.1 = some s := hsc
         simp only at hm2 hmd hre
         rw [hm] at hm2
         cases hm2
         have hmt':V.tTurn m (x.2.2.2.2.2.2.2.1,x.2.2.2.2.2.2.2.2.1,x.2.2.2.2.2.2.2.2.2.1) = some t := hmt
         cases hre
         rw [if_pos hs,if_pos hsz]
         refine fin _ _ ?_ ?_
         · simp only [hm,q9_some,hu',q3_some,ha0,hax',hsc',ha,hmt',hmd,V.x3,V.y3,V.z3,bnT]
         · simp only [hm,q9_some,hu',q3_some,ha0,hax',hsc',ha,hmt',hmd,on_some]
       · have hs' : ¬ lSl x = true := hs
         rw [if_neg hs'] at haq
         simp only [Option.bind_eq_some_iff,Option.some.injEq] at haq
         obtain ⟨v,hv,w,hw,q,hq,rfl⟩ := haq
         have hv':V.tScale (x.2.1,x.2.2.1,x.2.2.2.1) x.2.2.2.2.2.2.2.2.2.2.2.1 = some v := hv
         simp only at hm2 hmd hre
         have hmt':V.tTurn m2 (x.2.2.2.2.2.2.2.1,x.2.2.2.2.2.2.2.2.1,x.2.2.2.2.2.2.2.2.2.1) = some t := hmt
         cases hre
         rw [if_neg hs,if_pos hsz]
         refine fin _ _ ?_ ?_
         · simp only [hm,q9_some,hu',q3_some,q4_some,ha0,hax',hv',hw,hq,hm2,hmt',hmd,V.x3,V.y3,V.z3,V.w4,V.x4,V.y4,V.z4,bnT]
         · simp only [hm,q9_some,hu',q3_some,q4_some,ha0,hax',hv',hw,hq,hm2,hmt',hmd,on_some]
     · have hq0 : x.1.toNat < i := by omega
       have hg := hget _ hq0
       have e1:parP P x.1 = (P.getD x.1.toNat pl0).1 := if_neg h0
       have e2:parQ P x.1 = (P.getD x.1.toNat pl0).2.1 := if_neg h0
       rw [e1,e2] at hr
       rw [if_neg (by rw [cLt_eq]; simpa using h0),if_pos (show (0:Int) ≤ x.1 ∧ x.1 < (i:Int) by omega),show List.getD Z (Int.toNat x.1) (0,0,0,0,0,0,0,0,0,0,0,0,0,0,0,0,0,false,0,0,0,0,0,0,0,0,0,0,0,0,0,0,0,0) = bnT (lnk l x.1.toNat) (P.getD x.1.toNat pl0) from hg]
       generalize P.getD x.1.toNat pl0 = p at *
       unfold layO at hr
       simp only [Option.bind_eq_some_iff] at hr
       obtain ⟨m,hm,u,hu,a0,ha0,ax,hax,aq,haq,m2,hm2,t,hmt,md,hmd,hre⟩ := hr
       have hm':V.tRows (p.2.1.1,p.2.1.2.1,p.2.1.2.2.1,p.2.1.2.2.2) = some m := hm
       have hu':V.tTurn m (x.2.2.2.2.1,x.2.2.2.2.2.1,x.2.2.2.2.2.2.1) = some u := hu
       have ha0':V.tAdd (p.1.1,p.1.2.1,p.1.2.2) u = some a0 := ha0
       have hax':V.tTurn m (x.2.1,x.2.2.1,x.2.2.2.1) = some ax := hax
       by_cases hs:x.2.2.2.2.2.2.2.2.2.2.1 = true
       · have hs' : lSl x = true := hs
         rw [if_pos hs'] at haq
         simp only [Option.bind_eq_some_iff,Option.some.injEq] at haq
         obtain ⟨s,hsc,a,ha,rfl⟩ := haq
         have hsc':V.tScale ax x.2.2.2.2.2.2.2.2.2.2.2.1 = some s := hsc
         simp only at hm2 hmd hre
         rw [hm] at hm2
         cases hm2
         have hmt':V.tTurn m (x.2.2.2.2.2.2.2.1,x.2.2.2.2.2.2.2.2.1,x.2.2.2.2.2.2.2.2.2.1) = some t := hmt
         cases hre
         rw [if_pos hs,if_pos hsz]
         refine fin _ _ ?_ ?_
         · simp only [bnT,hm',q9_some,hu',q3_some,ha0',hax',hsc',ha,hmt',hmd,V.x3,V.y3,V.z3]
         · simp only [bnT,hm',q9_some,hu',q3_some,ha0',hax',hsc',ha,hmt',hmd,on_some]
       · have hs' : ¬ lSl x = true := hs
         rw [if_neg hs'] at haq
         simp only [Option.bind_eq_some_iff,Option.some.injEq] at haq
         obtain ⟨v,hv,w,hw,q,hq,rfl⟩ := haq
         have hv':V.tScale (x.2.1,x.2.2.1,x.2.2.2.1) x.2.2.2.2.2.2.2.2.2.2.2.1 = some v := hv
         have hq':V.tTimes (p.2.1.1,p.2.1.2.1,p.2.1.2.2.1,p.2.1.2.2.2) w = some q := hq
         simp only at hm2 hmd hre
         have hmt':V.tTurn m2 (x.2.2.2.2.2.2.2.1,x.2.2.2.2.2.2.2.2.1,x.2.2.2.2.2.2.2.2.2.1) = some t := hmt
         cases hre
         rw [if_neg hs,if_pos hsz]
         refine fin _ _ ?_ ?_
         · simp only [bnT,hm',q9_some,hu',q3_some,q4_some,ha0',hax',hv',hw,hq',hm2,hmt',hmd,V.x3,V.y3,V.z3,V.w4,V.x4,V.y4,V.z4]
         · simp only [bnT,hm',q9_some,hu',q3_some,q4_some,ha0',hax',hv',hw,hq',hm2,hmt',hmd,on_some]
   · have : i = l.length := by omega
     subst this
     rw [List.drop_length] at h4
     simp only [layL,Option.some.injEq] at h4
     subst h4
     unfold M.chlay_l0 M.chlay_l0_step
     simp only
     rw [cLt_nat,if_neg (by simp),List.take_length]
theorem chlay_v {α:Type} (bad:Bool) (l:List L15) (hg:V.chC l = 0) (k0:Bool → List L34 → Option α):M.chlay bad l k0 = k0 bad (V.lay l) := by
 obtain ⟨P,hP⟩ := chC_lay hg
 obtain ⟨h1,h2⟩ := (chC_iff l).1 hg
 unfold M.chlay V.lay
 rw [hid_eq,hP]
 have := chlay_l0_val l (fun i x hx => (h2 i x hx).par) (by omega) bad (fun (b:Bool) (z:List L34) => k0 b z) P (100 + l.length + 0) 0 [] (by omega) (by omega) rfl hP
 exact this
abbrev kBn:K := .st (.i .i64) (.i .i64 :: .i .i64 :: .i .i64 :: .i .i64 :: .i .i64 :: .i .i64 :: .i .i64 :: .i .i64 :: .i .i64 :: .i .i64 :: .i .i64 :: .i .i64 :: .i .i64 :: .i .i64 :: .i .i64 :: .i .i64 :: .b :: .i .i64 :: .i .i64 :: .i .i64 :: .i .i64 :: .i .i64 :: .i .i64 :: .i .i64 :: .i .i64 :: .i .i64 :: .i .i64 :: .i .i64 :: .i .i64 :: .i .i64 :: .i .i64 :: .i .i64 :: .i .i64 :: [])
noncomputable def chlay_h {α:Type} (ds:List D) (Q:SV → Hp → Option α):Option α :=
 dB ds fun bad ds => dL (K.st (LK.i IntKind.i64) [LK.i IntKind.i64,LK.i IntKind.i64,LK.i IntKind.i64,LK.i IntKind.i64,LK.i IntKind.i64,LK.i IntKind.i64,LK.i IntKind.i64,LK.i IntKind.i64,LK.i IntKind.i64,LK.b,LK.i IntKind.i64,LK.i IntKind.i64,LK.i IntKind.i64,LK.i IntKind.i64]) ds fun l ds => dE ds (if V.chC l = 0 then Q (.ptr 1 0) ([.cells [.bool bad] 27,.cells [.ptr 0 0,.sl 2] 71,.seq kBn (V.lay l) 73]) else none)
theorem chlay_h_ok {α:Type}:FnOk E.P 52 (fEnt (α := α) chlay_sp chlay_h) :=
 fEntR_ok E (look_chright_ok) (exec_sound E E_ok (look_chright_ok) (chlay_l0_lps_ok) 400) fun ds Q r h => by
   unfold chlay_h at h
   obtain ⟨bad,ds,rfl,h1⟩ := dB_inv h
   obtain ⟨l,ds,rfl,h2⟩ := dL_inv h1
   obtain ⟨rfl,hE⟩ := dE_inv h2
   split at hE
   · rename_i hg
     exact ⟨_,_,hE,fun vs => ⟨_,_,by kernel_rfl,(chlay_eq bad l (vs.tail.headD undef) _).trans (chlay_v bad l hg _)⟩⟩
   · cases hE
noncomputable def look_chlay {α:Type}:LookF α := addFn 52 (fEnt chlay_sp chlay_h) look_chright
theorem look_chlay_ok {α:Type}:LookOk E.P (look_chlay (α := α)) := addFn_ok chlay_h_ok (look_chright_ok)
end
section
open Go
def awX:L15 := (-1,0,0,4294967296,4294967296,0,0,0,0,0,false,0,0,0,4294967296)
def awY (p:Int):L15 := (p,0,0,4294967296,4294967296,0,0,0,0,0,false,0,0,0,4294967296)
theorem whole_one:V.tWhole (4294967296,0,0,0) = some (4294967296,0,0,0) := by
 refine tWhole_some.2 ⟨4294967296,?_,by omega,by decide +kernel,by decide +kernel,by decide +kernel,by decide +kernel⟩
 refine mNorm4_some.2 ⟨by decide,by decide,by decide,by decide,?_,by decide⟩
 exact (isq_of (by omega) (by simp only []; omega) (by simp only []; omega)).symm
theorem rows_one:V.tRows (4294967296,0,0,0) = some ((4294967296,0,0),(0,4294967296,0),(0,0,4294967296)) := by decide +kernel
theorem turn_one {v:V.T3} (h:Gd v.1 ∧ Gd v.2.1 ∧ Gd v.2.2):V.tTurn ((4294967296,0,0),(0,4294967296,0),(0,0,4294967296)) v = some v := by
 obtain ⟨h1,h2,h3⟩ := h
 have z:Gd 0 := by decide
 have o:Gd 4294967296 := by decide
 refine tTurn_some.2 ⟨mDot3_some.2 ⟨o,z,z,h1,h2,h3,h1,?_⟩,mDot3_some.2 ⟨z,o,z,h1,h2,h3,h2,?_⟩,mDot3_some.2 ⟨z,z,o,h1,h2,h3,h3,?_⟩⟩ <;> simp only [] <;> omega
theorem times_one:V.tTimes (4294967296,0,0,0) (4294967296,0,0,0) = some (4294967296,0,0,0) := by decide +kernel
theorem aw_lay (pp:V.T3) (p:Int) (a:Int) (hp:pp = (a,0,0)) (ha:a = 0 ∨ a = 4294967296):layO pp (4294967296,0,0,0) (awY p) = some ((a + 4294967296,0,0),(4294967296,0,0,0),(0,0,4294967296),(a + 4294967296,0,0)) := by
 subst hp
 have e1:V.tTurn ((4294967296,0,0),(0,4294967296,0),(0,0,4294967296)) (lAt (awY p)) = some (4294967296,0,0) := turn_one (v := (4294967296,0,0)) (by decide)
 have e2:V.tTurn ((4294967296,0,0),(0,4294967296,0),(0,0,4294967296)) (lAx (awY p)) = some (0,0,4294967296) := turn_one (v := (0,0,4294967296)) (by decide)
 have e3:V.tTurn ((4294967296,0,0),(0,4294967296,0),(0,0,4294967296)) (lMid (awY p)) = some (0,0,0) := turn_one (v := (0,0,0)) (by decide)
 have e4:V.tScale (lAx (awY p)) (lAng (awY p)) = some (0,0,0) := by
   show V.tScale (0,0,4294967296) 0 = _
   decide +kernel
 have e5:V.tAdd (a,0,0) (4294967296,0,0) = some (a + 4294967296,0,0) := by rcases ha with rfl | rfl <;> decide +kernel
 have e6:V.tAdd (a + 4294967296,0,0) (0,0,0) = some (a + 4294967296,0,0) := by rcases ha with rfl | rfl <;> decide +kernel
 have hs:¬ lSl (awY p) = true := by show ¬ false = true; decide
 unfold layO
 rw [rows_one,Option.bind_some,e1,Option.bind_some,e5,Option.bind_some,e2,Option.bind_some,if_neg hs,e4,Option.bind_some,whole_one,Option.bind_some,times_one,Option.bind_some,Option.bind_some]
 simp only
 rw [rows_one,Option.bind_some,e3,Option.bind_some,e6,Option.bind_some]
theorem aw_lkc {i:Nat} {p:Int} (h:-1 ≤ p ∧ p < (i:Int)):LkC i (awY p) := by
 refine ⟨h,⟨_,len_z,by omega,by omega⟩,?_,?_,?_,?_,?_,?_⟩
 · show 16777216 ≤ (4294967296:Int) ∧ (4294967296:Int) ≤ 1099511627776; omega
 · show Inn 0 (if false = true then 68719476736 else 17179869184); rw [if_neg (by decide)]; unfold Inn; omega
 · exact ⟨by show Inn 4294967296 _; unfold Inn; omega,by show Inn 0 _; unfold Inn; omega,by show Inn 0 _; unfold Inn; omega⟩
 · exact ⟨by show Inn 0 _; unfold Inn; omega,by show Inn 0 _; unfold Inn; omega,by show Inn 0 _; unfold Inn; omega⟩
 · show Inn 0 _; unfold Inn; omega
 · show Inn 0 _; unfold Inn; omega
theorem aw_ok:V.chC [awX,awY 0] = 0 := by
 refine (chC_iff _).2 ⟨by decide,fun i x hx => ?_⟩
 match i,hx with
 | 0,hx => simp at hx; subst hx; exact aw_lkc (p := -1) (by omega)
 | 1,hx => simp at hx; subst hx; exact aw_lkc (by omega)
 | i + 2,hx => simp at hx
theorem chC_ne {l:List L15} (h:V.chC l ≠ 0):V.chC l = 160 := by
 unfold V.chC at *
 rw [hid_eq] at *
 split at h
 · rename_i hc; rw [if_pos hc]
 · exact absurd rfl h
theorem aw_bad:V.chC [awX,awY 1] = 160 := by
 refine chC_ne fun h => ?_
 have := ((chC_iff _).1 h).2 1 (awY 1) rfl
 have h1 := this.par.2
 exact absurd h1 (by show ¬ (1:Int) < ((1:Nat):Int); omega)
theorem aw_layL:layL [awX,awY 0] [] = some [((4294967296,0,0),(4294967296,0,0,0),(0,0,4294967296),(4294967296,0,0)),((8589934592,0,0),(4294967296,0,0,0),(0,0,4294967296),(8589934592,0,0))] := by
 have h1 := aw_lay (0,0,0) (-1) 0 rfl (.inl rfl)
 have h2 := aw_lay (4294967296,0,0) 0 4294967296 rfl (.inr rfl)
 unfold layL
 have e1:parP [] awX.1 = (0,0,0) := rfl
 have e2:parQ [] awX.1 = (4294967296,0,0,0) := rfl
 rw [e1,e2,show layO (0,0,0) (4294967296,0,0,0) awX = _ from h1,Option.bind_some]
 unfold layL
 have e3:parP ([] ++ [(((0:Int) + 4294967296,(0:Int),(0:Int)),((4294967296:Int),(0:Int),(0:Int),(0:Int)),((0:Int),(0:Int),(4294967296:Int)),((0:Int) + 4294967296,(0:Int),(0:Int)))]) (awY 0).1 = (4294967296,0,0) := rfl
 have e4:parQ ([] ++ [(((0:Int) + 4294967296,(0:Int),(0:Int)),((4294967296:Int),(0:Int),(0:Int),(0:Int)),((0:Int),(0:Int),(4294967296:Int)),((0:Int) + 4294967296,(0:Int),(0:Int)))]) (awY 0).1 = (4294967296,0,0,0) := rfl
 rw [e3,e4,h2,Option.bind_some]
 rfl
end
section
open Go
set_option maxRecDepth 20000
noncomputable abbrev chplaces_S1 (y1 y2:Int) (y3:Bool) (y4 y5 y6:List (Int × Int × Int × Int × Int × Int × Int)) (y7:Bool) (y8:List (Int × Int × Int × Int × Int × Int × Int × Int × Int × Int × Int × Int × Int × Int × Int × Int × Int × Bool × Int × Int × Int × Int × Int × Int × Int × Int × Int × Int × Int × Int × Int × Int × Int × Int)) (y9:List (Int × Int × Int × Int × Int × Int × Int)):St := St.mk (nn 3 (some (SV.sl (nat_lit 7)) :: nn 5 (some (SV.sl (nat_lit 6)) :: some (SV.int .i64 y1) :: some (SV.int .i64 y2) :: nn 10 ([])))) [.cells [SV.bool y3] (nat_lit 27),.seq (K.st (LK.i IntKind.i64) [LK.i IntKind.i64,LK.i IntKind.i64,LK.i IntKind.i64,LK.i IntKind.i64,LK.i IntKind.i64,LK.i IntKind.i64]) y4 (nat_lit 40),.seq (K.st (LK.i IntKind.i64) [LK.i IntKind.i64,LK.i IntKind.i64,LK.i IntKind.i64,LK.i IntKind.i64,LK.i IntKind.i64,LK.i IntKind.i64]) y5 (nat_lit 40),.seq (K.st (LK.i IntKind.i64) [LK.i IntKind.i64,LK.i IntKind.i64,LK.i IntKind.i64,LK.i IntKind.i64,LK.i IntKind.i64,LK.i IntKind.i64]) y6 (nat_lit 40),.cells [SV.bool y7] (nat_lit 27),.cells [SV.ptr (nat_lit 4) (nat_lit 0),SV.sl (nat_lit 6)] (nat_lit 71),SObj.seq (K.st (LK.i IntKind.i64) [LK.i IntKind.i64,LK.i IntKind.i64,LK.i IntKind.i64,LK.i IntKind.i64,LK.i IntKind.i64,LK.i IntKind.i64,LK.i IntKind.i64,LK.i IntKind.i64,LK.i IntKind.i64,LK.i IntKind.i64,LK.i IntKind.i64,LK.i IntKind.i64,LK.i IntKind.i64,LK.i IntKind.i64,LK.i IntKind.i64,LK.i IntKind.i64,LK.b,LK.i IntKind.i64,LK.i IntKind.i64,LK.i IntKind.i64,LK.i IntKind.i64,LK.i IntKind.i64,LK.i IntKind.i64,LK.i IntKind.i64,LK.i IntKind.i64,LK.i IntKind.i64,LK.i IntKind.i64,LK.i IntKind.i64,LK.i IntKind.i64,LK.i IntKind.i64,LK.i IntKind.i64,LK.i IntKind.i64,LK.i IntKind.i64]) y8 (nat_lit 73),.seq (K.st (LK.i IntKind.i64) [LK.i IntKind.i64,LK.i IntKind.i64,LK.i IntKind.i64,LK.i IntKind.i64,LK.i IntKind.i64,LK.i IntKind.i64]) y9 (nat_lit 40)]
noncomputable abbrev chplaces_S2 (y1:Bool) (y2 y3 y4:List (Int × Int × Int × Int × Int × Int × Int)) (y5:Bool) (y6:List (Int × Int × Int × Int × Int × Int × Int × Int × Int × Int × Int × Int × Int × Int × Int × Int × Int × Bool × Int × Int × Int × Int × Int × Int × Int × Int × Int × Int × Int × Int × Int × Int × Int × Int)) (y7:List (Int × Int × Int × Int × Int × Int × Int)):St := St.mk (nn 3 (some (SV.sl (nat_lit 7)) :: nn 18 ([]))) [.cells [SV.bool y1] (nat_lit 27),.seq (K.st (LK.i IntKind.i64) [LK.i IntKind.i64,LK.i IntKind.i64,LK.i IntKind.i64,LK.i IntKind.i64,LK.i IntKind.i64,LK.i IntKind.i64]) y2 (nat_lit 40),.seq (K.st (LK.i IntKind.i64) [LK.i IntKind.i64,LK.i IntKind.i64,LK.i IntKind.i64,LK.i IntKind.i64,LK.i IntKind.i64,LK.i IntKind.i64]) y3 (nat_lit 40),.seq (K.st (LK.i IntKind.i64) [LK.i IntKind.i64,LK.i IntKind.i64,LK.i IntKind.i64,LK.i IntKind.i64,LK.i IntKind.i64,LK.i IntKind.i64]) y4 (nat_lit 40),.cells [SV.bool y5] (nat_lit 27),.cells [SV.ptr (nat_lit 4) (nat_lit 0),SV.sl (nat_lit 6)] (nat_lit 71),SObj.seq (K.st (LK.i IntKind.i64) [LK.i IntKind.i64,LK.i IntKind.i64,LK.i IntKind.i64,LK.i IntKind.i64,LK.i IntKind.i64,LK.i IntKind.i64,LK.i IntKind.i64,LK.i IntKind.i64,LK.i IntKind.i64,LK.i IntKind.i64,LK.i IntKind.i64,LK.i IntKind.i64,LK.i IntKind.i64,LK.i IntKind.i64,LK.i IntKind.i64,LK.i IntKind.i64,LK.b,LK.i IntKind.i64,LK.i IntKind.i64,LK.i IntKind.i64,LK.i IntKind.i64,LK.i IntKind.i64,LK.i IntKind.i64,LK.i IntKind.i64,LK.i IntKind.i64,LK.i IntKind.i64,LK.i IntKind.i64,LK.i IntKind.i64,LK.i IntKind.i64,LK.i IntKind.i64,LK.i IntKind.i64,LK.i IntKind.i64,LK.i IntKind.i64]) y6 (nat_lit 73),.seq (K.st (LK.i IntKind.i64) [LK.i IntKind.i64,LK.i IntKind.i64,LK.i IntKind.i64,LK.i IntKind.i64,LK.i IntKind.i64,LK.i IntKind.i64]) y7 (nat_lit 40)]
noncomputable abbrev chplaces_S3:St := St.mk (nn 3 (some (SV.sl (nat_lit 7)) :: nn 5 (some (SV.sl (nat_lit 6)) :: some (SV.int .i64 (0:Int)) :: some (SV.int .i64 (0:Int)) :: nn 10 ([])))) [.cells [SV.bool false] (nat_lit 27),.seq (K.st (LK.i IntKind.i64) [LK.i IntKind.i64,LK.i IntKind.i64,LK.i IntKind.i64,LK.i IntKind.i64,LK.i IntKind.i64,LK.i IntKind.i64]) [] (nat_lit 40),.seq (K.st (LK.i IntKind.i64) [LK.i IntKind.i64,LK.i IntKind.i64,LK.i IntKind.i64,LK.i IntKind.i64,LK.i IntKind.i64,LK.i IntKind.i64]) [] (nat_lit 40),.seq (K.st (LK.i IntKind.i64) [LK.i IntKind.i64,LK.i IntKind.i64,LK.i IntKind.i64,LK.i IntKind.i64,LK.i IntKind.i64,LK.i IntKind.i64]) [] (nat_lit 40),.cells [SV.bool false] (nat_lit 27),.cells [SV.ptr (nat_lit 4) (nat_lit 0),SV.sl (nat_lit 6)] (nat_lit 71),SObj.seq (K.st (LK.i IntKind.i64) [LK.i IntKind.i64,LK.i IntKind.i64,LK.i IntKind.i64,LK.i IntKind.i64,LK.i IntKind.i64,LK.i IntKind.i64,LK.i IntKind.i64,LK.i IntKind.i64,LK.i IntKind.i64,LK.i IntKind.i64,LK.i IntKind.i64,LK.i IntKind.i64,LK.i IntKind.i64,LK.i IntKind.i64,LK.i IntKind.i64,LK.i IntKind.i64,LK.b,LK.i IntKind.i64,LK.i IntKind.i64,LK.i IntKind.i64,LK.i IntKind.i64,LK.i IntKind.i64,LK.i IntKind.i64,LK.i IntKind.i64,LK.i IntKind.i64,LK.i IntKind.i64,LK.i IntKind.i64,LK.i IntKind.i64,LK.i IntKind.i64,LK.i IntKind.i64,LK.i IntKind.i64,LK.i IntKind.i64,LK.i IntKind.i64]) [] (nat_lit 73),.seq (K.st (LK.i IntKind.i64) [LK.i IntKind.i64,LK.i IntKind.i64,LK.i IntKind.i64,LK.i IntKind.i64,LK.i IntKind.i64,LK.i IntKind.i64]) [] (nat_lit 40)]
noncomputable def M.chplaces_l0_step {α:Type} (x10:Int) (x17:List (Int × Int × Int × Int × Int × Int × Int × Int × Int × Int × Int × Int × Int × Int × Int × Int × Int × Bool × Int × Int × Int × Int × Int × Int × Int × Int × Int × Int × Int × Int × Int × Int × Int × Int)) (kn:Int → List (Int × Int × Int × Int × Int × Int × Int) → Option α) (k1:List (Int × Int × Int × Int × Int × Int × Int) → Option α) (x11:Int) (x18:List (Int × Int × Int × Int × Int × Int × Int)):Option α := let s19:K.T (K.st (LK.i IntKind.i64) [LK.i IntKind.i64,LK.i IntKind.i64,LK.i IntKind.i64,LK.i IntKind.i64,LK.i IntKind.i64,LK.i IntKind.i64,LK.i IntKind.i64,LK.i IntKind.i64,LK.i IntKind.i64,LK.i IntKind.i64,LK.i IntKind.i64,LK.i IntKind.i64,LK.i IntKind.i64,LK.i IntKind.i64,LK.i IntKind.i64,LK.i IntKind.i64,LK.b,LK.i IntKind.i64,LK.i IntKind.i64,LK.i IntKind.i64,LK.i IntKind.i64,LK.i IntKind.i64,LK.i IntKind.i64,LK.i IntKind.i64,LK.i IntKind.i64,LK.i IntKind.i64,LK.i IntKind.i64,LK.i IntKind.i64,LK.i IntKind.i64,LK.i IntKind.i64,LK.i IntKind.i64,LK.i IntKind.i64,LK.i IntKind.i64]) := List.getD x17 (Int.toNat x11) ((0:Int),(0:Int),(0:Int),(0:Int),(0:Int),(0:Int),(0:Int),(0:Int),(0:Int),(0:Int),(0:Int),(0:Int),(0:Int),(0:Int),(0:Int),(0:Int),(0:Int),false,(0:Int),(0:Int),(0:Int),(0:Int),(0:Int),(0:Int),(0:Int),(0:Int),(0:Int),(0:Int),(0:Int),(0:Int),(0:Int),(0:Int),(0:Int),(0:Int)); let s20:RT (LK.i IntKind.i64) [LK.i IntKind.i64,LK.i IntKind.i64,LK.i IntKind.i64,LK.i IntKind.i64,LK.i IntKind.i64,LK.i IntKind.i64,LK.i IntKind.i64,LK.i IntKind.i64,LK.i IntKind.i64,LK.i IntKind.i64,LK.i IntKind.i64,LK.i IntKind.i64,LK.i IntKind.i64,LK.i IntKind.i64,LK.i IntKind.i64,LK.b,LK.i IntKind.i64,LK.i IntKind.i64,LK.i IntKind.i64,LK.i IntKind.i64,LK.i IntKind.i64,LK.i IntKind.i64,LK.i IntKind.i64,LK.i IntKind.i64,LK.i IntKind.i64,LK.i IntKind.i64,LK.i IntKind.i64,LK.i IntKind.i64,LK.i IntKind.i64,LK.i IntKind.i64,LK.i IntKind.i64,LK.i IntKind.i64] := Prod.snd s19; let s21:RT (LK.i IntKind.i64) [LK.i IntKind.i64,LK.i IntKind.i64,LK.i IntKind.i64,LK.i IntKind.i64,LK.i IntKind.i64,LK.i IntKind.i64,LK.i IntKind.i64,LK.i IntKind.i64,LK.i IntKind.i64,LK.i IntKind.i64,LK.i IntKind.i64,LK.i IntKind.i64,LK.i IntKind.i64,LK.i IntKind.i64,LK.b,LK.i IntKind.i64,LK.i IntKind.i64,LK.i IntKind.i64,LK.i IntKind.i64,LK.i IntKind.i64,LK.i IntKind.i64,LK.i IntKind.i64,LK.i IntKind.i64,LK.i IntKind.i64,LK.i IntKind.i64,LK.i IntKind.i64,LK.i IntKind.i64,LK.i IntKind.i64,LK.i IntKind.i64,LK.i IntKind.i64,LK.i IntKind.i64] := Prod.snd s20; let s22:RT (LK.i IntKind.i64) [LK.i IntKind.i64,LK.i IntKind.i64,LK.i IntKind.i64,LK.i IntKind.i64,LK.i IntKind.i64,LK.i IntKind.i64,LK.i IntKind.i64,LK.i IntKind.i64,LK.i IntKind.i64,LK.i IntKind.i64,LK.i IntKind.i64,LK.i IntKind.i64,LK.i IntKind.i64,LK.b,LK.i IntKind.i64,LK.i IntKind.i64,LK.i IntKind.i64,LK.i IntKind.i64,LK.i IntKind.i64,LK.i IntKind.i64,LK.i IntKind.i64,LK.i IntKind.i64,LK.i IntKind.i64,LK.i IntKind.i64,LK.i IntKind.i64,LK.i IntKind.i64,LK.i IntKind.i64,LK.i IntKind.i64,LK.i IntKind.i64,LK.i IntKind.i64] := Prod.snd s21; let s23:RT (LK.i IntKind.i64) [LK.i IntKind.i64,LK.i IntKind.i64,LK.i IntKind.i64,LK.i IntKind.i64,LK.i IntKind.i64,LK.i IntKind.i64,LK.i IntKind.i64,LK.i IntKind.i64,LK.i IntKind.i64,LK.i IntKind.i64,LK.i IntKind.i64,LK.i IntKind.i64,LK.b,LK.i IntKind.i64,LK.i IntKind.i64,LK.i IntKind.i64,LK.i IntKind.i64,LK.i IntKind.i64,LK.i IntKind.i64,LK.i IntKind.i64,LK.i IntKind.i64,LK.i IntKind.i64,LK.i IntKind.i64,LK.i IntKind.i64,LK.i IntKind.i64,LK.i IntKind.i64,LK.i IntKind.i64,LK.i IntKind.i64,LK.i IntKind.i64] := Prod.snd s22; let s24:RT (LK.i IntKind.i64) [LK.i IntKind.i64,LK.i IntKind.i64,LK.i IntKind.i64,LK.i IntKind.i64,LK.i IntKind.i64,LK.i IntKind.i64,LK.i IntKind.i64,LK.i IntKind.i64,LK.i IntKind.i64,LK.i IntKind.i64,LK.i IntKind.i64,LK.b,LK.i IntKind.i64,LK.i IntKind.i64,LK.i IntKind.i64,LK.i IntKind.i64,LK.i IntKind.i64,LK.i IntKind.i64,LK.i IntKind.i64,LK.i IntKind.i64,LK.i IntKind.i64,LK.i IntKind.i64,LK.i IntKind.i64,LK.i IntKind.i64,LK.i IntKind.i64,LK.i IntKind.i64,LK.i IntKind.i64,LK.i IntKind.i64] := Prod.snd s23; if cLt x11 x10 = true then if (0:Int) ≤ x11 ∧ x11 < (↑(List.length x17):Int) then if (List.length x18 + ((0:Nat) + (1:Nat))) * (56:Nat) ≤ (140737488355328:Nat) then kn (IntKind.wrap .i64 (x11 + (1:Int))) (x18 ++ [(Prod.fst s19,Prod.fst s20,Prod.fst s21,Prod.fst s22,Prod.fst s23,Prod.fst s24,Prod.fst (Prod.snd s24))]) else none else none else k1 x18
noncomputable def M.chplaces_l0 {α:Type} (x10:Int) (x17:List (Int × Int × Int × Int × Int × Int × Int × Int × Int × Int × Int × Int × Int × Int × Int × Int × Int × Bool × Int × Int × Int × Int × Int × Int × Int × Int × Int × Int × Int × Int × Int × Int × Int × Int)) (k1:List (Int × Int × Int × Int × Int × Int × Int) → Option α):Nat → Int → List (Int × Int × Int × Int × Int × Int × Int) → Option α
 | 0,_,_ => none
 | n + 1,x11,x18 => M.chplaces_l0_step x10 x17 (M.chplaces_l0 x10 x17 k1 n) k1 x11 x18
theorem chplaces_l0_step_eq {α:Type} (x10 x11:Int) (x12:Bool) (x13:List (Int × Int × Int × Int × Int × Int × Int)) (x14:List (Int × Int × Int × Int × Int × Int × Int)) (x15:List (Int × Int × Int × Int × Int × Int × Int)) (x16:Bool) (x17:List (Int × Int × Int × Int × Int × Int × Int × Int × Int × Int × Int × Int × Int × Int × Int × Int × Int × Bool × Int × Int × Int × Int × Int × Int × Int × Int × Int × Int × Int × Int × Int × Int × Int × Int)) (x18:List (Int × Int × Int × Int × Int × Int × Int)) (Q:Ex → St → Option α):(loopStep E (exec E look_chlay noLps 400) 27 [false,true,false,true,true] 7 (codeAt E.P 27 [false,true,false,true,true])) (chplaces_S1 x10 x11 x12 x13 x14 x15 x16 x17 x18) Q = M.chplaces_l0_step x10 x17 (fun (x26:Int) (x27:List (Int × Int × Int × Int × Int × Int × Int)) => Q .normal (chplaces_S1 x10 x26 x12 x13 x14 x15 x16 x17 x27)) (fun (x25:List (Int × Int × Int × Int × Int × Int × Int)) => Q (.exit 0) (chplaces_S2 x12 x13 x14 x15 x16 x17 x25)) x11 x18 := by kernel_rfl
theorem chplaces_l0_iter {α:Type} (x10:Int) (x12:Bool) (x13:List (Int × Int × Int × Int × Int × Int × Int)) (x14:List (Int × Int × Int × Int × Int × Int × Int)) (x15:List (Int × Int × Int × Int × Int × Int × Int)) (x16:Bool) (x17:List (Int × Int × Int × Int × Int × Int × Int × Int × Int × Int × Int × Int × Int × Int × Int × Int × Int × Bool × Int × Int × Int × Int × Int × Int × Int × Int × Int × Int × Int × Int × Int × Int × Int × Int)) (Q:Ex → St → Option α):∀ (n:Nat) (x11:Int) (x18:List (Int × Int × Int × Int × Int × Int × Int)),iter (loopStep E (exec E look_chlay noLps 400) 27 [false,true,false,true,true] 7 (codeAt E.P 27 [false,true,false,true,true])) n (chplaces_S1 x10 x11 x12 x13 x14 x15 x16 x17 x18) Q = M.chplaces_l0 x10 x17 (fun (x25:List (Int × Int × Int × Int × Int × Int × Int)) => Q (.exit 0) (chplaces_S2 x12 x13 x14 x15 x16 x17 x25)) n x11 x18
 | 0,_,_ => rfl
 | n + 1,x11,x18 => (chplaces_l0_step_eq x10 x11 x12 x13 x14 x15 x16 x17 x18 (iterK (loopStep E (exec E look_chlay noLps 400) 27 [false,true,false,true,true] 7 (codeAt E.P 27 [false,true,false,true,true])) n Q)).trans (congrArg (fun kn => M.chplaces_l0_step x10 x17 kn (fun (x25:List (Int × Int × Int × Int × Int × Int × Int)) => Q (.exit 0) (chplaces_S2 x12 x13 x14 x15 x16 x17 x25)) x11 x18) (funext fun x11 => funext fun x18 => chplaces_l0_iter x10 x12 x13 x14 x15 x16 x17 Q n x11 x18))
noncomputable def chplaces_l0_go {α:Type} (ds:List D) (Q:Ex → St → Option α):Option α :=
 dI ds fun x10 ds => dI ds fun x11 ds => dB ds fun x12 ds => dL (K.st (LK.i IntKind.i64) [LK.i IntKind.i64,LK.i IntKind.i64,LK.i IntKind.i64,LK.i IntKind.i64,LK.i IntKind.i64,LK.i IntKind.i64]) ds fun x13 ds => dL (K.st (LK.i IntKind.i64) [LK.i IntKind.i64,LK.i IntKind.i64,LK.i IntKind.i64,LK.i IntKind.i64,LK.i IntKind.i64,LK.i IntKind.i64]) ds fun x14 ds => dL (K.st (LK.i IntKind.i64) [LK.i IntKind.i64,LK.i IntKind.i64,LK.i IntKind.i64,LK.i IntKind.i64,LK.i IntKind.i64,LK.i IntKind.i64]) ds fun x15 ds => dB ds fun x16 ds => dL (K.st (LK.i IntKind.i64)
 [LK.i IntKind.i64,LK.i IntKind.i64,LK.i IntKind.i64,LK.i IntKind.i64,LK.i IntKind.i64,LK.i IntKind.i64,LK.i IntKind.i64,LK.i IntKind.i64,LK.i IntKind.i64,LK.i IntKind.i64,LK.i IntKind.i64,LK.i IntKind.i64,LK.i IntKind.i64,LK.i IntKind.i64,LK.i IntKind.i64,LK.i IntKind.i64,LK.b,LK.i IntKind.i64,LK.i IntKind.i64,LK.i IntKind.i64,LK.i IntKind.i64,LK.i IntKind.i64,LK.i IntKind.i64,LK.i IntKind.i64,LK.i IntKind.i64,LK.i IntKind.i64,LK.i IntKind.i64,LK.i IntKind.i64,
   LK.i IntKind.i64,LK.i IntKind.i64,LK.i IntKind.i64,LK.i IntKind.i64,LK.i IntKind.i64]) ds fun x17 ds => dL (K.st (LK.i IntKind.i64) [LK.i IntKind.i64,LK.i IntKind.i64,LK.i IntKind.i64,LK.i IntKind.i64,LK.i IntKind.i64,LK.i IntKind.i64]) ds fun x18 ds => dE ds (M.chplaces_l0 x10 x17 (fun (x25:List (Int × Int × Int × Int × Int × Int × Int)) => Q (.exit 0) (chplaces_S2 x12 x13 x14 x15 x16 x17 x25)) (100 + x13.length + x14.length + x15.length + x17.length + x18.length) x11 x18)
theorem chplaces_l0_ok {α:Type}:LoopOk E.P 27 [false,true,false,true,true] 7 (lEnt (α := α) (chplaces_S3) chplaces_l0_go) :=
 lEnt_ok E (exec_sound E E_ok (look_chlay_ok) (noLps_ok _) 400) fun ds Q r h S hS => by
   unfold chplaces_l0_go at h
   obtain ⟨x10,ds,rfl,h1⟩ := dI_inv h
   obtain ⟨x11,ds,rfl,h2⟩ := dI_inv h1
   obtain ⟨x12,ds,rfl,h3⟩ := dB_inv h2
   obtain ⟨x13,ds,rfl,h4⟩ := dL_inv h3
   obtain ⟨x14,ds,rfl,h5⟩ := dL_inv h4
   obtain ⟨x15,ds,rfl,h6⟩ := dL_inv h5
   obtain ⟨x16,ds,rfl,h7⟩ := dB_inv h6
   obtain ⟨x17,ds,rfl,h8⟩ := dL_inv h7
   obtain ⟨x18,ds,rfl,h9⟩ := dL_inv h8
   obtain ⟨rfl,hE⟩ := dE_inv h9
   have e:fillS (chplaces_S3) [.i x10,.i x11,.b x12,.l (K.st (LK.i IntKind.i64) [LK.i IntKind.i64,LK.i IntKind.i64,LK.i IntKind.i64,LK.i IntKind.i64,LK.i IntKind.i64,LK.i IntKind.i64]) x13,.l (K.st (LK.i IntKind.i64) [LK.i IntKind.i64,LK.i IntKind.i64,LK.i IntKind.i64,LK.i IntKind.i64,LK.i IntKind.i64,LK.i IntKind.i64]) x14,.l (K.st (LK.i IntKind.i64) [LK.i IntKind.i64,LK.i IntKind.i64,LK.i IntKind.i64,LK.i IntKind.i64,LK.i IntKind.i64,LK.i IntKind.i64]) x15,.b x16,.l (K.st (LK.i IntKind.i64)
 [LK.i IntKind.i64,LK.i IntKind.i64,LK.i IntKind.i64,LK.i IntKind.i64,LK.i IntKind.i64,LK.i IntKind.i64,LK.i IntKind.i64,LK.i IntKind.i64,LK.i IntKind.i64,LK.i IntKind.i64,LK.i IntKind.i64,LK.i IntKind.i64,LK.i IntKind.i64,LK.i IntKind.i64,LK.i IntKind.i64,LK.i IntKind.i64,LK.b,LK.i IntKind.i64,LK.i IntKind.i64,LK.i IntKind.i64,LK.i IntKind.i64,LK.i IntKind.i64,LK.i IntKind.i64,LK.i IntKind.i64,LK.i IntKind.i64,LK.i IntKind.i64,LK.i IntKind.i64,LK.i IntKind.i64,
   LK.i IntKind.i64,LK.i IntKind.i64,LK.i IntKind.i64,LK.i IntKind.i64,LK.i IntKind.i64]) x17,.l (K.st (LK.i IntKind.i64) [LK.i IntKind.i64,LK.i IntKind.i64,LK.i IntKind.i64,LK.i IntKind.i64,LK.i IntKind.i64,LK.i IntKind.i64]) x18] = some (chplaces_S1 x10 x11 x12 x13 x14 x15 x16 x17 x18) := by kernel_rfl
   rw [e] at hS
   cases hS
   exact ⟨_,(chplaces_l0_iter x10 x12 x13 x14 x15 x16 x17 Q _ x11 x18).trans hE⟩
noncomputable def chplaces_l0_lps {α:Type}:LookL α := addLp 27 [false,true,false,true,true] 7 (lEnt (chplaces_S3) chplaces_l0_go) noLps
theorem chplaces_l0_lps_ok {α:Type}:LoopsOk E.P (chplaces_l0_lps (α := α)) := addLp_ok chplaces_l0_ok (noLps_ok _)
noncomputable def M.chplaces {α:Type} (bad:Bool) (l:List (Int × Int × Int × Int × Int × Int × Int × Int × Int × Int × Bool × Int × Int × Int × Int)) (k0:Bool → List (Int × Int × Int × Int × Int × Int × Int) → Option α):Option α := if (!cEq (V.chC l) (0:Int)) = true then k0 bad [] else if V.chC l = (0:Int) then M.chplaces_l0 (↑(List.length (V.lay l)):Int) (V.lay l) (fun (x29:List (Int × Int × Int × Int × Int × Int × Int)) ↦ k0 bad x29) ((100:Nat) + List.length (V.lay l) + (0:Nat)) (0:Int) [] else none
theorem chplaces_eq {α:Type} (bad:Bool) (l:List (Int × Int × Int × Int × Int × Int × Int × Int × Int × Int × Bool × Int × Int × Int × Int)) (v28:Value) (Q:SV → Hp → Option α):callI E look_chlay (exec E look_chlay chplaces_l0_lps 400) 9 ([SV.ptr (nat_lit 0) (nat_lit 0),SV.ros v28 (K.st (LK.i IntKind.i64) [LK.i IntKind.i64,LK.i IntKind.i64,LK.i IntKind.i64,LK.i IntKind.i64,LK.i IntKind.i64,LK.i IntKind.i64,LK.i IntKind.i64,LK.i IntKind.i64,LK.i IntKind.i64,LK.b,LK.i IntKind.i64,LK.i IntKind.i64,LK.i IntKind.i64,LK.i IntKind.i64]) l]) ([.cells [SV.bool bad] (nat_lit 27)]) Q = M.chplaces bad l (fun (x30:Bool) (x31:List (Int × Int × Int × Int × Int × Int × Int)) => Q (SV.sl (nat_lit 1)) ([.cells [SV.bool x30] (nat_lit 27),.seq (K.st (LK.i IntKind.i64) [LK.i IntKind.i64,LK.i IntKind.i64,LK.i IntKind.i64,LK.i IntKind.i64,LK.i IntKind.i64,LK.i IntKind.i64]) x31 (nat_lit 40)])) := by kernel_rfl
def chplaces_sp:List AS := [.ptr 27 [.bool false],.ro (.st (.i .i64) [.i .i64,.i .i64,.i .i64,.i .i64,.i .i64,.i .i64,.i .i64,.i .i64,.i .i64,.b,.i .i64,.i .i64,.i .i64,.i .i64])]
def ps7 (b:L34):Int × Int × Int × Int × Int × Int × Int := (b.1,b.2.1,b.2.2.1,b.2.2.2.1,b.2.2.2.2.1,b.2.2.2.2.2.1,b.2.2.2.2.2.2.1)
def pl7 (r:Pl):Int × Int × Int × Int × Int × Int × Int := (r.1.1,r.1.2.1,r.1.2.2,r.2.1.1,r.2.1.2.1,r.2.1.2.2.1,r.2.1.2.2.2)
noncomputable def _root_.Go.Proofs.Ytajomehkgaamoaa.V.plcs (l:List (Int × Int × Int × Int × Int × Int × Int × Int × Int × Int × Bool × Int × Int × Int × Int)):List (Int × Int × Int × Int × Int × Int × Int) := hid (if V.chC l = 0 then (V.lay l).map ps7 else [])
theorem lay_some {l:List L15} (h:V.chC l = 0):∃ P,layL l [] = some P ∧ V.lay l = List.zipWith bnT l P ∧ P.length = l.length ∧ Tree l := by
 obtain ⟨P,hP⟩ := chC_lay h
 obtain ⟨h1,h2⟩ := (chC_iff l).1 h
 have ht:Tree l := fun i x hx => (h2 i x hx).par
 obtain ⟨_,hl,_⟩ := layL_spec l [] P hP (Tree.lt ht)
 exact ⟨P,hP,by unfold V.lay; rw [hid_eq,hP]; rfl,by simpa using hl,ht⟩
theorem zip_ps7:∀ (l:List L15) (P:List Pl),P.length = l.length → (List.zipWith bnT l P).map ps7 = P.map pl7
 | [],[],_ => rfl
 | x :: l,r :: P,h => by
   simp only [List.zipWith_cons_cons,List.map_cons]
   rw [zip_ps7 l P (by simpa using h)]
   rfl
 | [],_ :: _,h => by simp at h
 | _ :: _,[],h => by simp at h
theorem plcs_some {l:List L15} {P:List Pl} (h:V.chC l = 0) (hP:layL l [] = some P):V.plcs l = P.map pl7 := by
 obtain ⟨Q,hQ,e1,e2,_⟩ := lay_some h
 rw [hP] at hQ
 cases hQ
 unfold V.plcs
 rw [hid_eq,if_pos h,e1,zip_ps7 l P e2]
theorem chplaces_l0_val {α:Type} (Z:List L34) (hZ:Z.length ≤ 1000) (k1:List (Int × Int × Int × Int × Int × Int × Int) → Option α):∀ (fuel i:Nat),i ≤ Z.length → Z.length - i < fuel →
   M.chplaces_l0 (Z.length:Int) Z k1 fuel (i:Int) ((Z.take i).map ps7) = k1 (Z.map ps7)
 | 0,i,h1,h2 => by omega
 | f + 1,i,h1,h2 => by
   unfold M.chplaces_l0 M.chplaces_l0_step
   simp only
   rw [cLt_nat]
   by_cases hi:i < Z.length
   · have hl : ((Z.take i).map ps7).length = i := by rw [List.length_map, List.length_take]; omega
     have hsz:(i + (0 + 1)) * 56 ≤ 140737488355328 := by omega
     rw [if_pos (by simpa using hi),if_pos (by omega),hl,if_pos hsz,w_next (by omega)]
     have ih := chplaces_l0_val Z hZ k1 f (i + 1) (by omega) (by omega)
     have e:(Z.take (i + 1)).map ps7 = (Z.take i).map ps7 ++ [ps7 (Z.getD i bn0)] := by
       rw [List.take_add_one,List.map_append]
       simp [List.getD_eq_getElem?_getD,hi]
     rw [e] at ih
     exact ih
   · have : i = Z.length := by omega
     subst this
     rw [if_neg (by simp),List.take_length]
theorem chplaces_v {α:Type} (bad:Bool) (l:List L15) (k0:Bool → List (Int × Int × Int × Int × Int × Int × Int) → Option α):M.chplaces bad l k0 = k0 bad (V.plcs l) := by
 unfold M.chplaces V.plcs
 rw [hid_eq,cEq_eq]
 by_cases h:V.chC l = 0
 · obtain ⟨P, hP, e1, e2, _⟩ := lay_some h
   have hl:(V.lay l).length ≤ 1000 := by
     have := ((chC_iff l).1 h).1
     rw [e1,List.length_zipWith]; omega
   rw [if_neg (by rw [h]; decide),if_pos h,if_pos h]
   have := chplaces_l0_val (V.lay l) hl (fun z => k0 bad z) (100 + (V.lay l).length + 0) 0 (by omega) (by omega)
   exact this
 · rw [if_pos (by simpa using h),if_neg h]
abbrev kPs:K := .st (.i .i64) [.i .i64,.i .i64,.i .i64,.i .i64,.i .i64,.i .i64]
noncomputable def chplaces_h {α:Type} (ds:List D) (Q:SV → Hp → Option α):Option α :=
 dB ds fun bad ds => dL (K.st (LK.i IntKind.i64) [LK.i IntKind.i64,LK.i IntKind.i64,LK.i IntKind.i64,LK.i IntKind.i64,LK.i IntKind.i64,LK.i IntKind.i64,LK.i IntKind.i64,LK.i IntKind.i64,LK.i IntKind.i64,LK.b,LK.i IntKind.i64,LK.i IntKind.i64,LK.i IntKind.i64,LK.i IntKind.i64]) ds fun l ds => dE ds (Q (.sl 1) ([.cells [.bool bad] 27,.seq kPs (V.plcs l) 40]))
theorem chplaces_h_ok {α:Type}:FnOk E.P 9 (fEnt (α := α) chplaces_sp chplaces_h) :=
 fEntR_ok E (look_chlay_ok) (exec_sound E E_ok (look_chlay_ok) (chplaces_l0_lps_ok) 400) fun ds Q r h => by
   unfold chplaces_h at h
   obtain ⟨bad,ds,rfl,h1⟩ := dB_inv h
   obtain ⟨l,ds,rfl,h2⟩ := dL_inv h1
   obtain ⟨rfl,hE⟩ := dE_inv h2
   exact ⟨_,_,hE,fun vs => ⟨_,_,by kernel_rfl,(chplaces_eq bad l (vs.tail.headD undef) _).trans (chplaces_v bad l _)⟩⟩
noncomputable def look_chplaces {α:Type}:LookF α := addFn 9 (fEnt chplaces_sp chplaces_h) look_chlay
theorem look_chplaces_ok {α:Type}:LookOk E.P (look_chplaces (α := α)) := addFn_ok chplaces_h_ok (look_chlay_ok)
noncomputable def M.chawake {α:Type} (k0:Bool → Option α):Option α := if cEq (↑(List.length (V.plcs [((-1:Int),(0:Int),(0:Int),(4294967296:Int),(4294967296:Int),(0:Int),(0:Int),(0:Int),(0:Int),(0:Int),false,(0:Int),(0:Int),(0:Int),(4294967296:Int)),((0:Int),(0:Int),(0:Int),(4294967296:Int),(4294967296:Int),(0:Int),(0:Int),(0:Int),(0:Int),(0:Int),false,(0:Int),(0:Int),(0:Int),(4294967296:Int))])):Int) (2:Int) = true then if (0:Int) ≤ (1:Int) ∧ (1:Int) < (↑(List.length (V.plcs [((-1:Int),(0:Int),(0:Int),(4294967296:Int),(4294967296:Int),(0:Int),(0:Int),(0:Int),(0:Int),(0:Int),false,(0:Int),(0:Int),(0:Int),(4294967296:Int)),((0:Int),(0:Int),(0:Int),(4294967296:Int),(4294967296:Int),(0:Int),(0:Int),(0:Int),(0:Int),(0:Int),false,(0:Int),(0:Int),(0:Int),(4294967296:Int))])):Int) then if (cEq (Prod.fst (List.getD (V.plcs [((-1:Int),(0:Int),(0:Int),(4294967296:Int),(4294967296:Int),(0:Int),(0:Int),(0:Int),(0:Int),(0:Int),false,(0:Int),(0:Int),(0:Int),(4294967296:Int)),((0:Int),(0:Int),(0:Int),(4294967296:Int),(4294967296:Int),(0:Int),(0:Int),(0:Int),(0:Int),(0:Int),false,(0:Int),(0:Int),(0:Int),(4294967296:Int))]) (1:Nat) ((0:Int),(0:Int),(0:Int),(0:Int),(0:Int),(0:Int),(0:Int)))) (8589934592:Int) && (cEq (Prod.fst (Prod.snd (List.getD (V.plcs [((-1:Int),(0:Int),(0:Int),(4294967296:Int),(4294967296:Int),(0:Int),(0:Int),(0:Int),(0:Int),(0:Int),false,(0:Int),(0:Int),(0:Int),(4294967296:Int)),((0:Int),(0:Int),(0:Int),(4294967296:Int),(4294967296:Int),(0:Int),(0:Int),(0:Int),(0:Int),(0:Int),false,(0:Int),(0:Int),(0:Int),(4294967296:Int))]) (1:Nat) ((0:Int),(0:Int),(0:Int),(0:Int),(0:Int),(0:Int),(0:Int))))) (0:Int) && (cEq (Prod.fst (Prod.snd (Prod.snd (List.getD (V.plcs [((-1:Int),(0:Int),(0:Int),(4294967296:Int),(4294967296:Int),(0:Int),(0:Int),(0:Int),(0:Int),(0:Int),false,(0:Int),(0:Int),(0:Int),(4294967296:Int)),((0:Int),(0:Int),(0:Int),(4294967296:Int),(4294967296:Int),(0:Int),(0:Int),(0:Int),(0:Int),(0:Int),false,(0:Int),(0:Int),(0:Int),(4294967296:Int))]) (1:Nat) ((0:Int),(0:Int),(0:Int),(0:Int),(0:Int),(0:Int),(0:Int)))))) (0:Int) && true))) = true then if cEq (V.chC [((-1:Int),(0:Int),(0:Int),(4294967296:Int),(4294967296:Int),(0:Int),(0:Int),(0:Int),(0:Int),(0:Int),false,(0:Int),(0:Int),(0:Int),(4294967296:Int)),((1:Int),(0:Int),(0:Int),(4294967296:Int),(4294967296:Int),(0:Int),(0:Int),(0:Int),(0:Int),(0:Int),false,(0:Int),(0:Int),(0:Int),(4294967296:Int))]) (160:Int) = true then k0 !false else k0 false else k0 false else none else k0 false
theorem chawake_eq {α:Type} (Q:SV → Hp → Option α):callI E look_chplaces (exec E look_chplaces noLps 400) 7 ([]) ([]) Q = M.chawake (fun (x32:Bool) => Q (SV.bool x32) ([])) := by kernel_rfl
def chawake_sp:List AS := []
theorem aw_plcs:V.plcs [(-1,0,0,4294967296,4294967296,0,0,0,0,0,false,0,0,0,4294967296),(0,0,0,4294967296,4294967296,0,0,0,0,0,false,0,0,0,4294967296)] = [(4294967296,0,0,4294967296,0,0,0),(8589934592,0,0,4294967296,0,0,0)] := plcs_some aw_ok aw_layL
theorem chawake_v {α:Type} (k0:Bool → Option α):M.chawake k0 = k0 true := by
 unfold M.chawake
 have e:V.chC [(-1,0,0,4294967296,4294967296,0,0,0,0,0,false,0,0,0,4294967296),(1,0,0,4294967296,4294967296,0,0,0,0,0,false,0,0,0,4294967296)] = 160 := aw_bad
 rw [aw_plcs,e]
 simp [cEq_eq]
noncomputable def chawake_h {α:Type} (ds:List D) (Q:SV → Hp → Option α):Option α :=
 dE ds (Q (.bool true) ([]))
theorem chawake_h_ok {α:Type}:FnOk E.P 7 (fEnt (α := α) chawake_sp chawake_h) :=
 fEnt_ok E (look_chplaces_ok) (exec_sound E E_ok (look_chplaces_ok) (noLps_ok _) 400) fun ds Q r h => by
   unfold chawake_h at h
   obtain ⟨rfl,hE⟩ := dE_inv h
   exact ⟨[],[],fun vs => by kernel_rfl,(chawake_eq Q).trans ((chawake_v _).trans hE)⟩
noncomputable def look_chawake {α:Type}:LookF α := addFn 7 (fEnt chawake_sp chawake_h) look_chplaces
theorem look_chawake_ok {α:Type}:LookOk E.P (look_chawake (α := α)) := addFn_ok chawake_h_ok (look_chplaces_ok)
end
section
open Go
set_option maxRecDepth 20000
noncomputable abbrev chposes_S1 (y1:Value) (y2:List (Int × Int × Int × Int × Int × Int × Int)) (y3:Value) (y4:List (Int × Int × Int × Int × Int × Int × Int)) (y5:Int):St := St.mk (some (SV.ros y1 (K.st (LK.i IntKind.i64) [LK.i IntKind.i64,LK.i IntKind.i64,LK.i IntKind.i64,LK.i IntKind.i64,LK.i IntKind.i64,LK.i IntKind.i64]) y2) :: some (SV.ros y3 (K.st (LK.i IntKind.i64) [LK.i IntKind.i64,LK.i IntKind.i64,LK.i IntKind.i64,LK.i IntKind.i64,LK.i IntKind.i64,LK.i IntKind.i64]) y4) :: nn 3 (some (SV.int .i64 y5) :: nn 20 ([]))) []
noncomputable abbrev chposes_S2:St := St.mk (some (SV.ros undef (K.st (LK.i IntKind.i64) [LK.i IntKind.i64,LK.i IntKind.i64,LK.i IntKind.i64,LK.i IntKind.i64,LK.i IntKind.i64,LK.i IntKind.i64]) []) :: some (SV.ros undef (K.st (LK.i IntKind.i64) [LK.i IntKind.i64,LK.i IntKind.i64,LK.i IntKind.i64,LK.i IntKind.i64,LK.i IntKind.i64,LK.i IntKind.i64]) []) :: nn 3 (some (SV.int .i64 (0:Int)) :: nn 20 ([]))) []
noncomputable def M.chposes_l0_step {α:Type} (x8:List (Int × Int × Int × Int × Int × Int × Int)) (x10:List (Int × Int × Int × Int × Int × Int × Int)) (kn:Int → Option α) (k0:Option α) (k2:Option α) (x11:Int):Option α := let s12:Int := (↑(List.length x8):Int); let s13:K.T (K.st (LK.i IntKind.i64) [LK.i IntKind.i64,LK.i IntKind.i64,LK.i IntKind.i64,LK.i IntKind.i64,LK.i IntKind.i64,LK.i IntKind.i64]) := List.getD x8 (Int.toNat x11) ((0:Int),(0:Int),(0:Int),(0:Int),(0:Int),(0:Int),(0:Int)); let s14:K.T (K.st (LK.i IntKind.i64) [LK.i IntKind.i64,LK.i IntKind.i64,LK.i IntKind.i64,LK.i IntKind.i64,LK.i IntKind.i64,LK.i IntKind.i64]) := List.getD x10 (Int.toNat x11) ((0:Int),(0:Int),(0:Int),(0:Int),(0:Int),(0:Int),(0:Int)); let s15:RT (LK.i IntKind.i64) [LK.i IntKind.i64,LK.i IntKind.i64,LK.i IntKind.i64,LK.i IntKind.i64,LK.i IntKind.i64] := Prod.snd s13; let s16:RT (LK.i IntKind.i64) [LK.i IntKind.i64,LK.i IntKind.i64,LK.i IntKind.i64,LK.i IntKind.i64,LK.i IntKind.i64] := Prod.snd s14; let s17:RT (LK.i IntKind.i64) [LK.i IntKind.i64,LK.i IntKind.i64,LK.i IntKind.i64,LK.i IntKind.i64] := Prod.snd s15; let s18:RT (LK.i IntKind.i64) [LK.i IntKind.i64,LK.i IntKind.i64,LK.i IntKind.i64,LK.i IntKind.i64] := Prod.snd s16; let s19:RT (LK.i IntKind.i64) [LK.i IntKind.i64,LK.i IntKind.i64,LK.i IntKind.i64] := Prod.snd s17; let s20:RT (LK.i IntKind.i64) [LK.i IntKind.i64,LK.i IntKind.i64,LK.i IntKind.i64] := Prod.snd s18; let s21:RT (LK.i IntKind.i64) [LK.i IntKind.i64,LK.i IntKind.i64] := Prod.snd s19; let s22:RT (LK.i IntKind.i64) [LK.i IntKind.i64,LK.i IntKind.i64] := Prod.snd s20; let s23:RT (LK.i IntKind.i64) [LK.i IntKind.i64] := Prod.snd s22; let s24:RT (LK.i IntKind.i64) [LK.i IntKind.i64] := Prod.snd s21; if cLt x11 s12 = true then if (0:Int) ≤ x11 ∧ x11 < s12 then if (0:Int) ≤ x11 ∧ x11 < (↑(List.length x10):Int) then if (!(cEq (Prod.fst s13) (Prod.fst s14) && (cEq (Prod.fst s15) (Prod.fst s16) && (cEq (Prod.fst s17) (Prod.fst s18) && true)) && (cEq (Prod.fst s19) (Prod.fst s20) && (cEq (Prod.fst s21) (Prod.fst s22) && (cEq (Prod.fst s24) (Prod.fst s23) && (cEq (Prod.snd s24) (Prod.snd s23) && true))) && true))) = true then k0 else kn (IntKind.wrap .i64 (x11 + (1:Int))) else none else none else k2
noncomputable def M.chposes_l0 {α:Type} (x8:List (Int × Int × Int × Int × Int × Int × Int)) (x10:List (Int × Int × Int × Int × Int × Int × Int)) (k0:Option α) (k2:Option α):Nat → Int → Option α
 | 0,_ => none
 | n + 1,x11 => M.chposes_l0_step x8 x10 (M.chposes_l0 x8 x10 k0 k2 n) k0 k2 x11
theorem chposes_l0_step_eq {α:Type} (x7:Value) (x8:List (Int × Int × Int × Int × Int × Int × Int)) (x9:Value) (x10:List (Int × Int × Int × Int × Int × Int × Int)) (x11:Int) (Q:Ex → St → Option α):(loopStep E (exec E look_chawake noLps 400) 11 [false,true,false,true,true] 0 (codeAt E.P 11 [false,true,false,true,true])) (chposes_S1 x7 x8 x9 x10 x11) Q = M.chposes_l0_step x8 x10 (fun (x25:Int) => Q .normal (chposes_S1 x7 x8 x9 x10 x25)) (Q .ret (St.mk (nn 4 (some (SV.bool false) :: nn 21 ([]))) [])) (Q (.exit 0) (St.mk (nn 26 ([])) [])) x11 := by kernel_rfl
theorem chposes_l0_iter {α:Type} (x7:Value) (x8:List (Int × Int × Int × Int × Int × Int × Int)) (x9:Value) (x10:List (Int × Int × Int × Int × Int × Int × Int)) (Q:Ex → St → Option α):∀ (n:Nat) (x11:Int),iter (loopStep E (exec E look_chawake noLps 400) 11 [false,true,false,true,true] 0 (codeAt E.P 11 [false,true,false,true,true])) n (chposes_S1 x7 x8 x9 x10 x11) Q = M.chposes_l0 x8 x10 (Q .ret (St.mk (nn 4 (some (SV.bool false) :: nn 21 ([]))) [])) (Q (.exit 0) (St.mk (nn 26 ([])) [])) n x11
 | 0,_ => rfl
 | n + 1,x11 => (chposes_l0_step_eq x7 x8 x9 x10 x11 (iterK (loopStep E (exec E look_chawake noLps 400) 11 [false,true,false,true,true] 0 (codeAt E.P 11 [false,true,false,true,true])) n Q)).trans (congrArg (fun kn => M.chposes_l0_step x8 x10 kn (Q .ret (St.mk (nn 4 (some (SV.bool false) :: nn 21 ([]))) [])) (Q (.exit 0) (St.mk (nn 26 ([])) [])) x11) (funext fun x11 => chposes_l0_iter x7 x8 x9 x10 Q n x11))
noncomputable def chposes_l0_go {α:Type} (ds:List D) (Q:Ex → St → Option α):Option α :=
 dV ds fun x7 ds => dL (K.st (LK.i IntKind.i64) [LK.i IntKind.i64,LK.i IntKind.i64,LK.i IntKind.i64,LK.i IntKind.i64,LK.i IntKind.i64,LK.i IntKind.i64]) ds fun x8 ds => dV ds fun x9 ds => dL (K.st (LK.i IntKind.i64) [LK.i IntKind.i64,LK.i IntKind.i64,LK.i IntKind.i64,LK.i IntKind.i64,LK.i IntKind.i64,LK.i IntKind.i64]) ds fun x10 ds => dI ds fun x11 ds => dE ds (M.chposes_l0 x8 x10 (Q .ret (St.mk (nn 4 (some (SV.bool false) :: nn 21 ([]))) [])) (Q (.exit 0) (St.mk (nn 26 ([])) [])) (100 + x8.length + x10.length) x11)
theorem chposes_l0_ok {α:Type}:LoopOk E.P 11 [false,true,false,true,true] 0 (lEnt (α := α) (chposes_S2) chposes_l0_go) :=
 lEnt_ok E (exec_sound E E_ok (look_chawake_ok) (noLps_ok _) 400) fun ds Q r h S hS => by
   unfold chposes_l0_go at h
   obtain ⟨x7,ds,rfl,h1⟩ := dV_inv h
   obtain ⟨x8,ds,rfl,h2⟩ := dL_inv h1
   obtain ⟨x9,ds,rfl,h3⟩ := dV_inv h2
   obtain ⟨x10,ds,rfl,h4⟩ := dL_inv h3
   obtain ⟨x11,ds,rfl,h5⟩ := dI_inv h4
   obtain ⟨rfl,hE⟩ := dE_inv h5
   have e:fillS (chposes_S2) [.v x7,.l (K.st (LK.i IntKind.i64) [LK.i IntKind.i64,LK.i IntKind.i64,LK.i IntKind.i64,LK.i IntKind.i64,LK.i IntKind.i64,LK.i IntKind.i64]) x8,.v x9,.l (K.st (LK.i IntKind.i64) [LK.i IntKind.i64,LK.i IntKind.i64,LK.i IntKind.i64,LK.i IntKind.i64,LK.i IntKind.i64,LK.i IntKind.i64]) x10,.i x11] = some (chposes_S1 x7 x8 x9 x10 x11) := by kernel_rfl
   rw [e] at hS
   cases hS
   exact ⟨_,(chposes_l0_iter x7 x8 x9 x10 Q _ x11).trans hE⟩
noncomputable def chposes_l0_lps {α:Type}:LookL α := addLp 11 [false,true,false,true,true] 0 (lEnt (chposes_S2) chposes_l0_go) noLps
theorem chposes_l0_lps_ok {α:Type}:LoopsOk E.P (chposes_l0_lps (α := α)) := addLp_ok chposes_l0_ok (noLps_ok _)
noncomputable def M.chposes {α:Type} (a:List (Int × Int × Int × Int × Int × Int × Int)) (b:List (Int × Int × Int × Int × Int × Int × Int)) (k0:Bool → Option α):Option α := if (!cEq (↑(List.length a):Int) (↑(List.length b):Int)) = true then k0 false else M.chposes_l0 a b (k0 false) (k0 true) ((100:Nat) + List.length a + List.length b) (0:Int)
theorem chposes_eq {α:Type} (a:List (Int × Int × Int × Int × Int × Int × Int)) (b:List (Int × Int × Int × Int × Int × Int × Int)) (v26:Value) (v27:Value) (Q:SV → Hp → Option α):callI E look_chawake (exec E look_chawake chposes_l0_lps 400) 11 ([SV.ros v26 (K.st (LK.i IntKind.i64) [LK.i IntKind.i64,LK.i IntKind.i64,LK.i IntKind.i64,LK.i IntKind.i64,LK.i IntKind.i64,LK.i IntKind.i64]) a,SV.ros v27 (K.st (LK.i IntKind.i64) [LK.i IntKind.i64,LK.i IntKind.i64,LK.i IntKind.i64,LK.i IntKind.i64,LK.i IntKind.i64,LK.i IntKind.i64]) b]) ([]) Q = M.chposes a b (fun (x28:Bool) => Q (SV.bool x28) ([])) := by kernel_rfl
def chposes_sp:List AS := [.ro kPs,.ro kPs]
noncomputable def _root_.Go.Proofs.Ytajomehkgaamoaa.V.lenC (n:Nat):Bool := Classical.choose (⟨decide (n < 1099511627776),rfl⟩:∃ r:Bool,r = decide (n < 1099511627776))
theorem lenC_of {n:Nat} (h:n < 1099511627776):V.lenC n = true := by
 have e:V.lenC n = _ := Classical.choose_spec (⟨decide (n < 1099511627776),rfl⟩:∃ r:Bool,r = decide (n < 1099511627776))
 rw [e]; exact decide_eq_true h
theorem lenC_lt {n:Nat} (h:V.lenC n = true):n < 1099511627776 := by
 have e:V.lenC n = _ := Classical.choose_spec (⟨decide (n < 1099511627776),rfl⟩:∃ r:Bool,r = decide (n < 1099511627776))
 rw [e] at h; exact of_decide_eq_true h
abbrev T7 := Int × Int × Int × Int × Int × Int × Int
noncomputable def _root_.Go.Proofs.Ytajomehkgaamoaa.V.psEq (a b:List (Int × Int × Int × Int × Int × Int × Int)):Bool := exB (a = b)
theorem eq7 (p q:T7):(cEq p.1 q.1 && (cEq p.2.1 q.2.1 && (cEq p.2.2.1 q.2.2.1 && true)) && (cEq p.2.2.2.1 q.2.2.2.1 && (cEq p.2.2.2.2.1 q.2.2.2.2.1 && (cEq p.2.2.2.2.2.1 q.2.2.2.2.2.1 && (cEq p.2.2.2.2.2.2 q.2.2.2.2.2.2 && true))) && true)) = exB (p = q) := by
 obtain ⟨a,b,c,d,e,f,g⟩ := p
 obtain ⟨a',b',c',d',e',f',g'⟩ := q
 simp only [cEq_eq]
 rw [Bool.eq_iff_iff]
 simp only [Bool.and_eq_true,beq_iff_eq,exB_iff,Prod.mk.injEq,and_true]
 constructor
 · rintro ⟨⟨h1,h2,h3⟩,h4,h5,h6,h7⟩; exact ⟨h1,h2,h3,h4,h5,h6,h7⟩
 · rintro ⟨h1,h2,h3,h4,h5,h6,h7⟩; exact ⟨⟨h1,h2,h3⟩,h4,h5,h6,h7⟩
def t70:T7 := (0,0,0,0,0,0,0)
theorem drop7 (l:List T7) (i:Nat) (h:i < l.length):l.drop i = l.getD i t70 :: l.drop (i + 1) := by
 rw [List.drop_eq_getElem_cons h]; simp [List.getD_eq_getElem?_getD,h]
theorem chposes_l0_val {α:Type} (a b:List T7) (hl:a.length = b.length) (ha:a.length < 1099511627776) (k0 k2:Option α):∀ (fuel i:Nat),i ≤ a.length → a.length - i < fuel → M.chposes_l0 a b k0 k2 fuel (i:Int) = if exB (a.drop i = b.drop i) = true then k2 else k0
 | 0,i,h1,h2 => by omega
 | f + 1,i,h1,h2 => by
   unfold M.chposes_l0 M.chposes_l0_step
   simp only
   rw [cLt_nat]
   by_cases hi:i < a.length
   · rw [if_pos (by simpa using hi),if_pos (by omega),if_pos (by omega),drop7 a i hi,drop7 b i (by omega),w_next (by omega),chposes_l0_val a b hl ha k0 k2 f (i + 1) (by omega) (by omega)]
     have e := eq7 (a.getD i t70) (b.getD i t70)
     have e':∀ x:List T7,List.getD x (Int.toNat (i:Int)) (0,0,0,0,0,0,0) = x.getD i t70 := fun x => rfl
     rw [e',e',e]
     by_cases h:a.getD i t70 = b.getD i t70
     · rw [if_neg (by rw [exB_true h]; decide), h]
       by_cases h2:a.drop (i + 1) = b.drop (i + 1)
       · rw [if_pos (exB_true h2),if_pos (exB_true (by rw [h2]))]
       · rw [if_neg (by rw [exB_false h2]; decide),if_neg (by rw [exB_false (fun hc => h2 (List.cons.inj hc).2)]; decide)]
     · rw [if_pos (by rw [exB_false h]; rfl),if_neg (by rw [exB_false (fun hc => h (List.cons.inj hc).1)]; decide)]
   · have : i = a.length := by omega
     subst this
     rw [if_neg (by simp),List.drop_length,List.drop_of_length_le (by omega),if_pos (exB_true rfl)]
theorem chposes_v {α:Type} (a b:List T7) (hg:V.lenC a.length = true) (k0:Bool → Option α):M.chposes a b k0 = k0 (V.psEq a b) := by
 have ha := lenC_lt hg
 unfold M.chposes V.psEq
 rw [cEq_eq]
 by_cases hl:a.length = b.length
 · rw [if_neg (by simp [hl])]
   refine Eq.trans (chposes_l0_val a b hl ha _ _ _ 0 (by omega) (by omega)) ?_
   rw [List.drop_zero,List.drop_zero]
   by_cases h:a = b
   · rw [if_pos (exB_true h),exB_true h]
   · rw [if_neg (by rw [exB_false h]; decide),exB_false h]
 · rw [if_pos (by simp; omega),exB_false (fun h => hl (by rw [h]))]
noncomputable def chposes_h {α:Type} (ds:List D) (Q:SV → Hp → Option α):Option α :=
 dL (K.st (LK.i IntKind.i64) [LK.i IntKind.i64,LK.i IntKind.i64,LK.i IntKind.i64,LK.i IntKind.i64,LK.i IntKind.i64,LK.i IntKind.i64]) ds fun a ds => dL (K.st (LK.i IntKind.i64) [LK.i IntKind.i64,LK.i IntKind.i64,LK.i IntKind.i64,LK.i IntKind.i64,LK.i IntKind.i64,LK.i IntKind.i64]) ds fun b ds => dE ds (if V.lenC a.length = true then Q (.bool (V.psEq a b)) ([]) else none)
theorem chposes_h_ok {α:Type}:FnOk E.P 11 (fEnt (α := α) chposes_sp chposes_h) :=
 fEntR_ok E (look_chawake_ok) (exec_sound E E_ok (look_chawake_ok) (chposes_l0_lps_ok) 400) fun ds Q r h => by
   unfold chposes_h at h
   obtain ⟨a,ds,rfl,h1⟩ := dL_inv h
   obtain ⟨b,ds,rfl,h2⟩ := dL_inv h1
   obtain ⟨rfl,hE⟩ := dE_inv h2
   split at hE
   · rename_i hg
     exact ⟨_,_,hE,fun vs => ⟨_,_,by kernel_rfl,(chposes_eq a b (vs.headD undef) (vs.tail.headD undef) _).trans (chposes_v a b hg _)⟩⟩
   · cases hE
noncomputable def look_chposes {α:Type}:LookF α := addFn 11 (fEnt chposes_sp chposes_h) look_chawake
theorem look_chposes_ok {α:Type}:LookOk E.P (look_chposes (α := α)) := addFn_ok chposes_h_ok (look_chawake_ok)
noncomputable abbrev chprefix_S1 (y1:Int) (y2:List (Int × Int × Int × Int × Int × Int × Int × Int × Int × Int × Bool × Int × Int × Int × Int)) (y3 y4:List (Int × Int × Int × Int × Int × Int × Int)) (y5:List Bool):St := St.mk (nn 10 (some (SV.sl (nat_lit 0)) :: none :: some (SV.sl (nat_lit 1)) :: nn 3 (some (SV.sl (nat_lit 2)) :: some (SV.sl (nat_lit 3)) :: some (SV.int .i64 y1) :: nn 110 ([])))) [.seq (K.st (LK.i IntKind.i64) [LK.i IntKind.i64,LK.i IntKind.i64,LK.i IntKind.i64,LK.i IntKind.i64,LK.i IntKind.i64,LK.i IntKind.i64,LK.i IntKind.i64,LK.i IntKind.i64,LK.i IntKind.i64,LK.b,LK.i IntKind.i64,LK.i IntKind.i64,LK.i IntKind.i64,LK.i IntKind.i64]) y2 (nat_lit 35),.seq (K.st (LK.i IntKind.i64) [LK.i IntKind.i64,LK.i IntKind.i64,LK.i IntKind.i64,LK.i IntKind.i64,LK.i IntKind.i64,LK.i IntKind.i64]) y3 (nat_lit 40),.seq (K.st (LK.i IntKind.i64) [LK.i IntKind.i64,LK.i IntKind.i64,LK.i IntKind.i64,LK.i IntKind.i64,LK.i IntKind.i64,LK.i IntKind.i64]) y4 (nat_lit 40),.seq K.bool y5 (nat_lit 4)]
noncomputable abbrev chprefix_S2:St := St.mk (nn 10 (some (SV.sl (nat_lit 0)) :: none :: some (SV.sl (nat_lit 1)) :: nn 3 (some (SV.sl (nat_lit 2)) :: some (SV.sl (nat_lit 3)) :: some (SV.int .i64 (0:Int)) :: nn 110 ([])))) [.seq (K.st (LK.i IntKind.i64) [LK.i IntKind.i64,LK.i IntKind.i64,LK.i IntKind.i64,LK.i IntKind.i64,LK.i IntKind.i64,LK.i IntKind.i64,LK.i IntKind.i64,LK.i IntKind.i64,LK.i IntKind.i64,LK.b,LK.i IntKind.i64,LK.i IntKind.i64,LK.i IntKind.i64,LK.i IntKind.i64]) [] (nat_lit 35),.seq (K.st (LK.i IntKind.i64) [LK.i IntKind.i64,LK.i IntKind.i64,LK.i IntKind.i64,LK.i IntKind.i64,LK.i IntKind.i64,LK.i IntKind.i64]) [] (nat_lit 40),.seq (K.st (LK.i IntKind.i64) [LK.i IntKind.i64,LK.i IntKind.i64,LK.i IntKind.i64,LK.i IntKind.i64,LK.i IntKind.i64,LK.i IntKind.i64]) [] (nat_lit 40),.seq K.bool [] (nat_lit 4)]
abbrev chprefix_P1:List Bool := [false,true,false,true,true,true,true,true,true,true,true,true,true,true,true,true,true,true,true]
noncomputable def M.chprefix_l0_step {α:Type} (x36:List (Int × Int × Int × Int × Int × Int × Int × Int × Int × Int × Bool × Int × Int × Int × Int)) (x37:List (Int × Int × Int × Int × Int × Int × Int)) (x38:List (Int × Int × Int × Int × Int × Int × Int)) (kn:Int → List Bool → Option α) (k0:Option α) (k2:Option α) (x35:Int) (x39:List Bool):Option α := let s40:Int := (↑(List.length x36):Int); let s41:K.T (K.st (LK.i IntKind.i64) [LK.i IntKind.i64,LK.i IntKind.i64,LK.i IntKind.i64,LK.i IntKind.i64,LK.i IntKind.i64,LK.i IntKind.i64]) := List.getD x38 (Int.toNat x35) ((0:Int),(0:Int),(0:Int),(0:Int),(0:Int),(0:Int),(0:Int)); let s42:K.T (K.st (LK.i IntKind.i64) [LK.i IntKind.i64,LK.i IntKind.i64,LK.i IntKind.i64,LK.i IntKind.i64,LK.i IntKind.i64,LK.i IntKind.i64]) := List.getD x37 (Int.toNat x35) ((0:Int),(0:Int),(0:Int),(0:Int),(0:Int),(0:Int),(0:Int)); let s43:RT (LK.i IntKind.i64) [LK.i IntKind.i64,LK.i IntKind.i64,LK.i IntKind.i64,LK.i IntKind.i64,LK.i IntKind.i64] := Prod.snd s41; let s44:RT (LK.i IntKind.i64) [LK.i IntKind.i64,LK.i IntKind.i64,LK.i IntKind.i64,LK.i IntKind.i64,LK.i IntKind.i64] := Prod.snd s42; let s45:RT (LK.i IntKind.i64) [LK.i IntKind.i64,LK.i IntKind.i64,LK.i IntKind.i64,LK.i IntKind.i64] := Prod.snd s44; let s46:RT (LK.i IntKind.i64) [LK.i IntKind.i64,LK.i IntKind.i64,LK.i IntKind.i64,LK.i IntKind.i64] := Prod.snd s43; let s47:RT (LK.i IntKind.i64) [LK.i IntKind.i64,LK.i IntKind.i64,LK.i IntKind.i64] := Prod.snd s45; let s48:RT (LK.i IntKind.i64) [LK.i IntKind.i64,LK.i IntKind.i64,LK.i IntKind.i64] := Prod.snd s46; let s49:RT (LK.i IntKind.i64) [LK.i IntKind.i64,LK.i IntKind.i64] := Prod.snd s48; let s50:RT (LK.i IntKind.i64) [LK.i IntKind.i64,LK.i IntKind.i64] := Prod.snd s47; let s51:RT (LK.i IntKind.i64) [LK.i IntKind.i64] := Prod.snd s50; let s52:RT (LK.i IntKind.i64) [LK.i IntKind.i64] := Prod.snd s49; let s53:LK.T (LK.i IntKind.i64) := Prod.fst (List.getD x36 (Int.toNat x35) ((0:Int),(0:Int),(0:Int),(0:Int),(0:Int),(0:Int),(0:Int),(0:Int),(0:Int),(0:Int),false,(0:Int),(0:Int),(0:Int),(0:Int))); if cLt x35 s40 = true then if (0:Int) ≤ x35 ∧ x35 < s40 then if cLe (0:Int) s53 = true then if (0:Int) ≤ x35 ∧ x35 < s40 then if (0:Int) ≤ s53 ∧ s53 < (↑(List.length x39):Int) then if List.getD x39 (Int.toNat s53) false = true then if (0:Int) ≤ x35 ∧ x35 < (↑(List.length x39):Int) then if (0:Int) ≤ x35 ∧ x35 < (↑(List.length (List.set x39 (Int.toNat x35) true)):Int) then if (!List.getD (List.set x39 (Int.toNat x35) true) (Int.toNat x35) false) = true then if (0:Int) ≤ x35 ∧ x35 < (↑(List.length x38):Int) then if (0:Int) ≤ x35 ∧ x35 < (↑(List.length x37):Int) then if (!(cEq (Prod.fst s41) (Prod.fst s42) && (cEq (Prod.fst s43) (Prod.fst s44) && (cEq (Prod.fst s46) (Prod.fst s45) && true)) && (cEq (Prod.fst s48) (Prod.fst s47) && (cEq (Prod.fst s49) (Prod.fst s50) && (cEq (Prod.fst s52) (Prod.fst s51) && (cEq (Prod.snd s52) (Prod.snd s51) && true))) && true))) = true then k0 else kn (IntKind.wrap .i64 (x35 + (1:Int))) (List.set x39 (Int.toNat x35) true) else none else none else kn (IntKind.wrap .i64 (x35 + (1:Int))) (List.set x39 (Int.toNat x35) true) else none else none else if (0:Int) ≤ x35 ∧ x35 < (↑(List.length x39):Int) then if (!List.getD x39 (Int.toNat x35) false) = true then if (0:Int) ≤ x35 ∧ x35 < (↑(List.length x38):Int) then if (0:Int) ≤ x35 ∧ x35 < (↑(List.length x37):Int) then if (!(cEq (Prod.fst s41) (Prod.fst s42) && (cEq (Prod.fst s43) (Prod.fst s44) && (cEq (Prod.fst s46) (Prod.fst s45) && true)) && (cEq (Prod.fst s48) (Prod.fst s47) && (cEq (Prod.fst s49) (Prod.fst s50) && (cEq (Prod.fst s52) (Prod.fst s51) && (cEq (Prod.snd s52) (Prod.snd s51) && true))) && true))) = true then k0 else kn (IntKind.wrap .i64 (x35 + (1:Int))) x39 else none else none else kn (IntKind.wrap .i64 (x35 + (1:Int))) x39 else none else none else none else if (0:Int) ≤ x35 ∧ x35 < (↑(List.length x39):Int) then if (!List.getD x39 (Int.toNat x35) false) = true then if (0:Int) ≤ x35 ∧ x35 < (↑(List.length x38):Int) then if (0:Int) ≤ x35 ∧ x35 < (↑(List.length x37):Int) then if (!(cEq (Prod.fst s41) (Prod.fst s42) && (cEq (Prod.fst s43) (Prod.fst s44) && (cEq (Prod.fst s46) (Prod.fst s45) && true)) && (cEq (Prod.fst s48) (Prod.fst s47) && (cEq (Prod.fst s49) (Prod.fst s50) && (cEq (Prod.fst s52) (Prod.fst s51) && (cEq (Prod.snd s52) (Prod.snd s51) && true))) && true))) = true then k0 else kn (IntKind.wrap .i64 (x35 + (1:Int))) x39 else none else none else kn (IntKind.wrap .i64 (x35 + (1:Int))) x39 else none else none else k2
noncomputable def M.chprefix_l0 {α:Type} (x36:List (Int × Int × Int × Int × Int × Int × Int × Int × Int × Int × Bool × Int × Int × Int × Int)) (x37:List (Int × Int × Int × Int × Int × Int × Int)) (x38:List (Int × Int × Int × Int × Int × Int × Int)) (k0:Option α) (k2:Option α):Nat → Int → List Bool → Option α
 | 0,_,_ => none
 | n + 1,x35,x39 => M.chprefix_l0_step x36 x37 x38 (M.chprefix_l0 x36 x37 x38 k0 k2 n) k0 k2 x35 x39
theorem chprefix_l0_step_eq {α:Type} (x35:Int) (x36:List (Int × Int × Int × Int × Int × Int × Int × Int × Int × Int × Bool × Int × Int × Int × Int)) (x37:List (Int × Int × Int × Int × Int × Int × Int)) (x38:List (Int × Int × Int × Int × Int × Int × Int)) (x39:List Bool) (Q:Ex → St → Option α):(loopStep E (exec E look_chposes noLps 400) 3 chprefix_P1 0 (codeAt E.P 3 chprefix_P1)) (chprefix_S1 x35 x36 x37 x38 x39) Q = M.chprefix_l0_step x36 x37 x38 (fun (x54:Int) (x55:List Bool) => Q .normal (chprefix_S1 x54 x36 x37 x38 x55)) (Q .ret (St.mk (nn 8 (some (SV.bool false) :: nn 120 ([])))
 [])) (Q (.exit 0) (St.mk (nn 129 ([]))
 [])) x35 x39 := by kernel_rfl
theorem chprefix_l0_iter {α:Type} (x36:List (Int × Int × Int × Int × Int × Int × Int × Int × Int × Int × Bool × Int × Int × Int × Int)) (x37:List (Int × Int × Int × Int × Int × Int × Int)) (x38:List (Int × Int × Int × Int × Int × Int × Int)) (Q:Ex → St → Option α):∀ (n:Nat) (x35:Int) (x39:List Bool),iter (loopStep E (exec E look_chposes noLps 400) 3 chprefix_P1 0 (codeAt E.P 3 chprefix_P1)) n (chprefix_S1 x35 x36 x37 x38 x39) Q = M.chprefix_l0 x36 x37 x38 (Q .ret (St.mk (nn 8 (some (SV.bool false) :: nn 120 ([])))
 [])) (Q (.exit 0) (St.mk (nn 129 ([]))
 [])) n x35 x39
 | 0,_,_ => rfl
 | n + 1,x35,x39 => (chprefix_l0_step_eq x35 x36 x37 x38 x39 (iterK (loopStep E (exec E look_chposes noLps 400) 3 chprefix_P1 0 (codeAt E.P 3 chprefix_P1)) n Q)).trans (congrArg (fun kn => M.chprefix_l0_step x36 x37 x38 kn (Q .ret (St.mk (nn 8 (some (SV.bool false) :: nn 120 ([])))
 [])) (Q (.exit 0) (St.mk (nn 129 ([]))
 [])) x35 x39) (funext fun x35 => funext fun x39 => chprefix_l0_iter x36 x37 x38 Q n x35 x39))
noncomputable def chprefix_l0_go {α:Type} (ds:List D) (Q:Ex → St → Option α):Option α :=
 dI ds fun x35 ds => dL (K.st (LK.i IntKind.i64) [LK.i IntKind.i64,LK.i IntKind.i64,LK.i IntKind.i64,LK.i IntKind.i64,LK.i IntKind.i64,LK.i IntKind.i64,LK.i IntKind.i64,LK.i IntKind.i64,LK.i IntKind.i64,LK.b,LK.i IntKind.i64,LK.i IntKind.i64,LK.i IntKind.i64,LK.i IntKind.i64]) ds fun x36 ds => dL (K.st (LK.i IntKind.i64) [LK.i IntKind.i64,LK.i IntKind.i64,LK.i IntKind.i64,LK.i IntKind.i64,LK.i IntKind.i64,LK.i IntKind.i64]) ds fun x37 ds => dL (K.st (LK.i IntKind.i64) [LK.i IntKind.i64,LK.i IntKind.i64,LK.i IntKind.i64,LK.i IntKind.i64,LK.i IntKind.i64,LK.i IntKind.i64]) ds fun x38 ds => dL (K.bool) ds fun x39 ds => dE ds (M.chprefix_l0 x36 x37 x38 (Q .ret (St.mk (nn 8 (some (SV.bool false) :: nn 120 ([])))
 [])) (Q (.exit 0) (St.mk (nn 129 ([]))
 [])) (100 + x36.length + x37.length + x38.length + x39.length) x35 x39)
theorem chprefix_l0_ok {α:Type}:LoopOk E.P 3 chprefix_P1 0 (lEnt (α := α) (chprefix_S2) chprefix_l0_go) :=
 lEnt_ok E (exec_sound E E_ok (look_chposes_ok) (noLps_ok _) 400) fun ds Q r h S hS => by
   unfold chprefix_l0_go at h
   obtain ⟨x35,ds,rfl,h1⟩ := dI_inv h
   obtain ⟨x36,ds,rfl,h2⟩ := dL_inv h1
   obtain ⟨x37,ds,rfl,h3⟩ := dL_inv h2
   obtain ⟨x38,ds,rfl,h4⟩ := dL_inv h3
   obtain ⟨x39,ds,rfl,h5⟩ := dL_inv h4
   obtain ⟨rfl,hE⟩ := dE_inv h5
   have e:fillS (chprefix_S2) [.i x35,.l (K.st (LK.i IntKind.i64) [LK.i IntKind.i64,LK.i IntKind.i64,LK.i IntKind.i64,LK.i IntKind.i64,LK.i IntKind.i64,LK.i IntKind.i64,LK.i IntKind.i64,LK.i IntKind.i64,LK.i IntKind.i64,LK.b,LK.i IntKind.i64,LK.i IntKind.i64,LK.i IntKind.i64,LK.i IntKind.i64]) x36,.l (K.st (LK.i IntKind.i64) [LK.i IntKind.i64,LK.i IntKind.i64,LK.i IntKind.i64,LK.i IntKind.i64,LK.i IntKind.i64,LK.i IntKind.i64]) x37,.l (K.st (LK.i IntKind.i64) [LK.i IntKind.i64,LK.i IntKind.i64,LK.i IntKind.i64,LK.i IntKind.i64,LK.i IntKind.i64,LK.i IntKind.i64]) x38,.l (K.bool) x39] = some (chprefix_S1 x35 x36 x37 x38 x39) := by kernel_rfl
   rw [e] at hS
   cases hS
   exact ⟨_,(chprefix_l0_iter x36 x37 x38 Q _ x35 x39).trans hE⟩
noncomputable def chprefix_l0_lps {α:Type}:LookL α := addLp 3 chprefix_P1 0 (lEnt (chprefix_S2) chprefix_l0_go) noLps
theorem chprefix_l0_lps_ok {α:Type}:LoopsOk E.P (chprefix_l0_lps (α := α)) := addLp_ok chprefix_l0_ok (noLps_ok _)
noncomputable def M.chprefix {α:Type} (l:List (Int × Int × Int × Int × Int × Int × Int × Int × Int × Int × Bool × Int × Int × Int × Int)) (cut:Int) (which:Int) (angle:Int) (k0:Bool → Option α):Option α := let s57:Nat := List.length (V.plcs (V.rtC l)); let s58:Int := (↑s57:Int); let s59:Int := (↑(List.length (V.rtC l)):Int); let s60:Int := V.pick_r0 which s59; let s61:Nat := Int.toNat s60; let s62:Int := IntKind.wrap .i64 (s59 + (1:Int)); let s63:Int := V.pick_r0 cut s62; let s64:Nat := Int.toNat (s63 - (0:Int)); let s65:List (Int × Int × Int × Int × Int × Int × Int) := V.plcs (List.take s64 (List.drop (0:Nat) (V.rtC l))); let s66:K.T (K.st (LK.i IntKind.i64) [LK.i IntKind.i64,LK.i IntKind.i64,LK.i IntKind.i64,LK.i IntKind.i64,LK.i IntKind.i64,LK.i IntKind.i64,LK.i IntKind.i64,LK.i IntKind.i64,LK.i IntKind.i64,LK.b,LK.i IntKind.i64,LK.i IntKind.i64,LK.i IntKind.i64,LK.i IntKind.i64]) := List.getD (V.rtC l) s61 ((0:Int),(0:Int),(0:Int),(0:Int),(0:Int),(0:Int),(0:Int),(0:Int),(0:Int),(0:Int),false,(0:Int),(0:Int),(0:Int),(0:Int)); let s67:RT (LK.i IntKind.i64) [LK.i IntKind.i64,LK.i IntKind.i64,LK.i IntKind.i64,LK.i IntKind.i64,LK.i IntKind.i64,LK.i IntKind.i64,LK.i IntKind.i64,LK.i IntKind.i64,LK.b,LK.i IntKind.i64,LK.i IntKind.i64,LK.i IntKind.i64,LK.i IntKind.i64] := Prod.snd s66; let s68:RT (LK.i IntKind.i64) [LK.i IntKind.i64,LK.i IntKind.i64,LK.i IntKind.i64,LK.i IntKind.i64,LK.i IntKind.i64,LK.i IntKind.i64,LK.i IntKind.i64,LK.b,LK.i IntKind.i64,LK.i IntKind.i64,LK.i IntKind.i64,LK.i IntKind.i64] := Prod.snd s67; let s69:RT (LK.i IntKind.i64) [LK.i IntKind.i64,LK.i IntKind.i64,LK.i IntKind.i64,LK.i IntKind.i64,LK.i IntKind.i64,LK.i IntKind.i64,LK.b,LK.i IntKind.i64,LK.i IntKind.i64,LK.i IntKind.i64,LK.i IntKind.i64] := Prod.snd s68; let s70:RT (LK.i IntKind.i64) [LK.i IntKind.i64,LK.i IntKind.i64,LK.i IntKind.i64,LK.i IntKind.i64,LK.i IntKind.i64,LK.b,LK.i IntKind.i64,LK.i IntKind.i64,LK.i IntKind.i64,LK.i IntKind.i64] := Prod.snd s69; let s71:RT (LK.i IntKind.i64) [LK.i IntKind.i64,LK.i IntKind.i64,LK.i IntKind.i64,LK.i IntKind.i64,LK.b,LK.i IntKind.i64,LK.i IntKind.i64,LK.i IntKind.i64,LK.i IntKind.i64] := Prod.snd s70; let s72:RT (LK.i IntKind.i64) [LK.i IntKind.i64,LK.i IntKind.i64,LK.i IntKind.i64,LK.b,LK.i IntKind.i64,LK.i IntKind.i64,LK.i IntKind.i64,LK.i IntKind.i64] := Prod.snd s71; let s73:RT (LK.i IntKind.i64) [LK.i IntKind.i64,LK.i IntKind.i64,LK.b,LK.i IntKind.i64,LK.i IntKind.i64,LK.i IntKind.i64,LK.i IntKind.i64] := Prod.snd s72; let s74:RT (LK.i IntKind.i64) [LK.i IntKind.i64,LK.b,LK.i IntKind.i64,LK.i IntKind.i64,LK.i IntKind.i64,LK.i IntKind.i64] := Prod.snd s73; let s75:RT (LK.i IntKind.i64) [LK.b,LK.i IntKind.i64,LK.i IntKind.i64,LK.i IntKind.i64,LK.i IntKind.i64] := Prod.snd s74; let s76:RT LK.b [LK.i IntKind.i64,LK.i IntKind.i64,LK.i IntKind.i64,LK.i IntKind.i64] := Prod.snd s75; let s77:List (K.T (K.st (LK.i IntKind.i64) [LK.i IntKind.i64,LK.i IntKind.i64,LK.i IntKind.i64,LK.i IntKind.i64,LK.i IntKind.i64,LK.i IntKind.i64,LK.i IntKind.i64,LK.i IntKind.i64,LK.i IntKind.i64,LK.b,LK.i IntKind.i64,LK.i IntKind.i64,LK.i IntKind.i64,LK.i IntKind.i64])) := List.set (V.rtC l) s61 (Prod.fst s66,Prod.fst s67,Prod.fst s68,Prod.fst s69,Prod.fst s70,Prod.fst s71,Prod.fst s72,Prod.fst s73,Prod.fst s74,Prod.fst s75,Prod.fst s76,V.part_r0 angle (17179869184:Int),Prod.snd (Prod.snd s76)); let s78:List (Int × Int × Int × Int × Int × Int × Int) := V.plcs s77; let s79:Nat := List.length s77; let s80:Int := (↑s79:Int); let s81:List (K.T K.bool) := List.replicate (Int.toNat s80) false; let s82:List (K.T K.bool) := List.set s81 s61 true; if cEq s59 (0:Int) = true then k0 (cEq s58 (0:Int)) else if V.pick_g cut s62 = true then if (0:Int) ≤ (0:Int) ∧ (0:Int) ≤ s63 ∧ s63 ≤ s59 then if (0:Int) ≤ (0:Int) ∧ (0:Int) ≤ s63 ∧ s63 ≤ s58 then if V.lenC (List.length s65) = true then if (!V.psEq s65 (List.take s64 (List.drop (0:Nat) (V.plcs (V.rtC l))))) = true then k0 false else if V.pick_g which s59 = true then if V.part_g angle (17179869184:Int) = true then if (0:Int) ≤ s60 ∧ s60 < s59 then if s80 = s80 then if (0:Int) ≤ s80 ∧ (1:Int) * s80 ≤ (281474976710656:Int) ∧ s80 ≤ (4611686018427387903:Int) then if (0:Int) ≤ s60 ∧ s60 < (↑(List.length s81):Int) then M.chprefix_l0 s77 (V.plcs (V.rtC l)) s78 (k0 false) (k0 true) ((100:Nat) + s79 + s57 + List.length s78 + List.length s82) (0:Int) s82 else none else none else none else none else none else none else none else none else none else none
theorem chprefix_eq {α:Type} (l:List (Int × Int × Int × Int × Int × Int × Int × Int × Int × Int × Bool × Int × Int × Int × Int)) (cut:Int) (which:Int) (angle:Int) (v56:Value) (Q:SV → Hp → Option α):callI E look_chposes (exec E look_chposes chprefix_l0_lps 400) 3 ([SV.ros v56 (K.st (LK.i IntKind.i64) [LK.i IntKind.i64,LK.i IntKind.i64,LK.i IntKind.i64,LK.i IntKind.i64,LK.i IntKind.i64,LK.i IntKind.i64,LK.i IntKind.i64,LK.i IntKind.i64,LK.i IntKind.i64,LK.b,LK.i IntKind.i64,LK.i IntKind.i64,LK.i IntKind.i64,LK.i IntKind.i64]) l,SV.int .i64 cut,SV.int .i64 which,SV.int .i64 angle]) ([]) Q = M.chprefix l cut which angle (fun (x83:Bool) => Q (SV.bool x83) ([])) := by kernel_rfl
def chprefix_sp:List AS := [.ro (.st (.i .i64) [.i .i64,.i .i64,.i .i64,.i .i64,.i .i64,.i .i64,.i .i64,.i .i64,.i .i64,.b,.i .i64,.i .i64,.i .i64,.i .i64]),.val (.int .i64 0),.val (.int .i64 0),.val (.int .i64 0)]
theorem toNat_natC (n:Nat):Int.toNat (n:Int) = n := Int.toNat_natCast n
def hgN (C:List L15) (k:Nat):Nat → Nat → Bool
 | 0,_ => false
 | m + 1,i => decide (i = k) || (decide (0 ≤ (lnk C i).1) && hgN C k m (lnk C i).1.toNat)
theorem hgN_fuel {C:List L15} (hp:∀ i,i < C.length → (lnk C i).1 < (i:Int)) (k:Nat):∀ (i m:Nat),i < C.length → i < m → hgN C k m i = hgN C k (i + 1) i := by
 intro i
 induction i using Nat.strongRecOn with
 | _ i ih =>
   intro m hi hm
   obtain ⟨m,rfl⟩:∃ q,m = q + 1 := ⟨m - 1,by omega⟩
   show (decide (i = k) || (decide (0 ≤ (lnk C i).1) && hgN C k m (lnk C i).1.toNat)) = (decide (i = k) || (decide (0 ≤ (lnk C i).1) && hgN C k i (lnk C i).1.toNat))
   by_cases h0:0 ≤ (lnk C i).1
   · have := hp i hi
     rw [ih (lnk C i).1.toNat (by omega) m (by omega) (by omega),ih (lnk C i).1.toNat (by omega) i (by omega) (by omega)]
   · rw [decide_eq_false h0]; simp
theorem hg_step {C:List L15} (hp:∀ i,i < C.length → (lnk C i).1 < (i:Int)) (k:Nat) {i:Nat} (hi:i < C.length) :
   hgN C k (i + 1) i = (decide (i = k) || (decide (0 ≤ (lnk C i).1) && hgN C k ((lnk C i).1.toNat + 1) (lnk C i).1.toNat)) := by
 show (decide (i = k) || (decide (0 ≤ (lnk C i).1) && hgN C k i (lnk C i).1.toNat)) = _
 by_cases h0:0 ≤ (lnk C i).1
 · have := hp i hi
   rw [hgN_fuel hp k (lnk C i).1.toNat i (by omega) (by omega)]
 · rw [decide_eq_false h0]; simp
theorem getD_set_b (h:List Bool) (i j:Nat) (b:Bool) (hi:i < h.length):(h.set i b).getD j false = if j = i then b else h.getD j false := by
 by_cases e:j = i
 · subst e; simp [List.getD_eq_getElem?_getD,hi]
 · rw [if_neg e]
   simp [List.getD_eq_getElem?_getD,List.getElem?_set_ne (Ne.symm e)]
theorem chprefix_l0_val {α:Type} (C:List L15) (p q:List T7) (hn:C.length ≤ 1000) (hpl:p.length = C.length) (hql:q.length = C.length) (k:Nat) (H:Nat → Bool) (hpar:∀ i,i < C.length → (lnk C i).1 < (i:Int))
   (hH:∀ i,i < C.length → H i = (decide (i = k) || (decide (0 ≤ (lnk C i).1) && H (lnk C i).1.toNat))) (heq:∀ i,i < C.length → H i = false → q.getD i t70 = p.getD i t70) (k0 k2:Option α) :
   ∀ (fuel i:Nat) (h:List Bool),i ≤ C.length → C.length - i < fuel → h.length = C.length → (∀ j,j < C.length → h.getD j false = if j < i then H j else decide (j = k)) → M.chprefix_l0 C p q k0 k2 fuel (i:Int) h = k2
 | 0,i,h,h1,h2,h3,h4 => by omega
 | f + 1,i,h,h1,h2,h3,h4 => by
   unfold M.chprefix_l0 M.chprefix_l0_step
   simp only
   rw [cLt_nat]
   by_cases hi:i < C.length
   · have ih := fun h' a b => chprefix_l0_val C p q hn hpl hql k H hpar hH heq k0 k2 f (i + 1) h' (by omega) (by omega) a b
     have hx:List.getD C (Int.toNat (i:Int)) (0,0,0,0,0,0,0,0,0,0,false,0,0,0,0) = lnk C i := rfl
     have hb := hpar i hi
     have hHi := hH i hi
     have ei := h4 i hi
     rw [if_neg (by omega)] at ei
     have eq := eq7 (q.getD i t70) (p.getD i t70)
     have e':∀ x:List T7,List.getD x (Int.toNat (i:Int)) (0,0,0,0,0,0,0) = x.getD i t70 := fun x => rfl
     have c1:(0:Int) ≤ (i:Int) ∧ (i:Int) < (C.length:Int) := by omega
     have c2:(0:Int) ≤ (i:Int) ∧ (i:Int) < (h.length:Int) := by omega
     have c3:(0:Int) ≤ (i:Int) ∧ (i:Int) < (q.length:Int) := by omega
     have c4:(0:Int) ≤ (i:Int) ∧ (i:Int) < (p.length:Int) := by omega
     rw [if_pos (by simpa using hi),if_pos c1,hx,w_next (by omega),e',e',eq]
     have inv:∀ h':List Bool,h'.length = C.length → (∀ j,j < C.length → j ≠ i → h'.getD j false = h.getD j false) → h'.getD i false = H i → M.chprefix_l0 C p q k0 k2 f ((i + 1:Nat):Int) h' = k2 := by
       intro h' hl' hj hi'
       refine ih h' hl' fun j hjn => ?_
       by_cases e:j = i
       · subst e; rw [if_pos (by omega)]; exact hi'
       · rw [hj j hjn e, h4 j hjn]
         by_cases hlt:j < i
         · rw [if_pos hlt,if_pos (by omega)]
         · rw [if_neg hlt,if_neg (by omega)]
     have cmp:h.getD i false = H i → (if (!List.getD h (Int.toNat (i:Int)) false) = true then if (0:Int) ≤ (i:Int) ∧ (i:Int) < (q.length:Int) then if (0:Int) ≤ (i:Int) ∧ (i:Int) < (p.length:Int) then
         if (!exB (q.getD i t70 = p.getD i t70)) = true then k0 else M.chprefix_l0 C p q k0 k2 f ((i + 1:Nat):Int) h else none else none else M.chprefix_l0 C p q k0 k2 f ((i + 1:Nat):Int) h) = k2 := by
       intro hh
       have hk := inv h h3 (fun _ _ _ => rfl) hh
       rw [toNat_natC,hh]
       cases hv:H i with
       | true => rw [if_neg (by decide)]; exact hk
       | false =>
         rw [if_pos (by decide),if_pos c3,if_pos c4,exB_true (heq i hi hv),if_neg (by decide)]
         exact hk
     rw [cLe_eq]
     by_cases h0:0 ≤ (lnk C i).1
     · have hq0 : (lnk C i).1.toNat < i := by omega
       have ep := h4 (lnk C i).1.toNat (by omega)
       rw [if_pos hq0] at ep
       rw [decide_eq_true h0,Bool.true_and] at hHi
       rw [if_pos (decide_eq_true h0),if_pos c1,if_pos (show (0:Int) ≤ (lnk C i).1 ∧ (lnk C i).1 < (h.length:Int) by rw [h3]; omega),ep]
       cases hv:H (lnk C i).1.toNat with
       | true =>
         rw [hv,Bool.or_true] at hHi
         have hs := getD_set_b h i i true (by omega)
         rw [if_pos rfl] at hs
         rw [if_pos rfl,if_pos c2,if_pos (by rw [List.length_set]; exact c2),toNat_natC,hs,if_neg (by decide)]
         refine inv _ (by rw [List.length_set]; exact h3) (fun j hj hne => ?_) (by rw [hs,hHi])
         rw [getD_set_b h i j true (by omega),if_neg hne]
       | false =>
         rw [hv,Bool.or_false] at hHi
         rw [if_neg (by decide),if_pos c2]
         exact cmp (by rw [ei,hHi])
     · rw [decide_eq_false h0, Bool.false_and, Bool.or_false] at hHi
       rw [if_neg (by simpa using h0),if_pos c2]
       exact cmp (by rw [ei,hHi])
   · rw [if_neg (by simpa using hi)]
def chA (x:L15) (a:Int):L15 := (x.1,x.2.1,x.2.2.1,x.2.2.2.1,x.2.2.2.2.1,x.2.2.2.2.2.1,x.2.2.2.2.2.2.1,x.2.2.2.2.2.2.2.1,x.2.2.2.2.2.2.2.2.1,x.2.2.2.2.2.2.2.2.2.1,x.2.2.2.2.2.2.2.2.2.2.1,a,x.2.2.2.2.2.2.2.2.2.2.2.2)
theorem chA_ok {i:Nat} {x:L15} {a:Int} (h:LkC i x) (ha:Inn a 17179869184):LkC i (chA x a) := by
 refine ⟨h.par,h.len,h.mass,?_,h.at',h.mid,h.spd,h.qck⟩
 show Inn a (if lSl x = true then 68719476736 else 17179869184)
 refine ha.mono ?_
 split <;> omega
theorem set_get {C:List L15} {k i:Nat} {y x:L15} (h:(C.set k y)[i]? = some x):(i = k ∧ x = y ∧ k < C.length) ∨ (i ≠ k ∧ C[i]? = some x) := by
 by_cases e:k = i
 · subst e
   have hl := (List.getElem?_eq_some_iff.1 h).1
   rw [List.length_set] at hl
   rw [List.getElem?_set_self hl] at h
   cases h
   exact .inl ⟨rfl,rfl,hl⟩
 · rw [List.getElem?_set_ne e] at h
   exact .inr ⟨Ne.symm e,h⟩
theorem getD_pl7 (P:List Pl) (i:Nat) (h:i < P.length):(P.map pl7).getD i t70 = pl7 (P.getD i pl0) := by
 simp [List.getD_eq_getElem?_getD,h]
theorem lnk_get {C:List L15} {i:Nat} (h:i < C.length):C[i]? = some (lnk C i) := by simp [lnk,List.getD_eq_getElem?_getD,h]
theorem rep_get (n j:Nat):(List.replicate n false).getD j false = false := by
 rw [List.getD_eq_getElem?_getD,List.getElem?_replicate]
 split <;> rfl
theorem chprefix_v {α:Type} (l:List L15) (cut which angle:Int) (hg:(l.length < 9223372036854775808 ∧ ∀ x ∈ l,(RT.good (.i .i64) [.i .i64,.i .i64,.i .i64,.i .i64,.i .i64,.i .i64,.i .i64,.i .i64,.i .i64,.b,.i .i64,.i .i64,.i .i64,.i .i64]) x) ∧ (-9223372036854775808 ≤ cut ∧ cut < 9223372036854775808) ∧ (-9223372036854775808 ≤ which ∧ which < 9223372036854775808) ∧ (-9223372036854775808 ≤ angle ∧ angle < 9223372036854775808)) (k0:Bool → Option α):M.chprefix l cut which angle k0 = k0 true := by
 obtain ⟨⟨gl,gp⟩,q1,q2,q3⟩ := hg
 obtain ⟨_,r2,r3⟩ := rtC_facts gp
 unfold M.chprefix
 simp only
 generalize V.rtC l = C at *
 obtain ⟨P,hP,_,hPl,ht⟩ := lay_some r2
 have ep := plcs_some r2 hP
 have h12 := ((chC_iff C).1 r2).1
 have hml:(P.map pl7).length = C.length := by rw [List.length_map,hPl]
 rw [ep,hml]
 by_cases hz:C.length = 0
 · rw [if_pos (by rw [cEq_eq,hz]; rfl),cEq_eq,hz]; rfl
 · rw [if_neg (by rw [cEq_eq]; simpa using hz), w_next (by omega)]
   have b1 := pick_bdc q1 (n := ((C.length + 1:Nat):Int)) (by omega)
   have b2 := pick_bdc q2 (n := (C.length:Int)) (by omega)
   rw [pick_ge (c := cut) (n := ((C.length + 1:Nat):Int)) (by omega),pick_ge (c := which) (n := (C.length:Int)) (by omega),part_ge (n := angle) (m := 17179869184) (by omega)]
   have ba := part_bd q3 (m := 17179869184) (by omega)
   generalize V.pick_r0 cut ((C.length + 1:Nat):Int) = c at *
   generalize hk:V.pick_r0 which (C.length:Int) = kk at *
   generalize V.part_r0 angle 17179869184 = a at *
   obtain ⟨k,rfl⟩:∃ k:Nat,kk = (k:Int) := ⟨kk.toNat,by omega⟩
   obtain ⟨m,rfl⟩:∃ m:Nat,c = (m:Int) := ⟨c.toNat,by omega⟩
   have hkl:k < C.length := by omega
   have em:(((m:Int) - 0).toNat) = m := by omega
   rw [em,List.drop_zero,List.drop_zero,toNat_natC]
   -- what is cut off
   have ct:V.chC (C.take m) = 0 := by
     refine (chC_iff _).2 ⟨by rw [List.length_take]; omega,fun i x hx => ?_⟩
     rw [List.getElem?_take] at hx
     split at hx
     · exact (r3 i x hx).2.1
     · cases hx
   have et := plcs_some ct (layL_take hP ht m)
   rw [et, if_pos rfl, if_pos (by omega), if_pos (by omega), if_pos (lenC_of (by rw [List.length_map, List.length_take]; omega)),
     show V.psEq ((P.take m).map pl7) ((P.map pl7).take m) = true from exB_true (by rw [List.map_take]),if_neg (by decide),if_pos rfl,if_pos rfl,if_pos (by omega)]
   -- one angle changed
   have hx0:List.getD C k (0,0,0,0,0,0,0,0,0,0,false,0,0,0,0) = lnk C k := rfl
   rw [hx0]
   have hset:∀ (i:Nat) (x:L15),(C.set k (chA (lnk C k) a))[i]? = some x → LkC i x := by
     intro i x hx
     rcases set_get hx with ⟨rfl,rfl,_⟩ | ⟨_,h⟩
     · exact chA_ok (r3 i _ (lnk_get hkl)).2.1 ba
     · exact (r3 i x h).2.1
   have cs:V.chC (C.set k (chA (lnk C k) a)) = 0 := (chC_iff _).2 ⟨by rw [List.length_set]; exact h12,hset⟩
   obtain ⟨Q,hQ,_,hQl,htQ⟩ := lay_some cs
   have eq := plcs_some cs hQ
   have hsl:(C.set k (chA (lnk C k) a)).length = C.length := List.length_set ..
   rw [hsl] at hQl
   have hql:(Q.map pl7).length = C.length := by rw [List.length_map,hQl]
   rw [if_pos trivial,show ((lnk C k).1,(lnk C k).2.1,(lnk C k).2.2.1,(lnk C k).2.2.2.1,(lnk C k).2.2.2.2.1,(lnk C k).2.2.2.2.2.1,(lnk C k).2.2.2.2.2.2.1,(lnk C k).2.2.2.2.2.2.2.1,(lnk C k).2.2.2.2.2.2.2.2.1,(lnk C k).2.2.2.2.2.2.2.2.2.1,(lnk C k).2.2.2.2.2.2.2.2.2.2.1,a,(lnk C k).2.2.2.2.2.2.2.2.2.2.2.2) = chA (lnk C k) a from rfl,eq]
   rw [hsl,toNat_natC,if_pos (by omega),List.length_replicate,if_pos (by omega)]
   have hpar:∀ i,i < (C.set k (chA (lnk C k) a)).length → (lnk (C.set k (chA (lnk C k) a)) i).1 < (i:Int) := fun i hi => (htQ i _ (lnk_get hi)).2
   refine chprefix_l0_val (C.set k (chA (lnk C k) a)) (P.map pl7) (Q.map pl7) (by omega) (by omega) (by omega) k (fun i => hgN (C.set k (chA (lnk C k) a)) k (i + 1) i) hpar (fun i hi => hg_step hpar k hi) (fun i hi hf => ?_) _ _ _ 0 _ (by omega) (by omega) (by rw [List.length_set,List.length_replicate,hsl]) (fun j hj => ?_)
   · rw [hsl] at hi
     have hst := lay_stay hP hQ ht htQ hsl (fun j => hgN (C.set k (chA (lnk C k) a)) k (j + 1) j = true) (fun j hj hn => ?_) (fun j x hx hn h0 => ?_) i hi (by rw [hf]; decide)
     · rw [getD_pl7 _ _ (by omega),getD_pl7 _ _ (by omega),hst]
     · have hne : k ≠ j := by
         intro e
         apply hn
         rw [hg_step hpar k (by rw [hsl]; exact hj),decide_eq_true e.symm,Bool.true_or]
       rw [List.getElem?_set_ne hne]
     · have hj := (List.getElem?_eq_some_iff.1 hx).1
       have hs := hg_step hpar k (i := j) (by rw [hsl]; exact hj)
       have hne:k ≠ j := by
         intro e
         apply hn
         rw [hs,decide_eq_true e.symm,Bool.true_or]
       have hx2:lnk (C.set k (chA (lnk C k) a)) j = x := by
         have := lnk_get (C := C.set k (chA (lnk C k) a)) (i := j) (by rw [hsl]; exact hj)
         rw [List.getElem?_set_ne hne,hx] at this
         exact (Option.some.inj this).symm
       intro hc
       apply hn
       rw [hs,hx2,decide_eq_true h0,hc]
       simp
   · rw [if_neg (by omega), getD_set_b _ _ _ _ (by rw [List.length_replicate]; exact hkl), rep_get]
     by_cases e:j = k
     · rw [if_pos e,decide_eq_true e]
     · rw [if_neg e,decide_eq_false e]
noncomputable def chprefix_h {α:Type} (ds:List D) (Q:SV → Hp → Option α):Option α :=
 dL (K.st (LK.i IntKind.i64) [LK.i IntKind.i64,LK.i IntKind.i64,LK.i IntKind.i64,LK.i IntKind.i64,LK.i IntKind.i64,LK.i IntKind.i64,LK.i IntKind.i64,LK.i IntKind.i64,LK.i IntKind.i64,LK.b,LK.i IntKind.i64,LK.i IntKind.i64,LK.i IntKind.i64,LK.i IntKind.i64]) ds fun l ds => dI ds fun cut ds => dI ds fun which ds => dI ds fun angle ds => dE ds (if V.gB ((l.length < 9223372036854775808 ∧ ∀ x ∈ l,(RT.good (.i .i64) [.i .i64,.i .i64,.i .i64,.i .i64,.i .i64,.i .i64,.i .i64,.i .i64,.i .i64,.b,.i .i64,.i .i64,.i .i64,.i .i64]) x) ∧ (-9223372036854775808 ≤ cut ∧ cut < 9223372036854775808) ∧ (-9223372036854775808 ≤ which ∧ which < 9223372036854775808) ∧ (-9223372036854775808 ≤ angle ∧ angle < 9223372036854775808)) = true then Q (.bool true) ([]) else none)
theorem chprefix_h_ok {α:Type}:FnOk E.P 3 (fEnt (α := α) chprefix_sp chprefix_h) :=
 fEntR_ok E (look_chposes_ok) (exec_sound E E_ok (look_chposes_ok) (chprefix_l0_lps_ok) 400) fun ds Q r h => by
   unfold chprefix_h at h
   obtain ⟨l,ds,rfl,h1⟩ := dL_inv h
   obtain ⟨cut,ds,rfl,h2⟩ := dI_inv h1
   obtain ⟨which,ds,rfl,h3⟩ := dI_inv h2
   obtain ⟨angle,ds,rfl,h4⟩ := dI_inv h3
   obtain ⟨rfl,hE⟩ := dE_inv h4
   split at hE
   · rename_i hg
     exact ⟨_,_,hE,fun vs => ⟨_,_,by kernel_rfl,(chprefix_eq l cut which angle (vs.headD undef) _).trans (chprefix_v l cut which angle (gB_iff hg) _)⟩⟩
   · cases hE
end
end Go.Proofs.Ytajomehkgaamoaa.Sx
