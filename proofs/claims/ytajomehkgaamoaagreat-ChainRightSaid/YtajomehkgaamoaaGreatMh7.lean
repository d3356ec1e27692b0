/- Texts of the walk, merged. -/
import Derived.Test.YtajomehkgaamoaaGreatMh4
import Derived.ProofKit
import Derived.OpenShut
import Derived.Test.YtajomehkgaamoaaGreatMh6
set_option linter.unusedVariables false
set_option linter.unusedSimpArgs false
namespace Go.Proofs.YtajomehkgaamoaaGreat.Sx
section
open Go Go.RowKit Go.ChangeShapes
section
variable {H:Type} {enc:TypeId × Value → H} {P:Program}
theorem trodAll_keep (hl:laidOutB P = true) {W W':World} {sp:Nat → Bool}:∀ (ts:List TypeId) (vs:List Value) (ds:List (DataW H)) (ps:List MemPlace),(∀ t ∈ ts,P.readableRec t = true ∧ t < P.types.size) →
   DataW.TrodAll enc P W 0 (fun _ => true) true ts vs ds ps → (∀ x ∈ ps,W.sameAt W' x) → (∀ x ∈ ps,sp x.block = true) → DataW.TrodAll enc P W' 0 sp true ts vs ds ps
 | [],[],[],ps,_,h,_,_ => h
 | t :: ts,v :: vs,d :: ds,ps,hr,h,h1,h2 => by
   obtain ⟨p,q,a,b,rfl⟩ := h
   exact ⟨p, q, WideElems.Trod_stays hl (hr t (by simp)).1 (hr t (by simp)).2 a (fun x hx => h1 x (by simp [hx])) (fun x hx => h2 x (by simp [hx])),
     trodAll_keep hl ts vs ds q (fun t ht => hr t (by simp [ht])) b (fun x hx => h1 x (by simp [hx])) (fun x hx => h2 x (by simp [hx])),rfl⟩
 | [],_ :: _,_,_,_,h,_,_ => h.elim
 | [],[],_ :: _,_,_,h,_,_ => h.elim
 | _ :: _,[],_,_,_,h,_,_ => h.elim
 | _ :: _,_ :: _,[],_,_,h,_,_ => h.elim
theorem post_of_below {f:Func} {s:ChangeSpec} {apart fresh handsOn again:Bool} {W W':World} {args:Array Value} {ds gs:List (DataW H)} {before:List MemPlace} {tb:TypeId}
   (hl:laidOutB P = true) (hr:∀ t ∈ f.params.toList,P.readableRec t = true ∧ t < P.types.size) (hv:s.vars = []) (hres:f.resultTypes = #[tb]) (htb:P.underlying tb = some .bool)
   (hfn:(s.fn H (ds ++ gs)) = { results := [.lit (.bool true)],args := ds }) (hW:DataW.Whole enc P f.params.toList s.vars apart W args.toList ds gs before) (hb:Below W.heap.size W W') :
   s.post enc P f apart fresh handsOn again W args (.bool true) W' := by
 have hW0 := hW
 obtain ⟨p,q,hA,hV,hps,hfz,hnd⟩ := hW
 rw [hv] at hV
 obtain ⟨rfl,rfl⟩ := trodVars_none hV
 rw [List.append_nil] at hps
 subst hps
 have hlt:∀ x ∈ before,x.block < W.heap.size := fun x hx => hW0.lt x hx
 have hsame:∀ x ∈ before,W.sameAt W' x := fun x hx => hb.same (hlt x hx)
 have hargs:∀ sp:Nat → Bool,(∀ x ∈ before,sp x.block = true) → DataW.TrodAll enc P W' 0 sp true f.params.toList args.toList ds before := fun sp hsp => trodAll_keep hl _ _ _ _ hr hA hsame hsp
 have hbool:∀ (b:Nat) (sp:Nat → Bool) (hd:Bool),DataW.Trod enc P W' b sp hd tb (.bool true) (.lit (.bool true)) [] := fun b sp hd => ⟨1,by simp [DataW.trod,Value.cells,htb]⟩
 have hres1:∀ (b:Nat) (sp:Nat → Bool) (hd:Bool),DataW.TrodAll enc P W' b sp hd f.resultTypes.toList ((Value.bool true).resultList f.resultTypes.size) [.lit (.bool true)] [] := by
   intro b sp hd
   rw [hres]
   exact trodAll_mk1 (hbool b sp hd)
 have hk : W.keptBut W' (fun _ => False) := by
   refine ⟨hb.os,hb.output,fun i hi => ?_⟩
   rw [hb.block i hi]
   cases W.heap[i]? with
   | none => rfl
   | some o => cases o with
     | cells c t fr => exact ⟨rfl,rfl,rfl,fun _ _ => rfl⟩
     | map es ck => exact .inr ⟨rfl,rfl⟩
     | _ => rfl
 refine ⟨ds,[],before,[],before,[],hW0,?_,?_,?_,World.keptBut_mono (fun _ h => h.elim) hk,fun _ => ⟨?_,_,[],([] ++ before) ++ [],⟨[] ++ before,[],trodAll_append (hargs _ fun _ _ => rfl) (hres1 _ _ _),?_,rfl,?_,?_⟩,fun x hx _ => by simpa using hx⟩⟩
 · rw [hfn]; exact hres1 _ _ _
 · rw [hfn]; exact hargs _ fun x hx => by simpa using hlt x hx
 · rw [hfn,hv]; rfl
 · intro j t r h1 h2
   rw [hres] at h1 h2
   cases j with
   | zero =>
     simp [Value.resultList] at h1 h2
     subst h1; subst h2
     simp [Value.okWide,htb,Cell.okWide,Cell.ok]
   | succ j => simp at h1
 · rw [hv]; rfl
 · intro b off hx
   have hx':MemPlace.cell b off ∈ before := by simpa using hx
   have := hfz b off hx'
   unfold World.frozen? at this ⊢
   have hbl:b < W.heap.size := hlt _ hx'
   simp only [hb.block b hbl]
   exact this
 · intro ha
   simpa using hnd ha
end
theorem flat_get (κ:K):∀ (xs:List κ.T) (q m:Nat),q < xs.length → m < κ.sz → (xs.flatMap κ.cells)[q * κ.sz + m]? = (κ.cells (xs[q]?.getD κ.dflt))[m]?
 | [],q,m,h,_ => by simp at h
 | x :: xs,0,m,h,hm => by
   rw [List.flatMap_cons,List.getElem?_append_left (by rw [K.cells_length]; omega)]
   simp
 | x :: xs,q + 1,m,h,hm => by
   rw [List.flatMap_cons,List.getElem?_append_right (by rw [K.cells_length,Nat.add_mul]; omega),K.cells_length]
   rw [show (q + 1) * κ.sz + m - κ.sz = q * κ.sz + m by rw [Nat.add_mul]; omega]
   simpa using flat_get κ xs q m (by simpa using h) hm
theorem okWide_slice' {P:Program} {w:World} {r:Reach} {base:Nat} {t e:TypeId} {v:Value} (ht:P.underlying t = some (.slice e)) (h:Value.okWide P w r base t v):∃ a l c,v = .slice a l c := by
 unfold Value.okWide at h
 rw [ht] at h
 cases v <;> simp_all [Cell.okWide,Cell.ok]
theorem ros_trod {H:Type} {enc:TypeId × Value → H} {P:Program} {W:World} {t e:TypeId} {κ:K} {good:κ.T → Prop} {fuel:Nat} {cs:List Value} {x:DataW H × List MemPlace} (ht:P.underlying t = some (.slice e)) (hc:P.cellsOf e = κ.sz)
   (hel:∀ n cs x,DataW.trod enc P W 0 (fun _ => true) true n e cs = some x → ∃ y:κ.T,cs = κ.cells y ∧ good y) (h:DataW.trod enc P W 0 (fun _ => true) true fuel t cs = some x) (hok:∀ y:κ.T,good y → κ.okT (fun b => b < W.heap.size) W y := by exact fun y _ => _root_.Go.Proofs.YtajomehkgaamoaaGreat.Sx.inOk_noP _ [y] rfl y (by simp)) :
   ∃ v,cs = [v] ∧ ∃ xs:List κ.T,(∀ x ∈ xs,good x) ∧ xs.length < 9223372036854775808 ∧ RosOk (fun b => b < W.heap.size) W v κ xs := by
 rcases DataW.trod_slice ht h with ⟨rfl,_⟩ | ⟨a,l0,c0,elems,rest,n,_,rfl,_,hb,hl,hm,hlen,hes,_,_⟩
 · exact ⟨_,rfl,[],by simp,by simp,.inl ⟨rfl,none,0,rfl⟩,fun x hx => by cases hx⟩
 · refine ⟨_, rfl, ?_⟩
   have each:∀ i,i < l0 → ∃ y:κ.T,W.cells? 0 (a.add (i * κ.sz)) κ.sz = some (κ.cells y) ∧ good y := by
     intro i hi
     have h1 := hes i hi
     rw [hc] at h1
     have h2:elems[i]? = some (elems[i]'(by omega)) := List.getElem?_eq_getElem (by omega)
     rw [h2,Option.bind_eq_some_iff] at h1
     obtain ⟨cs,hcs,hx⟩ := h1
     obtain ⟨y,rfl,hy⟩ := hel _ _ _ hx
     exact ⟨y,hcs,hy⟩
   have all:∀ k,k ≤ l0 → ∃ xs:List κ.T,xs.length = k ∧ (∀ x ∈ xs,good x) ∧ ∀ i,(hi:i < xs.length) → W.cells? 0 (a.add (i * κ.sz)) κ.sz = some (κ.cells xs[i]) := by
     intro k
     induction k with
     | zero => exact fun _ => ⟨[],rfl,by simp,by simp⟩
     | succ k ih =>
       intro hk
       obtain ⟨xs,e1,e2,e3⟩ := ih (by omega)
       obtain ⟨y,e4,e5⟩ := each k (by omega)
       refine ⟨xs ++ [y],by simp [e1],?_,?_⟩
       · intro x hx
         rcases List.mem_append.1 hx with hx | hx
         · exact e2 x hx
         · simp at hx; subst hx; exact e5
       · intro i hi
         by_cases hik:i < xs.length
         · rw [List.getElem_append_left hik]; exact e3 i hik
         · have : i = xs.length := by simp at hi; omega
           subst this
           rw [List.getElem_append_right (by omega)]
           simpa [e1] using e4
   obtain ⟨xs,e1,e2,e3⟩ := all l0 (Nat.le_refl _)
   refine ⟨xs,e2,by unfold maxLen at hm; omega,?_,fun x hx => hok x (e2 x hx)⟩
   by_cases h0:l0 = 0
   · subst h0
     exact .inl ⟨List.eq_nil_of_length_eq_zero e1,_,_,rfl⟩
   · have hcell : ∀ i j, i < l0 → j < κ.sz → W.cell? ((a.add (i * κ.sz)).add j) = (κ.cells (xs[i]?.getD κ.dflt))[j]? := by
       intro i j hi hj
       have := (World.cells?_some (e3 i (by omega))).2.2 j hj
       rw [this]
       simp [show i < xs.length by omega]
     have hsz:0 < κ.sz := K.sz_pos κ
     have h00 := hcell 0 0 (by omega) hsz
     have hsp:a.spot = none ∧ a.block < W.heap.size := by
       have e0:(a.add (0 * κ.sz)).add 0 = a := by simp [Addr.add]
       rw [e0] at h00
       have hne:(κ.cells (xs[0]?.getD κ.dflt))[0]? ≠ none := by
         rw [List.getElem?_eq_getElem (by rw [K.cells_length]; exact hsz)]; simp
       rw [← h00] at hne
       unfold World.cell? at hne
       split at hne
       · rename_i c t' f' hh
         refine ⟨?_,?_⟩
         · cases hs : a.spot with
           | none => rfl
           | some q => simp [hs] at hne
         · exact (Array.getElem?_eq_some_iff.1 hh).1
       · simp at hne
     refine .inr ⟨a,c0,by rw [e1],by omega,hsp.1,hsp.2,?_⟩
     intro j c hj
     have hjl:j < xs.length * κ.sz := by
       have := (List.getElem?_eq_some_iff.1 hj).1
       rwa [cells_flat_length] at this
     have hq:j / κ.sz < xs.length := Nat.div_lt_of_lt_mul (by rwa [Nat.mul_comm])
     have hm':j % κ.sz < κ.sz := Nat.mod_lt _ hsz
     have hadd:(⟨a.block,a.off + j,none⟩:Addr) = (a.add (j / κ.sz * κ.sz)).add (j % κ.sz) := by
       obtain ⟨ab,ao,asp⟩ := a
       have:asp = none := hsp.1
       subst this
       rw [add_lit,add_lit,Nat.add_assoc,Nat.div_add_mod' j κ.sz]
     rw [hadd,hcell _ _ (by omega) hm']
     rw [← flat_get κ xs (j / κ.sz) (j % κ.sz) hq hm',Nat.div_add_mod' j κ.sz]
     exact hj
theorem ros_slice {H:Type} {enc:TypeId × Value → H} {P:Program} {W:World} {r:Reach} {b0:Nat} {t e:TypeId} {κ:K} {good:κ.T → Prop} {v:Value} {d:DataW H} {ps:List MemPlace} (ht:P.underlying t = some (.slice e)) (hc:P.cellsOf e = κ.sz)
   (hel:∀ n cs x,DataW.trod enc P W 0 (fun _ => true) true n e cs = some x → ∃ y:κ.T,cs = κ.cells y ∧ good y) (hval:Value.okWide P W r b0 t v) (h:DataW.Trod enc P W 0 (fun _ => true) true t v d ps) (hok:∀ y:κ.T,good y → κ.okT (fun b => b < W.heap.size) W y := by exact fun y _ => _root_.Go.Proofs.YtajomehkgaamoaaGreat.Sx.inOk_noP _ [y] rfl y (by simp)) :
   ∃ xs:List κ.T,(∀ x ∈ xs,good x) ∧ xs.length < 9223372036854775808 ∧ RosOk (fun b => b < W.heap.size) W v κ xs := by
 obtain ⟨a0,l0,c0,rfl⟩ := okWide_slice' ht hval
 obtain ⟨fuel,h⟩ := h
 have hcs:(Value.slice a0 l0 c0).cells.toList = [.slice a0 l0 c0] := rfl
 rw [hcs] at h
 obtain ⟨v,hv,hx⟩ := ros_trod ht hc hel h hok
 cases hv
 exact hx
theorem wf64 {n:Int} (h:(Lit.int .i64 n).wf = true):-9223372036854775808 ≤ n ∧ n < 9223372036854775808 := by
 simp only [Lit.wf,Bool.and_eq_true,decide_eq_true_eq] at h
 have h1:IntKind.i64.min = -9223372036854775808 := by decide
 have h2:IntKind.i64.max = 9223372036854775807 := by decide
 rw [h1,h2] at h
 omega
theorem sound_of {P:Program} {f:FuncId} {c:List SV → Hp → (SV → Hp → Option (SV × Hp)) → Option (SV × Hp)} {args:List SV} {v:SV} {H':Hp} (h:FnOk P f c) (hc:c args [] (fun v H => some (v,H)) = some (v,H')):Sound P f args [] v H' := by
 obtain ⟨v,H',h1,h2⟩ := h _ _ _ _ hc
 cases h1
 exact h2
theorem law_calls {P:Program} {f:FuncId} {args:List SV} (hs:Sound P f args [] (.bool true) []) (W:World)
   (hok:∀ (ρ:Nat → Tk),SV.okL (fun b => b < W.heap.size) W ρ 0 args) :
   Calls P f (denL (fun _ => ⟨0,.slice none 0 0⟩) args).toArray W fun e W' => e = .returned (.bool true) ∧ Below W.heap.size W W' := by
 have := hs.run ⟨fun b => b < W.heap.size, W, fun b => W.heap.size ≤ b⟩ (fun _ => ⟨0, .slice none 0 0⟩) W
   { obj := by intro t o h; simp at h
     sep := by intro t t' b h; simp [blkOf] at h
     own := by intro t b h; simp [blkOf] at h
     hdr := fun t => ⟨none,0,0,rfl⟩
     keep := fun _ _ _ => rfl
     size := Nat.le_refl _
     os := rfl
     tape := rfl
     output := rfl
     ok := by intro t o h; simp at h
     fit := ⟨fun b h => h,fun b h => ⟨h,by show ¬ (W.heap.size ≤ b); have:b < W.heap.size := h; omega⟩⟩ } (hok _)
 refine this.mono fun e W' ⟨ρ',_,he,hR,_⟩ => ⟨by rw [he]; rfl,hR.os,hR.tape,hR.output,hR.size,fun k hk => hR.keep k hk (by show ¬ (W.heap.size ≤ k); omega)⟩
def LK.good:(k:LK) → k.T → Prop
 | .i k,n => (Lit.int k n).wf = true
 | .b,_ => True
 | .p,_ => True
def RT.good:(k:LK) → (ks:List LK) → RT k ks → Prop
 | k,[],x => k.good x
 | k,k' :: ks,x => k.good x.1 ∧ RT.good k' ks x.2
def Mt:List LK → List Value → Prop
 | [],[] => True
 | .i k :: ks,.int k' n :: cs => k' = k ∧ (Lit.int k n).wf = true ∧ Mt ks cs
 | .b :: ks,.bool _ :: cs => Mt ks cs
 | _,_ => False
theorem Mt.length:∀ {ks:List LK} {cs:List Value},Mt ks cs → cs.length = ks.length
 | [],[],_ => rfl
 | .i _ :: ks,.int _ _ :: cs,h => by simp [Mt.length (ks := ks) (cs := cs) h.2.2]
 | .b :: ks,.bool _ :: cs,h => by simp [Mt.length (ks := ks) (cs := cs) h]
 | [],_ :: _,h => h.elim
 | .i _ :: _,[],h => h.elim
 | .b :: _,[],h => h.elim
theorem Mt.append:∀ {ks ls:List LK} {cs ds:List Value},Mt ks cs → Mt ls ds → Mt (ks ++ ls) (cs ++ ds)
 | [],ls,[],ds,_,h => h
 | .i _ :: ks,ls,.int _ _ :: cs,ds,h,h' => ⟨h.1,h.2.1,Mt.append h.2.2 h'⟩
 | .b :: ks,ls,.bool _ :: cs,ds,h,h' => Mt.append (ks := ks) (cs := cs) h h'
 | [],_,_ :: _,_,h,_ => h.elim
 | .i _ :: _,_,[],_,h,_ => h.elim
 | .b :: _,_,[],_,h,_ => h.elim
theorem Mt.data:∀ {k:LK} {ks:List LK} {cs:List Value},Mt (k :: ks) cs → ∃ x:RT k ks,cs = RT.cells k ks x ∧ RT.good k ks x
 | .i k,[],[.int k' n],h => by obtain ⟨rfl,h2,_⟩ := h; exact ⟨n,rfl,h2⟩
 | .b,[],[.bool v],h => ⟨v,rfl,trivial⟩
 | .i k,k2 :: ks,.int k' n :: cs,h => by
   obtain ⟨rfl,h2,h3⟩ := h
   obtain ⟨x,rfl,hx⟩ := Mt.data h3
   exact ⟨(n,x),rfl,h2,hx⟩
 | .b,k2 :: ks,.bool v :: cs,h => by
   obtain ⟨x,rfl,hx⟩ := Mt.data (cs := cs) (k := k2) (ks := ks) h
   exact ⟨(v,x),rfl,trivial,hx⟩
 | .i _,[],.int _ _ :: _ :: _,h => h.2.2.elim
 | .b,[],.bool _ :: _ :: _,h => h.elim
 | .i _,_,[],h => h.elim
 | .b,_,[],h => h.elim
def shpFs (P:Program) (f:TypeId → Option (List LK)):List Field → Nat → Option (List LK)
 | [],_ => some []
 | x :: l,off => if x.offset = off then (f x.type).bind fun ks => if ks.length = P.cellsOf x.type then (shpFs P f l (off + ks.length)).map fun ls => ks ++ ls else none else none
def rep {α:Type}:Nat → List α → List α
 | 0,_ => []
 | n + 1,l => l ++ rep n l
def shp (P:Program):Nat → TypeId → Option (List LK)
 | 0,_ => none
 | d + 1, t => match P.underlying t with
   | some (.int k) => some [.i k]
   | some .bool => some [.b]
   | some (.struct fs) => (shpFs P (shp P d) fs.toList 0).bind fun ks => if ks.length = P.cellsOf t then some ks else none
   | some (.array n e) => (shp P d e).bind fun ks => if ks.length = P.cellsOf e ∧ n * ks.length = P.cellsOf t then some (rep n ks) else none
   | _ => none
theorem trod_bool' {H:Type} {enc:TypeId × Value → H} {P:Program} {W:World} {b:Nat} {sp:Nat → Bool} {hd:Bool} {t:TypeId} {n:Nat} {cs:List Value} {x:DataW H × List MemPlace}
   (ht:P.underlying t = some .bool) (h:DataW.trod enc P W b sp hd n t cs = some x):∃ v,cs = [.bool v] := by
 cases n with
 | zero => simp [DataW.trod] at h
 | succ n =>
   unfold DataW.trod at h
   rw [ht] at h
   split at h <;> simp_all
theorem trod_shp {H:Type} {enc:TypeId × Value → H} {P:Program} {W:World} {b:Nat} {sp:Nat → Bool} {hd:Bool}:∀ (d:Nat) (t:TypeId) (ks:List LK),shp P d t = some ks →
   ∀ (n:Nat) (cs:List Value) (x:DataW H × List MemPlace),DataW.trod enc P W b sp hd n t cs = some x → Mt ks cs
 | 0,t,ks,h => by simp [shp] at h
 | d + 1,t,ks,h => by
   intro n cs x hx
   have ih := trod_shp (enc := enc) (P := P) (W := W) (b := b) (sp := sp) (hd := hd) d
   unfold shp at h
   split at h
   · rename_i k ht
     cases h
     obtain ⟨m,rfl,_,hw⟩ := DataW.trod_int ht hx
     exact ⟨rfl,hw,trivial⟩
   · rename_i ht
     cases h
     obtain ⟨v,rfl⟩ := trod_bool' ht hx
     trivial
   · rename_i fs ht
     rw [Option.bind_eq_some_iff] at h
     obtain ⟨ks',h1,h2⟩ := h
     split at h2
     · rename_i hl
       cases h2
       obtain ⟨xs,m,_,_,hlen,hxl,hf⟩ := DataW.trod_struct ht hx
       have each:∀ f ∈ fs.toList,∃ x,DataW.trod enc P W b sp hd m f.type ((cs.drop f.offset).take (P.cellsOf f.type)) = some x := by
         intro f hf'
         obtain ⟨i,hi,rfl⟩ := List.mem_iff_getElem.1 hf'
         have hi':i < fs.size := by simpa using hi
         have := hf i _ (by simp [hi']:fs[i]? = some (fs.toList[i]))
         exact ⟨xs[i]'(by omega),by rw [this]; simp [show i < xs.length by omega]⟩
       have main:∀ (l:List Field) (off:Nat) (ks:List LK),(∀ f ∈ l,∃ x,DataW.trod enc P W b sp hd m f.type ((cs.drop f.offset).take (P.cellsOf f.type)) = some x) →
           shpFs P (shp P d) l off = some ks → cs.length = off + ks.length → Mt ks (cs.drop off) := by
         intro l
         induction l with
         | nil =>
           intro off ks _ hk hl2
           simp [shpFs] at hk
           subst hk
           rw [List.drop_eq_nil_of_le (by simp at hl2; omega)]
           trivial
         | cons f l ihl =>
           intro off ks he hk hl2
           unfold shpFs at hk
           split at hk
           · rename_i ho
             rw [Option.bind_eq_some_iff] at hk
             obtain ⟨k1,a1,a2⟩ := hk
             split at a2
             · rename_i hk1
               rw [Option.map_eq_some_iff] at a2
               obtain ⟨k2,a3,rfl⟩ := a2
               obtain ⟨y,hy⟩ := he f (by simp)
               have m1 := ih _ _ a1 _ _ _ hy
               have m2 := ihl (off + k1.length) k2 (fun g hg => he g (by simp [hg])) a3 (by simp at hl2; omega)
               rw [ho,← hk1] at m1
               have e:cs.drop off = (cs.drop off).take k1.length ++ cs.drop (off + k1.length) := by
                 rw [← List.drop_drop,List.take_append_drop]
               rw [e]
               exact m1.append m2
             · cases a2
           · cases hk
       have := main fs.toList 0 _ each h1 (by omega)
       simpa using this
     · cases h2
   · rename_i n' e ht
     rw [Option.bind_eq_some_iff] at h
     obtain ⟨k1,h1,h2⟩ := h
     split at h2
     · rename_i hl
       cases h2
       obtain ⟨xs,m,_,_,hlen,hxl,hf⟩ := DataW.trod_array ht hx
       have each:∀ i,i < n' → Mt k1 ((cs.drop (i * k1.length)).take k1.length) := by
         intro i hi
         have := hf i hi
         rw [List.getElem?_eq_getElem (by omega)] at this
         have := ih _ _ h1 _ _ _ this
         rwa [← hl.1] at this
       have main:∀ j,j ≤ n' → Mt (rep j k1) (cs.drop ((n' - j) * k1.length)) := by
         intro j
         induction j with
         | zero =>
           intro _
           rw [List.drop_eq_nil_of_le (by simp; omega)]
           trivial
         | succ j ihj =>
           intro hj
           have m1 := each (n' - (j + 1)) (by omega)
           have m2 := ihj (by omega)
           have e0:(n' - (j + 1)) * k1.length + k1.length = (n' - j) * k1.length := by
             rw [show n' - j = (n' - (j + 1)) + 1 by omega,Nat.add_mul]; omega
           have e:cs.drop ((n' - (j + 1)) * k1.length) = (cs.drop ((n' - (j + 1)) * k1.length)).take k1.length ++ cs.drop ((n' - j) * k1.length) := by
             rw [← e0,← List.drop_drop,List.take_append_drop]
           rw [e]
           exact m1.append m2
       have := main n' (Nat.le_refl _)
       simpa using this
     · cases h2
   · cases h
theorem el_st {H:Type} {enc:TypeId × Value → H} {P:Program} {W:World} {t:TypeId} {k:LK} {ks:List LK} (d:Nat) (hs:shp P d t = some (k :: ks)) :
   ∀ n cs x,DataW.trod enc P W 0 (fun _ => true) true n t cs = some x → ∃ y:(K.st k ks).T,cs = (K.st k ks).cells y ∧ RT.good k ks y :=
 fun n cs x h => (trod_shp d t _ hs n cs x h).data
theorem open_st {H:Type} {enc:TypeId × Value → H} {P:Program} {W:World} {r:Reach} {b0:Nat} {t:TypeId} {v:Value} {dd:DataW H} {ps:List MemPlace} {k:LK} {ks:List LK} (d:Nat) (hs:shp P d t = some (k :: ks))
   (ha:(match P.underlying t with | some (.struct _) | some (.array _ _) => true | _ => false) = true) (hval:Value.okWide P W r b0 t v) (h:DataW.Trod enc P W 0 (fun _ => true) true t v dd ps) :
   ∃ y:RT k ks,v = .agg (RT.cells k ks y).toArray ∧ RT.good k ks y := by
 have:∃ cs,v = .agg cs := by
   unfold Value.okWide at hval
   split at hval
   · obtain ⟨cs,rfl,_⟩ := hval; exact ⟨cs,rfl⟩
   · obtain ⟨cs,rfl,_⟩ := hval; exact ⟨cs,rfl⟩
   · rename_i h1 h2
     exfalso
     split at ha
     · rename_i fs hf; exact h1 fs hf
     · rename_i n e hf; exact h2 n e hf
     · cases ha
 obtain ⟨cs,rfl⟩ := this
 obtain ⟨fuel,h⟩ := h
 obtain ⟨y,hy,hg⟩ := (trod_shp d t _ hs _ _ _ h).data
 have hy':cs.toList = RT.cells k ks y := hy
 exact ⟨y,by rw [← hy'],hg⟩
inductive RK where
 | leaf (k:LK) | sl (t:TypeId)
def MtR {H:Type} (enc:TypeId × Value → H) (P:Program) (W:World):List RK → List Value → Prop
 | [],[] => True
 | .leaf (.i k) :: ks,.int k' n :: cs => k' = k ∧ (Lit.int k n).wf = true ∧ MtR enc P W ks cs
 | .leaf .b :: ks,.bool _ :: cs => MtR enc P W ks cs
 | .sl t :: ks,v :: cs => (∃ fuel x,DataW.trod enc P W 0 (fun _ => true) true fuel t [v] = some x) ∧ MtR enc P W ks cs
 | _,_ => False
theorem MtR.append {H:Type} {enc:TypeId × Value → H} {P:Program} {W:World}:∀ {ks ls:List RK} {cs ds:List Value},MtR enc P W ks cs → MtR enc P W ls ds → MtR enc P W (ks ++ ls) (cs ++ ds)
 | [],ls,[],ds,_,h => h
 | .leaf (.i _) :: ks,ls,.int _ _ :: cs,ds,h,h' => ⟨h.1,h.2.1,MtR.append h.2.2 h'⟩
 | .leaf .b :: ks,ls,.bool _ :: cs,ds,h,h' => MtR.append (ks := ks) (cs := cs) h h'
 | .sl _ :: ks,ls,v :: cs,ds,h,h' => ⟨h.1,MtR.append h.2 h'⟩
theorem MtR.cs {H:Type} {enc:TypeId × Value → H} {P:Program} {W:World} {t:TypeId} {ks:List RK}:∀ {cs:List Value},MtR enc P W (.sl t :: ks) cs → ∃ v cs',cs = v :: cs' ∧ (∃ fuel x,DataW.trod enc P W 0 (fun _ => true) true fuel t [v] = some x) ∧ MtR enc P W ks cs'
 | v :: cs,h => ⟨v,cs,rfl,h.1,h.2⟩
theorem MtR.nil {H:Type} {enc:TypeId × Value → H} {P:Program} {W:World}:∀ {cs:List Value},MtR enc P W [] cs → cs = []
 | [],_ => rfl
noncomputable def _root_.Go.Proofs.YtajomehkgaamoaaGreat.V.gB (p:Prop):Bool := open Classical in Classical.choose (⟨decide p,rfl⟩:∃ r:Bool,r = decide p)
theorem gB_of {p:Prop} (h:p):V.gB p = true := by
 have e:V.gB p = _ := Classical.choose_spec (⟨open Classical in decide p,rfl⟩:∃ r:Bool,r = open Classical in decide p)
 rw [e]; simp [h]
theorem gB_iff {p:Prop} (h:V.gB p = true):p := by
 have e:V.gB p = _ := Classical.choose_spec (⟨open Classical in decide p,rfl⟩:∃ r:Bool,r = open Classical in decide p)
 rw [e] at h; simpa using h
end
section
open Go
set_option maxRecDepth 20000
noncomputable def look_ChR_dvunit {α:Type}:LookF α := addFn 55 (fEnt dvunit_sp dvunit_h) look_chcheck
theorem look_ChR_dvunit_ok {α:Type}:LookOk E.P (look_ChR_dvunit (α := α)) := addFn_ok dvunit_h_ok (look_chcheck_ok)
noncomputable def look_ChR_dvlen {α:Type}:LookF α := addFn 25 (fEnt dvlen_sp dvlen_h) look_ChR_dvunit
theorem look_ChR_dvlen_ok {α:Type}:LookOk E.P (look_ChR_dvlen (α := α)) := addFn_ok dvlen_h_ok (look_ChR_dvunit_ok)
noncomputable abbrev chright_S1 (y1:Value) (y2:List L15) (y3:Int) (y4:List L15):St := St.mk (some (SV.ros y1 (K.st (LK.i IntKind.i64) [LK.i IntKind.i64,LK.i IntKind.i64,LK.i IntKind.i64,LK.i IntKind.i64,LK.i IntKind.i64,LK.i IntKind.i64,LK.i IntKind.i64,LK.i IntKind.i64,LK.i IntKind.i64,LK.b,LK.i IntKind.i64,LK.i IntKind.i64,LK.i IntKind.i64,LK.i IntKind.i64]) y2) :: none :: none :: some (SV.sl (nat_lit 0)) :: some (SV.int .i64 y3) :: nn 74 ([])) [.seq (K.st (LK.i IntKind.i64) [LK.i IntKind.i64,LK.i IntKind.i64,LK.i IntKind.i64,LK.i IntKind.i64,LK.i IntKind.i64,LK.i IntKind.i64,LK.i IntKind.i64,LK.i IntKind.i64,LK.i IntKind.i64,LK.b,LK.i IntKind.i64,LK.i IntKind.i64,LK.i IntKind.i64,LK.i IntKind.i64]) y4 (nat_lit 55)]
noncomputable abbrev chright_S2 (y1:List L15):St := St.mk (nn 3 (some (SV.sl (nat_lit 0)) :: nn 75 ([]))) [.seq (K.st (LK.i IntKind.i64) [LK.i IntKind.i64,LK.i IntKind.i64,LK.i IntKind.i64,LK.i IntKind.i64,LK.i IntKind.i64,LK.i IntKind.i64,LK.i IntKind.i64,LK.i IntKind.i64,LK.i IntKind.i64,LK.b,LK.i IntKind.i64,LK.i IntKind.i64,LK.i IntKind.i64,LK.i IntKind.i64]) y1 (nat_lit 55)]
noncomputable abbrev chright_S3:St := St.mk (some (SV.ros undef (K.st (LK.i IntKind.i64) [LK.i IntKind.i64,LK.i IntKind.i64,LK.i IntKind.i64,LK.i IntKind.i64,LK.i IntKind.i64,LK.i IntKind.i64,LK.i IntKind.i64,LK.i IntKind.i64,LK.i IntKind.i64,LK.b,LK.i IntKind.i64,LK.i IntKind.i64,LK.i IntKind.i64,LK.i IntKind.i64]) []) :: none :: none :: some (SV.sl (nat_lit 0)) :: some (SV.int .i64 (0:Int)) :: nn 74 ([])) [.seq (K.st (LK.i IntKind.i64) [LK.i IntKind.i64,LK.i IntKind.i64,LK.i IntKind.i64,LK.i IntKind.i64,LK.i IntKind.i64,LK.i IntKind.i64,LK.i IntKind.i64,LK.i IntKind.i64,LK.i IntKind.i64,LK.b,LK.i IntKind.i64,LK.i IntKind.i64,LK.i IntKind.i64,LK.i IntKind.i64]) [] (nat_lit 55)]
noncomputable def M.chright_l0_step {α:Type} (x6:List L15) (kn:Int → List L15 → Option α) (k1:List L15 → Option α) (x7:Int) (x8:List L15):Option α := let s9 := IntKind.wrap .i64 (x7 + (1:Int)); let s10 := (↑(List.length x6):Int); let s11 := List.getD x6 (Int.toNat x7) ((0:Int),(0:Int),(0:Int),(0:Int),(0:Int),(0:Int),(0:Int),(0:Int),(0:Int),(0:Int),false,(0:Int),(0:Int),(0:Int),(0:Int)); let s12 := Prod.snd s11; let s13 := Prod.fst s11; let s14 := Prod.fst s12; let s15 := Prod.snd s12; let s16 := Prod.snd s15; let s17 := Prod.fst s15; let s18 := Prod.snd s16; let s19 := Prod.fst s16; let s20 := Prod.fst s18; let s21 := Prod.snd s18; let s22 := Prod.fst s21; let s23 := Prod.snd s21; let s24 := Prod.snd s23; let s25 := Prod.fst s23; let s26 := Prod.fst s24; let s27 := Prod.snd s24; let s28 := Prod.fst s27; let s29 := Prod.snd s27; let s30 := Prod.snd s29; let s31 := Prod.fst s29; let s32 := Prod.snd s30; let s33 := Prod.snd s32; let s34 := Prod.fst s32; let s35 := Prod.fst s33; let s36 := Prod.snd s33; let s37 := Prod.fst s36; let s38 := Prod.snd s36; let s39 := V.tUnit (V.lvec_r0 s14 s17 s19 (1073741824:Int),V.lvec_r1 s14 s17 s19 (1073741824:Int),V.lvec_r2 s14 s17 s19 (1073741824:Int)); let s40 := V.tLen (V.q3 s39); let s41 := V.gv s40; let s42 := (V.lvec_r0 s20 s22 s25 (34359738368:Int),V.lvec_r1 s20 s22 s25 (34359738368:Int),V.lvec_r2 s20 s22 s25 (34359738368:Int),V.lvec_r0 s26 s28 s31 (34359738368:Int),V.lvec_r1 s26 s28 s31 (34359738368:Int),V.lvec_r2 s26 s28 s31 (34359738368:Int),Prod.fst s30,V.part_r0 s34 (17179869184:Int),V.part_r0 s35 (17179869184:Int),V.part_r0 s37 (17179869184:Int),IntKind.wrap .i64 ((16777216:Int) + V.pick_r0 s38 (68719476736:Int))); if cLt x7 s10 = true then if cLt x7 (12:Int) = true then if (0:Int) ≤ x7 ∧ x7 < s10 then if V.lvec_g s14 s17 s19 (1073741824:Int) = true then if V.gn s40 (V.on s39 false) = true then if V.pick_g s13 s9 = true then if V.lvec_g s20 s22 s25 (34359738368:Int) = true then if V.lvec_g s26 s28 s31 (34359738368:Int) = true then if V.part_g s34 (17179869184:Int) = true then if V.part_g s35 (17179869184:Int) = true then if V.part_g s37 (17179869184:Int) = true then if V.pick_g s38 (68719476736:Int) = true then if (List.length x8 + ((0:Nat) + (1:Nat))) * (120:Nat) ≤ (140737488355328:Nat) then kn s9 (x8 ++ [(IntKind.wrap .i64 (V.pick_r0 s13 s9 - (1:Int)),(0:Int),(0:Int),(4294967296:Int),s42)]) else none else none else none else none else none else none else none else none else if cLt s41 (4294967288:Int) = true then if V.pick_g s13 s9 = true then if V.lvec_g s20 s22 s25 (34359738368:Int) = true then if V.lvec_g s26 s28 s31 (34359738368:Int) = true then if V.part_g s34 (17179869184:Int) = true then if V.part_g s35 (17179869184:Int) = true then if V.part_g s37 (17179869184:Int) = true then if V.pick_g s38 (68719476736:Int) = true then if (List.length x8 + ((0:Nat) + (1:Nat))) * (120:Nat) ≤ (140737488355328:Nat) then kn s9 (x8 ++ [(IntKind.wrap .i64 (V.pick_r0 s13 s9 - (1:Int)),(0:Int),(0:Int),(4294967296:Int),s42)]) else none else none else none else none else none else none else none else none else if cLt (4294967304:Int) s41 = true then if V.pick_g s13 s9 = true then if V.lvec_g s20 s22 s25 (34359738368:Int) = true then if V.lvec_g s26 s28 s31 (34359738368:Int) = true then if V.part_g s34 (17179869184:Int) = true then if V.part_g s35 (17179869184:Int) = true then if V.part_g s37 (17179869184:Int) = true then if V.pick_g s38 (68719476736:Int) = true then if (List.length x8 + ((0:Nat) + (1:Nat))) * (120:Nat) ≤ (140737488355328:Nat) then kn s9 (x8 ++ [(IntKind.wrap .i64 (V.pick_r0 s13 s9 - (1:Int)),(0:Int),(0:Int),(4294967296:Int),s42)]) else none else none else none else none else none else none else none else none else if V.pick_g s13 s9 = true then if V.lvec_g s20 s22 s25 (34359738368:Int) = true then if V.lvec_g s26 s28 s31 (34359738368:Int) = true then if V.part_g s34 (17179869184:Int) = true then if V.part_g s35 (17179869184:Int) = true then if V.part_g s37 (17179869184:Int) = true then if V.pick_g s38 (68719476736:Int) = true then if (List.length x8 + ((0:Nat) + (1:Nat))) * (120:Nat) ≤ (140737488355328:Nat) then kn s9 (x8 ++ [(IntKind.wrap .i64 (V.pick_r0 s13 s9 - (1:Int)),V.x3 s39,V.y3 s39,V.z3 s39,s42)]) else none else none else none else none else none else none else none else none else none else none else k1 x8 else k1 x8
noncomputable def M.chright_l0 {α:Type} (x6:List L15) (k1:List L15 → Option α):Nat → Int → List L15 → Option α
 | 0,_,_ => none
 | n + 1,x7,x8 => M.chright_l0_step x6 (M.chright_l0 x6 k1 n) k1 x7 x8
theorem chright_l0_step_eq {α:Type} (x5:Value) (x6:List L15) (x7:Int) (x8:List L15) (Q:Ex → St → Option α):(loopStep E (exec E look_ChR_dvlen noLps 400) 21 [false,true,false,true,true] 0 (codeAt E.P 21 [false,true,false,true,true])) (chright_S1 x5 x6 x7 x8) Q = M.chright_l0_step x6 (fun (x44:Int) (x45:List L15) => Q .normal (chright_S1 x5 x6 x44 x45)) (fun (x43:List L15) => Q (.exit 0) (chright_S2 x43)) x7 x8 := by kernel_rfl
theorem chright_l0_iter {α:Type} (x5:Value) (x6:List L15) (Q:Ex → St → Option α):∀ (n:Nat) (x7:Int) (x8:List L15),iter (loopStep E (exec E look_ChR_dvlen noLps 400) 21 [false,true,false,true,true] 0 (codeAt E.P 21 [false,true,false,true,true])) n (chright_S1 x5 x6 x7 x8) Q = M.chright_l0 x6 (fun (x43:List L15) => Q (.exit 0) (chright_S2 x43)) n x7 x8
 | 0,_,_ => rfl
 | n + 1,x7,x8 => (chright_l0_step_eq x5 x6 x7 x8 (iterK (loopStep E (exec E look_ChR_dvlen noLps 400) 21 [false,true,false,true,true] 0 (codeAt E.P 21 [false,true,false,true,true])) n Q)).trans (congrArg (fun kn => M.chright_l0_step x6 kn (fun (x43:List L15) => Q (.exit 0) (chright_S2 x43)) x7 x8) (funext fun x7 => funext fun x8 => chright_l0_iter x5 x6 Q n x7 x8))
noncomputable def chright_l0_go {α:Type} (ds:List D) (Q:Ex → St → Option α):Option α :=
 dV ds fun x5 ds => dL (K.st (LK.i IntKind.i64) [LK.i IntKind.i64,LK.i IntKind.i64,LK.i IntKind.i64,LK.i IntKind.i64,LK.i IntKind.i64,LK.i IntKind.i64,LK.i IntKind.i64,LK.i IntKind.i64,LK.i IntKind.i64,LK.b,LK.i IntKind.i64,LK.i IntKind.i64,LK.i IntKind.i64,LK.i IntKind.i64]) ds fun x6 ds => dI ds fun x7 ds => dL (K.st (LK.i IntKind.i64) [LK.i IntKind.i64,LK.i IntKind.i64,LK.i IntKind.i64,LK.i IntKind.i64,LK.i IntKind.i64,LK.i IntKind.i64,LK.i IntKind.i64,LK.i IntKind.i64,LK.i IntKind.i64,LK.b,LK.i IntKind.i64,LK.i IntKind.i64,LK.i IntKind.i64,LK.i IntKind.i64]) ds fun x8 ds => dE ds (M.chright_l0 x6 (fun (x43:List L15) => Q (.exit 0) (chright_S2 x43)) (100 + x6.length + x8.length) x7 x8)
theorem chright_l0_ok {α:Type}:LoopOk E.P 21 [false,true,false,true,true] 0 (lEnt (α := α) (chright_S3) chright_l0_go) :=
 lEnt_ok E (exec_sound E E_ok (look_ChR_dvlen_ok) (noLps_ok _) 400) fun ds Q r h S hS => by
   unfold chright_l0_go at h
   obtain ⟨x5,ds,rfl,h1⟩ := dV_inv h
   obtain ⟨x6,ds,rfl,h2⟩ := dL_inv h1
   obtain ⟨x7,ds,rfl,h3⟩ := dI_inv h2
   obtain ⟨x8,ds,rfl,h4⟩ := dL_inv h3
   obtain ⟨rfl,hE⟩ := dE_inv h4
   have e:fillS (chright_S3) [.v x5,.l (K.st (LK.i IntKind.i64) [LK.i IntKind.i64,LK.i IntKind.i64,LK.i IntKind.i64,LK.i IntKind.i64,LK.i IntKind.i64,LK.i IntKind.i64,LK.i IntKind.i64,LK.i IntKind.i64,LK.i IntKind.i64,LK.b,LK.i IntKind.i64,LK.i IntKind.i64,LK.i IntKind.i64,LK.i IntKind.i64]) x6,.i x7,.l (K.st (LK.i IntKind.i64) [LK.i IntKind.i64,LK.i IntKind.i64,LK.i IntKind.i64,LK.i IntKind.i64,LK.i IntKind.i64,LK.i IntKind.i64,LK.i IntKind.i64,LK.i IntKind.i64,LK.i IntKind.i64,LK.b,LK.i IntKind.i64,LK.i IntKind.i64,LK.i IntKind.i64,LK.i IntKind.i64]) x8] = some (chright_S1 x5 x6 x7 x8) := by kernel_rfl
   rw [e] at hS
   cases hS
   exact ⟨_,(chright_l0_iter x5 x6 Q _ x7 x8).trans hE⟩
noncomputable def chright_l0_lps {α:Type}:LookL α := addLp 21 [false,true,false,true,true] 0 (lEnt (chright_S3) chright_l0_go) noLps
theorem chright_l0_lps_ok {α:Type}:LoopsOk E.P (chright_l0_lps (α := α)) := addLp_ok chright_l0_ok (noLps_ok _)
noncomputable def M.chright {α:Type} (l:List L15) (k0:List L15 → Option α):Option α := M.chright_l0 l (fun (x47:List L15) ↦ k0 x47) ((100:Nat) + List.length l + (0:Nat)) (0:Int) []
theorem chright_eq {α:Type} (l:List L15) (v46:Value) (Q:SV → Hp → Option α):callI E look_ChR_dvlen (exec E look_ChR_dvlen chright_l0_lps 400) 21 ([SV.ros v46 (K.st (LK.i IntKind.i64) [LK.i IntKind.i64,LK.i IntKind.i64,LK.i IntKind.i64,LK.i IntKind.i64,LK.i IntKind.i64,LK.i IntKind.i64,LK.i IntKind.i64,LK.i IntKind.i64,LK.i IntKind.i64,LK.b,LK.i IntKind.i64,LK.i IntKind.i64,LK.i IntKind.i64,LK.i IntKind.i64]) l]) ([]) Q = M.chright l (fun (x48:List L15) => Q (SV.sl (nat_lit 0)) ([.seq (K.st (LK.i IntKind.i64) [LK.i IntKind.i64,LK.i IntKind.i64,LK.i IntKind.i64,LK.i IntKind.i64,LK.i IntKind.i64,LK.i IntKind.i64,LK.i IntKind.i64,LK.i IntKind.i64,LK.i IntKind.i64,LK.b,LK.i IntKind.i64,LK.i IntKind.i64,LK.i IntKind.i64,LK.i IntKind.i64]) x48 (nat_lit 55)])) := by kernel_rfl
def chright_sp:List AS := [.ro (.st (.i .i64) [.i .i64,.i .i64,.i .i64,.i .i64,.i .i64,.i .i64,.i .i64,.i .i64,.i .i64,.b,.i .i64,.i .i64,.i .i64,.i .i64])]
theorem pick_bdc {c n:Int} (hc:-9223372036854775808 ≤ c ∧ c < 9223372036854775808) (hn:0 < n ∧ n < 4611686018427387904):0 ≤ V.pick_r0 c n ∧ V.pick_r0 c n < n := by
 unfold V.pick_r0
 rw [cLt_eq]
 by_cases h0:c < 0
 · have c1 : decide (c < 0) = true := decide_eq_true h0
   simp only [c1,if_true]
   rw [IntWalk.i64_in (c + 1) (by omega),IntWalk.i64_in (0 - (c + 1)) (by omega),Int.tmod_eq_emod_of_nonneg (show 0 ≤ 0 - (c + 1) by omega),if_neg (by omega)]
   exact ⟨Int.emod_nonneg _ (by omega),Int.emod_lt_of_pos _ hn.1⟩
 · have c1 : decide (c < 0) = false := decide_eq_false h0
   simp only [c1,if_true,Bool.false_eq_true,if_false]
   rw [Int.tmod_eq_emod_of_nonneg (show 0 ≤ c by omega),if_neg (by omega)]
   exact ⟨Int.emod_nonneg _ (by omega),Int.emod_lt_of_pos _ hn.1⟩
theorem pick_ge {c n:Int} (h:n ≠ 0):V.pick_g c n = true := by
 unfold V.pick_g
 rw [if_neg h,ite_self]
theorem most_eq {m:Int} (h:0 ≤ m ∧ m ≤ 1099511627776):IntKind.wrap .i64 (IntKind.wrap .i64 (2 * m) + 1) = 2 * m + 1 := by
 rw [IntWalk.i64_in (2 * m) (by omega),IntWalk.i64_in _ (by omega)]
theorem part_ge {n m:Int} (h:0 ≤ m ∧ m ≤ 1099511627776):V.part_g n m = true := by
 unfold V.part_g
 rw [most_eq h,pick_ge (by omega),if_pos rfl]
theorem lvec_ge {x y z m:Int} (h:0 ≤ m ∧ m ≤ 1099511627776):V.lvec_g x y z m = true := by
 unfold V.lvec_g
 rw [part_ge h,part_ge h,part_ge h,if_pos rfl,if_pos rfl,if_pos rfl]
theorem lvec_is {x y z m:Int} (h:0 ≤ m ∧ m ≤ 1099511627776):V.lvec_r0 x y z m = V.part_r0 x m ∧ V.lvec_r1 x y z m = V.part_r0 y m ∧ V.lvec_r2 x y z m = V.part_r0 z m := by
 unfold V.lvec_r0 V.lvec_r1 V.lvec_r2
 rw [part_ge h,part_ge h,part_ge h]
 exact ⟨rfl,rfl,rfl⟩
theorem part_bd {n m:Int} (hn:-9223372036854775808 ≤ n ∧ n < 9223372036854775808) (h:0 ≤ m ∧ m ≤ 1099511627776):Inn (V.part_r0 n m) m := by
 unfold V.part_r0
 rw [most_eq h,pick_ge (by omega),if_pos rfl]
 have := pick_bdc hn (n := 2 * m + 1) (by omega)
 rw [IntWalk.i64_in _ (by omega)]
 unfold Inn; omega
noncomputable def rAx (v:V.T3):V.T3 :=
 match V.tUnit v with
 | none => (0,0,4294967296)
 | some a => match V.tLen a with
   | none => (0,0,4294967296)
   | some n => if 4294967288 ≤ n ∧ n ≤ 4294967304 then a else (0,0,4294967296)
noncomputable def pt3 (v:V.T3) (m:Int):V.T3 := (V.part_r0 v.1 m,V.part_r0 v.2.1 m,V.part_r0 v.2.2 m)
noncomputable def rgt (i:Nat) (x:L15):L15 :=
 (IntKind.wrap .i64 (V.pick_r0 x.1 ((i + 1:Nat):Int) - 1),(rAx (pt3 (lAx x) 1073741824)).1,(rAx (pt3 (lAx x) 1073741824)).2.1,(rAx (pt3 (lAx x) 1073741824)).2.2,
   (pt3 (lAt x) 34359738368).1,(pt3 (lAt x) 34359738368).2.1,(pt3 (lAt x) 34359738368).2.2,(pt3 (lMid x) 34359738368).1,(pt3 (lMid x) 34359738368).2.1,(pt3 (lMid x) 34359738368).2.2,
   lSl x,V.part_r0 (lAng x) 17179869184,V.part_r0 (lSpd x) 17179869184,V.part_r0 (lQck x) 17179869184,IntKind.wrap .i64 (16777216 + V.pick_r0 (lMass x) 68719476736))
noncomputable def rtF:Nat → List L15 → List L15
 | _,[] => []
 | i,x :: l => if i < 12 then rgt i x :: rtF (i + 1) l else []
noncomputable def _root_.Go.Proofs.YtajomehkgaamoaaGreat.V.rtC (l:List (Int × Int × Int × Int × Int × Int × Int × Int × Int × Int × Bool × Int × Int × Int × Int)):List (Int × Int × Int × Int × Int × Int × Int × Int × Int × Int × Bool × Int × Int × Int × Int) := hid (rtF 0 l)
theorem drop_lnk (l:List L15) (i:Nat) (h:i < l.length):l.drop i = lnk l i :: l.drop (i + 1) := by
 rw [List.drop_eq_getElem_cons h]; simp [lnk,List.getD_eq_getElem?_getD,h]
theorem chright_l0_val {α:Type} (l:List L15) (k1:List L15 → Option α):∀ (fuel i:Nat) (acc:List L15),i ≤ l.length → l.length - i < fuel → acc.length ≤ i → i ≤ 12 →
   M.chright_l0 l k1 fuel (i:Int) acc = k1 (acc ++ rtF i (l.drop i))
 | 0,i,acc,h1,h2,h3,h4 => by omega
 | f + 1,i,acc,h1,h2,h3,h4 => by
   unfold M.chright_l0 M.chright_l0_step
   simp only
   rw [cLt_nat]
   by_cases hi:i < l.length
   · rw [if_pos (by simpa using hi), drop_lnk l i hi]
     have e:List.getD l (Int.toNat (i:Int)) (0,0,0,0,0,0,0,0,0,0,false,0,0,0,0) = lnk l i := rfl
     by_cases h12:i < 12
     · rw [show cLt (i : Int) 12 = true by rw [cLt_eq]; exact decide_eq_true (by omega), if_pos rfl, if_pos (by omega), e, w_next (by omega)]
       have ih := fun acc' h => chright_l0_val l k1 f (i + 1) acc' (by omega) (by omega) h (by omega)
       have er:rtF i (lnk l i :: l.drop (i + 1)) = rgt i (lnk l i) :: rtF (i + 1) (l.drop (i + 1)) := by
         show (if i < 12 then _ else _) = _
         rw [if_pos h12]
       rw [er]
       generalize lnk l i = x at *
       have q1:∀ a b c:Int,V.lvec_g a b c 1073741824 = true := fun a b c => lvec_ge (by omega)
       have q2:∀ a b c:Int,V.lvec_g a b c 34359738368 = true := fun a b c => lvec_ge (by omega)
       have q3:∀ a:Int,V.part_g a 17179869184 = true := fun a => part_ge (by omega)
       have q4:V.pick_g x.1 ((i + 1:Nat):Int) = true := pick_ge (by omega)
       have q5:∀ a:Int,V.pick_g a 68719476736 = true := fun a => pick_ge (by omega)
       have v1:∀ a b c:Int,V.lvec_r0 a b c 1073741824 = V.part_r0 a 1073741824 ∧ V.lvec_r1 a b c 1073741824 = V.part_r0 b 1073741824 ∧ V.lvec_r2 a b c 1073741824 = V.part_r0 c 1073741824 := fun a b c => lvec_is (by omega)
       have v2:∀ a b c:Int,V.lvec_r0 a b c 34359738368 = V.part_r0 a 34359738368 ∧ V.lvec_r1 a b c 34359738368 = V.part_r0 b 34359738368 ∧ V.lvec_r2 a b c 34359738368 = V.part_r0 c 34359738368 := fun a b c => lvec_is (by omega)
       have hsz:(acc.length + (0 + 1)) * 120 ≤ 140737488355328 := by omega
       simp only [q1,q2,q3,q4,q5,(v1 _ _ _).1,(v1 _ _ _).2.1,(v1 _ _ _).2.2,(v2 _ _ _).1,(v2 _ _ _).2.1,(v2 _ _ _).2.2,if_true,if_pos hsz]
       have fin:∀ y:L15,y = rgt i x → M.chright_l0 l k1 f ((i + 1:Nat):Int) (acc ++ [y]) = k1 (acc ++ rgt i x :: rtF (i + 1) (l.drop (i + 1))) := by
         intro y hy
         rw [ih (acc ++ [y]) (by rw [List.length_append,List.length_singleton]; omega),hy,List.append_assoc]
         rfl
       have hU:(V.part_r0 x.2.1 1073741824,V.part_r0 x.2.2.1 1073741824,V.part_r0 x.2.2.2.1 1073741824) = pt3 (lAx x) 1073741824 := rfl
       rw [hU]
       cases hu:V.tUnit (pt3 (lAx x) 1073741824) with
       | none =>
         rw [on_none]
         have hA:rAx (pt3 (lAx x) 1073741824) = (0,0,4294967296) := by unfold rAx; rw [hu]
         rw [if_pos (by unfold V.gn; simp)]
         exact fin _ (by unfold rgt; rw [hA]; rfl)
       | some a =>
         rw [on_some]
         have ha:V.q3 (some a) = a := rfl
         rw [ha]
         cases hn:V.tLen a with
         | none =>
           have hA:rAx (pt3 (lAx x) 1073741824) = (0,0,4294967296) := by unfold rAx; rw [hu]; simp only [hn]
           rw [gn_none,if_pos rfl]
           exact fin _ (by unfold rgt; rw [hA]; rfl)
         | some n =>
           rw [gn_some,if_neg (by decide),gv_some,cLt_eq,cLt_eq]
           by_cases c1:n < 4294967288
           · have hA : rAx (pt3 (lAx x) 1073741824) = (0, 0, 4294967296) := by unfold rAx; rw [hu]; simp only [hn]; rw [if_neg (by omega)]
             rw [if_pos (by simpa using c1)]
             exact fin _ (by unfold rgt; rw [hA]; rfl)
           · rw [if_neg (by simpa using c1)]
             by_cases c2:4294967304 < n
             · have hA : rAx (pt3 (lAx x) 1073741824) = (0, 0, 4294967296) := by unfold rAx; rw [hu]; simp only [hn]; rw [if_neg (by omega)]
               rw [if_pos (by simpa using c2)]
               exact fin _ (by unfold rgt; rw [hA]; rfl)
             · have hA : rAx (pt3 (lAx x) 1073741824) = a := by unfold rAx; rw [hu]; simp only [hn]; rw [if_pos (by omega)]
               rw [if_neg (by simpa using c2)]
               exact fin _ (by unfold rgt; rw [hA]; rfl)
     · rw [show cLt (i : Int) 12 = false by rw [cLt_eq]; exact decide_eq_false (by omega), if_neg (by decide)]
       have er:rtF i (lnk l i :: l.drop (i + 1)) = [] := by
         show (if i < 12 then _ else _) = _
         rw [if_neg h12]
       rw [er,List.append_nil]
   · have : i = l.length := by omega
     subst this
     rw [if_neg (by simp),List.drop_length]
     simp [rtF]
theorem chright_v {α:Type} (l:List L15) (k0:List L15 → Option α):M.chright l k0 = k0 (V.rtC l) := by
 unfold M.chright V.rtC
 rw [hid_eq]
 have := chright_l0_val l k0 (100 + l.length + 0) 0 [] (by omega) (by omega) (by simp) (by omega)
 refine Eq.trans this ?_
 rw [List.drop_zero,List.nil_append]
noncomputable def chright_h {α:Type} (ds:List D) (Q:SV → Hp → Option α):Option α :=
 dL (K.st (LK.i IntKind.i64) [LK.i IntKind.i64,LK.i IntKind.i64,LK.i IntKind.i64,LK.i IntKind.i64,LK.i IntKind.i64,LK.i IntKind.i64,LK.i IntKind.i64,LK.i IntKind.i64,LK.i IntKind.i64,LK.b,LK.i IntKind.i64,LK.i IntKind.i64,LK.i IntKind.i64,LK.i IntKind.i64]) ds fun l ds => dE ds (Q (.sl 0) ([.seq (.st (.i .i64) [.i .i64,.i .i64,.i .i64,.i .i64,.i .i64,.i .i64,.i .i64,.i .i64,.i .i64,.b,.i .i64,.i .i64,.i .i64,.i .i64]) (V.rtC l) 55]))
theorem chright_h_ok {α:Type}:FnOk E.P 21 (fEnt (α := α) chright_sp chright_h) :=
 fEntR_ok E (look_ChR_dvlen_ok) (exec_sound E E_ok (look_ChR_dvlen_ok) (chright_l0_lps_ok) 400) fun ds Q r h => by
   unfold chright_h at h
   obtain ⟨l,ds,rfl,h1⟩ := dL_inv h
   obtain ⟨rfl,hE⟩ := dE_inv h1
   exact ⟨_,_,hE,fun vs => ⟨_,_,by kernel_rfl,(chright_eq l (vs.headD undef) _).trans (chright_v l _)⟩⟩
noncomputable def look_chright {α:Type}:LookF α := addFn 21 (fEnt chright_sp chright_h) look_ChR_dvlen
theorem look_chright_ok {α:Type}:LookOk E.P (look_chright (α := α)) := addFn_ok chright_h_ok (look_ChR_dvlen_ok)
abbrev Good15 (x:L15):Prop := RT.good (.i .i64) [.i .i64,.i .i64,.i .i64,.i .i64,.i .i64,.i .i64,.i .i64,.i .i64,.i .i64,.b,.i .i64,.i .i64,.i .i64,.i .i64] x
def Rg64 (n:Int):Prop := -9223372036854775808 ≤ n ∧ n < 9223372036854775808
def Rg3 (v:V.T3):Prop := Rg64 v.1 ∧ Rg64 v.2.1 ∧ Rg64 v.2.2
theorem good15 {x:L15} (h:Good15 x):Rg64 x.1 ∧ Rg3 (lAx x) ∧ Rg3 (lAt x) ∧ Rg3 (lMid x) ∧ Rg64 (lAng x) ∧ Rg64 (lSpd x) ∧ Rg64 (lQck x) ∧ Rg64 (lMass x) := by
 obtain ⟨h0,h1,h2,h3,h4,h5,h6,h7,h8,h9,_,h11,h12,h13,h14⟩ := h
 exact ⟨wf64 h0,⟨wf64 h1,wf64 h2,wf64 h3⟩,⟨wf64 h4,wf64 h5,wf64 h6⟩,⟨wf64 h7,wf64 h8,wf64 h9⟩,wf64 h11,wf64 h12,wf64 h13,wf64 h14⟩
theorem isq_of {x r:Int} (h0:0 ≤ r) (h1:r * r ≤ x) (h2:x < (r + 1) * (r + 1)):V.isq x = r := by
 have p := sq_nn r
 obtain ⟨q0,q1,q2⟩ := isqSpec (x := x) (by omega)
 generalize V.isq x = n at *
 have e1 : ¬ n < r := fun h => by
   have:(n + 1) * (n + 1) ≤ r * r := Int.mul_le_mul (by omega) (by omega) (by omega) (by omega)
   omega
 have e2 : ¬ r < n := fun h => by
   have:(r + 1) * (r + 1) ≤ n * n := Int.mul_le_mul (by omega) (by omega) (by omega) (by omega)
   omega
 omega
theorem len_z:V.tLen (0,0,4294967296) = some 4294967296 := by
 refine mNorm3_some.2 ⟨by decide,by decide,by decide,?_,by decide⟩
 exact (isq_of (by omega) (by simp only []; omega) (by simp only []; omega)).symm
theorem rAx_len (v:V.T3):∃ n,V.tLen (rAx v) = some n ∧ 4294967288 ≤ n ∧ n ≤ 4294967304 := by
 unfold rAx
 cases V.tUnit v with
 | none => exact ⟨_,len_z,by omega,by omega⟩
 | some a =>
   cases hn:V.tLen a with
   | none => simp only [hn]; exact ⟨_,len_z,by omega,by omega⟩
   | some n =>
     simp only [hn]
     by_cases h:4294967288 ≤ n ∧ n ≤ 4294967304
     · rw [if_pos h]; exact ⟨n,hn,h⟩
     · rw [if_neg h]; exact ⟨_,len_z,by omega,by omega⟩
theorem len_parts {a:V.T3} {n:Int} (h:V.tLen a = some n):In3 a n := by
 obtain ⟨_,_,_,hn,_⟩ := mNorm3_some.1 h
 have p1 := sq_nn a.1
 have p2 := sq_nn a.2.1
 have p3 := sq_nn a.2.2
 obtain ⟨q0,q1,q2⟩ := isqSpec (x := a.1 * a.1 + (a.2.1 * a.2.1 + a.2.2 * a.2.2)) (by omega)
 rw [← hn] at q0 q1 q2
 exact ⟨sq_le q0 (by omega),sq_le q0 (by omega),sq_le q0 (by omega)⟩
structure LkC (i:Nat) (x:L15):Prop where
 par:-1 ≤ x.1 ∧ x.1 < (i:Int)
 len:∃ n,V.tLen (lAx x) = some n ∧ 4294967288 ≤ n ∧ n ≤ 4294967304
 mass:16777216 ≤ lMass x ∧ lMass x ≤ 1099511627776
 ang:Inn (lAng x) (if lSl x = true then 68719476736 else 17179869184)
 at':In3 (lAt x) 68719476736
 mid:In3 (lMid x) 68719476736
 spd:Inn (lSpd x) 68719476736
 qck:Inn (lQck x) 68719476736
theorem bey_iff {n x:Int}:bey n x = false ↔ Inn x n := by
 unfold bey Inn
 rw [Bool.or_eq_false_iff,decide_eq_false_iff_not,decide_eq_false_iff_not]
 omega
theorem linkBad_iff {i:Nat} {x:L15}:linkBad i x = false ↔ LkC i x := by
 have e:linkBad i x = (cLt x.1 (-1) || cLe (i:Int) x.1 || cLt (V.gv (V.tLen (lAx x))) 4294967288 || cLt 4294967304 (V.gv (V.tLen (lAx x))) || cLt (lMass x) 16777216 || cLt 1099511627776 (lMass x) ||
     V.anyB (if lSl x = true then 68719476736 else 17179869184) [lAng x] || V.anyB 68719476736 [(lAt x).1,(lAt x).2.1,(lAt x).2.2,(lMid x).1,(lMid x).2.1,(lMid x).2.2,lSpd x,lQck x]) := rfl
 rw [e]
 simp only [cLt_eq,cLe_eq,V.anyB,List.any_cons,List.any_nil,Bool.or_eq_false_iff,decide_eq_false_iff_not,bey_iff,Bool.or_false]
 constructor
 · rintro ⟨⟨⟨⟨⟨⟨⟨h1, h2⟩, h3⟩, h4⟩, h5⟩, h6⟩, h7⟩, h8, h9, h10, h11, h12, h13, h14, h15⟩
   refine ⟨by omega,?_,by omega,h7,⟨h8,h9,h10⟩,⟨h11,h12,h13⟩,h14,h15⟩
   cases hn:V.tLen (lAx x) with
   | none => rw [hn] at h3; exact absurd (show V.gv none < 4294967288 by show (0:Int) < _; omega) h3
   | some n => rw [hn,gv_some] at h3 h4; exact ⟨n,rfl,by omega,by omega⟩
 · rintro ⟨h1, ⟨n, hn, h3⟩, h5, h7, ⟨h8, h9, h10⟩, ⟨h11, h12, h13⟩, h14, h15⟩
   rw [hn,gv_some]
   exact ⟨⟨⟨⟨⟨⟨⟨by omega,by omega⟩,by omega⟩,by omega⟩,by omega⟩,by omega⟩,h7⟩,h8,h9,h10,h11,h12,h13,h14,h15⟩
theorem LkC.ok {i:Nat} {x:L15} (h:LkC i x):LkOk x := by
 obtain ⟨n,hn,h1,h2⟩ := h.len
 have p := len_parts hn
 refine ⟨⟨p.1.mono h2,p.2.1.mono h2,p.2.2.mono h2⟩,h.at',h.mid,?_,fun hs => ?_⟩
 · have := h.ang
   split at this
   · exact this
   · exact this.mono (by omega)
 · have := h.ang
   rwa [if_neg (by rw [hs]; decide)] at this
theorem chC_iff (l:List L15):V.chC l = 0 ↔ l.length ≤ 12 ∧ ∀ (i:Nat) (x:L15),l[i]? = some x → LkC i x := by
 unfold V.chC
 rw [hid_eq]
 have key:(12 < l.length ∨ ∃ j,0 ≤ j ∧ j < l.length ∧ linkBad j (lnk l j) = true) ↔ ¬ (l.length ≤ 12 ∧ ∀ (i:Nat) (x:L15),l[i]? = some x → LkC i x) := by
   constructor
   · rintro (h | ⟨j, _, hj, hb⟩) ⟨h1, h2⟩
     · omega
     · have := linkBad_iff.2 (h2 j (lnk l j) (by simp [lnk, List.getD_eq_getElem?_getD, hj]))
       rw [hb] at this; cases this
   · intro h
     by_cases hl:12 < l.length
     · exact .inl hl
     · refine .inr ?_
       apply Classical.byContradiction
       intro hn
       apply h
       refine ⟨by omega,fun i x hx => linkBad_iff.1 ?_⟩
       have hi := (List.getElem?_eq_some_iff.1 hx).1
       have e:lnk l i = x := by simp [lnk,List.getD_eq_getElem?_getD,hx]
       rw [← e]
       cases hb:linkBad i (lnk l i) with
       | false => rfl
       | true => exact absurd ⟨i,by omega,hi,hb⟩ hn
 by_cases h:l.length ≤ 12 ∧ ∀ (i:Nat) (x:L15),l[i]? = some x → LkC i x
 · rw [if_neg (fun hc => key.1 hc h)]
   exact ⟨fun _ => h,fun _ => rfl⟩
 · rw [if_pos (key.2 h)]
   exact ⟨fun h' => by omega,fun h' => absurd h' h⟩
theorem rgt_ok {i:Nat} (hi:i < 12) {x:L15} (h:Good15 x):LkC i (rgt i x) ∧ Inn (lSpd (rgt i x)) 17179869184 ∧ Inn (lAng (rgt i x)) 17179869184 ∧ In3 (lAt (rgt i x)) 34359738368 := by
 obtain ⟨g0,g1,g2,g3,g4,g5,g6,g7⟩ := good15 h
 have b1 := pick_bdc g0 (n := ((i + 1:Nat):Int)) (by omega)
 have b2 := pick_bdc g7 (n := 68719476736) (by omega)
 have e1:IntKind.wrap .i64 (V.pick_r0 x.1 ((i + 1:Nat):Int) - 1) = V.pick_r0 x.1 ((i + 1:Nat):Int) - 1 := IntWalk.i64_in _ (by omega)
 have e2:IntKind.wrap .i64 (16777216 + V.pick_r0 (lMass x) 68719476736) = 16777216 + V.pick_r0 (lMass x) 68719476736 := IntWalk.i64_in _ (by omega)
 have p3:∀ {v:V.T3},Rg3 v → In3 (pt3 v 34359738368) 34359738368 := fun hv => ⟨part_bd hv.1 (by omega),part_bd hv.2.1 (by omega),part_bd hv.2.2 (by omega)⟩
 have m3:∀ {v:V.T3},In3 v 34359738368 → In3 v 68719476736 := fun hv => ⟨hv.1.mono (by omega),hv.2.1.mono (by omega),hv.2.2.mono (by omega)⟩
 have pa := part_bd g4 (m := 17179869184) (by omega)
 have ps := part_bd g5 (m := 17179869184) (by omega)
 have pq := part_bd g6 (m := 17179869184) (by omega)
 refine ⟨⟨?_,rAx_len _,?_,?_,m3 (p3 g2),m3 (p3 g3),ps.mono (by omega),pq.mono (by omega)⟩,ps,pa,p3 g2⟩
 · show -1 ≤ IntKind.wrap .i64 (V.pick_r0 x.1 ((i + 1 : Nat) : Int) - 1) ∧ IntKind.wrap .i64 (V.pick_r0 x.1 ((i + 1 : Nat) : Int) - 1) < (i : Int)
   rw [e1]; omega
 · show 16777216 ≤ IntKind.wrap .i64 (16777216 + V.pick_r0 (lMass x) 68719476736) ∧ IntKind.wrap .i64 (16777216 + V.pick_r0 (lMass x) 68719476736) ≤ 1099511627776
   rw [e2]; omega
 · refine Inn.mono pa ?_
   split <;> omega
theorem rtF_get:∀ (l:List L15) (i j:Nat) (x:L15),(rtF i l)[j]? = some x → i + j < 12 ∧ ∃ y,l[j]? = some y ∧ x = rgt (i + j) y
 | [],i,j,x,h => by simp [rtF] at h
 | y :: l,i,j,x,h => by
   unfold rtF at h
   split at h
   · rename_i hi
     cases j with
     | zero => simp at h; exact ⟨by omega,y,rfl,h.symm⟩
     | succ j =>
       obtain ⟨h1,z,h2,h3⟩ := rtF_get l (i + 1) j x (by simpa using h)
       exact ⟨by omega,z,by simpa using h2,by rw [h3,show i + 1 + j = i + (j + 1) by omega]⟩
   · simp at h
theorem rtF_len:∀ (l:List L15) (i:Nat),(rtF i l).length = min l.length (12 - i)
 | [],i => by simp [rtF]
 | y :: l,i => by
   unfold rtF
   split
   · rw [List.length_cons,rtF_len l (i + 1),List.length_cons]; omega
   · simp; omega
theorem rtC_facts {l:List L15} (h:∀ x ∈ l,Good15 x):(V.rtC l).length = min l.length 12 ∧ V.chC (V.rtC l) = 0 ∧
   ∀ (i:Nat) (x:L15),(V.rtC l)[i]? = some x → (∃ y,l[i]? = some y ∧ x = rgt i y) ∧ LkC i x ∧ Inn (lSpd x) 17179869184 ∧ Inn (lAng x) 17179869184 ∧ In3 (lAt x) 34359738368 := by
 have e:V.rtC l = rtF 0 l := hid_eq _
 rw [e]
 have hl := rtF_len l 0
 have hg:∀ (i:Nat) (x:L15),(rtF 0 l)[i]? = some x → (∃ y,l[i]? = some y ∧ x = rgt i y) ∧ LkC i x ∧ Inn (lSpd x) 17179869184 ∧ Inn (lAng x) 17179869184 ∧ In3 (lAt x) 34359738368 := by
   intro i x hx
   obtain ⟨h1,y,h2,h3⟩ := rtF_get l 0 i x hx
   rw [Nat.zero_add] at h1 h3
   obtain ⟨k1,k2⟩ := rgt_ok h1 (h y (List.mem_of_getElem? h2))
   rw [h3]
   exact ⟨⟨y,h2,rfl⟩,k1,k2⟩
 exact ⟨by omega,(chC_iff _).2 ⟨by omega,fun i x hx => (hg i x hx).2.1⟩,hg⟩
theorem chC_lay {l:List L15} (h:V.chC l = 0):∃ P,layL l [] = some P := by
 obtain ⟨h1,h2⟩ := (chC_iff l).1 h
 refine layL_ok l [] (fun x hx => ?_) (by simp; omega) (by simp) (fun i x hx => ?_)
 · obtain ⟨i, hi, rfl⟩ := List.mem_iff_getElem.1 hx
   exact (h2 i _ (List.getElem?_eq_getElem hi)).ok
 · have := (h2 i x hx).par.2
   simp only [List.length_nil]; omega
end
section
open Go
set_option maxRecDepth 20000
noncomputable abbrev chlay_S1 (y1:Value) (y2:List L15) (y3 y4:Int) (y5:Bool) (y6:List (Int × Int × Int × Int × Int × Int × Int × Int × Int × Int × Int × Int × Int × Int × Int × Int × Int × Bool × Int × Int × Int × Int × Int × Int × Int × Int × Int × Int × Int × Int × Int × Int × Int × Int)):St := St.mk (some (SV.ptr (nat_lit 0) (nat_lit 0)) :: nn 4 (some (SV.ptr (nat_lit 1) (nat_lit 0)) :: nn 9 (some (SV.ros y1 (K.st (LK.i IntKind.i64) [LK.i IntKind.i64,LK.i IntKind.i64,LK.i IntKind.i64,LK.i IntKind.i64,LK.i IntKind.i64,LK.i IntKind.i64,LK.i IntKind.i64,LK.i IntKind.i64,LK.i IntKind.i64,LK.b,LK.i IntKind.i64,LK.i IntKind.i64,LK.i IntKind.i64,LK.i IntKind.i64]) y2) :: some (SV.int .i64 y3) :: some (SV.int .i64 y4) :: nn 97 ([])))) [.cells [SV.bool y5] (nat_lit 28),.cells [SV.ptr (nat_lit 0) (nat_lit 0),SV.sl (nat_lit 2)] (nat_lit 69),SObj.seq (K.st (LK.i IntKind.i64) (LK.i IntKind.i64 :: LK.i IntKind.i64 :: LK.i IntKind.i64 :: LK.i IntKind.i64 :: LK.i IntKind.i64 :: LK.i IntKind.i64 :: LK.i IntKind.i64 :: LK.i IntKind.i64 :: have y:List LK := LK.i IntKind.i64 :: LK.i IntKind.i64 :: LK.i IntKind.i64 :: LK.i IntKind.i64 :: have y:List LK := have y:List LK := [LK.i IntKind.i64,LK.i IntKind.i64,LK.i IntKind.i64,LK.i IntKind.i64,LK.i IntKind.i64]; LK.i IntKind.i64 :: LK.i IntKind.i64 :: LK.i IntKind.i64 :: LK.i IntKind.i64 :: y; have y:List LK := LK.i IntKind.i64 :: LK.i IntKind.i64 :: LK.i IntKind.i64 :: LK.i IntKind.i64 :: y; LK.b :: LK.i IntKind.i64 :: LK.i IntKind.i64 :: LK.i IntKind.i64 :: y; LK.i IntKind.i64 :: LK.i IntKind.i64 :: LK.i IntKind.i64 :: LK.i IntKind.i64 :: y)) y6 (nat_lit 71)]
noncomputable abbrev chlay_S2 (y1:Bool) (y2:List (Int × Int × Int × Int × Int × Int × Int × Int × Int × Int × Int × Int × Int × Int × Int × Int × Int × Bool × Int × Int × Int × Int × Int × Int × Int × Int × Int × Int × Int × Int × Int × Int × Int × Int)):St := St.mk (nn 5 (some (SV.ptr (nat_lit 1) (nat_lit 0)) :: nn 109 ([]))) [.cells [SV.bool y1] (nat_lit 28),.cells [SV.ptr (nat_lit 0) (nat_lit 0),SV.sl (nat_lit 2)] (nat_lit 69),SObj.seq (K.st (LK.i IntKind.i64) (LK.i IntKind.i64 :: LK.i IntKind.i64 :: LK.i IntKind.i64 :: LK.i IntKind.i64 :: LK.i IntKind.i64 :: LK.i IntKind.i64 :: LK.i IntKind.i64 :: LK.i IntKind.i64 :: have y:List LK := LK.i IntKind.i64 :: LK.i IntKind.i64 :: LK.i IntKind.i64 :: LK.i IntKind.i64 :: have y:List LK := have y:List LK := [LK.i IntKind.i64,LK.i IntKind.i64,LK.i IntKind.i64,LK.i IntKind.i64,LK.i IntKind.i64]; LK.i IntKind.i64 :: LK.i IntKind.i64 :: LK.i IntKind.i64 :: LK.i IntKind.i64 :: y; have y:List LK := LK.i IntKind.i64 :: LK.i IntKind.i64 :: LK.i IntKind.i64 :: LK.i IntKind.i64 :: y; LK.b :: LK.i IntKind.i64 :: LK.i IntKind.i64 :: LK.i IntKind.i64 :: y; LK.i IntKind.i64 :: LK.i IntKind.i64 :: LK.i IntKind.i64 :: LK.i IntKind.i64 :: y)) y2 (nat_lit 71)]
noncomputable abbrev chlay_S3:St := St.mk (some (SV.ptr (nat_lit 0) (nat_lit 0)) :: nn 4 (some (SV.ptr (nat_lit 1) (nat_lit 0)) :: nn 9 (some (SV.ros undef (K.st (LK.i IntKind.i64) [LK.i IntKind.i64,LK.i IntKind.i64,LK.i IntKind.i64,LK.i IntKind.i64,LK.i IntKind.i64,LK.i IntKind.i64,LK.i IntKind.i64,LK.i IntKind.i64,LK.i IntKind.i64,LK.b,LK.i IntKind.i64,LK.i IntKind.i64,LK.i IntKind.i64,LK.i IntKind.i64]) []) :: some (SV.int .i64 (0:Int)) :: some (SV.int .i64 (0:Int)) :: nn 97 ([])))) [.cells [SV.bool false] (nat_lit 28),.cells [SV.ptr (nat_lit 0) (nat_lit 0),SV.sl (nat_lit 2)] (nat_lit 69),SObj.seq (K.st (LK.i IntKind.i64) (LK.i IntKind.i64 :: LK.i IntKind.i64 :: LK.i IntKind.i64 :: LK.i IntKind.i64 :: LK.i IntKind.i64 :: LK.i IntKind.i64 :: LK.i IntKind.i64 :: LK.i IntKind.i64 :: have y:List LK := LK.i IntKind.i64 :: LK.i IntKind.i64 :: LK.i IntKind.i64 :: LK.i IntKind.i64 :: have y:List LK := have y:List LK := [LK.i IntKind.i64,LK.i IntKind.i64,LK.i IntKind.i64,LK.i IntKind.i64,LK.i IntKind.i64]; LK.i IntKind.i64 :: LK.i IntKind.i64 :: LK.i IntKind.i64 :: LK.i IntKind.i64 :: y; have y:List LK := LK.i IntKind.i64 :: LK.i IntKind.i64 :: LK.i IntKind.i64 :: LK.i IntKind.i64 :: y; LK.b :: LK.i IntKind.i64 :: LK.i IntKind.i64 :: LK.i IntKind.i64 :: y; LK.i IntKind.i64 :: LK.i IntKind.i64 :: LK.i IntKind.i64 :: LK.i IntKind.i64 :: y)) [] (nat_lit 71)]
noncomputable def M.chlay_l0_step {α:Type} (x8:List L15) (x9:Int) (kn:Int → Bool → List (Int × Int × Int × Int × Int × Int × Int × Int × Int × Int × Int × Int × Int × Int × Int × Int × Int × Bool × Int × Int × Int × Int × Int × Int × Int × Int × Int × Int × Int × Int × Int × Int × Int × Int) → Option α) (k1:Bool → List (Int × Int × Int × Int × Int × Int × Int × Int × Int × Int × Int × Int × Int × Int × Int × Int × Int × Bool × Int × Int × Int × Int × Int × Int × Int × Int × Int × Int × Int × Int × Int × Int × Int × Int) → Option α) (x10:Int) (x11:Bool) (x12:List (Int × Int × Int × Int × Int × Int × Int × Int × Int × Int × Int × Int × Int × Int × Int × Int × Int × Bool × Int × Int × Int × Int × Int × Int × Int × Int × Int × Int × Int × Int × Int × Int × Int × Int)):Option α := let s13:Nat := List.length x12; let s14:K.T (K.st (LK.i IntKind.i64) [LK.i IntKind.i64,LK.i IntKind.i64,LK.i IntKind.i64,LK.i IntKind.i64,LK.i IntKind.i64,LK.i IntKind.i64,LK.i IntKind.i64,LK.i IntKind.i64,LK.i IntKind.i64,LK.b,LK.i IntKind.i64,LK.i IntKind.i64,LK.i IntKind.i64,LK.i IntKind.i64]) := List.getD x8 (Int.toNat x10) ((0:Int),(0:Int),(0:Int),(0:Int),(0:Int),(0:Int),(0:Int),(0:Int),(0:Int),(0:Int),false,(0:Int),(0:Int),(0:Int),(0:Int)); let s15:LK.T (LK.i IntKind.i64) := Prod.fst s14; let s16:RT (LK.i IntKind.i64) [LK.i IntKind.i64,LK.i IntKind.i64,LK.i IntKind.i64,LK.i IntKind.i64,LK.i IntKind.i64,LK.i IntKind.i64,LK.i IntKind.i64,LK.i IntKind.i64,LK.b,LK.i IntKind.i64,LK.i IntKind.i64,LK.i IntKind.i64,LK.i IntKind.i64] := Prod.snd s14; let s17:LK.T (LK.i IntKind.i64) := Prod.fst s16; let s18:RT (LK.i IntKind.i64) [LK.i IntKind.i64,LK.i IntKind.i64,LK.i IntKind.i64,LK.i IntKind.i64,LK.i IntKind.i64,LK.i IntKind.i64,LK.i IntKind.i64,LK.b,LK.i IntKind.i64,LK.i IntKind.i64,LK.i IntKind.i64,LK.i IntKind.i64] := Prod.snd s16; let s19:LK.T (LK.i IntKind.i64) := Prod.fst s18; let s20:RT (LK.i IntKind.i64) [LK.i IntKind.i64,LK.i IntKind.i64,LK.i IntKind.i64,LK.i IntKind.i64,LK.i IntKind.i64,LK.i IntKind.i64,LK.b,LK.i IntKind.i64,LK.i IntKind.i64,LK.i IntKind.i64,LK.i IntKind.i64] := Prod.snd s18; let s21:RT (LK.i IntKind.i64) [LK.i IntKind.i64,LK.i IntKind.i64,LK.i IntKind.i64,LK.i IntKind.i64,LK.i IntKind.i64,LK.b,LK.i IntKind.i64,LK.i IntKind.i64,LK.i IntKind.i64,LK.i IntKind.i64] := Prod.snd s20; let s22:LK.T (LK.i IntKind.i64) := Prod.fst s20; let s23:RT (LK.i IntKind.i64) [LK.i IntKind.i64,LK.i IntKind.i64,LK.i IntKind.i64,LK.i IntKind.i64,LK.b,LK.i IntKind.i64,LK.i IntKind.i64,LK.i IntKind.i64,LK.i IntKind.i64] := Prod.snd s21; let s24:LK.T (LK.i IntKind.i64) := Prod.fst s21; let s25:LK.T (LK.i IntKind.i64) := Prod.fst s23; let s26:RT (LK.i IntKind.i64) [LK.i IntKind.i64,LK.i IntKind.i64,LK.i IntKind.i64,LK.b,LK.i IntKind.i64,LK.i IntKind.i64,LK.i IntKind.i64,LK.i IntKind.i64] := Prod.snd s23; let s27:LK.T (LK.i IntKind.i64) := Prod.fst s26; let s28:RT (LK.i IntKind.i64) [LK.i IntKind.i64,LK.i IntKind.i64,LK.b,LK.i IntKind.i64,LK.i IntKind.i64,LK.i IntKind.i64,LK.i IntKind.i64] := Prod.snd s26; let s29:RT (LK.i IntKind.i64) [LK.i IntKind.i64,LK.b,LK.i IntKind.i64,LK.i IntKind.i64,LK.i IntKind.i64,LK.i IntKind.i64] := Prod.snd s28; let s30:LK.T (LK.i IntKind.i64) := Prod.fst s28; let s31:RT (LK.i IntKind.i64) [LK.b,LK.i IntKind.i64,LK.i IntKind.i64,LK.i IntKind.i64,LK.i IntKind.i64] := Prod.snd s29; let s32:LK.T (LK.i IntKind.i64) := Prod.fst s29; let s33:RT LK.b [LK.i IntKind.i64,LK.i IntKind.i64,LK.i IntKind.i64,LK.i IntKind.i64] := Prod.snd s31; let s34:LK.T (LK.i IntKind.i64) := Prod.fst s31; let s35:LK.T LK.b := Prod.fst s33; let s36:RT (LK.i IntKind.i64) [LK.i IntKind.i64,LK.i IntKind.i64,LK.i IntKind.i64] := Prod.snd s33; let s37:LK.T (LK.i IntKind.i64) := Prod.fst s36; let s38:RT (LK.i IntKind.i64) [LK.i IntKind.i64,LK.i IntKind.i64] := Prod.snd s36; let s39:RT (LK.i IntKind.i64) [LK.i IntKind.i64] := Prod.snd s38; let s40:Int × Int × Int := (s17,s19,s22); let s41:Option V.T3 := V.tTurn (V.q9 (V.tRows ((4294967296:Int),(0:Int),(0:Int),(0:Int)))) s40; let s42:Int × Int × Int := (s24,s25,s27); let s43:Option V.T3 := V.tTurn (V.q9 (V.tRows ((4294967296:Int),(0:Int),(0:Int),(0:Int)))) s42; let s44:Option V.T3 := V.tAdd ((0:Int),(0:Int),(0:Int)) (V.q3 s43); let s45:Int × Int × Int := (s30,s32,s34); let s46:Option V.T3 := V.tTurn (V.q9 (V.tRows ((4294967296:Int),(0:Int),(0:Int),(0:Int)))) s45; let s47:Option V.T3 := V.tScale s40 s37; let s48:Option V.T4 := V.tWhole ((4294967296:Int),V.q3 s47); let s49:Option V.T3 := V.tScale (V.q3 s41) s37; let s50:Option V.T4 := V.tTimes ((4294967296:Int),(0:Int),(0:Int),(0:Int)) (V.q4 s48); let s51:Option V.T9 := V.tRows (V.q4 s50); let s52:K.T (K.st (LK.i IntKind.i64) (LK.i IntKind.i64 :: LK.i IntKind.i64 :: LK.i IntKind.i64 :: LK.i IntKind.i64 :: LK.i IntKind.i64 :: LK.i IntKind.i64 :: LK.i IntKind.i64 :: LK.i IntKind.i64 :: have y:List LK := LK.i IntKind.i64 :: LK.i IntKind.i64 :: LK.i IntKind.i64 :: LK.i IntKind.i64 :: have y:List LK := have y:List LK := [LK.i IntKind.i64,LK.i IntKind.i64,LK.i IntKind.i64,LK.i IntKind.i64,LK.i IntKind.i64]; LK.i IntKind.i64 :: LK.i IntKind.i64 :: LK.i IntKind.i64 :: LK.i IntKind.i64 :: y; have y:List LK := LK.i IntKind.i64 :: LK.i IntKind.i64 :: LK.i IntKind.i64 :: LK.i IntKind.i64 :: y; LK.b :: LK.i IntKind.i64 :: LK.i IntKind.i64 :: LK.i IntKind.i64 :: y; LK.i IntKind.i64 :: LK.i IntKind.i64 :: LK.i IntKind.i64 :: LK.i IntKind.i64 :: y)) := List.getD x12 (Int.toNat s15) ((0:Int),(0:Int),(0:Int),(0:Int),(0:Int),(0:Int),(0:Int),(0:Int),(0:Int),(0:Int),(0:Int),(0:Int),(0:Int),(0:Int),(0:Int),(0:Int),(0:Int),false,(0:Int),(0:Int),(0:Int),(0:Int),(0:Int),(0:Int),(0:Int),(0:Int),(0:Int),(0:Int),(0:Int),(0:Int),(0:Int),(0:Int),(0:Int),(0:Int)); let s53:RT (LK.i IntKind.i64) (LK.i IntKind.i64 :: LK.i IntKind.i64 :: LK.i IntKind.i64 :: LK.i IntKind.i64 :: LK.i IntKind.i64 :: LK.i IntKind.i64 :: LK.i IntKind.i64 :: have y:List LK := LK.i IntKind.i64 :: LK.i IntKind.i64 :: LK.i IntKind.i64 :: LK.i IntKind.i64 :: have y:List LK := have y:List LK := [LK.i IntKind.i64,LK.i IntKind.i64,LK.i IntKind.i64,LK.i IntKind.i64,LK.i IntKind.i64]; LK.i IntKind.i64 :: LK.i IntKind.i64 :: LK.i IntKind.i64 :: LK.i IntKind.i64 :: y; have y:List LK := LK.i IntKind.i64 :: LK.i IntKind.i64 :: LK.i IntKind.i64 :: LK.i IntKind.i64 :: y; LK.b :: LK.i IntKind.i64 :: LK.i IntKind.i64 :: LK.i IntKind.i64 :: y; LK.i IntKind.i64 :: LK.i IntKind.i64 :: LK.i IntKind.i64 :: LK.i IntKind.i64 :: y) := Prod.snd s52; let s54:RT (LK.i IntKind.i64) (LK.i IntKind.i64 :: LK.i IntKind.i64 :: LK.i IntKind.i64 :: LK.i IntKind.i64 :: LK.i IntKind.i64 :: LK.i IntKind.i64 :: have y:List LK := LK.i IntKind.i64 :: LK.i IntKind.i64 :: LK.i IntKind.i64 :: LK.i IntKind.i64 :: have y:List LK := have y:List LK := [LK.i IntKind.i64,LK.i IntKind.i64,LK.i IntKind.i64,LK.i IntKind.i64,LK.i IntKind.i64]; LK.i IntKind.i64 :: LK.i IntKind.i64 :: LK.i IntKind.i64 :: LK.i IntKind.i64 :: y; have y:List LK := LK.i IntKind.i64 :: LK.i IntKind.i64 :: LK.i IntKind.i64 :: LK.i IntKind.i64 :: y; LK.b :: LK.i IntKind.i64 :: LK.i IntKind.i64 :: LK.i IntKind.i64 :: y; LK.i IntKind.i64 :: LK.i IntKind.i64 :: LK.i IntKind.i64 :: LK.i IntKind.i64 :: y) := Prod.snd s53; let s55:RT (LK.i IntKind.i64) (LK.i IntKind.i64 :: LK.i IntKind.i64 :: LK.i IntKind.i64 :: LK.i IntKind.i64 :: LK.i IntKind.i64 :: have y:List LK := LK.i IntKind.i64 :: LK.i IntKind.i64 :: LK.i IntKind.i64 :: LK.i IntKind.i64 :: have y:List LK := have y:List LK := [LK.i IntKind.i64,LK.i IntKind.i64,LK.i IntKind.i64,LK.i IntKind.i64,LK.i IntKind.i64]; LK.i IntKind.i64 :: LK.i IntKind.i64 :: LK.i IntKind.i64 :: LK.i IntKind.i64 :: y; have y:List LK := LK.i IntKind.i64 :: LK.i IntKind.i64 :: LK.i IntKind.i64 :: LK.i IntKind.i64 :: y; LK.b :: LK.i IntKind.i64 :: LK.i IntKind.i64 :: LK.i IntKind.i64 :: y; LK.i IntKind.i64 :: LK.i IntKind.i64 :: LK.i IntKind.i64 :: LK.i IntKind.i64 :: y) := Prod.snd s54; let s56:LK.T (LK.i IntKind.i64) := Prod.fst s55; let s57:RT (LK.i IntKind.i64) (LK.i IntKind.i64 :: LK.i IntKind.i64 :: LK.i IntKind.i64 :: LK.i IntKind.i64 :: have y:List LK := LK.i IntKind.i64 :: LK.i IntKind.i64 :: LK.i IntKind.i64 :: LK.i IntKind.i64 :: have y:List LK := have y:List LK := [LK.i IntKind.i64,LK.i IntKind.i64,LK.i IntKind.i64,LK.i IntKind.i64,LK.i IntKind.i64]; LK.i IntKind.i64 :: LK.i IntKind.i64 :: LK.i IntKind.i64 :: LK.i IntKind.i64 :: y; have y:List LK := LK.i IntKind.i64 :: LK.i IntKind.i64 :: LK.i IntKind.i64 :: LK.i IntKind.i64 :: y; LK.b :: LK.i IntKind.i64 :: LK.i IntKind.i64 :: LK.i IntKind.i64 :: y; LK.i IntKind.i64 :: LK.i IntKind.i64 :: LK.i IntKind.i64 :: LK.i IntKind.i64 :: y) := Prod.snd s55; let s58:RT (LK.i IntKind.i64) (LK.i IntKind.i64 :: LK.i IntKind.i64 :: LK.i IntKind.i64 :: have y:List LK := LK.i IntKind.i64 :: LK.i IntKind.i64 :: LK.i IntKind.i64 :: LK.i IntKind.i64 :: have y:List LK := have y:List LK := [LK.i IntKind.i64,LK.i IntKind.i64,LK.i IntKind.i64,LK.i IntKind.i64,LK.i IntKind.i64]; LK.i IntKind.i64 :: LK.i IntKind.i64 :: LK.i IntKind.i64 :: LK.i IntKind.i64 :: y; have y:List LK := LK.i IntKind.i64 :: LK.i IntKind.i64 :: LK.i IntKind.i64 :: LK.i IntKind.i64 :: y; LK.b :: LK.i IntKind.i64 :: LK.i IntKind.i64 :: LK.i IntKind.i64 :: y; LK.i IntKind.i64 :: LK.i IntKind.i64 :: LK.i IntKind.i64 :: LK.i IntKind.i64 :: y) := Prod.snd s57; let s59:LK.T (LK.i IntKind.i64) := Prod.fst s57; let s60:LK.T (LK.i IntKind.i64) := Prod.fst s58; let s61:LK.T (LK.i IntKind.i64) := Prod.fst (Prod.snd s58); let s62:Option V.T3 := V.tAdd (V.q3 s44) (V.q3 s49); let s63:Option V.T3 := V.tTurn (V.q9 s51) s45; let s64:Bool := V.on s41 (V.on s44 (V.on s43 (V.on (V.tRows ((4294967296:Int),(0:Int),(0:Int),(0:Int))) x11))); let s65:Option V.T3 := V.tAdd (V.q3 s44) (V.q3 s63); let s66:Option V.T3 := V.tAdd (V.q3 s62) (V.q3 s46); let s67:Int × Int × Int × Int := (s56,s59,s60,s61); let s68:Option V.T9 := V.tRows s67; let s69:Option V.T3 := V.tTurn (V.q9 s68) s40; let s70:Option V.T3 := V.tTurn (V.q9 s68) s42; let s71:Option V.T3 := V.tTurn (V.q9 s68) s45; let s72:Option V.T3 := V.tScale (V.q3 s69) s37; let s73:Option V.T4 := V.tTimes s67 (V.q4 s48); let s74:Option V.T9 := V.tRows (V.q4 s73); let s75:Option V.T3 := V.tTurn (V.q9 s74) s45; let s76:Option V.T3 := V.tAdd (Prod.fst s52,Prod.fst s53,Prod.fst s54) (V.q3 s70); let s77:Option V.T3 := V.tAdd (V.q3 s76) (V.q3 s72); let s78:Option V.T3 := V.tAdd (V.q3 s76) (V.q3 s75); let s79:Option V.T3 := V.tAdd (V.q3 s77) (V.q3 s71); let s80:Bool := V.on s69 (V.on s76 (V.on s70 (V.on s68 x11))); if cLt x10 x9 = true then if (0:Int) ≤ x10 ∧ x10 < (↑(List.length x8):Int) then if cLt s15 (0:Int) = true then if s35 = true then if (s13 + ((0:Nat) + (1:Nat))) * (272:Nat) ≤ (140737488355328:Nat) then kn (IntKind.wrap .i64 (x10 + (1:Int))) (V.on s66 (V.on s46 (V.on (V.tRows ((4294967296:Int),(0:Int),(0:Int),(0:Int))) (V.on s62 (V.on s49 s64))))) (x12 ++ [(V.x3 s62,V.y3 s62,V.z3 s62,(4294967296:Int),(0:Int),(0:Int),(0:Int),s15,s17,s19,s22,s24,s25,s27,s30,s32,s34,s35,s37,Prod.fst s38,Prod.fst s39,Prod.snd s39,V.x3 s41,V.y3 s41,V.z3 s41,V.x3 s66,V.y3 s66,V.z3 s66,(0:Int),(0:Int),(0:Int),(0:Int),(0:Int),(0:Int))]) else none else if (s13 + ((0:Nat) + (1:Nat))) * (272:Nat) ≤ (140737488355328:Nat) then kn (IntKind.wrap .i64 (x10 + (1:Int))) (V.on s65 (V.on s63 (V.on s51 (V.on s50 (V.on s48 (V.on s47 s64)))))) (x12 ++ [(V.x3 s44,V.y3 s44,V.z3 s44,V.w4 s50,V.x4 s50,V.y4 s50,V.z4 s50,s15,s17,s19,s22,s24,s25,s27,s30,s32,s34,s35,s37,Prod.fst s38,Prod.fst s39,Prod.snd s39,V.x3 s41,V.y3 s41,V.z3 s41,V.x3 s65,V.y3 s65,V.z3 s65,(0:Int),(0:Int),(0:Int),(0:Int),(0:Int),(0:Int))]) else none else if (0:Int) ≤ s15 ∧ s15 < (↑s13:Int) then if s35 = true then if (s13 + ((0:Nat) + (1:Nat))) * (272:Nat) ≤ (140737488355328:Nat) then kn (IntKind.wrap .i64 (x10 + (1:Int))) (V.on s79 (V.on s71 (V.on s68 (V.on s77 (V.on s72 s80))))) (x12 ++ [(V.x3 s77,V.y3 s77,V.z3 s77,s56,s59,s60,s61,s15,s17,s19,s22,s24,s25,s27,s30,s32,s34,s35,s37,Prod.fst s38,Prod.fst s39,Prod.snd s39,V.x3 s69,V.y3 s69,V.z3 s69,V.x3 s79,V.y3 s79,V.z3 s79,(0:Int),(0:Int),(0:Int),(0:Int),(0:Int),(0:Int))]) else none else if (s13 + ((0:Nat) + (1:Nat))) * (272:Nat) ≤ (140737488355328:Nat) then kn (IntKind.wrap .i64 (x10 + (1:Int))) (V.on s78 (V.on s75 (V.on s74 (V.on s73 (V.on s48 (V.on s47 s80)))))) (x12 ++ [(V.x3 s76,V.y3 s76,V.z3 s76,V.w4 s73,V.x4 s73,V.y4 s73,V.z4 s73,s15,s17,s19,s22,s24,s25,s27,s30,s32,s34,s35,s37,Prod.fst s38,Prod.fst s39,Prod.snd s39,V.x3 s69,V.y3 s69,V.z3 s69,V.x3 s78,V.y3 s78,V.z3 s78,(0:Int),(0:Int),(0:Int),(0:Int),(0:Int),(0:Int))]) else none else none else none else k1 x11 x12
noncomputable def M.chlay_l0 {α:Type} (x8:List L15) (x9:Int) (k1:Bool → List (Int × Int × Int × Int × Int × Int × Int × Int × Int × Int × Int × Int × Int × Int × Int × Int × Int × Bool × Int × Int × Int × Int × Int × Int × Int × Int × Int × Int × Int × Int × Int × Int × Int × Int) → Option α):Nat → Int → Bool → List (Int × Int × Int × Int × Int × Int × Int × Int × Int × Int × Int × Int × Int × Int × Int × Int × Int × Bool × Int × Int × Int × Int × Int × Int × Int × Int × Int × Int × Int × Int × Int × Int × Int × Int) → Option α
 | 0,_,_,_ => none
 | n + 1,x10,x11,x12 => M.chlay_l0_step x8 x9 (M.chlay_l0 x8 x9 k1 n) k1 x10 x11 x12
theorem chlay_l0_step_eq {α:Type} (x7:Value) (x8:List L15) (x9 x10:Int) (x11:Bool) (x12:List (Int × Int × Int × Int × Int × Int × Int × Int × Int × Int × Int × Int × Int × Int × Int × Int × Int × Bool × Int × Int × Int × Int × Int × Int × Int × Int × Int × Int × Int × Int × Int × Int × Int × Int)) (Q:Ex → St → Option α):(loopStep E (exec E look_chright noLps 400) 65 [false,true,false,true,true] 1 (codeAt E.P 65 [false,true,false,true,true])) (chlay_S1 x7 x8 x9 x10 x11 x12) Q = M.chlay_l0_step x8 x9 (fun (x83:Int) (x84:Bool) (x85:List (Int × Int × Int × Int × Int × Int × Int × Int × Int × Int × Int × Int × Int × Int × Int × Int × Int × Bool × Int × Int × Int × Int × Int × Int × Int × Int × Int × Int × Int × Int × Int × Int × Int × Int)) => Q .normal (chlay_S1 x7 x8 x9 x83 x84 x85)) (fun (x81:Bool) (x82:List (Int × Int × Int × Int × Int × Int × Int × Int × Int × Int × Int × Int × Int × Int × Int × Int × Int × Bool × Int × Int × Int × Int × Int × Int × Int × Int × Int × Int × Int × Int × Int × Int × Int × Int)) => Q (.exit 0) (chlay_S2 x81 x82)) x10 x11 x12 := by kernel_rfl
theorem chlay_l0_iter {α:Type} (x7:Value) (x8:List L15) (x9:Int) (Q:Ex → St → Option α):∀ (n:Nat) (x10:Int) (x11:Bool) (x12:List (Int × Int × Int × Int × Int × Int × Int × Int × Int × Int × Int × Int × Int × Int × Int × Int × Int × Bool × Int × Int × Int × Int × Int × Int × Int × Int × Int × Int × Int × Int × Int × Int × Int × Int)),iter (loopStep E (exec E look_chright noLps 400) 65 [false,true,false,true,true] 1 (codeAt E.P 65 [false,true,false,true,true])) n (chlay_S1 x7 x8 x9 x10 x11 x12) Q = M.chlay_l0 x8 x9 (fun (x81:Bool) (x82:List (Int × Int × Int × Int × Int × Int × Int × Int × Int × Int × Int × Int × Int × Int × Int × Int × Int × Bool × Int × Int × Int × Int × Int × Int × Int × Int × Int × Int × Int × Int × Int × Int × Int × Int)) => Q (.exit 0) (chlay_S2 x81 x82)) n x10 x11 x12
 | 0,_,_,_ => rfl
 | n + 1,x10,x11,x12 => (chlay_l0_step_eq x7 x8 x9 x10 x11 x12 (iterK (loopStep E (exec E look_chright noLps 400) 65 [false,true,false,true,true] 1 (codeAt E.P 65 [false,true,false,true,true])) n Q)).trans (congrArg (fun kn => M.chlay_l0_step x8 x9 kn (fun (x81:Bool) (x82:List (Int × Int × Int × Int × Int × Int × Int × Int × Int × Int × Int × Int × Int × Int × Int × Int × Int × Bool × Int × Int × Int × Int × Int × Int × Int × Int × Int × Int × Int × Int × Int × Int × Int × Int)) => Q (.exit 0) (chlay_S2 x81 x82)) x10 x11 x12) (funext fun x10 => funext fun x11 => funext fun x12 => chlay_l0_iter x7 x8 x9 Q n x10 x11 x12))
noncomputable def chlay_l0_go {α:Type} (ds:List D) (Q:Ex → St → Option α):Option α :=
 dV ds fun x7 ds => dL (K.st (LK.i IntKind.i64) [LK.i IntKind.i64,LK.i IntKind.i64,LK.i IntKind.i64,LK.i IntKind.i64,LK.i IntKind.i64,LK.i IntKind.i64,LK.i IntKind.i64,LK.i IntKind.i64,LK.i IntKind.i64,LK.b,LK.i IntKind.i64,LK.i IntKind.i64,LK.i IntKind.i64,LK.i IntKind.i64]) ds fun x8 ds => dI ds fun x9 ds => dI ds fun x10 ds => dB ds fun x11 ds => dL (K.st (LK.i IntKind.i64)
 (LK.i IntKind.i64 ::
   LK.i IntKind.i64 ::
     LK.i IntKind.i64 ::
       LK.i IntKind.i64 ::
         LK.i IntKind.i64 ::
           LK.i IntKind.i64 ::
             LK.i IntKind.i64 ::
               LK.i IntKind.i64 ::
                 have y:List LK :=
                   LK.i IntKind.i64 ::
                     LK.i IntKind.i64 ::
                       LK.i IntKind.i64 ::
                         LK.i IntKind.i64 ::
                           have y:List LK :=
                             have y:List LK := [LK.i IntKind.i64,LK.i IntKind.i64,LK.i IntKind.i64,LK.i IntKind.i64,LK.i IntKind.i64];
                             LK.i IntKind.i64 :: LK.i IntKind.i64 :: LK.i IntKind.i64 :: LK.i IntKind.i64 :: y;
                           have y:List LK := LK.i IntKind.i64 :: LK.i IntKind.i64 :: LK.i IntKind.i64 :: LK.i IntKind.i64 :: y;
                           LK.b :: LK.i IntKind.i64 :: LK.i IntKind.i64 :: LK.i IntKind.i64 :: y;
                 LK.i IntKind.i64 :: LK.i IntKind.i64 :: LK.i IntKind.i64 :: LK.i IntKind.i64 :: y)) ds fun x12 ds => dE ds (M.chlay_l0 x8 x9 (fun (x81:Bool) (x82:List (Int × Int × Int × Int × Int × Int × Int × Int × Int × Int × Int × Int × Int × Int × Int × Int × Int × Bool × Int × Int × Int × Int × Int × Int × Int × Int × Int × Int × Int × Int × Int × Int × Int × Int)) => Q (.exit 0) (chlay_S2 x81 x82)) (100 + x8.length + x12.length) x10 x11 x12)
theorem chlay_l0_ok {α:Type}:LoopOk E.P 65 [false,true,false,true,true] 1 (lEnt (α := α) (chlay_S3) chlay_l0_go) :=
 lEnt_ok E (exec_sound E E_ok (look_chright_ok) (noLps_ok _) 400) fun ds Q r h S hS => by
   unfold chlay_l0_go at h
   obtain ⟨x7,ds,rfl,h1⟩ := dV_inv h
   obtain ⟨x8,ds,rfl,h2⟩ := dL_inv h1
   obtain ⟨x9,ds,rfl,h3⟩ := dI_inv h2
   obtain ⟨x10,ds,rfl,h4⟩ := dI_inv h3
   obtain ⟨x11,ds,rfl,h5⟩ := dB_inv h4
   obtain ⟨x12,ds,rfl,h6⟩ := dL_inv h5
   obtain ⟨rfl,hE⟩ := dE_inv h6
   have e:fillS (chlay_S3) [.v x7,.l (K.st (LK.i IntKind.i64) [LK.i IntKind.i64,LK.i IntKind.i64,LK.i IntKind.i64,LK.i IntKind.i64,LK.i IntKind.i64,LK.i IntKind.i64,LK.i IntKind.i64,LK.i IntKind.i64,LK.i IntKind.i64,LK.b,LK.i IntKind.i64,LK.i IntKind.i64,LK.i IntKind.i64,LK.i IntKind.i64]) x8,.i x9,.i x10,.b x11,.l (K.st (LK.i IntKind.i64)
 (LK.i IntKind.i64 ::
   LK.i IntKind.i64 ::
     LK.i IntKind.i64 ::
       LK.i IntKind.i64 ::
         LK.i IntKind.i64 ::
           LK.i IntKind.i64 ::
             LK.i IntKind.i64 ::
               LK.i IntKind.i64 ::
                 have y:List LK :=
                   LK.i IntKind.i64 ::
                     LK.i IntKind.i64 ::
                       LK.i IntKind.i64 ::
                         LK.i IntKind.i64 ::
                           have y:List LK :=
                             have y:List LK := [LK.i IntKind.i64,LK.i IntKind.i64,LK.i IntKind.i64,LK.i IntKind.i64,LK.i IntKind.i64];
                             LK.i IntKind.i64 :: LK.i IntKind.i64 :: LK.i IntKind.i64 :: LK.i IntKind.i64 :: y;
                           have y:List LK := LK.i IntKind.i64 :: LK.i IntKind.i64 :: LK.i IntKind.i64 :: LK.i IntKind.i64 :: y;
                           LK.b :: LK.i IntKind.i64 :: LK.i IntKind.i64 :: LK.i IntKind.i64 :: y;
                 LK.i IntKind.i64 :: LK.i IntKind.i64 :: LK.i IntKind.i64 :: LK.i IntKind.i64 :: y)) x12] = some (chlay_S1 x7 x8 x9 x10 x11 x12) := by kernel_rfl
   rw [e] at hS
   cases hS
   exact ⟨_,(chlay_l0_iter x7 x8 x9 Q _ x10 x11 x12).trans hE⟩
noncomputable def chlay_l0_lps {α:Type}:LookL α := addLp 65 [false,true,false,true,true] 1 (lEnt (chlay_S3) chlay_l0_go) noLps
theorem chlay_l0_lps_ok {α:Type}:LoopsOk E.P (chlay_l0_lps (α := α)) := addLp_ok chlay_l0_ok (noLps_ok _)
noncomputable def M.chlay {α:Type} (bad:Bool) (l:List L15) (k0:Bool → List (Int × Int × Int × Int × Int × Int × Int × Int × Int × Int × Int × Int × Int × Int × Int × Int × Int × Bool × Int × Int × Int × Int × Int × Int × Int × Int × Int × Int × Int × Int × Int × Int × Int × Int) → Option α):Option α := M.chlay_l0 l (↑(List.length l):Int) (fun (x87:Bool) (x88:List (Int × Int × Int × Int × Int × Int × Int × Int × Int × Int × Int × Int × Int × Int × Int × Int × Int × Bool × Int × Int × Int × Int × Int × Int × Int × Int × Int × Int × Int × Int × Int × Int × Int × Int)) ↦ k0 x87 x88) ((100:Nat) + List.length l + (0:Nat)) (0:Int) bad []
theorem chlay_eq {α:Type} (bad:Bool) (l:List L15) (v86:Value) (Q:SV → Hp → Option α):callI E look_chright (exec E look_chright chlay_l0_lps 400) 65 ([SV.ptr (nat_lit 0) (nat_lit 0),SV.ros v86 (K.st (LK.i IntKind.i64) [LK.i IntKind.i64,LK.i IntKind.i64,LK.i IntKind.i64,LK.i IntKind.i64,LK.i IntKind.i64,LK.i IntKind.i64,LK.i IntKind.i64,LK.i IntKind.i64,LK.i IntKind.i64,LK.b,LK.i IntKind.i64,LK.i IntKind.i64,LK.i IntKind.i64,LK.i IntKind.i64]) l]) ([.cells [SV.bool bad] (nat_lit 28)]) Q = M.chlay bad l (fun (x89:Bool) (x90:List (Int × Int × Int × Int × Int × Int × Int × Int × Int × Int × Int × Int × Int × Int × Int × Int × Int × Bool × Int × Int × Int × Int × Int × Int × Int × Int × Int × Int × Int × Int × Int × Int × Int × Int)) => Q (SV.ptr (nat_lit 1) (nat_lit 0)) ([.cells [SV.bool x89] (nat_lit 28),.cells [SV.ptr (nat_lit 0) (nat_lit 0),SV.sl (nat_lit 2)] (nat_lit 69),
 SObj.seq
   (K.st (LK.i IntKind.i64)
     (LK.i IntKind.i64 ::
       LK.i IntKind.i64 ::
         LK.i IntKind.i64 ::
           LK.i IntKind.i64 ::
             LK.i IntKind.i64 ::
               LK.i IntKind.i64 ::
                 LK.i IntKind.i64 ::
                   LK.i IntKind.i64 ::
                     have y:List LK :=
                       LK.i IntKind.i64 ::
                         LK.i IntKind.i64 ::
                           LK.i IntKind.i64 ::
                             LK.i IntKind.i64 ::
                               have y:List LK :=
                                 have y:List LK := [LK.i IntKind.i64,LK.i IntKind.i64,LK.i IntKind.i64,LK.i IntKind.i64,LK.i IntKind.i64];
                                 LK.i IntKind.i64 :: LK.i IntKind.i64 :: LK.i IntKind.i64 :: LK.i IntKind.i64 :: y;
                               have y:List LK := LK.i IntKind.i64 :: LK.i IntKind.i64 :: LK.i IntKind.i64 :: LK.i IntKind.i64 :: y;
                               LK.b :: LK.i IntKind.i64 :: LK.i IntKind.i64 :: LK.i IntKind.i64 :: y;
                     LK.i IntKind.i64 :: LK.i IntKind.i64 :: LK.i IntKind.i64 :: LK.i IntKind.i64 :: y))
   x90 (nat_lit 71)])) := by kernel_rfl
def chlay_sp:List AS := [.ptr 28 [.bool false],.ro (.st (.i .i64) [.i .i64,.i .i64,.i .i64,.i .i64,.i .i64,.i .i64,.i .i64,.i .i64,.i .i64,.b,.i .i64,.i .i64,.i .i64,.i .i64])]
abbrev L34 := Int × Int × Int × Int × Int × Int × Int × Int × Int × Int × Int × Int × Int × Int × Int × Int × Int × Bool × Int × Int × Int × Int × Int × Int × Int × Int × Int × Int × Int × Int × Int × Int × Int × Int
def bnT (x:L15) (r:Pl):L34 := (r.1.1,r.1.2.1,r.1.2.2,r.2.1.1,r.2.1.2.1,r.2.1.2.2.1,r.2.1.2.2.2,x.1,x.2.1,x.2.2.1,x.2.2.2.1,x.2.2.2.2.1,x.2.2.2.2.2.1,x.2.2.2.2.2.2.1,x.2.2.2.2.2.2.2.1,x.2.2.2.2.2.2.2.2.1,x.2.2.2.2.2.2.2.2.2.1,x.2.2.2.2.2.2.2.2.2.2.1,x.2.2.2.2.2.2.2.2.2.2.2.1,x.2.2.2.2.2.2.2.2.2.2.2.2.1,x.2.2.2.2.2.2.2.2.2.2.2.2.2.1,x.2.2.2.2.2.2.2.2.2.2.2.2.2.2,r.2.2.1.1,r.2.2.1.2.1,r.2.2.1.2.2,r.2.2.2.1,r.2.2.2.2.1,r.2.2.2.2.2,0,0,0,0,0,0)
def bn0:L34 := (0,0,0,0,0,0,0,0,0,0,0,0,0,0,0,0,0,false,0,0,0,0,0,0,0,0,0,0,0,0,0,0,0,0)
noncomputable def _root_.Go.Proofs.YtajomehkgaamoaaGreat.V.lay (l:List (Int × Int × Int × Int × Int × Int × Int × Int × Int × Int × Bool × Int × Int × Int × Int)):List (Int × Int × Int × Int × Int × Int × Int × Int × Int × Int × Int × Int × Int × Int × Int × Int × Int × Bool × Int × Int × Int × Int × Int × Int × Int × Int × Int × Int × Int × Int × Int × Int × Int × Int) := hid (List.zipWith bnT l ((layL l []).getD []))
theorem q3_some (t:V.T3):V.q3 (some t) = t := rfl
theorem q4_some (t:V.T4):V.q4 (some t) = t := rfl
theorem q9_some (t:V.T9):V.q9 (some t) = t := rfl
theorem zip_get (l:List L15) (P:List Pl) (i:Nat) (hl:i < l.length) (hP:i < P.length):(List.zipWith bnT l P).getD i bn0 = bnT (lnk l i) (P.getD i pl0) := by
 simp [List.getD_eq_getElem?_getD,List.getElem?_zipWith,lnk,hl,hP]
theorem zip_snoc (l:List L15) (P:List Pl) (i:Nat) (hi:i < l.length) (hP:P.length = i) (r:Pl):List.zipWith bnT (l.take i) P ++ [bnT (lnk l i) r] = List.zipWith bnT (l.take (i + 1)) (P ++ [r]) := by
 rw [List.take_add_one]
 have e:l[i]?.toList = [lnk l i] := by simp [lnk,List.getD_eq_getElem?_getD,hi]
 rw [e,List.zipWith_append (by rw [List.length_take,hP]; omega)]
 rfl
theorem chlay_l0_val {α:Type} (l:List L15) (ht:Tree l) (hl:l.length ≤ 1000) (bad:Bool) (k1:Bool → List L34 → Option α) (R:List Pl):∀ (fuel i:Nat) (P:List Pl),i ≤ l.length → l.length - i < fuel → P.length = i → layL (l.drop i) P = some R →
   M.chlay_l0 l (l.length:Int) k1 fuel (i:Int) bad (List.zipWith bnT (l.take i) P) = k1 bad (List.zipWith bnT l R)
 | 0,i,P,h1,h2,h3,h4 => by omega
 | f + 1,i,P,h1,h2,h3,h4 => by
   have hzl:(List.zipWith bnT (l.take i) P).length = i := by rw [List.length_zipWith,List.length_take,h3]; omega
   by_cases hi:i < l.length
   · rw [drop_lnk l i hi] at h4
     have hx:l[i]? = some (lnk l i) := by simp [lnk,List.getD_eq_getElem?_getD,hi]
     have hp := ht i _ hx
     have hsnoc := zip_snoc l P i hi h3
     have hget:∀ q:Nat,q < i → (List.zipWith bnT (l.take i) P).getD q bn0 = bnT (lnk l q) (P.getD q pl0) := by
       intro q hq
       rw [zip_get _ _ _ (by rw [List.length_take]; omega) (by omega)]
       congr 1
       simp [lnk,List.getD_eq_getElem?_getD,List.getElem?_take,hq]
     unfold layL at h4
     rw [Option.bind_eq_some_iff] at h4
     obtain ⟨r,hr,h5⟩ := h4
     have ih := chlay_l0_val l ht hl bad k1 R f (i + 1) (P ++ [r]) (by omega) (by omega) (by rw [List.length_append,List.length_singleton,h3]) h5
     rw [← hsnoc r] at ih
     have hsz:(i + (0 + 1)) * 272 ≤ 140737488355328 := by omega
     unfold M.chlay_l0 M.chlay_l0_step
     simp only
     rw [cLt_nat,if_pos (by simpa using hi),if_pos (by omega),w_next (by omega),hzl,show List.getD l (Int.toNat (i:Int)) (0,0,0,0,0,0,0,0,0,0,false,0,0,0,0) = lnk l i from rfl]
     generalize List.zipWith bnT (l.take i) P = Z at *
     generalize lnk l i = x at *
     have fin:∀ (y:L34) (b:Bool),y = bnT x r → b = bad → M.chlay_l0 l (l.length:Int) k1 f ((i + 1:Nat):Int) b (Z ++ [y]) = k1 bad (List.zipWith bnT l R) := by
       intro y b hy hb
       rw [hy,hb]; exact ih
     by_cases h0:x.1 < 0
     · have e1 : parP P x.1 = (0, 0, 0) := if_pos h0
       have e2:parQ P x.1 = (4294967296,0,0,0) := if_pos h0
       rw [e1,e2] at hr
       unfold layO at hr
       simp only [Option.bind_eq_some_iff] at hr
       obtain ⟨m,hm,u,hu,a0,ha0,ax,hax,aq,haq,m2,hm2,t,hmt,md,hmd,hre⟩ := hr
       have hu':V.tTurn m (x.2.2.2.2.1,x.2.2.2.2.2.1,x.2.2.2.2.2.2.1) = some u := hu
       have hax':V.tTurn m (x.2.1,x.2.2.1,x.2.2.2.1) = some ax := hax
       rw [if_pos (by rw [cLt_eq]; exact decide_eq_true h0)]
       by_cases hs:x.2.2.2.2.2.2.2.2.2.2.1 = true
       · have hs' : lSl x = true := hs
         rw [if_pos hs'] at haq
         simp only [Option.bind_eq_some_iff,Option.some.injEq] at haq
         obtain ⟨s,hsc,a,ha,rfl⟩ := haq
         have hsc':V.tScale ax x.2.2.2.2.2.2.2.2.2.2.2.1 = some s := hsc
         simp only at hm2 hmd hre
         rw [hm] at hm2
         cases hm2
         have hmt':V.tTurn m (x.2.2.2.2.2.2.2.1,x.2.2.2.2.2.2.2.2.1,x.2.2.2.2.2.2.2.2.2.1) = some t := hmt
         cases hre
         rw [if_pos hs,if_pos hsz]
         refine fin _ _ ?_ ?_
         · simp only [hm,q9_some,hu',q3_some,ha0,hax',hsc',ha,hmt',hmd,V.x3,V.y3,V.z3,bnT]
         · simp only [hm,q9_some,hu',q3_some,ha0,hax',hsc',ha,hmt',hmd,on_some]
       · have hs' : ¬ lSl x = true := hs
         rw [if_neg hs'] at haq
         simp only [Option.bind_eq_some_iff,Option.some.injEq] at haq
         obtain ⟨v,hv,w,hw,q,hq,rfl⟩ := haq
         have hv':V.tScale (x.2.1,x.2.2.1,x.2.2.2.1) x.2.2.2.2.2.2.2.2.2.2.2.1 = some v := hv
         simp only at hm2 hmd hre
         have hmt':V.tTurn m2 (x.2.2.2.2.2.2.2.1,x.2.2.2.2.2.2.2.2.1,x.2.2.2.2.2.2.2.2.2.1) = some t := hmt
         cases hre
         rw [if_neg hs,if_pos hsz]
         refine fin _ _ ?_ ?_
         · simp only [hm,q9_some,hu',q3_some,q4_some,ha0,hax',hv',hw,hq,hm2,hmt',hmd,V.x3,V.y3,V.z3,V.w4,V.x4,V.y4,V.z4,bnT]
         · simp only [hm,q9_some,hu',q3_some,q4_some,ha0,hax',hv',hw,hq,hm2,hmt',hmd,on_some]
     · have hq0 : x.1.toNat < i := by omega
       have hg := hget _ hq0
       have e1:parP P x.1 = (P.getD x.1.toNat pl0).1 := if_neg h0
       have e2:parQ P x.1 = (P.getD x.1.toNat pl0).2.1 := if_neg h0
       rw [e1,e2] at hr
       rw [if_neg (by rw [cLt_eq]; simpa using h0),if_pos (show (0:Int) ≤ x.1 ∧ x.1 < (i:Int) by omega),show List.getD Z (Int.toNat x.1) (0,0,0,0,0,0,0,0,0,0,0,0,0,0,0,0,0,false,0,0,0,0,0,0,0,0,0,0,0,0,0,0,0,0) = bnT (lnk l x.1.toNat) (P.getD x.1.toNat pl0) from hg]
       generalize P.getD x.1.toNat pl0 = p at *
       unfold layO at hr
       simp only [Option.bind_eq_some_iff] at hr
       obtain ⟨m,hm,u,hu,a0,ha0,ax,hax,aq,haq,m2,hm2,t,hmt,md,hmd,hre⟩ := hr
       have hm':V.tRows (p.2.1.1,p.2.1.2.1,p.2.1.2.2.1,p.2.1.2.2.2) = some m := hm
       have hu':V.tTurn m (x.2.2.2.2.1,x.2.2.2.2.2.1,x.2.2.2.2.2.2.1) = some u := hu
       have ha0':V.tAdd (p.1.1,p.1.2.1,p.1.2.2) u = some a0 := ha0
       have hax':V.tTurn m (x.2.1,x.2.2.1,x.2.2.2.1) = some ax := hax
       by_cases hs:x.2.2.2.2.2.2.2.2.2.2.1 = true
       · have hs' : lSl x = true := hs
         rw [if_pos hs'] at haq
         simp only [Option.bind_eq_some_iff,Option.some.injEq] at haq
         obtain ⟨s,hsc,a,ha,rfl⟩ := haq
         have hsc':V.tScale ax x.2.2.2.2.2.2.2.2.2.2.2.1 = some s := hsc
         simp only at hm2 hmd hre
         rw [hm] at hm2
         cases hm2
         have hmt':V.tTurn m (x.2.2.2.2.2.2.2.1,x.2.2.2.2.2.2.2.2.1,x.2.2.2.2.2.2.2.2.2.1) = some t := hmt
         cases hre
         rw [if_pos hs,if_pos hsz]
         refine fin _ _ ?_ ?_
         · simp only [bnT,hm',q9_some,hu',q3_some,ha0',hax',hsc',ha,hmt',hmd,V.x3,V.y3,V.z3]
         · simp only [bnT,hm',q9_some,hu',q3_some,ha0',hax',hsc',ha,hmt',hmd,on_some]
       · have hs' : ¬ lSl x = true := hs
         rw [if_neg hs'] at haq
         simp only [Option.bind_eq_some_iff,Option.some.injEq] at haq
         obtain ⟨v,hv,w,hw,q,hq,rfl⟩ := haq
         have hv':V.tScale (x.2.1,x.2.2.1,x.2.2.2.1) x.2.2.2.2.2.2.2.2.2.2.2.1 = some v := hv
         have hq':V.tTimes (p.2.1.1,p.2.1.2.1,p.2.1.2.2.1,p.2.1.2.2.2) w = some q := hq
         simp only at hm2 hmd hre
         have hmt':V.tTurn m2 (x.2.2.2.2.2.2.2.1,x.2.2.2.2.2.2.2.2.1,x.2.2.2.2.2.2.2.2.2.1) = some t := hmt
         cases hre
         rw [if_neg hs,if_pos hsz]
         refine fin _ _ ?_ ?_
         · simp only [bnT,hm',q9_some,hu',q3_some,q4_some,ha0',hax',hv',hw,hq',hm2,hmt',hmd,V.x3,V.y3,V.z3,V.w4,V.x4,V.y4,V.z4]
         · simp only [bnT,hm',q9_some,hu',q3_some,q4_some,ha0',hax',hv',hw,hq',hm2,hmt',hmd,on_some]
   · have : i = l.length := by omega
     subst this
     rw [List.drop_length] at h4
     simp only [layL,Option.some.injEq] at h4
     subst h4
     unfold M.chlay_l0 M.chlay_l0_step
     simp only
     rw [cLt_nat,if_neg (by simp),List.take_length]
theorem chlay_v {α:Type} (bad:Bool) (l:List L15) (hg:V.chC l = 0) (k0:Bool → List L34 → Option α):M.chlay bad l k0 = k0 bad (V.lay l) := by
 obtain ⟨P,hP⟩ := chC_lay hg
 obtain ⟨h1,h2⟩ := (chC_iff l).1 hg
 unfold M.chlay V.lay
 rw [hid_eq,hP]
 have := chlay_l0_val l (fun i x hx => (h2 i x hx).par) (by omega) bad (fun (b:Bool) (z:List L34) => k0 b z) P (100 + l.length + 0) 0 [] (by omega) (by omega) rfl hP
 exact this
abbrev kBn:K := .st (.i .i64) (List.cons (LK.i .i64) (List.cons (LK.i .i64) (List.cons (LK.i .i64) (List.cons (LK.i .i64) (List.cons (LK.i .i64) (List.cons (LK.i .i64) (List.cons (LK.i .i64) (List.cons (LK.i .i64) (List.cons (LK.i .i64) (List.cons (LK.i .i64) (List.cons (LK.i .i64) (List.cons (LK.i .i64) (List.cons (LK.i .i64) (List.cons (LK.i .i64) (List.cons (LK.i .i64) (List.cons (LK.i .i64) (List.cons LK.b (List.cons (LK.i .i64) (List.cons (LK.i .i64) (List.cons (LK.i .i64) (List.cons (LK.i .i64) (List.cons (LK.i .i64) (List.cons (LK.i .i64) (List.cons (LK.i .i64) (List.cons (LK.i .i64) (List.cons (LK.i .i64) (List.cons (LK.i .i64) (List.cons (LK.i .i64) (List.cons (LK.i .i64) (List.cons (LK.i .i64) (List.cons (LK.i .i64) (List.cons (LK.i .i64) (List.cons (LK.i .i64) List.nil)))))))))))))))))))))))))))))))))
noncomputable def chlay_h {α:Type} (ds:List D) (Q:SV → Hp → Option α):Option α :=
 dB ds fun bad ds => dL (K.st (LK.i IntKind.i64) [LK.i IntKind.i64,LK.i IntKind.i64,LK.i IntKind.i64,LK.i IntKind.i64,LK.i IntKind.i64,LK.i IntKind.i64,LK.i IntKind.i64,LK.i IntKind.i64,LK.i IntKind.i64,LK.b,LK.i IntKind.i64,LK.i IntKind.i64,LK.i IntKind.i64,LK.i IntKind.i64]) ds fun l ds => dE ds (if V.chC l = 0 then Q (.ptr 1 0) ([.cells [.bool bad] 28,.cells [.ptr 0 0,.sl 2] 69,.seq kBn (V.lay l) 71]) else none)
theorem chlay_h_ok {α:Type}:FnOk E.P 65 (fEnt (α := α) chlay_sp chlay_h) :=
 fEntR_ok E (look_chright_ok) (exec_sound E E_ok (look_chright_ok) (chlay_l0_lps_ok) 400) fun ds Q r h => by
   unfold chlay_h at h
   obtain ⟨bad,ds,rfl,h1⟩ := dB_inv h
   obtain ⟨l,ds,rfl,h2⟩ := dL_inv h1
   obtain ⟨rfl,hE⟩ := dE_inv h2
   split at hE
   · rename_i hg
     exact ⟨_,_,hE,fun vs => ⟨_,_,by kernel_rfl,(chlay_eq bad l (vs.tail.headD undef) _).trans (chlay_v bad l hg _)⟩⟩
   · cases hE
noncomputable def look_chlay {α:Type}:LookF α := addFn 65 (fEnt chlay_sp chlay_h) look_chright
theorem look_chlay_ok {α:Type}:LookOk E.P (look_chlay (α := α)) := addFn_ok chlay_h_ok (look_chright_ok)
end
section
open Go
def awX:L15 := (-1,0,0,4294967296,4294967296,0,0,0,0,0,false,0,0,0,4294967296)
def awY (p:Int):L15 := (p,0,0,4294967296,4294967296,0,0,0,0,0,false,0,0,0,4294967296)
theorem whole_one:V.tWhole (4294967296,0,0,0) = some (4294967296,0,0,0) := by
 refine tWhole_some.2 ⟨4294967296,?_,by omega,by decide +kernel,by decide +kernel,by decide +kernel,by decide +kernel⟩
 refine mNorm4_some.2 ⟨by decide,by decide,by decide,by decide,?_,by decide⟩
 exact (isq_of (by omega) (by simp only []; omega) (by simp only []; omega)).symm
theorem rows_one:V.tRows (4294967296,0,0,0) = some ((4294967296,0,0),(0,4294967296,0),(0,0,4294967296)) := by decide +kernel
theorem turn_one {v:V.T3} (h:Gd v.1 ∧ Gd v.2.1 ∧ Gd v.2.2):V.tTurn ((4294967296,0,0),(0,4294967296,0),(0,0,4294967296)) v = some v := by
 obtain ⟨h1,h2,h3⟩ := h
 have z:Gd 0 := by decide
 have o:Gd 4294967296 := by decide
 refine tTurn_some.2 ⟨mDot3_some.2 ⟨o,z,z,h1,h2,h3,h1,?_⟩,mDot3_some.2 ⟨z,o,z,h1,h2,h3,h2,?_⟩,mDot3_some.2 ⟨z,z,o,h1,h2,h3,h3,?_⟩⟩ <;> simp only [] <;> omega
theorem times_one:V.tTimes (4294967296,0,0,0) (4294967296,0,0,0) = some (4294967296,0,0,0) := by decide +kernel
theorem aw_lay (pp:V.T3) (p:Int) (a:Int) (hp:pp = (a,0,0)) (ha:a = 0 ∨ a = 4294967296):layO pp (4294967296,0,0,0) (awY p) = some ((a + 4294967296,0,0),(4294967296,0,0,0),(0,0,4294967296),(a + 4294967296,0,0)) := by
 subst hp
 have e1:V.tTurn ((4294967296,0,0),(0,4294967296,0),(0,0,4294967296)) (lAt (awY p)) = some (4294967296,0,0) := turn_one (v := (4294967296,0,0)) (by decide)
 have e2:V.tTurn ((4294967296,0,0),(0,4294967296,0),(0,0,4294967296)) (lAx (awY p)) = some (0,0,4294967296) := turn_one (v := (0,0,4294967296)) (by decide)
 have e3:V.tTurn ((4294967296,0,0),(0,4294967296,0),(0,0,4294967296)) (lMid (awY p)) = some (0,0,0) := turn_one (v := (0,0,0)) (by decide)
 have e4:V.tScale (lAx (awY p)) (lAng (awY p)) = some (0,0,0) := by
   show V.tScale (0,0,4294967296) 0 = _
   decide +kernel
 have e5:V.tAdd (a,0,0) (4294967296,0,0) = some (a + 4294967296,0,0) := by rcases ha with rfl | rfl <;> decide +kernel
 have e6:V.tAdd (a + 4294967296,0,0) (0,0,0) = some (a + 4294967296,0,0) := by rcases ha with rfl | rfl <;> decide +kernel
 have hs:¬ lSl (awY p) = true := by show ¬ false = true; decide
 unfold layO
 rw [rows_one,Option.bind_some,e1,Option.bind_some,e5,Option.bind_some,e2,Option.bind_some,if_neg hs,e4,Option.bind_some,whole_one,Option.bind_some,times_one,Option.bind_some,Option.bind_some]
 simp only
 rw [rows_one,Option.bind_some,e3,Option.bind_some,e6,Option.bind_some]
theorem aw_lkc {i:Nat} {p:Int} (h:-1 ≤ p ∧ p < (i:Int)):LkC i (awY p) := by
 refine ⟨h,⟨_,len_z,by omega,by omega⟩,?_,?_,?_,?_,?_,?_⟩
 · show 16777216 ≤ (4294967296:Int) ∧ (4294967296:Int) ≤ 1099511627776; omega
 · show Inn 0 (if false = true then 68719476736 else 17179869184); rw [if_neg (by decide)]; unfold Inn; omega
 · exact ⟨by show Inn 4294967296 _; unfold Inn; omega,by show Inn 0 _; unfold Inn; omega,by show Inn 0 _; unfold Inn; omega⟩
 · exact ⟨by show Inn 0 _; unfold Inn; omega,by show Inn 0 _; unfold Inn; omega,by show Inn 0 _; unfold Inn; omega⟩
 · show Inn 0 _; unfold Inn; omega
 · show Inn 0 _; unfold Inn; omega
theorem aw_ok:V.chC [awX,awY 0] = 0 := by
 refine (chC_iff _).2 ⟨by decide,fun i x hx => ?_⟩
 match i,hx with
 | 0,hx => simp at hx; subst hx; exact aw_lkc (p := -1) (by omega)
 | 1,hx => simp at hx; subst hx; exact aw_lkc (by omega)
 | i + 2,hx => simp at hx
theorem chC_ne {l:List L15} (h:V.chC l ≠ 0):V.chC l = 160 := by
 unfold V.chC at *
 rw [hid_eq] at *
 split at h
 · rename_i hc; rw [if_pos hc]
 · exact absurd rfl h
theorem aw_bad:V.chC [awX,awY 1] = 160 := by
 refine chC_ne fun h => ?_
 have := ((chC_iff _).1 h).2 1 (awY 1) rfl
 have h1 := this.par.2
 exact absurd h1 (by show ¬ (1:Int) < ((1:Nat):Int); omega)
theorem aw_layL:layL [awX,awY 0] [] = some [((4294967296,0,0),(4294967296,0,0,0),(0,0,4294967296),(4294967296,0,0)),((8589934592,0,0),(4294967296,0,0,0),(0,0,4294967296),(8589934592,0,0))] := by
 have h1 := aw_lay (0,0,0) (-1) 0 rfl (.inl rfl)
 have h2 := aw_lay (4294967296,0,0) 0 4294967296 rfl (.inr rfl)
 unfold layL
 have e1:parP [] awX.1 = (0,0,0) := rfl
 have e2:parQ [] awX.1 = (4294967296,0,0,0) := rfl
 rw [e1,e2,show layO (0,0,0) (4294967296,0,0,0) awX = _ from h1,Option.bind_some]
 unfold layL
 have e3:parP ([] ++ [(((0:Int) + 4294967296,(0:Int),(0:Int)),((4294967296:Int),(0:Int),(0:Int),(0:Int)),((0:Int),(0:Int),(4294967296:Int)),((0:Int) + 4294967296,(0:Int),(0:Int)))]) (awY 0).1 = (4294967296,0,0) := rfl
 have e4:parQ ([] ++ [(((0:Int) + 4294967296,(0:Int),(0:Int)),((4294967296:Int),(0:Int),(0:Int),(0:Int)),((0:Int),(0:Int),(4294967296:Int)),((0:Int) + 4294967296,(0:Int),(0:Int)))]) (awY 0).1 = (4294967296,0,0,0) := rfl
 rw [e3,e4,h2,Option.bind_some]
 rfl
end
section
open Go
set_option maxRecDepth 20000
noncomputable abbrev chplaces_S1 (y1 y2:Int) (y3:Bool) (y4 y5 y6:List (Int × Int × Int × Int × Int × Int × Int)) (y7:Bool) (y8:List L34) (y9:List (Int × Int × Int × Int × Int × Int × Int)):St := St.mk (nn 3 (some (SV.sl (nat_lit 7)) :: nn 5 (some (SV.sl (nat_lit 6)) :: some (SV.int .i64 y1) :: some (SV.int .i64 y2) :: nn 10 ([])))) [.cells [SV.bool y3] (nat_lit 28),.seq (K.st (LK.i IntKind.i64) [LK.i IntKind.i64,LK.i IntKind.i64,LK.i IntKind.i64,LK.i IntKind.i64,LK.i IntKind.i64,LK.i IntKind.i64]) y4 (nat_lit 59),.seq (K.st (LK.i IntKind.i64) [LK.i IntKind.i64,LK.i IntKind.i64,LK.i IntKind.i64,LK.i IntKind.i64,LK.i IntKind.i64,LK.i IntKind.i64]) y5 (nat_lit 59),.seq (K.st (LK.i IntKind.i64) [LK.i IntKind.i64,LK.i IntKind.i64,LK.i IntKind.i64,LK.i IntKind.i64,LK.i IntKind.i64,LK.i IntKind.i64]) y6 (nat_lit 59),.cells [SV.bool y7] (nat_lit 28),.cells [SV.ptr (nat_lit 4) (nat_lit 0),SV.sl (nat_lit 6)] (nat_lit 69),SObj.seq (K.st (LK.i IntKind.i64) (LK.i IntKind.i64 :: LK.i IntKind.i64 :: LK.i IntKind.i64 :: LK.i IntKind.i64 :: LK.i IntKind.i64 :: LK.i IntKind.i64 :: LK.i IntKind.i64 :: LK.i IntKind.i64 :: LK.i IntKind.i64 :: LK.i IntKind.i64 :: LK.i IntKind.i64 :: LK.i IntKind.i64 :: LK.i IntKind.i64 :: LK.i IntKind.i64 :: LK.i IntKind.i64 :: LK.i IntKind.i64 :: LK.b :: LK.i IntKind.i64 :: LK.i IntKind.i64 :: LK.i IntKind.i64 :: LK.i IntKind.i64 :: LK.i IntKind.i64 :: LK.i IntKind.i64 :: LK.i IntKind.i64 :: LK.i IntKind.i64 :: LK.i IntKind.i64 :: LK.i IntKind.i64 :: LK.i IntKind.i64 :: LK.i IntKind.i64 :: LK.i IntKind.i64 :: LK.i IntKind.i64 :: LK.i IntKind.i64 :: LK.i IntKind.i64 :: List.nil)) y8 (nat_lit 71),.seq (K.st (LK.i IntKind.i64) [LK.i IntKind.i64,LK.i IntKind.i64,LK.i IntKind.i64,LK.i IntKind.i64,LK.i IntKind.i64,LK.i IntKind.i64]) y9 (nat_lit 59)]
noncomputable abbrev chplaces_S2 (y1:Bool) (y2 y3 y4:List (Int × Int × Int × Int × Int × Int × Int)) (y5:Bool) (y6:List L34) (y7:List (Int × Int × Int × Int × Int × Int × Int)):St := St.mk (nn 3 (some (SV.sl (nat_lit 7)) :: nn 18 ([]))) [.cells [SV.bool y1] (nat_lit 28),.seq (K.st (LK.i IntKind.i64) [LK.i IntKind.i64,LK.i IntKind.i64,LK.i IntKind.i64,LK.i IntKind.i64,LK.i IntKind.i64,LK.i IntKind.i64]) y2 (nat_lit 59),.seq (K.st (LK.i IntKind.i64) [LK.i IntKind.i64,LK.i IntKind.i64,LK.i IntKind.i64,LK.i IntKind.i64,LK.i IntKind.i64,LK.i IntKind.i64]) y3 (nat_lit 59),.seq (K.st (LK.i IntKind.i64) [LK.i IntKind.i64,LK.i IntKind.i64,LK.i IntKind.i64,LK.i IntKind.i64,LK.i IntKind.i64,LK.i IntKind.i64]) y4 (nat_lit 59),.cells [SV.bool y5] (nat_lit 28),.cells [SV.ptr (nat_lit 4) (nat_lit 0),SV.sl (nat_lit 6)] (nat_lit 69),SObj.seq (K.st (LK.i IntKind.i64) (LK.i IntKind.i64 :: LK.i IntKind.i64 :: LK.i IntKind.i64 :: LK.i IntKind.i64 :: LK.i IntKind.i64 :: LK.i IntKind.i64 :: LK.i IntKind.i64 :: LK.i IntKind.i64 :: LK.i IntKind.i64 :: LK.i IntKind.i64 :: LK.i IntKind.i64 :: LK.i IntKind.i64 :: LK.i IntKind.i64 :: LK.i IntKind.i64 :: LK.i IntKind.i64 :: LK.i IntKind.i64 :: LK.b :: LK.i IntKind.i64 :: LK.i IntKind.i64 :: LK.i IntKind.i64 :: LK.i IntKind.i64 :: LK.i IntKind.i64 :: LK.i IntKind.i64 :: LK.i IntKind.i64 :: LK.i IntKind.i64 :: LK.i IntKind.i64 :: LK.i IntKind.i64 :: LK.i IntKind.i64 :: LK.i IntKind.i64 :: LK.i IntKind.i64 :: LK.i IntKind.i64 :: LK.i IntKind.i64 :: LK.i IntKind.i64 :: List.nil)) y6 (nat_lit 71),.seq (K.st (LK.i IntKind.i64) [LK.i IntKind.i64,LK.i IntKind.i64,LK.i IntKind.i64,LK.i IntKind.i64,LK.i IntKind.i64,LK.i IntKind.i64]) y7 (nat_lit 59)]
noncomputable abbrev chplaces_S3:St := St.mk (nn 3 (some (SV.sl (nat_lit 7)) :: nn 5 (some (SV.sl (nat_lit 6)) :: some (SV.int .i64 (0:Int)) :: some (SV.int .i64 (0:Int)) :: nn 10 ([])))) [.cells [SV.bool false] (nat_lit 28),.seq (K.st (LK.i IntKind.i64) [LK.i IntKind.i64,LK.i IntKind.i64,LK.i IntKind.i64,LK.i IntKind.i64,LK.i IntKind.i64,LK.i IntKind.i64]) [] (nat_lit 59),.seq (K.st (LK.i IntKind.i64) [LK.i IntKind.i64,LK.i IntKind.i64,LK.i IntKind.i64,LK.i IntKind.i64,LK.i IntKind.i64,LK.i IntKind.i64]) [] (nat_lit 59),.seq (K.st (LK.i IntKind.i64) [LK.i IntKind.i64,LK.i IntKind.i64,LK.i IntKind.i64,LK.i IntKind.i64,LK.i IntKind.i64,LK.i IntKind.i64]) [] (nat_lit 59),.cells [SV.bool false] (nat_lit 28),.cells [SV.ptr (nat_lit 4) (nat_lit 0),SV.sl (nat_lit 6)] (nat_lit 69),SObj.seq (K.st (LK.i IntKind.i64) (LK.i IntKind.i64 :: LK.i IntKind.i64 :: LK.i IntKind.i64 :: LK.i IntKind.i64 :: LK.i IntKind.i64 :: LK.i IntKind.i64 :: LK.i IntKind.i64 :: LK.i IntKind.i64 :: LK.i IntKind.i64 :: LK.i IntKind.i64 :: LK.i IntKind.i64 :: LK.i IntKind.i64 :: LK.i IntKind.i64 :: LK.i IntKind.i64 :: LK.i IntKind.i64 :: LK.i IntKind.i64 :: LK.b :: LK.i IntKind.i64 :: LK.i IntKind.i64 :: LK.i IntKind.i64 :: LK.i IntKind.i64 :: LK.i IntKind.i64 :: LK.i IntKind.i64 :: LK.i IntKind.i64 :: LK.i IntKind.i64 :: LK.i IntKind.i64 :: LK.i IntKind.i64 :: LK.i IntKind.i64 :: LK.i IntKind.i64 :: LK.i IntKind.i64 :: LK.i IntKind.i64 :: LK.i IntKind.i64 :: LK.i IntKind.i64 :: List.nil)) [] (nat_lit 71),.seq (K.st (LK.i IntKind.i64) [LK.i IntKind.i64,LK.i IntKind.i64,LK.i IntKind.i64,LK.i IntKind.i64,LK.i IntKind.i64,LK.i IntKind.i64]) [] (nat_lit 59)]
noncomputable def M.chplaces_l0_step {α:Type} (x10:Int) (x17:List L34) (kn:Int → List (Int × Int × Int × Int × Int × Int × Int) → Option α) (k1:List (Int × Int × Int × Int × Int × Int × Int) → Option α) (x11:Int) (x18:List (Int × Int × Int × Int × Int × Int × Int)):Option α := let s19 := List.getD x17 (Int.toNat x11) ((0:Int),(0:Int),(0:Int),(0:Int),(0:Int),(0:Int),(0:Int),(0:Int),(0:Int),(0:Int),(0:Int),(0:Int),(0:Int),(0:Int),(0:Int),(0:Int),(0:Int),false,(0:Int),(0:Int),(0:Int),(0:Int),(0:Int),(0:Int),(0:Int),(0:Int),(0:Int),(0:Int),(0:Int),(0:Int),(0:Int),(0:Int),(0:Int),(0:Int)); let s20 := Prod.snd s19; let s21 := Prod.snd s20; let s22 := Prod.snd s21; let s23 := Prod.snd s22; let s24 := Prod.snd s23; if cLt x11 x10 = true then if (0:Int) ≤ x11 ∧ x11 < (↑(List.length x17):Int) then if (List.length x18 + ((0:Nat) + (1:Nat))) * (56:Nat) ≤ (140737488355328:Nat) then kn (IntKind.wrap .i64 (x11 + (1:Int))) (x18 ++ [(Prod.fst s19,Prod.fst s20,Prod.fst s21,Prod.fst s22,Prod.fst s23,Prod.fst s24,Prod.fst (Prod.snd s24))]) else none else none else k1 x18
noncomputable def M.chplaces_l0 {α:Type} (x10:Int) (x17:List L34) (k1:List (Int × Int × Int × Int × Int × Int × Int) → Option α):Nat → Int → List (Int × Int × Int × Int × Int × Int × Int) → Option α
 | 0,_,_ => none
 | n + 1,x11,x18 => M.chplaces_l0_step x10 x17 (M.chplaces_l0 x10 x17 k1 n) k1 x11 x18
theorem chplaces_l0_step_eq {α:Type} (x10 x11:Int) (x12:Bool) (x13:List (Int × Int × Int × Int × Int × Int × Int)) (x14:List (Int × Int × Int × Int × Int × Int × Int)) (x15:List (Int × Int × Int × Int × Int × Int × Int)) (x16:Bool) (x17:List L34) (x18:List (Int × Int × Int × Int × Int × Int × Int)) (Q:Ex → St → Option α):(loopStep E (exec E look_chlay noLps 400) 29 [false,true,false,true,true] 7 (codeAt E.P 29 [false,true,false,true,true])) (chplaces_S1 x10 x11 x12 x13 x14 x15 x16 x17 x18) Q = M.chplaces_l0_step x10 x17 (fun (x26:Int) (x27:List (Int × Int × Int × Int × Int × Int × Int)) => Q .normal (chplaces_S1 x10 x26 x12 x13 x14 x15 x16 x17 x27)) (fun (x25:List (Int × Int × Int × Int × Int × Int × Int)) => Q (.exit 0) (chplaces_S2 x12 x13 x14 x15 x16 x17 x25)) x11 x18 := by kernel_rfl
theorem chplaces_l0_iter {α:Type} (x10:Int) (x12:Bool) (x13:List (Int × Int × Int × Int × Int × Int × Int)) (x14:List (Int × Int × Int × Int × Int × Int × Int)) (x15:List (Int × Int × Int × Int × Int × Int × Int)) (x16:Bool) (x17:List L34) (Q:Ex → St → Option α):∀ (n:Nat) (x11:Int) (x18:List (Int × Int × Int × Int × Int × Int × Int)),iter (loopStep E (exec E look_chlay noLps 400) 29 [false,true,false,true,true] 7 (codeAt E.P 29 [false,true,false,true,true])) n (chplaces_S1 x10 x11 x12 x13 x14 x15 x16 x17 x18) Q = M.chplaces_l0 x10 x17 (fun (x25:List (Int × Int × Int × Int × Int × Int × Int)) => Q (.exit 0) (chplaces_S2 x12 x13 x14 x15 x16 x17 x25)) n x11 x18
 | 0,_,_ => rfl
 | n + 1,x11,x18 => (chplaces_l0_step_eq x10 x11 x12 x13 x14 x15 x16 x17 x18 (iterK (loopStep E (exec E look_chlay noLps 400) 29 [false,true,false,true,true] 7 (codeAt E.P 29 [false,true,false,true,true])) n Q)).trans (congrArg (fun kn => M.chplaces_l0_step x10 x17 kn (fun (x25:List (Int × Int × Int × Int × Int × Int × Int)) => Q (.exit 0) (chplaces_S2 x12 x13 x14 x15 x16 x17 x25)) x11 x18) (funext fun x11 => funext fun x18 => chplaces_l0_iter x10 x12 x13 x14 x15 x16 x17 Q n x11 x18))
noncomputable def chplaces_l0_go {α:Type} (ds:List D) (Q:Ex → St → Option α):Option α :=
 dI ds fun x10 ds => dI ds fun x11 ds => dB ds fun x12 ds => dL (K.st (LK.i IntKind.i64) [LK.i IntKind.i64,LK.i IntKind.i64,LK.i IntKind.i64,LK.i IntKind.i64,LK.i IntKind.i64,LK.i IntKind.i64]) ds fun x13 ds => dL (K.st (LK.i IntKind.i64) [LK.i IntKind.i64,LK.i IntKind.i64,LK.i IntKind.i64,LK.i IntKind.i64,LK.i IntKind.i64,LK.i IntKind.i64]) ds fun x14 ds => dL (K.st (LK.i IntKind.i64) [LK.i IntKind.i64,LK.i IntKind.i64,LK.i IntKind.i64,LK.i IntKind.i64,LK.i IntKind.i64,LK.i IntKind.i64]) ds fun x15 ds => dB ds fun x16 ds => dL (K.st (LK.i IntKind.i64)
 (LK.i IntKind.i64 :: LK.i IntKind.i64 :: LK.i IntKind.i64 :: LK.i IntKind.i64 :: LK.i IntKind.i64 :: LK.i IntKind.i64 :: LK.i IntKind.i64 :: LK.i IntKind.i64 :: LK.i IntKind.i64 :: LK.i IntKind.i64 :: LK.i IntKind.i64 :: LK.i IntKind.i64 :: LK.i IntKind.i64 :: LK.i IntKind.i64 :: LK.i IntKind.i64 :: LK.i IntKind.i64 :: LK.b :: LK.i IntKind.i64 :: LK.i IntKind.i64 :: LK.i IntKind.i64 :: LK.i IntKind.i64 :: LK.i IntKind.i64 :: LK.i IntKind.i64 :: LK.i IntKind.i64 :: LK.i IntKind.i64 :: LK.i IntKind.i64 :: LK.i IntKind.i64 :: LK.i IntKind.i64 :: LK.i IntKind.i64 :: LK.i IntKind.i64 :: LK.i IntKind.i64 :: LK.i IntKind.i64 :: LK.i IntKind.i64 :: List.nil)) ds fun x17 ds => dL (K.st (LK.i IntKind.i64) [LK.i IntKind.i64,LK.i IntKind.i64,LK.i IntKind.i64,LK.i IntKind.i64,LK.i IntKind.i64,LK.i IntKind.i64]) ds fun x18 ds => dE ds (M.chplaces_l0 x10 x17 (fun (x25:List (Int × Int × Int × Int × Int × Int × Int)) => Q (.exit 0) (chplaces_S2 x12 x13 x14 x15 x16 x17 x25)) (100 + x13.length + x14.length + x15.length + x17.length + x18.length) x11 x18)
theorem chplaces_l0_ok {α:Type}:LoopOk E.P 29 [false,true,false,true,true] 7 (lEnt (α := α) (chplaces_S3) chplaces_l0_go) :=
 lEnt_ok E (exec_sound E E_ok (look_chlay_ok) (noLps_ok _) 400) fun ds Q r h S hS => by
   unfold chplaces_l0_go at h
   obtain ⟨x10,ds,rfl,h1⟩ := dI_inv h
   obtain ⟨x11,ds,rfl,h2⟩ := dI_inv h1
   obtain ⟨x12,ds,rfl,h3⟩ := dB_inv h2
   obtain ⟨x13,ds,rfl,h4⟩ := dL_inv h3
   obtain ⟨x14,ds,rfl,h5⟩ := dL_inv h4
   obtain ⟨x15,ds,rfl,h6⟩ := dL_inv h5
   obtain ⟨x16,ds,rfl,h7⟩ := dB_inv h6
   obtain ⟨x17,ds,rfl,h8⟩ := dL_inv h7
   obtain ⟨x18,ds,rfl,h9⟩ := dL_inv h8
   obtain ⟨rfl,hE⟩ := dE_inv h9
   have e:fillS (chplaces_S3) [.i x10,.i x11,.b x12,.l (K.st (LK.i IntKind.i64) [LK.i IntKind.i64,LK.i IntKind.i64,LK.i IntKind.i64,LK.i IntKind.i64,LK.i IntKind.i64,LK.i IntKind.i64]) x13,.l (K.st (LK.i IntKind.i64) [LK.i IntKind.i64,LK.i IntKind.i64,LK.i IntKind.i64,LK.i IntKind.i64,LK.i IntKind.i64,LK.i IntKind.i64]) x14,.l (K.st (LK.i IntKind.i64) [LK.i IntKind.i64,LK.i IntKind.i64,LK.i IntKind.i64,LK.i IntKind.i64,LK.i IntKind.i64,LK.i IntKind.i64]) x15,.b x16,.l (K.st (LK.i IntKind.i64)
 (LK.i IntKind.i64 :: LK.i IntKind.i64 :: LK.i IntKind.i64 :: LK.i IntKind.i64 :: LK.i IntKind.i64 :: LK.i IntKind.i64 :: LK.i IntKind.i64 :: LK.i IntKind.i64 :: LK.i IntKind.i64 :: LK.i IntKind.i64 :: LK.i IntKind.i64 :: LK.i IntKind.i64 :: LK.i IntKind.i64 :: LK.i IntKind.i64 :: LK.i IntKind.i64 :: LK.i IntKind.i64 :: LK.b :: LK.i IntKind.i64 :: LK.i IntKind.i64 :: LK.i IntKind.i64 :: LK.i IntKind.i64 :: LK.i IntKind.i64 :: LK.i IntKind.i64 :: LK.i IntKind.i64 :: LK.i IntKind.i64 :: LK.i IntKind.i64 :: LK.i IntKind.i64 :: LK.i IntKind.i64 :: LK.i IntKind.i64 :: LK.i IntKind.i64 :: LK.i IntKind.i64 :: LK.i IntKind.i64 :: LK.i IntKind.i64 :: List.nil)) x17,.l (K.st (LK.i IntKind.i64) [LK.i IntKind.i64,LK.i IntKind.i64,LK.i IntKind.i64,LK.i IntKind.i64,LK.i IntKind.i64,LK.i IntKind.i64]) x18] = some (chplaces_S1 x10 x11 x12 x13 x14 x15 x16 x17 x18) := by kernel_rfl
   rw [e] at hS
   cases hS
   exact ⟨_,(chplaces_l0_iter x10 x12 x13 x14 x15 x16 x17 Q _ x11 x18).trans hE⟩
noncomputable def chplaces_l0_lps {α:Type}:LookL α := addLp 29 [false,true,false,true,true] 7 (lEnt (chplaces_S3) chplaces_l0_go) noLps
theorem chplaces_l0_lps_ok {α:Type}:LoopsOk E.P (chplaces_l0_lps (α := α)) := addLp_ok chplaces_l0_ok (noLps_ok _)
noncomputable def M.chplaces {α:Type} (bad:Bool) (l:List L15) (k0:Bool → List (Int × Int × Int × Int × Int × Int × Int) → Option α):Option α := if (!cEq (V.chC l) (0:Int)) = true then k0 bad [] else if V.chC l = (0:Int) then M.chplaces_l0 (↑(List.length (V.lay l)):Int) (V.lay l) (fun (x29:List (Int × Int × Int × Int × Int × Int × Int)) ↦ k0 bad x29) ((100:Nat) + List.length (V.lay l) + (0:Nat)) (0:Int) [] else none
theorem chplaces_eq {α:Type} (bad:Bool) (l:List L15) (v28:Value) (Q:SV → Hp → Option α):callI E look_chlay (exec E look_chlay chplaces_l0_lps 400) 9 ([SV.ptr (nat_lit 0) (nat_lit 0),SV.ros v28 (K.st (LK.i IntKind.i64) [LK.i IntKind.i64,LK.i IntKind.i64,LK.i IntKind.i64,LK.i IntKind.i64,LK.i IntKind.i64,LK.i IntKind.i64,LK.i IntKind.i64,LK.i IntKind.i64,LK.i IntKind.i64,LK.b,LK.i IntKind.i64,LK.i IntKind.i64,LK.i IntKind.i64,LK.i IntKind.i64]) l]) ([.cells [SV.bool bad] (nat_lit 28)]) Q = M.chplaces bad l (fun (x30:Bool) (x31:List (Int × Int × Int × Int × Int × Int × Int)) => Q (SV.sl (nat_lit 1)) ([.cells [SV.bool x30] (nat_lit 28),.seq (K.st (LK.i IntKind.i64) [LK.i IntKind.i64,LK.i IntKind.i64,LK.i IntKind.i64,LK.i IntKind.i64,LK.i IntKind.i64,LK.i IntKind.i64]) x31 (nat_lit 59)])) := by kernel_rfl
def chplaces_sp:List AS := [.ptr 28 [.bool false],.ro (.st (.i .i64) [.i .i64,.i .i64,.i .i64,.i .i64,.i .i64,.i .i64,.i .i64,.i .i64,.i .i64,.b,.i .i64,.i .i64,.i .i64,.i .i64])]
def ps7 (b:L34):Int × Int × Int × Int × Int × Int × Int := (b.1,b.2.1,b.2.2.1,b.2.2.2.1,b.2.2.2.2.1,b.2.2.2.2.2.1,b.2.2.2.2.2.2.1)
def pl7 (r:Pl):Int × Int × Int × Int × Int × Int × Int := (r.1.1,r.1.2.1,r.1.2.2,r.2.1.1,r.2.1.2.1,r.2.1.2.2.1,r.2.1.2.2.2)
noncomputable def _root_.Go.Proofs.YtajomehkgaamoaaGreat.V.plcs (l:List (Int × Int × Int × Int × Int × Int × Int × Int × Int × Int × Bool × Int × Int × Int × Int)):List (Int × Int × Int × Int × Int × Int × Int) := hid (if V.chC l = 0 then (V.lay l).map ps7 else [])
theorem lay_some {l:List L15} (h:V.chC l = 0):∃ P,layL l [] = some P ∧ V.lay l = List.zipWith bnT l P ∧ P.length = l.length ∧ Tree l := by
 obtain ⟨P,hP⟩ := chC_lay h
 obtain ⟨h1,h2⟩ := (chC_iff l).1 h
 have ht:Tree l := fun i x hx => (h2 i x hx).par
 obtain ⟨_,hl,_⟩ := layL_spec l [] P hP (Tree.lt ht)
 exact ⟨P,hP,by unfold V.lay; rw [hid_eq,hP]; rfl,by simpa using hl,ht⟩
theorem zip_ps7:∀ (l:List L15) (P:List Pl),P.length = l.length → (List.zipWith bnT l P).map ps7 = P.map pl7
 | [],[],_ => rfl
 | x :: l,r :: P,h => by
   simp only [List.zipWith_cons_cons,List.map_cons]
   rw [zip_ps7 l P (by simpa using h)]
   rfl
 | [],_ :: _,h => by simp at h
 | _ :: _,[],h => by simp at h
theorem plcs_some {l:List L15} {P:List Pl} (h:V.chC l = 0) (hP:layL l [] = some P):V.plcs l = P.map pl7 := by
 obtain ⟨Q,hQ,e1,e2,_⟩ := lay_some h
 rw [hP] at hQ
 cases hQ
 unfold V.plcs
 rw [hid_eq,if_pos h,e1,zip_ps7 l P e2]
theorem chplaces_l0_val {α:Type} (Z:List L34) (hZ:Z.length ≤ 1000) (k1:List (Int × Int × Int × Int × Int × Int × Int) → Option α):∀ (fuel i:Nat),i ≤ Z.length → Z.length - i < fuel →
   M.chplaces_l0 (Z.length:Int) Z k1 fuel (i:Int) ((Z.take i).map ps7) = k1 (Z.map ps7)
 | 0,i,h1,h2 => by omega
 | f + 1,i,h1,h2 => by
   unfold M.chplaces_l0 M.chplaces_l0_step
   simp only
   rw [cLt_nat]
   by_cases hi:i < Z.length
   · have hl : ((Z.take i).map ps7).length = i := by rw [List.length_map, List.length_take]; omega
     have hsz:(i + (0 + 1)) * 56 ≤ 140737488355328 := by omega
     rw [if_pos (by simpa using hi),if_pos (by omega),hl,if_pos hsz,w_next (by omega)]
     have ih := chplaces_l0_val Z hZ k1 f (i + 1) (by omega) (by omega)
     have e:(Z.take (i + 1)).map ps7 = (Z.take i).map ps7 ++ [ps7 (Z.getD i bn0)] := by
       rw [List.take_add_one,List.map_append]
       simp [List.getD_eq_getElem?_getD,hi]
     rw [e] at ih
     exact ih
   · have : i = Z.length := by omega
     subst this
     rw [if_neg (by simp),List.take_length]
theorem chplaces_v {α:Type} (bad:Bool) (l:List L15) (k0:Bool → List (Int × Int × Int × Int × Int × Int × Int) → Option α):M.chplaces bad l k0 = k0 bad (V.plcs l) := by
 unfold M.chplaces V.plcs
 rw [hid_eq,cEq_eq]
 by_cases h:V.chC l = 0
 · obtain ⟨P, hP, e1, e2, _⟩ := lay_some h
   have hl:(V.lay l).length ≤ 1000 := by
     have := ((chC_iff l).1 h).1
     rw [e1,List.length_zipWith]; omega
   rw [if_neg (by rw [h]; decide),if_pos h,if_pos h]
   have := chplaces_l0_val (V.lay l) hl (fun z => k0 bad z) (100 + (V.lay l).length + 0) 0 (by omega) (by omega)
   exact this
 · rw [if_pos (by simpa using h),if_neg h]
abbrev kPs:K := .st (.i .i64) [.i .i64,.i .i64,.i .i64,.i .i64,.i .i64,.i .i64]
noncomputable def chplaces_h {α:Type} (ds:List D) (Q:SV → Hp → Option α):Option α :=
 dB ds fun bad ds => dL (K.st (LK.i IntKind.i64) [LK.i IntKind.i64,LK.i IntKind.i64,LK.i IntKind.i64,LK.i IntKind.i64,LK.i IntKind.i64,LK.i IntKind.i64,LK.i IntKind.i64,LK.i IntKind.i64,LK.i IntKind.i64,LK.b,LK.i IntKind.i64,LK.i IntKind.i64,LK.i IntKind.i64,LK.i IntKind.i64]) ds fun l ds => dE ds (Q (.sl 1) ([.cells [.bool bad] 28,.seq kPs (V.plcs l) 59]))
theorem chplaces_h_ok {α:Type}:FnOk E.P 9 (fEnt (α := α) chplaces_sp chplaces_h) :=
 fEntR_ok E (look_chlay_ok) (exec_sound E E_ok (look_chlay_ok) (chplaces_l0_lps_ok) 400) fun ds Q r h => by
   unfold chplaces_h at h
   obtain ⟨bad,ds,rfl,h1⟩ := dB_inv h
   obtain ⟨l,ds,rfl,h2⟩ := dL_inv h1
   obtain ⟨rfl,hE⟩ := dE_inv h2
   exact ⟨_,_,hE,fun vs => ⟨_,_,by kernel_rfl,(chplaces_eq bad l (vs.tail.headD undef) _).trans (chplaces_v bad l _)⟩⟩
noncomputable def look_chplaces {α:Type}:LookF α := addFn 9 (fEnt chplaces_sp chplaces_h) look_chlay
theorem look_chplaces_ok {α:Type}:LookOk E.P (look_chplaces (α := α)) := addFn_ok chplaces_h_ok (look_chlay_ok)
noncomputable def M.chawake {α:Type} (k0:Bool → Option α):Option α := if cEq (↑(List.length (V.plcs [((-1:Int),(0:Int),(0:Int),(4294967296:Int),(4294967296:Int),(0:Int),(0:Int),(0:Int),(0:Int),(0:Int),false,(0:Int),(0:Int),(0:Int),(4294967296:Int)),((0:Int),(0:Int),(0:Int),(4294967296:Int),(4294967296:Int),(0:Int),(0:Int),(0:Int),(0:Int),(0:Int),false,(0:Int),(0:Int),(0:Int),(4294967296:Int))])):Int) (2:Int) = true then if (0:Int) ≤ (1:Int) ∧ (1:Int) < (↑(List.length (V.plcs [((-1:Int),(0:Int),(0:Int),(4294967296:Int),(4294967296:Int),(0:Int),(0:Int),(0:Int),(0:Int),(0:Int),false,(0:Int),(0:Int),(0:Int),(4294967296:Int)),((0:Int),(0:Int),(0:Int),(4294967296:Int),(4294967296:Int),(0:Int),(0:Int),(0:Int),(0:Int),(0:Int),false,(0:Int),(0:Int),(0:Int),(4294967296:Int))])):Int) then if (cEq (Prod.fst (List.getD (V.plcs [((-1:Int),(0:Int),(0:Int),(4294967296:Int),(4294967296:Int),(0:Int),(0:Int),(0:Int),(0:Int),(0:Int),false,(0:Int),(0:Int),(0:Int),(4294967296:Int)),((0:Int),(0:Int),(0:Int),(4294967296:Int),(4294967296:Int),(0:Int),(0:Int),(0:Int),(0:Int),(0:Int),false,(0:Int),(0:Int),(0:Int),(4294967296:Int))]) (1:Nat) ((0:Int),(0:Int),(0:Int),(0:Int),(0:Int),(0:Int),(0:Int)))) (8589934592:Int) && (cEq (Prod.fst (Prod.snd (List.getD (V.plcs [((-1:Int),(0:Int),(0:Int),(4294967296:Int),(4294967296:Int),(0:Int),(0:Int),(0:Int),(0:Int),(0:Int),false,(0:Int),(0:Int),(0:Int),(4294967296:Int)),((0:Int),(0:Int),(0:Int),(4294967296:Int),(4294967296:Int),(0:Int),(0:Int),(0:Int),(0:Int),(0:Int),false,(0:Int),(0:Int),(0:Int),(4294967296:Int))]) (1:Nat) ((0:Int),(0:Int),(0:Int),(0:Int),(0:Int),(0:Int),(0:Int))))) (0:Int) && (cEq (Prod.fst (Prod.snd (Prod.snd (List.getD (V.plcs [((-1:Int),(0:Int),(0:Int),(4294967296:Int),(4294967296:Int),(0:Int),(0:Int),(0:Int),(0:Int),(0:Int),false,(0:Int),(0:Int),(0:Int),(4294967296:Int)),((0:Int),(0:Int),(0:Int),(4294967296:Int),(4294967296:Int),(0:Int),(0:Int),(0:Int),(0:Int),(0:Int),false,(0:Int),(0:Int),(0:Int),(4294967296:Int))]) (1:Nat) ((0:Int),(0:Int),(0:Int),(0:Int),(0:Int),(0:Int),(0:Int)))))) (0:Int) && true))) = true then if cEq (V.chC [((-1:Int),(0:Int),(0:Int),(4294967296:Int),(4294967296:Int),(0:Int),(0:Int),(0:Int),(0:Int),(0:Int),false,(0:Int),(0:Int),(0:Int),(4294967296:Int)),((1:Int),(0:Int),(0:Int),(4294967296:Int),(4294967296:Int),(0:Int),(0:Int),(0:Int),(0:Int),(0:Int),false,(0:Int),(0:Int),(0:Int),(4294967296:Int))]) (160:Int) = true then k0 !false else k0 false else k0 false else none else k0 false
theorem chawake_eq {α:Type} (Q:SV → Hp → Option α):callI E look_chplaces (exec E look_chplaces noLps 400) 5 ([]) ([]) Q = M.chawake (fun (x32:Bool) => Q (SV.bool x32) ([])) := by kernel_rfl
def chawake_sp:List AS := []
theorem aw_plcs:V.plcs [(-1,0,0,4294967296,4294967296,0,0,0,0,0,false,0,0,0,4294967296),(0,0,0,4294967296,4294967296,0,0,0,0,0,false,0,0,0,4294967296)] = [(4294967296,0,0,4294967296,0,0,0),(8589934592,0,0,4294967296,0,0,0)] := plcs_some aw_ok aw_layL
theorem chawake_v {α:Type} (k0:Bool → Option α):M.chawake k0 = k0 true := by
 unfold M.chawake
 have e:V.chC [(-1,0,0,4294967296,4294967296,0,0,0,0,0,false,0,0,0,4294967296),(1,0,0,4294967296,4294967296,0,0,0,0,0,false,0,0,0,4294967296)] = 160 := aw_bad
 rw [aw_plcs,e]
 simp [cEq_eq]
noncomputable def chawake_h {α:Type} (ds:List D) (Q:SV → Hp → Option α):Option α :=
 dE ds (Q (.bool true) ([]))
theorem chawake_h_ok {α:Type}:FnOk E.P 5 (fEnt (α := α) chawake_sp chawake_h) :=
 fEnt_ok E (look_chplaces_ok) (exec_sound E E_ok (look_chplaces_ok) (noLps_ok _) 400) fun ds Q r h => by
   unfold chawake_h at h
   obtain ⟨rfl,hE⟩ := dE_inv h
   exact ⟨[],[],fun vs => by kernel_rfl,(chawake_eq Q).trans ((chawake_v _).trans hE)⟩
noncomputable def look_chawake {α:Type}:LookF α := addFn 5 (fEnt chawake_sp chawake_h) look_chplaces
theorem look_chawake_ok {α:Type}:LookOk E.P (look_chawake (α := α)) := addFn_ok chawake_h_ok (look_chplaces_ok)
end
section
open Go
set_option maxRecDepth 20000
noncomputable abbrev chposes_S1 (y1:Value) (y2:List (Int × Int × Int × Int × Int × Int × Int)) (y3:Value) (y4:List (Int × Int × Int × Int × Int × Int × Int)) (y5:Int):St := St.mk (some (SV.ros y1 (K.st (LK.i IntKind.i64) [LK.i IntKind.i64,LK.i IntKind.i64,LK.i IntKind.i64,LK.i IntKind.i64,LK.i IntKind.i64,LK.i IntKind.i64]) y2) :: some (SV.ros y3 (K.st (LK.i IntKind.i64) [LK.i IntKind.i64,LK.i IntKind.i64,LK.i IntKind.i64,LK.i IntKind.i64,LK.i IntKind.i64,LK.i IntKind.i64]) y4) :: nn 3 (some (SV.int .i64 y5) :: nn 20 ([]))) []
noncomputable abbrev chposes_S2:St := St.mk (some (SV.ros undef (K.st (LK.i IntKind.i64) [LK.i IntKind.i64,LK.i IntKind.i64,LK.i IntKind.i64,LK.i IntKind.i64,LK.i IntKind.i64,LK.i IntKind.i64]) []) :: some (SV.ros undef (K.st (LK.i IntKind.i64) [LK.i IntKind.i64,LK.i IntKind.i64,LK.i IntKind.i64,LK.i IntKind.i64,LK.i IntKind.i64,LK.i IntKind.i64]) []) :: nn 3 (some (SV.int .i64 (0:Int)) :: nn 20 ([]))) []
noncomputable def M.chposes_l0_step {α:Type} (x8:List (Int × Int × Int × Int × Int × Int × Int)) (x10:List (Int × Int × Int × Int × Int × Int × Int)) (kn:Int → Option α) (k0:Option α) (k2:Option α) (x11:Int):Option α := let s12 := (↑(List.length x8):Int); let s13 := List.getD x8 (Int.toNat x11) ((0:Int),(0:Int),(0:Int),(0:Int),(0:Int),(0:Int),(0:Int)); let s14 := List.getD x10 (Int.toNat x11) ((0:Int),(0:Int),(0:Int),(0:Int),(0:Int),(0:Int),(0:Int)); let s15 := Prod.snd s14; let s16 := Prod.snd s13; let s17 := Prod.snd s16; let s18 := Prod.snd s15; let s19 := Prod.snd s18; let s20 := Prod.snd s17; let s21 := Prod.snd s19; let s22 := Prod.snd s20; let s23 := Prod.snd s21; let s24 := Prod.snd s22; if cLt x11 s12 = true then if (0:Int) ≤ x11 ∧ x11 < s12 then if (0:Int) ≤ x11 ∧ x11 < (↑(List.length x10):Int) then if (!(cEq (Prod.fst s13) (Prod.fst s14) && (cEq (Prod.fst s16) (Prod.fst s15) && (cEq (Prod.fst s17) (Prod.fst s18) && true)) && (cEq (Prod.fst s20) (Prod.fst s19) && (cEq (Prod.fst s22) (Prod.fst s21) && (cEq (Prod.fst s24) (Prod.fst s23) && (cEq (Prod.snd s24) (Prod.snd s23) && true))) && true))) = true then k0 else kn (IntKind.wrap .i64 (x11 + (1:Int))) else none else none else k2
noncomputable def M.chposes_l0 {α:Type} (x8:List (Int × Int × Int × Int × Int × Int × Int)) (x10:List (Int × Int × Int × Int × Int × Int × Int)) (k0:Option α) (k2:Option α):Nat → Int → Option α
 | 0,_ => none
 | n + 1,x11 => M.chposes_l0_step x8 x10 (M.chposes_l0 x8 x10 k0 k2 n) k0 k2 x11
theorem chposes_l0_step_eq {α:Type} (x7:Value) (x8:List (Int × Int × Int × Int × Int × Int × Int)) (x9:Value) (x10:List (Int × Int × Int × Int × Int × Int × Int)) (x11:Int) (Q:Ex → St → Option α):(loopStep E (exec E look_chawake noLps 400) 8 [false,true,false,true,true] 0 (codeAt E.P 8 [false,true,false,true,true])) (chposes_S1 x7 x8 x9 x10 x11) Q = M.chposes_l0_step x8 x10 (fun (x25:Int) => Q .normal (chposes_S1 x7 x8 x9 x10 x25)) (Q .ret (St.mk (nn 4 (some (SV.bool false) :: nn 21 ([]))) [])) (Q (.exit 0) (St.mk (nn 26 ([])) [])) x11 := by kernel_rfl
theorem chposes_l0_iter {α:Type} (x7:Value) (x8:List (Int × Int × Int × Int × Int × Int × Int)) (x9:Value) (x10:List (Int × Int × Int × Int × Int × Int × Int)) (Q:Ex → St → Option α):∀ (n:Nat) (x11:Int),iter (loopStep E (exec E look_chawake noLps 400) 8 [false,true,false,true,true] 0 (codeAt E.P 8 [false,true,false,true,true])) n (chposes_S1 x7 x8 x9 x10 x11) Q = M.chposes_l0 x8 x10 (Q .ret (St.mk (nn 4 (some (SV.bool false) :: nn 21 ([]))) [])) (Q (.exit 0) (St.mk (nn 26 ([])) [])) n x11
 | 0,_ => rfl
 | n + 1,x11 => (chposes_l0_step_eq x7 x8 x9 x10 x11 (iterK (loopStep E (exec E look_chawake noLps 400) 8 [false,true,false,true,true] 0 (codeAt E.P 8 [false,true,false,true,true])) n Q)).trans (congrArg (fun kn => M.chposes_l0_step x8 x10 kn (Q .ret (St.mk (nn 4 (some (SV.bool false) :: nn 21 ([]))) [])) (Q (.exit 0) (St.mk (nn 26 ([])) [])) x11) (funext fun x11 => chposes_l0_iter x7 x8 x9 x10 Q n x11))
noncomputable def chposes_l0_go {α:Type} (ds:List D) (Q:Ex → St → Option α):Option α :=
 dV ds fun x7 ds => dL (K.st (LK.i IntKind.i64) [LK.i IntKind.i64,LK.i IntKind.i64,LK.i IntKind.i64,LK.i IntKind.i64,LK.i IntKind.i64,LK.i IntKind.i64]) ds fun x8 ds => dV ds fun x9 ds => dL (K.st (LK.i IntKind.i64) [LK.i IntKind.i64,LK.i IntKind.i64,LK.i IntKind.i64,LK.i IntKind.i64,LK.i IntKind.i64,LK.i IntKind.i64]) ds fun x10 ds => dI ds fun x11 ds => dE ds (M.chposes_l0 x8 x10 (Q .ret (St.mk (nn 4 (some (SV.bool false) :: nn 21 ([]))) [])) (Q (.exit 0) (St.mk (nn 26 ([])) [])) (100 + x8.length + x10.length) x11)
theorem chposes_l0_ok {α:Type}:LoopOk E.P 8 [false,true,false,true,true] 0 (lEnt (α := α) (chposes_S2) chposes_l0_go) :=
 lEnt_ok E (exec_sound E E_ok (look_chawake_ok) (noLps_ok _) 400) fun ds Q r h S hS => by
   unfold chposes_l0_go at h
   obtain ⟨x7,ds,rfl,h1⟩ := dV_inv h
   obtain ⟨x8,ds,rfl,h2⟩ := dL_inv h1
   obtain ⟨x9,ds,rfl,h3⟩ := dV_inv h2
   obtain ⟨x10,ds,rfl,h4⟩ := dL_inv h3
   obtain ⟨x11,ds,rfl,h5⟩ := dI_inv h4
   obtain ⟨rfl,hE⟩ := dE_inv h5
   have e:fillS (chposes_S2) [.v x7,.l (K.st (LK.i IntKind.i64) [LK.i IntKind.i64,LK.i IntKind.i64,LK.i IntKind.i64,LK.i IntKind.i64,LK.i IntKind.i64,LK.i IntKind.i64]) x8,.v x9,.l (K.st (LK.i IntKind.i64) [LK.i IntKind.i64,LK.i IntKind.i64,LK.i IntKind.i64,LK.i IntKind.i64,LK.i IntKind.i64,LK.i IntKind.i64]) x10,.i x11] = some (chposes_S1 x7 x8 x9 x10 x11) := by kernel_rfl
   rw [e] at hS
   cases hS
   exact ⟨_,(chposes_l0_iter x7 x8 x9 x10 Q _ x11).trans hE⟩
noncomputable def chposes_l0_lps {α:Type}:LookL α := addLp 8 [false,true,false,true,true] 0 (lEnt (chposes_S2) chposes_l0_go) noLps
theorem chposes_l0_lps_ok {α:Type}:LoopsOk E.P (chposes_l0_lps (α := α)) := addLp_ok chposes_l0_ok (noLps_ok _)
noncomputable def M.chposes {α:Type} (a:List (Int × Int × Int × Int × Int × Int × Int)) (b:List (Int × Int × Int × Int × Int × Int × Int)) (k0:Bool → Option α):Option α := if (!cEq (↑(List.length a):Int) (↑(List.length b):Int)) = true then k0 false else M.chposes_l0 a b (k0 false) (k0 true) ((100:Nat) + List.length a + List.length b) (0:Int)
theorem chposes_eq {α:Type} (a:List (Int × Int × Int × Int × Int × Int × Int)) (b:List (Int × Int × Int × Int × Int × Int × Int)) (v26:Value) (v27:Value) (Q:SV → Hp → Option α):callI E look_chawake (exec E look_chawake chposes_l0_lps 400) 8 ([SV.ros v26 (K.st (LK.i IntKind.i64) [LK.i IntKind.i64,LK.i IntKind.i64,LK.i IntKind.i64,LK.i IntKind.i64,LK.i IntKind.i64,LK.i IntKind.i64]) a,SV.ros v27 (K.st (LK.i IntKind.i64) [LK.i IntKind.i64,LK.i IntKind.i64,LK.i IntKind.i64,LK.i IntKind.i64,LK.i IntKind.i64,LK.i IntKind.i64]) b]) ([]) Q = M.chposes a b (fun (x28:Bool) => Q (SV.bool x28) ([])) := by kernel_rfl
def chposes_sp:List AS := [.ro kPs,.ro kPs]
noncomputable def _root_.Go.Proofs.YtajomehkgaamoaaGreat.V.lenC (n:Nat):Bool := Classical.choose (⟨decide (n < 1099511627776),rfl⟩:∃ r:Bool,r = decide (n < 1099511627776))
theorem lenC_of {n:Nat} (h:n < 1099511627776):V.lenC n = true := by
 have e:V.lenC n = _ := Classical.choose_spec (⟨decide (n < 1099511627776),rfl⟩:∃ r:Bool,r = decide (n < 1099511627776))
 rw [e]; exact decide_eq_true h
theorem lenC_lt {n:Nat} (h:V.lenC n = true):n < 1099511627776 := by
 have e:V.lenC n = _ := Classical.choose_spec (⟨decide (n < 1099511627776),rfl⟩:∃ r:Bool,r = decide (n < 1099511627776))
 rw [e] at h; exact of_decide_eq_true h
abbrev T7 := Int × Int × Int × Int × Int × Int × Int
noncomputable def _root_.Go.Proofs.YtajomehkgaamoaaGreat.V.psEq (a b:List (Int × Int × Int × Int × Int × Int × Int)):Bool := exB (a = b)
theorem eq7 (p q:T7):(cEq p.1 q.1 && (cEq p.2.1 q.2.1 && (cEq p.2.2.1 q.2.2.1 && true)) && (cEq p.2.2.2.1 q.2.2.2.1 && (cEq p.2.2.2.2.1 q.2.2.2.2.1 && (cEq p.2.2.2.2.2.1 q.2.2.2.2.2.1 && (cEq p.2.2.2.2.2.2 q.2.2.2.2.2.2 && true))) && true)) = exB (p = q) := by
 obtain ⟨a,b,c,d,e,f,g⟩ := p
 obtain ⟨a',b',c',d',e',f',g'⟩ := q
 simp only [cEq_eq]
 rw [Bool.eq_iff_iff]
 simp only [Bool.and_eq_true,beq_iff_eq,exB_iff,Prod.mk.injEq,and_true]
 constructor
 · rintro ⟨⟨h1,h2,h3⟩,h4,h5,h6,h7⟩; exact ⟨h1,h2,h3,h4,h5,h6,h7⟩
 · rintro ⟨h1,h2,h3,h4,h5,h6,h7⟩; exact ⟨⟨h1,h2,h3⟩,h4,h5,h6,h7⟩
def t70:T7 := (0,0,0,0,0,0,0)
theorem drop7 (l:List T7) (i:Nat) (h:i < l.length):l.drop i = l.getD i t70 :: l.drop (i + 1) := by
 rw [List.drop_eq_getElem_cons h]; simp [List.getD_eq_getElem?_getD,h]
theorem chposes_l0_val {α:Type} (a b:List T7) (hl:a.length = b.length) (ha:a.length < 1099511627776) (k0 k2:Option α):∀ (fuel i:Nat),i ≤ a.length → a.length - i < fuel → M.chposes_l0 a b k0 k2 fuel (i:Int) = if exB (a.drop i = b.drop i) = true then k2 else k0
 | 0,i,h1,h2 => by omega
 | f + 1,i,h1,h2 => by
   unfold M.chposes_l0 M.chposes_l0_step
   simp only
   rw [cLt_nat]
   by_cases hi:i < a.length
   · rw [if_pos (by simpa using hi),if_pos (by omega),if_pos (by omega),drop7 a i hi,drop7 b i (by omega),w_next (by omega),chposes_l0_val a b hl ha k0 k2 f (i + 1) (by omega) (by omega)]
     have e := eq7 (a.getD i t70) (b.getD i t70)
     have e':∀ x:List T7,List.getD x (Int.toNat (i:Int)) (0,0,0,0,0,0,0) = x.getD i t70 := fun x => rfl
     rw [e',e',e]
     by_cases h:a.getD i t70 = b.getD i t70
     · rw [if_neg (by rw [exB_true h]; decide), h]
       by_cases h2:a.drop (i + 1) = b.drop (i + 1)
       · rw [if_pos (exB_true h2),if_pos (exB_true (by rw [h2]))]
       · rw [if_neg (by rw [exB_false h2]; decide),if_neg (by rw [exB_false (fun hc => h2 (List.cons.inj hc).2)]; decide)]
     · rw [if_pos (by rw [exB_false h]; rfl),if_neg (by rw [exB_false (fun hc => h (List.cons.inj hc).1)]; decide)]
   · have : i = a.length := by omega
     subst this
     rw [if_neg (by simp),List.drop_length,List.drop_of_length_le (by omega),if_pos (exB_true rfl)]
theorem chposes_v {α:Type} (a b:List T7) (hg:V.lenC a.length = true) (k0:Bool → Option α):M.chposes a b k0 = k0 (V.psEq a b) := by
 have ha := lenC_lt hg
 unfold M.chposes V.psEq
 rw [cEq_eq]
 by_cases hl:a.length = b.length
 · rw [if_neg (by simp [hl])]
   refine Eq.trans (chposes_l0_val a b hl ha _ _ _ 0 (by omega) (by omega)) ?_
   rw [List.drop_zero,List.drop_zero]
   by_cases h:a = b
   · rw [if_pos (exB_true h),exB_true h]
   · rw [if_neg (by rw [exB_false h]; decide),exB_false h]
 · rw [if_pos (by simp; omega),exB_false (fun h => hl (by rw [h]))]
noncomputable def chposes_h {α:Type} (ds:List D) (Q:SV → Hp → Option α):Option α :=
 dL (K.st (LK.i IntKind.i64) [LK.i IntKind.i64,LK.i IntKind.i64,LK.i IntKind.i64,LK.i IntKind.i64,LK.i IntKind.i64,LK.i IntKind.i64]) ds fun a ds => dL (K.st (LK.i IntKind.i64) [LK.i IntKind.i64,LK.i IntKind.i64,LK.i IntKind.i64,LK.i IntKind.i64,LK.i IntKind.i64,LK.i IntKind.i64]) ds fun b ds => dE ds (if V.lenC a.length = true then Q (.bool (V.psEq a b)) ([]) else none)
theorem chposes_h_ok {α:Type}:FnOk E.P 8 (fEnt (α := α) chposes_sp chposes_h) :=
 fEntR_ok E (look_chawake_ok) (exec_sound E E_ok (look_chawake_ok) (chposes_l0_lps_ok) 400) fun ds Q r h => by
   unfold chposes_h at h
   obtain ⟨a,ds,rfl,h1⟩ := dL_inv h
   obtain ⟨b,ds,rfl,h2⟩ := dL_inv h1
   obtain ⟨rfl,hE⟩ := dE_inv h2
   split at hE
   · rename_i hg
     exact ⟨_,_,hE,fun vs => ⟨_,_,by kernel_rfl,(chposes_eq a b (vs.headD undef) (vs.tail.headD undef) _).trans (chposes_v a b hg _)⟩⟩
   · cases hE
theorem getD_pl7 (P:List Pl) (i:Nat) (h:i < P.length):(P.map pl7).getD i t70 = pl7 (P.getD i pl0) := by
 simp [List.getD_eq_getElem?_getD,h]
theorem lnk_get {C:List L15} {i:Nat} (h:i < C.length):C[i]? = some (lnk C i) := by simp [lnk,List.getD_eq_getElem?_getD,h]
end
section
open Go
end
section
open Go
def v30:V.T3 := (0,0,0)
def pAt (P:List Pl) (k:Nat):V.T3 := (P.getD k pl0).1
def pAx (P:List Pl) (k:Nat):V.T3 := (P.getD k pl0).2.2.1
def pMid (P:List Pl) (k:Nat):V.T3 := (P.getD k pl0).2.2.2
abbrev LdI := Bool × V.T3 × V.T3
abbrev LdA := Bool × List V.T3 × List V.T3 × List Int
noncomputable def ldK (C:List L15) (P:List Pl) (i:Nat) (F T:List V.T3) (k:Nat) (s:LdI):LdI :=
 if (lnk C k).1 = (i:Int) then
   (V.on (V.tAdd (V.q3 (V.tAdd s.2.2 (T.getD k v30))) (V.q3 (V.tCross (V.q3 (V.tSub (pAt P k) (pAt P i))) (F.getD k v30)))) (V.on (V.tCross (V.q3 (V.tSub (pAt P k) (pAt P i))) (F.getD k v30)) (V.on (V.tSub (pAt P k) (pAt P i)) (V.on (V.tAdd s.2.2 (T.getD k v30)) (V.on (V.tAdd s.2.1 (F.getD k v30)) s.1)))),
    V.q3 (V.tAdd s.2.1 (F.getD k v30)),V.q3 (V.tAdd (V.q3 (V.tAdd s.2.2 (T.getD k v30))) (V.q3 (V.tCross (V.q3 (V.tSub (pAt P k) (pAt P i))) (F.getD k v30)))))
 else s
noncomputable def ldI (C:List L15) (P:List Pl) (i:Nat) (F T:List V.T3):Nat → LdI → LdI
 | 0,s => s
 | k + 1,s => ldK C P i F T k (ldI C P i F T k s)
noncomputable def ldB (C:List L15) (P:List Pl) (p:V.T3) (i:Nat) (bad:Bool):LdI :=
 (V.on (V.tCross (V.q3 (V.tSub (pMid P i) (pAt P i))) (V.q3 (V.tScale p (lMass (lnk C i))))) (V.on (V.tSub (pMid P i) (pAt P i)) (V.on (V.tScale p (lMass (lnk C i))) bad)),
  V.q3 (V.tScale p (lMass (lnk C i))),V.q3 (V.tCross (V.q3 (V.tSub (pMid P i) (pAt P i))) (V.q3 (V.tScale p (lMass (lnk C i))))))
noncomputable def ldAl (C:List L15) (P:List Pl) (i:Nat) (r:LdI):Option Int := V.tDot (pAx P i) (if lSl (lnk C i) = true then r.2.1 else r.2.2)
noncomputable def ldO (C:List L15) (P:List Pl) (p:V.T3) (i:Nat) (s:LdA):LdA :=
 (V.gn (ldAl C P i (ldI C P i s.2.1 s.2.2.1 C.length (ldB C P p i s.1))) (ldI C P i s.2.1 s.2.2.1 C.length (ldB C P p i s.1)).1,
  s.2.1.set i (ldI C P i s.2.1 s.2.2.1 C.length (ldB C P p i s.1)).2.1,s.2.2.1.set i (ldI C P i s.2.1 s.2.2.1 C.length (ldB C P p i s.1)).2.2,
  s.2.2.2.set i (V.gv (ldAl C P i (ldI C P i s.2.1 s.2.2.1 C.length (ldB C P p i s.1)))))
noncomputable def ldA (C:List L15) (P:List Pl) (p:V.T3):Nat → LdA → LdA
 | 0,s => s
 | m + 1,s => ldA C P p m (ldO C P p m s)
noncomputable def ldZ (n:Nat):LdA := (false,List.replicate n v30,List.replicate n v30,List.replicate n 0)
theorem ldO_len (C:List L15) (P:List Pl) (p:V.T3) (i:Nat) (s:LdA):(ldO C P p i s).2.1.length = s.2.1.length ∧ (ldO C P p i s).2.2.1.length = s.2.2.1.length ∧ (ldO C P p i s).2.2.2.length = s.2.2.2.length := by
 simp [ldO]
theorem ldA_len (C:List L15) (P:List Pl) (p:V.T3):∀ (m:Nat) (s:LdA),(ldA C P p m s).2.1.length = s.2.1.length ∧ (ldA C P p m s).2.2.1.length = s.2.2.1.length ∧ (ldA C P p m s).2.2.2.length = s.2.2.2.length
 | 0,s => ⟨rfl,rfl,rfl⟩
 | m + 1,s => by
   have h := ldA_len C P p m (ldO C P p m s)
   have g := ldO_len C P p m s
   exact ⟨h.1.trans g.1,h.2.1.trans g.2.1,h.2.2.trans g.2.2⟩
structure Part (c:V.T3 → Int):Prop where
 add:∀ a b:V.T3,c (a.1 + b.1,a.2.1 + b.2.1,a.2.2 + b.2.2) = c a + c b
end
section
open Go
abbrev MvI := V.T3 × V.T3
def mv0:MvI := (v30,v30)
def parM (acc:List MvI) (p:Int):MvI := if p < 0 then mv0 else acc.getD p.toNat mv0
noncomputable def mvA (C:List L15) (P:List Pl) (i:Nat):Option V.T3 := V.tScale (pAx P i) (lSpd (lnk C i))
noncomputable def mvD (C:List L15) (P:List Pl) (i:Nat):Option V.T3 := V.tSub (pAt P i) (parP P (lnk C i).1)
noncomputable def mvX (C:List L15) (P:List Pl) (i:Nat) (q:MvI):Option V.T3 := V.tCross q.1 (V.q3 (mvD C P i))
noncomputable def mvV (C:List L15) (P:List Pl) (i:Nat) (q:MvI):Option V.T3 := V.tAdd q.2 (V.q3 (mvX C P i q))
noncomputable def mvE (C:List L15) (P:List Pl) (i:Nat) (q:MvI):Option V.T3 := V.tAdd (if lSl (lnk C i) = true then V.q3 (mvV C P i q) else q.1) (V.q3 (mvA C P i))
noncomputable def mvJ (C:List L15) (P:List Pl) (i:Nat) (q:MvI) (bad:Bool):Bool × MvI :=
 (V.on (mvE C P i q) (V.on (mvV C P i q) (V.on (mvX C P i q) (V.on (mvD C P i) (V.on (mvA C P i) bad)))),
  if lSl (lnk C i) = true then (q.1,V.q3 (mvE C P i q)) else (V.q3 (mvE C P i q),V.q3 (mvV C P i q)))
noncomputable def mvL (C:List L15) (P:List Pl) (bad:Bool):Nat → Bool × List MvI
 | 0 => (bad,[])
 | i + 1 => ((mvJ C P i (parM (mvL C P bad i).2 (lnk C i).1) (mvL C P bad i).1).1,(mvL C P bad i).2 ++ [(mvJ C P i (parM (mvL C P bad i).2 (lnk C i).1) (mvL C P bad i).1).2])
noncomputable def pcD (P:List Pl) (i:Nat):Option V.T3 := V.tSub (pMid P i) (pAt P i)
noncomputable def pcX (P:List Pl) (i:Nat) (m:MvI):Option V.T3 := V.tCross m.1 (V.q3 (pcD P i))
noncomputable def pcV (P:List Pl) (i:Nat) (m:MvI):Option V.T3 := V.tAdd m.2 (V.q3 (pcX P i m))
noncomputable def pcB (P:List Pl) (i:Nat) (m:MvI) (bad:Bool):Bool := V.on (pcV P i m) (V.on (pcX P i m) (V.on (pcD P i) bad))
noncomputable def pcL (P:List Pl) (M:List MvI) (bad:Bool):Nat → Bool × List V.T3
 | 0 => (bad,[])
 | i + 1 => (pcB P i (M.getD i mv0) (pcL P M bad i).1,(pcL P M bad i).2 ++ [V.q3 (pcV P i (M.getD i mv0))])
noncomputable def smL (C:List L15) (P:List Pl) (M:List MvI) (bad:Bool):Nat → Bool × V.T3
 | 0 => (bad,v30)
 | i + 1 => (V.on (V.tAdd (smL C P M bad i).2 (V.q3 (V.tScale (V.q3 (pcV P i (M.getD i mv0))) (lMass (lnk C i))))) (V.on (V.tScale (V.q3 (pcV P i (M.getD i mv0))) (lMass (lnk C i))) (pcB P i (M.getD i mv0) (smL C P M bad i).1)),
    V.q3 (V.tAdd (smL C P M bad i).2 (V.q3 (V.tScale (V.q3 (pcV P i (M.getD i mv0))) (lMass (lnk C i))))))
theorem mvL_len (C:List L15) (P:List Pl) (bad:Bool):∀ i,(mvL C P bad i).2.length = i
 | 0 => rfl
 | i + 1 => by
   show ((mvL C P bad i).2 ++ [_]).length = i + 1
   rw [List.length_append,mvL_len C P bad i]; rfl
theorem pcL_len (P:List Pl) (M:List MvI) (bad:Bool):∀ i,(pcL P M bad i).2.length = i
 | 0 => rfl
 | i + 1 => by
   show ((pcL P M bad i).2 ++ [_]).length = i + 1
   rw [List.length_append,pcL_len P M bad i]; rfl
theorem getD_last {τ:Type} (a:List τ) (x d:τ) (n:Nat) (h:a.length = n):(a ++ [x]).getD n d = x := by
 subst h; simp [List.getD_eq_getElem?_getD]
theorem pcL_get (P:List Pl) (M:List MvI) (bad:Bool) (j:Nat):∀ n,j < n → (pcL P M bad n).2.getD j v30 = V.q3 (pcV P j (M.getD j mv0))
 | 0,h => by omega
 | n + 1,h => by
   show ((pcL P M bad n).2 ++ [_]).getD j v30 = _
   by_cases e:j = n
   · subst e
     rw [getD_last _ _ _ _ (pcL_len P M bad _)]
   · rw [getD_append_lt _ _ _ _ (by rw [pcL_len]; omega),pcL_get P M bad j n (by omega)]
end
section
open Go
def vadd (a b:V.T3):V.T3 := (a.1 + b.1,a.2.1 + b.2.1,a.2.2 + b.2.2)
def bnM (x:L15) (r:Pl) (m:MvI):L34 := (r.1.1,r.1.2.1,r.1.2.2,r.2.1.1,r.2.1.2.1,r.2.1.2.2.1,r.2.1.2.2.2,x.1,x.2.1,x.2.2.1,x.2.2.2.1,x.2.2.2.2.1,x.2.2.2.2.2.1,x.2.2.2.2.2.2.1,x.2.2.2.2.2.2.2.1,x.2.2.2.2.2.2.2.2.1,x.2.2.2.2.2.2.2.2.2.1,x.2.2.2.2.2.2.2.2.2.2.1,x.2.2.2.2.2.2.2.2.2.2.2.1,x.2.2.2.2.2.2.2.2.2.2.2.2.1,x.2.2.2.2.2.2.2.2.2.2.2.2.2.1,x.2.2.2.2.2.2.2.2.2.2.2.2.2.2,r.2.2.1.1,r.2.2.1.2.1,r.2.2.1.2.2,r.2.2.2.1,r.2.2.2.2.1,r.2.2.2.2.2,m.1.1,m.1.2.1,m.1.2.2,m.2.1,m.2.2.1,m.2.2.2)
def zM (C:List L15) (P:List Pl) (acc:List MvI):List L34 := (List.range C.length).map fun j => bnM (lnk C j) (P.getD j pl0) (acc.getD j mv0)
theorem zM_len (C:List L15) (P:List Pl) (acc:List MvI):(zM C P acc).length = C.length := by simp [zM]
theorem zM_get (C:List L15) (P:List Pl) (acc:List MvI) (j:Nat) (h:j < C.length):(zM C P acc).getD j bn0 = bnM (lnk C j) (P.getD j pl0) (acc.getD j mv0) := by
 simp [zM,List.getD_eq_getElem?_getD,h]
theorem zM_nil (C:List L15) (P:List Pl) (h:P.length = C.length):List.zipWith bnT C P = zM C P [] := by
 refine List.ext_getElem? fun j => ?_
 by_cases hj:j < C.length
 · have e1 : C[j]? = some (lnk C j) := by simp [lnk, List.getD_eq_getElem?_getD, hj]
   have e2:P[j]? = some (P.getD j pl0) := by simp [List.getD_eq_getElem?_getD,h,hj]
   rw [List.getElem?_zipWith,e1,e2]
   simp [zM,hj]
   rfl
 · rw [List.getElem?_eq_none (by rw [List.length_zipWith]; omega),List.getElem?_eq_none (by rw [zM_len]; omega)]
theorem zM_set (C:List L15) (P:List Pl) (acc:List MvI) (m:MvI) (h:acc.length < C.length):(zM C P acc).set acc.length (bnM (lnk C acc.length) (P.getD acc.length pl0) m) = zM C P (acc ++ [m]) := by
 refine List.ext_getElem? fun j => ?_
 by_cases hj:j < C.length
 · by_cases e : j = acc.length
   · subst e
     rw [List.getElem?_set_self (by rw [zM_len]; exact h)]
     simp [zM,h,List.getD_eq_getElem?_getD]
   · rw [List.getElem?_set_ne (Ne.symm e)]
     simp only [zM,List.getElem?_map,List.getElem?_range hj,Option.map_some]
     have:(acc ++ [m]).getD j mv0 = acc.getD j mv0 := by
       by_cases hl:j < acc.length
       · exact getD_append_lt _ _ _ _ hl
       · rw [List.getD_eq_getElem?_getD,List.getD_eq_getElem?_getD,List.getElem?_eq_none (by simp; omega),List.getElem?_eq_none (by omega)]
     rw [this]
 · rw [List.getElem?_eq_none (by rw [List.length_set,zM_len]; omega),List.getElem?_eq_none (by rw [zM_len]; omega)]
end
section
open Go
set_option maxRecDepth 20000
noncomputable abbrev chloads_S1 (y1 y2 y3:Int) (y4:Bool) (y5:Value) (y6:List L15) (y7 y8 y9:Int) (y10 y11:L3) (y12:List Int) (y13 y14:L3) (y15:List Int) (y16 y17:L3) (y18:List Int) (y19:Bool) (y20:List L34) (y21 y22:L3) (y23:List Int) (y24 y25:L3) (y26:List Int) (y27 y28 y29 y30 y31 y32 y33 y34 y35 y36 y37 y38 y39 y40 y41 y42 y43:Int) (y44:Bool) (y45 y46 y47 y48 y49 y50 y51 y52 y53 y54 y55 y56 y57 y58 y59 y60 y61 y62 y63 y64 y65 y66:Int):St := St.mk (some (SV.ptr (nat_lit 15) (nat_lit 0)) :: none :: some (SV.ptr (nat_lit 2) (nat_lit 0)) :: none :: some (SV.ptr (nat_lit 17) (nat_lit 0)) :: some (SV.ptr (nat_lit 14) (nat_lit 0)) :: some (SV.ptr (nat_lit 21) (nat_lit 0)) :: some (SV.int .i64 y1) :: some (SV.ptr (nat_lit 25) (nat_lit 0)) :: some (SV.ptr (nat_lit 26) (nat_lit 0)) :: some (SV.ptr (nat_lit 27) (nat_lit 0)) :: nn 49 (some (SV.sl (nat_lit 16)) :: some (SV.int .i64 y2) :: some (SV.int .i64 y3) :: nn 67 ([]))) [.cells [SV.bool y4] (nat_lit 28),.cells [SV.ros y5 (K.st (LK.i IntKind.i64) [LK.i IntKind.i64,LK.i IntKind.i64,LK.i IntKind.i64,LK.i IntKind.i64,LK.i IntKind.i64,LK.i IntKind.i64,LK.i IntKind.i64,LK.i IntKind.i64,LK.i IntKind.i64,LK.b,LK.i IntKind.i64,LK.i IntKind.i64,LK.i IntKind.i64,LK.i IntKind.i64]) y6] (nat_lit 22),.cells [SV.int .i64 y7,SV.int .i64 y8,SV.int .i64 y9] (nat_lit 24),.seq kP y10 (nat_lit 24),.seq kP y11 (nat_lit 24),.seq (K.int IntKind.i64) y12 (nat_lit 3),.seq kP y13 (nat_lit 24),.seq kP y14 (nat_lit 24),.seq (K.int IntKind.i64) y15 (nat_lit 3),.cells [SV.sl (nat_lit 6),SV.sl (nat_lit 7),SV.sl (nat_lit 8)] (nat_lit 88),.seq kP y16 (nat_lit 24),.seq kP y17 (nat_lit 24),.seq (K.int IntKind.i64) y18 (nat_lit 3),.cells [SV.sl (nat_lit 10),SV.sl (nat_lit 11),SV.sl (nat_lit 12)] (nat_lit 88),.cells [SV.bool y19] (nat_lit 28),.cells [SV.ptr (nat_lit 14) (nat_lit 0),SV.sl (nat_lit 16)] (nat_lit 69),SObj.seq (K.st (LK.i IntKind.i64) (LK.i IntKind.i64 :: LK.i IntKind.i64 :: LK.i IntKind.i64 :: LK.i IntKind.i64 :: LK.i IntKind.i64 :: LK.i IntKind.i64 :: LK.i IntKind.i64 :: LK.i IntKind.i64 :: LK.i IntKind.i64 :: LK.i IntKind.i64 :: LK.i IntKind.i64 :: LK.i IntKind.i64 :: LK.i IntKind.i64 :: LK.i IntKind.i64 :: LK.i IntKind.i64 :: LK.i IntKind.i64 :: LK.b :: LK.i IntKind.i64 :: LK.i IntKind.i64 :: LK.i IntKind.i64 :: LK.i IntKind.i64 :: LK.i IntKind.i64 :: LK.i IntKind.i64 :: LK.i IntKind.i64 :: LK.i IntKind.i64 :: LK.i IntKind.i64 :: LK.i IntKind.i64 :: LK.i IntKind.i64 :: LK.i IntKind.i64 :: LK.i IntKind.i64 :: LK.i IntKind.i64 :: LK.i IntKind.i64 :: LK.i IntKind.i64 :: List.nil)) y20 (nat_lit 71),.cells [SV.sl (nat_lit 18),SV.sl (nat_lit 19),SV.sl (nat_lit 20)] (nat_lit 88),.seq kP y21 (nat_lit 24),.seq kP y22 (nat_lit 24),.seq (K.int IntKind.i64) y23 (nat_lit 3),.cells [SV.sl (nat_lit 22),SV.sl (nat_lit 23),SV.sl (nat_lit 24)] (nat_lit 88),.seq kP y24 (nat_lit 24),.seq kP y25 (nat_lit 24),.seq (K.int IntKind.i64) y26 (nat_lit 3),SObj.cells [SV.int .i64 y27,SV.int .i64 y28,SV.int .i64 y29,SV.int .i64 y30,SV.int .i64 y31,SV.int .i64 y32,SV.int .i64 y33,SV.int .i64 y34,SV.int .i64 y35,SV.int .i64 y36,SV.int .i64 y37,SV.int .i64 y38,SV.int .i64 y39,SV.int .i64 y40,SV.int .i64 y41,SV.int .i64 y42,SV.int .i64 y43,SV.bool y44,SV.int .i64 y45,SV.int .i64 y46,SV.int .i64 y47,SV.int .i64 y48,SV.int .i64 y49,SV.int .i64 y50,SV.int .i64 y51,SV.int .i64 y52,SV.int .i64 y53,SV.int .i64 y54,SV.int .i64 y55,SV.int .i64 y56,SV.int .i64 y57,SV.int .i64 y58,SV.int .i64 y59,SV.int .i64 y60] (nat_lit 71),.cells [SV.int .i64 y61,SV.int .i64 y62,SV.int .i64 y63] (nat_lit 24),.cells [SV.int .i64 y64,SV.int .i64 y65,SV.int .i64 y66] (nat_lit 24)]
noncomputable abbrev chloads_S2 (y1:Int) (y2:Bool) (y3:Value) (y4:List L15) (y5 y6 y7:Int) (y8 y9:L3) (y10:List Int) (y11 y12:L3) (y13:List Int) (y14 y15:L3) (y16:List Int) (y17:Bool) (y18:List L34) (y19 y20:L3) (y21:List Int) (y22 y23:L3) (y24:List Int) (y25 y26 y27 y28 y29 y30 y31 y32 y33 y34 y35 y36 y37 y38 y39 y40 y41:Int) (y42:Bool) (y43 y44 y45 y46 y47 y48 y49 y50 y51 y52 y53 y54 y55 y56 y57 y58 y59 y60 y61 y62 y63 y64:Int):St := St.mk (some (SV.ptr (nat_lit 15) (nat_lit 0)) :: none :: some (SV.ptr (nat_lit 2) (nat_lit 0)) :: none :: some (SV.ptr (nat_lit 17) (nat_lit 0)) :: some (SV.ptr (nat_lit 14) (nat_lit 0)) :: some (SV.ptr (nat_lit 21) (nat_lit 0)) :: some (SV.int .i64 y1) :: some (SV.ptr (nat_lit 25) (nat_lit 0)) :: some (SV.ptr (nat_lit 26) (nat_lit 0)) :: some (SV.ptr (nat_lit 27) (nat_lit 0)) :: nn 119 ([])) [.cells [SV.bool y2] (nat_lit 28),.cells [SV.ros y3 (K.st (LK.i IntKind.i64) [LK.i IntKind.i64,LK.i IntKind.i64,LK.i IntKind.i64,LK.i IntKind.i64,LK.i IntKind.i64,LK.i IntKind.i64,LK.i IntKind.i64,LK.i IntKind.i64,LK.i IntKind.i64,LK.b,LK.i IntKind.i64,LK.i IntKind.i64,LK.i IntKind.i64,LK.i IntKind.i64]) y4] (nat_lit 22),.cells [SV.int .i64 y5,SV.int .i64 y6,SV.int .i64 y7] (nat_lit 24),.seq kP y8 (nat_lit 24),.seq kP y9 (nat_lit 24),.seq (K.int IntKind.i64) y10 (nat_lit 3),.seq kP y11 (nat_lit 24),.seq kP y12 (nat_lit 24),.seq (K.int IntKind.i64) y13 (nat_lit 3),.cells [SV.sl (nat_lit 6),SV.sl (nat_lit 7),SV.sl (nat_lit 8)] (nat_lit 88),.seq kP y14 (nat_lit 24),.seq kP y15 (nat_lit 24),.seq (K.int IntKind.i64) y16 (nat_lit 3),.cells [SV.sl (nat_lit 10),SV.sl (nat_lit 11),SV.sl (nat_lit 12)] (nat_lit 88),.cells [SV.bool y17] (nat_lit 28),.cells [SV.ptr (nat_lit 14) (nat_lit 0),SV.sl (nat_lit 16)] (nat_lit 69),SObj.seq (K.st (LK.i IntKind.i64) (LK.i IntKind.i64 :: LK.i IntKind.i64 :: LK.i IntKind.i64 :: LK.i IntKind.i64 :: LK.i IntKind.i64 :: LK.i IntKind.i64 :: LK.i IntKind.i64 :: LK.i IntKind.i64 :: LK.i IntKind.i64 :: LK.i IntKind.i64 :: LK.i IntKind.i64 :: LK.i IntKind.i64 :: LK.i IntKind.i64 :: LK.i IntKind.i64 :: LK.i IntKind.i64 :: LK.i IntKind.i64 :: LK.b :: LK.i IntKind.i64 :: LK.i IntKind.i64 :: LK.i IntKind.i64 :: LK.i IntKind.i64 :: LK.i IntKind.i64 :: LK.i IntKind.i64 :: LK.i IntKind.i64 :: LK.i IntKind.i64 :: LK.i IntKind.i64 :: LK.i IntKind.i64 :: LK.i IntKind.i64 :: LK.i IntKind.i64 :: LK.i IntKind.i64 :: LK.i IntKind.i64 :: LK.i IntKind.i64 :: LK.i IntKind.i64 :: List.nil)) y18 (nat_lit 71),.cells [SV.sl (nat_lit 18),SV.sl (nat_lit 19),SV.sl (nat_lit 20)] (nat_lit 88),.seq kP y19 (nat_lit 24),.seq kP y20 (nat_lit 24),.seq (K.int IntKind.i64) y21 (nat_lit 3),.cells [SV.sl (nat_lit 22),SV.sl (nat_lit 23),SV.sl (nat_lit 24)] (nat_lit 88),.seq kP y22 (nat_lit 24),.seq kP y23 (nat_lit 24),.seq (K.int IntKind.i64) y24 (nat_lit 3),SObj.cells [SV.int .i64 y25,SV.int .i64 y26,SV.int .i64 y27,SV.int .i64 y28,SV.int .i64 y29,SV.int .i64 y30,SV.int .i64 y31,SV.int .i64 y32,SV.int .i64 y33,SV.int .i64 y34,SV.int .i64 y35,SV.int .i64 y36,SV.int .i64 y37,SV.int .i64 y38,SV.int .i64 y39,SV.int .i64 y40,SV.int .i64 y41,SV.bool y42,SV.int .i64 y43,SV.int .i64 y44,SV.int .i64 y45,SV.int .i64 y46,SV.int .i64 y47,SV.int .i64 y48,SV.int .i64 y49,SV.int .i64 y50,SV.int .i64 y51,SV.int .i64 y52,SV.int .i64 y53,SV.int .i64 y54,SV.int .i64 y55,SV.int .i64 y56,SV.int .i64 y57,SV.int .i64 y58] (nat_lit 71),.cells [SV.int .i64 y59,SV.int .i64 y60,SV.int .i64 y61] (nat_lit 24),.cells [SV.int .i64 y62,SV.int .i64 y63,SV.int .i64 y64] (nat_lit 24)]
noncomputable abbrev chloads_S3:St := St.mk (some (SV.ptr (nat_lit 15) (nat_lit 0)) :: none :: some (SV.ptr (nat_lit 2) (nat_lit 0)) :: none :: some (SV.ptr (nat_lit 17) (nat_lit 0)) :: some (SV.ptr (nat_lit 14) (nat_lit 0)) :: some (SV.ptr (nat_lit 21) (nat_lit 0)) :: some (SV.int .i64 (0:Int)) :: some (SV.ptr (nat_lit 25) (nat_lit 0)) :: some (SV.ptr (nat_lit 26) (nat_lit 0)) :: some (SV.ptr (nat_lit 27) (nat_lit 0)) :: nn 49 (some (SV.sl (nat_lit 16)) :: some (SV.int .i64 (0:Int)) :: some (SV.int .i64 (0:Int)) :: nn 67 ([]))) [.cells [SV.bool false] (nat_lit 28),.cells [SV.ros undef (K.st (LK.i IntKind.i64) [LK.i IntKind.i64,LK.i IntKind.i64,LK.i IntKind.i64,LK.i IntKind.i64,LK.i IntKind.i64,LK.i IntKind.i64,LK.i IntKind.i64,LK.i IntKind.i64,LK.i IntKind.i64,LK.b,LK.i IntKind.i64,LK.i IntKind.i64,LK.i IntKind.i64,LK.i IntKind.i64]) []] (nat_lit 22),.cells [SV.int .i64 (0:Int),SV.int .i64 (0:Int),SV.int .i64 (0:Int)] (nat_lit 24),.seq kP [] (nat_lit 24),.seq kP [] (nat_lit 24),.seq (K.int IntKind.i64) [] (nat_lit 3),.seq kP [] (nat_lit 24),.seq kP [] (nat_lit 24),.seq (K.int IntKind.i64) [] (nat_lit 3),.cells [SV.sl (nat_lit 6),SV.sl (nat_lit 7),SV.sl (nat_lit 8)] (nat_lit 88),.seq kP [] (nat_lit 24),.seq kP [] (nat_lit 24),.seq (K.int IntKind.i64) [] (nat_lit 3),.cells [SV.sl (nat_lit 10),SV.sl (nat_lit 11),SV.sl (nat_lit 12)] (nat_lit 88),.cells [SV.bool false] (nat_lit 28),.cells [SV.ptr (nat_lit 14) (nat_lit 0),SV.sl (nat_lit 16)] (nat_lit 69),SObj.seq (K.st (LK.i IntKind.i64) (LK.i IntKind.i64 :: LK.i IntKind.i64 :: LK.i IntKind.i64 :: LK.i IntKind.i64 :: LK.i IntKind.i64 :: LK.i IntKind.i64 :: LK.i IntKind.i64 :: LK.i IntKind.i64 :: LK.i IntKind.i64 :: LK.i IntKind.i64 :: LK.i IntKind.i64 :: LK.i IntKind.i64 :: LK.i IntKind.i64 :: LK.i IntKind.i64 :: LK.i IntKind.i64 :: LK.i IntKind.i64 :: LK.b :: LK.i IntKind.i64 :: LK.i IntKind.i64 :: LK.i IntKind.i64 :: LK.i IntKind.i64 :: LK.i IntKind.i64 :: LK.i IntKind.i64 :: LK.i IntKind.i64 :: LK.i IntKind.i64 :: LK.i IntKind.i64 :: LK.i IntKind.i64 :: LK.i IntKind.i64 :: LK.i IntKind.i64 :: LK.i IntKind.i64 :: LK.i IntKind.i64 :: LK.i IntKind.i64 :: LK.i IntKind.i64 :: List.nil)) [] (nat_lit 71),.cells [SV.sl (nat_lit 18),SV.sl (nat_lit 19),SV.sl (nat_lit 20)] (nat_lit 88),.seq kP [] (nat_lit 24),.seq kP [] (nat_lit 24),.seq (K.int IntKind.i64) [] (nat_lit 3),.cells [SV.sl (nat_lit 22),SV.sl (nat_lit 23),SV.sl (nat_lit 24)] (nat_lit 88),.seq kP [] (nat_lit 24),.seq kP [] (nat_lit 24),.seq (K.int IntKind.i64) [] (nat_lit 3),SObj.cells [SV.int .i64 (0:Int),SV.int .i64 (0:Int),SV.int .i64 (0:Int),SV.int .i64 (0:Int),SV.int .i64 (0:Int),SV.int .i64 (0:Int),SV.int .i64 (0:Int),SV.int .i64 (0:Int),SV.int .i64 (0:Int),SV.int .i64 (0:Int),SV.int .i64 (0:Int),SV.int .i64 (0:Int),SV.int .i64 (0:Int),SV.int .i64 (0:Int),SV.int .i64 (0:Int),SV.int .i64 (0:Int),SV.int .i64 (0:Int),SV.bool false,SV.int .i64 (0:Int),SV.int .i64 (0:Int),SV.int .i64 (0:Int),SV.int .i64 (0:Int),SV.int .i64 (0:Int),SV.int .i64 (0:Int),SV.int .i64 (0:Int),SV.int .i64 (0:Int),SV.int .i64 (0:Int),SV.int .i64 (0:Int),SV.int .i64 (0:Int),SV.int .i64 (0:Int),SV.int .i64 (0:Int),SV.int .i64 (0:Int),SV.int .i64 (0:Int),SV.int .i64 (0:Int)] (nat_lit 71),.cells [SV.int .i64 (0:Int),SV.int .i64 (0:Int),SV.int .i64 (0:Int)] (nat_lit 24),.cells [SV.int .i64 (0:Int),SV.int .i64 (0:Int),SV.int .i64 (0:Int)] (nat_lit 24)]
noncomputable abbrev chloads_S4 (y1:Int) (y2:Bool) (y3:Value) (y4:List L15) (y5 y6 y7:Int) (y8 y9:L3) (y10:List Int) (y11 y12:L3) (y13:List Int) (y14 y15:L3) (y16:List Int) (y17:Bool) (y18:List L34) (y19 y20:L3) (y21:List Int) (y22 y23:L3) (y24:List Int):St := St.mk (some (SV.ptr (nat_lit 15) (nat_lit 0)) :: none :: some (SV.ptr (nat_lit 2) (nat_lit 0)) :: none :: some (SV.ptr (nat_lit 17) (nat_lit 0)) :: some (SV.ptr (nat_lit 14) (nat_lit 0)) :: some (SV.ptr (nat_lit 21) (nat_lit 0)) :: some (SV.int .i64 y1) :: nn 122 ([])) [.cells [SV.bool y2] (nat_lit 28),.cells [SV.ros y3 (K.st (LK.i IntKind.i64) [LK.i IntKind.i64,LK.i IntKind.i64,LK.i IntKind.i64,LK.i IntKind.i64,LK.i IntKind.i64,LK.i IntKind.i64,LK.i IntKind.i64,LK.i IntKind.i64,LK.i IntKind.i64,LK.b,LK.i IntKind.i64,LK.i IntKind.i64,LK.i IntKind.i64,LK.i IntKind.i64]) y4] (nat_lit 22),.cells [SV.int .i64 y5,SV.int .i64 y6,SV.int .i64 y7] (nat_lit 24),.seq kP y8 (nat_lit 24),.seq kP y9 (nat_lit 24),.seq (K.int IntKind.i64) y10 (nat_lit 3),.seq kP y11 (nat_lit 24),.seq kP y12 (nat_lit 24),.seq (K.int IntKind.i64) y13 (nat_lit 3),.cells [SV.sl (nat_lit 6),SV.sl (nat_lit 7),SV.sl (nat_lit 8)] (nat_lit 88),.seq kP y14 (nat_lit 24),.seq kP y15 (nat_lit 24),.seq (K.int IntKind.i64) y16 (nat_lit 3),.cells [SV.sl (nat_lit 10),SV.sl (nat_lit 11),SV.sl (nat_lit 12)] (nat_lit 88),.cells [SV.bool y17] (nat_lit 28),.cells [SV.ptr (nat_lit 14) (nat_lit 0),SV.sl (nat_lit 16)] (nat_lit 69),SObj.seq (K.st (LK.i IntKind.i64) (LK.i IntKind.i64 :: LK.i IntKind.i64 :: LK.i IntKind.i64 :: LK.i IntKind.i64 :: LK.i IntKind.i64 :: LK.i IntKind.i64 :: LK.i IntKind.i64 :: LK.i IntKind.i64 :: LK.i IntKind.i64 :: LK.i IntKind.i64 :: LK.i IntKind.i64 :: LK.i IntKind.i64 :: LK.i IntKind.i64 :: LK.i IntKind.i64 :: LK.i IntKind.i64 :: LK.i IntKind.i64 :: LK.b :: LK.i IntKind.i64 :: LK.i IntKind.i64 :: LK.i IntKind.i64 :: LK.i IntKind.i64 :: LK.i IntKind.i64 :: LK.i IntKind.i64 :: LK.i IntKind.i64 :: LK.i IntKind.i64 :: LK.i IntKind.i64 :: LK.i IntKind.i64 :: LK.i IntKind.i64 :: LK.i IntKind.i64 :: LK.i IntKind.i64 :: LK.i IntKind.i64 :: LK.i IntKind.i64 :: LK.i IntKind.i64 :: List.nil)) y18 (nat_lit 71),.cells [SV.sl (nat_lit 18),SV.sl (nat_lit 19),SV.sl (nat_lit 20)] (nat_lit 88),.seq kP y19 (nat_lit 24),.seq kP y20 (nat_lit 24),.seq (K.int IntKind.i64) y21 (nat_lit 3),.cells [SV.sl (nat_lit 22),SV.sl (nat_lit 23),SV.sl (nat_lit 24)] (nat_lit 88),.seq kP y22 (nat_lit 24),.seq kP y23 (nat_lit 24),.seq (K.int IntKind.i64) y24 (nat_lit 3)]
noncomputable abbrev chloads_S5 (y1:Bool) (y2:Value) (y3:List L15) (y4 y5 y6:Int) (y7 y8:L3) (y9:List Int) (y10 y11:L3) (y12:List Int) (y13 y14:L3) (y15:List Int) (y16:Bool) (y17:List L34) (y18 y19:L3) (y20:List Int) (y21 y22:L3) (y23:List Int):St := St.mk (nn 4 (some (SV.ptr (nat_lit 17) (nat_lit 0)) :: none :: some (SV.ptr (nat_lit 21) (nat_lit 0)) :: nn 123 ([]))) [.cells [SV.bool y1] (nat_lit 28),.cells [SV.ros y2 (K.st (LK.i IntKind.i64) [LK.i IntKind.i64,LK.i IntKind.i64,LK.i IntKind.i64,LK.i IntKind.i64,LK.i IntKind.i64,LK.i IntKind.i64,LK.i IntKind.i64,LK.i IntKind.i64,LK.i IntKind.i64,LK.b,LK.i IntKind.i64,LK.i IntKind.i64,LK.i IntKind.i64,LK.i IntKind.i64]) y3] (nat_lit 22),.cells [SV.int .i64 y4,SV.int .i64 y5,SV.int .i64 y6] (nat_lit 24),.seq kP y7 (nat_lit 24),.seq kP y8 (nat_lit 24),.seq (K.int IntKind.i64) y9 (nat_lit 3),.seq kP y10 (nat_lit 24),.seq kP y11 (nat_lit 24),.seq (K.int IntKind.i64) y12 (nat_lit 3),.cells [SV.sl (nat_lit 6),SV.sl (nat_lit 7),SV.sl (nat_lit 8)] (nat_lit 88),.seq kP y13 (nat_lit 24),.seq kP y14 (nat_lit 24),.seq (K.int IntKind.i64) y15 (nat_lit 3),.cells [SV.sl (nat_lit 10),SV.sl (nat_lit 11),SV.sl (nat_lit 12)] (nat_lit 88),.cells [SV.bool y16] (nat_lit 28),.cells [SV.ptr (nat_lit 14) (nat_lit 0),SV.sl (nat_lit 16)] (nat_lit 69),SObj.seq (K.st (LK.i IntKind.i64) (LK.i IntKind.i64 :: LK.i IntKind.i64 :: LK.i IntKind.i64 :: LK.i IntKind.i64 :: LK.i IntKind.i64 :: LK.i IntKind.i64 :: LK.i IntKind.i64 :: LK.i IntKind.i64 :: LK.i IntKind.i64 :: LK.i IntKind.i64 :: LK.i IntKind.i64 :: LK.i IntKind.i64 :: LK.i IntKind.i64 :: LK.i IntKind.i64 :: LK.i IntKind.i64 :: LK.i IntKind.i64 :: LK.b :: LK.i IntKind.i64 :: LK.i IntKind.i64 :: LK.i IntKind.i64 :: LK.i IntKind.i64 :: LK.i IntKind.i64 :: LK.i IntKind.i64 :: LK.i IntKind.i64 :: LK.i IntKind.i64 :: LK.i IntKind.i64 :: LK.i IntKind.i64 :: LK.i IntKind.i64 :: LK.i IntKind.i64 :: LK.i IntKind.i64 :: LK.i IntKind.i64 :: LK.i IntKind.i64 :: LK.i IntKind.i64 :: List.nil)) y17 (nat_lit 71),.cells [SV.sl (nat_lit 18),SV.sl (nat_lit 19),SV.sl (nat_lit 20)] (nat_lit 88),.seq kP y18 (nat_lit 24),.seq kP y19 (nat_lit 24),.seq (K.int IntKind.i64) y20 (nat_lit 3),.cells [SV.sl (nat_lit 22),SV.sl (nat_lit 23),SV.sl (nat_lit 24)] (nat_lit 88),.seq kP y21 (nat_lit 24),.seq kP y22 (nat_lit 24),.seq (K.int IntKind.i64) y23 (nat_lit 3)]
noncomputable abbrev chloads_S6:St := St.mk (some (SV.ptr (nat_lit 15) (nat_lit 0)) :: none :: some (SV.ptr (nat_lit 2) (nat_lit 0)) :: none :: some (SV.ptr (nat_lit 17) (nat_lit 0)) :: some (SV.ptr (nat_lit 14) (nat_lit 0)) :: some (SV.ptr (nat_lit 21) (nat_lit 0)) :: some (SV.int .i64 (0:Int)) :: nn 122 ([])) [.cells [SV.bool false] (nat_lit 28),.cells [SV.ros undef (K.st (LK.i IntKind.i64) [LK.i IntKind.i64,LK.i IntKind.i64,LK.i IntKind.i64,LK.i IntKind.i64,LK.i IntKind.i64,LK.i IntKind.i64,LK.i IntKind.i64,LK.i IntKind.i64,LK.i IntKind.i64,LK.b,LK.i IntKind.i64,LK.i IntKind.i64,LK.i IntKind.i64,LK.i IntKind.i64]) []] (nat_lit 22),.cells [SV.int .i64 (0:Int),SV.int .i64 (0:Int),SV.int .i64 (0:Int)] (nat_lit 24),.seq kP [] (nat_lit 24),.seq kP [] (nat_lit 24),.seq (K.int IntKind.i64) [] (nat_lit 3),.seq kP [] (nat_lit 24),.seq kP [] (nat_lit 24),.seq (K.int IntKind.i64) [] (nat_lit 3),.cells [SV.sl (nat_lit 6),SV.sl (nat_lit 7),SV.sl (nat_lit 8)] (nat_lit 88),.seq kP [] (nat_lit 24),.seq kP [] (nat_lit 24),.seq (K.int IntKind.i64) [] (nat_lit 3),.cells [SV.sl (nat_lit 10),SV.sl (nat_lit 11),SV.sl (nat_lit 12)] (nat_lit 88),.cells [SV.bool false] (nat_lit 28),.cells [SV.ptr (nat_lit 14) (nat_lit 0),SV.sl (nat_lit 16)] (nat_lit 69),SObj.seq (K.st (LK.i IntKind.i64) (LK.i IntKind.i64 :: LK.i IntKind.i64 :: LK.i IntKind.i64 :: LK.i IntKind.i64 :: LK.i IntKind.i64 :: LK.i IntKind.i64 :: LK.i IntKind.i64 :: LK.i IntKind.i64 :: LK.i IntKind.i64 :: LK.i IntKind.i64 :: LK.i IntKind.i64 :: LK.i IntKind.i64 :: LK.i IntKind.i64 :: LK.i IntKind.i64 :: LK.i IntKind.i64 :: LK.i IntKind.i64 :: LK.b :: LK.i IntKind.i64 :: LK.i IntKind.i64 :: LK.i IntKind.i64 :: LK.i IntKind.i64 :: LK.i IntKind.i64 :: LK.i IntKind.i64 :: LK.i IntKind.i64 :: LK.i IntKind.i64 :: LK.i IntKind.i64 :: LK.i IntKind.i64 :: LK.i IntKind.i64 :: LK.i IntKind.i64 :: LK.i IntKind.i64 :: LK.i IntKind.i64 :: LK.i IntKind.i64 :: LK.i IntKind.i64 :: List.nil)) [] (nat_lit 71),.cells [SV.sl (nat_lit 18),SV.sl (nat_lit 19),SV.sl (nat_lit 20)] (nat_lit 88),.seq kP [] (nat_lit 24),.seq kP [] (nat_lit 24),.seq (K.int IntKind.i64) [] (nat_lit 3),.cells [SV.sl (nat_lit 22),SV.sl (nat_lit 23),SV.sl (nat_lit 24)] (nat_lit 88),.seq kP [] (nat_lit 24),.seq kP [] (nat_lit 24),.seq (K.int IntKind.i64) [] (nat_lit 3)]
abbrev chloads_P1:List Bool := [false,true,false,true,true,true,false,false,true,false,false,true,false,true,true,true]
abbrev chloads_P2:List Bool := [false,true,false,true,true,true]
noncomputable def M.chloads_l0_step {α:Type} (x115 x116:Int) (x134:List L34) (x138 x139:L3) (x141 x142 x143:Int) (kn:Int → Bool → Int → Int → Int → Int → Int → Int → Option α) (k1:Bool → Int → Int → Int → Int → Int → Int → Option α) (x117:Int) (x133:Bool) (x175 x176 x177 x178 x179 x180:Int):Option α := let s181 := List.getD x138 (Int.toNat x117) ((0:Int),(0:Int),(0:Int)); let s182 := V.tAdd (x175,x176,x177) s181; let s183 := V.tAdd (x178,x179,x180) (List.getD x139 (Int.toNat x117) ((0:Int),(0:Int),(0:Int))); let s184 := List.getD x134 (Int.toNat x117) ((0:Int),(0:Int),(0:Int),(0:Int),(0:Int),(0:Int),(0:Int),(0:Int),(0:Int),(0:Int),(0:Int),(0:Int),(0:Int),(0:Int),(0:Int),(0:Int),(0:Int),false,(0:Int),(0:Int),(0:Int),(0:Int),(0:Int),(0:Int),(0:Int),(0:Int),(0:Int),(0:Int),(0:Int),(0:Int),(0:Int),(0:Int),(0:Int),(0:Int)); let s185 := Prod.snd s184; let s186 := Prod.snd s185; let s187 := V.tSub (Prod.fst s184,Prod.fst s185,Prod.fst s186) (x141,x142,x143); let s188 := V.tCross (V.q3 s187) s181; let s189 := V.tAdd (V.q3 s183) (V.q3 s188); if cLt x117 x116 = true then if (0:Int) ≤ x117 ∧ x117 < (↑(List.length x134):Int) then if cEq (Prod.fst (Prod.snd (Prod.snd (Prod.snd (Prod.snd (Prod.snd s186)))))) x115 = true then if (0:Int) ≤ x117 ∧ x117 < (↑(List.length x138):Int) then if (0:Int) ≤ x117 ∧ x117 < (↑(List.length x139):Int) then if (0:Int) ≤ x117 ∧ x117 < (↑(List.length x138):Int) then kn (IntKind.wrap .i64 (x117 + (1:Int))) (V.on s189 (V.on s188 (V.on s187 (V.on s183 (V.on s182 x133))))) (V.x3 s182) (V.y3 s182) (V.z3 s182) (V.x3 s189) (V.y3 s189) (V.z3 s189) else none else none else none else kn (IntKind.wrap .i64 (x117 + (1:Int))) x133 x175 x176 x177 x178 x179 x180 else none else k1 x133 x175 x176 x177 x178 x179 x180
noncomputable def M.chloads_l0 {α:Type} (x115 x116:Int) (x134:List L34) (x138 x139:L3) (x141 x142 x143:Int) (k1:Bool → Int → Int → Int → Int → Int → Int → Option α):Nat → Int → Bool → Int → Int → Int → Int → Int → Int → Option α
 | 0,_,_,_,_,_,_,_,_ => none
 | n + 1,x117,x133,x175,x176,x177,x178,x179,x180 => M.chloads_l0_step x115 x116 x134 x138 x139 x141 x142 x143 (M.chloads_l0 x115 x116 x134 x138 x139 x141 x142 x143 k1 n) k1 x117 x133 x175 x176 x177 x178 x179 x180
theorem chloads_l0_step_eq {α:Type} (x115 x116 x117:Int) (x118:Bool) (x119:Value) (x120:List L15) (x121 x122 x123:Int) (x124 x125:L3) (x126:List Int) (x127 x128:L3) (x129:List Int) (x130 x131:L3) (x132:List Int) (x133:Bool) (x134:List L34) (x135 x136:L3) (x137:List Int) (x138 x139:L3) (x140:List Int) (x141 x142 x143 x144 x145 x146 x147 x148 x149 x150 x151 x152 x153 x154 x155 x156 x157:Int) (x158:Bool) (x159 x160 x161 x162 x163 x164 x165 x166 x167 x168 x169 x170 x171 x172 x173 x174 x175 x176 x177 x178 x179 x180:Int) (Q:Ex → St → Option α):(loopStep E (exec E look_chawake noLps 400) 47 chloads_P1 17 (codeAt E.P 47 chloads_P1)) (chloads_S1 x115 x116 x117 x118 x119 x120 x121 x122 x123 x124 x125 x126 x127 x128 x129 x130 x131 x132 x133 x134 x135 x136 x137 x138 x139 x140 x141 x142 x143 x144 x145 x146 x147 x148 x149 x150 x151 x152 x153 x154 x155 x156 x157 x158 x159 x160 x161 x162 x163 x164 x165 x166 x167 x168 x169 x170 x171 x172 x173 x174 x175 x176 x177 x178 x179 x180) Q = M.chloads_l0_step x115 x116 x134 x138 x139 x141 x142 x143 (fun (x197:Int) (x198:Bool) (x199 x200 x201 x202 x203 x204:Int) => Q .normal (chloads_S1 x115 x116 x197 x118 x119 x120 x121 x122 x123 x124 x125 x126 x127 x128 x129 x130 x131 x132 x198 x134 x135 x136 x137 x138 x139 x140 x141 x142 x143 x144 x145 x146 x147 x148 x149 x150 x151 x152 x153 x154 x155 x156 x157 x158 x159 x160 x161 x162 x163 x164 x165 x166 x167 x168 x169 x170 x171 x172 x173 x174 x199 x200 x201 x202 x203 x204)) (fun (x190:Bool) (x191 x192 x193 x194 x195 x196:Int) => Q (.exit 2) (chloads_S2 x115 x118 x119 x120 x121 x122 x123 x124 x125 x126 x127 x128 x129 x130 x131 x132 x190 x134 x135 x136 x137 x138 x139 x140 x141 x142 x143 x144 x145 x146 x147 x148 x149 x150 x151 x152 x153 x154 x155 x156 x157 x158 x159 x160 x161 x162 x163 x164 x165 x166 x167 x168 x169 x170 x171 x172 x173 x174 x191 x192 x193 x194 x195 x196)) x117 x133 x175 x176 x177 x178 x179 x180 := by kernel_rfl
theorem chloads_l0_iter {α:Type} (x115 x116:Int) (x118:Bool) (x119:Value) (x120:List L15) (x121 x122 x123:Int) (x124 x125:L3) (x126:List Int) (x127 x128:L3) (x129:List Int) (x130 x131:L3) (x132:List Int) (x134:List L34) (x135 x136:L3) (x137:List Int) (x138 x139:L3) (x140:List Int) (x141 x142 x143 x144 x145 x146 x147 x148 x149 x150 x151 x152 x153 x154 x155 x156 x157:Int) (x158:Bool) (x159 x160 x161 x162 x163 x164 x165 x166 x167 x168 x169 x170 x171 x172 x173 x174:Int) (Q:Ex → St → Option α):∀ (n:Nat) (x117:Int) (x133:Bool) (x175 x176 x177 x178 x179 x180:Int),iter (loopStep E (exec E look_chawake noLps 400) 47 chloads_P1 17 (codeAt E.P 47 chloads_P1)) n (chloads_S1 x115 x116 x117 x118 x119 x120 x121 x122 x123 x124 x125 x126 x127 x128 x129 x130 x131 x132 x133 x134 x135 x136 x137 x138 x139 x140 x141 x142 x143 x144 x145 x146 x147 x148 x149 x150 x151 x152 x153 x154 x155 x156 x157 x158 x159 x160 x161 x162 x163 x164 x165 x166 x167 x168 x169 x170 x171 x172 x173 x174 x175 x176 x177 x178 x179 x180) Q = M.chloads_l0 x115 x116 x134 x138 x139 x141 x142 x143 (fun (x190:Bool) (x191 x192 x193 x194 x195 x196:Int) => Q (.exit 2) (chloads_S2 x115 x118 x119 x120 x121 x122 x123 x124 x125 x126 x127 x128 x129 x130 x131 x132 x190 x134 x135 x136 x137 x138 x139 x140 x141 x142 x143 x144 x145 x146 x147 x148 x149 x150 x151 x152 x153 x154 x155 x156 x157 x158 x159 x160 x161 x162 x163 x164 x165 x166 x167 x168 x169 x170 x171 x172 x173 x174 x191 x192 x193 x194 x195 x196)) n x117 x133 x175 x176 x177 x178 x179 x180
 | 0,_,_,_,_,_,_,_,_ => rfl
 | n + 1,x117,x133,x175,x176,x177,x178,x179,x180 => (chloads_l0_step_eq x115 x116 x117 x118 x119 x120 x121 x122 x123 x124 x125 x126 x127 x128 x129 x130 x131 x132 x133 x134 x135 x136 x137 x138 x139 x140 x141 x142 x143 x144 x145 x146 x147 x148 x149 x150 x151 x152 x153 x154 x155 x156 x157 x158 x159 x160 x161 x162 x163 x164 x165 x166 x167 x168 x169 x170 x171 x172 x173 x174 x175 x176 x177 x178 x179 x180 (iterK (loopStep E (exec E look_chawake noLps 400) 47 chloads_P1 17 (codeAt E.P 47 chloads_P1)) n Q)).trans (congrArg (fun kn => M.chloads_l0_step x115 x116 x134 x138 x139 x141 x142 x143 kn (fun (x190:Bool) (x191 x192 x193 x194 x195 x196:Int) => Q (.exit 2) (chloads_S2 x115 x118 x119 x120 x121 x122 x123 x124 x125 x126 x127 x128 x129 x130 x131 x132 x190 x134 x135 x136 x137 x138 x139 x140 x141 x142 x143 x144 x145 x146 x147 x148 x149 x150 x151 x152 x153 x154 x155 x156 x157 x158 x159 x160 x161 x162 x163 x164 x165 x166 x167 x168 x169 x170 x171 x172 x173 x174 x191 x192 x193 x194 x195 x196)) x117 x133 x175 x176 x177 x178 x179 x180) (funext fun x117 => funext fun x133 => funext fun x175 => funext fun x176 => funext fun x177 => funext fun x178 => funext fun x179 => funext fun x180 => chloads_l0_iter x115 x116 x118 x119 x120 x121 x122 x123 x124 x125 x126 x127 x128 x129 x130 x131 x132 x134 x135 x136 x137 x138 x139 x140 x141 x142 x143 x144 x145 x146 x147 x148 x149 x150 x151 x152 x153 x154 x155 x156 x157 x158 x159 x160 x161 x162 x163 x164 x165 x166 x167 x168 x169 x170 x171 x172 x173 x174 Q n x117 x133 x175 x176 x177 x178 x179 x180))
noncomputable def chloads_l0_go {α:Type} (ds:List D) (Q:Ex → St → Option α):Option α :=
 dI ds fun x115 ds => dI ds fun x116 ds => dI ds fun x117 ds => dB ds fun x118 ds => dV ds fun x119 ds => dL (K.st (LK.i IntKind.i64) [LK.i IntKind.i64,LK.i IntKind.i64,LK.i IntKind.i64,LK.i IntKind.i64,LK.i IntKind.i64,LK.i IntKind.i64,LK.i IntKind.i64,LK.i IntKind.i64,LK.i IntKind.i64,LK.b,LK.i IntKind.i64,LK.i IntKind.i64,LK.i IntKind.i64,LK.i IntKind.i64]) ds fun x120 ds => dI ds fun x121 ds => dI ds fun x122 ds => dI ds fun x123 ds => dL kP ds fun x124 ds => dL kP ds fun x125 ds => dL (K.int IntKind.i64) ds fun x126 ds => dL kP ds fun x127 ds => dL kP ds fun x128 ds => dL (K.int IntKind.i64) ds fun x129 ds => dL kP ds fun x130 ds => dL kP ds fun x131 ds => dL (K.int IntKind.i64) ds fun x132 ds => dB ds fun x133 ds => dL (K.st (LK.i IntKind.i64)
 (LK.i IntKind.i64 :: LK.i IntKind.i64 :: LK.i IntKind.i64 :: LK.i IntKind.i64 :: LK.i IntKind.i64 :: LK.i IntKind.i64 :: LK.i IntKind.i64 :: LK.i IntKind.i64 :: LK.i IntKind.i64 :: LK.i IntKind.i64 :: LK.i IntKind.i64 :: LK.i IntKind.i64 :: LK.i IntKind.i64 :: LK.i IntKind.i64 :: LK.i IntKind.i64 :: LK.i IntKind.i64 :: LK.b :: LK.i IntKind.i64 :: LK.i IntKind.i64 :: LK.i IntKind.i64 :: LK.i IntKind.i64 :: LK.i IntKind.i64 :: LK.i IntKind.i64 :: LK.i IntKind.i64 :: LK.i IntKind.i64 :: LK.i IntKind.i64 :: LK.i IntKind.i64 :: LK.i IntKind.i64 :: LK.i IntKind.i64 :: LK.i IntKind.i64 :: LK.i IntKind.i64 :: LK.i IntKind.i64 :: LK.i IntKind.i64 :: List.nil)) ds fun x134 ds => dL kP ds fun x135 ds => dL kP ds fun x136 ds => dL (K.int IntKind.i64) ds fun x137 ds => dL kP ds fun x138 ds => dL kP ds fun x139 ds => dL (K.int IntKind.i64) ds fun x140 ds => dI ds fun x141 ds => dI ds fun x142 ds => dI ds fun x143 ds => dI ds fun x144 ds => dI ds fun x145 ds => dI ds fun x146 ds => dI ds fun x147 ds => dI ds fun x148 ds => dI ds fun x149 ds => dI ds fun x150 ds => dI ds fun x151 ds => dI ds fun x152 ds => dI ds fun x153 ds => dI ds fun x154 ds => dI ds fun x155 ds => dI ds fun x156 ds => dI ds fun x157 ds => dB ds fun x158 ds => dI ds fun x159 ds => dI ds fun x160 ds => dI ds fun x161 ds => dI ds fun x162 ds => dI ds fun x163 ds => dI ds fun x164 ds => dI ds fun x165 ds => dI ds fun x166 ds => dI ds fun x167 ds => dI ds fun x168 ds => dI ds fun x169 ds => dI ds fun x170 ds => dI ds fun x171 ds => dI ds fun x172 ds => dI ds fun x173 ds => dI ds fun x174 ds => dI ds fun x175 ds => dI ds fun x176 ds => dI ds fun x177 ds => dI ds fun x178 ds => dI ds fun x179 ds => dI ds fun x180 ds => dE ds (M.chloads_l0 x115 x116 x134 x138 x139 x141 x142 x143 (fun (x190:Bool) (x191 x192 x193 x194 x195 x196:Int) => Q (.exit 2) (chloads_S2 x115 x118 x119 x120 x121 x122 x123 x124 x125 x126 x127 x128 x129 x130 x131 x132 x190 x134 x135 x136 x137 x138 x139 x140 x141 x142 x143 x144 x145 x146 x147 x148 x149 x150 x151 x152 x153 x154 x155 x156 x157 x158 x159 x160 x161 x162 x163 x164 x165 x166 x167 x168 x169 x170 x171 x172 x173 x174 x191 x192 x193 x194 x195 x196)) (100 + x120.length + x124.length + x125.length + x126.length + x127.length + x128.length + x129.length + x130.length + x131.length + x132.length + x134.length + x135.length + x136.length + x137.length + x138.length + x139.length + x140.length) x117 x133 x175 x176 x177 x178 x179 x180)
theorem chloads_l0_ok {α:Type}:LoopOk E.P 47 chloads_P1 17 (lEnt (α := α) (chloads_S3) chloads_l0_go) :=
 lEnt_ok E (exec_sound E E_ok (look_chawake_ok) (noLps_ok _) 400) fun ds Q r h S hS => by
   unfold chloads_l0_go at h
   obtain ⟨x115,ds,rfl,h1⟩ := dI_inv h
   obtain ⟨x116,ds,rfl,h2⟩ := dI_inv h1
   obtain ⟨x117,ds,rfl,h3⟩ := dI_inv h2
   obtain ⟨x118,ds,rfl,h4⟩ := dB_inv h3
   obtain ⟨x119,ds,rfl,h5⟩ := dV_inv h4
   obtain ⟨x120,ds,rfl,h6⟩ := dL_inv h5
   obtain ⟨x121,ds,rfl,h7⟩ := dI_inv h6
   obtain ⟨x122,ds,rfl,h8⟩ := dI_inv h7
   obtain ⟨x123,ds,rfl,h9⟩ := dI_inv h8
   obtain ⟨x124,ds,rfl,h10⟩ := dL_inv h9
   obtain ⟨x125,ds,rfl,h11⟩ := dL_inv h10
   obtain ⟨x126,ds,rfl,h12⟩ := dL_inv h11
   obtain ⟨x127,ds,rfl,h13⟩ := dL_inv h12
   obtain ⟨x128,ds,rfl,h14⟩ := dL_inv h13
   obtain ⟨x129,ds,rfl,h15⟩ := dL_inv h14
   obtain ⟨x130,ds,rfl,h16⟩ := dL_inv h15
   obtain ⟨x131,ds,rfl,h17⟩ := dL_inv h16
   obtain ⟨x132,ds,rfl,h18⟩ := dL_inv h17
   obtain ⟨x133,ds,rfl,h19⟩ := dB_inv h18
   obtain ⟨x134,ds,rfl,h20⟩ := dL_inv h19
   obtain ⟨x135,ds,rfl,h21⟩ := dL_inv h20
   obtain ⟨x136,ds,rfl,h22⟩ := dL_inv h21
   obtain ⟨x137,ds,rfl,h23⟩ := dL_inv h22
   obtain ⟨x138,ds,rfl,h24⟩ := dL_inv h23
   obtain ⟨x139,ds,rfl,h25⟩ := dL_inv h24
   obtain ⟨x140,ds,rfl,h26⟩ := dL_inv h25
   obtain ⟨x141,ds,rfl,h27⟩ := dI_inv h26
   obtain ⟨x142,ds,rfl,h28⟩ := dI_inv h27
   obtain ⟨x143,ds,rfl,h29⟩ := dI_inv h28
   obtain ⟨x144,ds,rfl,h30⟩ := dI_inv h29
   obtain ⟨x145,ds,rfl,h31⟩ := dI_inv h30
   obtain ⟨x146,ds,rfl,h32⟩ := dI_inv h31
   obtain ⟨x147,ds,rfl,h33⟩ := dI_inv h32
   obtain ⟨x148,ds,rfl,h34⟩ := dI_inv h33
   obtain ⟨x149,ds,rfl,h35⟩ := dI_inv h34
   obtain ⟨x150,ds,rfl,h36⟩ := dI_inv h35
   obtain ⟨x151,ds,rfl,h37⟩ := dI_inv h36
   obtain ⟨x152,ds,rfl,h38⟩ := dI_inv h37
   obtain ⟨x153,ds,rfl,h39⟩ := dI_inv h38
   obtain ⟨x154,ds,rfl,h40⟩ := dI_inv h39
   obtain ⟨x155,ds,rfl,h41⟩ := dI_inv h40
   obtain ⟨x156,ds,rfl,h42⟩ := dI_inv h41
   obtain ⟨x157,ds,rfl,h43⟩ := dI_inv h42
   obtain ⟨x158,ds,rfl,h44⟩ := dB_inv h43
   obtain ⟨x159,ds,rfl,h45⟩ := dI_inv h44
   obtain ⟨x160,ds,rfl,h46⟩ := dI_inv h45
   obtain ⟨x161,ds,rfl,h47⟩ := dI_inv h46
   obtain ⟨x162,ds,rfl,h48⟩ := dI_inv h47
   obtain ⟨x163,ds,rfl,h49⟩ := dI_inv h48
   obtain ⟨x164,ds,rfl,h50⟩ := dI_inv h49
   obtain ⟨x165,ds,rfl,h51⟩ := dI_inv h50
   obtain ⟨x166,ds,rfl,h52⟩ := dI_inv h51
   obtain ⟨x167,ds,rfl,h53⟩ := dI_inv h52
   obtain ⟨x168,ds,rfl,h54⟩ := dI_inv h53
   obtain ⟨x169,ds,rfl,h55⟩ := dI_inv h54
   obtain ⟨x170,ds,rfl,h56⟩ := dI_inv h55
   obtain ⟨x171,ds,rfl,h57⟩ := dI_inv h56
   obtain ⟨x172,ds,rfl,h58⟩ := dI_inv h57
   obtain ⟨x173,ds,rfl,h59⟩ := dI_inv h58
   obtain ⟨x174,ds,rfl,h60⟩ := dI_inv h59
   obtain ⟨x175,ds,rfl,h61⟩ := dI_inv h60
   obtain ⟨x176,ds,rfl,h62⟩ := dI_inv h61
   obtain ⟨x177,ds,rfl,h63⟩ := dI_inv h62
   obtain ⟨x178,ds,rfl,h64⟩ := dI_inv h63
   obtain ⟨x179,ds,rfl,h65⟩ := dI_inv h64
   obtain ⟨x180,ds,rfl,h66⟩ := dI_inv h65
   obtain ⟨rfl,hE⟩ := dE_inv h66
   have e:fillS (chloads_S3) [.i x115,.i x116,.i x117,.b x118,.v x119,.l (K.st (LK.i IntKind.i64) [LK.i IntKind.i64,LK.i IntKind.i64,LK.i IntKind.i64,LK.i IntKind.i64,LK.i IntKind.i64,LK.i IntKind.i64,LK.i IntKind.i64,LK.i IntKind.i64,LK.i IntKind.i64,LK.b,LK.i IntKind.i64,LK.i IntKind.i64,LK.i IntKind.i64,LK.i IntKind.i64]) x120,.i x121,.i x122,.i x123,.l kP x124,.l kP x125,.l (K.int IntKind.i64) x126,.l kP x127,.l kP x128,.l (K.int IntKind.i64) x129,.l kP x130,.l kP x131,.l (K.int IntKind.i64) x132,.b x133,.l (K.st (LK.i IntKind.i64)
 (LK.i IntKind.i64 :: LK.i IntKind.i64 :: LK.i IntKind.i64 :: LK.i IntKind.i64 :: LK.i IntKind.i64 :: LK.i IntKind.i64 :: LK.i IntKind.i64 :: LK.i IntKind.i64 :: LK.i IntKind.i64 :: LK.i IntKind.i64 :: LK.i IntKind.i64 :: LK.i IntKind.i64 :: LK.i IntKind.i64 :: LK.i IntKind.i64 :: LK.i IntKind.i64 :: LK.i IntKind.i64 :: LK.b :: LK.i IntKind.i64 :: LK.i IntKind.i64 :: LK.i IntKind.i64 :: LK.i IntKind.i64 :: LK.i IntKind.i64 :: LK.i IntKind.i64 :: LK.i IntKind.i64 :: LK.i IntKind.i64 :: LK.i IntKind.i64 :: LK.i IntKind.i64 :: LK.i IntKind.i64 :: LK.i IntKind.i64 :: LK.i IntKind.i64 :: LK.i IntKind.i64 :: LK.i IntKind.i64 :: LK.i IntKind.i64 :: List.nil)) x134,.l kP x135,.l kP x136,.l (K.int IntKind.i64) x137,.l kP x138,.l kP x139,.l (K.int IntKind.i64) x140,.i x141,.i x142,.i x143,.i x144,.i x145,.i x146,.i x147,.i x148,.i x149,.i x150,.i x151,.i x152,.i x153,.i x154,.i x155,.i x156,.i x157,.b x158,.i x159,.i x160,.i x161,.i x162,.i x163,.i x164,.i x165,.i x166,.i x167,.i x168,.i x169,.i x170,.i x171,.i x172,.i x173,.i x174,.i x175,.i x176,.i x177,.i x178,.i x179,.i x180] = some (chloads_S1 x115 x116 x117 x118 x119 x120 x121 x122 x123 x124 x125 x126 x127 x128 x129 x130 x131 x132 x133 x134 x135 x136 x137 x138 x139 x140 x141 x142 x143 x144 x145 x146 x147 x148 x149 x150 x151 x152 x153 x154 x155 x156 x157 x158 x159 x160 x161 x162 x163 x164 x165 x166 x167 x168 x169 x170 x171 x172 x173 x174 x175 x176 x177 x178 x179 x180) := by kernel_rfl
   rw [e] at hS
   cases hS
   exact ⟨_,(chloads_l0_iter x115 x116 x118 x119 x120 x121 x122 x123 x124 x125 x126 x127 x128 x129 x130 x131 x132 x134 x135 x136 x137 x138 x139 x140 x141 x142 x143 x144 x145 x146 x147 x148 x149 x150 x151 x152 x153 x154 x155 x156 x157 x158 x159 x160 x161 x162 x163 x164 x165 x166 x167 x168 x169 x170 x171 x172 x173 x174 Q _ x117 x133 x175 x176 x177 x178 x179 x180).trans hE⟩
noncomputable def chloads_l0_lps {α:Type}:LookL α := addLp 47 chloads_P1 17 (lEnt (chloads_S3) chloads_l0_go) noLps
theorem chloads_l0_lps_ok {α:Type}:LoopsOk E.P (chloads_l0_lps (α := α)) := addLp_ok chloads_l0_ok (noLps_ok _)
noncomputable def M.chloads_l1_step {α:Type} (x208:List L15) (x209 x210 x211:Int) (x212 x213:L3) (x214:List Int) (x215 x216:L3) (x217:List Int) (x218 x219:L3) (x220:List Int) (x222:List L34) (x223 x224:L3) (x225:List Int) (kn:Int → Bool → L3 → L3 → List Int → Option α) (k1:Bool → L3 → L3 → List Int → Option α) (x205:Int) (x221:Bool) (x226 x227:L3) (x228:List Int):Option α := let s236 := List.length x226; let s237 := List.length x227; let s238 := List.length x222; let s239 := (↑s238:Int); let s240 := List.getD x222 (Int.toNat x205) ((0:Int),(0:Int),(0:Int),(0:Int),(0:Int),(0:Int),(0:Int),(0:Int),(0:Int),(0:Int),(0:Int),(0:Int),(0:Int),(0:Int),(0:Int),(0:Int),(0:Int),false,(0:Int),(0:Int),(0:Int),(0:Int),(0:Int),(0:Int),(0:Int),(0:Int),(0:Int),(0:Int),(0:Int),(0:Int),(0:Int),(0:Int),(0:Int),(0:Int)); let s241 := Prod.fst s240; let s242 := Prod.snd s240; let s243 := Prod.snd s242; let s244 := Prod.fst s242; let s245 := Prod.fst s243; let s246 := Prod.snd (Prod.snd (Prod.snd (Prod.snd (Prod.snd (Prod.snd (Prod.snd (Prod.snd (Prod.snd (Prod.snd (Prod.snd (Prod.snd (Prod.snd (Prod.snd (Prod.snd s243)))))))))))))); let s247 := Prod.snd (Prod.snd (Prod.snd (Prod.snd s246))); let s248 := Prod.snd s247; let s249 := V.tScale (x209,x210,x211) (Prod.fst s247); let s250 := Prod.snd s248; let s251 := Prod.snd s250; let s252 := Prod.snd s251; let s253 := Prod.snd s252; let s254 := V.tSub (Prod.fst s252,Prod.fst s253,Prod.fst (Prod.snd s253)) (s241,s244,s245); let s255 := V.tCross (V.q3 s254) (V.q3 s249); if cLe (0:Int) x205 = true then if (0:Int) ≤ x205 ∧ x205 < s239 then M.chloads_l0 x205 s239 x222 x226 x227 s241 s244 s245 (fun (x229:Bool) (x230 x231 x232 x233 x234 x235:Int) ↦ if (0:Int) ≤ x205 ∧ x205 < (↑s236:Int) then if (0:Int) ≤ x205 ∧ x205 < (↑s237:Int) then if Prod.fst s246 = true then if (0:Int) ≤ x205 ∧ x205 < (↑(List.length x228):Int) then kn (IntKind.wrap .i64 (x205 - (1:Int))) (V.gn (V.tDot (Prod.fst s248,Prod.fst s250,Prod.fst s251) (x230,x231,x232)) x229) (List.set x226 (Int.toNat x205) (x230,x231,x232)) (List.set x227 (Int.toNat x205) (x233,x234,x235)) (List.set x228 (Int.toNat x205) (V.gv (V.tDot (Prod.fst s248,Prod.fst s250,Prod.fst s251) (x230,x231,x232)))) else none else if (0:Int) ≤ x205 ∧ x205 < (↑(List.length x228):Int) then kn (IntKind.wrap .i64 (x205 - (1:Int))) (V.gn (V.tDot (Prod.fst s248,Prod.fst s250,Prod.fst s251) (x233,x234,x235)) x229) (List.set x226 (Int.toNat x205) (x230,x231,x232)) (List.set x227 (Int.toNat x205) (x233,x234,x235)) (List.set x228 (Int.toNat x205) (V.gv (V.tDot (Prod.fst s248,Prod.fst s250,Prod.fst s251) (x233,x234,x235)))) else none else none else none) ((100:Nat) + List.length x208 + List.length x212 + List.length x213 + List.length x214 + List.length x215 + List.length x216 + List.length x217 + List.length x218 + List.length x219 + List.length x220 + s238 + List.length x223 + List.length x224 + List.length x225 + s236 + s237 + List.length x228) (0:Int) (V.on s255 (V.on s254 (V.on s249 x221))) (V.x3 s249) (V.y3 s249) (V.z3 s249) (V.x3 s255) (V.y3 s255) (V.z3 s255) else none else k1 x221 x226 x227 x228
noncomputable def M.chloads_l1 {α:Type} (x208:List L15) (x209 x210 x211:Int) (x212 x213:L3) (x214:List Int) (x215 x216:L3) (x217:List Int) (x218 x219:L3) (x220:List Int) (x222:List L34) (x223 x224:L3) (x225:List Int) (k1:Bool → L3 → L3 → List Int → Option α):Nat → Int → Bool → L3 → L3 → List Int → Option α
 | 0,_,_,_,_,_ => none
 | n + 1,x205,x221,x226,x227,x228 => M.chloads_l1_step x208 x209 x210 x211 x212 x213 x214 x215 x216 x217 x218 x219 x220 x222 x223 x224 x225 (M.chloads_l1 x208 x209 x210 x211 x212 x213 x214 x215 x216 x217 x218 x219 x220 x222 x223 x224 x225 k1 n) k1 x205 x221 x226 x227 x228
theorem chloads_l1_step_eq {α:Type} (x205:Int) (x206:Bool) (x207:Value) (x208:List L15) (x209 x210 x211:Int) (x212 x213:L3) (x214:List Int) (x215 x216:L3) (x217:List Int) (x218 x219:L3) (x220:List Int) (x221:Bool) (x222:List L34) (x223 x224:L3) (x225:List Int) (x226 x227:L3) (x228:List Int) (Q:Ex → St → Option α):(loopStep E (exec E look_chawake chloads_l0_lps 400) 47 chloads_P2 17 (codeAt E.P 47 chloads_P2)) (chloads_S4 x205 x206 x207 x208 x209 x210 x211 x212 x213 x214 x215 x216 x217 x218 x219 x220 x221 x222 x223 x224 x225 x226 x227 x228) Q = M.chloads_l1_step x208 x209 x210 x211 x212 x213 x214 x215 x216 x217 x218 x219 x220 x222 x223 x224 x225 (fun (x260:Int) (x261:Bool) (x262 x263:L3) (x264:List Int) => Q .normal (chloads_S4 x260 x206 x207 x208 x209 x210 x211 x212 x213 x214 x215 x216 x217 x218 x219 x220 x261 x222 x223 x224 x225 x262 x263 x264)) (fun (x256:Bool) (x257 x258:L3) (x259:List Int) => Q (.exit 0) (chloads_S5 x206 x207 x208 x209 x210 x211 x212 x213 x214 x215 x216 x217 x218 x219 x220 x256 x222 x223 x224 x225 x257 x258 x259)) x205 x221 x226 x227 x228 := by kernel_rfl
theorem chloads_l1_iter {α:Type} (x206:Bool) (x207:Value) (x208:List L15) (x209 x210 x211:Int) (x212 x213:L3) (x214:List Int) (x215 x216:L3) (x217:List Int) (x218 x219:L3) (x220:List Int) (x222:List L34) (x223 x224:L3) (x225:List Int) (Q:Ex → St → Option α):∀ (n:Nat) (x205:Int) (x221:Bool) (x226 x227:L3) (x228:List Int),iter (loopStep E (exec E look_chawake chloads_l0_lps 400) 47 chloads_P2 17 (codeAt E.P 47 chloads_P2)) n (chloads_S4 x205 x206 x207 x208 x209 x210 x211 x212 x213 x214 x215 x216 x217 x218 x219 x220 x221 x222 x223 x224 x225 x226 x227 x228) Q = M.chloads_l1 x208 x209 x210 x211 x212 x213 x214 x215 x216 x217 x218 x219 x220 x222 x223 x224 x225 (fun (x256:Bool) (x257 x258:L3) (x259:List Int) => Q (.exit 0) (chloads_S5 x206 x207 x208 x209 x210 x211 x212 x213 x214 x215 x216 x217 x218 x219 x220 x256 x222 x223 x224 x225 x257 x258 x259)) n x205 x221 x226 x227 x228
 | 0,_,_,_,_,_ => rfl
 | n + 1,x205,x221,x226,x227,x228 => (chloads_l1_step_eq x205 x206 x207 x208 x209 x210 x211 x212 x213 x214 x215 x216 x217 x218 x219 x220 x221 x222 x223 x224 x225 x226 x227 x228 (iterK (loopStep E (exec E look_chawake chloads_l0_lps 400) 47 chloads_P2 17 (codeAt E.P 47 chloads_P2)) n Q)).trans (congrArg (fun kn => M.chloads_l1_step x208 x209 x210 x211 x212 x213 x214 x215 x216 x217 x218 x219 x220 x222 x223 x224 x225 kn (fun (x256:Bool) (x257 x258:L3) (x259:List Int) => Q (.exit 0) (chloads_S5 x206 x207 x208 x209 x210 x211 x212 x213 x214 x215 x216 x217 x218 x219 x220 x256 x222 x223 x224 x225 x257 x258 x259)) x205 x221 x226 x227 x228) (funext fun x205 => funext fun x221 => funext fun x226 => funext fun x227 => funext fun x228 => chloads_l1_iter x206 x207 x208 x209 x210 x211 x212 x213 x214 x215 x216 x217 x218 x219 x220 x222 x223 x224 x225 Q n x205 x221 x226 x227 x228))
noncomputable def chloads_l1_go {α:Type} (ds:List D) (Q:Ex → St → Option α):Option α :=
 dI ds fun x205 ds => dB ds fun x206 ds => dV ds fun x207 ds => dL (K.st (LK.i IntKind.i64) [LK.i IntKind.i64,LK.i IntKind.i64,LK.i IntKind.i64,LK.i IntKind.i64,LK.i IntKind.i64,LK.i IntKind.i64,LK.i IntKind.i64,LK.i IntKind.i64,LK.i IntKind.i64,LK.b,LK.i IntKind.i64,LK.i IntKind.i64,LK.i IntKind.i64,LK.i IntKind.i64]) ds fun x208 ds => dI ds fun x209 ds => dI ds fun x210 ds => dI ds fun x211 ds => dL kP ds fun x212 ds => dL kP ds fun x213 ds => dL (K.int IntKind.i64) ds fun x214 ds => dL kP ds fun x215 ds => dL kP ds fun x216 ds => dL (K.int IntKind.i64) ds fun x217 ds => dL kP ds fun x218 ds => dL kP ds fun x219 ds => dL (K.int IntKind.i64) ds fun x220 ds => dB ds fun x221 ds => dL (K.st (LK.i IntKind.i64)
 (LK.i IntKind.i64 :: LK.i IntKind.i64 :: LK.i IntKind.i64 :: LK.i IntKind.i64 :: LK.i IntKind.i64 :: LK.i IntKind.i64 :: LK.i IntKind.i64 :: LK.i IntKind.i64 :: LK.i IntKind.i64 :: LK.i IntKind.i64 :: LK.i IntKind.i64 :: LK.i IntKind.i64 :: LK.i IntKind.i64 :: LK.i IntKind.i64 :: LK.i IntKind.i64 :: LK.i IntKind.i64 :: LK.b :: LK.i IntKind.i64 :: LK.i IntKind.i64 :: LK.i IntKind.i64 :: LK.i IntKind.i64 :: LK.i IntKind.i64 :: LK.i IntKind.i64 :: LK.i IntKind.i64 :: LK.i IntKind.i64 :: LK.i IntKind.i64 :: LK.i IntKind.i64 :: LK.i IntKind.i64 :: LK.i IntKind.i64 :: LK.i IntKind.i64 :: LK.i IntKind.i64 :: LK.i IntKind.i64 :: LK.i IntKind.i64 :: List.nil)) ds fun x222 ds => dL kP ds fun x223 ds => dL kP ds fun x224 ds => dL (K.int IntKind.i64) ds fun x225 ds => dL kP ds fun x226 ds => dL kP ds fun x227 ds => dL (K.int IntKind.i64) ds fun x228 ds => dE ds (M.chloads_l1 x208 x209 x210 x211 x212 x213 x214 x215 x216 x217 x218 x219 x220 x222 x223 x224 x225 (fun (x256:Bool) (x257 x258:L3) (x259:List Int) => Q (.exit 0) (chloads_S5 x206 x207 x208 x209 x210 x211 x212 x213 x214 x215 x216 x217 x218 x219 x220 x256 x222 x223 x224 x225 x257 x258 x259)) (100 + x208.length + x212.length + x213.length + x214.length + x215.length + x216.length + x217.length + x218.length + x219.length + x220.length + x222.length + x223.length + x224.length + x225.length + x226.length + x227.length + x228.length) x205 x221 x226 x227 x228)
theorem chloads_l1_ok {α:Type}:LoopOk E.P 47 chloads_P2 17 (lEnt (α := α) (chloads_S6) chloads_l1_go) :=
 lEnt_ok E (exec_sound E E_ok (look_chawake_ok) (chloads_l0_lps_ok) 400) fun ds Q r h S hS => by
   unfold chloads_l1_go at h
   obtain ⟨x205,ds,rfl,h1⟩ := dI_inv h
   obtain ⟨x206,ds,rfl,h2⟩ := dB_inv h1
   obtain ⟨x207,ds,rfl,h3⟩ := dV_inv h2
   obtain ⟨x208,ds,rfl,h4⟩ := dL_inv h3
   obtain ⟨x209,ds,rfl,h5⟩ := dI_inv h4
   obtain ⟨x210,ds,rfl,h6⟩ := dI_inv h5
   obtain ⟨x211,ds,rfl,h7⟩ := dI_inv h6
   obtain ⟨x212,ds,rfl,h8⟩ := dL_inv h7
   obtain ⟨x213,ds,rfl,h9⟩ := dL_inv h8
   obtain ⟨x214,ds,rfl,h10⟩ := dL_inv h9
   obtain ⟨x215,ds,rfl,h11⟩ := dL_inv h10
   obtain ⟨x216,ds,rfl,h12⟩ := dL_inv h11
   obtain ⟨x217,ds,rfl,h13⟩ := dL_inv h12
   obtain ⟨x218,ds,rfl,h14⟩ := dL_inv h13
   obtain ⟨x219,ds,rfl,h15⟩ := dL_inv h14
   obtain ⟨x220,ds,rfl,h16⟩ := dL_inv h15
   obtain ⟨x221,ds,rfl,h17⟩ := dB_inv h16
   obtain ⟨x222,ds,rfl,h18⟩ := dL_inv h17
   obtain ⟨x223,ds,rfl,h19⟩ := dL_inv h18
   obtain ⟨x224,ds,rfl,h20⟩ := dL_inv h19
   obtain ⟨x225,ds,rfl,h21⟩ := dL_inv h20
   obtain ⟨x226,ds,rfl,h22⟩ := dL_inv h21
   obtain ⟨x227,ds,rfl,h23⟩ := dL_inv h22
   obtain ⟨x228,ds,rfl,h24⟩ := dL_inv h23
   obtain ⟨rfl,hE⟩ := dE_inv h24
   have e:fillS (chloads_S6) [.i x205,.b x206,.v x207,.l (K.st (LK.i IntKind.i64) [LK.i IntKind.i64,LK.i IntKind.i64,LK.i IntKind.i64,LK.i IntKind.i64,LK.i IntKind.i64,LK.i IntKind.i64,LK.i IntKind.i64,LK.i IntKind.i64,LK.i IntKind.i64,LK.b,LK.i IntKind.i64,LK.i IntKind.i64,LK.i IntKind.i64,LK.i IntKind.i64]) x208,.i x209,.i x210,.i x211,.l kP x212,.l kP x213,.l (K.int IntKind.i64) x214,.l kP x215,.l kP x216,.l (K.int IntKind.i64) x217,.l kP x218,.l kP x219,.l (K.int IntKind.i64) x220,.b x221,.l (K.st (LK.i IntKind.i64)
 (LK.i IntKind.i64 :: LK.i IntKind.i64 :: LK.i IntKind.i64 :: LK.i IntKind.i64 :: LK.i IntKind.i64 :: LK.i IntKind.i64 :: LK.i IntKind.i64 :: LK.i IntKind.i64 :: LK.i IntKind.i64 :: LK.i IntKind.i64 :: LK.i IntKind.i64 :: LK.i IntKind.i64 :: LK.i IntKind.i64 :: LK.i IntKind.i64 :: LK.i IntKind.i64 :: LK.i IntKind.i64 :: LK.b :: LK.i IntKind.i64 :: LK.i IntKind.i64 :: LK.i IntKind.i64 :: LK.i IntKind.i64 :: LK.i IntKind.i64 :: LK.i IntKind.i64 :: LK.i IntKind.i64 :: LK.i IntKind.i64 :: LK.i IntKind.i64 :: LK.i IntKind.i64 :: LK.i IntKind.i64 :: LK.i IntKind.i64 :: LK.i IntKind.i64 :: LK.i IntKind.i64 :: LK.i IntKind.i64 :: LK.i IntKind.i64 :: List.nil)) x222,.l kP x223,.l kP x224,.l (K.int IntKind.i64) x225,.l kP x226,.l kP x227,.l (K.int IntKind.i64) x228] = some (chloads_S4 x205 x206 x207 x208 x209 x210 x211 x212 x213 x214 x215 x216 x217 x218 x219 x220 x221 x222 x223 x224 x225 x226 x227 x228) := by kernel_rfl
   rw [e] at hS
   cases hS
   exact ⟨_,(chloads_l1_iter x206 x207 x208 x209 x210 x211 x212 x213 x214 x215 x216 x217 x218 x219 x220 x222 x223 x224 x225 Q _ x205 x221 x226 x227 x228).trans hE⟩
noncomputable def chloads_l1_lps {α:Type}:LookL α := addLp 47 chloads_P2 17 (lEnt (chloads_S6) chloads_l1_go) chloads_l0_lps
theorem chloads_l1_lps_ok {α:Type}:LoopsOk E.P (chloads_l1_lps (α := α)) := addLp_ok chloads_l1_ok (chloads_l0_lps_ok)
noncomputable def M.chloads {α:Type} (bad:Bool) (l:List L15) (px:Int) (p_y:Int) (pz:Int) (k0:Bool → L3 → L3 → List Int → Option α):Option α := let s270 := List.length l; let s271 := (↑s270:Int); let s272 := Int.toNat s271; let s273 := List.replicate s272 (0:Int); let s274 := List.replicate s272 ((0:Int),(0:Int),(0:Int)); let s275 := List.length s274; if (!cEq (V.chC l) (0:Int)) = true then k0 bad [] [] [] else if V.chC l = (0:Int) then if s271 = s271 then if (0:Int) ≤ s271 ∧ (24:Int) * s271 ≤ (281474976710656:Int) ∧ s271 ≤ (4611686018427387903:Int) then if s271 = s271 then if (0:Int) ≤ s271 ∧ (24:Int) * s271 ≤ (281474976710656:Int) ∧ s271 ≤ (4611686018427387903:Int) then if s271 = s271 then if (0:Int) ≤ s271 ∧ (8:Int) * s271 ≤ (281474976710656:Int) ∧ s271 ≤ (4611686018427387903:Int) then M.chloads_l1 l px p_y pz [] [] [] [] [] [] [] [] [] (V.lay l) [] [] [] (fun (x266:Bool) (x267 x268:L3) (x269:List Int) ↦ if x266 = true then k0 true [] [] [] else k0 bad x267 x268 x269) ((100:Nat) + s270 + (0:Nat) + (0:Nat) + (0:Nat) + (0:Nat) + (0:Nat) + (0:Nat) + (0:Nat) + (0:Nat) + (0:Nat) + List.length (V.lay l) + (0:Nat) + (0:Nat) + (0:Nat) + s275 + s275 + List.length s273) (IntKind.wrap .i64 (s271 - (1:Int))) false s274 s274 s273 else none else none else none else none else none else none else none
theorem chloads_eq {α:Type} (bad:Bool) (l:List L15) (px:Int) (p_y:Int) (pz:Int) (v265:Value) (Q:SV → Hp → Option α):callI E look_chawake (exec E look_chawake chloads_l1_lps 400) 18 ([SV.ptr (nat_lit 0) (nat_lit 0),SV.ros v265 (K.st (LK.i IntKind.i64) [LK.i IntKind.i64,LK.i IntKind.i64,LK.i IntKind.i64,LK.i IntKind.i64,LK.i IntKind.i64,LK.i IntKind.i64,LK.i IntKind.i64,LK.i IntKind.i64,LK.i IntKind.i64,LK.b,LK.i IntKind.i64,LK.i IntKind.i64,LK.i IntKind.i64,LK.i IntKind.i64]) l,SV.agg [SV.int .i64 px,SV.int .i64 p_y,SV.int .i64 pz]]) ([.cells [SV.bool bad] (nat_lit 28)]) Q = M.chloads bad l px p_y pz (fun (x276:Bool) (x277 x278:L3) (x279:List Int) => Q (SV.tup [SV.sl (nat_lit 1),SV.sl (nat_lit 2),SV.sl (nat_lit 3)]) ([.cells [SV.bool x276] (nat_lit 28),.seq kP x277 (nat_lit 24),.seq kP x278 (nat_lit 24),.seq (K.int IntKind.i64) x279 (nat_lit 3)])) := by kernel_rfl
def chloads_sp:List AS := [.ptr 28 [.bool false],.ro (.st (.i .i64) [.i .i64,.i .i64,.i .i64,.i .i64,.i .i64,.i .i64,.i .i64,.i .i64,.i .i64,.b,.i .i64,.i .i64,.i .i64,.i .i64]),.val (.agg [.int .i64 0,.int .i64 0,.int .i64 0])]
theorem toNat_natG (n:Nat):Int.toNat (n:Int) = n := Int.toNat_natCast n
theorem chloads_l0_val {α:Type} (C:List L15) (P:List Pl) (Z:List L34) (F T:List V.T3) (i:Nat) (hZ:Z.length = C.length) (hC:C.length ≤ 1000) (hz:∀ k,k < C.length → Z.getD k bn0 = bnT (lnk C k) (P.getD k pl0)) (hF:F.length = C.length) (hT:T.length = C.length) (s0:LdI) (k1:Bool → Int → Int → Int → Int → Int → Int → Option α) :
   ∀ (fuel k:Nat),k ≤ C.length → C.length - k < fuel → M.chloads_l0 (i:Int) (C.length:Int) Z F T (pAt P i).1 (pAt P i).2.1 (pAt P i).2.2 k1 fuel (k:Int) (ldI C P i F T k s0).1 (ldI C P i F T k s0).2.1.1 (ldI C P i F T k s0).2.1.2.1 (ldI C P i F T k s0).2.1.2.2 (ldI C P i F T k s0).2.2.1 (ldI C P i F T k s0).2.2.2.1 (ldI C P i F T k s0).2.2.2.2 =
     k1 (ldI C P i F T C.length s0).1 (ldI C P i F T C.length s0).2.1.1 (ldI C P i F T C.length s0).2.1.2.1 (ldI C P i F T C.length s0).2.1.2.2 (ldI C P i F T C.length s0).2.2.1 (ldI C P i F T C.length s0).2.2.2.1 (ldI C P i F T C.length s0).2.2.2.2
 | 0,k,h1,h2 => by omega
 | f + 1,k,h1,h2 => by
   by_cases hk:k < C.length
   · have ih := chloads_l0_val C P Z F T i hZ hC hz hF hT s0 k1 f (k + 1) (by omega) (by omega)
     have es:ldI C P i F T (k + 1) s0 = ldK C P i F T k (ldI C P i F T k s0) := rfl
     rw [es] at ih
     generalize ldI C P i F T k s0 = s at *
     generalize ldI C P i F T C.length s0 = r at *
     obtain ⟨b,⟨f1,f2,f3⟩,t1,t2,t3⟩ := s
     unfold M.chloads_l0 M.chloads_l0_step
     simp only
     have e0:List.getD Z (Int.toNat (k:Int)) (0,0,0,0,0,0,0,0,0,0,0,0,0,0,0,0,0,false,0,0,0,0,0,0,0,0,0,0,0,0,0,0,0,0) = bnT (lnk C k) (P.getD k pl0) := hz k hk
     have b0:(0:Int) ≤ (k:Int) ∧ (k:Int) < (C.length:Int) := by omega
     rw [cLt_nat,if_pos (by simpa using hk),e0,hZ,hF,hT,if_pos b0,w_next (by omega),cEq_eq]
     by_cases e:(lnk C k).1 = (i:Int)
     · unfold ldK at ih
       rw [if_pos e] at ih
       rw [if_pos (by show ((lnk C k).1 == (i:Int)) = true; rw [e]; exact beq_self_eq_true _),if_pos b0,if_pos b0,if_pos b0]
       exact ih
     · unfold ldK at ih
       rw [if_neg e] at ih
       rw [if_neg (by show ¬ ((lnk C k).1 == (i:Int)) = true; simpa using e)]
       exact ih
   · have : k = C.length := by omega
     subst this
     unfold M.chloads_l0 M.chloads_l0_step
     simp only
     rw [cLt_nat,if_neg (by simp)]
theorem chloads_l1_val {α:Type} (C:List L15) (P:List Pl) (Z:List L34) (p:V.T3) (hZ:Z.length = C.length) (hC:C.length ≤ 1000) (hz:∀ k,k < C.length → Z.getD k bn0 = bnT (lnk C k) (P.getD k pl0)) (k1:Bool → List V.T3 → List V.T3 → List Int → Option α) :
   ∀ (fuel m:Nat) (s:LdA),m ≤ C.length → m < fuel → s.2.1.length = C.length → s.2.2.1.length = C.length → s.2.2.2.length = C.length →
     M.chloads_l1 C p.1 p.2.1 p.2.2 [] [] [] [] [] [] [] [] [] Z [] [] [] k1 fuel ((m:Int) - 1) s.1 s.2.1 s.2.2.1 s.2.2.2 = k1 (ldA C P p m s).1 (ldA C P p m s).2.1 (ldA C P p m s).2.2.1 (ldA C P p m s).2.2.2
 | 0,m,s,h1,h2,_,_,_ => by omega
 | f + 1,0,s,h1,h2,_,_,_ => by
   unfold M.chloads_l1 M.chloads_l1_step
   simp only
   rw [cLe_eq,if_neg (by simp)]
   rfl
 | f + 1,m + 1,s,h1,h2,l1,l2,l3 => by
   have hO := ldO_len C P p m s
   have ih := chloads_l1_val C P Z p hZ hC hz k1 f m (ldO C P p m s) (by omega) (by omega) (hO.1.trans l1) (hO.2.1.trans l2) (hO.2.2.trans l3)
   have eA:ldA C P p (m + 1) s = ldA C P p m (ldO C P p m s) := rfl
   rw [← eA] at ih
   generalize ldA C P p (m + 1) s = r at *
   unfold M.chloads_l1 M.chloads_l1_step
   simp only
   have em:((m + 1:Nat):Int) - 1 = (m:Int) := by omega
   have e0:List.getD Z (Int.toNat (m:Int)) (0,0,0,0,0,0,0,0,0,0,0,0,0,0,0,0,0,false,0,0,0,0,0,0,0,0,0,0,0,0,0,0,0,0) = bnT (lnk C m) (P.getD m pl0) := hz m (by omega)
   have b0:(0:Int) ≤ (m:Int) ∧ (m:Int) < (C.length:Int) := by omega
   have ew:IntKind.wrap .i64 ((m:Int) - 1) = (m:Int) - 1 := IntWalk.i64_in _ (by omega)
   rw [em,cLe_eq,if_pos (by simp),e0,hZ,if_pos b0,l1,l2,l3,ew]
   refine Eq.trans (chloads_l0_val C P Z s.2.1 s.2.2.1 m hZ hC hz l1 l2 (ldB C P p m s.1) _ _ 0 (by omega) (by omega)) ?_
   rw [if_pos b0,if_pos b0]
   unfold ldO ldAl at ih
   by_cases e:lSl (lnk C m) = true
   · rw [if_pos e] at ih
     rw [if_pos (show (bnT (lnk C m) (P.getD m pl0)).2.2.2.2.2.2.2.2.2.2.2.2.2.2.2.2.2.1 = true from e),if_pos b0]
     exact ih
   · rw [if_neg e] at ih
     rw [if_neg (show ¬ (bnT (lnk C m) (P.getD m pl0)).2.2.2.2.2.2.2.2.2.2.2.2.2.2.2.2.2.1 = true from e),if_pos b0]
     exact ih
noncomputable def chP (l:List L15):List Pl := (layL l []).getD []
noncomputable def ldR (l:List L15) (p:V.T3):LdA := ldA l (chP l) p l.length (ldZ l.length)
noncomputable def _root_.Go.Proofs.YtajomehkgaamoaaGreat.V.ldsB (l:List (Int × Int × Int × Int × Int × Int × Int × Int × Int × Int × Bool × Int × Int × Int × Int)) (px p_y pz:Int) (bad:Bool):Bool := hid (if V.chC l = 0 ∧ (ldR l (px,p_y,pz)).1 = true then true else bad)
noncomputable def _root_.Go.Proofs.YtajomehkgaamoaaGreat.V.ldsF (l:List (Int × Int × Int × Int × Int × Int × Int × Int × Int × Int × Bool × Int × Int × Int × Int)) (px p_y pz:Int):List (Int × Int × Int) := hid (if V.chC l = 0 ∧ (ldR l (px,p_y,pz)).1 = false then (ldR l (px,p_y,pz)).2.1 else [])
noncomputable def _root_.Go.Proofs.YtajomehkgaamoaaGreat.V.ldsT (l:List (Int × Int × Int × Int × Int × Int × Int × Int × Int × Int × Bool × Int × Int × Int × Int)) (px p_y pz:Int):List (Int × Int × Int) := hid (if V.chC l = 0 ∧ (ldR l (px,p_y,pz)).1 = false then (ldR l (px,p_y,pz)).2.2.1 else [])
noncomputable def _root_.Go.Proofs.YtajomehkgaamoaaGreat.V.ldsN (l:List (Int × Int × Int × Int × Int × Int × Int × Int × Int × Int × Bool × Int × Int × Int × Int)) (px p_y pz:Int):List Int := hid (if V.chC l = 0 ∧ (ldR l (px,p_y,pz)).1 = false then (ldR l (px,p_y,pz)).2.2.2 else [])
theorem lay_zip {l:List L15} (h:V.chC l = 0):V.lay l = List.zipWith bnT l (chP l) ∧ (chP l).length = l.length ∧ l.length ≤ 12 ∧ Tree l := by
 obtain ⟨P,hP,e1,e2,ht⟩ := lay_some h
 have:chP l = P := by unfold chP; rw [hP]; rfl
 rw [this]
 exact ⟨e1,e2,((chC_iff l).1 h).1,ht⟩
theorem chloads_v {α:Type} (bad:Bool) (l:List L15) (px p_y pz:Int) (k0:Bool → List V.T3 → List V.T3 → List Int → Option α):M.chloads bad l px p_y pz k0 = k0 (V.ldsB l px p_y pz bad) (V.ldsF l px p_y pz) (V.ldsT l px p_y pz) (V.ldsN l px p_y pz) := by
 unfold M.chloads V.ldsB V.ldsF V.ldsT V.ldsN
 simp only
 rw [hid_eq,hid_eq,hid_eq,hid_eq,cEq_eq]
 by_cases h:V.chC l = 0
 · obtain ⟨e1, e2, e3, _⟩ := lay_zip h
   have hl:(V.lay l).length = l.length := by rw [e1,List.length_zipWith]; omega
   have ew:IntKind.wrap .i64 ((l.length:Int) - 1) = (l.length:Int) - 1 := IntWalk.i64_in _ (by omega)
   rw [if_neg (by rw [h]; decide),if_pos h,if_pos trivial,if_pos (by omega),if_pos trivial,if_pos (by omega),if_pos trivial,if_pos (by omega),ew,toNat_natG]
   refine Eq.trans (chloads_l1_val l (chP l) (V.lay l) (px,p_y,pz) hl (by omega) (fun k hk => by rw [e1]; exact zip_get l (chP l) k hk (by omega)) _ _ l.length (ldZ l.length) (by omega) (by omega) (by simp [ldZ]) (by simp [ldZ]) (by simp [ldZ])) ?_
   have er:ldA l (chP l) (px,p_y,pz) l.length (ldZ l.length) = ldR l (px,p_y,pz) := rfl
   rw [er]
   cases hb:(ldR l (px,p_y,pz)).1 with
   | true => simp [h]
   | false => simp [h]
 · rw [if_pos (by simpa using h)]
   simp [h]
abbrev kI64:K := .int .i64
noncomputable def chloads_h {α:Type} (ds:List D) (Q:SV → Hp → Option α):Option α :=
 dB ds fun bad ds => dL (K.st (LK.i IntKind.i64) [LK.i IntKind.i64,LK.i IntKind.i64,LK.i IntKind.i64,LK.i IntKind.i64,LK.i IntKind.i64,LK.i IntKind.i64,LK.i IntKind.i64,LK.i IntKind.i64,LK.i IntKind.i64,LK.b,LK.i IntKind.i64,LK.i IntKind.i64,LK.i IntKind.i64,LK.i IntKind.i64]) ds fun l ds => dI ds fun px ds => dI ds fun p_y ds => dI ds fun pz ds => dE ds (Q (.tup [.sl 1,.sl 2,.sl 3]) ([.cells [.bool (V.ldsB l px p_y pz bad)] 28,.seq kP (V.ldsF l px p_y pz) 24,.seq kP (V.ldsT l px p_y pz) 24,.seq kI64 (V.ldsN l px p_y pz) 3]))
theorem chloads_h_ok {α:Type}:FnOk E.P 18 (fEnt (α := α) chloads_sp chloads_h) :=
 fEntR_ok E (look_chawake_ok) (exec_sound E E_ok (look_chawake_ok) (chloads_l1_lps_ok) 400) fun ds Q r h => by
   unfold chloads_h at h
   obtain ⟨bad,ds,rfl,h1⟩ := dB_inv h
   obtain ⟨l,ds,rfl,h2⟩ := dL_inv h1
   obtain ⟨px,ds,rfl,h3⟩ := dI_inv h2
   obtain ⟨p_y,ds,rfl,h4⟩ := dI_inv h3
   obtain ⟨pz,ds,rfl,h5⟩ := dI_inv h4
   obtain ⟨rfl,hE⟩ := dE_inv h5
   exact ⟨_,_,hE,fun vs => ⟨_,_,by kernel_rfl,(chloads_eq bad l px p_y pz (vs.tail.headD undef) _).trans (chloads_v bad l px p_y pz _)⟩⟩
noncomputable def look_chloads {α:Type}:LookF α := addFn 18 (fEnt chloads_sp chloads_h) look_chawake
theorem look_chloads_ok {α:Type}:LookOk E.P (look_chloads (α := α)) := addFn_ok chloads_h_ok (look_chawake_ok)
end
end Go.Proofs.YtajomehkgaamoaaGreat.Sx
