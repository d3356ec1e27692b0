/- Texts of the walk, merged. -/
import Derived.Test.YtfkgmidgdpfnkaaGreatMg4
import Derived.ProofKit
import Derived.OpenShut
import Derived.Test.YtfkgmidgdpfnkaaGreatMg5
import Derived.Test.YtfkgmidgdpfnkaaGreatMg6
set_option linter.unusedVariables false
set_option linter.unusedSimpArgs false
namespace Go.Proofs.YtfkgmidgdpfnkaaGreat.Sx
section
open Go Go.RowKit Go.ChangeShapes
section
variable {H:Type} {enc:TypeId × Value → H} {P:Program}
theorem trodAll_keep (hl:laidOutB P = true) {W W':World} {sp:Nat → Bool}:∀ (ts:List TypeId) (vs:List Value) (ds:List (DataW H)) (ps:List MemPlace),(∀ t ∈ ts,P.readableRec t = true ∧ t < P.types.size) →
   DataW.TrodAll enc P W 0 (fun _ => true) true ts vs ds ps → (∀ x ∈ ps,W.sameAt W' x) → (∀ x ∈ ps,sp x.block = true) → DataW.TrodAll enc P W' 0 sp true ts vs ds ps
 | [],[],[],ps,_,h,_,_ => h
 | t :: ts,v :: vs,d :: ds,ps,hr,h,h1,h2 => by
   obtain ⟨p,q,a,b,rfl⟩ := h
   exact ⟨p, q, WideElems.Trod_stays hl (hr t (by simp)).1 (hr t (by simp)).2 a (fun x hx => h1 x (by simp [hx])) (fun x hx => h2 x (by simp [hx])),
     trodAll_keep hl ts vs ds q (fun t ht => hr t (by simp [ht])) b (fun x hx => h1 x (by simp [hx])) (fun x hx => h2 x (by simp [hx])),rfl⟩
 | [],_ :: _,_,_,_,h,_,_ => h.elim
 | [],[],_ :: _,_,_,h,_,_ => h.elim
 | _ :: _,[],_,_,_,h,_,_ => h.elim
 | _ :: _,_ :: _,[],_,_,h,_,_ => h.elim
theorem post_of_below {f:Func} {s:ChangeSpec} {apart fresh handsOn again:Bool} {W W':World} {args:Array Value} {ds gs:List (DataW H)} {before:List MemPlace} {tb:TypeId}
   (hl:laidOutB P = true) (hr:∀ t ∈ f.params.toList,P.readableRec t = true ∧ t < P.types.size) (hv:s.vars = []) (hres:f.resultTypes = #[tb]) (htb:P.underlying tb = some .bool)
   (hfn:(s.fn H (ds ++ gs)) = { results := [.lit (.bool true)],args := ds }) (hW:DataW.Whole enc P f.params.toList s.vars apart W args.toList ds gs before) (hb:Below W.heap.size W W') :
   s.post enc P f apart fresh handsOn again W args (.bool true) W' := by
 have hW0 := hW
 obtain ⟨p,q,hA,hV,hps,hfz,hnd⟩ := hW
 rw [hv] at hV
 obtain ⟨rfl,rfl⟩ := trodVars_none hV
 rw [List.append_nil] at hps
 subst hps
 have hlt:∀ x ∈ before,x.block < W.heap.size := fun x hx => hW0.lt x hx
 have hsame:∀ x ∈ before,W.sameAt W' x := fun x hx => hb.same (hlt x hx)
 have hargs:∀ sp:Nat → Bool,(∀ x ∈ before,sp x.block = true) → DataW.TrodAll enc P W' 0 sp true f.params.toList args.toList ds before := fun sp hsp => trodAll_keep hl _ _ _ _ hr hA hsame hsp
 have hbool:∀ (b:Nat) (sp:Nat → Bool) (hd:Bool),DataW.Trod enc P W' b sp hd tb (.bool true) (.lit (.bool true)) [] := fun b sp hd => ⟨1,by simp [DataW.trod,Value.cells,htb]⟩
 have hres1:∀ (b:Nat) (sp:Nat → Bool) (hd:Bool),DataW.TrodAll enc P W' b sp hd f.resultTypes.toList ((Value.bool true).resultList f.resultTypes.size) [.lit (.bool true)] [] := by
   intro b sp hd
   rw [hres]
   exact trodAll_mk1 (hbool b sp hd)
 have hk : W.keptBut W' (fun _ => False) := by
   refine ⟨hb.os,hb.output,fun i hi => ?_⟩
   rw [hb.block i hi]
   cases W.heap[i]? with
   | none => rfl
   | some o => cases o with
     | cells c t fr => exact ⟨rfl,rfl,rfl,fun _ _ => rfl⟩
     | map es ck => exact .inr ⟨rfl,rfl⟩
     | _ => rfl
 refine ⟨ds,[],before,[],before,[],hW0,?_,?_,?_,World.keptBut_mono (fun _ h => h.elim) hk,fun _ => ⟨?_,_,[],([] ++ before) ++ [],⟨[] ++ before,[],trodAll_append (hargs _ fun _ _ => rfl) (hres1 _ _ _),?_,rfl,?_,?_⟩,fun x hx _ => by simpa using hx⟩⟩
 · rw [hfn]; exact hres1 _ _ _
 · rw [hfn]; exact hargs _ fun x hx => by simpa using hlt x hx
 · rw [hfn,hv]; rfl
 · intro j t r h1 h2
   rw [hres] at h1 h2
   cases j with
   | zero =>
     simp [Value.resultList] at h1 h2
     subst h1; subst h2
     simp [Value.okWide,htb,Cell.okWide,Cell.ok]
   | succ j => simp at h1
 · rw [hv]; rfl
 · intro b off hx
   have hx':MemPlace.cell b off ∈ before := by simpa using hx
   have := hfz b off hx'
   unfold World.frozen? at this ⊢
   have hbl:b < W.heap.size := hlt _ hx'
   simp only [hb.block b hbl]
   exact this
 · intro ha
   simpa using hnd ha
end
theorem flat_get (κ:K):∀ (xs:List κ.T) (q m:Nat),q < xs.length → m < κ.sz → (xs.flatMap κ.cells)[q * κ.sz + m]? = (κ.cells (xs[q]?.getD κ.dflt))[m]?
 | [],q,m,h,_ => by simp at h
 | x :: xs,0,m,h,hm => by
   rw [List.flatMap_cons,List.getElem?_append_left (by rw [K.cells_length]; omega)]
   simp
 | x :: xs,q + 1,m,h,hm => by
   rw [List.flatMap_cons,List.getElem?_append_right (by rw [K.cells_length,Nat.add_mul]; omega),K.cells_length]
   rw [show (q + 1) * κ.sz + m - κ.sz = q * κ.sz + m by rw [Nat.add_mul]; omega]
   simpa using flat_get κ xs q m (by simpa using h) hm
theorem okWide_slice' {P:Program} {w:World} {r:Reach} {base:Nat} {t e:TypeId} {v:Value} (ht:P.underlying t = some (.slice e)) (h:Value.okWide P w r base t v):∃ a l c,v = .slice a l c := by
 unfold Value.okWide at h
 rw [ht] at h
 cases v <;> simp_all [Cell.okWide,Cell.ok]
theorem ros_trod {H:Type} {enc:TypeId × Value → H} {P:Program} {W:World} {t e:TypeId} {κ:K} {good:κ.T → Prop} {fuel:Nat} {cs:List Value} {x:DataW H × List MemPlace} (ht:P.underlying t = some (.slice e)) (hc:P.cellsOf e = κ.sz)
   (hel:∀ n cs x,DataW.trod enc P W 0 (fun _ => true) true n e cs = some x → ∃ y:κ.T,cs = κ.cells y ∧ good y) (h:DataW.trod enc P W 0 (fun _ => true) true fuel t cs = some x) (hok:∀ y:κ.T,good y → κ.okT (fun b => b < W.heap.size) W y := by exact fun y _ => _root_.Go.Proofs.YtfkgmidgdpfnkaaGreat.Sx.inOk_noP _ [y] rfl y (by simp)) :
   ∃ v,cs = [v] ∧ ∃ xs:List κ.T,(∀ x ∈ xs,good x) ∧ xs.length < 9223372036854775808 ∧ RosOk (fun b => b < W.heap.size) W v κ xs := by
 rcases DataW.trod_slice ht h with ⟨rfl,_⟩ | ⟨a,l0,c0,elems,rest,n,_,rfl,_,hb,hl,hm,hlen,hes,_,_⟩
 · exact ⟨_,rfl,[],by simp,by simp,.inl ⟨rfl,none,0,rfl⟩,fun x hx => by cases hx⟩
 · refine ⟨_, rfl, ?_⟩
   have each:∀ i,i < l0 → ∃ y:κ.T,W.cells? 0 (a.add (i * κ.sz)) κ.sz = some (κ.cells y) ∧ good y := by
     intro i hi
     have h1 := hes i hi
     rw [hc] at h1
     have h2:elems[i]? = some (elems[i]'(by omega)) := List.getElem?_eq_getElem (by omega)
     rw [h2,Option.bind_eq_some_iff] at h1
     obtain ⟨cs,hcs,hx⟩ := h1
     obtain ⟨y,rfl,hy⟩ := hel _ _ _ hx
     exact ⟨y,hcs,hy⟩
   have all:∀ k,k ≤ l0 → ∃ xs:List κ.T,xs.length = k ∧ (∀ x ∈ xs,good x) ∧ ∀ i,(hi:i < xs.length) → W.cells? 0 (a.add (i * κ.sz)) κ.sz = some (κ.cells xs[i]) := by
     intro k
     induction k with
     | zero => exact fun _ => ⟨[],rfl,by simp,by simp⟩
     | succ k ih =>
       intro hk
       obtain ⟨xs,e1,e2,e3⟩ := ih (by omega)
       obtain ⟨y,e4,e5⟩ := each k (by omega)
       refine ⟨xs ++ [y],by simp [e1],?_,?_⟩
       · intro x hx
         rcases List.mem_append.1 hx with hx | hx
         · exact e2 x hx
         · simp at hx; subst hx; exact e5
       · intro i hi
         by_cases hik:i < xs.length
         · rw [List.getElem_append_left hik]; exact e3 i hik
         · have : i = xs.length := by simp at hi; omega
           subst this
           rw [List.getElem_append_right (by omega)]
           simpa [e1] using e4
   obtain ⟨xs,e1,e2,e3⟩ := all l0 (Nat.le_refl _)
   refine ⟨xs,e2,by unfold maxLen at hm; omega,?_,fun x hx => hok x (e2 x hx)⟩
   by_cases h0:l0 = 0
   · subst h0
     exact .inl ⟨List.eq_nil_of_length_eq_zero e1,_,_,rfl⟩
   · have hcell : ∀ i j, i < l0 → j < κ.sz → W.cell? ((a.add (i * κ.sz)).add j) = (κ.cells (xs[i]?.getD κ.dflt))[j]? := by
       intro i j hi hj
       have := (World.cells?_some (e3 i (by omega))).2.2 j hj
       rw [this]
       simp [show i < xs.length by omega]
     have hsz:0 < κ.sz := K.sz_pos κ
     have h00 := hcell 0 0 (by omega) hsz
     have hsp:a.spot = none ∧ a.block < W.heap.size := by
       have e0:(a.add (0 * κ.sz)).add 0 = a := by simp [Addr.add]
       rw [e0] at h00
       have hne:(κ.cells (xs[0]?.getD κ.dflt))[0]? ≠ none := by
         rw [List.getElem?_eq_getElem (by rw [K.cells_length]; exact hsz)]; simp
       rw [← h00] at hne
       unfold World.cell? at hne
       split at hne
       · rename_i c t' f' hh
         refine ⟨?_,?_⟩
         · cases hs : a.spot with
           | none => rfl
           | some q => simp [hs] at hne
         · exact (Array.getElem?_eq_some_iff.1 hh).1
       · simp at hne
     refine .inr ⟨a,c0,by rw [e1],by omega,hsp.1,hsp.2,?_⟩
     intro j c hj
     have hjl:j < xs.length * κ.sz := by
       have := (List.getElem?_eq_some_iff.1 hj).1
       rwa [cells_flat_length] at this
     have hq:j / κ.sz < xs.length := Nat.div_lt_of_lt_mul (by rwa [Nat.mul_comm])
     have hm':j % κ.sz < κ.sz := Nat.mod_lt _ hsz
     have hadd:(⟨a.block,a.off + j,none⟩:Addr) = (a.add (j / κ.sz * κ.sz)).add (j % κ.sz) := by
       obtain ⟨ab,ao,asp⟩ := a
       have:asp = none := hsp.1
       subst this
       rw [add_lit,add_lit,Nat.add_assoc,Nat.div_add_mod' j κ.sz]
     rw [hadd,hcell _ _ (by omega) hm']
     rw [← flat_get κ xs (j / κ.sz) (j % κ.sz) hq hm',Nat.div_add_mod' j κ.sz]
     exact hj
theorem ros_slice {H:Type} {enc:TypeId × Value → H} {P:Program} {W:World} {r:Reach} {b0:Nat} {t e:TypeId} {κ:K} {good:κ.T → Prop} {v:Value} {d:DataW H} {ps:List MemPlace} (ht:P.underlying t = some (.slice e)) (hc:P.cellsOf e = κ.sz)
   (hel:∀ n cs x,DataW.trod enc P W 0 (fun _ => true) true n e cs = some x → ∃ y:κ.T,cs = κ.cells y ∧ good y) (hval:Value.okWide P W r b0 t v) (h:DataW.Trod enc P W 0 (fun _ => true) true t v d ps) (hok:∀ y:κ.T,good y → κ.okT (fun b => b < W.heap.size) W y := by exact fun y _ => _root_.Go.Proofs.YtfkgmidgdpfnkaaGreat.Sx.inOk_noP _ [y] rfl y (by simp)) :
   ∃ xs:List κ.T,(∀ x ∈ xs,good x) ∧ xs.length < 9223372036854775808 ∧ RosOk (fun b => b < W.heap.size) W v κ xs := by
 obtain ⟨a0,l0,c0,rfl⟩ := okWide_slice' ht hval
 obtain ⟨fuel,h⟩ := h
 have hcs:(Value.slice a0 l0 c0).cells.toList = [.slice a0 l0 c0] := rfl
 rw [hcs] at h
 obtain ⟨v,hv,hx⟩ := ros_trod ht hc hel h hok
 cases hv
 exact hx
theorem wf64 {n:Int} (h:(Lit.int .i64 n).wf = true):-9223372036854775808 ≤ n ∧ n < 9223372036854775808 := by
 simp only [Lit.wf,Bool.and_eq_true,decide_eq_true_eq] at h
 have h1:IntKind.i64.min = -9223372036854775808 := by decide
 have h2:IntKind.i64.max = 9223372036854775807 := by decide
 rw [h1,h2] at h
 omega
theorem sound_of {P:Program} {f:FuncId} {c:List SV → Hp → (SV → Hp → Option (SV × Hp)) → Option (SV × Hp)} {args:List SV} {v:SV} {H':Hp} (h:FnOk P f c) (hc:c args [] (fun v H => some (v,H)) = some (v,H')):Sound P f args [] v H' := by
 obtain ⟨v,H',h1,h2⟩ := h _ _ _ _ hc
 cases h1
 exact h2
theorem law_calls {P:Program} {f:FuncId} {args:List SV} (hs:Sound P f args [] (.bool true) []) (W:World)
   (hok:∀ (ρ:Nat → Tk),SV.okL (fun b => b < W.heap.size) W ρ 0 args) :
   Calls P f (denL (fun _ => ⟨0,.slice none 0 0⟩) args).toArray W fun e W' => e = .returned (.bool true) ∧ Below W.heap.size W W' := by
 have := hs.run ⟨fun b => b < W.heap.size, W, fun b => W.heap.size ≤ b⟩ (fun _ => ⟨0, .slice none 0 0⟩) W
   { obj := by intro t o h; simp at h
     sep := by intro t t' b h; simp [blkOf] at h
     own := by intro t b h; simp [blkOf] at h
     hdr := fun t => ⟨none,0,0,rfl⟩
     keep := fun _ _ _ => rfl
     size := Nat.le_refl _
     os := rfl
     tape := rfl
     output := rfl
     ok := by intro t o h; simp at h
     fit := ⟨fun b h => h,fun b h => ⟨h,by show ¬ (W.heap.size ≤ b); have:b < W.heap.size := h; omega⟩⟩ } (hok _)
 refine this.mono fun e W' ⟨ρ',_,he,hR,_⟩ => ⟨by rw [he]; rfl,hR.os,hR.tape,hR.output,hR.size,fun k hk => hR.keep k hk (by show ¬ (W.heap.size ≤ k); omega)⟩
def LK.good:(k:LK) → k.T → Prop
 | .i k,n => (Lit.int k n).wf = true
 | .b,_ => True
 | .p,_ => True
def RT.good:(k:LK) → (ks:List LK) → RT k ks → Prop
 | k,[],x => k.good x
 | k,k' :: ks,x => k.good x.1 ∧ RT.good k' ks x.2
def Mt:List LK → List Value → Prop
 | [],[] => True
 | .i k :: ks,.int k' n :: cs => k' = k ∧ (Lit.int k n).wf = true ∧ Mt ks cs
 | .b :: ks,.bool _ :: cs => Mt ks cs
 | _,_ => False
theorem Mt.length:∀ {ks:List LK} {cs:List Value},Mt ks cs → cs.length = ks.length
 | [],[],_ => rfl
 | .i _ :: ks,.int _ _ :: cs,h => by simp [Mt.length (ks := ks) (cs := cs) h.2.2]
 | .b :: ks,.bool _ :: cs,h => by simp [Mt.length (ks := ks) (cs := cs) h]
 | [],_ :: _,h => h.elim
 | .i _ :: _,[],h => h.elim
 | .b :: _,[],h => h.elim
theorem Mt.append:∀ {ks ls:List LK} {cs ds:List Value},Mt ks cs → Mt ls ds → Mt (ks ++ ls) (cs ++ ds)
 | [],ls,[],ds,_,h => h
 | .i _ :: ks,ls,.int _ _ :: cs,ds,h,h' => ⟨h.1,h.2.1,Mt.append h.2.2 h'⟩
 | .b :: ks,ls,.bool _ :: cs,ds,h,h' => Mt.append (ks := ks) (cs := cs) h h'
 | [],_,_ :: _,_,h,_ => h.elim
 | .i _ :: _,_,[],_,h,_ => h.elim
 | .b :: _,_,[],_,h,_ => h.elim
theorem Mt.data:∀ {k:LK} {ks:List LK} {cs:List Value},Mt (k :: ks) cs → ∃ x:RT k ks,cs = RT.cells k ks x ∧ RT.good k ks x
 | .i k,[],[.int k' n],h => by obtain ⟨rfl,h2,_⟩ := h; exact ⟨n,rfl,h2⟩
 | .b,[],[.bool v],h => ⟨v,rfl,trivial⟩
 | .i k,k2 :: ks,.int k' n :: cs,h => by
   obtain ⟨rfl,h2,h3⟩ := h
   obtain ⟨x,rfl,hx⟩ := Mt.data h3
   exact ⟨(n,x),rfl,h2,hx⟩
 | .b,k2 :: ks,.bool v :: cs,h => by
   obtain ⟨x,rfl,hx⟩ := Mt.data (cs := cs) (k := k2) (ks := ks) h
   exact ⟨(v,x),rfl,trivial,hx⟩
 | .i _,[],.int _ _ :: _ :: _,h => h.2.2.elim
 | .b,[],.bool _ :: _ :: _,h => h.elim
 | .i _,_,[],h => h.elim
 | .b,_,[],h => h.elim
def shpFs (P:Program) (f:TypeId → Option (List LK)):List Field → Nat → Option (List LK)
 | [],_ => some []
 | x :: l,off => if x.offset = off then (f x.type).bind fun ks => if ks.length = P.cellsOf x.type then (shpFs P f l (off + ks.length)).map fun ls => ks ++ ls else none else none
def rep {α:Type}:Nat → List α → List α
 | 0,_ => []
 | n + 1,l => l ++ rep n l
def shp (P:Program):Nat → TypeId → Option (List LK)
 | 0,_ => none
 | d + 1, t => match P.underlying t with
   | some (.int k) => some [.i k]
   | some .bool => some [.b]
   | some (.struct fs) => (shpFs P (shp P d) fs.toList 0).bind fun ks => if ks.length = P.cellsOf t then some ks else none
   | some (.array n e) => (shp P d e).bind fun ks => if ks.length = P.cellsOf e ∧ n * ks.length = P.cellsOf t then some (rep n ks) else none
   | _ => none
theorem trod_bool' {H:Type} {enc:TypeId × Value → H} {P:Program} {W:World} {b:Nat} {sp:Nat → Bool} {hd:Bool} {t:TypeId} {n:Nat} {cs:List Value} {x:DataW H × List MemPlace}
   (ht:P.underlying t = some .bool) (h:DataW.trod enc P W b sp hd n t cs = some x):∃ v,cs = [.bool v] := by
 cases n with
 | zero => simp [DataW.trod] at h
 | succ n =>
   unfold DataW.trod at h
   rw [ht] at h
   split at h <;> simp_all
theorem trod_shp {H:Type} {enc:TypeId × Value → H} {P:Program} {W:World} {b:Nat} {sp:Nat → Bool} {hd:Bool}:∀ (d:Nat) (t:TypeId) (ks:List LK),shp P d t = some ks →
   ∀ (n:Nat) (cs:List Value) (x:DataW H × List MemPlace),DataW.trod enc P W b sp hd n t cs = some x → Mt ks cs
 | 0,t,ks,h => by simp [shp] at h
 | d + 1,t,ks,h => by
   intro n cs x hx
   have ih := trod_shp (enc := enc) (P := P) (W := W) (b := b) (sp := sp) (hd := hd) d
   unfold shp at h
   split at h
   · rename_i k ht
     cases h
     obtain ⟨m,rfl,_,hw⟩ := DataW.trod_int ht hx
     exact ⟨rfl,hw,trivial⟩
   · rename_i ht
     cases h
     obtain ⟨v,rfl⟩ := trod_bool' ht hx
     trivial
   · rename_i fs ht
     rw [Option.bind_eq_some_iff] at h
     obtain ⟨ks',h1,h2⟩ := h
     split at h2
     · rename_i hl
       cases h2
       obtain ⟨xs,m,_,_,hlen,hxl,hf⟩ := DataW.trod_struct ht hx
       have each:∀ f ∈ fs.toList,∃ x,DataW.trod enc P W b sp hd m f.type ((cs.drop f.offset).take (P.cellsOf f.type)) = some x := by
         intro f hf'
         obtain ⟨i,hi,rfl⟩ := List.mem_iff_getElem.1 hf'
         have hi':i < fs.size := by simpa using hi
         have := hf i _ (by simp [hi']:fs[i]? = some (fs.toList[i]))
         exact ⟨xs[i]'(by omega),by rw [this]; simp [show i < xs.length by omega]⟩
       have main:∀ (l:List Field) (off:Nat) (ks:List LK),(∀ f ∈ l,∃ x,DataW.trod enc P W b sp hd m f.type ((cs.drop f.offset).take (P.cellsOf f.type)) = some x) →
           shpFs P (shp P d) l off = some ks → cs.length = off + ks.length → Mt ks (cs.drop off) := by
         intro l
         induction l with
         | nil =>
           intro off ks _ hk hl2
           simp [shpFs] at hk
           subst hk
           rw [List.drop_eq_nil_of_le (by simp at hl2; omega)]
           trivial
         | cons f l ihl =>
           intro off ks he hk hl2
           unfold shpFs at hk
           split at hk
           · rename_i ho
             rw [Option.bind_eq_some_iff] at hk
             obtain ⟨k1,a1,a2⟩ := hk
             split at a2
             · rename_i hk1
               rw [Option.map_eq_some_iff] at a2
               obtain ⟨k2,a3,rfl⟩ := a2
               obtain ⟨y,hy⟩ := he f (by simp)
               have m1 := ih _ _ a1 _ _ _ hy
               have m2 := ihl (off + k1.length) k2 (fun g hg => he g (by simp [hg])) a3 (by simp at hl2; omega)
               rw [ho,← hk1] at m1
               have e:cs.drop off = (cs.drop off).take k1.length ++ cs.drop (off + k1.length) := by
                 rw [← List.drop_drop,List.take_append_drop]
               rw [e]
               exact m1.append m2
             · cases a2
           · cases hk
       have := main fs.toList 0 _ each h1 (by omega)
       simpa using this
     · cases h2
   · rename_i n' e ht
     rw [Option.bind_eq_some_iff] at h
     obtain ⟨k1,h1,h2⟩ := h
     split at h2
     · rename_i hl
       cases h2
       obtain ⟨xs,m,_,_,hlen,hxl,hf⟩ := DataW.trod_array ht hx
       have each:∀ i,i < n' → Mt k1 ((cs.drop (i * k1.length)).take k1.length) := by
         intro i hi
         have := hf i hi
         rw [List.getElem?_eq_getElem (by omega)] at this
         have := ih _ _ h1 _ _ _ this
         rwa [← hl.1] at this
       have main:∀ j,j ≤ n' → Mt (rep j k1) (cs.drop ((n' - j) * k1.length)) := by
         intro j
         induction j with
         | zero =>
           intro _
           rw [List.drop_eq_nil_of_le (by simp; omega)]
           trivial
         | succ j ihj =>
           intro hj
           have m1 := each (n' - (j + 1)) (by omega)
           have m2 := ihj (by omega)
           have e0:(n' - (j + 1)) * k1.length + k1.length = (n' - j) * k1.length := by
             rw [show n' - j = (n' - (j + 1)) + 1 by omega,Nat.add_mul]; omega
           have e:cs.drop ((n' - (j + 1)) * k1.length) = (cs.drop ((n' - (j + 1)) * k1.length)).take k1.length ++ cs.drop ((n' - j) * k1.length) := by
             rw [← e0,← List.drop_drop,List.take_append_drop]
           rw [e]
           exact m1.append m2
       have := main n' (Nat.le_refl _)
       simpa using this
     · cases h2
   · cases h
theorem el_st {H:Type} {enc:TypeId × Value → H} {P:Program} {W:World} {t:TypeId} {k:LK} {ks:List LK} (d:Nat) (hs:shp P d t = some (k :: ks)) :
   ∀ n cs x,DataW.trod enc P W 0 (fun _ => true) true n t cs = some x → ∃ y:(K.st k ks).T,cs = (K.st k ks).cells y ∧ RT.good k ks y :=
 fun n cs x h => (trod_shp d t _ hs n cs x h).data
inductive RK where
 | leaf (k:LK) | sl (t:TypeId)
def MtR {H:Type} (enc:TypeId × Value → H) (P:Program) (W:World):List RK → List Value → Prop
 | [],[] => True
 | .leaf (.i k) :: ks,.int k' n :: cs => k' = k ∧ (Lit.int k n).wf = true ∧ MtR enc P W ks cs
 | .leaf .b :: ks,.bool _ :: cs => MtR enc P W ks cs
 | .sl t :: ks,v :: cs => (∃ fuel x,DataW.trod enc P W 0 (fun _ => true) true fuel t [v] = some x) ∧ MtR enc P W ks cs
 | _,_ => False
theorem MtR.append {H:Type} {enc:TypeId × Value → H} {P:Program} {W:World}:∀ {ks ls:List RK} {cs ds:List Value},MtR enc P W ks cs → MtR enc P W ls ds → MtR enc P W (ks ++ ls) (cs ++ ds)
 | [],ls,[],ds,_,h => h
 | .leaf (.i _) :: ks,ls,.int _ _ :: cs,ds,h,h' => ⟨h.1,h.2.1,MtR.append h.2.2 h'⟩
 | .leaf .b :: ks,ls,.bool _ :: cs,ds,h,h' => MtR.append (ks := ks) (cs := cs) h h'
 | .sl _ :: ks,ls,v :: cs,ds,h,h' => ⟨h.1,MtR.append h.2 h'⟩
theorem MtR.ci {H:Type} {enc:TypeId × Value → H} {P:Program} {W:World} {k:IntKind} {ks:List RK}:∀ {cs:List Value},MtR enc P W (.leaf (.i k) :: ks) cs → ∃ n cs',cs = .int k n :: cs' ∧ (Lit.int k n).wf = true ∧ MtR enc P W ks cs'
 | .int _ n :: cs,h => by obtain ⟨rfl,h2,h3⟩ := h; exact ⟨n,cs,rfl,h2,h3⟩
theorem MtR.cb {H:Type} {enc:TypeId × Value → H} {P:Program} {W:World} {ks:List RK}:∀ {cs:List Value},MtR enc P W (.leaf .b :: ks) cs → ∃ b cs',cs = .bool b :: cs' ∧ MtR enc P W ks cs'
 | .bool b :: cs,h => ⟨b,cs,rfl,h⟩
theorem MtR.cs {H:Type} {enc:TypeId × Value → H} {P:Program} {W:World} {t:TypeId} {ks:List RK}:∀ {cs:List Value},MtR enc P W (.sl t :: ks) cs → ∃ v cs',cs = v :: cs' ∧ (∃ fuel x,DataW.trod enc P W 0 (fun _ => true) true fuel t [v] = some x) ∧ MtR enc P W ks cs'
 | v :: cs,h => ⟨v,cs,rfl,h.1,h.2⟩
theorem MtR.nil {H:Type} {enc:TypeId × Value → H} {P:Program} {W:World}:∀ {cs:List Value},MtR enc P W [] cs → cs = []
 | [],_ => rfl
def shpRF (P:Program) (f:TypeId → Option (List RK)):List Field → Nat → Option (List RK)
 | [],_ => some []
 | x :: l,off => if x.offset = off then (f x.type).bind fun ks => if ks.length = P.cellsOf x.type then (shpRF P f l (off + ks.length)).map fun ls => ks ++ ls else none else none
def shpR (P:Program):Nat → TypeId → Option (List RK)
 | 0,_ => none
 | d + 1, t => match P.underlying t with
   | some (.int k) => some [.leaf (.i k)]
   | some .bool => some [.leaf .b]
   | some (.slice _) => some [.sl t]
   | some (.struct fs) => (shpRF P (shpR P d) fs.toList 0).bind fun ks => if ks.length = P.cellsOf t then some ks else none
   | _ => none
theorem trod_shpR {H:Type} {enc:TypeId × Value → H} {P:Program} {W:World}:∀ (d:Nat) (t:TypeId) (ks:List RK),shpR P d t = some ks →
   ∀ (n:Nat) (cs:List Value) (x:DataW H × List MemPlace),DataW.trod enc P W 0 (fun _ => true) true n t cs = some x → MtR enc P W ks cs
 | 0,t,ks,h => by simp [shpR] at h
 | d + 1,t,ks,h => by
   intro n cs x hx
   have ih := trod_shpR (enc := enc) (P := P) (W := W) d
   unfold shpR at h
   split at h
   · rename_i k ht
     cases h
     obtain ⟨m,rfl,_,hw⟩ := DataW.trod_int ht hx
     exact ⟨rfl,hw,trivial⟩
   · rename_i ht
     cases h
     obtain ⟨v,rfl⟩ := trod_bool' ht hx
     trivial
   · rename_i e ht
     cases h
     rcases DataW.trod_slice ht hx with ⟨rfl,_⟩ | ⟨a,l0,c0,elems,rest,n,_,rfl,_⟩
     · exact ⟨⟨_,_,hx⟩,trivial⟩
     · exact ⟨⟨_,_,hx⟩,trivial⟩
   · rename_i fs ht
     rw [Option.bind_eq_some_iff] at h
     obtain ⟨ks',h1,h2⟩ := h
     split at h2
     · rename_i hl
       cases h2
       obtain ⟨xs,m,_,_,hlen,hxl,hf⟩ := DataW.trod_struct ht hx
       have each:∀ f ∈ fs.toList,∃ x,DataW.trod enc P W 0 (fun _ => true) true m f.type ((cs.drop f.offset).take (P.cellsOf f.type)) = some x := by
         intro f hf'
         obtain ⟨i,hi,rfl⟩ := List.mem_iff_getElem.1 hf'
         have hi':i < fs.size := by simpa using hi
         have := hf i _ (by simp [hi']:fs[i]? = some (fs.toList[i]))
         exact ⟨xs[i]'(by omega),by rw [this]; simp [show i < xs.length by omega]⟩
       have main:∀ (l:List Field) (off:Nat) (ks:List RK),(∀ f ∈ l,∃ x,DataW.trod enc P W 0 (fun _ => true) true m f.type ((cs.drop f.offset).take (P.cellsOf f.type)) = some x) →
           shpRF P (shpR P d) l off = some ks → cs.length = off + ks.length → MtR enc P W ks (cs.drop off) := by
         intro l
         induction l with
         | nil =>
           intro off ks _ hk hl2
           simp [shpRF] at hk
           subst hk
           rw [List.drop_eq_nil_of_le (by simp at hl2; omega)]
           trivial
         | cons f l ihl =>
           intro off ks he hk hl2
           unfold shpRF at hk
           split at hk
           · rename_i ho
             rw [Option.bind_eq_some_iff] at hk
             obtain ⟨k1,a1,a2⟩ := hk
             split at a2
             · rename_i hk1
               rw [Option.map_eq_some_iff] at a2
               obtain ⟨k2,a3,rfl⟩ := a2
               obtain ⟨y,hy⟩ := he f (by simp)
               have m1 := ih _ _ a1 _ _ _ hy
               have m2 := ihl (off + k1.length) k2 (fun g hg => he g (by simp [hg])) a3 (by simp at hl2; omega)
               rw [ho,← hk1] at m1
               have e:cs.drop off = (cs.drop off).take k1.length ++ cs.drop (off + k1.length) := by
                 rw [← List.drop_drop,List.take_append_drop]
               rw [e]
               exact m1.append m2
             · cases a2
           · cases hk
       have := main fs.toList 0 _ each h1 (by omega)
       simpa using this
     · cases h2
   · cases h
noncomputable def _root_.Go.Proofs.YtfkgmidgdpfnkaaGreat.V.gB (p:Prop):Bool := open Classical in Classical.choose (⟨decide p,rfl⟩:∃ r:Bool,r = decide p)
theorem gB_of {p:Prop} (h:p):V.gB p = true := by
 have e:V.gB p = _ := Classical.choose_spec (⟨open Classical in decide p,rfl⟩:∃ r:Bool,r = open Classical in decide p)
 rw [e]; simp [h]
theorem gB_iff {p:Prop} (h:V.gB p = true):p := by
 have e:V.gB p = _ := Classical.choose_spec (⟨open Classical in decide p,rfl⟩:∃ r:Bool,r = open Classical in decide p)
 rw [e] at h; simpa using h
def LK.goodR (W:World):(k:LK) → k.T → Prop
 | .i k,n => (Lit.int k n).wf = true
 | .b,_ => True
 | .p,x => slV x.1 = x.1 ∧ RosOk0 (fun b => b < W.heap.size) W (slV x.1) kP x.2 ∧ x.2.length < 9223372036854775808 ∧ ∀ y ∈ x.2,RT.good (.i .i64) [.i .i64,.i .i64] y
def RT.goodR (W:World):(k:LK) → (ks:List LK) → RT k ks → Prop
 | k,[],x => k.goodR W x
 | k,k' :: ks,x => k.goodR W x.1 ∧ RT.goodR W k' ks x.2
theorem LK.okT_goodR {W : World} : ∀ (k : LK) (x : k.T), k.goodR W x → k.okT (fun b => b < W.heap.size) W x
 | .p,_,h => h.2.1
 | .i _,_,_ => trivial
 | .b,_,_ => trivial
theorem RT.okT_goodR {W : World} : ∀ (k : LK) (ks : List LK) (x : RT k ks), RT.goodR W k ks x → RT.okT (fun b => b < W.heap.size) W k ks x
 | k,[],x,h => LK.okT_goodR k x h
 | k,k' :: ks,x,h => ⟨LK.okT_goodR k x.1 h.1,RT.okT_goodR k' ks x.2 h.2⟩
def lkOf (tp:TypeId):List RK → Option (List LK)
 | [] => some []
 | .leaf k :: l => if k.noP then (lkOf tp l).map (k :: ·) else none
 | .sl t :: l => if t = tp then (lkOf tp l).map (.p :: ·) else none
theorem lkOf_nil {tp:TypeId}:∀ {rs:List RK},lkOf tp rs = some [] → rs = []
 | [],_ => rfl
 | .leaf k :: l,h => by
   unfold lkOf at h
   split at h
   · cases hl:lkOf tp l <;> simp [hl] at h
   · cases h
 | .sl t :: l,h => by
   unfold lkOf at h
   split at h
   · cases hl:lkOf tp l <;> simp [hl] at h
   · cases h
theorem mtR_data {H:Type} {enc:TypeId × Value → H} {P:Program} {W:World} {tp e:TypeId} (ht:P.underlying tp = some (.slice e)) (hc:P.cellsOf e = kP.sz)
   (hel:∀ n cs x,DataW.trod enc P W 0 (fun _ => true) true n e cs = some x → ∃ y:kP.T,cs = kP.cells y ∧ RT.good (.i .i64) [.i .i64,.i .i64] y) :
   ∀ (rs:List RK) (k:LK) (ks:List LK) (cs:List Value),lkOf tp rs = some (k :: ks) → MtR enc P W rs cs → ∃ y:RT k ks,cs = RT.cells k ks y ∧ RT.goodR W k ks y
 | [],k,ks,cs,h,_ => by simp [lkOf] at h
 | r :: rs,k,ks,cs,h,hm => by
   have head:∃ (z:k.T) (cs':List Value),cs = k.cell z :: cs' ∧ k.goodR W z ∧ MtR enc P W rs cs' ∧ lkOf tp rs = some ks := by
     cases r with
     | leaf k0 =>
       unfold lkOf at h
       split at h
       · rename_i hn
         obtain ⟨l,hl,he⟩ := Option.map_eq_some_iff.1 h
         simp only [List.cons.injEq] at he
         obtain ⟨rfl,rfl⟩ := he
         cases k0 with
         | i kk =>
           obtain ⟨n,cs',rfl,hw,hm'⟩ := MtR.ci hm
           exact ⟨n,cs',rfl,hw,hm',hl⟩
         | b =>
           obtain ⟨b,cs',rfl,hm'⟩ := MtR.cb hm
           exact ⟨b,cs',rfl,trivial,hm',hl⟩
         | p => cases hn
       · cases h
     | sl t =>
       unfold lkOf at h
       split at h
       · rename_i hn
         subst hn
         obtain ⟨l,hl,he⟩ := Option.map_eq_some_iff.1 h
         simp only [List.cons.injEq] at he
         obtain ⟨rfl,rfl⟩ := he
         obtain ⟨v,cs',rfl,⟨fuel,x,hx⟩,hm'⟩ := MtR.cs hm
         obtain ⟨v',hv,xs,g1,g2,g3⟩ := ros_trod (κ := kP) ht hc hel hx
         cases hv
         have e1 := g3.1.slice
         exact ⟨(v,xs),cs',by show _ = slV v :: cs'; rw [e1],⟨e1,by show RosOk0 _ W (slV v) kP xs; rw [e1]; exact g3.1,g2,g1⟩,hm',hl⟩
       · cases h
   obtain ⟨z,cs',rfl,hz,hm',hl⟩ := head
   cases ks with
   | nil =>
     have := lkOf_nil hl
     subst this
     have := MtR.nil hm'
     subst this
     exact ⟨z,rfl,hz⟩
   | cons k2 ks2 =>
     obtain ⟨y,rfl,hy⟩ := mtR_data ht hc hel rs k2 ks2 cs' hl hm'
     exact ⟨(z,y),rfl,hz,hy⟩
theorem el_stp {H:Type} {enc:TypeId × Value → H} {P:Program} {W:World} {t tp e:TypeId} {rs:List RK} {k:LK} {ks:List LK} (d:Nat) (hs:shpR P d t = some rs) (hk:lkOf tp rs = some (k :: ks)) (ht:P.underlying tp = some (.slice e)) (hc:P.cellsOf e = kP.sz)
   (he:shp P d e = some [.i .i64,.i .i64,.i .i64]) :
   ∀ n cs x,DataW.trod enc P W 0 (fun _ => true) true n t cs = some x → ∃ y:(K.st k ks).T,cs = (K.st k ks).cells y ∧ RT.goodR W k ks y :=
 fun n cs x h => mtR_data ht hc (el_st d he) rs k ks cs hk (trod_shpR d t _ hs n cs x h)
end
section
open Go Go.RowKit
structure Cx.Le (C C':Cx):Prop where
 ro:∀ b,C.R b → C'.R b
 size:C.w1.heap.size ≤ C'.w1.heap.size
 own:∀ b,C'.Own b → C.Own b
 keep:∀ b,b < C.w1.heap.size → ¬ C.Own b → C'.w1.heap[b]? = C.w1.heap[b]?
 os:C'.w1.os = C.w1.os
 tape:C'.w1.tape = C.w1.tape
 output:C'.w1.output = C.w1.output
theorem Cx.Le.refl (C:Cx):C.Le C := ⟨fun _ h => h,Nat.le_refl _,fun _ h => h,fun _ _ _ => rfl,rfl,rfl,rfl⟩
theorem Cx.Le.trans {A B C:Cx} (h:A.Le B) (k:B.Le C):A.Le C :=
 ⟨fun b hb => k.ro b (h.ro b hb),Nat.le_trans h.size k.size,fun b hb => h.own b (k.own b hb),fun b h1 h2 => (k.keep b (Nat.lt_of_lt_of_le h1 h.size) (fun hc => h2 (h.own b hc))).trans (h.keep b h1 h2),
   k.os.trans h.os,k.tape.trans h.tape,k.output.trans h.output⟩
theorem Cx.Le.roKeep {C C':Cx} (h:C.Le C') (hf:C.Fit):∀ b,C.R b → C'.w1.heap[b]? = C.w1.heap[b]? := fun b hb => h.keep b (hf.ro b hb).1 (hf.ro b hb).2
theorem Cx.Le.ok {C C':Cx} (h:C.Le C') (hf:C.Fit) {ρ:Nat → Tk} {n:Nat} {v:SV} (hv:v.ok C.R C.w1 ρ n):v.ok C'.R C'.w1 ρ n :=
 Sx.ok_more h.ro v (Sx.ok_world (h.roKeep hf) v hv)
theorem Cx.Le.obj {C C':Cx} (h:C.Le C') (hf:C.Fit) {ρ:Nat → Tk} {n:Nat} {o:SObj} (ho:o.ok C.R C.w1 ρ n):o.ok C'.R C'.w1 ρ n := by
 cases o with
 | cells l T => exact ⟨okL_iff.2 fun x hx => h.ok hf (okL_iff.1 ho.1 x hx),ho.2⟩
 | seq κ xs E => exact (InOk.world (h.roKeep hf) ho).more h.ro
 | lp f p F st => exact fun i v hv => h.ok hf (ho i v hv)
 | dead => trivial
theorem FRel.tell {C:Cx} {ρ:Nat → Tk} {n:Nat} {F:Fr} {tmps:Array Value} (h:FRel C ρ n F tmps) {d:Nat} {u v:SV} (hu:F[d]? = some (some u)) (he:den ρ v = den ρ u) (hv:v.ok C.R C.w1 ρ n):FRel C ρ n (F.set d (some v)) tmps :=
 ⟨by simp [h.size], fun i x hx => by
   by_cases e:d = i
   · subst e
     rw [List.getElem?_set_self (List.getElem?_eq_some_iff.1 hu).1] at hx
     cases hx
     exact ⟨by rw [he]; exact (h.val d u hu).1,hv⟩
   · rw [List.getElem?_set_ne e] at hx
     exact h.val i x hx⟩
section
variable (E:Env) {α:Type}
def Ends (C:Cx) (w:World):Prop := w.os = C.w1.os ∧ w.tape = C.w1.tape ∧ w.output = C.w1.output ∧ C.w1.heap.size ≤ w.heap.size ∧ ∀ b,b < C.w1.heap.size → ¬ C.Own b → w.heap[b]? = C.w1.heap[b]?
theorem Rel.ends {C:Cx} {ρ:Nat → Tk} {H:Hp} {w:World} (h:Rel C ρ H w):Ends C w := ⟨h.os,h.tape,h.output,h.size,h.keep⟩
theorem Ends.le {C C':Cx} {w:World} (h:C.Le C') (k:Ends C' w):Ends C w := by
 obtain ⟨k1,k2,k3,k4,k5⟩ := k
 exact ⟨k1.trans h.os,k2.trans h.tape,k3.trans h.output,Nat.le_trans h.size k4,fun b h1 h2 => (k5 b (Nat.lt_of_lt_of_le h1 h.size) (fun hc => h2 (h.own b hc))).trans (h.keep b h1 h2)⟩
structure MarksO (C:Cx) (ms:List Deferred) (w:World) (ρ:Nat → Tk) (H:Hp):Prop where
 all:∀ d ∈ ms,∃ D,d = { target := .collected D,args := #[] } ∧ C.Own D ∧ w.heap[D]? = some (.deferred (some [])) ∧ ∀ t,blkOf ρ H t ≠ some D
 nodup:ms.Nodup
theorem MarksO.nil {C:Cx} {w:World} {ρ:Nat → Tk} {H:Hp}:MarksO C [] w ρ H := ⟨fun d h => (List.not_mem_nil h).elim,List.nodup_nil⟩
theorem MarksO.add {C:Cx} {ms ms2:List Deferred} {w w':World} {ρ ρ':Nat → Tk} {H H':Hp} (m:MarksO C ms w ρ H) (a:Apart ρ H w ρ' H' w') (m2:Marks ms2 w.heap.size w' ρ' H') (hf:C.Fit) (hs:C.w1.heap.size ≤ w.heap.size):MarksO C (ms2 ++ ms) w' ρ' H' :=
 ⟨fun d hd => by
   rcases List.mem_append.1 hd with hd | hd
   · obtain ⟨D, e, h1, h2, h3⟩ := m2.all d hd
     exact ⟨D,e,hf.new D (Nat.le_trans hs h1),h2,h3⟩
   · obtain ⟨D, e, h1, h2, h3⟩ := m.all d hd
     obtain ⟨k1,k2⟩ := a.keep D (Array.getElem?_eq_some_iff.1 h2).1 h3
     exact ⟨D,e,h1,k1.trans h2,k2⟩,List.nodup_append.2 ⟨m2.nodup,m.nodup,fun d h2 d' h1 e => by
   subst e
   obtain ⟨D,e,k1,_⟩ := m2.all d h2
   obtain ⟨D',e',_,k2,_⟩ := m.all d h1
   rw [e] at e'
   have:D = D' := by simpa using e'
   subst this
   have := (Array.getElem?_eq_some_iff.1 k2).1
   omega⟩⟩
def restC:Nat → Code → Option Code
 | 0,c => some c
 | k + 1, c => match c with
   | .seq _ b => restC k b
   | _ => none
def restP:Nat → List Bool → List Bool
 | 0,p => p
 | k + 1,p => restP k (true :: p)
noncomputable def cutI (look:LookF α) (lps:LookL α) (fid:FuncId) (base:Nat):Nat → Nat → List Bool → Code → St → (Nat → List Bool → Code → St → Option α) → (Ex → St → Option α) → Option α
 | 0,n,path,c,S,J,_ => J n path c S
 | k + 1, n, path, c, S, J, Kx => match n with
   | 0 => none
   | n + 1 => match c with
     | .seq a b => exec E look lps n fid (false :: path) base a S fun e S' => match e with
       | .normal => cutI look lps fid base k n (true :: path) b S' J Kx
       | .exit id => Kx (.exit id) S'
       | .ret => Kx .ret S'
     | _ => none
theorem cutI_eq {look:LookF α} {lps:LookL α} (fid:FuncId) (base:Nat) (K:Ex → St → Option α):∀ (k n:Nat) (path:List Bool) (c c':Code) (S:St),restC k c = some c' →
   cutI E look lps fid base k (n + k) path c S (fun _ _ _ S => exec E look lps n fid (restP k path) base c' S K) K = exec E look lps (n + k) fid path base c S K
 | 0,n,path,c,c',S,h => by
   simp only [restC,Option.some.injEq] at h
   subst h; rfl
 | k + 1,n,path,c,c',S,h => by
   cases c with
   | seq a b =>
     simp only [restC] at h
     show exec E look lps (n + k) fid (false :: path) base a S _ = exec E look lps (n + k) fid (false :: path) base a S _
     congr 1
     funext e S'
     cases e with
     | normal => exact cutI_eq fid base K k n (true :: path) b c' S' h
     | exit id => rfl
     | ret => rfl
   | _ => simp [restC] at h
noncomputable def endK (fn:Func) (base:Nat) (K:SV → Hp → Option α) (e:Ex) (S:St):Option α :=
 match e with
 | .exit _ => none
 | _ => bindO (resOf E S.H S.F fn.results) fun v => gcRet base v S.H K
noncomputable def callCut (look:LookF α) (lps:LookL α) (k:Nat) (f:FuncId) (args:List SV) (H:Hp) (J:St → Option α) (K:SV → Hp → Option α):Option α :=
 match E.P.funcs[f]? with
 | some fn => match fn.body with
   | some c => if Nat.ble args.length fn.ntmps then
       freshSt (memN f E.fresh) ⟨enterF fn.ntmps args,H⟩ fun S => cutI E look lps f H.length k 400 [] c S (fun _ _ _ S => J S) fun e S => endK E fn H.length K e S
     else none
   | none => none
 | none => none
noncomputable def sufCut (look:LookF α) (lps:LookL α) (k n:Nat) (f:FuncId) (base:Nat) (S:St) (K:SV → Hp → Option α):Option α :=
 match E.P.funcs[f]? with
 | some fn => match (fn.body).bind (restC k) with
   | some c => exec E look lps n f (restP k []) base c S fun e S => endK E fn base K e S
   | none => none
 | none => none
theorem callI_cut {look:LookF α} {lps:LookL α} {k n:Nat} {f:FuncId} {args:List SV} {H:Hp} {K:SV → Hp → Option α} (hl:(look f).isNone = true) (hn:n + k = 400) (hb:((E.P.funcs[f]?).bind fun fn => (fn.body).bind (restC k)).isSome = true) :
   callI E look (exec E look lps 400) f args H K = callCut E look lps k f args H (fun S => sufCut E look lps k n f H.length S K) K := by
 have hl':look f = none := by cases h:look f <;> simp_all
 unfold callI callCut
 rw [hl']
 cases hf:E.P.funcs[f]? with
 | none => rfl
 | some fn =>
   cases hc:fn.body with
   | none => simp [hf,hc] at hb
   | some c =>
     simp only [hf,hc,Option.bind_some] at hb
     obtain ⟨c',hc'⟩ := Option.isSome_iff_exists.1 hb
     simp only [hc]
     split
     · congr 1
       funext S
       have e1:(fun S => sufCut E look lps k n f H.length S K) = fun S => exec E look lps n f (restP k []) H.length c' S fun e S => endK E fn H.length K e S := by
         funext S
         unfold sufCut
         rw [hf]
         simp only [hc,Option.bind_some,hc']
       have := cutI_eq E (look := look) (lps := lps) f H.length (fun e S => endK E fn H.length K e S) k n [] c c' S hc'
       rw [hn] at this
       rw [e1]
       refine Eq.trans ?_ this.symm
       rfl
     · rfl
end
end
section
open Go
set_option maxRecDepth 20000
noncomputable def hidR {τ:Type} (x:τ):τ := Classical.choose (⟨x,rfl⟩:∃ r:τ,r = x)
theorem hidR_eq {τ:Type} (x:τ):hidR x = x := Classical.choose_spec (⟨x,rfl⟩:∃ r:τ,r = x)
noncomputable def _root_.Go.Proofs.YtfkgmidgdpfnkaaGreat.V.lenM (n:Nat):Bool := hidR (decide (n < 9223372036854775808))
theorem lenM_lt {n:Nat} (h:V.lenM n = true):n < 9223372036854775808 := by unfold V.lenM at h; rw [hidR_eq] at h; simpa using h
theorem lenM_of {n:Nat} (h:n < 9223372036854775808):V.lenM n = true := by unfold V.lenM; rw [hidR_eq]; simpa using h
theorem w_nextR {i:Nat} (h:i < 9223372036854775807):IntKind.wrap .i64 ((i:Int) + 1) = ((i + 1:Nat):Int) := by
 rw [IntWalk.i64_in _ (by omega)]; rfl
theorem cLt_natR (i n:Nat):cLt (i:Int) (n:Int) = decide (i < n) := by
 rw [cLt_eq]; congr 1; exact propext (by omega)
theorem cEq_natR (i n:Nat):cEq (i:Int) (n:Int) = decide (i = n) := by
 rw [cEq_eq,Bool.eq_iff_iff]; simp [Int.natCast_inj]
theorem inBR {i n:Nat} (h:i < n):((0:Int) ≤ (i:Int) ∧ (i:Int) < (n:Int)) = True := eq_true (by omega)
theorem dropR {τ:Type} (l:List τ) (d:τ) (i:Nat) (h:i < l.length):l.drop i = l.getD i d :: l.drop (i + 1) := by
 rw [List.drop_eq_getElem_cons h]; simp [List.getD_eq_getElem?_getD,h]
theorem eq3R (x y z:Int) (q:Int × Int × Int):(cEq x q.1 && (cEq y q.2.1 && (cEq z q.2.2 && true))) = decide ((x,y,z) = q) := by
 obtain ⟨a,b,c⟩ := q
 rw [Bool.eq_iff_iff]
 simp [cEq_eq]
noncomputable abbrev rpoints_S1 (y1:Value) (y2:L3) (y3:Value) (y4:L3) (y5:Int):St := St.mk (some (SV.ros y1 kP y2) :: some (SV.ros y3 kP y4) :: nn 3 (some (SV.int .i64 y5) :: nn 20 ([]))) []
noncomputable def M.rpoints_l0_step {α:Type} (x8 x10:L3) (kn:Int → Option α) (k0:Option α) (k2:Option α) (x11:Int):Option α := if cLt x11 (↑(List.length x8):Int) = true then if (0:Int) ≤ x11 ∧ x11 < (↑(List.length x8):Int) then if (0:Int) ≤ x11 ∧ x11 < (↑(List.length x10):Int) then if (!(cEq (Prod.fst (List.getD x8 (Int.toNat x11) ((0:Int),(0:Int),(0:Int)))) (Prod.fst (List.getD x10 (Int.toNat x11) ((0:Int),(0:Int),(0:Int)))) && (cEq (Prod.fst (Prod.snd (List.getD x8 (Int.toNat x11) ((0:Int),(0:Int),(0:Int))))) (Prod.fst (Prod.snd (List.getD x10 (Int.toNat x11) ((0:Int),(0:Int),(0:Int))))) && (cEq (Prod.snd (Prod.snd (List.getD x8 (Int.toNat x11) ((0:Int),(0:Int),(0:Int))))) (Prod.snd (Prod.snd (List.getD x10 (Int.toNat x11) ((0:Int),(0:Int),(0:Int))))) && true)))) = true then k0 else kn (IntKind.wrap .i64 (x11 + (1:Int))) else none else none else k2
noncomputable def M.rpoints_l0 {α:Type} (x8 x10:L3) (k0:Option α) (k2:Option α):Nat → Int → Option α
 | 0,_ => none
 | n + 1,x11 => M.rpoints_l0_step x8 x10 (M.rpoints_l0 x8 x10 k0 k2 n) k0 k2 x11
theorem rpoints_l0_step_eq {α:Type} (x7:Value) (x8:L3) (x9:Value) (x10:L3) (x11:Int) (Q:Ex → St → Option α):(loopStep E (exec E noFns noLps 400) 53 [false,true,false,true,true] 0 (codeAt E.P 53 [false,true,false,true,true])) (rpoints_S1 x7 x8 x9 x10 x11) Q = M.rpoints_l0_step x8 x10 (fun (x12:Int) => Q .normal (rpoints_S1 x7 x8 x9 x10 x12)) (Q .ret (St.mk (nn 4 (some (SV.bool false) :: nn 21 ([]))) [])) (Q (.exit 0) (St.mk (nn 26 ([])) [])) x11 := by kernel_rfl
theorem rpoints_l0_iter {α:Type} (x7:Value) (x8:L3) (x9:Value) (x10:L3) (Q:Ex → St → Option α):∀ (n:Nat) (x11:Int),iter (loopStep E (exec E noFns noLps 400) 53 [false,true,false,true,true] 0 (codeAt E.P 53 [false,true,false,true,true])) n (rpoints_S1 x7 x8 x9 x10 x11) Q = M.rpoints_l0 x8 x10 (Q .ret (St.mk (nn 4 (some (SV.bool false) :: nn 21 ([]))) [])) (Q (.exit 0) (St.mk (nn 26 ([])) [])) n x11
 | 0,_ => rfl
 | n + 1,x11 => (rpoints_l0_step_eq x7 x8 x9 x10 x11 (iterK (loopStep E (exec E noFns noLps 400) 53 [false,true,false,true,true] 0 (codeAt E.P 53 [false,true,false,true,true])) n Q)).trans (congrArg (fun kn => M.rpoints_l0_step x8 x10 kn (Q .ret (St.mk (nn 4 (some (SV.bool false) :: nn 21 ([]))) [])) (Q (.exit 0) (St.mk (nn 26 ([])) [])) x11) (funext fun x11 => rpoints_l0_iter x7 x8 x9 x10 Q n x11))
noncomputable def rpoints_l0_go {α:Type} (ds:List D) (Q:Ex → St → Option α):Option α :=
 dV ds fun x7 ds => dL kP ds fun x8 ds => dV ds fun x9 ds => dL kP ds fun x10 ds => dI ds fun x11 ds => dE ds (M.rpoints_l0 x8 x10 (Q .ret (St.mk (nn 4 (some (SV.bool false) :: nn 21 ([]))) [])) (Q (.exit 0) (St.mk (nn 26 ([])) [])) (100 + x8.length + x10.length) x11)
theorem rpoints_l0_ok {α:Type}:LoopOk E.P 53 [false,true,false,true,true] 0 (lEnt (α := α) (St.mk (some (SV.ros undef kP []) :: some (SV.ros undef kP []) :: nn 3 (some (SV.int .i64 (0:Int)) :: nn 20 ([]))) []) rpoints_l0_go) :=
 lEnt_ok E (exec_sound E E_ok (noFns_ok _) (noLps_ok _) 400) fun ds Q r h S hS => by
   unfold rpoints_l0_go at h
   obtain ⟨x7,ds,rfl,h1⟩ := dV_inv h
   obtain ⟨x8,ds,rfl,h2⟩ := dL_inv h1
   obtain ⟨x9,ds,rfl,h3⟩ := dV_inv h2
   obtain ⟨x10,ds,rfl,h4⟩ := dL_inv h3
   obtain ⟨x11,ds,rfl,h5⟩ := dI_inv h4
   obtain ⟨rfl,hE⟩ := dE_inv h5
   have e:fillS (St.mk (some (SV.ros undef kP []) :: some (SV.ros undef kP []) :: nn 3 (some (SV.int .i64 (0:Int)) :: nn 20 ([]))) []) [.v x7,.l kP x8,.v x9,.l kP x10,.i x11] = some (rpoints_S1 x7 x8 x9 x10 x11) := by kernel_rfl
   rw [e] at hS
   cases hS
   exact ⟨_,(rpoints_l0_iter x7 x8 x9 x10 Q _ x11).trans hE⟩
noncomputable def rpoints_l0_lps {α:Type}:LookL α := addLp 53 [false,true,false,true,true] 0 (lEnt (St.mk (some (SV.ros undef kP []) :: some (SV.ros undef kP []) :: nn 3 (some (SV.int .i64 (0:Int)) :: nn 20 ([]))) []) rpoints_l0_go) noLps
theorem rpoints_l0_lps_ok {α:Type}:LoopsOk E.P (rpoints_l0_lps (α := α)) := addLp_ok rpoints_l0_ok (noLps_ok _)
noncomputable def M.rpoints {α:Type} (a:L3) (b:L3) (k0:Bool → Option α):Option α := if (!cEq (↑(List.length a):Int) (↑(List.length b):Int)) = true then k0 false else M.rpoints_l0 a b (k0 false) (k0 true) ((100:Nat) + List.length a + List.length b) (0:Int)
theorem rpoints_eq {α:Type} (a:L3) (b:L3) (v13:Value) (v14:Value) (Q:SV → Hp → Option α):callI E noFns (exec E noFns rpoints_l0_lps 400) 53 ([SV.ros v13 kP a,SV.ros v14 kP b]) ([]) Q = M.rpoints a b (fun (x15:Bool) => Q (SV.bool x15) ([])) := by kernel_rfl
def rpoints_sp:List AS := [.ro (.st (.i .i64) [.i .i64,.i .i64]),.ro (.st (.i .i64) [.i .i64,.i .i64])]
noncomputable def _root_.Go.Proofs.YtfkgmidgdpfnkaaGreat.V.ptsE (a b:List (Int × Int × Int)):Bool := decide (a = b)
theorem rpoints_l0_val {α:Type} (a b:List (Int × Int × Int)) (hl:a.length < 9223372036854775808) (he:a.length = b.length) (k0 k2:Option α):∀ (fuel i:Nat),i ≤ a.length → a.length - i < fuel →
   M.rpoints_l0 a b k0 k2 fuel (i:Int) = if a.drop i = b.drop i then k2 else k0
 | 0,i,h1,h2 => by omega
 | f + 1,i,h1,h2 => by
   unfold M.rpoints_l0 M.rpoints_l0_step
   rw [cLt_natR]
   by_cases hx:i < a.length
   · rw [w_nextR (by omega), rpoints_l0_val a b hl he k0 k2 f (i + 1) (by omega) (by omega)]
     have hb:((0:Int) ≤ (i:Int) ∧ (i:Int) < (b.length:Int)) = True := eq_true (by omega)
     simp only [hx,decide_true,if_true,inBR hx,hb,Int.toNat_natCast,eq3R]
     rw [dropR a (0,0,0) i hx,dropR b (0,0,0) i (by omega)]
     show (if (!decide (a.getD i (0,0,0) = b.getD i (0,0,0))) = true then _ else _) = _
     generalize a.getD i (0,0,0) = p
     generalize b.getD i (0,0,0) = q
     by_cases hp:p = q
     · subst hp; simp
     · simp [hp]
   · have : i = a.length := by omega
     subst this
     rw [if_neg (by simp),List.drop_eq_nil_of_le (Nat.le_refl _),List.drop_eq_nil_of_le (by omega),if_pos rfl]
theorem rpoints_v {α:Type} (a b:List (Int × Int × Int)) (hg:V.lenM a.length = true) (k0:Bool → Option α):M.rpoints a b k0 = k0 (V.ptsE a b) := by
 unfold M.rpoints V.ptsE
 rw [cEq_natR]
 by_cases h:a.length = b.length
 · simp only [h, decide_true, Bool.not_true, Bool.false_eq_true, if_false]
   refine (rpoints_l0_val a b (lenM_lt hg) h (k0 false) (k0 true) _ 0 (by omega) (by omega)).trans ?_
   rw [List.drop_zero,List.drop_zero]
   by_cases e:a = b <;> simp [e]
 · have : a ≠ b := fun e => h (by rw [e])
   simp [h,this]
noncomputable def rpoints_h {α:Type} (ds:List D) (Q:SV → Hp → Option α):Option α :=
 dL kP ds fun a ds => dL kP ds fun b ds => dE ds (if V.lenM a.length = true then Q (.bool (V.ptsE a b)) ([]) else none)
theorem rpoints_h_ok {α:Type}:FnOk E.P 53 (fEnt (α := α) rpoints_sp rpoints_h) :=
 fEntR_ok E (noFns_ok _) (exec_sound E E_ok (noFns_ok _) (rpoints_l0_lps_ok) 400) fun ds Q r h => by
   unfold rpoints_h at h
   obtain ⟨a,ds,rfl,h1⟩ := dL_inv h
   obtain ⟨b,ds,rfl,h2⟩ := dL_inv h1
   obtain ⟨rfl,hE⟩ := dE_inv h2
   split at hE
   · rename_i hg
     exact ⟨_,_,hE,fun vs => ⟨_,_,by kernel_rfl,(rpoints_eq a b (vs.headD undef) (vs.tail.headD undef) _).trans (rpoints_v a b hg _)⟩⟩
   · cases hE
noncomputable def look_rpoints {α:Type}:LookF α := addFn 53 (fEnt rpoints_sp rpoints_h) noFns
theorem look_rpoints_ok {α:Type}:LookOk E.P (look_rpoints (α := α)) := addFn_ok rpoints_h_ok (noFns_ok _)
noncomputable def _root_.Go.Proofs.YtfkgmidgdpfnkaaGreat.V.bSame (x y:L31):Bool := ((cEq x.1 y.1) && (((cEq x.2.1 y.2.1 && (cEq x.2.2.1 y.2.2.1 && (cEq x.2.2.2.1 y.2.2.2.1 && true))) && ((cEq x.2.2.2.2.1 y.2.2.2.2.1 && (cEq x.2.2.2.2.2.1 y.2.2.2.2.2.1 && (cEq x.2.2.2.2.2.2.1 y.2.2.2.2.2.2.1 && (cEq x.2.2.2.2.2.2.2.1 y.2.2.2.2.2.2.2.1 && true)))) && true)) && ((cEq x.2.2.2.2.2.2.2.2.1 y.2.2.2.2.2.2.2.2.1 && (cEq x.2.2.2.2.2.2.2.2.2.1 y.2.2.2.2.2.2.2.2.2.1 && (cEq x.2.2.2.2.2.2.2.2.2.2.1 y.2.2.2.2.2.2.2.2.2.2.1 && true))) && ((cEq x.2.2.2.2.2.2.2.2.2.2.2.1 y.2.2.2.2.2.2.2.2.2.2.2.1 && (cEq x.2.2.2.2.2.2.2.2.2.2.2.2.1 y.2.2.2.2.2.2.2.2.2.2.2.2.1 && (cEq x.2.2.2.2.2.2.2.2.2.2.2.2.2.1 y.2.2.2.2.2.2.2.2.2.2.2.2.2.1 && true))) && ((cEq x.2.2.2.2.2.2.2.2.2.2.2.2.2.2.1 y.2.2.2.2.2.2.2.2.2.2.2.2.2.2.1 && ((cEq x.2.2.2.2.2.2.2.2.2.2.2.2.2.2.2.1 y.2.2.2.2.2.2.2.2.2.2.2.2.2.2.2.1 && (cEq x.2.2.2.2.2.2.2.2.2.2.2.2.2.2.2.2.1 y.2.2.2.2.2.2.2.2.2.2.2.2.2.2.2.2.1 && (cEq x.2.2.2.2.2.2.2.2.2.2.2.2.2.2.2.2.2.1 y.2.2.2.2.2.2.2.2.2.2.2.2.2.2.2.2.2.1 && true))) && true)) && ((cEq x.2.2.2.2.2.2.2.2.2.2.2.2.2.2.2.2.2.2.2.2.2.2.2.2.1 y.2.2.2.2.2.2.2.2.2.2.2.2.2.2.2.2.2.2.2.2.2.2.2.2.1) && ((cEq x.2.2.2.2.2.2.2.2.2.2.2.2.2.2.2.2.2.2.2.2.2.2.2.2.2.1 y.2.2.2.2.2.2.2.2.2.2.2.2.2.2.2.2.2.2.2.2.2.2.2.2.2.1) && ((cEq x.2.2.2.2.2.2.2.2.2.2.2.2.2.2.2.2.2.2.2.2.2.2.2.2.2.2.1 y.2.2.2.2.2.2.2.2.2.2.2.2.2.2.2.2.2.2.2.2.2.2.2.2.2.2.1) && ((x.2.2.2.2.2.2.2.2.2.2.2.2.2.2.2.2.2.2.2.2.2.2.2.2.2.2.2.1 == y.2.2.2.2.2.2.2.2.2.2.2.2.2.2.2.2.2.2.2.2.2.2.2.2.2.2.2.1) && ((cEq x.2.2.2.2.2.2.2.2.2.2.2.2.2.2.2.2.2.2.2.2.2.2.2.2.2.2.2.2.1 y.2.2.2.2.2.2.2.2.2.2.2.2.2.2.2.2.2.2.2.2.2.2.2.2.2.2.2.2.1) && ((x.2.2.2.2.2.2.2.2.2.2.2.2.2.2.2.2.2.2.2.2.2.2.2.2.2.2.2.2.2.1 == y.2.2.2.2.2.2.2.2.2.2.2.2.2.2.2.2.2.2.2.2.2.2.2.2.2.2.2.2.2.1) && ((x.2.2.2.2.2.2.2.2.2.2.2.2.2.2.2.2.2.2.2.2.2.2.2.2.2.2.2.2.2.2 == y.2.2.2.2.2.2.2.2.2.2.2.2.2.2.2.2.2.2.2.2.2.2.2.2.2.2.2.2.2.2) && ((cEq x.2.2.2.2.2.2.2.2.2.2.2.2.2.2.2.2.2.2.1 y.2.2.2.2.2.2.2.2.2.2.2.2.2.2.2.2.2.2.1) && ((cEq x.2.2.2.2.2.2.2.2.2.2.2.2.2.2.2.2.2.2.2.1 y.2.2.2.2.2.2.2.2.2.2.2.2.2.2.2.2.2.2.2.1) && ((cEq x.2.2.2.2.2.2.2.2.2.2.2.2.2.2.2.2.2.2.2.2.1 y.2.2.2.2.2.2.2.2.2.2.2.2.2.2.2.2.2.2.2.2.1 && (cEq x.2.2.2.2.2.2.2.2.2.2.2.2.2.2.2.2.2.2.2.2.2.1 y.2.2.2.2.2.2.2.2.2.2.2.2.2.2.2.2.2.2.2.2.2.1 && (cEq x.2.2.2.2.2.2.2.2.2.2.2.2.2.2.2.2.2.2.2.2.2.2.1 y.2.2.2.2.2.2.2.2.2.2.2.2.2.2.2.2.2.2.2.2.2.2.1 && true))) && (V.ptsE x.2.2.2.2.2.2.2.2.2.2.2.2.2.2.2.2.2.2.2.2.2.2.2.1.2 y.2.2.2.2.2.2.2.2.2.2.2.2.2.2.2.2.2.2.2.2.2.2.2.1.2))))))))))))))))
def bfl (x:L31):Int × Int × Int × Int × Int × Int × Int × Int × Int × Int × Int × Int × Int × Int × Int × Int × Int × Int × Int × Int × Int × Int × Int × List (Int × Int × Int) × Int × Int × Int × Bool × Int × Bool × Bool := (x.1,x.2.1,x.2.2.1,x.2.2.2.1,x.2.2.2.2.1,x.2.2.2.2.2.1,x.2.2.2.2.2.2.1,x.2.2.2.2.2.2.2.1,x.2.2.2.2.2.2.2.2.1,x.2.2.2.2.2.2.2.2.2.1,x.2.2.2.2.2.2.2.2.2.2.1,x.2.2.2.2.2.2.2.2.2.2.2.1,x.2.2.2.2.2.2.2.2.2.2.2.2.1,x.2.2.2.2.2.2.2.2.2.2.2.2.2.1,x.2.2.2.2.2.2.2.2.2.2.2.2.2.2.1,x.2.2.2.2.2.2.2.2.2.2.2.2.2.2.2.1,x.2.2.2.2.2.2.2.2.2.2.2.2.2.2.2.2.1,x.2.2.2.2.2.2.2.2.2.2.2.2.2.2.2.2.2.1,x.2.2.2.2.2.2.2.2.2.2.2.2.2.2.2.2.2.2.1,x.2.2.2.2.2.2.2.2.2.2.2.2.2.2.2.2.2.2.2.1,x.2.2.2.2.2.2.2.2.2.2.2.2.2.2.2.2.2.2.2.2.1,x.2.2.2.2.2.2.2.2.2.2.2.2.2.2.2.2.2.2.2.2.2.1,x.2.2.2.2.2.2.2.2.2.2.2.2.2.2.2.2.2.2.2.2.2.2.1,x.2.2.2.2.2.2.2.2.2.2.2.2.2.2.2.2.2.2.2.2.2.2.2.1.2,x.2.2.2.2.2.2.2.2.2.2.2.2.2.2.2.2.2.2.2.2.2.2.2.2.1,x.2.2.2.2.2.2.2.2.2.2.2.2.2.2.2.2.2.2.2.2.2.2.2.2.2.1,x.2.2.2.2.2.2.2.2.2.2.2.2.2.2.2.2.2.2.2.2.2.2.2.2.2.2.1,x.2.2.2.2.2.2.2.2.2.2.2.2.2.2.2.2.2.2.2.2.2.2.2.2.2.2.2.1,x.2.2.2.2.2.2.2.2.2.2.2.2.2.2.2.2.2.2.2.2.2.2.2.2.2.2.2.2.1,x.2.2.2.2.2.2.2.2.2.2.2.2.2.2.2.2.2.2.2.2.2.2.2.2.2.2.2.2.2.1,x.2.2.2.2.2.2.2.2.2.2.2.2.2.2.2.2.2.2.2.2.2.2.2.2.2.2.2.2.2.2)
theorem bSame_iff (x y:L31):V.bSame x y = true ↔ bfl x = bfl y := by
 unfold V.bSame bfl V.ptsE
 simp only [cEq_eq,Bool.and_eq_true,beq_iff_eq,decide_eq_true_eq,Prod.mk.injEq,and_true,and_assoc]
 constructor
 · intro h; grind
 · intro h; grind
theorem andI {α:Type} (k0:Bool → Option α) (c d:Bool):(if c = true then k0 d else k0 false) = k0 (c && d) := by cases c <;> rfl
noncomputable def M.rsame {α:Type} (bk1:Int) (ax1:Int) (ay1:Int) (az1:Int) (tw1:Int) (tx1:Int) (ty1:Int) (tz1:Int) (px1:Int) (p_y1:Int) (pz1:Int) (lx1:Int) (ly1:Int) (lz1:Int) (bm1:Int) (ix1:Int) (iy1:Int) (iz1:Int) (sk1:Int) (sr1:Int) (hx1:Int) (hy1:Int) (hz1:Int) (pts1:L3) (bg1:Int) (mk1:Int) (fr1:Int) (fast1:Bool) (qt1:Int) (asl1:Bool) (bout1:Bool) (bk2:Int) (ax2:Int) (ay2:Int) (az2:Int) (tw2:Int) (tx2:Int) (ty2:Int) (tz2:Int) (px2:Int) (p_y2:Int) (pz2:Int) (lx2:Int) (ly2:Int) (lz2:Int) (bm2:Int) (ix2:Int) (iy2:Int) (iz2:Int) (sk2:Int) (sr2:Int) (hx2:Int) (hy2:Int) (hz2:Int) (pts2:L3) (bg2:Int) (mk2:Int) (fr2:Int) (fast2:Bool) (qt2:Int) (asl2:Bool) (bout2:Bool) (k0:Bool → Option α):Option α := if cEq bk1 bk2 = true then if (cEq ax1 ax2 && (cEq ay1 ay2 && (cEq az1 az2 && true)) && (cEq tw1 tw2 && (cEq tx1 tx2 && (cEq ty1 ty2 && (cEq tz1 tz2 && true))) && true)) = true then if (cEq px1 px2 && (cEq p_y1 p_y2 && (cEq pz1 pz2 && true))) = true then if (cEq lx1 lx2 && (cEq ly1 ly2 && (cEq lz1 lz2 && true))) = true then if (cEq bm1 bm2 && (cEq ix1 ix2 && (cEq iy1 iy2 && (cEq iz1 iz2 && true)) && true)) = true then if cEq bg1 bg2 = true then if cEq mk1 mk2 = true then if cEq fr1 fr2 = true then if (fast1 == fast2) = true then if cEq qt1 qt2 = true then if (asl1 == asl2) = true then if (bout1 == bout2) = true then if cEq sk1 sk2 = true then if cEq sr1 sr2 = true then if (cEq hx1 hx2 && (cEq hy1 hy2 && (cEq hz1 hz2 && true))) = true then if V.lenM (List.length pts1) = true then k0 (V.ptsE pts1 pts2) else none else k0 false else k0 false else k0 false else k0 false else k0 false else k0 false else k0 false else k0 false else k0 false else k0 false else k0 false else k0 false else k0 false else k0 false else k0 false
theorem rsame_eq {α:Type} (bk1:Int) (ax1:Int) (ay1:Int) (az1:Int) (tw1:Int) (tx1:Int) (ty1:Int) (tz1:Int) (px1:Int) (p_y1:Int) (pz1:Int) (lx1:Int) (ly1:Int) (lz1:Int) (bm1:Int) (ix1:Int) (iy1:Int) (iz1:Int) (sk1:Int) (sr1:Int) (hx1:Int) (hy1:Int) (hz1:Int) (pts1:L3) (bg1:Int) (mk1:Int) (fr1:Int) (fast1:Bool) (qt1:Int) (asl1:Bool) (bout1:Bool) (bk2:Int) (ax2:Int) (ay2:Int) (az2:Int) (tw2:Int) (tx2:Int) (ty2:Int) (tz2:Int) (px2:Int) (p_y2:Int) (pz2:Int) (lx2:Int) (ly2:Int) (lz2:Int) (bm2:Int) (ix2:Int) (iy2:Int) (iz2:Int) (sk2:Int) (sr2:Int) (hx2:Int) (hy2:Int) (hz2:Int) (pts2:L3) (bg2:Int) (mk2:Int) (fr2:Int) (fast2:Bool) (qt2:Int) (asl2:Bool) (bout2:Bool) (v16:Value) (v17:Value) (Q:SV → Hp → Option α):callI E look_rpoints (exec E look_rpoints noLps 400) 24 ([SV.agg
   [SV.int .i64 bk1,SV.int .i64 ax1,SV.int .i64 ay1,SV.int .i64 az1,SV.int .i64 tw1,SV.int .i64 tx1,SV.int .i64 ty1,SV.int .i64 tz1,SV.int .i64 px1,SV.int .i64 p_y1,SV.int .i64 pz1,SV.int .i64 lx1,SV.int .i64 ly1,SV.int .i64 lz1,SV.int .i64 bm1,SV.int .i64 ix1,SV.int .i64 iy1,SV.int .i64 iz1,SV.int .i64 sk1,SV.int .i64 sr1,
     SV.int .i64 hx1,SV.int .i64 hy1,SV.int .i64 hz1,SV.ros v16 kP pts1,SV.int .i64 bg1,SV.int .i64 mk1,SV.int .i64 fr1,SV.bool fast1,SV.int .i64 qt1,SV.bool asl1,SV.bool bout1],
 SV.agg
   [SV.int .i64 bk2,SV.int .i64 ax2,SV.int .i64 ay2,SV.int .i64 az2,SV.int .i64 tw2,SV.int .i64 tx2,SV.int .i64 ty2,SV.int .i64 tz2,SV.int .i64 px2,SV.int .i64 p_y2,SV.int .i64 pz2,SV.int .i64 lx2,SV.int .i64 ly2,SV.int .i64 lz2,SV.int .i64 bm2,SV.int .i64 ix2,SV.int .i64 iy2,SV.int .i64 iz2,SV.int .i64 sk2,SV.int .i64 sr2,
     SV.int .i64 hx2,SV.int .i64 hy2,SV.int .i64 hz2,SV.ros v17 kP pts2,SV.int .i64 bg2,SV.int .i64 mk2,SV.int .i64 fr2,SV.bool fast2,SV.int .i64 qt2,SV.bool asl2,SV.bool bout2]]) ([]) Q = M.rsame bk1 ax1 ay1 az1 tw1 tx1 ty1 tz1 px1 p_y1 pz1 lx1 ly1 lz1 bm1 ix1 iy1 iz1 sk1 sr1 hx1 hy1 hz1 pts1 bg1 mk1 fr1 fast1 qt1 asl1 bout1 bk2 ax2 ay2 az2 tw2 tx2 ty2 tz2 px2 p_y2 pz2 lx2 ly2 lz2 bm2 ix2 iy2 iz2 sk2 sr2 hx2 hy2 hz2 pts2 bg2 mk2 fr2 fast2 qt2 asl2 bout2 (fun (x18:Bool) => Q (SV.bool x18) ([])) := by kernel_rfl
def rsame_sp:List AS := [.st [.leaf (.int .i64 0),.leaf (.int .i64 0),.leaf (.int .i64 0),.leaf (.int .i64 0),.leaf (.int .i64 0),.leaf (.int .i64 0),.leaf (.int .i64 0),.leaf (.int .i64 0),.leaf (.int .i64 0),.leaf (.int .i64 0),.leaf (.int .i64 0),.leaf (.int .i64 0),.leaf (.int .i64 0),.leaf (.int .i64 0),.leaf (.int .i64 0),.leaf (.int .i64 0),.leaf (.int .i64 0),.leaf (.int .i64 0),.leaf (.int .i64 0),.leaf (.int .i64 0),.leaf (.int .i64 0),.leaf (.int .i64 0),.leaf (.int .i64 0),.ro kP,.leaf (.int .i64 0),.leaf (.int .i64 0),.leaf (.int .i64 0),.leaf (.bool false),.leaf (.int .i64 0),.leaf (.bool false),.leaf (.bool false)],.st [.leaf (.int .i64 0),.leaf (.int .i64 0),.leaf (.int .i64 0),.leaf (.int .i64 0),.leaf (.int .i64 0),.leaf (.int .i64 0),.leaf (.int .i64 0),.leaf (.int .i64 0),.leaf (.int .i64 0),.leaf (.int .i64 0),.leaf (.int .i64 0),.leaf (.int .i64 0),.leaf (.int .i64 0),.leaf (.int .i64 0),.leaf (.int .i64 0),.leaf (.int .i64 0),.leaf (.int .i64 0),.leaf (.int .i64 0),.leaf (.int .i64 0),.leaf (.int .i64 0),.leaf (.int .i64 0),.leaf (.int .i64 0),.leaf (.int .i64 0),.ro kP,.leaf (.int .i64 0),.leaf (.int .i64 0),.leaf (.int .i64 0),.leaf (.bool false),.leaf (.int .i64 0),.leaf (.bool false),.leaf (.bool false)]]
theorem rsame_v {α:Type} (bk1:Int) (ax1:Int) (ay1:Int) (az1:Int) (tw1:Int) (tx1:Int) (ty1:Int) (tz1:Int) (px1:Int) (p_y1:Int) (pz1:Int) (lx1:Int) (ly1:Int) (lz1:Int) (bm1:Int) (ix1:Int) (iy1:Int) (iz1:Int) (sk1:Int) (sr1:Int) (hx1:Int) (hy1:Int) (hz1:Int) (pts1:List (Int × Int × Int)) (bg1:Int) (mk1:Int) (fr1:Int) (fast1:Bool) (qt1:Int) (asl1:Bool) (bout1:Bool) (bk2:Int) (ax2:Int) (ay2:Int) (az2:Int) (tw2:Int) (tx2:Int) (ty2:Int) (tz2:Int) (px2:Int) (p_y2:Int) (pz2:Int) (lx2:Int) (ly2:Int) (lz2:Int) (bm2:Int) (ix2:Int) (iy2:Int) (iz2:Int) (sk2:Int) (sr2:Int) (hx2:Int) (hy2:Int) (hz2:Int) (pts2:List (Int × Int × Int)) (bg2:Int) (mk2:Int) (fr2:Int) (fast2:Bool) (qt2:Int) (asl2:Bool) (bout2:Bool) (hg:V.lenM pts1.length = true) (k0:Bool → Option α):M.rsame bk1 ax1 ay1 az1 tw1 tx1 ty1 tz1 px1 p_y1 pz1 lx1 ly1 lz1 bm1 ix1 iy1 iz1 sk1 sr1 hx1 hy1 hz1 pts1 bg1 mk1 fr1 fast1 qt1 asl1 bout1 bk2 ax2 ay2 az2 tw2 tx2 ty2 tz2 px2 p_y2 pz2 lx2 ly2 lz2 bm2 ix2 iy2 iz2 sk2 sr2 hx2 hy2 hz2 pts2 bg2 mk2 fr2 fast2 qt2 asl2 bout2 k0 = k0 (V.bSame (bk1,ax1,ay1,az1,tw1,tx1,ty1,tz1,px1,p_y1,pz1,lx1,ly1,lz1,bm1,ix1,iy1,iz1,sk1,sr1,hx1,hy1,hz1,(.slice none 0 0,pts1),bg1,mk1,fr1,fast1,qt1,asl1,bout1) (bk2,ax2,ay2,az2,tw2,tx2,ty2,tz2,px2,p_y2,pz2,lx2,ly2,lz2,bm2,ix2,iy2,iz2,sk2,sr2,hx2,hy2,hz2,(.slice none 0 0,pts2),bg2,mk2,fr2,fast2,qt2,asl2,bout2)) := by
 unfold M.rsame V.bSame
 simp only [if_pos hg,andI k0]
noncomputable def rsame_h {α:Type} (ds:List D) (Q:SV → Hp → Option α):Option α :=
 dI ds fun bk1 ds => dI ds fun ax1 ds => dI ds fun ay1 ds => dI ds fun az1 ds => dI ds fun tw1 ds => dI ds fun tx1 ds => dI ds fun ty1 ds => dI ds fun tz1 ds => dI ds fun px1 ds => dI ds fun p_y1 ds => dI ds fun pz1 ds => dI ds fun lx1 ds => dI ds fun ly1 ds => dI ds fun lz1 ds => dI ds fun bm1 ds => dI ds fun ix1 ds => dI ds fun iy1 ds => dI ds fun iz1 ds => dI ds fun sk1 ds => dI ds fun sr1 ds => dI ds fun hx1 ds => dI ds fun hy1 ds => dI ds fun hz1 ds => dL kP ds fun pts1 ds => dI ds fun bg1 ds => dI ds fun mk1 ds => dI ds fun fr1 ds => dB ds fun fast1 ds => dI ds fun qt1 ds => dB ds fun asl1 ds => dB ds fun bout1 ds => dI ds fun bk2 ds => dI ds fun ax2 ds => dI ds fun ay2 ds => dI ds fun az2 ds => dI ds fun tw2 ds => dI ds fun tx2 ds => dI ds fun ty2 ds => dI ds fun tz2 ds => dI ds fun px2 ds => dI ds fun p_y2 ds => dI ds fun pz2 ds => dI ds fun lx2 ds => dI ds fun ly2 ds => dI ds fun lz2 ds => dI ds fun bm2 ds => dI ds fun ix2 ds => dI ds fun iy2 ds => dI ds fun iz2 ds => dI ds fun sk2 ds => dI ds fun sr2 ds => dI ds fun hx2 ds => dI ds fun hy2 ds => dI ds fun hz2 ds => dL kP ds fun pts2 ds => dI ds fun bg2 ds => dI ds fun mk2 ds => dI ds fun fr2 ds => dB ds fun fast2 ds => dI ds fun qt2 ds => dB ds fun asl2 ds => dB ds fun bout2 ds => dE ds (if V.lenM pts1.length = true then Q (.bool (V.bSame (bk1,ax1,ay1,az1,tw1,tx1,ty1,tz1,px1,p_y1,pz1,lx1,ly1,lz1,bm1,ix1,iy1,iz1,sk1,sr1,hx1,hy1,hz1,(.slice none 0 0,pts1),bg1,mk1,fr1,fast1,qt1,asl1,bout1) (bk2,ax2,ay2,az2,tw2,tx2,ty2,tz2,px2,p_y2,pz2,lx2,ly2,lz2,bm2,ix2,iy2,iz2,sk2,sr2,hx2,hy2,hz2,(.slice none 0 0,pts2),bg2,mk2,fr2,fast2,qt2,asl2,bout2))) ([]) else none)
theorem rsame_h_ok {α:Type}:FnOk E.P 24 (fEnt (α := α) rsame_sp rsame_h) :=
 fEntR_ok E (look_rpoints_ok) (exec_sound E E_ok (look_rpoints_ok) (noLps_ok _) 400) fun ds Q r h => by
   unfold rsame_h at h
   obtain ⟨bk1,ds,rfl,h1⟩ := dI_inv h
   obtain ⟨ax1,ds,rfl,h2⟩ := dI_inv h1
   obtain ⟨ay1,ds,rfl,h3⟩ := dI_inv h2
   obtain ⟨az1,ds,rfl,h4⟩ := dI_inv h3
   obtain ⟨tw1,ds,rfl,h5⟩ := dI_inv h4
   obtain ⟨tx1,ds,rfl,h6⟩ := dI_inv h5
   obtain ⟨ty1,ds,rfl,h7⟩ := dI_inv h6
   obtain ⟨tz1,ds,rfl,h8⟩ := dI_inv h7
   obtain ⟨px1,ds,rfl,h9⟩ := dI_inv h8
   obtain ⟨p_y1,ds,rfl,h10⟩ := dI_inv h9
   obtain ⟨pz1,ds,rfl,h11⟩ := dI_inv h10
   obtain ⟨lx1,ds,rfl,h12⟩ := dI_inv h11
   obtain ⟨ly1,ds,rfl,h13⟩ := dI_inv h12
   obtain ⟨lz1,ds,rfl,h14⟩ := dI_inv h13
   obtain ⟨bm1,ds,rfl,h15⟩ := dI_inv h14
   obtain ⟨ix1,ds,rfl,h16⟩ := dI_inv h15
   obtain ⟨iy1,ds,rfl,h17⟩ := dI_inv h16
   obtain ⟨iz1,ds,rfl,h18⟩ := dI_inv h17
   obtain ⟨sk1,ds,rfl,h19⟩ := dI_inv h18
   obtain ⟨sr1,ds,rfl,h20⟩ := dI_inv h19
   obtain ⟨hx1,ds,rfl,h21⟩ := dI_inv h20
   obtain ⟨hy1,ds,rfl,h22⟩ := dI_inv h21
   obtain ⟨hz1,ds,rfl,h23⟩ := dI_inv h22
   obtain ⟨pts1,ds,rfl,h24⟩ := dL_inv h23
   obtain ⟨bg1,ds,rfl,h25⟩ := dI_inv h24
   obtain ⟨mk1,ds,rfl,h26⟩ := dI_inv h25
   obtain ⟨fr1,ds,rfl,h27⟩ := dI_inv h26
   obtain ⟨fast1,ds,rfl,h28⟩ := dB_inv h27
   obtain ⟨qt1,ds,rfl,h29⟩ := dI_inv h28
   obtain ⟨asl1,ds,rfl,h30⟩ := dB_inv h29
   obtain ⟨bout1,ds,rfl,h31⟩ := dB_inv h30
   obtain ⟨bk2,ds,rfl,h32⟩ := dI_inv h31
   obtain ⟨ax2,ds,rfl,h33⟩ := dI_inv h32
   obtain ⟨ay2,ds,rfl,h34⟩ := dI_inv h33
   obtain ⟨az2,ds,rfl,h35⟩ := dI_inv h34
   obtain ⟨tw2,ds,rfl,h36⟩ := dI_inv h35
   obtain ⟨tx2,ds,rfl,h37⟩ := dI_inv h36
   obtain ⟨ty2,ds,rfl,h38⟩ := dI_inv h37
   obtain ⟨tz2,ds,rfl,h39⟩ := dI_inv h38
   obtain ⟨px2,ds,rfl,h40⟩ := dI_inv h39
   obtain ⟨p_y2,ds,rfl,h41⟩ := dI_inv h40
   obtain ⟨pz2,ds,rfl,h42⟩ := dI_inv h41
   obtain ⟨lx2,ds,rfl,h43⟩ := dI_inv h42
   obtain ⟨ly2,ds,rfl,h44⟩ := dI_inv h43
   obtain ⟨lz2,ds,rfl,h45⟩ := dI_inv h44
   obtain ⟨bm2,ds,rfl,h46⟩ := dI_inv h45
   obtain ⟨ix2,ds,rfl,h47⟩ := dI_inv h46
   obtain ⟨iy2,ds,rfl,h48⟩ := dI_inv h47
   obtain ⟨iz2,ds,rfl,h49⟩ := dI_inv h48
   obtain ⟨sk2,ds,rfl,h50⟩ := dI_inv h49
   obtain ⟨sr2,ds,rfl,h51⟩ := dI_inv h50
   obtain ⟨hx2,ds,rfl,h52⟩ := dI_inv h51
   obtain ⟨hy2,ds,rfl,h53⟩ := dI_inv h52
   obtain ⟨hz2,ds,rfl,h54⟩ := dI_inv h53
   obtain ⟨pts2,ds,rfl,h55⟩ := dL_inv h54
   obtain ⟨bg2,ds,rfl,h56⟩ := dI_inv h55
   obtain ⟨mk2,ds,rfl,h57⟩ := dI_inv h56
   obtain ⟨fr2,ds,rfl,h58⟩ := dI_inv h57
   obtain ⟨fast2,ds,rfl,h59⟩ := dB_inv h58
   obtain ⟨qt2,ds,rfl,h60⟩ := dI_inv h59
   obtain ⟨asl2,ds,rfl,h61⟩ := dB_inv h60
   obtain ⟨bout2,ds,rfl,h62⟩ := dB_inv h61
   obtain ⟨rfl,hE⟩ := dE_inv h62
   split at hE
   · rename_i hg
     exact ⟨_,_,hE,fun vs => ⟨_,_,by kernel_rfl,(rsame_eq bk1 ax1 ay1 az1 tw1 tx1 ty1 tz1 px1 p_y1 pz1 lx1 ly1 lz1 bm1 ix1 iy1 iz1 sk1 sr1 hx1 hy1 hz1 pts1 bg1 mk1 fr1 fast1 qt1 asl1 bout1 bk2 ax2 ay2 az2 tw2 tx2 ty2 tz2 px2 p_y2 pz2 lx2 ly2 lz2 bm2 ix2 iy2 iz2 sk2 sr2 hx2 hy2 hz2 pts2 bg2 mk2 fr2 fast2 qt2 asl2 bout2 ((cellsV (vs.headD undef)).tail.tail.tail.tail.tail.tail.tail.tail.tail.tail.tail.tail.tail.tail.tail.tail.tail.tail.tail.tail.tail.tail.tail.headD undef) ((cellsV (vs.tail.headD undef)).tail.tail.tail.tail.tail.tail.tail.tail.tail.tail.tail.tail.tail.tail.tail.tail.tail.tail.tail.tail.tail.tail.tail.headD undef) _).trans (rsame_v bk1 ax1 ay1 az1 tw1 tx1 ty1 tz1 px1 p_y1 pz1 lx1 ly1 lz1 bm1 ix1 iy1 iz1 sk1 sr1 hx1 hy1 hz1 pts1 bg1 mk1 fr1 fast1 qt1 asl1 bout1 bk2 ax2 ay2 az2 tw2 tx2 ty2 tz2 px2 p_y2 pz2 lx2 ly2 lz2 bm2 ix2 iy2 iz2 sk2 sr2 hx2 hy2 hz2 pts2 bg2 mk2 fr2 fast2 qt2 asl2 bout2 hg _)⟩⟩
   · cases hE
noncomputable def look_rsame {α:Type}:LookF α := addFn 24 (fEnt rsame_sp rsame_h) look_rpoints
theorem look_rsame_ok {α:Type}:LookOk E.P (look_rsame (α := α)) := addFn_ok rsame_h_ok (look_rpoints_ok)
end
section
open Go
def nB (x:L31):L31 := (x.1,x.2.1,x.2.2.1,x.2.2.2.1,x.2.2.2.2.1,x.2.2.2.2.2.1,x.2.2.2.2.2.2.1,x.2.2.2.2.2.2.2.1,x.2.2.2.2.2.2.2.2.1,x.2.2.2.2.2.2.2.2.2.1,x.2.2.2.2.2.2.2.2.2.2.1,x.2.2.2.2.2.2.2.2.2.2.2.1,x.2.2.2.2.2.2.2.2.2.2.2.2.1,x.2.2.2.2.2.2.2.2.2.2.2.2.2.1,x.2.2.2.2.2.2.2.2.2.2.2.2.2.2.1,x.2.2.2.2.2.2.2.2.2.2.2.2.2.2.2.1,x.2.2.2.2.2.2.2.2.2.2.2.2.2.2.2.2.1,x.2.2.2.2.2.2.2.2.2.2.2.2.2.2.2.2.2.1,x.2.2.2.2.2.2.2.2.2.2.2.2.2.2.2.2.2.2.1,x.2.2.2.2.2.2.2.2.2.2.2.2.2.2.2.2.2.2.2.1,x.2.2.2.2.2.2.2.2.2.2.2.2.2.2.2.2.2.2.2.2.1,x.2.2.2.2.2.2.2.2.2.2.2.2.2.2.2.2.2.2.2.2.2.1,x.2.2.2.2.2.2.2.2.2.2.2.2.2.2.2.2.2.2.2.2.2.2.1,(slV x.2.2.2.2.2.2.2.2.2.2.2.2.2.2.2.2.2.2.2.2.2.2.2.1.1,x.2.2.2.2.2.2.2.2.2.2.2.2.2.2.2.2.2.2.2.2.2.2.2.1.2),x.2.2.2.2.2.2.2.2.2.2.2.2.2.2.2.2.2.2.2.2.2.2.2.2.1,x.2.2.2.2.2.2.2.2.2.2.2.2.2.2.2.2.2.2.2.2.2.2.2.2.2.1,x.2.2.2.2.2.2.2.2.2.2.2.2.2.2.2.2.2.2.2.2.2.2.2.2.2.2.1,x.2.2.2.2.2.2.2.2.2.2.2.2.2.2.2.2.2.2.2.2.2.2.2.2.2.2.2.1,x.2.2.2.2.2.2.2.2.2.2.2.2.2.2.2.2.2.2.2.2.2.2.2.2.2.2.2.2.1,x.2.2.2.2.2.2.2.2.2.2.2.2.2.2.2.2.2.2.2.2.2.2.2.2.2.2.2.2.2.1,x.2.2.2.2.2.2.2.2.2.2.2.2.2.2.2.2.2.2.2.2.2.2.2.2.2.2.2.2.2.2)
noncomputable def _root_.Go.Proofs.YtfkgmidgdpfnkaaGreat.V.psh (turn:Bool) (arm j:V.T3) (x:L31):L31 := if cEq x.1 2 = true then (if turn = true then (x.1,x.2.1,x.2.2.1,x.2.2.2.1,x.2.2.2.2.1,x.2.2.2.2.2.1,x.2.2.2.2.2.2.1,x.2.2.2.2.2.2.2.1,x.2.2.2.2.2.2.2.2.1,x.2.2.2.2.2.2.2.2.2.1,x.2.2.2.2.2.2.2.2.2.2.1,V.x3 (V.tAdd (x.2.2.2.2.2.2.2.2.2.2.2.1,x.2.2.2.2.2.2.2.2.2.2.2.2.1,x.2.2.2.2.2.2.2.2.2.2.2.2.2.1) j),V.y3 (V.tAdd (x.2.2.2.2.2.2.2.2.2.2.2.1,x.2.2.2.2.2.2.2.2.2.2.2.2.1,x.2.2.2.2.2.2.2.2.2.2.2.2.2.1) j),V.z3 (V.tAdd (x.2.2.2.2.2.2.2.2.2.2.2.1,x.2.2.2.2.2.2.2.2.2.2.2.2.1,x.2.2.2.2.2.2.2.2.2.2.2.2.2.1) j),x.2.2.2.2.2.2.2.2.2.2.2.2.2.2.1,x.2.2.2.2.2.2.2.2.2.2.2.2.2.2.2.1,x.2.2.2.2.2.2.2.2.2.2.2.2.2.2.2.2.1,x.2.2.2.2.2.2.2.2.2.2.2.2.2.2.2.2.2.1,x.2.2.2.2.2.2.2.2.2.2.2.2.2.2.2.2.2.2.1,x.2.2.2.2.2.2.2.2.2.2.2.2.2.2.2.2.2.2.2.1,x.2.2.2.2.2.2.2.2.2.2.2.2.2.2.2.2.2.2.2.2.1,x.2.2.2.2.2.2.2.2.2.2.2.2.2.2.2.2.2.2.2.2.2.1,x.2.2.2.2.2.2.2.2.2.2.2.2.2.2.2.2.2.2.2.2.2.2.1,(slV x.2.2.2.2.2.2.2.2.2.2.2.2.2.2.2.2.2.2.2.2.2.2.2.1.1,x.2.2.2.2.2.2.2.2.2.2.2.2.2.2.2.2.2.2.2.2.2.2.2.1.2),x.2.2.2.2.2.2.2.2.2.2.2.2.2.2.2.2.2.2.2.2.2.2.2.2.1,x.2.2.2.2.2.2.2.2.2.2.2.2.2.2.2.2.2.2.2.2.2.2.2.2.2.1,x.2.2.2.2.2.2.2.2.2.2.2.2.2.2.2.2.2.2.2.2.2.2.2.2.2.2.1,x.2.2.2.2.2.2.2.2.2.2.2.2.2.2.2.2.2.2.2.2.2.2.2.2.2.2.2.1,x.2.2.2.2.2.2.2.2.2.2.2.2.2.2.2.2.2.2.2.2.2.2.2.2.2.2.2.2.1,x.2.2.2.2.2.2.2.2.2.2.2.2.2.2.2.2.2.2.2.2.2.2.2.2.2.2.2.2.2.1,x.2.2.2.2.2.2.2.2.2.2.2.2.2.2.2.2.2.2.2.2.2.2.2.2.2.2.2.2.2.2) else (x.1,x.2.1,x.2.2.1,x.2.2.2.1,x.2.2.2.2.1,x.2.2.2.2.2.1,x.2.2.2.2.2.2.1,x.2.2.2.2.2.2.2.1,V.x3 (V.tAdd (x.2.2.2.2.2.2.2.2.1,x.2.2.2.2.2.2.2.2.2.1,x.2.2.2.2.2.2.2.2.2.2.1) j),V.y3 (V.tAdd (x.2.2.2.2.2.2.2.2.1,x.2.2.2.2.2.2.2.2.2.1,x.2.2.2.2.2.2.2.2.2.2.1) j),V.z3 (V.tAdd (x.2.2.2.2.2.2.2.2.1,x.2.2.2.2.2.2.2.2.2.1,x.2.2.2.2.2.2.2.2.2.2.1) j),V.x3 (V.tAdd (x.2.2.2.2.2.2.2.2.2.2.2.1,x.2.2.2.2.2.2.2.2.2.2.2.2.1,x.2.2.2.2.2.2.2.2.2.2.2.2.2.1) (V.q3 (V.tCross arm j))),V.y3 (V.tAdd (x.2.2.2.2.2.2.2.2.2.2.2.1,x.2.2.2.2.2.2.2.2.2.2.2.2.1,x.2.2.2.2.2.2.2.2.2.2.2.2.2.1) (V.q3 (V.tCross arm j))),V.z3 (V.tAdd (x.2.2.2.2.2.2.2.2.2.2.2.1,x.2.2.2.2.2.2.2.2.2.2.2.2.1,x.2.2.2.2.2.2.2.2.2.2.2.2.2.1) (V.q3 (V.tCross arm j))),x.2.2.2.2.2.2.2.2.2.2.2.2.2.2.1,x.2.2.2.2.2.2.2.2.2.2.2.2.2.2.2.1,x.2.2.2.2.2.2.2.2.2.2.2.2.2.2.2.2.1,x.2.2.2.2.2.2.2.2.2.2.2.2.2.2.2.2.2.1,x.2.2.2.2.2.2.2.2.2.2.2.2.2.2.2.2.2.2.1,x.2.2.2.2.2.2.2.2.2.2.2.2.2.2.2.2.2.2.2.1,x.2.2.2.2.2.2.2.2.2.2.2.2.2.2.2.2.2.2.2.2.1,x.2.2.2.2.2.2.2.2.2.2.2.2.2.2.2.2.2.2.2.2.2.1,x.2.2.2.2.2.2.2.2.2.2.2.2.2.2.2.2.2.2.2.2.2.2.1,(slV x.2.2.2.2.2.2.2.2.2.2.2.2.2.2.2.2.2.2.2.2.2.2.2.1.1,x.2.2.2.2.2.2.2.2.2.2.2.2.2.2.2.2.2.2.2.2.2.2.2.1.2),x.2.2.2.2.2.2.2.2.2.2.2.2.2.2.2.2.2.2.2.2.2.2.2.2.1,x.2.2.2.2.2.2.2.2.2.2.2.2.2.2.2.2.2.2.2.2.2.2.2.2.2.1,x.2.2.2.2.2.2.2.2.2.2.2.2.2.2.2.2.2.2.2.2.2.2.2.2.2.2.1,x.2.2.2.2.2.2.2.2.2.2.2.2.2.2.2.2.2.2.2.2.2.2.2.2.2.2.2.1,x.2.2.2.2.2.2.2.2.2.2.2.2.2.2.2.2.2.2.2.2.2.2.2.2.2.2.2.2.1,x.2.2.2.2.2.2.2.2.2.2.2.2.2.2.2.2.2.2.2.2.2.2.2.2.2.2.2.2.2.1,x.2.2.2.2.2.2.2.2.2.2.2.2.2.2.2.2.2.2.2.2.2.2.2.2.2.2.2.2.2.2)) else nB x
noncomputable def _root_.Go.Proofs.YtfkgmidgdpfnkaaGreat.V.pshB (turn:Bool) (arm j:V.T3) (x:L31) (bad:Bool):Bool := if cEq x.1 2 = true then (if turn = true then V.on (V.tAdd (x.2.2.2.2.2.2.2.2.2.2.2.1,x.2.2.2.2.2.2.2.2.2.2.2.2.1,x.2.2.2.2.2.2.2.2.2.2.2.2.2.1) j) bad else V.on (V.tAdd (x.2.2.2.2.2.2.2.2.2.2.2.1,x.2.2.2.2.2.2.2.2.2.2.2.2.1,x.2.2.2.2.2.2.2.2.2.2.2.2.2.1) (V.q3 (V.tCross arm j))) (V.on (V.tCross arm j) (V.on (V.tAdd (x.2.2.2.2.2.2.2.2.1,x.2.2.2.2.2.2.2.2.2.1,x.2.2.2.2.2.2.2.2.2.2.1) j) bad))) else bad
noncomputable def _root_.Go.Proofs.YtfkgmidgdpfnkaaGreat.V.stp (turn:Bool) (arm j:V.T3) (i:Int) (l:List L31):List L31 := if 0 ≤ i ∧ i < (l.length:Int) then l.set i.toNat (V.psh turn arm j (l.getD i.toNat zBy)) else l
noncomputable def _root_.Go.Proofs.YtfkgmidgdpfnkaaGreat.V.stpB (turn:Bool) (arm j:V.T3) (i:Int) (l:List L31) (bad:Bool):Bool := if 0 ≤ i ∧ i < (l.length:Int) then V.pshB turn arm j (l.getD i.toNat zBy) bad else bad
noncomputable def _root_.Go.Proofs.YtfkgmidgdpfnkaaGreat.V.slD (rows:List L18) (n:Int) (l:List L31):Option Int := V.mSub (V.wsh rows n l) (rows.getD n.toNat zRw).2.2.2.2.2.2.2.2.2.2.2.2.2.2.2.2.2
noncomputable def _root_.Go.Proofs.YtfkgmidgdpfnkaaGreat.V.slJ (rows:List L18) (n:Int) (l:List L31):Option V.T3 := V.tScale ((rows.getD n.toNat zRw).2.2.1,(rows.getD n.toNat zRw).2.2.2.1,(rows.getD n.toNat zRw).2.2.2.2.1) (V.gv (V.slD rows n l))
noncomputable def _root_.Go.Proofs.YtfkgmidgdpfnkaaGreat.V.slK (rows:List L18) (n:Int) (l:List L31):Option V.T3 := V.tSub (0,0,0) (V.q3 (V.slJ rows n l))
noncomputable def _root_.Go.Proofs.YtfkgmidgdpfnkaaGreat.V.sl0 (rows:List L18) (n:Int) (l:List L31):Bool := V.on (V.slK rows n l) (V.on (V.slJ rows n l) (V.gn (V.slD rows n l) (V.wshB rows n l false)))
noncomputable def _root_.Go.Proofs.YtfkgmidgdpfnkaaGreat.V.sl1 (rows:List L18) (n:Int) (l:List L31):List L31 := V.stp (rows.getD n.toNat zRw).2.2.2.2.2.2.2.2.2.2.2.1 ((rows.getD n.toNat zRw).2.2.2.2.2.2.2.2.1,(rows.getD n.toNat zRw).2.2.2.2.2.2.2.2.2.1,(rows.getD n.toNat zRw).2.2.2.2.2.2.2.2.2.2.1) (V.q3 (V.slJ rows n l)) (rows.getD n.toNat zRw).2.1 l
noncomputable def _root_.Go.Proofs.YtfkgmidgdpfnkaaGreat.V.sl2 (rows:List L18) (n:Int) (l:List L31):List L31 := V.stp (rows.getD n.toNat zRw).2.2.2.2.2.2.2.2.2.2.2.1 ((rows.getD n.toNat zRw).2.2.2.2.2.1,(rows.getD n.toNat zRw).2.2.2.2.2.2.1,(rows.getD n.toNat zRw).2.2.2.2.2.2.2.1) (V.q3 (V.slK rows n l)) (rows.getD n.toNat zRw).1 (V.sl1 rows n l)
noncomputable def _root_.Go.Proofs.YtfkgmidgdpfnkaaGreat.V.slX (rows:List L18) (n:Int) (l:List L31):Bool := V.stpB (rows.getD n.toNat zRw).2.2.2.2.2.2.2.2.2.2.2.1 ((rows.getD n.toNat zRw).2.2.2.2.2.1,(rows.getD n.toNat zRw).2.2.2.2.2.2.1,(rows.getD n.toNat zRw).2.2.2.2.2.2.2.1) (V.q3 (V.slK rows n l)) (rows.getD n.toNat zRw).1 (V.sl1 rows n l) (V.stpB (rows.getD n.toNat zRw).2.2.2.2.2.2.2.2.2.2.2.1 ((rows.getD n.toNat zRw).2.2.2.2.2.2.2.2.1,(rows.getD n.toNat zRw).2.2.2.2.2.2.2.2.2.1,(rows.getD n.toNat zRw).2.2.2.2.2.2.2.2.2.2.1) (V.q3 (V.slJ rows n l)) (rows.getD n.toNat zRw).2.1 l (V.sl0 rows n l))
noncomputable def _root_.Go.Proofs.YtfkgmidgdpfnkaaGreat.V.slvR (rows:List L18) (n:Int) (l:List L31):List L18 := if 0 ≤ n ∧ n < (rows.length:Int) then (if V.slX rows n l = true then rows else rows.set n.toNat ((rows.getD n.toNat zRw).1,(rows.getD n.toNat zRw).2.1,(rows.getD n.toNat zRw).2.2.1,(rows.getD n.toNat zRw).2.2.2.1,(rows.getD n.toNat zRw).2.2.2.2.1,(rows.getD n.toNat zRw).2.2.2.2.2.1,(rows.getD n.toNat zRw).2.2.2.2.2.2.1,(rows.getD n.toNat zRw).2.2.2.2.2.2.2.1,(rows.getD n.toNat zRw).2.2.2.2.2.2.2.2.1,(rows.getD n.toNat zRw).2.2.2.2.2.2.2.2.2.1,(rows.getD n.toNat zRw).2.2.2.2.2.2.2.2.2.2.1,(rows.getD n.toNat zRw).2.2.2.2.2.2.2.2.2.2.2.1,(rows.getD n.toNat zRw).2.2.2.2.2.2.2.2.2.2.2.2.1,(rows.getD n.toNat zRw).2.2.2.2.2.2.2.2.2.2.2.2.2.1,(rows.getD n.toNat zRw).2.2.2.2.2.2.2.2.2.2.2.2.2.2.1,(rows.getD n.toNat zRw).2.2.2.2.2.2.2.2.2.2.2.2.2.2.2.1,(rows.getD n.toNat zRw).2.2.2.2.2.2.2.2.2.2.2.2.2.2.2.2.1,V.wsh rows n l)) else rows
noncomputable def _root_.Go.Proofs.YtfkgmidgdpfnkaaGreat.V.slvL (rows:List L18) (n:Int) (l:List L31):List L31 := if 0 ≤ n ∧ n < (rows.length:Int) then (if V.slX rows n l = true then l else V.sl2 rows n l) else l
noncomputable def _root_.Go.Proofs.YtfkgmidgdpfnkaaGreat.V.slvB (rows:List L18) (n:Int) (l:List L31) (bad:Bool):Bool := if 0 ≤ n ∧ n < (rows.length:Int) then (if V.slX rows n l = true then true else bad) else bad
noncomputable def _root_.Go.Proofs.YtfkgmidgdpfnkaaGreat.V.lenQ (n:Nat):Bool := hidR (decide (n < 4294967296))
theorem lenQ_lt {n:Nat} (h:V.lenQ n = true):n < 4294967296 := by unfold V.lenQ at h; rw [hidR_eq] at h; simpa using h
theorem lenQ_of {n:Nat} (h:n < 4294967296):V.lenQ n = true := by unfold V.lenQ; rw [hidR_eq]; simpa using h
theorem stp_len (turn:Bool) (arm j:V.T3) (i:Int) (l:List L31):(V.stp turn arm j i l).length = l.length := by unfold V.stp; split <;> simp
noncomputable def stepD {α:Type} (turn:Bool) (arm j:V.T3) (i:Int) (l:List L31) (b:Bool) (K:List L31 → Bool → Option α):Option α :=
 if cLe 0 i = true then (if cLt i (l.length:Int) = true then (if turn = true then (if 0 ≤ i ∧ i < (l.length:Int) then (if (!cEq (l.getD i.toNat zBy).1 2) = true then (if 0 ≤ i ∧ i < (l.length:Int) then K (l.set i.toNat ((l.getD i.toNat zBy).1,(l.getD i.toNat zBy).2.1,(l.getD i.toNat zBy).2.2.1,(l.getD i.toNat zBy).2.2.2.1,(l.getD i.toNat zBy).2.2.2.2.1,(l.getD i.toNat zBy).2.2.2.2.2.1,(l.getD i.toNat zBy).2.2.2.2.2.2.1,(l.getD i.toNat zBy).2.2.2.2.2.2.2.1,(l.getD i.toNat zBy).2.2.2.2.2.2.2.2.1,(l.getD i.toNat zBy).2.2.2.2.2.2.2.2.2.1,(l.getD i.toNat zBy).2.2.2.2.2.2.2.2.2.2.1,(l.getD i.toNat zBy).2.2.2.2.2.2.2.2.2.2.2.1,(l.getD i.toNat zBy).2.2.2.2.2.2.2.2.2.2.2.2.1,(l.getD i.toNat zBy).2.2.2.2.2.2.2.2.2.2.2.2.2.1,(l.getD i.toNat zBy).2.2.2.2.2.2.2.2.2.2.2.2.2.2.1,(l.getD i.toNat zBy).2.2.2.2.2.2.2.2.2.2.2.2.2.2.2.1,(l.getD i.toNat zBy).2.2.2.2.2.2.2.2.2.2.2.2.2.2.2.2.1,(l.getD i.toNat zBy).2.2.2.2.2.2.2.2.2.2.2.2.2.2.2.2.2.1,(l.getD i.toNat zBy).2.2.2.2.2.2.2.2.2.2.2.2.2.2.2.2.2.2.1,(l.getD i.toNat zBy).2.2.2.2.2.2.2.2.2.2.2.2.2.2.2.2.2.2.2.1,(l.getD i.toNat zBy).2.2.2.2.2.2.2.2.2.2.2.2.2.2.2.2.2.2.2.2.1,(l.getD i.toNat zBy).2.2.2.2.2.2.2.2.2.2.2.2.2.2.2.2.2.2.2.2.2.1,(l.getD i.toNat zBy).2.2.2.2.2.2.2.2.2.2.2.2.2.2.2.2.2.2.2.2.2.2.1,(slV (l.getD i.toNat zBy).2.2.2.2.2.2.2.2.2.2.2.2.2.2.2.2.2.2.2.2.2.2.2.1.1,(l.getD i.toNat zBy).2.2.2.2.2.2.2.2.2.2.2.2.2.2.2.2.2.2.2.2.2.2.2.1.2),(l.getD i.toNat zBy).2.2.2.2.2.2.2.2.2.2.2.2.2.2.2.2.2.2.2.2.2.2.2.2.1,(l.getD i.toNat zBy).2.2.2.2.2.2.2.2.2.2.2.2.2.2.2.2.2.2.2.2.2.2.2.2.2.1,(l.getD i.toNat zBy).2.2.2.2.2.2.2.2.2.2.2.2.2.2.2.2.2.2.2.2.2.2.2.2.2.2.1,(l.getD i.toNat zBy).2.2.2.2.2.2.2.2.2.2.2.2.2.2.2.2.2.2.2.2.2.2.2.2.2.2.2.1,(l.getD i.toNat zBy).2.2.2.2.2.2.2.2.2.2.2.2.2.2.2.2.2.2.2.2.2.2.2.2.2.2.2.2.1,(l.getD i.toNat zBy).2.2.2.2.2.2.2.2.2.2.2.2.2.2.2.2.2.2.2.2.2.2.2.2.2.2.2.2.2.1,(l.getD i.toNat zBy).2.2.2.2.2.2.2.2.2.2.2.2.2.2.2.2.2.2.2.2.2.2.2.2.2.2.2.2.2.2)) (b) else none) else (if 0 ≤ i ∧ i < (l.length:Int) then K (l.set i.toNat ((l.getD i.toNat zBy).1,(l.getD i.toNat zBy).2.1,(l.getD i.toNat zBy).2.2.1,(l.getD i.toNat zBy).2.2.2.1,(l.getD i.toNat zBy).2.2.2.2.1,(l.getD i.toNat zBy).2.2.2.2.2.1,(l.getD i.toNat zBy).2.2.2.2.2.2.1,(l.getD i.toNat zBy).2.2.2.2.2.2.2.1,(l.getD i.toNat zBy).2.2.2.2.2.2.2.2.1,(l.getD i.toNat zBy).2.2.2.2.2.2.2.2.2.1,(l.getD i.toNat zBy).2.2.2.2.2.2.2.2.2.2.1,V.x3 (V.tAdd ((l.getD i.toNat zBy).2.2.2.2.2.2.2.2.2.2.2.1,(l.getD i.toNat zBy).2.2.2.2.2.2.2.2.2.2.2.2.1,(l.getD i.toNat zBy).2.2.2.2.2.2.2.2.2.2.2.2.2.1) j),V.y3 (V.tAdd ((l.getD i.toNat zBy).2.2.2.2.2.2.2.2.2.2.2.1,(l.getD i.toNat zBy).2.2.2.2.2.2.2.2.2.2.2.2.1,(l.getD i.toNat zBy).2.2.2.2.2.2.2.2.2.2.2.2.2.1) j),V.z3 (V.tAdd ((l.getD i.toNat zBy).2.2.2.2.2.2.2.2.2.2.2.1,(l.getD i.toNat zBy).2.2.2.2.2.2.2.2.2.2.2.2.1,(l.getD i.toNat zBy).2.2.2.2.2.2.2.2.2.2.2.2.2.1) j),(l.getD i.toNat zBy).2.2.2.2.2.2.2.2.2.2.2.2.2.2.1,(l.getD i.toNat zBy).2.2.2.2.2.2.2.2.2.2.2.2.2.2.2.1,(l.getD i.toNat zBy).2.2.2.2.2.2.2.2.2.2.2.2.2.2.2.2.1,(l.getD i.toNat zBy).2.2.2.2.2.2.2.2.2.2.2.2.2.2.2.2.2.1,(l.getD i.toNat zBy).2.2.2.2.2.2.2.2.2.2.2.2.2.2.2.2.2.2.1,(l.getD i.toNat zBy).2.2.2.2.2.2.2.2.2.2.2.2.2.2.2.2.2.2.2.1,(l.getD i.toNat zBy).2.2.2.2.2.2.2.2.2.2.2.2.2.2.2.2.2.2.2.2.1,(l.getD i.toNat zBy).2.2.2.2.2.2.2.2.2.2.2.2.2.2.2.2.2.2.2.2.2.1,(l.getD i.toNat zBy).2.2.2.2.2.2.2.2.2.2.2.2.2.2.2.2.2.2.2.2.2.2.1,(slV (l.getD i.toNat zBy).2.2.2.2.2.2.2.2.2.2.2.2.2.2.2.2.2.2.2.2.2.2.2.1.1,(l.getD i.toNat zBy).2.2.2.2.2.2.2.2.2.2.2.2.2.2.2.2.2.2.2.2.2.2.2.1.2),(l.getD i.toNat zBy).2.2.2.2.2.2.2.2.2.2.2.2.2.2.2.2.2.2.2.2.2.2.2.2.1,(l.getD i.toNat zBy).2.2.2.2.2.2.2.2.2.2.2.2.2.2.2.2.2.2.2.2.2.2.2.2.2.1,(l.getD i.toNat zBy).2.2.2.2.2.2.2.2.2.2.2.2.2.2.2.2.2.2.2.2.2.2.2.2.2.2.1,(l.getD i.toNat zBy).2.2.2.2.2.2.2.2.2.2.2.2.2.2.2.2.2.2.2.2.2.2.2.2.2.2.2.1,(l.getD i.toNat zBy).2.2.2.2.2.2.2.2.2.2.2.2.2.2.2.2.2.2.2.2.2.2.2.2.2.2.2.2.1,(l.getD i.toNat zBy).2.2.2.2.2.2.2.2.2.2.2.2.2.2.2.2.2.2.2.2.2.2.2.2.2.2.2.2.2.1,(l.getD i.toNat zBy).2.2.2.2.2.2.2.2.2.2.2.2.2.2.2.2.2.2.2.2.2.2.2.2.2.2.2.2.2.2)) (V.on (V.tAdd ((l.getD i.toNat zBy).2.2.2.2.2.2.2.2.2.2.2.1,(l.getD i.toNat zBy).2.2.2.2.2.2.2.2.2.2.2.2.1,(l.getD i.toNat zBy).2.2.2.2.2.2.2.2.2.2.2.2.2.1) j) b) else none)) else none) else (if 0 ≤ i ∧ i < (l.length:Int) then (if (!cEq (l.getD i.toNat zBy).1 2) = true then (if 0 ≤ i ∧ i < (l.length:Int) then K (l.set i.toNat ((l.getD i.toNat zBy).1,(l.getD i.toNat zBy).2.1,(l.getD i.toNat zBy).2.2.1,(l.getD i.toNat zBy).2.2.2.1,(l.getD i.toNat zBy).2.2.2.2.1,(l.getD i.toNat zBy).2.2.2.2.2.1,(l.getD i.toNat zBy).2.2.2.2.2.2.1,(l.getD i.toNat zBy).2.2.2.2.2.2.2.1,(l.getD i.toNat zBy).2.2.2.2.2.2.2.2.1,(l.getD i.toNat zBy).2.2.2.2.2.2.2.2.2.1,(l.getD i.toNat zBy).2.2.2.2.2.2.2.2.2.2.1,(l.getD i.toNat zBy).2.2.2.2.2.2.2.2.2.2.2.1,(l.getD i.toNat zBy).2.2.2.2.2.2.2.2.2.2.2.2.1,(l.getD i.toNat zBy).2.2.2.2.2.2.2.2.2.2.2.2.2.1,(l.getD i.toNat zBy).2.2.2.2.2.2.2.2.2.2.2.2.2.2.1,(l.getD i.toNat zBy).2.2.2.2.2.2.2.2.2.2.2.2.2.2.2.1,(l.getD i.toNat zBy).2.2.2.2.2.2.2.2.2.2.2.2.2.2.2.2.1,(l.getD i.toNat zBy).2.2.2.2.2.2.2.2.2.2.2.2.2.2.2.2.2.1,(l.getD i.toNat zBy).2.2.2.2.2.2.2.2.2.2.2.2.2.2.2.2.2.2.1,(l.getD i.toNat zBy).2.2.2.2.2.2.2.2.2.2.2.2.2.2.2.2.2.2.2.1,(l.getD i.toNat zBy).2.2.2.2.2.2.2.2.2.2.2.2.2.2.2.2.2.2.2.2.1,(l.getD i.toNat zBy).2.2.2.2.2.2.2.2.2.2.2.2.2.2.2.2.2.2.2.2.2.1,(l.getD i.toNat zBy).2.2.2.2.2.2.2.2.2.2.2.2.2.2.2.2.2.2.2.2.2.2.1,(slV (l.getD i.toNat zBy).2.2.2.2.2.2.2.2.2.2.2.2.2.2.2.2.2.2.2.2.2.2.2.1.1,(l.getD i.toNat zBy).2.2.2.2.2.2.2.2.2.2.2.2.2.2.2.2.2.2.2.2.2.2.2.1.2),(l.getD i.toNat zBy).2.2.2.2.2.2.2.2.2.2.2.2.2.2.2.2.2.2.2.2.2.2.2.2.1,(l.getD i.toNat zBy).2.2.2.2.2.2.2.2.2.2.2.2.2.2.2.2.2.2.2.2.2.2.2.2.2.1,(l.getD i.toNat zBy).2.2.2.2.2.2.2.2.2.2.2.2.2.2.2.2.2.2.2.2.2.2.2.2.2.2.1,(l.getD i.toNat zBy).2.2.2.2.2.2.2.2.2.2.2.2.2.2.2.2.2.2.2.2.2.2.2.2.2.2.2.1,(l.getD i.toNat zBy).2.2.2.2.2.2.2.2.2.2.2.2.2.2.2.2.2.2.2.2.2.2.2.2.2.2.2.2.1,(l.getD i.toNat zBy).2.2.2.2.2.2.2.2.2.2.2.2.2.2.2.2.2.2.2.2.2.2.2.2.2.2.2.2.2.1,(l.getD i.toNat zBy).2.2.2.2.2.2.2.2.2.2.2.2.2.2.2.2.2.2.2.2.2.2.2.2.2.2.2.2.2.2)) (b) else none) else (if 0 ≤ i ∧ i < (l.length:Int) then K (l.set i.toNat ((l.getD i.toNat zBy).1,(l.getD i.toNat zBy).2.1,(l.getD i.toNat zBy).2.2.1,(l.getD i.toNat zBy).2.2.2.1,(l.getD i.toNat zBy).2.2.2.2.1,(l.getD i.toNat zBy).2.2.2.2.2.1,(l.getD i.toNat zBy).2.2.2.2.2.2.1,(l.getD i.toNat zBy).2.2.2.2.2.2.2.1,V.x3 (V.tAdd ((l.getD i.toNat zBy).2.2.2.2.2.2.2.2.1,(l.getD i.toNat zBy).2.2.2.2.2.2.2.2.2.1,(l.getD i.toNat zBy).2.2.2.2.2.2.2.2.2.2.1) j),V.y3 (V.tAdd ((l.getD i.toNat zBy).2.2.2.2.2.2.2.2.1,(l.getD i.toNat zBy).2.2.2.2.2.2.2.2.2.1,(l.getD i.toNat zBy).2.2.2.2.2.2.2.2.2.2.1) j),V.z3 (V.tAdd ((l.getD i.toNat zBy).2.2.2.2.2.2.2.2.1,(l.getD i.toNat zBy).2.2.2.2.2.2.2.2.2.1,(l.getD i.toNat zBy).2.2.2.2.2.2.2.2.2.2.1) j),V.x3 (V.tAdd ((l.getD i.toNat zBy).2.2.2.2.2.2.2.2.2.2.2.1,(l.getD i.toNat zBy).2.2.2.2.2.2.2.2.2.2.2.2.1,(l.getD i.toNat zBy).2.2.2.2.2.2.2.2.2.2.2.2.2.1) (V.q3 (V.tCross arm j))),V.y3 (V.tAdd ((l.getD i.toNat zBy).2.2.2.2.2.2.2.2.2.2.2.1,(l.getD i.toNat zBy).2.2.2.2.2.2.2.2.2.2.2.2.1,(l.getD i.toNat zBy).2.2.2.2.2.2.2.2.2.2.2.2.2.1) (V.q3 (V.tCross arm j))),V.z3 (V.tAdd ((l.getD i.toNat zBy).2.2.2.2.2.2.2.2.2.2.2.1,(l.getD i.toNat zBy).2.2.2.2.2.2.2.2.2.2.2.2.1,(l.getD i.toNat zBy).2.2.2.2.2.2.2.2.2.2.2.2.2.1) (V.q3 (V.tCross arm j))),(l.getD i.toNat zBy).2.2.2.2.2.2.2.2.2.2.2.2.2.2.1,(l.getD i.toNat zBy).2.2.2.2.2.2.2.2.2.2.2.2.2.2.2.1,(l.getD i.toNat zBy).2.2.2.2.2.2.2.2.2.2.2.2.2.2.2.2.1,(l.getD i.toNat zBy).2.2.2.2.2.2.2.2.2.2.2.2.2.2.2.2.2.1,(l.getD i.toNat zBy).2.2.2.2.2.2.2.2.2.2.2.2.2.2.2.2.2.2.1,(l.getD i.toNat zBy).2.2.2.2.2.2.2.2.2.2.2.2.2.2.2.2.2.2.2.1,(l.getD i.toNat zBy).2.2.2.2.2.2.2.2.2.2.2.2.2.2.2.2.2.2.2.2.1,(l.getD i.toNat zBy).2.2.2.2.2.2.2.2.2.2.2.2.2.2.2.2.2.2.2.2.2.1,(l.getD i.toNat zBy).2.2.2.2.2.2.2.2.2.2.2.2.2.2.2.2.2.2.2.2.2.2.1,(slV (l.getD i.toNat zBy).2.2.2.2.2.2.2.2.2.2.2.2.2.2.2.2.2.2.2.2.2.2.2.1.1,(l.getD i.toNat zBy).2.2.2.2.2.2.2.2.2.2.2.2.2.2.2.2.2.2.2.2.2.2.2.1.2),(l.getD i.toNat zBy).2.2.2.2.2.2.2.2.2.2.2.2.2.2.2.2.2.2.2.2.2.2.2.2.1,(l.getD i.toNat zBy).2.2.2.2.2.2.2.2.2.2.2.2.2.2.2.2.2.2.2.2.2.2.2.2.2.1,(l.getD i.toNat zBy).2.2.2.2.2.2.2.2.2.2.2.2.2.2.2.2.2.2.2.2.2.2.2.2.2.2.1,(l.getD i.toNat zBy).2.2.2.2.2.2.2.2.2.2.2.2.2.2.2.2.2.2.2.2.2.2.2.2.2.2.2.1,(l.getD i.toNat zBy).2.2.2.2.2.2.2.2.2.2.2.2.2.2.2.2.2.2.2.2.2.2.2.2.2.2.2.2.1,(l.getD i.toNat zBy).2.2.2.2.2.2.2.2.2.2.2.2.2.2.2.2.2.2.2.2.2.2.2.2.2.2.2.2.2.1,(l.getD i.toNat zBy).2.2.2.2.2.2.2.2.2.2.2.2.2.2.2.2.2.2.2.2.2.2.2.2.2.2.2.2.2.2)) (V.on (V.tAdd ((l.getD i.toNat zBy).2.2.2.2.2.2.2.2.2.2.2.1,(l.getD i.toNat zBy).2.2.2.2.2.2.2.2.2.2.2.2.1,(l.getD i.toNat zBy).2.2.2.2.2.2.2.2.2.2.2.2.2.1) (V.q3 (V.tCross arm j))) (V.on (V.tCross arm j) (V.on (V.tAdd ((l.getD i.toNat zBy).2.2.2.2.2.2.2.2.1,(l.getD i.toNat zBy).2.2.2.2.2.2.2.2.2.1,(l.getD i.toNat zBy).2.2.2.2.2.2.2.2.2.2.1) j) b))) else none)) else none)) else K l b) else K l b
theorem stepD_val {α:Type} (turn:Bool) (arm j:V.T3) (i:Int) (l:List L31) (b:Bool) (K:List L31 → Bool → Option α):stepD turn arm j i l b K = K (V.stp turn arm j i l) (V.stpB turn arm j i l b) := by
 unfold stepD V.stp V.stpB
 by_cases hi:0 ≤ i ∧ i < (l.length:Int)
 · have h1 : cLe 0 i = true := by rw [cLe_eq]; simpa using hi.1
   have h2:cLt i (l.length:Int) = true := by rw [cLt_eq]; simpa using hi.2
   rw [if_pos h1,if_pos h2]
   simp only [if_pos hi]
   unfold V.psh V.pshB nB
   cases turn <;> cases cEq (l.getD i.toNat zBy).1 2 <;> rfl
 · simp only [if_neg hi]
   by_cases h1:cLe 0 i = true
   · have h2 : ¬ cLt i (l.length : Int) = true := by
       rw [cLe_eq] at h1; rw [cLt_eq]; simp at h1 ⊢; omega
     rw [if_pos h1,if_neg h2]
   · rw [if_neg h1]
end
section
open Go
set_option maxRecDepth 20000
noncomputable abbrev rwsolve_S1 (y1 y2:Int) (y3:Bool) (y4 y5:Int) (y6:Bool) (y7:Int) (y8:Nat) (y9 y10 y11 y12 y13 y14 y15 y16 y17 y18 y19:Int) (y20:Bool) (y21 y22 y23 y24 y25 y26 y27 y28 y29 y30 y31 y32 y33 y34 y35 y36 y37:Int) (y38:Bool) (y39 y40 y41 y42 y43 y44 y45 y46 y47 y48 y49 y50:Int) (y51:Bool) (y52:List L18) (y53:List L31) (y54 y55 y56 y57 y58 y59 y60 y61 y62 y63 y64:Int) (y65:Bool) (y66 y67 y68 y69 y70 y71 y72 y73 y74 y75 y76 y77:Int):St := St.mk [some (SV.ptr (nat_lit 0) (nat_lit 0)),some (SV.sl (nat_lit 1)),some (SV.int .i64 y1),some (SV.sl (nat_lit 2)),some (SV.raw (Value.tuple (Array.mk []))),some (SV.raw (Value.tuple (Array.mk []))),some (SV.raw (Value.tuple (Array.mk []))),some (SV.raw (Value.tuple (Array.mk []))),some (SV.ptr (nat_lit 3) (nat_lit 0)),some (SV.ptr (nat_lit 4) (nat_lit 0)),some (SV.ptr (nat_lit 7) (nat_lit 0)),some (SV.raw (Value.tuple (Array.mk []))),some (SV.raw (Value.tuple (Array.mk []))),some (SV.raw (Value.tuple (Array.mk []))),some (SV.raw (Value.tuple (Array.mk []))),some (SV.raw (Value.tuple (Array.mk []))),some (SV.raw (Value.tuple (Array.mk []))),some (SV.raw (Value.tuple (Array.mk []))),some (SV.int .i64 y2),some (SV.bool y3),some (SV.bool false),some (SV.int .i64 y4),some (SV.sl (nat_lit 1)),some (SV.int .i64 y5),some (SV.bool y6),some (SV.bool false),some (SV.sl (nat_lit 1)),some (SV.int .i64 y7),some (SV.pix (nat_lit 1) kRw y8 (nat_lit 0)),some (SV.agg [SV.int .i64 y9,SV.int .i64 y10,SV.int .i64 y11,SV.int .i64 y12,SV.int .i64 y13,SV.int .i64 y14,SV.int .i64 y15,SV.int .i64 y16,SV.int .i64 y17,SV.int .i64 y18,SV.int .i64 y19,SV.bool y20,SV.int .i64 y21,SV.int .i64 y22,SV.int .i64 y23,SV.int .i64 y24,SV.int .i64 y25,SV.int .i64 y26]),some (SV.agg [SV.int .i64 y27,SV.int .i64 y28,SV.int .i64 y29,SV.int .i64 y30,SV.int .i64 y31,SV.int .i64 y32,SV.int .i64 y33,SV.int .i64 y34,SV.int .i64 y35,SV.int .i64 y36,SV.int .i64 y37,SV.bool y38,SV.int .i64 y39,SV.int .i64 y40,SV.int .i64 y41,SV.int .i64 y42,SV.int .i64 y43,SV.int .i64 y44]),some (SV.sl (nat_lit 2)),some (SV.agg [SV.ptr (nat_lit 5) (nat_lit 0),SV.int .i64 y45,SV.int .i64 y46,SV.int .i64 y47,SV.fn (nat_lit 57) [] [],SV.ptr (nat_lit 6) (nat_lit 0),SV.int .i64 y48,SV.int .i64 y49,SV.int .i64 y50,SV.fn (nat_lit 58) [] []]),some (SV.raw (Value.tuple (Array.mk []))),some (SV.raw (Value.tuple (Array.mk []))),some (SV.raw (Value.tuple (Array.mk []))),some (SV.raw (Value.tuple (Array.mk []))),some (SV.raw (Value.tuple (Array.mk []))),some (SV.raw (Value.tuple (Array.mk []))),some (SV.raw (Value.tuple (Array.mk []))),some (SV.raw (Value.tuple (Array.mk []))),some (SV.raw (Value.tuple (Array.mk []))),some (SV.raw (Value.tuple (Array.mk []))),some (SV.raw (Value.tuple (Array.mk []))),some (SV.raw (Value.tuple (Array.mk []))),some (SV.raw (Value.tuple (Array.mk []))),some (SV.raw (Value.tuple (Array.mk []))),some (SV.raw (Value.tuple (Array.mk []))),some (SV.raw (Value.tuple (Array.mk []))),some (SV.raw (Value.tuple (Array.mk []))),some (SV.raw (Value.tuple (Array.mk []))),some (SV.raw (Value.tuple (Array.mk []))),some (SV.raw (Value.tuple (Array.mk []))),some (SV.raw (Value.tuple (Array.mk []))),some (SV.raw (Value.tuple (Array.mk []))),some (SV.raw (Value.tuple (Array.mk []))),some (SV.raw (Value.tuple (Array.mk []))),some (SV.raw (Value.tuple (Array.mk []))),some (SV.raw (Value.tuple (Array.mk []))),some (SV.raw (Value.tuple (Array.mk []))),some (SV.raw (Value.tuple (Array.mk []))),some (SV.raw (Value.tuple (Array.mk []))),some (SV.raw (Value.tuple (Array.mk []))),some (SV.raw (Value.tuple (Array.mk []))),some (SV.raw (Value.tuple (Array.mk []))),some (SV.raw (Value.tuple (Array.mk []))),some (SV.raw (Value.tuple (Array.mk []))),some (SV.raw (Value.tuple (Array.mk []))),some (SV.raw (Value.tuple (Array.mk []))),some (SV.raw (Value.tuple (Array.mk []))),some (SV.raw (Value.tuple (Array.mk []))),some (SV.raw (Value.tuple (Array.mk []))),some (SV.raw (Value.tuple (Array.mk []))),some (SV.raw (Value.tuple (Array.mk []))),some (SV.raw (Value.tuple (Array.mk []))),some (SV.raw (Value.tuple (Array.mk []))),some (SV.raw (Value.tuple (Array.mk []))),some (SV.raw (Value.tuple (Array.mk []))),some (SV.raw (Value.tuple (Array.mk []))),some (SV.raw (Value.tuple (Array.mk []))),some (SV.raw (Value.tuple (Array.mk []))),some (SV.raw (Value.tuple (Array.mk []))),some (SV.raw (Value.tuple (Array.mk []))),some (SV.raw (Value.tuple (Array.mk []))),some (SV.raw (Value.tuple (Array.mk []))),some (SV.raw (Value.tuple (Array.mk []))),some (SV.raw (Value.tuple (Array.mk []))),some (SV.raw (Value.tuple (Array.mk []))),some (SV.raw (Value.tuple (Array.mk [])))] [.cells [SV.bool y51] (nat_lit 27),.seq kRw y52 (nat_lit 34),SObj.seq kBy y53 (nat_lit 67),.cells [SV.bool false] (nat_lit 27),.cells [SV.int .i64 y54,SV.int .i64 y55,SV.int .i64 y56,SV.int .i64 y57,SV.int .i64 y58,SV.int .i64 y59,SV.int .i64 y60,SV.int .i64 y61,SV.int .i64 y62,SV.int .i64 y63,SV.int .i64 y64,SV.bool y65,SV.int .i64 y66,SV.int .i64 y67,SV.int .i64 y68,SV.int .i64 y69,SV.int .i64 y70,SV.int .i64 y71] (nat_lit 34),SObj.cells [SV.int .i64 (1:Int),SV.int .i64 (0:Int),SV.int .i64 (0:Int),SV.int .i64 (0:Int),SV.int .i64 (0:Int),SV.int .i64 (0:Int),SV.int .i64 (0:Int),SV.int .i64 (0:Int),SV.int .i64 (0:Int),SV.int .i64 (0:Int),SV.int .i64 (0:Int),SV.int .i64 (0:Int),SV.int .i64 (0:Int),SV.int .i64 (0:Int),SV.int .i64 (0:Int),SV.int .i64 (0:Int),SV.int .i64 (0:Int),SV.int .i64 (0:Int),SV.int .i64 (0:Int),SV.int .i64 (0:Int),SV.int .i64 (0:Int),SV.int .i64 (0:Int),SV.int .i64 (0:Int),SV.raw (Value.slice none (0:Nat) (0:Nat)),SV.int .i64 (0:Int),SV.int .i64 (0:Int),SV.int .i64 (0:Int),SV.bool false,SV.int .i64 (0:Int),SV.bool false,SV.bool false] (nat_lit 67),SObj.cells [SV.int .i64 (1:Int),SV.int .i64 (0:Int),SV.int .i64 (0:Int),SV.int .i64 (0:Int),SV.int .i64 (0:Int),SV.int .i64 (0:Int),SV.int .i64 (0:Int),SV.int .i64 (0:Int),SV.int .i64 (0:Int),SV.int .i64 (0:Int),SV.int .i64 (0:Int),SV.int .i64 (0:Int),SV.int .i64 (0:Int),SV.int .i64 (0:Int),SV.int .i64 (0:Int),SV.int .i64 (0:Int),SV.int .i64 (0:Int),SV.int .i64 (0:Int),SV.int .i64 (0:Int),SV.int .i64 (0:Int),SV.int .i64 (0:Int),SV.int .i64 (0:Int),SV.int .i64 (0:Int),SV.raw (Value.slice none (0:Nat) (0:Nat)),SV.int .i64 (0:Int),SV.int .i64 (0:Int),SV.int .i64 (0:Int),SV.bool false,SV.int .i64 (0:Int),SV.bool false,SV.bool false] (nat_lit 67),.cells [SV.ptr (nat_lit 5) (nat_lit 0),SV.int .i64 y72,SV.int .i64 y73,SV.int .i64 y74,SV.fn (nat_lit 57) [] [],SV.ptr (nat_lit 6) (nat_lit 0),SV.int .i64 y75,SV.int .i64 y76,SV.int .i64 y77,SV.fn (nat_lit 58) [] []] (nat_lit 75)]
noncomputable abbrev rwsolve_S2 (y1 y2:Int) (y3:Bool) (y4 y5:Int) (y6:Bool) (y7:Int) (y8:Nat) (y9 y10 y11 y12 y13 y14 y15 y16 y17 y18 y19:Int) (y20:Bool) (y21 y22 y23 y24 y25 y26 y27 y28 y29 y30 y31 y32 y33 y34 y35 y36 y37:Int) (y38:Bool) (y39 y40 y41 y42 y43 y44 y45 y46 y47:Int) (y48:Nat) (y49 y50 y51:Int) (y52:Bool) (y53:List L18) (y54:List L31) (y55 y56 y57 y58 y59 y60 y61 y62 y63 y64 y65:Int) (y66:Bool) (y67 y68 y69 y70 y71 y72 y73 y74 y75:Int) (y76:Nat) (y77 y78 y79:Int):St := St.mk [some (SV.ptr (nat_lit 0) (nat_lit 0)),some (SV.sl (nat_lit 1)),some (SV.int .i64 y1),some (SV.sl (nat_lit 2)),some (SV.raw (Value.tuple (Array.mk []))),some (SV.raw (Value.tuple (Array.mk []))),some (SV.raw (Value.tuple (Array.mk []))),some (SV.raw (Value.tuple (Array.mk []))),some (SV.ptr (nat_lit 3) (nat_lit 0)),some (SV.ptr (nat_lit 4) (nat_lit 0)),some (SV.ptr (nat_lit 6) (nat_lit 0)),some (SV.raw (Value.tuple (Array.mk []))),some (SV.raw (Value.tuple (Array.mk []))),some (SV.raw (Value.tuple (Array.mk []))),some (SV.raw (Value.tuple (Array.mk []))),some (SV.raw (Value.tuple (Array.mk []))),some (SV.raw (Value.tuple (Array.mk []))),some (SV.raw (Value.tuple (Array.mk []))),some (SV.int .i64 y2),some (SV.bool y3),some (SV.bool false),some (SV.int .i64 y4),some (SV.sl (nat_lit 1)),some (SV.int .i64 y5),some (SV.bool y6),some (SV.bool false),some (SV.sl (nat_lit 1)),some (SV.int .i64 y7),some (SV.pix (nat_lit 1) kRw y8 (nat_lit 0)),some (SV.agg [SV.int .i64 y9,SV.int .i64 y10,SV.int .i64 y11,SV.int .i64 y12,SV.int .i64 y13,SV.int .i64 y14,SV.int .i64 y15,SV.int .i64 y16,SV.int .i64 y17,SV.int .i64 y18,SV.int .i64 y19,SV.bool y20,SV.int .i64 y21,SV.int .i64 y22,SV.int .i64 y23,SV.int .i64 y24,SV.int .i64 y25,SV.int .i64 y26]),some (SV.agg [SV.int .i64 y27,SV.int .i64 y28,SV.int .i64 y29,SV.int .i64 y30,SV.int .i64 y31,SV.int .i64 y32,SV.int .i64 y33,SV.int .i64 y34,SV.int .i64 y35,SV.int .i64 y36,SV.int .i64 y37,SV.bool y38,SV.int .i64 y39,SV.int .i64 y40,SV.int .i64 y41,SV.int .i64 y42,SV.int .i64 y43,SV.int .i64 y44]),some (SV.sl (nat_lit 2)),some (SV.agg [SV.ptr (nat_lit 5) (nat_lit 0),SV.int .i64 y45,SV.int .i64 y46,SV.int .i64 y47,SV.fn (nat_lit 57) [] [],SV.pix (nat_lit 2) kBy y48 (nat_lit 0),SV.int .i64 y49,SV.int .i64 y50,SV.int .i64 y51,SV.fn (nat_lit 58) [] []]),some (SV.raw (Value.tuple (Array.mk []))),some (SV.raw (Value.tuple (Array.mk []))),some (SV.raw (Value.tuple (Array.mk []))),some (SV.raw (Value.tuple (Array.mk []))),some (SV.raw (Value.tuple (Array.mk []))),some (SV.raw (Value.tuple (Array.mk []))),some (SV.raw (Value.tuple (Array.mk []))),some (SV.raw (Value.tuple (Array.mk []))),some (SV.raw (Value.tuple (Array.mk []))),some (SV.raw (Value.tuple (Array.mk []))),some (SV.raw (Value.tuple (Array.mk []))),some (SV.raw (Value.tuple (Array.mk []))),some (SV.raw (Value.tuple (Array.mk []))),some (SV.raw (Value.tuple (Array.mk []))),some (SV.raw (Value.tuple (Array.mk []))),some (SV.raw (Value.tuple (Array.mk []))),some (SV.raw (Value.tuple (Array.mk []))),some (SV.raw (Value.tuple (Array.mk []))),some (SV.raw (Value.tuple (Array.mk []))),some (SV.raw (Value.tuple (Array.mk []))),some (SV.raw (Value.tuple (Array.mk []))),some (SV.raw (Value.tuple (Array.mk []))),some (SV.raw (Value.tuple (Array.mk []))),some (SV.raw (Value.tuple (Array.mk []))),some (SV.raw (Value.tuple (Array.mk []))),some (SV.raw (Value.tuple (Array.mk []))),some (SV.raw (Value.tuple (Array.mk []))),some (SV.raw (Value.tuple (Array.mk []))),some (SV.raw (Value.tuple (Array.mk []))),some (SV.raw (Value.tuple (Array.mk []))),some (SV.raw (Value.tuple (Array.mk []))),some (SV.raw (Value.tuple (Array.mk []))),some (SV.raw (Value.tuple (Array.mk []))),some (SV.raw (Value.tuple (Array.mk []))),some (SV.raw (Value.tuple (Array.mk []))),some (SV.raw (Value.tuple (Array.mk []))),some (SV.raw (Value.tuple (Array.mk []))),some (SV.raw (Value.tuple (Array.mk []))),some (SV.raw (Value.tuple (Array.mk []))),some (SV.raw (Value.tuple (Array.mk []))),some (SV.raw (Value.tuple (Array.mk []))),some (SV.raw (Value.tuple (Array.mk []))),some (SV.raw (Value.tuple (Array.mk []))),some (SV.raw (Value.tuple (Array.mk []))),some (SV.raw (Value.tuple (Array.mk []))),some (SV.raw (Value.tuple (Array.mk []))),some (SV.raw (Value.tuple (Array.mk []))),some (SV.raw (Value.tuple (Array.mk []))),some (SV.raw (Value.tuple (Array.mk []))),some (SV.raw (Value.tuple (Array.mk []))),some (SV.raw (Value.tuple (Array.mk []))),some (SV.raw (Value.tuple (Array.mk []))),some (SV.raw (Value.tuple (Array.mk []))),some (SV.raw (Value.tuple (Array.mk []))),some (SV.raw (Value.tuple (Array.mk []))),some (SV.raw (Value.tuple (Array.mk [])))] [.cells [SV.bool y52] (nat_lit 27),.seq kRw y53 (nat_lit 34),SObj.seq kBy y54 (nat_lit 67),.cells [SV.bool false] (nat_lit 27),.cells [SV.int .i64 y55,SV.int .i64 y56,SV.int .i64 y57,SV.int .i64 y58,SV.int .i64 y59,SV.int .i64 y60,SV.int .i64 y61,SV.int .i64 y62,SV.int .i64 y63,SV.int .i64 y64,SV.int .i64 y65,SV.bool y66,SV.int .i64 y67,SV.int .i64 y68,SV.int .i64 y69,SV.int .i64 y70,SV.int .i64 y71,SV.int .i64 y72] (nat_lit 34),SObj.cells [SV.int .i64 (1:Int),SV.int .i64 (0:Int),SV.int .i64 (0:Int),SV.int .i64 (0:Int),SV.int .i64 (0:Int),SV.int .i64 (0:Int),SV.int .i64 (0:Int),SV.int .i64 (0:Int),SV.int .i64 (0:Int),SV.int .i64 (0:Int),SV.int .i64 (0:Int),SV.int .i64 (0:Int),SV.int .i64 (0:Int),SV.int .i64 (0:Int),SV.int .i64 (0:Int),SV.int .i64 (0:Int),SV.int .i64 (0:Int),SV.int .i64 (0:Int),SV.int .i64 (0:Int),SV.int .i64 (0:Int),SV.int .i64 (0:Int),SV.int .i64 (0:Int),SV.int .i64 (0:Int),SV.raw (Value.slice none (0:Nat) (0:Nat)),SV.int .i64 (0:Int),SV.int .i64 (0:Int),SV.int .i64 (0:Int),SV.bool false,SV.int .i64 (0:Int),SV.bool false,SV.bool false] (nat_lit 67),SObj.cells [SV.ptr (nat_lit 5) (nat_lit 0),SV.int .i64 y73,SV.int .i64 y74,SV.int .i64 y75,SV.fn (nat_lit 57) [] [],SV.pix (nat_lit 2) kBy y76 (nat_lit 0),SV.int .i64 y77,SV.int .i64 y78,SV.int .i64 y79,SV.fn (nat_lit 58) [] []] (nat_lit 75)]
noncomputable abbrev rwsolve_S3 (y1 y2:Int) (y3:Bool) (y4 y5:Int) (y6:Bool) (y7:Int) (y8:Nat) (y9 y10 y11 y12 y13 y14 y15 y16 y17 y18 y19:Int) (y20:Bool) (y21 y22 y23 y24 y25 y26 y27 y28 y29 y30 y31 y32 y33 y34 y35 y36 y37:Int) (y38:Bool) (y39 y40 y41 y42 y43 y44:Int) (y45:Nat) (y46 y47 y48 y49 y50 y51:Int) (y52:Bool) (y53:List L18) (y54:List L31) (y55 y56 y57 y58 y59 y60 y61 y62 y63 y64 y65:Int) (y66:Bool) (y67 y68 y69 y70 y71 y72:Int) (y73:Nat) (y74 y75 y76 y77 y78 y79:Int):St := St.mk [some (SV.ptr (nat_lit 0) (nat_lit 0)),some (SV.sl (nat_lit 1)),some (SV.int .i64 y1),some (SV.sl (nat_lit 2)),some (SV.raw (Value.tuple (Array.mk []))),some (SV.raw (Value.tuple (Array.mk []))),some (SV.raw (Value.tuple (Array.mk []))),some (SV.raw (Value.tuple (Array.mk []))),some (SV.ptr (nat_lit 3) (nat_lit 0)),some (SV.ptr (nat_lit 4) (nat_lit 0)),some (SV.ptr (nat_lit 6) (nat_lit 0)),some (SV.raw (Value.tuple (Array.mk []))),some (SV.raw (Value.tuple (Array.mk []))),some (SV.raw (Value.tuple (Array.mk []))),some (SV.raw (Value.tuple (Array.mk []))),some (SV.raw (Value.tuple (Array.mk []))),some (SV.raw (Value.tuple (Array.mk []))),some (SV.raw (Value.tuple (Array.mk []))),some (SV.int .i64 y2),some (SV.bool y3),some (SV.bool false),some (SV.int .i64 y4),some (SV.sl (nat_lit 1)),some (SV.int .i64 y5),some (SV.bool y6),some (SV.bool false),some (SV.sl (nat_lit 1)),some (SV.int .i64 y7),some (SV.pix (nat_lit 1) kRw y8 (nat_lit 0)),some (SV.agg [SV.int .i64 y9,SV.int .i64 y10,SV.int .i64 y11,SV.int .i64 y12,SV.int .i64 y13,SV.int .i64 y14,SV.int .i64 y15,SV.int .i64 y16,SV.int .i64 y17,SV.int .i64 y18,SV.int .i64 y19,SV.bool y20,SV.int .i64 y21,SV.int .i64 y22,SV.int .i64 y23,SV.int .i64 y24,SV.int .i64 y25,SV.int .i64 y26]),some (SV.agg [SV.int .i64 y27,SV.int .i64 y28,SV.int .i64 y29,SV.int .i64 y30,SV.int .i64 y31,SV.int .i64 y32,SV.int .i64 y33,SV.int .i64 y34,SV.int .i64 y35,SV.int .i64 y36,SV.int .i64 y37,SV.bool y38,SV.int .i64 y39,SV.int .i64 y40,SV.int .i64 y41,SV.int .i64 y42,SV.int .i64 y43,SV.int .i64 y44]),some (SV.sl (nat_lit 2)),some (SV.agg [SV.pix (nat_lit 2) kBy y45 (nat_lit 0),SV.int .i64 y46,SV.int .i64 y47,SV.int .i64 y48,SV.fn (nat_lit 57) [] [],SV.ptr (nat_lit 5) (nat_lit 0),SV.int .i64 y49,SV.int .i64 y50,SV.int .i64 y51,SV.fn (nat_lit 58) [] []]),some (SV.raw (Value.tuple (Array.mk []))),some (SV.raw (Value.tuple (Array.mk []))),some (SV.raw (Value.tuple (Array.mk []))),some (SV.raw (Value.tuple (Array.mk []))),some (SV.raw (Value.tuple (Array.mk []))),some (SV.raw (Value.tuple (Array.mk []))),some (SV.raw (Value.tuple (Array.mk []))),some (SV.raw (Value.tuple (Array.mk []))),some (SV.raw (Value.tuple (Array.mk []))),some (SV.raw (Value.tuple (Array.mk []))),some (SV.raw (Value.tuple (Array.mk []))),some (SV.raw (Value.tuple (Array.mk []))),some (SV.raw (Value.tuple (Array.mk []))),some (SV.raw (Value.tuple (Array.mk []))),some (SV.raw (Value.tuple (Array.mk []))),some (SV.raw (Value.tuple (Array.mk []))),some (SV.raw (Value.tuple (Array.mk []))),some (SV.raw (Value.tuple (Array.mk []))),some (SV.raw (Value.tuple (Array.mk []))),some (SV.raw (Value.tuple (Array.mk []))),some (SV.raw (Value.tuple (Array.mk []))),some (SV.raw (Value.tuple (Array.mk []))),some (SV.raw (Value.tuple (Array.mk []))),some (SV.raw (Value.tuple (Array.mk []))),some (SV.raw (Value.tuple (Array.mk []))),some (SV.raw (Value.tuple (Array.mk []))),some (SV.raw (Value.tuple (Array.mk []))),some (SV.raw (Value.tuple (Array.mk []))),some (SV.raw (Value.tuple (Array.mk []))),some (SV.raw (Value.tuple (Array.mk []))),some (SV.raw (Value.tuple (Array.mk []))),some (SV.raw (Value.tuple (Array.mk []))),some (SV.raw (Value.tuple (Array.mk []))),some (SV.raw (Value.tuple (Array.mk []))),some (SV.raw (Value.tuple (Array.mk []))),some (SV.raw (Value.tuple (Array.mk []))),some (SV.raw (Value.tuple (Array.mk []))),some (SV.raw (Value.tuple (Array.mk []))),some (SV.raw (Value.tuple (Array.mk []))),some (SV.raw (Value.tuple (Array.mk []))),some (SV.raw (Value.tuple (Array.mk []))),some (SV.raw (Value.tuple (Array.mk []))),some (SV.raw (Value.tuple (Array.mk []))),some (SV.raw (Value.tuple (Array.mk []))),some (SV.raw (Value.tuple (Array.mk []))),some (SV.raw (Value.tuple (Array.mk []))),some (SV.raw (Value.tuple (Array.mk []))),some (SV.raw (Value.tuple (Array.mk []))),some (SV.raw (Value.tuple (Array.mk []))),some (SV.raw (Value.tuple (Array.mk []))),some (SV.raw (Value.tuple (Array.mk []))),some (SV.raw (Value.tuple (Array.mk []))),some (SV.raw (Value.tuple (Array.mk []))),some (SV.raw (Value.tuple (Array.mk []))),some (SV.raw (Value.tuple (Array.mk []))),some (SV.raw (Value.tuple (Array.mk [])))] [.cells [SV.bool y52] (nat_lit 27),.seq kRw y53 (nat_lit 34),SObj.seq kBy y54 (nat_lit 67),.cells [SV.bool false] (nat_lit 27),.cells [SV.int .i64 y55,SV.int .i64 y56,SV.int .i64 y57,SV.int .i64 y58,SV.int .i64 y59,SV.int .i64 y60,SV.int .i64 y61,SV.int .i64 y62,SV.int .i64 y63,SV.int .i64 y64,SV.int .i64 y65,SV.bool y66,SV.int .i64 y67,SV.int .i64 y68,SV.int .i64 y69,SV.int .i64 y70,SV.int .i64 y71,SV.int .i64 y72] (nat_lit 34),SObj.cells [SV.int .i64 (1:Int),SV.int .i64 (0:Int),SV.int .i64 (0:Int),SV.int .i64 (0:Int),SV.int .i64 (0:Int),SV.int .i64 (0:Int),SV.int .i64 (0:Int),SV.int .i64 (0:Int),SV.int .i64 (0:Int),SV.int .i64 (0:Int),SV.int .i64 (0:Int),SV.int .i64 (0:Int),SV.int .i64 (0:Int),SV.int .i64 (0:Int),SV.int .i64 (0:Int),SV.int .i64 (0:Int),SV.int .i64 (0:Int),SV.int .i64 (0:Int),SV.int .i64 (0:Int),SV.int .i64 (0:Int),SV.int .i64 (0:Int),SV.int .i64 (0:Int),SV.int .i64 (0:Int),SV.raw (Value.slice none (0:Nat) (0:Nat)),SV.int .i64 (0:Int),SV.int .i64 (0:Int),SV.int .i64 (0:Int),SV.bool false,SV.int .i64 (0:Int),SV.bool false,SV.bool false] (nat_lit 67),SObj.cells [SV.pix (nat_lit 2) kBy y73 (nat_lit 0),SV.int .i64 y74,SV.int .i64 y75,SV.int .i64 y76,SV.fn (nat_lit 57) [] [],SV.ptr (nat_lit 5) (nat_lit 0),SV.int .i64 y77,SV.int .i64 y78,SV.int .i64 y79,SV.fn (nat_lit 58) [] []] (nat_lit 75)]
noncomputable abbrev rwsolve_S4 (y1 y2:Int) (y3:Bool) (y4 y5:Int) (y6:Bool) (y7:Int) (y8:Nat) (y9 y10 y11 y12 y13 y14 y15 y16 y17 y18 y19:Int) (y20:Bool) (y21 y22 y23 y24 y25 y26 y27 y28 y29 y30 y31 y32 y33 y34 y35 y36 y37:Int) (y38:Bool) (y39 y40 y41 y42 y43 y44:Int) (y45:Nat) (y46 y47 y48:Int) (y49:Nat) (y50 y51 y52:Int) (y53:Bool) (y54:List L18) (y55:List L31) (y56 y57 y58 y59 y60 y61 y62 y63 y64 y65 y66:Int) (y67:Bool) (y68 y69 y70 y71 y72 y73:Int) (y74:Nat) (y75 y76 y77:Int) (y78:Nat) (y79 y80 y81:Int):St := St.mk [some (SV.ptr (nat_lit 0) (nat_lit 0)),some (SV.sl (nat_lit 1)),some (SV.int .i64 y1),some (SV.sl (nat_lit 2)),some (SV.raw (Value.tuple (Array.mk []))),some (SV.raw (Value.tuple (Array.mk []))),some (SV.raw (Value.tuple (Array.mk []))),some (SV.raw (Value.tuple (Array.mk []))),some (SV.ptr (nat_lit 3) (nat_lit 0)),some (SV.ptr (nat_lit 4) (nat_lit 0)),some (SV.ptr (nat_lit 5) (nat_lit 0)),some (SV.raw (Value.tuple (Array.mk []))),some (SV.raw (Value.tuple (Array.mk []))),some (SV.raw (Value.tuple (Array.mk []))),some (SV.raw (Value.tuple (Array.mk []))),some (SV.raw (Value.tuple (Array.mk []))),some (SV.raw (Value.tuple (Array.mk []))),some (SV.raw (Value.tuple (Array.mk []))),some (SV.int .i64 y2),some (SV.bool y3),some (SV.bool false),some (SV.int .i64 y4),some (SV.sl (nat_lit 1)),some (SV.int .i64 y5),some (SV.bool y6),some (SV.bool false),some (SV.sl (nat_lit 1)),some (SV.int .i64 y7),some (SV.pix (nat_lit 1) kRw y8 (nat_lit 0)),some (SV.agg [SV.int .i64 y9,SV.int .i64 y10,SV.int .i64 y11,SV.int .i64 y12,SV.int .i64 y13,SV.int .i64 y14,SV.int .i64 y15,SV.int .i64 y16,SV.int .i64 y17,SV.int .i64 y18,SV.int .i64 y19,SV.bool y20,SV.int .i64 y21,SV.int .i64 y22,SV.int .i64 y23,SV.int .i64 y24,SV.int .i64 y25,SV.int .i64 y26]),some (SV.agg [SV.int .i64 y27,SV.int .i64 y28,SV.int .i64 y29,SV.int .i64 y30,SV.int .i64 y31,SV.int .i64 y32,SV.int .i64 y33,SV.int .i64 y34,SV.int .i64 y35,SV.int .i64 y36,SV.int .i64 y37,SV.bool y38,SV.int .i64 y39,SV.int .i64 y40,SV.int .i64 y41,SV.int .i64 y42,SV.int .i64 y43,SV.int .i64 y44]),some (SV.sl (nat_lit 2)),some (SV.agg [SV.pix (nat_lit 2) kBy y45 (nat_lit 0),SV.int .i64 y46,SV.int .i64 y47,SV.int .i64 y48,SV.fn (nat_lit 57) [] [],SV.pix (nat_lit 2) kBy y49 (nat_lit 0),SV.int .i64 y50,SV.int .i64 y51,SV.int .i64 y52,SV.fn (nat_lit 58) [] []]),some (SV.raw (Value.tuple (Array.mk []))),some (SV.raw (Value.tuple (Array.mk []))),some (SV.raw (Value.tuple (Array.mk []))),some (SV.raw (Value.tuple (Array.mk []))),some (SV.raw (Value.tuple (Array.mk []))),some (SV.raw (Value.tuple (Array.mk []))),some (SV.raw (Value.tuple (Array.mk []))),some (SV.raw (Value.tuple (Array.mk []))),some (SV.raw (Value.tuple (Array.mk []))),some (SV.raw (Value.tuple (Array.mk []))),some (SV.raw (Value.tuple (Array.mk []))),some (SV.raw (Value.tuple (Array.mk []))),some (SV.raw (Value.tuple (Array.mk []))),some (SV.raw (Value.tuple (Array.mk []))),some (SV.raw (Value.tuple (Array.mk []))),some (SV.raw (Value.tuple (Array.mk []))),some (SV.raw (Value.tuple (Array.mk []))),some (SV.raw (Value.tuple (Array.mk []))),some (SV.raw (Value.tuple (Array.mk []))),some (SV.raw (Value.tuple (Array.mk []))),some (SV.raw (Value.tuple (Array.mk []))),some (SV.raw (Value.tuple (Array.mk []))),some (SV.raw (Value.tuple (Array.mk []))),some (SV.raw (Value.tuple (Array.mk []))),some (SV.raw (Value.tuple (Array.mk []))),some (SV.raw (Value.tuple (Array.mk []))),some (SV.raw (Value.tuple (Array.mk []))),some (SV.raw (Value.tuple (Array.mk []))),some (SV.raw (Value.tuple (Array.mk []))),some (SV.raw (Value.tuple (Array.mk []))),some (SV.raw (Value.tuple (Array.mk []))),some (SV.raw (Value.tuple (Array.mk []))),some (SV.raw (Value.tuple (Array.mk []))),some (SV.raw (Value.tuple (Array.mk []))),some (SV.raw (Value.tuple (Array.mk []))),some (SV.raw (Value.tuple (Array.mk []))),some (SV.raw (Value.tuple (Array.mk []))),some (SV.raw (Value.tuple (Array.mk []))),some (SV.raw (Value.tuple (Array.mk []))),some (SV.raw (Value.tuple (Array.mk []))),some (SV.raw (Value.tuple (Array.mk []))),some (SV.raw (Value.tuple (Array.mk []))),some (SV.raw (Value.tuple (Array.mk []))),some (SV.raw (Value.tuple (Array.mk []))),some (SV.raw (Value.tuple (Array.mk []))),some (SV.raw (Value.tuple (Array.mk []))),some (SV.raw (Value.tuple (Array.mk []))),some (SV.raw (Value.tuple (Array.mk []))),some (SV.raw (Value.tuple (Array.mk []))),some (SV.raw (Value.tuple (Array.mk []))),some (SV.raw (Value.tuple (Array.mk []))),some (SV.raw (Value.tuple (Array.mk []))),some (SV.raw (Value.tuple (Array.mk []))),some (SV.raw (Value.tuple (Array.mk []))),some (SV.raw (Value.tuple (Array.mk []))),some (SV.raw (Value.tuple (Array.mk [])))] [.cells [SV.bool y53] (nat_lit 27),.seq kRw y54 (nat_lit 34),SObj.seq kBy y55 (nat_lit 67),.cells [SV.bool false] (nat_lit 27),.cells [SV.int .i64 y56,SV.int .i64 y57,SV.int .i64 y58,SV.int .i64 y59,SV.int .i64 y60,SV.int .i64 y61,SV.int .i64 y62,SV.int .i64 y63,SV.int .i64 y64,SV.int .i64 y65,SV.int .i64 y66,SV.bool y67,SV.int .i64 y68,SV.int .i64 y69,SV.int .i64 y70,SV.int .i64 y71,SV.int .i64 y72,SV.int .i64 y73] (nat_lit 34),SObj.cells [SV.pix (nat_lit 2) kBy y74 (nat_lit 0),SV.int .i64 y75,SV.int .i64 y76,SV.int .i64 y77,SV.fn (nat_lit 57) [] [],SV.pix (nat_lit 2) kBy y78 (nat_lit 0),SV.int .i64 y79,SV.int .i64 y80,SV.int .i64 y81,SV.fn (nat_lit 58) [] []] (nat_lit 75)]
noncomputable def M.rwsolve_a {α:Type} (bad:Bool) (rows:List L18) (n:Int) (l:List L31) (k0:Bool → List L18 → List L31 → Option α) (j0:Int → Int → Bool → Int → Int → Bool → Int → Nat → Int → Int → Int → Int → Int → Int → Int → Int → Int → Int → Int → Bool → Int → Int → Int → Int → Int → Int → Int → Int → Int → Int → Int → Int → Int → Int → Int → Int → Int → Bool → Int → Int → Int → Int → Int → Int → Int → Int → Int → Int → Int → Int → Bool → List L18 → List L31 → Int → Int → Int → Int → Int → Int → Int → Int → Int → Int → Int → Bool → Int → Int → Int → Int → Int → Int → Int → Int → Int → Int → Int → Int → Option α) (j1:Int → Int → Bool → Int → Int → Bool → Int → Nat → Int → Int → Int → Int → Int → Int → Int → Int → Int → Int → Int → Bool → Int → Int → Int → Int → Int → Int → Int → Int → Int → Int → Int → Int → Int → Int → Int → Int → Int → Bool → Int → Int → Int → Int → Int → Int → Int → Int → Int → Nat → Int → Int → Int → Bool → List L18 → List L31 → Int → Int → Int → Int → Int → Int → Int → Int → Int → Int → Int → Bool → Int → Int → Int → Int → Int → Int → Int → Int → Int → Nat → Int → Int → Int → Option α) (j2:Int → Int → Bool → Int → Int → Bool → Int → Nat → Int → Int → Int → Int → Int → Int → Int → Int → Int → Int → Int → Bool → Int → Int → Int → Int → Int → Int → Int → Int → Int → Int → Int → Int → Int → Int → Int → Int → Int → Bool → Int → Int → Int → Int → Int → Int → Nat → Int → Int → Int → Int → Int → Int → Bool → List L18 → List L31 → Int → Int → Int → Int → Int → Int → Int → Int → Int → Int → Int → Bool → Int → Int → Int → Int → Int → Int → Nat → Int → Int → Int → Int → Int → Int → Option α) (j3:Int → Int → Bool → Int → Int → Bool → Int → Nat → Int → Int → Int → Int → Int → Int → Int → Int → Int → Int → Int → Bool → Int → Int → Int → Int → Int → Int → Int → Int → Int → Int → Int → Int → Int → Int → Int → Int → Int → Bool → Int → Int → Int → Int → Int → Int → Nat → Int → Int → Int → Nat → Int → Int → Int → Bool → List L18 → List L31 → Int → Int → Int → Int → Int → Int → Int → Int → Int → Int → Int → Bool → Int → Int → Int → Int → Int → Int → Nat → Int → Int → Int → Nat → Int → Int → Int → Option α):Option α := let s319 := (↑(List.length rows):Int); let s320 := cLe s319 n; let s321 := (↑(List.length l):Int); let s322 := List.getD rows (Int.toNat n) zRw; let s323 := Prod.fst s322; let s324 := Prod.snd s322; let s325 := Int.toNat s323; let s326 := Prod.snd s324; let s327 := Prod.fst s324; let s328 := Int.toNat s327; let s329 := Prod.fst s326; let s330 := Prod.snd s326; let s331 := Prod.snd s330; let s332 := Prod.fst s330; let s333 := Prod.fst s331; let s334 := Prod.snd s331; let s335 := Prod.snd s334; let s336 := Prod.fst s334; let s337 := Prod.snd s335; let s338 := Prod.fst s335; let s339 := Prod.fst s337; let s340 := Prod.snd s337; let s341 := Prod.fst s340; let s342 := Prod.snd s340; let s343 := Prod.fst s342; let s344 := Prod.snd s342; let s345 := Prod.fst s344; let s346 := Prod.snd s344; let s347 := Prod.snd s346; let s348 := Prod.fst s346; let s349 := Prod.fst s347; let s350 := Prod.snd s347; let s351 := Prod.fst s350; let s352 := Prod.snd s350; let s353 := Prod.fst s352; let s354 := Prod.snd s352; let s355 := Prod.snd s354; let s356 := Prod.fst s354; let s357 := Prod.fst s355; let s358 := Prod.snd s355; if cLt n (0:Int) = true then k0 bad rows l else if s320 = true then k0 bad rows l else if (0:Int) ≤ n ∧ n < s319 then if cLt s323 (0:Int) = true then if cLt s327 (0:Int) = true then j0 n n (cLt n (0:Int)) n s319 s320 n (Int.toNat n) s323 s327 s329 s332 s333 s336 s338 s339 s341 s343 s345 s348 s349 s351 s353 s356 s357 s358 s323 s327 s329 s332 s333 s336 s338 s339 s341 s343 s345 s348 s349 s351 s353 s356 s357 s358 s336 s338 s339 s341 s343 s345 bad rows l s323 s327 s329 s332 s333 s336 s338 s339 s341 s343 s345 s348 s349 s351 s353 s356 s357 s358 s336 s338 s339 s341 s343 s345 else if cLe s321 s327 = true then j0 n n (cLt n (0:Int)) n s319 s320 n (Int.toNat n) s323 s327 s329 s332 s333 s336 s338 s339 s341 s343 s345 s348 s349 s351 s353 s356 s357 s358 s323 s327 s329 s332 s333 s336 s338 s339 s341 s343 s345 s348 s349 s351 s353 s356 s357 s358 s336 s338 s339 s341 s343 s345 bad rows l s323 s327 s329 s332 s333 s336 s338 s339 s341 s343 s345 s348 s349 s351 s353 s356 s357 s358 s336 s338 s339 s341 s343 s345 else if (0:Int) ≤ s327 ∧ s327 < s321 then j1 n n (cLt n (0:Int)) n s319 s320 n (Int.toNat n) s323 s327 s329 s332 s333 s336 s338 s339 s341 s343 s345 s348 s349 s351 s353 s356 s357 s358 s323 s327 s329 s332 s333 s336 s338 s339 s341 s343 s345 s348 s349 s351 s353 s356 s357 s358 s336 s338 s339 s328 s341 s343 s345 bad rows l s323 s327 s329 s332 s333 s336 s338 s339 s341 s343 s345 s348 s349 s351 s353 s356 s357 s358 s336 s338 s339 s328 s341 s343 s345 else none else if cLe s321 s323 = true then if cLt s327 (0:Int) = true then j0 n n (cLt n (0:Int)) n s319 s320 n (Int.toNat n) s323 s327 s329 s332 s333 s336 s338 s339 s341 s343 s345 s348 s349 s351 s353 s356 s357 s358 s323 s327 s329 s332 s333 s336 s338 s339 s341 s343 s345 s348 s349 s351 s353 s356 s357 s358 s336 s338 s339 s341 s343 s345 bad rows l s323 s327 s329 s332 s333 s336 s338 s339 s341 s343 s345 s348 s349 s351 s353 s356 s357 s358 s336 s338 s339 s341 s343 s345 else if cLe s321 s327 = true then j0 n n (cLt n (0:Int)) n s319 s320 n (Int.toNat n) s323 s327 s329 s332 s333 s336 s338 s339 s341 s343 s345 s348 s349 s351 s353 s356 s357 s358 s323 s327 s329 s332 s333 s336 s338 s339 s341 s343 s345 s348 s349 s351 s353 s356 s357 s358 s336 s338 s339 s341 s343 s345 bad rows l s323 s327 s329 s332 s333 s336 s338 s339 s341 s343 s345 s348 s349 s351 s353 s356 s357 s358 s336 s338 s339 s341 s343 s345 else if (0:Int) ≤ s327 ∧ s327 < s321 then j1 n n (cLt n (0:Int)) n s319 s320 n (Int.toNat n) s323 s327 s329 s332 s333 s336 s338 s339 s341 s343 s345 s348 s349 s351 s353 s356 s357 s358 s323 s327 s329 s332 s333 s336 s338 s339 s341 s343 s345 s348 s349 s351 s353 s356 s357 s358 s336 s338 s339 s328 s341 s343 s345 bad rows l s323 s327 s329 s332 s333 s336 s338 s339 s341 s343 s345 s348 s349 s351 s353 s356 s357 s358 s336 s338 s339 s328 s341 s343 s345 else none else if (0:Int) ≤ s323 ∧ s323 < s321 then if cLt s327 (0:Int) = true then j2 n n (cLt n (0:Int)) n s319 s320 n (Int.toNat n) s323 s327 s329 s332 s333 s336 s338 s339 s341 s343 s345 s348 s349 s351 s353 s356 s357 s358 s323 s327 s329 s332 s333 s336 s338 s339 s341 s343 s345 s348 s349 s351 s353 s356 s357 s358 s325 s336 s338 s339 s341 s343 s345 bad rows l s323 s327 s329 s332 s333 s336 s338 s339 s341 s343 s345 s348 s349 s351 s353 s356 s357 s358 s325 s336 s338 s339 s341 s343 s345 else if cLe s321 s327 = true then j2 n n (cLt n (0:Int)) n s319 s320 n (Int.toNat n) s323 s327 s329 s332 s333 s336 s338 s339 s341 s343 s345 s348 s349 s351 s353 s356 s357 s358 s323 s327 s329 s332 s333 s336 s338 s339 s341 s343 s345 s348 s349 s351 s353 s356 s357 s358 s325 s336 s338 s339 s341 s343 s345 bad rows l s323 s327 s329 s332 s333 s336 s338 s339 s341 s343 s345 s348 s349 s351 s353 s356 s357 s358 s325 s336 s338 s339 s341 s343 s345 else if (0:Int) ≤ s327 ∧ s327 < s321 then j3 n n (cLt n (0:Int)) n s319 s320 n (Int.toNat n) s323 s327 s329 s332 s333 s336 s338 s339 s341 s343 s345 s348 s349 s351 s353 s356 s357 s358 s323 s327 s329 s332 s333 s336 s338 s339 s341 s343 s345 s348 s349 s351 s353 s356 s357 s358 s325 s336 s338 s339 s328 s341 s343 s345 bad rows l s323 s327 s329 s332 s333 s336 s338 s339 s341 s343 s345 s348 s349 s351 s353 s356 s357 s358 s325 s336 s338 s339 s328 s341 s343 s345 else none else none else none
theorem rwsolve_a_eq {α:Type} (bad:Bool) (rows:List L18) (n:Int) (l:List L31) (J:St → Option α) (Q:SV → Hp → Option α):callCut E look_rwwish noLps 4 17 ([SV.ptr (nat_lit 0) (nat_lit 0),SV.sl (nat_lit 1),SV.int .i64 n,SV.sl (nat_lit 2)]) ([.cells [SV.bool bad] (nat_lit 27),.seq kRw rows (nat_lit 34),
 SObj.seq
   kBy
   l (nat_lit 67)]) J Q = M.rwsolve_a bad rows n l (fun (x316:Bool) (x317:List L18) (x318:List L31) => Q (SV.tup []) ([.cells [SV.bool x316] (nat_lit 27),.seq kRw x317 (nat_lit 34),
 SObj.seq
   kBy
   x318 (nat_lit 67)])) (fun (x359 x360:Int) (x361:Bool) (x362 x363:Int) (x364:Bool) (x365:Int) (x366:Nat) (x367 x368 x369 x370 x371 x372 x373 x374 x375 x376 x377:Int) (x378:Bool) (x379 x380 x381 x382 x383 x384 x385 x386 x387 x388 x389 x390 x391 x392 x393 x394 x395:Int) (x396:Bool) (x397 x398 x399 x400 x401 x402 x403 x404 x405 x406 x407 x408:Int) (x409:Bool) (x410:List L18) (x411:List L31) (x412 x413 x414 x415 x416 x417 x418 x419 x420 x421 x422:Int) (x423:Bool) (x424 x425 x426 x427 x428 x429 x430 x431 x432 x433 x434 x435:Int) => J (rwsolve_S1 x359 x360 x361 x362 x363 x364 x365 x366 x367 x368 x369 x370 x371 x372 x373 x374 x375 x376 x377 x378 x379 x380 x381 x382 x383 x384 x385 x386 x387 x388 x389 x390 x391 x392 x393 x394 x395 x396 x397 x398 x399 x400 x401 x402 x403 x404 x405 x406 x407 x408 x409 x410 x411 x412 x413 x414 x415 x416 x417 x418 x419 x420 x421 x422 x423 x424 x425 x426 x427 x428 x429 x430 x431 x432 x433 x434 x435)) (fun (x436 x437:Int) (x438:Bool) (x439 x440:Int) (x441:Bool) (x442:Int) (x443:Nat) (x444 x445 x446 x447 x448 x449 x450 x451 x452 x453 x454:Int) (x455:Bool) (x456 x457 x458 x459 x460 x461 x462 x463 x464 x465 x466 x467 x468 x469 x470 x471 x472:Int) (x473:Bool) (x474 x475 x476 x477 x478 x479 x480 x481 x482:Int) (x483:Nat) (x484 x485 x486:Int) (x487:Bool) (x488:List L18) (x489:List L31) (x490 x491 x492 x493 x494 x495 x496 x497 x498 x499 x500:Int) (x501:Bool) (x502 x503 x504 x505 x506 x507 x508 x509 x510:Int) (x511:Nat) (x512 x513 x514:Int) => J (rwsolve_S2 x436 x437 x438 x439 x440 x441 x442 x443 x444 x445 x446 x447 x448 x449 x450 x451 x452 x453 x454 x455 x456 x457 x458 x459 x460 x461 x462 x463 x464 x465 x466 x467 x468 x469 x470 x471 x472 x473 x474 x475 x476 x477 x478 x479 x480 x481 x482 x483 x484 x485 x486 x487 x488 x489 x490 x491 x492 x493 x494 x495 x496 x497 x498 x499 x500 x501 x502 x503 x504 x505 x506 x507 x508 x509 x510 x511 x512 x513 x514)) (fun (x515 x516:Int) (x517:Bool) (x518 x519:Int) (x520:Bool) (x521:Int) (x522:Nat) (x523 x524 x525 x526 x527 x528 x529 x530 x531 x532 x533:Int) (x534:Bool) (x535 x536 x537 x538 x539 x540 x541 x542 x543 x544 x545 x546 x547 x548 x549 x550 x551:Int) (x552:Bool) (x553 x554 x555 x556 x557 x558:Int) (x559:Nat) (x560 x561 x562 x563 x564 x565:Int) (x566:Bool) (x567:List L18) (x568:List L31) (x569 x570 x571 x572 x573 x574 x575 x576 x577 x578 x579:Int) (x580:Bool) (x581 x582 x583 x584 x585 x586:Int) (x587:Nat) (x588 x589 x590 x591 x592 x593:Int) => J (rwsolve_S3 x515 x516 x517 x518 x519 x520 x521 x522 x523 x524 x525 x526 x527 x528 x529 x530 x531 x532 x533 x534 x535 x536 x537 x538 x539 x540 x541 x542 x543 x544 x545 x546 x547 x548 x549 x550 x551 x552 x553 x554 x555 x556 x557 x558 x559 x560 x561 x562 x563 x564 x565 x566 x567 x568 x569 x570 x571 x572 x573 x574 x575 x576 x577 x578 x579 x580 x581 x582 x583 x584 x585 x586 x587 x588 x589 x590 x591 x592 x593)) (fun (x594 x595:Int) (x596:Bool) (x597 x598:Int) (x599:Bool) (x600:Int) (x601:Nat) (x602 x603 x604 x605 x606 x607 x608 x609 x610 x611 x612:Int) (x613:Bool) (x614 x615 x616 x617 x618 x619 x620 x621 x622 x623 x624 x625 x626 x627 x628 x629 x630:Int) (x631:Bool) (x632 x633 x634 x635 x636 x637:Int) (x638:Nat) (x639 x640 x641:Int) (x642:Nat) (x643 x644 x645:Int) (x646:Bool) (x647:List L18) (x648:List L31) (x649 x650 x651 x652 x653 x654 x655 x656 x657 x658 x659:Int) (x660:Bool) (x661 x662 x663 x664 x665 x666:Int) (x667:Nat) (x668 x669 x670:Int) (x671:Nat) (x672 x673 x674:Int) => J (rwsolve_S4 x594 x595 x596 x597 x598 x599 x600 x601 x602 x603 x604 x605 x606 x607 x608 x609 x610 x611 x612 x613 x614 x615 x616 x617 x618 x619 x620 x621 x622 x623 x624 x625 x626 x627 x628 x629 x630 x631 x632 x633 x634 x635 x636 x637 x638 x639 x640 x641 x642 x643 x644 x645 x646 x647 x648 x649 x650 x651 x652 x653 x654 x655 x656 x657 x658 x659 x660 x661 x662 x663 x664 x665 x666 x667 x668 x669 x670 x671 x672 x673 x674)) := by kernel_rfl
noncomputable def M.rwsolve_b0 {α:Type} (x0 x1:Int) (x2:Bool) (x3 x4:Int) (x5:Bool) (x6:Int) (x7:Nat) (x8 x9 x10 x11 x12 x13 x14 x15 x16 x17 x18:Int) (x19:Bool) (x20 x21 x22 x23 x24 x25 x26 x27 x28 x29 x30 x31 x32 x33 x34 x35 x36:Int) (x37:Bool) (x38 x39 x40 x41 x42 x43 x44 x45 x46 x47 x48 x49:Int) (x50:Bool) (x51:List L18) (x52:List L31) (x53 x54 x55 x56 x57 x58 x59 x60 x61 x62 x63:Int) (x64:Bool) (x65 x66 x67 x68 x69 x70 x71 x72 x73 x74 x75 x76:Int) (k0:Bool → List L18 → List L31 → Option α):Option α := let s675 := V.tScale (x55,x56,x57) (V.gv (V.mSub (V.wsh x51 x0 x52) x70)); let s676 := List.getD x51 (Int.toNat x0) zRw; let s677 := Prod.snd s676; let s678 := Prod.snd s677; let s679 := Prod.snd s678; let s680 := Prod.snd s679; let s681 := Prod.snd s680; let s682 := Prod.snd s681; let s683 := Prod.snd s682; let s684 := Prod.snd s683; let s685 := Prod.snd s684; let s686 := Prod.snd s685; let s687 := Prod.snd s686; let s688 := Prod.snd s687; let s689 := Prod.snd s688; let s690 := Prod.snd s689; let s691 := Prod.snd s690; if x64 = true then if x64 = true then if (!V.on (V.tSub ((0:Int),(0:Int),(0:Int)) (V.q3 s675)) (V.on s675 (V.gn (V.mSub (V.wsh x51 x0 x52) x70) (V.wshB x51 x0 x52 false)))) = true then if (0:Int) ≤ x0 ∧ x0 < (↑(List.length x51):Int) then k0 x50 (List.set x51 (Int.toNat x0) (Prod.fst s676,Prod.fst s677,Prod.fst s678,Prod.fst s679,Prod.fst s680,Prod.fst s681,Prod.fst s682,Prod.fst s683,Prod.fst s684,Prod.fst s685,Prod.fst s686,Prod.fst s687,Prod.fst s688,Prod.fst s689,Prod.fst s690,Prod.fst s691,Prod.fst (Prod.snd s691),V.wsh x51 x0 x52)) x52 else none else k0 true x51 x52 else if (!V.on (V.tSub ((0:Int),(0:Int),(0:Int)) (V.q3 s675)) (V.on s675 (V.gn (V.mSub (V.wsh x51 x0 x52) x70) (V.wshB x51 x0 x52 false)))) = true then if (0:Int) ≤ x0 ∧ x0 < (↑(List.length x51):Int) then k0 x50 (List.set x51 (Int.toNat x0) (Prod.fst s676,Prod.fst s677,Prod.fst s678,Prod.fst s679,Prod.fst s680,Prod.fst s681,Prod.fst s682,Prod.fst s683,Prod.fst s684,Prod.fst s685,Prod.fst s686,Prod.fst s687,Prod.fst s688,Prod.fst s689,Prod.fst s690,Prod.fst s691,Prod.fst (Prod.snd s691),V.wsh x51 x0 x52)) x52 else none else k0 true x51 x52 else if x64 = true then if (!V.on (V.tSub ((0:Int),(0:Int),(0:Int)) (V.q3 s675)) (V.on s675 (V.gn (V.mSub (V.wsh x51 x0 x52) x70) (V.wshB x51 x0 x52 false)))) = true then if (0:Int) ≤ x0 ∧ x0 < (↑(List.length x51):Int) then k0 x50 (List.set x51 (Int.toNat x0) (Prod.fst s676,Prod.fst s677,Prod.fst s678,Prod.fst s679,Prod.fst s680,Prod.fst s681,Prod.fst s682,Prod.fst s683,Prod.fst s684,Prod.fst s685,Prod.fst s686,Prod.fst s687,Prod.fst s688,Prod.fst s689,Prod.fst s690,Prod.fst s691,Prod.fst (Prod.snd s691),V.wsh x51 x0 x52)) x52 else none else k0 true x51 x52 else if (!V.on (V.tSub ((0:Int),(0:Int),(0:Int)) (V.q3 s675)) (V.on s675 (V.gn (V.mSub (V.wsh x51 x0 x52) x70) (V.wshB x51 x0 x52 false)))) = true then if (0:Int) ≤ x0 ∧ x0 < (↑(List.length x51):Int) then k0 x50 (List.set x51 (Int.toNat x0) (Prod.fst s676,Prod.fst s677,Prod.fst s678,Prod.fst s679,Prod.fst s680,Prod.fst s681,Prod.fst s682,Prod.fst s683,Prod.fst s684,Prod.fst s685,Prod.fst s686,Prod.fst s687,Prod.fst s688,Prod.fst s689,Prod.fst s690,Prod.fst s691,Prod.fst (Prod.snd s691),V.wsh x51 x0 x52)) x52 else none else k0 true x51 x52
theorem rwsolve_b0_eq {α:Type} (x0 x1:Int) (x2:Bool) (x3 x4:Int) (x5:Bool) (x6:Int) (x7:Nat) (x8 x9 x10 x11 x12 x13 x14 x15 x16 x17 x18:Int) (x19:Bool) (x20 x21 x22 x23 x24 x25 x26 x27 x28 x29 x30 x31 x32 x33 x34 x35 x36:Int) (x37:Bool) (x38 x39 x40 x41 x42 x43 x44 x45 x46 x47 x48 x49:Int) (x50:Bool) (x51:List L18) (x52:List L31) (x53 x54 x55 x56 x57 x58 x59 x60 x61 x62 x63:Int) (x64:Bool) (x65 x66 x67 x68 x69 x70 x71 x72 x73 x74 x75 x76:Int) (Q:SV → Hp → Option α):sufCut E look_rwwish noLps 4 396 17 3 (rwsolve_S1 x0 x1 x2 x3 x4 x5 x6 x7 x8 x9 x10 x11 x12 x13 x14 x15 x16 x17 x18 x19 x20 x21 x22 x23 x24 x25 x26 x27 x28 x29 x30 x31 x32 x33 x34 x35 x36 x37 x38 x39 x40 x41 x42 x43 x44 x45 x46 x47 x48 x49 x50 x51 x52 x53 x54 x55 x56 x57 x58 x59 x60 x61 x62 x63 x64 x65 x66 x67 x68 x69 x70 x71 x72 x73 x74 x75 x76) Q = M.rwsolve_b0 x0 x1 x2 x3 x4 x5 x6 x7 x8 x9 x10 x11 x12 x13 x14 x15 x16 x17 x18 x19 x20 x21 x22 x23 x24 x25 x26 x27 x28 x29 x30 x31 x32 x33 x34 x35 x36 x37 x38 x39 x40 x41 x42 x43 x44 x45 x46 x47 x48 x49 x50 x51 x52 x53 x54 x55 x56 x57 x58 x59 x60 x61 x62 x63 x64 x65 x66 x67 x68 x69 x70 x71 x72 x73 x74 x75 x76 (fun (x316:Bool) (x317:List L18) (x318:List L31) => Q (SV.tup []) ([.cells [SV.bool x316] (nat_lit 27),.seq kRw x317 (nat_lit 34),
 SObj.seq
   kBy
   x318 (nat_lit 67)])) := by kernel_rfl
noncomputable def M.rwsolve_b1 {α:Type} (x77 x78:Int) (x79:Bool) (x80 x81:Int) (x82:Bool) (x83:Int) (x84:Nat) (x85 x86 x87 x88 x89 x90 x91 x92 x93 x94 x95:Int) (x96:Bool) (x97 x98 x99 x100 x101 x102 x103 x104 x105 x106 x107 x108 x109 x110 x111 x112 x113:Int) (x114:Bool) (x115 x116 x117 x118 x119 x120 x121 x122 x123:Int) (x124:Nat) (x125 x126 x127:Int) (x128:Bool) (x129:List L18) (x130:List L31) (x131 x132 x133 x134 x135 x136 x137 x138 x139 x140 x141:Int) (x142:Bool) (x143 x144 x145 x146 x147 x148 x149 x150 x151:Int) (x152:Nat) (x153 x154 x155:Int) (k0:Bool → List L18 → List L31 → Option α):Option α := let s692 := V.tScale (x133,x134,x135) (V.gv (V.mSub (V.wsh x129 x77 x130) x148)); let s693 := V.tCross (x153,x154,x155) (V.q3 s692); let s694 := V.on s692 (V.gn (V.mSub (V.wsh x129 x77 x130) x148) (V.wshB x129 x77 x130 false)); let s695 := List.getD x129 (Int.toNat x77) zRw; let s696 := Prod.snd s695; let s697 := Prod.snd s696; let s698 := Prod.snd s697; let s699 := Prod.snd s698; let s700 := Prod.snd s699; let s701 := Prod.snd s700; let s702 := Prod.snd s701; let s703 := Prod.snd s702; let s704 := Prod.snd s703; let s705 := Prod.snd s704; let s706 := Prod.snd s705; let s707 := Prod.snd s706; let s708 := Prod.snd s707; let s709 := Prod.snd s708; let s710 := Prod.snd s709; let s711 := List.getD x130 x152 zBy; let s712 := Prod.fst s711; let s713 := Prod.snd s711; let s714 := Prod.snd s713; let s715 := Prod.snd s714; let s716 := Prod.snd s715; let s717 := Prod.snd s716; let s718 := Prod.snd s717; let s719 := Prod.snd s718; let s720 := Prod.snd s719; let s721 := Prod.fst s720; let s722 := Prod.snd s720; let s723 := Prod.fst s722; let s724 := Prod.snd s722; let s725 := Prod.fst s724; let s726 := Prod.snd s724; let s727 := Prod.snd s726; let s728 := Prod.fst s726; let s729 := Prod.snd s727; let s730 := Prod.fst s727; let s731 := Prod.snd s729; let s732 := Prod.fst s729; let s733 := Prod.snd s731; let s734 := Prod.snd s733; let s735 := Prod.snd s734; let s736 := Prod.snd s735; let s737 := Prod.snd s736; let s738 := Prod.snd s737; let s739 := Prod.snd s738; let s740 := Prod.snd s739; let s741 := Prod.snd s740; let s742 := Prod.fst s741; let s743 := V.tAdd (s721,s723,s725) (V.q3 s692); let s744 := V.tAdd (s728,s730,s732) (V.q3 s692); let s745 := V.tAdd (s728,s730,s732) (V.q3 s693); let s746 := (Prod.fst s731,Prod.fst s733,Prod.fst s734,Prod.fst s735,Prod.fst s736,Prod.fst s737,Prod.fst s738,Prod.fst s739,Prod.fst s740,(slV (Prod.fst s742),Prod.snd s742),Prod.snd s741); let s747 := (s712,Prod.fst s713,Prod.fst s714,Prod.fst s715,Prod.fst s716,Prod.fst s717,Prod.fst s718,Prod.fst s719,s721,s723,s725,s728,s730,s732,s746); let s748 := List.set x130 x152 s747; let s749 := List.set x130 x152 (s712,Prod.fst s713,Prod.fst s714,Prod.fst s715,Prod.fst s716,Prod.fst s717,Prod.fst s718,Prod.fst s719,s721,s723,s725,V.x3 s744,V.y3 s744,V.z3 s744,s746); let s750 := List.set x130 x152 (s712,Prod.fst s713,Prod.fst s714,Prod.fst s715,Prod.fst s716,Prod.fst s717,Prod.fst s718,Prod.fst s719,V.x3 s743,V.y3 s743,V.z3 s743,V.x3 s745,V.y3 s745,V.z3 s745,s746); if x142 = true then if cEq s712 (2:Int) = true then if x142 = true then if (!V.on (V.tSub ((0:Int),(0:Int),(0:Int)) (V.q3 s692)) (V.on s744 s694)) = true then if (0:Int) ≤ x77 ∧ x77 < (↑(List.length x129):Int) then k0 x128 (List.set x129 (Int.toNat x77) (Prod.fst s695,Prod.fst s696,Prod.fst s697,Prod.fst s698,Prod.fst s699,Prod.fst s700,Prod.fst s701,Prod.fst s702,Prod.fst s703,Prod.fst s704,Prod.fst s705,Prod.fst s706,Prod.fst s707,Prod.fst s708,Prod.fst s709,Prod.fst s710,Prod.fst (Prod.snd s710),V.wsh x129 x77 x130)) s749 else none else k0 true x129 (List.set s749 x152 s747) else if (!V.on (V.tSub ((0:Int),(0:Int),(0:Int)) (V.q3 s692)) (V.on s744 s694)) = true then if (0:Int) ≤ x77 ∧ x77 < (↑(List.length x129):Int) then k0 x128 (List.set x129 (Int.toNat x77) (Prod.fst s695,Prod.fst s696,Prod.fst s697,Prod.fst s698,Prod.fst s699,Prod.fst s700,Prod.fst s701,Prod.fst s702,Prod.fst s703,Prod.fst s704,Prod.fst s705,Prod.fst s706,Prod.fst s707,Prod.fst s708,Prod.fst s709,Prod.fst s710,Prod.fst (Prod.snd s710),V.wsh x129 x77 x130)) s749 else none else k0 true x129 (List.set s749 x152 s747) else if x142 = true then if (!V.on (V.tSub ((0:Int),(0:Int),(0:Int)) (V.q3 s692)) s694) = true then if (0:Int) ≤ x77 ∧ x77 < (↑(List.length x129):Int) then k0 x128 (List.set x129 (Int.toNat x77) (Prod.fst s695,Prod.fst s696,Prod.fst s697,Prod.fst s698,Prod.fst s699,Prod.fst s700,Prod.fst s701,Prod.fst s702,Prod.fst s703,Prod.fst s704,Prod.fst s705,Prod.fst s706,Prod.fst s707,Prod.fst s708,Prod.fst s709,Prod.fst s710,Prod.fst (Prod.snd s710),V.wsh x129 x77 x130)) s748 else none else k0 true x129 (List.set s748 x152 s747) else if (!V.on (V.tSub ((0:Int),(0:Int),(0:Int)) (V.q3 s692)) s694) = true then if (0:Int) ≤ x77 ∧ x77 < (↑(List.length x129):Int) then k0 x128 (List.set x129 (Int.toNat x77) (Prod.fst s695,Prod.fst s696,Prod.fst s697,Prod.fst s698,Prod.fst s699,Prod.fst s700,Prod.fst s701,Prod.fst s702,Prod.fst s703,Prod.fst s704,Prod.fst s705,Prod.fst s706,Prod.fst s707,Prod.fst s708,Prod.fst s709,Prod.fst s710,Prod.fst (Prod.snd s710),V.wsh x129 x77 x130)) s748 else none else k0 true x129 (List.set s748 x152 s747) else if cEq s712 (2:Int) = true then if x142 = true then if (!V.on (V.tSub ((0:Int),(0:Int),(0:Int)) (V.q3 s692)) (V.on s745 (V.on s693 (V.on s743 s694)))) = true then if (0:Int) ≤ x77 ∧ x77 < (↑(List.length x129):Int) then k0 x128 (List.set x129 (Int.toNat x77) (Prod.fst s695,Prod.fst s696,Prod.fst s697,Prod.fst s698,Prod.fst s699,Prod.fst s700,Prod.fst s701,Prod.fst s702,Prod.fst s703,Prod.fst s704,Prod.fst s705,Prod.fst s706,Prod.fst s707,Prod.fst s708,Prod.fst s709,Prod.fst s710,Prod.fst (Prod.snd s710),V.wsh x129 x77 x130)) s750 else none else k0 true x129 (List.set s750 x152 s747) else if (!V.on (V.tSub ((0:Int),(0:Int),(0:Int)) (V.q3 s692)) (V.on s745 (V.on s693 (V.on s743 s694)))) = true then if (0:Int) ≤ x77 ∧ x77 < (↑(List.length x129):Int) then k0 x128 (List.set x129 (Int.toNat x77) (Prod.fst s695,Prod.fst s696,Prod.fst s697,Prod.fst s698,Prod.fst s699,Prod.fst s700,Prod.fst s701,Prod.fst s702,Prod.fst s703,Prod.fst s704,Prod.fst s705,Prod.fst s706,Prod.fst s707,Prod.fst s708,Prod.fst s709,Prod.fst s710,Prod.fst (Prod.snd s710),V.wsh x129 x77 x130)) s750 else none else k0 true x129 (List.set s750 x152 s747) else if x142 = true then if (!V.on (V.tSub ((0:Int),(0:Int),(0:Int)) (V.q3 s692)) s694) = true then if (0:Int) ≤ x77 ∧ x77 < (↑(List.length x129):Int) then k0 x128 (List.set x129 (Int.toNat x77) (Prod.fst s695,Prod.fst s696,Prod.fst s697,Prod.fst s698,Prod.fst s699,Prod.fst s700,Prod.fst s701,Prod.fst s702,Prod.fst s703,Prod.fst s704,Prod.fst s705,Prod.fst s706,Prod.fst s707,Prod.fst s708,Prod.fst s709,Prod.fst s710,Prod.fst (Prod.snd s710),V.wsh x129 x77 x130)) s748 else none else k0 true x129 (List.set s748 x152 s747) else if (!V.on (V.tSub ((0:Int),(0:Int),(0:Int)) (V.q3 s692)) s694) = true then if (0:Int) ≤ x77 ∧ x77 < (↑(List.length x129):Int) then k0 x128 (List.set x129 (Int.toNat x77) (Prod.fst s695,Prod.fst s696,Prod.fst s697,Prod.fst s698,Prod.fst s699,Prod.fst s700,Prod.fst s701,Prod.fst s702,Prod.fst s703,Prod.fst s704,Prod.fst s705,Prod.fst s706,Prod.fst s707,Prod.fst s708,Prod.fst s709,Prod.fst s710,Prod.fst (Prod.snd s710),V.wsh x129 x77 x130)) s748 else none else k0 true x129 (List.set s748 x152 s747)
theorem rwsolve_b1_eq {α:Type} (x77 x78:Int) (x79:Bool) (x80 x81:Int) (x82:Bool) (x83:Int) (x84:Nat) (x85 x86 x87 x88 x89 x90 x91 x92 x93 x94 x95:Int) (x96:Bool) (x97 x98 x99 x100 x101 x102 x103 x104 x105 x106 x107 x108 x109 x110 x111 x112 x113:Int) (x114:Bool) (x115 x116 x117 x118 x119 x120 x121 x122 x123:Int) (x124:Nat) (x125 x126 x127:Int) (x128:Bool) (x129:List L18) (x130:List L31) (x131 x132 x133 x134 x135 x136 x137 x138 x139 x140 x141:Int) (x142:Bool) (x143 x144 x145 x146 x147 x148 x149 x150 x151:Int) (x152:Nat) (x153 x154 x155:Int) (Q:SV → Hp → Option α):sufCut E look_rwwish noLps 4 396 17 3 (rwsolve_S2 x77 x78 x79 x80 x81 x82 x83 x84 x85 x86 x87 x88 x89 x90 x91 x92 x93 x94 x95 x96 x97 x98 x99 x100 x101 x102 x103 x104 x105 x106 x107 x108 x109 x110 x111 x112 x113 x114 x115 x116 x117 x118 x119 x120 x121 x122 x123 x124 x125 x126 x127 x128 x129 x130 x131 x132 x133 x134 x135 x136 x137 x138 x139 x140 x141 x142 x143 x144 x145 x146 x147 x148 x149 x150 x151 x152 x153 x154 x155) Q = M.rwsolve_b1 x77 x78 x79 x80 x81 x82 x83 x84 x85 x86 x87 x88 x89 x90 x91 x92 x93 x94 x95 x96 x97 x98 x99 x100 x101 x102 x103 x104 x105 x106 x107 x108 x109 x110 x111 x112 x113 x114 x115 x116 x117 x118 x119 x120 x121 x122 x123 x124 x125 x126 x127 x128 x129 x130 x131 x132 x133 x134 x135 x136 x137 x138 x139 x140 x141 x142 x143 x144 x145 x146 x147 x148 x149 x150 x151 x152 x153 x154 x155 (fun (x316:Bool) (x317:List L18) (x318:List L31) => Q (SV.tup []) ([.cells [SV.bool x316] (nat_lit 27),.seq kRw x317 (nat_lit 34),
 SObj.seq
   kBy
   x318 (nat_lit 67)])) := by kernel_rfl
noncomputable def M.rwsolve_b2 {α:Type} (x156 x157:Int) (x158:Bool) (x159 x160:Int) (x161:Bool) (x162:Int) (x163:Nat) (x164 x165 x166 x167 x168 x169 x170 x171 x172 x173 x174:Int) (x175:Bool) (x176 x177 x178 x179 x180 x181 x182 x183 x184 x185 x186 x187 x188 x189 x190 x191 x192:Int) (x193:Bool) (x194 x195 x196 x197 x198 x199:Int) (x200:Nat) (x201 x202 x203 x204 x205 x206:Int) (x207:Bool) (x208:List L18) (x209:List L31) (x210 x211 x212 x213 x214 x215 x216 x217 x218 x219 x220:Int) (x221:Bool) (x222 x223 x224 x225 x226 x227:Int) (x228:Nat) (x229 x230 x231 x232 x233 x234:Int) (k0:Bool → List L18 → List L31 → Option α):Option α := let s751 := V.tScale (x212,x213,x214) (V.gv (V.mSub (V.wsh x208 x156 x209) x227)); let s752 := V.tSub ((0:Int),(0:Int),(0:Int)) (V.q3 s751); let s753 := V.tCross (x229,x230,x231) (V.q3 s752); let s754 := V.on s752 (V.on s751 (V.gn (V.mSub (V.wsh x208 x156 x209) x227) (V.wshB x208 x156 x209 false))); let s755 := List.getD x208 (Int.toNat x156) zRw; let s756 := Prod.snd s755; let s757 := Prod.snd s756; let s758 := Prod.snd s757; let s759 := Prod.snd s758; let s760 := Prod.snd s759; let s761 := Prod.snd s760; let s762 := Prod.snd s761; let s763 := Prod.snd s762; let s764 := Prod.snd s763; let s765 := Prod.snd s764; let s766 := Prod.snd s765; let s767 := Prod.snd s766; let s768 := Prod.snd s767; let s769 := Prod.snd s768; let s770 := Prod.snd s769; let s771 := List.getD x209 x228 zBy; let s772 := Prod.snd s771; let s773 := Prod.fst s771; let s774 := Prod.snd s772; let s775 := Prod.snd s774; let s776 := Prod.snd s775; let s777 := Prod.snd s776; let s778 := Prod.snd s777; let s779 := Prod.snd s778; let s780 := Prod.snd s779; let s781 := Prod.fst s780; let s782 := Prod.snd s780; let s783 := Prod.fst s782; let s784 := Prod.snd s782; let s785 := Prod.fst s784; let s786 := Prod.snd s784; let s787 := Prod.fst s786; let s788 := Prod.snd s786; let s789 := Prod.snd s788; let s790 := Prod.fst s788; let s791 := Prod.fst s789; let s792 := Prod.snd s789; let s793 := Prod.snd s792; let s794 := Prod.snd s793; let s795 := Prod.snd s794; let s796 := Prod.snd s795; let s797 := Prod.snd s796; let s798 := Prod.snd s797; let s799 := Prod.snd s798; let s800 := Prod.snd s799; let s801 := Prod.snd s800; let s802 := Prod.fst s801; let s803 := V.tAdd (s781,s783,s785) (V.q3 s752); let s804 := V.tAdd (s787,s790,s791) (V.q3 s752); let s805 := V.tAdd (s787,s790,s791) (V.q3 s753); let s806 := (Prod.fst s792,Prod.fst s793,Prod.fst s794,Prod.fst s795,Prod.fst s796,Prod.fst s797,Prod.fst s798,Prod.fst s799,Prod.fst s800,(slV (Prod.fst s802),Prod.snd s802),Prod.snd s801); let s807 := (s773,Prod.fst s772,Prod.fst s774,Prod.fst s775,Prod.fst s776,Prod.fst s777,Prod.fst s778,Prod.fst s779,s781,s783,s785,s787,s790,s791,s806); let s808 := List.set x209 x228 s807; let s809 := List.set x209 x228 (s773,Prod.fst s772,Prod.fst s774,Prod.fst s775,Prod.fst s776,Prod.fst s777,Prod.fst s778,Prod.fst s779,s781,s783,s785,V.x3 s804,V.y3 s804,V.z3 s804,s806); let s810 := List.set x209 x228 (s773,Prod.fst s772,Prod.fst s774,Prod.fst s775,Prod.fst s776,Prod.fst s777,Prod.fst s778,Prod.fst s779,V.x3 s803,V.y3 s803,V.z3 s803,V.x3 s805,V.y3 s805,V.z3 s805,s806); if x221 = true then if x221 = true then if cEq s773 (2:Int) = true then if (!V.on s804 s754) = true then if (0:Int) ≤ x156 ∧ x156 < (↑(List.length x208):Int) then k0 x207 (List.set x208 (Int.toNat x156) (Prod.fst s755,Prod.fst s756,Prod.fst s757,Prod.fst s758,Prod.fst s759,Prod.fst s760,Prod.fst s761,Prod.fst s762,Prod.fst s763,Prod.fst s764,Prod.fst s765,Prod.fst s766,Prod.fst s767,Prod.fst s768,Prod.fst s769,Prod.fst s770,Prod.fst (Prod.snd s770),V.wsh x208 x156 x209)) s809 else none else k0 true x208 (List.set s809 x228 s807) else if (!s754) = true then if (0:Int) ≤ x156 ∧ x156 < (↑(List.length x208):Int) then k0 x207 (List.set x208 (Int.toNat x156) (Prod.fst s755,Prod.fst s756,Prod.fst s757,Prod.fst s758,Prod.fst s759,Prod.fst s760,Prod.fst s761,Prod.fst s762,Prod.fst s763,Prod.fst s764,Prod.fst s765,Prod.fst s766,Prod.fst s767,Prod.fst s768,Prod.fst s769,Prod.fst s770,Prod.fst (Prod.snd s770),V.wsh x208 x156 x209)) s808 else none else k0 true x208 (List.set s808 x228 s807) else if cEq s773 (2:Int) = true then if (!V.on s805 (V.on s753 (V.on s803 s754))) = true then if (0:Int) ≤ x156 ∧ x156 < (↑(List.length x208):Int) then k0 x207 (List.set x208 (Int.toNat x156) (Prod.fst s755,Prod.fst s756,Prod.fst s757,Prod.fst s758,Prod.fst s759,Prod.fst s760,Prod.fst s761,Prod.fst s762,Prod.fst s763,Prod.fst s764,Prod.fst s765,Prod.fst s766,Prod.fst s767,Prod.fst s768,Prod.fst s769,Prod.fst s770,Prod.fst (Prod.snd s770),V.wsh x208 x156 x209)) s810 else none else k0 true x208 (List.set s810 x228 s807) else if (!s754) = true then if (0:Int) ≤ x156 ∧ x156 < (↑(List.length x208):Int) then k0 x207 (List.set x208 (Int.toNat x156) (Prod.fst s755,Prod.fst s756,Prod.fst s757,Prod.fst s758,Prod.fst s759,Prod.fst s760,Prod.fst s761,Prod.fst s762,Prod.fst s763,Prod.fst s764,Prod.fst s765,Prod.fst s766,Prod.fst s767,Prod.fst s768,Prod.fst s769,Prod.fst s770,Prod.fst (Prod.snd s770),V.wsh x208 x156 x209)) s808 else none else k0 true x208 (List.set s808 x228 s807) else if x221 = true then if cEq s773 (2:Int) = true then if (!V.on s804 s754) = true then if (0:Int) ≤ x156 ∧ x156 < (↑(List.length x208):Int) then k0 x207 (List.set x208 (Int.toNat x156) (Prod.fst s755,Prod.fst s756,Prod.fst s757,Prod.fst s758,Prod.fst s759,Prod.fst s760,Prod.fst s761,Prod.fst s762,Prod.fst s763,Prod.fst s764,Prod.fst s765,Prod.fst s766,Prod.fst s767,Prod.fst s768,Prod.fst s769,Prod.fst s770,Prod.fst (Prod.snd s770),V.wsh x208 x156 x209)) s809 else none else k0 true x208 (List.set s809 x228 s807) else if (!s754) = true then if (0:Int) ≤ x156 ∧ x156 < (↑(List.length x208):Int) then k0 x207 (List.set x208 (Int.toNat x156) (Prod.fst s755,Prod.fst s756,Prod.fst s757,Prod.fst s758,Prod.fst s759,Prod.fst s760,Prod.fst s761,Prod.fst s762,Prod.fst s763,Prod.fst s764,Prod.fst s765,Prod.fst s766,Prod.fst s767,Prod.fst s768,Prod.fst s769,Prod.fst s770,Prod.fst (Prod.snd s770),V.wsh x208 x156 x209)) s808 else none else k0 true x208 (List.set s808 x228 s807) else if cEq s773 (2:Int) = true then if (!V.on s805 (V.on s753 (V.on s803 s754))) = true then if (0:Int) ≤ x156 ∧ x156 < (↑(List.length x208):Int) then k0 x207 (List.set x208 (Int.toNat x156) (Prod.fst s755,Prod.fst s756,Prod.fst s757,Prod.fst s758,Prod.fst s759,Prod.fst s760,Prod.fst s761,Prod.fst s762,Prod.fst s763,Prod.fst s764,Prod.fst s765,Prod.fst s766,Prod.fst s767,Prod.fst s768,Prod.fst s769,Prod.fst s770,Prod.fst (Prod.snd s770),V.wsh x208 x156 x209)) s810 else none else k0 true x208 (List.set s810 x228 s807) else if (!s754) = true then if (0:Int) ≤ x156 ∧ x156 < (↑(List.length x208):Int) then k0 x207 (List.set x208 (Int.toNat x156) (Prod.fst s755,Prod.fst s756,Prod.fst s757,Prod.fst s758,Prod.fst s759,Prod.fst s760,Prod.fst s761,Prod.fst s762,Prod.fst s763,Prod.fst s764,Prod.fst s765,Prod.fst s766,Prod.fst s767,Prod.fst s768,Prod.fst s769,Prod.fst s770,Prod.fst (Prod.snd s770),V.wsh x208 x156 x209)) s808 else none else k0 true x208 (List.set s808 x228 s807)
theorem rwsolve_b2_eq {α:Type} (x156 x157:Int) (x158:Bool) (x159 x160:Int) (x161:Bool) (x162:Int) (x163:Nat) (x164 x165 x166 x167 x168 x169 x170 x171 x172 x173 x174:Int) (x175:Bool) (x176 x177 x178 x179 x180 x181 x182 x183 x184 x185 x186 x187 x188 x189 x190 x191 x192:Int) (x193:Bool) (x194 x195 x196 x197 x198 x199:Int) (x200:Nat) (x201 x202 x203 x204 x205 x206:Int) (x207:Bool) (x208:List L18) (x209:List L31) (x210 x211 x212 x213 x214 x215 x216 x217 x218 x219 x220:Int) (x221:Bool) (x222 x223 x224 x225 x226 x227:Int) (x228:Nat) (x229 x230 x231 x232 x233 x234:Int) (Q:SV → Hp → Option α):sufCut E look_rwwish noLps 4 396 17 3 (rwsolve_S3 x156 x157 x158 x159 x160 x161 x162 x163 x164 x165 x166 x167 x168 x169 x170 x171 x172 x173 x174 x175 x176 x177 x178 x179 x180 x181 x182 x183 x184 x185 x186 x187 x188 x189 x190 x191 x192 x193 x194 x195 x196 x197 x198 x199 x200 x201 x202 x203 x204 x205 x206 x207 x208 x209 x210 x211 x212 x213 x214 x215 x216 x217 x218 x219 x220 x221 x222 x223 x224 x225 x226 x227 x228 x229 x230 x231 x232 x233 x234) Q = M.rwsolve_b2 x156 x157 x158 x159 x160 x161 x162 x163 x164 x165 x166 x167 x168 x169 x170 x171 x172 x173 x174 x175 x176 x177 x178 x179 x180 x181 x182 x183 x184 x185 x186 x187 x188 x189 x190 x191 x192 x193 x194 x195 x196 x197 x198 x199 x200 x201 x202 x203 x204 x205 x206 x207 x208 x209 x210 x211 x212 x213 x214 x215 x216 x217 x218 x219 x220 x221 x222 x223 x224 x225 x226 x227 x228 x229 x230 x231 x232 x233 x234 (fun (x316:Bool) (x317:List L18) (x318:List L31) => Q (SV.tup []) ([.cells [SV.bool x316] (nat_lit 27),.seq kRw x317 (nat_lit 34),
 SObj.seq
   kBy
   x318 (nat_lit 67)])) := by kernel_rfl
noncomputable def M.rwsolve_b3 {α:Type} (x235 x236:Int) (x237:Bool) (x238 x239:Int) (x240:Bool) (x241:Int) (x242:Nat) (x243 x244 x245 x246 x247 x248 x249 x250 x251 x252 x253:Int) (x254:Bool) (x255 x256 x257 x258 x259 x260 x261 x262 x263 x264 x265 x266 x267 x268 x269 x270 x271:Int) (x272:Bool) (x273 x274 x275 x276 x277 x278:Int) (x279:Nat) (x280 x281 x282:Int) (x283:Nat) (x284 x285 x286:Int) (x287:Bool) (x288:List L18) (x289:List L31) (x290 x291 x292 x293 x294 x295 x296 x297 x298 x299 x300:Int) (x301:Bool) (x302 x303 x304 x305 x306 x307:Int) (x308:Nat) (x309 x310 x311:Int) (x312:Nat) (x313 x314 x315:Int) (k0:Bool → List L18 → List L31 → Option α):Option α := let s811 := V.tScale (x292,x293,x294) (V.gv (V.mSub (V.wsh x288 x235 x289) x307)); let s812 := V.tCross (x313,x314,x315) (V.q3 s811); let s813 := V.on s811 (V.gn (V.mSub (V.wsh x288 x235 x289) x307) (V.wshB x288 x235 x289 false)); let s814 := V.tSub ((0:Int),(0:Int),(0:Int)) (V.q3 s811); let s815 := V.tCross (x309,x310,x311) (V.q3 s814); let s816 := V.on s814 s813; let s817 := List.getD x288 (Int.toNat x235) zRw; let s818 := Prod.snd s817; let s819 := Prod.snd s818; let s820 := Prod.snd s819; let s821 := Prod.snd s820; let s822 := Prod.snd s821; let s823 := Prod.snd s822; let s824 := Prod.snd s823; let s825 := Prod.snd s824; let s826 := Prod.snd s825; let s827 := Prod.snd s826; let s828 := Prod.snd s827; let s829 := Prod.snd s828; let s830 := Prod.snd s829; let s831 := Prod.snd s830; let s832 := Prod.snd s831; let s833 := List.getD x289 x312 zBy; let s834 := List.getD x289 x308 zBy; let s835 := Prod.fst s833; let s836 := Prod.snd s834; let s837 := Prod.snd s833; let s838 := Prod.snd s836; let s839 := Prod.snd s837; let s840 := Prod.snd s838; let s841 := Prod.snd s839; let s842 := Prod.snd s841; let s843 := Prod.snd s840; let s844 := Prod.snd s842; let s845 := Prod.snd s843; let s846 := Prod.snd s845; let s847 := Prod.snd s844; let s848 := Prod.snd s846; let s849 := Prod.snd s847; let s850 := Prod.snd s849; let s851 := Prod.snd s848; let s852 := Prod.fst s850; let s853 := Prod.snd s851; let s854 := Prod.snd s850; let s855 := Prod.fst s854; let s856 := Prod.snd s854; let s857 := Prod.snd s853; let s858 := Prod.snd s857; let s859 := Prod.snd s856; let s860 := Prod.fst s856; let s861 := Prod.snd s858; let s862 := Prod.fst s859; let s863 := Prod.snd s859; let s864 := Prod.fst s863; let s865 := Prod.snd s861; let s866 := Prod.snd s863; let s867 := Prod.snd s865; let s868 := Prod.fst s866; let s869 := Prod.snd s866; let s870 := Prod.snd s867; let s871 := Prod.snd s869; let s872 := Prod.snd s870; let s873 := Prod.snd s871; let s874 := Prod.snd s873; let s875 := Prod.snd s872; let s876 := Prod.snd s874; let s877 := Prod.snd s875; let s878 := Prod.snd s876; let s879 := Prod.snd s877; let s880 := Prod.snd s878; let s881 := Prod.snd s879; let s882 := Prod.snd s880; let s883 := Prod.snd s881; let s884 := Prod.snd s882; let s885 := Prod.snd s883; let s886 := Prod.snd s884; let s887 := Prod.snd s885; let s888 := Prod.fst s886; let s889 := Prod.fst s887; let s890 := V.tAdd (s852,s855,s860) (V.q3 s811); let s891 := V.tAdd (s862,s864,s868) (V.q3 s811); let s892 := V.tAdd (s862,s864,s868) (V.q3 s812); let s893 := V.on s814 (V.on s891 s813); let s894 := V.on s814 (V.on s892 (V.on s812 (V.on s890 s813))); let s895 := (Prod.fst s869,Prod.fst s871,Prod.fst s873,Prod.fst s874,Prod.fst s876,Prod.fst s878,Prod.fst s880,Prod.fst s882,Prod.fst s884,(slV (Prod.fst s888),Prod.snd s888),Prod.snd s886); let s896 := (s835,Prod.fst s837,Prod.fst s839,Prod.fst s841,Prod.fst s842,Prod.fst s844,Prod.fst s847,Prod.fst s849,s852,s855,s860,s862,s864,s868,s895); let s897 := (Prod.fst s834,Prod.fst s836,Prod.fst s838,Prod.fst s840,Prod.fst s843,Prod.fst s845,Prod.fst s846,Prod.fst s848,Prod.fst s851,Prod.fst s853,Prod.fst s857,Prod.fst s858,Prod.fst s861,Prod.fst s865,Prod.fst s867,Prod.fst s870,Prod.fst s872,Prod.fst s875,Prod.fst s877,Prod.fst s879,Prod.fst s881,Prod.fst s883,Prod.fst s885,(slV (Prod.fst s889),Prod.snd s889),Prod.snd s887); let s898 := List.set x289 x312 s896; let s899 := List.getD s898 x308 zBy; let s900 := Prod.fst s899; let s901 := Prod.snd s899; let s902 := Prod.snd s901; let s903 := Prod.snd s902; let s904 := Prod.snd s903; let s905 := Prod.snd s904; let s906 := Prod.snd s905; let s907 := Prod.snd s906; let s908 := Prod.snd s907; let s909 := Prod.fst s908; let s910 := Prod.snd s908; let s911 := Prod.snd s910; let s912 := Prod.fst s910; let s913 := Prod.fst s911; let s914 := Prod.snd s911; let s915 := Prod.snd s914; let s916 := Prod.fst s914; let s917 := Prod.snd s915; let s918 := Prod.fst s915; let s919 := Prod.snd s917; let s920 := Prod.fst s917; let s921 := Prod.snd s919; let s922 := Prod.snd s921; let s923 := Prod.snd s922; let s924 := Prod.snd s923; let s925 := Prod.snd s924; let s926 := Prod.snd s925; let s927 := Prod.snd s926; let s928 := Prod.snd s927; let s929 := Prod.snd s928; let s930 := Prod.fst s929; let s931 := List.set x289 x312 (s835,Prod.fst s837,Prod.fst s839,Prod.fst s841,Prod.fst s842,Prod.fst s844,Prod.fst s847,Prod.fst s849,s852,s855,s860,V.x3 s891,V.y3 s891,V.z3 s891,s895); let s932 := List.getD s931 x308 zBy; let s933 := Prod.snd s932; let s934 := Prod.fst s932; let s935 := Prod.snd s933; let s936 := Prod.snd s935; let s937 := Prod.snd s936; let s938 := Prod.snd s937; let s939 := Prod.snd s938; let s940 := Prod.snd s939; let s941 := Prod.snd s940; let s942 := Prod.fst s941; let s943 := Prod.snd s941; let s944 := Prod.snd s943; let s945 := Prod.fst s943; let s946 := Prod.snd s944; let s947 := Prod.fst s944; let s948 := Prod.snd s946; let s949 := Prod.fst s946; let s950 := Prod.snd s948; let s951 := Prod.fst s948; let s952 := Prod.snd s950; let s953 := Prod.fst s950; let s954 := Prod.snd s952; let s955 := Prod.snd s954; let s956 := Prod.snd s955; let s957 := Prod.snd s956; let s958 := Prod.snd s957; let s959 := Prod.snd s958; let s960 := Prod.snd s959; let s961 := Prod.snd s960; let s962 := Prod.snd s961; let s963 := Prod.fst s962; let s964 := List.set x289 x312 (s835,Prod.fst s837,Prod.fst s839,Prod.fst s841,Prod.fst s842,Prod.fst s844,Prod.fst s847,Prod.fst s849,V.x3 s890,V.y3 s890,V.z3 s890,V.x3 s892,V.y3 s892,V.z3 s892,s895); let s965 := List.getD s964 x308 zBy; let s966 := Prod.snd s965; let s967 := Prod.fst s965; let s968 := Prod.snd s966; let s969 := Prod.snd s968; let s970 := Prod.snd s969; let s971 := Prod.snd s970; let s972 := Prod.snd s971; let s973 := Prod.snd s972; let s974 := Prod.snd s973; let s975 := Prod.fst s974; let s976 := Prod.snd s974; let s977 := Prod.snd s976; let s978 := Prod.fst s976; let s979 := Prod.snd s977; let s980 := Prod.fst s977; let s981 := Prod.snd s979; let s982 := Prod.fst s979; let s983 := Prod.fst s981; let s984 := Prod.snd s981; let s985 := Prod.fst s984; let s986 := Prod.snd s984; let s987 := Prod.snd s986; let s988 := Prod.snd s987; let s989 := Prod.snd s988; let s990 := Prod.snd s989; let s991 := Prod.snd s990; let s992 := Prod.snd s991; let s993 := Prod.snd s992; let s994 := Prod.snd s993; let s995 := Prod.snd s994; let s996 := Prod.fst s995; let s997 := V.tAdd (s909,s912,s913) (V.q3 s814); let s998 := V.tAdd (s916,s918,s920) (V.q3 s814); let s999 := V.tAdd (s916,s918,s920) (V.q3 s815); let s1000 := V.tAdd (s942,s945,s947) (V.q3 s814); let s1001 := V.tAdd (s949,s951,s953) (V.q3 s814); let s1002 := V.tAdd (s949,s951,s953) (V.q3 s815); let s1003 := V.tAdd (s975,s978,s980) (V.q3 s814); let s1004 := V.tAdd (s982,s983,s985) (V.q3 s814); let s1005 := V.tAdd (s982,s983,s985) (V.q3 s815); let s1006 := (Prod.fst s919,Prod.fst s921,Prod.fst s922,Prod.fst s923,Prod.fst s924,Prod.fst s925,Prod.fst s926,Prod.fst s927,Prod.fst s928,(slV (Prod.fst s930),Prod.snd s930),Prod.snd s929); let s1007 := (Prod.fst s952,Prod.fst s954,Prod.fst s955,Prod.fst s956,Prod.fst s957,Prod.fst s958,Prod.fst s959,Prod.fst s960,Prod.fst s961,(slV (Prod.fst s963),Prod.snd s963),Prod.snd s962); let s1008 := (Prod.fst s986,Prod.fst s987,Prod.fst s988,Prod.fst s989,Prod.fst s990,Prod.fst s991,Prod.fst s992,Prod.fst s993,Prod.fst s994,(slV (Prod.fst s996),Prod.snd s996),Prod.snd s995); let s1009 := List.set s898 x308 (s900,Prod.fst s901,Prod.fst s902,Prod.fst s903,Prod.fst s904,Prod.fst s905,Prod.fst s906,Prod.fst s907,s909,s912,s913,s916,s918,s920,s1006); let s1010 := List.set s898 x308 (s900,Prod.fst s901,Prod.fst s902,Prod.fst s903,Prod.fst s904,Prod.fst s905,Prod.fst s906,Prod.fst s907,s909,s912,s913,V.x3 s998,V.y3 s998,V.z3 s998,s1006); let s1011 := List.set s931 x308 (s934,Prod.fst s933,Prod.fst s935,Prod.fst s936,Prod.fst s937,Prod.fst s938,Prod.fst s939,Prod.fst s940,s942,s945,s947,s949,s951,s953,s1007); let s1012 := List.set s964 x308 (s967,Prod.fst s966,Prod.fst s968,Prod.fst s969,Prod.fst s970,Prod.fst s971,Prod.fst s972,Prod.fst s973,s975,s978,s980,s982,s983,s985,s1008); let s1013 := List.set s898 x308 (s900,Prod.fst s901,Prod.fst s902,Prod.fst s903,Prod.fst s904,Prod.fst s905,Prod.fst s906,Prod.fst s907,V.x3 s997,V.y3 s997,V.z3 s997,V.x3 s999,V.y3 s999,V.z3 s999,s1006); let s1014 := List.set s931 x308 (s934,Prod.fst s933,Prod.fst s935,Prod.fst s936,Prod.fst s937,Prod.fst s938,Prod.fst s939,Prod.fst s940,s942,s945,s947,V.x3 s1001,V.y3 s1001,V.z3 s1001,s1007); let s1015 := List.set s964 x308 (s967,Prod.fst s966,Prod.fst s968,Prod.fst s969,Prod.fst s970,Prod.fst s971,Prod.fst s972,Prod.fst s973,s975,s978,s980,V.x3 s1004,V.y3 s1004,V.z3 s1004,s1008); let s1016 := List.set s931 x308 (s934,Prod.fst s933,Prod.fst s935,Prod.fst s936,Prod.fst s937,Prod.fst s938,Prod.fst s939,Prod.fst s940,V.x3 s1000,V.y3 s1000,V.z3 s1000,V.x3 s1002,V.y3 s1002,V.z3 s1002,s1007); let s1017 := List.set s964 x308 (s967,Prod.fst s966,Prod.fst s968,Prod.fst s969,Prod.fst s970,Prod.fst s971,Prod.fst s972,Prod.fst s973,V.x3 s1003,V.y3 s1003,V.z3 s1003,V.x3 s1005,V.y3 s1005,V.z3 s1005,s1008); if x301 = true then if cEq s835 (2:Int) = true then if x301 = true then if cEq s934 (2:Int) = true then if (!V.on s1001 s893) = true then if (0:Int) ≤ x235 ∧ x235 < (↑(List.length x288):Int) then k0 x287 (List.set x288 (Int.toNat x235) (Prod.fst s817,Prod.fst s818,Prod.fst s819,Prod.fst s820,Prod.fst s821,Prod.fst s822,Prod.fst s823,Prod.fst s824,Prod.fst s825,Prod.fst s826,Prod.fst s827,Prod.fst s828,Prod.fst s829,Prod.fst s830,Prod.fst s831,Prod.fst s832,Prod.fst (Prod.snd s832),V.wsh x288 x235 x289)) s1014 else none else k0 true x288 (List.set (List.set s1014 x308 s897) x312 s896) else if (!s893) = true then if (0:Int) ≤ x235 ∧ x235 < (↑(List.length x288):Int) then k0 x287 (List.set x288 (Int.toNat x235) (Prod.fst s817,Prod.fst s818,Prod.fst s819,Prod.fst s820,Prod.fst s821,Prod.fst s822,Prod.fst s823,Prod.fst s824,Prod.fst s825,Prod.fst s826,Prod.fst s827,Prod.fst s828,Prod.fst s829,Prod.fst s830,Prod.fst s831,Prod.fst s832,Prod.fst (Prod.snd s832),V.wsh x288 x235 x289)) s1011 else none else k0 true x288 (List.set (List.set s1011 x308 s897) x312 s896) else if cEq s934 (2:Int) = true then if (!V.on s1002 (V.on s815 (V.on s1000 s893))) = true then if (0:Int) ≤ x235 ∧ x235 < (↑(List.length x288):Int) then k0 x287 (List.set x288 (Int.toNat x235) (Prod.fst s817,Prod.fst s818,Prod.fst s819,Prod.fst s820,Prod.fst s821,Prod.fst s822,Prod.fst s823,Prod.fst s824,Prod.fst s825,Prod.fst s826,Prod.fst s827,Prod.fst s828,Prod.fst s829,Prod.fst s830,Prod.fst s831,Prod.fst s832,Prod.fst (Prod.snd s832),V.wsh x288 x235 x289)) s1016 else none else k0 true x288 (List.set (List.set s1016 x308 s897) x312 s896) else if (!s893) = true then if (0:Int) ≤ x235 ∧ x235 < (↑(List.length x288):Int) then k0 x287 (List.set x288 (Int.toNat x235) (Prod.fst s817,Prod.fst s818,Prod.fst s819,Prod.fst s820,Prod.fst s821,Prod.fst s822,Prod.fst s823,Prod.fst s824,Prod.fst s825,Prod.fst s826,Prod.fst s827,Prod.fst s828,Prod.fst s829,Prod.fst s830,Prod.fst s831,Prod.fst s832,Prod.fst (Prod.snd s832),V.wsh x288 x235 x289)) s1011 else none else k0 true x288 (List.set (List.set s1011 x308 s897) x312 s896) else if x301 = true then if cEq s900 (2:Int) = true then if (!V.on s998 s816) = true then if (0:Int) ≤ x235 ∧ x235 < (↑(List.length x288):Int) then k0 x287 (List.set x288 (Int.toNat x235) (Prod.fst s817,Prod.fst s818,Prod.fst s819,Prod.fst s820,Prod.fst s821,Prod.fst s822,Prod.fst s823,Prod.fst s824,Prod.fst s825,Prod.fst s826,Prod.fst s827,Prod.fst s828,Prod.fst s829,Prod.fst s830,Prod.fst s831,Prod.fst s832,Prod.fst (Prod.snd s832),V.wsh x288 x235 x289)) s1010 else none else k0 true x288 (List.set (List.set s1010 x308 s897) x312 s896) else if (!s816) = true then if (0:Int) ≤ x235 ∧ x235 < (↑(List.length x288):Int) then k0 x287 (List.set x288 (Int.toNat x235) (Prod.fst s817,Prod.fst s818,Prod.fst s819,Prod.fst s820,Prod.fst s821,Prod.fst s822,Prod.fst s823,Prod.fst s824,Prod.fst s825,Prod.fst s826,Prod.fst s827,Prod.fst s828,Prod.fst s829,Prod.fst s830,Prod.fst s831,Prod.fst s832,Prod.fst (Prod.snd s832),V.wsh x288 x235 x289)) s1009 else none else k0 true x288 (List.set (List.set s1009 x308 s897) x312 s896) else if cEq s900 (2:Int) = true then if (!V.on s999 (V.on s815 (V.on s997 s816))) = true then if (0:Int) ≤ x235 ∧ x235 < (↑(List.length x288):Int) then k0 x287 (List.set x288 (Int.toNat x235) (Prod.fst s817,Prod.fst s818,Prod.fst s819,Prod.fst s820,Prod.fst s821,Prod.fst s822,Prod.fst s823,Prod.fst s824,Prod.fst s825,Prod.fst s826,Prod.fst s827,Prod.fst s828,Prod.fst s829,Prod.fst s830,Prod.fst s831,Prod.fst s832,Prod.fst (Prod.snd s832),V.wsh x288 x235 x289)) s1013 else none else k0 true x288 (List.set (List.set s1013 x308 s897) x312 s896) else if (!s816) = true then if (0:Int) ≤ x235 ∧ x235 < (↑(List.length x288):Int) then k0 x287 (List.set x288 (Int.toNat x235) (Prod.fst s817,Prod.fst s818,Prod.fst s819,Prod.fst s820,Prod.fst s821,Prod.fst s822,Prod.fst s823,Prod.fst s824,Prod.fst s825,Prod.fst s826,Prod.fst s827,Prod.fst s828,Prod.fst s829,Prod.fst s830,Prod.fst s831,Prod.fst s832,Prod.fst (Prod.snd s832),V.wsh x288 x235 x289)) s1009 else none else k0 true x288 (List.set (List.set s1009 x308 s897) x312 s896) else if cEq s835 (2:Int) = true then if x301 = true then if cEq s967 (2:Int) = true then if (!V.on s1004 s894) = true then if (0:Int) ≤ x235 ∧ x235 < (↑(List.length x288):Int) then k0 x287 (List.set x288 (Int.toNat x235) (Prod.fst s817,Prod.fst s818,Prod.fst s819,Prod.fst s820,Prod.fst s821,Prod.fst s822,Prod.fst s823,Prod.fst s824,Prod.fst s825,Prod.fst s826,Prod.fst s827,Prod.fst s828,Prod.fst s829,Prod.fst s830,Prod.fst s831,Prod.fst s832,Prod.fst (Prod.snd s832),V.wsh x288 x235 x289)) s1015 else none else k0 true x288 (List.set (List.set s1015 x308 s897) x312 s896) else if (!s894) = true then if (0:Int) ≤ x235 ∧ x235 < (↑(List.length x288):Int) then k0 x287 (List.set x288 (Int.toNat x235) (Prod.fst s817,Prod.fst s818,Prod.fst s819,Prod.fst s820,Prod.fst s821,Prod.fst s822,Prod.fst s823,Prod.fst s824,Prod.fst s825,Prod.fst s826,Prod.fst s827,Prod.fst s828,Prod.fst s829,Prod.fst s830,Prod.fst s831,Prod.fst s832,Prod.fst (Prod.snd s832),V.wsh x288 x235 x289)) s1012 else none else k0 true x288 (List.set (List.set s1012 x308 s897) x312 s896) else if cEq s967 (2:Int) = true then if (!V.on s1005 (V.on s815 (V.on s1003 s894))) = true then if (0:Int) ≤ x235 ∧ x235 < (↑(List.length x288):Int) then k0 x287 (List.set x288 (Int.toNat x235) (Prod.fst s817,Prod.fst s818,Prod.fst s819,Prod.fst s820,Prod.fst s821,Prod.fst s822,Prod.fst s823,Prod.fst s824,Prod.fst s825,Prod.fst s826,Prod.fst s827,Prod.fst s828,Prod.fst s829,Prod.fst s830,Prod.fst s831,Prod.fst s832,Prod.fst (Prod.snd s832),V.wsh x288 x235 x289)) s1017 else none else k0 true x288 (List.set (List.set s1017 x308 s897) x312 s896) else if (!s894) = true then if (0:Int) ≤ x235 ∧ x235 < (↑(List.length x288):Int) then k0 x287 (List.set x288 (Int.toNat x235) (Prod.fst s817,Prod.fst s818,Prod.fst s819,Prod.fst s820,Prod.fst s821,Prod.fst s822,Prod.fst s823,Prod.fst s824,Prod.fst s825,Prod.fst s826,Prod.fst s827,Prod.fst s828,Prod.fst s829,Prod.fst s830,Prod.fst s831,Prod.fst s832,Prod.fst (Prod.snd s832),V.wsh x288 x235 x289)) s1012 else none else k0 true x288 (List.set (List.set s1012 x308 s897) x312 s896) else if x301 = true then if cEq s900 (2:Int) = true then if (!V.on s998 s816) = true then if (0:Int) ≤ x235 ∧ x235 < (↑(List.length x288):Int) then k0 x287 (List.set x288 (Int.toNat x235) (Prod.fst s817,Prod.fst s818,Prod.fst s819,Prod.fst s820,Prod.fst s821,Prod.fst s822,Prod.fst s823,Prod.fst s824,Prod.fst s825,Prod.fst s826,Prod.fst s827,Prod.fst s828,Prod.fst s829,Prod.fst s830,Prod.fst s831,Prod.fst s832,Prod.fst (Prod.snd s832),V.wsh x288 x235 x289)) s1010 else none else k0 true x288 (List.set (List.set s1010 x308 s897) x312 s896) else if (!s816) = true then if (0:Int) ≤ x235 ∧ x235 < (↑(List.length x288):Int) then k0 x287 (List.set x288 (Int.toNat x235) (Prod.fst s817,Prod.fst s818,Prod.fst s819,Prod.fst s820,Prod.fst s821,Prod.fst s822,Prod.fst s823,Prod.fst s824,Prod.fst s825,Prod.fst s826,Prod.fst s827,Prod.fst s828,Prod.fst s829,Prod.fst s830,Prod.fst s831,Prod.fst s832,Prod.fst (Prod.snd s832),V.wsh x288 x235 x289)) s1009 else none else k0 true x288 (List.set (List.set s1009 x308 s897) x312 s896) else if cEq s900 (2:Int) = true then if (!V.on s999 (V.on s815 (V.on s997 s816))) = true then if (0:Int) ≤ x235 ∧ x235 < (↑(List.length x288):Int) then k0 x287 (List.set x288 (Int.toNat x235) (Prod.fst s817,Prod.fst s818,Prod.fst s819,Prod.fst s820,Prod.fst s821,Prod.fst s822,Prod.fst s823,Prod.fst s824,Prod.fst s825,Prod.fst s826,Prod.fst s827,Prod.fst s828,Prod.fst s829,Prod.fst s830,Prod.fst s831,Prod.fst s832,Prod.fst (Prod.snd s832),V.wsh x288 x235 x289)) s1013 else none else k0 true x288 (List.set (List.set s1013 x308 s897) x312 s896) else if (!s816) = true then if (0:Int) ≤ x235 ∧ x235 < (↑(List.length x288):Int) then k0 x287 (List.set x288 (Int.toNat x235) (Prod.fst s817,Prod.fst s818,Prod.fst s819,Prod.fst s820,Prod.fst s821,Prod.fst s822,Prod.fst s823,Prod.fst s824,Prod.fst s825,Prod.fst s826,Prod.fst s827,Prod.fst s828,Prod.fst s829,Prod.fst s830,Prod.fst s831,Prod.fst s832,Prod.fst (Prod.snd s832),V.wsh x288 x235 x289)) s1009 else none else k0 true x288 (List.set (List.set s1009 x308 s897) x312 s896)
theorem rwsolve_b3_eq {α:Type} (x235 x236:Int) (x237:Bool) (x238 x239:Int) (x240:Bool) (x241:Int) (x242:Nat) (x243 x244 x245 x246 x247 x248 x249 x250 x251 x252 x253:Int) (x254:Bool) (x255 x256 x257 x258 x259 x260 x261 x262 x263 x264 x265 x266 x267 x268 x269 x270 x271:Int) (x272:Bool) (x273 x274 x275 x276 x277 x278:Int) (x279:Nat) (x280 x281 x282:Int) (x283:Nat) (x284 x285 x286:Int) (x287:Bool) (x288:List L18) (x289:List L31) (x290 x291 x292 x293 x294 x295 x296 x297 x298 x299 x300:Int) (x301:Bool) (x302 x303 x304 x305 x306 x307:Int) (x308:Nat) (x309 x310 x311:Int) (x312:Nat) (x313 x314 x315:Int) (Q:SV → Hp → Option α):sufCut E look_rwwish noLps 4 396 17 3 (rwsolve_S4 x235 x236 x237 x238 x239 x240 x241 x242 x243 x244 x245 x246 x247 x248 x249 x250 x251 x252 x253 x254 x255 x256 x257 x258 x259 x260 x261 x262 x263 x264 x265 x266 x267 x268 x269 x270 x271 x272 x273 x274 x275 x276 x277 x278 x279 x280 x281 x282 x283 x284 x285 x286 x287 x288 x289 x290 x291 x292 x293 x294 x295 x296 x297 x298 x299 x300 x301 x302 x303 x304 x305 x306 x307 x308 x309 x310 x311 x312 x313 x314 x315) Q = M.rwsolve_b3 x235 x236 x237 x238 x239 x240 x241 x242 x243 x244 x245 x246 x247 x248 x249 x250 x251 x252 x253 x254 x255 x256 x257 x258 x259 x260 x261 x262 x263 x264 x265 x266 x267 x268 x269 x270 x271 x272 x273 x274 x275 x276 x277 x278 x279 x280 x281 x282 x283 x284 x285 x286 x287 x288 x289 x290 x291 x292 x293 x294 x295 x296 x297 x298 x299 x300 x301 x302 x303 x304 x305 x306 x307 x308 x309 x310 x311 x312 x313 x314 x315 (fun (x316:Bool) (x317:List L18) (x318:List L31) => Q (SV.tup []) ([.cells [SV.bool x316] (nat_lit 27),.seq kRw x317 (nat_lit 34),
 SObj.seq
   kBy
   x318 (nat_lit 67)])) := by kernel_rfl
noncomputable def M.rwsolve {α:Type} (bad:Bool) (rows:List L18) (n:Int) (l:List L31) (k0:Bool → List L18 → List L31 → Option α):Option α := M.rwsolve_a bad rows n l k0 (fun (x0 x1:Int) (x2:Bool) (x3 x4:Int) (x5:Bool) (x6:Int) (x7:Nat) (x8 x9 x10 x11 x12 x13 x14 x15 x16 x17 x18:Int) (x19:Bool) (x20 x21 x22 x23 x24 x25 x26 x27 x28 x29 x30 x31 x32 x33 x34 x35 x36:Int) (x37:Bool) (x38 x39 x40 x41 x42 x43 x44 x45 x46 x47 x48 x49:Int) (x50:Bool) (x51:List L18) (x52:List L31) (x53 x54 x55 x56 x57 x58 x59 x60 x61 x62 x63:Int) (x64:Bool) (x65 x66 x67 x68 x69 x70 x71 x72 x73 x74 x75 x76:Int) => M.rwsolve_b0 x0 x1 x2 x3 x4 x5 x6 x7 x8 x9 x10 x11 x12 x13 x14 x15 x16 x17 x18 x19 x20 x21 x22 x23 x24 x25 x26 x27 x28 x29 x30 x31 x32 x33 x34 x35 x36 x37 x38 x39 x40 x41 x42 x43 x44 x45 x46 x47 x48 x49 x50 x51 x52 x53 x54 x55 x56 x57 x58 x59 x60 x61 x62 x63 x64 x65 x66 x67 x68 x69 x70 x71 x72 x73 x74 x75 x76 k0) (fun (x77 x78:Int) (x79:Bool) (x80 x81:Int) (x82:Bool) (x83:Int) (x84:Nat) (x85 x86 x87 x88 x89 x90 x91 x92 x93 x94 x95:Int) (x96:Bool) (x97 x98 x99 x100 x101 x102 x103 x104 x105 x106 x107 x108 x109 x110 x111 x112 x113:Int) (x114:Bool) (x115 x116 x117 x118 x119 x120 x121 x122 x123:Int) (x124:Nat) (x125 x126 x127:Int) (x128:Bool) (x129:List L18) (x130:List L31) (x131 x132 x133 x134 x135 x136 x137 x138 x139 x140 x141:Int) (x142:Bool) (x143 x144 x145 x146 x147 x148 x149 x150 x151:Int) (x152:Nat) (x153 x154 x155:Int) => M.rwsolve_b1 x77 x78 x79 x80 x81 x82 x83 x84 x85 x86 x87 x88 x89 x90 x91 x92 x93 x94 x95 x96 x97 x98 x99 x100 x101 x102 x103 x104 x105 x106 x107 x108 x109 x110 x111 x112 x113 x114 x115 x116 x117 x118 x119 x120 x121 x122 x123 x124 x125 x126 x127 x128 x129 x130 x131 x132 x133 x134 x135 x136 x137 x138 x139 x140 x141 x142 x143 x144 x145 x146 x147 x148 x149 x150 x151 x152 x153 x154 x155 k0) (fun (x156 x157:Int) (x158:Bool) (x159 x160:Int) (x161:Bool) (x162:Int) (x163:Nat) (x164 x165 x166 x167 x168 x169 x170 x171 x172 x173 x174:Int) (x175:Bool) (x176 x177 x178 x179 x180 x181 x182 x183 x184 x185 x186 x187 x188 x189 x190 x191 x192:Int) (x193:Bool) (x194 x195 x196 x197 x198 x199:Int) (x200:Nat) (x201 x202 x203 x204 x205 x206:Int) (x207:Bool) (x208:List L18) (x209:List L31) (x210 x211 x212 x213 x214 x215 x216 x217 x218 x219 x220:Int) (x221:Bool) (x222 x223 x224 x225 x226 x227:Int) (x228:Nat) (x229 x230 x231 x232 x233 x234:Int) => M.rwsolve_b2 x156 x157 x158 x159 x160 x161 x162 x163 x164 x165 x166 x167 x168 x169 x170 x171 x172 x173 x174 x175 x176 x177 x178 x179 x180 x181 x182 x183 x184 x185 x186 x187 x188 x189 x190 x191 x192 x193 x194 x195 x196 x197 x198 x199 x200 x201 x202 x203 x204 x205 x206 x207 x208 x209 x210 x211 x212 x213 x214 x215 x216 x217 x218 x219 x220 x221 x222 x223 x224 x225 x226 x227 x228 x229 x230 x231 x232 x233 x234 k0) (fun (x235 x236:Int) (x237:Bool) (x238 x239:Int) (x240:Bool) (x241:Int) (x242:Nat) (x243 x244 x245 x246 x247 x248 x249 x250 x251 x252 x253:Int) (x254:Bool) (x255 x256 x257 x258 x259 x260 x261 x262 x263 x264 x265 x266 x267 x268 x269 x270 x271:Int) (x272:Bool) (x273 x274 x275 x276 x277 x278:Int) (x279:Nat) (x280 x281 x282:Int) (x283:Nat) (x284 x285 x286:Int) (x287:Bool) (x288:List L18) (x289:List L31) (x290 x291 x292 x293 x294 x295 x296 x297 x298 x299 x300:Int) (x301:Bool) (x302 x303 x304 x305 x306 x307:Int) (x308:Nat) (x309 x310 x311:Int) (x312:Nat) (x313 x314 x315:Int) => M.rwsolve_b3 x235 x236 x237 x238 x239 x240 x241 x242 x243 x244 x245 x246 x247 x248 x249 x250 x251 x252 x253 x254 x255 x256 x257 x258 x259 x260 x261 x262 x263 x264 x265 x266 x267 x268 x269 x270 x271 x272 x273 x274 x275 x276 x277 x278 x279 x280 x281 x282 x283 x284 x285 x286 x287 x288 x289 x290 x291 x292 x293 x294 x295 x296 x297 x298 x299 x300 x301 x302 x303 x304 x305 x306 x307 x308 x309 x310 x311 x312 x313 x314 x315 k0)
theorem rwsolve_eq {α:Type} (bad:Bool) (rows:List L18) (n:Int) (l:List L31) (Q:SV → Hp → Option α):callI E look_rwwish (exec E look_rwwish noLps 400) 17 ([SV.ptr (nat_lit 0) (nat_lit 0),SV.sl (nat_lit 1),SV.int .i64 n,SV.sl (nat_lit 2)]) ([.cells [SV.bool bad] (nat_lit 27),.seq kRw rows (nat_lit 34),
 SObj.seq
   kBy
   l (nat_lit 67)]) Q = M.rwsolve bad rows n l (fun (x316:Bool) (x317:List L18) (x318:List L31) => Q (SV.tup []) ([.cells [SV.bool x316] (nat_lit 27),.seq kRw x317 (nat_lit 34),
 SObj.seq
   kBy
   x318 (nat_lit 67)])) :=
 (callI_cut E (k := 4) (n := 396) (by kernel_rfl) (by kernel_rfl) (by kernel_rfl)).trans ((rwsolve_a_eq bad rows n l (fun S => sufCut E look_rwwish noLps 4 396 17 3 S Q) Q).trans (congr (congr (congr (congr (rfl:M.rwsolve_a bad rows n l (fun (x316:Bool) (x317:List L18) (x318:List L31) => Q (SV.tup []) ([.cells [SV.bool x316] (nat_lit 27),.seq kRw x317 (nat_lit 34),
 SObj.seq
   kBy
   x318 (nat_lit 67)])) = M.rwsolve_a bad rows n l (fun (x316:Bool) (x317:List L18) (x318:List L31) => Q (SV.tup []) ([.cells [SV.bool x316] (nat_lit 27),.seq kRw x317 (nat_lit 34),
 SObj.seq
   kBy
   x318 (nat_lit 67)]))) (funext fun x0 => funext fun x1 => funext fun x2 => funext fun x3 => funext fun x4 => funext fun x5 => funext fun x6 => funext fun x7 => funext fun x8 => funext fun x9 => funext fun x10 => funext fun x11 => funext fun x12 => funext fun x13 => funext fun x14 => funext fun x15 => funext fun x16 => funext fun x17 => funext fun x18 => funext fun x19 => funext fun x20 => funext fun x21 => funext fun x22 => funext fun x23 => funext fun x24 => funext fun x25 => funext fun x26 => funext fun x27 => funext fun x28 => funext fun x29 => funext fun x30 => funext fun x31 => funext fun x32 => funext fun x33 => funext fun x34 => funext fun x35 => funext fun x36 => funext fun x37 => funext fun x38 => funext fun x39 => funext fun x40 => funext fun x41 => funext fun x42 => funext fun x43 => funext fun x44 => funext fun x45 => funext fun x46 => funext fun x47 => funext fun x48 => funext fun x49 => funext fun x50 => funext fun x51 => funext fun x52 => funext fun x53 => funext fun x54 => funext fun x55 => funext fun x56 => funext fun x57 => funext fun x58 => funext fun x59 => funext fun x60 => funext fun x61 => funext fun x62 => funext fun x63 => funext fun x64 => funext fun x65 => funext fun x66 => funext fun x67 => funext fun x68 => funext fun x69 => funext fun x70 => funext fun x71 => funext fun x72 => funext fun x73 => funext fun x74 => funext fun x75 => funext fun x76 => rwsolve_b0_eq x0 x1 x2 x3 x4 x5 x6 x7 x8 x9 x10 x11 x12 x13 x14 x15 x16 x17 x18 x19 x20 x21 x22 x23 x24 x25 x26 x27 x28 x29 x30 x31 x32 x33 x34 x35 x36 x37 x38 x39 x40 x41 x42 x43 x44 x45 x46 x47 x48 x49 x50 x51 x52 x53 x54 x55 x56 x57 x58 x59 x60 x61 x62 x63 x64 x65 x66 x67 x68 x69 x70 x71 x72 x73 x74 x75 x76 Q)) (funext fun x77 => funext fun x78 => funext fun x79 => funext fun x80 => funext fun x81 => funext fun x82 => funext fun x83 => funext fun x84 => funext fun x85 => funext fun x86 => funext fun x87 => funext fun x88 => funext fun x89 => funext fun x90 => funext fun x91 => funext fun x92 => funext fun x93 => funext fun x94 => funext fun x95 => funext fun x96 => funext fun x97 => funext fun x98 => funext fun x99 => funext fun x100 => funext fun x101 => funext fun x102 => funext fun x103 => funext fun x104 => funext fun x105 => funext fun x106 => funext fun x107 => funext fun x108 => funext fun x109 => funext fun x110 => funext fun x111 => funext fun x112 => funext fun x113 => funext fun x114 => funext fun x115 => funext fun x116 => funext fun x117 => funext fun x118 => funext fun x119 => funext fun x120 => funext fun x121 => funext fun x122 => funext fun x123 => funext fun x124 => funext fun x125 => funext fun x126 => funext fun x127 => funext fun x128 => funext fun x129 => funext fun x130 => funext fun x131 => funext fun x132 => funext fun x133 => funext fun x134 => funext fun x135 => funext fun x136 => funext fun x137 => funext fun x138 => funext fun x139 => funext fun x140 => funext fun x141 => funext fun x142 => funext fun x143 => funext fun x144 => funext fun x145 => funext fun x146 => funext fun x147 => funext fun x148 => funext fun x149 => funext fun x150 => funext fun x151 => funext fun x152 => funext fun x153 => funext fun x154 => funext fun x155 => rwsolve_b1_eq x77 x78 x79 x80 x81 x82 x83 x84 x85 x86 x87 x88 x89 x90 x91 x92 x93 x94 x95 x96 x97 x98 x99 x100 x101 x102 x103 x104 x105 x106 x107 x108 x109 x110 x111 x112 x113 x114 x115 x116 x117 x118 x119 x120 x121 x122 x123 x124 x125 x126 x127 x128 x129 x130 x131 x132 x133 x134 x135 x136 x137 x138 x139 x140 x141 x142 x143 x144 x145 x146 x147 x148 x149 x150 x151 x152 x153 x154 x155 Q)) (funext fun x156 => funext fun x157 => funext fun x158 => funext fun x159 => funext fun x160 => funext fun x161 => funext fun x162 => funext fun x163 => funext fun x164 => funext fun x165 => funext fun x166 => funext fun x167 => funext fun x168 => funext fun x169 => funext fun x170 => funext fun x171 => funext fun x172 => funext fun x173 => funext fun x174 => funext fun x175 => funext fun x176 => funext fun x177 => funext fun x178 => funext fun x179 => funext fun x180 => funext fun x181 => funext fun x182 => funext fun x183 => funext fun x184 => funext fun x185 => funext fun x186 => funext fun x187 => funext fun x188 => funext fun x189 => funext fun x190 => funext fun x191 => funext fun x192 => funext fun x193 => funext fun x194 => funext fun x195 => funext fun x196 => funext fun x197 => funext fun x198 => funext fun x199 => funext fun x200 => funext fun x201 => funext fun x202 => funext fun x203 => funext fun x204 => funext fun x205 => funext fun x206 => funext fun x207 => funext fun x208 => funext fun x209 => funext fun x210 => funext fun x211 => funext fun x212 => funext fun x213 => funext fun x214 => funext fun x215 => funext fun x216 => funext fun x217 => funext fun x218 => funext fun x219 => funext fun x220 => funext fun x221 => funext fun x222 => funext fun x223 => funext fun x224 => funext fun x225 => funext fun x226 => funext fun x227 => funext fun x228 => funext fun x229 => funext fun x230 => funext fun x231 => funext fun x232 => funext fun x233 => funext fun x234 => rwsolve_b2_eq x156 x157 x158 x159 x160 x161 x162 x163 x164 x165 x166 x167 x168 x169 x170 x171 x172 x173 x174 x175 x176 x177 x178 x179 x180 x181 x182 x183 x184 x185 x186 x187 x188 x189 x190 x191 x192 x193 x194 x195 x196 x197 x198 x199 x200 x201 x202 x203 x204 x205 x206 x207 x208 x209 x210 x211 x212 x213 x214 x215 x216 x217 x218 x219 x220 x221 x222 x223 x224 x225 x226 x227 x228 x229 x230 x231 x232 x233 x234 Q)) (funext fun x235 => funext fun x236 => funext fun x237 => funext fun x238 => funext fun x239 => funext fun x240 => funext fun x241 => funext fun x242 => funext fun x243 => funext fun x244 => funext fun x245 => funext fun x246 => funext fun x247 => funext fun x248 => funext fun x249 => funext fun x250 => funext fun x251 => funext fun x252 => funext fun x253 => funext fun x254 => funext fun x255 => funext fun x256 => funext fun x257 => funext fun x258 => funext fun x259 => funext fun x260 => funext fun x261 => funext fun x262 => funext fun x263 => funext fun x264 => funext fun x265 => funext fun x266 => funext fun x267 => funext fun x268 => funext fun x269 => funext fun x270 => funext fun x271 => funext fun x272 => funext fun x273 => funext fun x274 => funext fun x275 => funext fun x276 => funext fun x277 => funext fun x278 => funext fun x279 => funext fun x280 => funext fun x281 => funext fun x282 => funext fun x283 => funext fun x284 => funext fun x285 => funext fun x286 => funext fun x287 => funext fun x288 => funext fun x289 => funext fun x290 => funext fun x291 => funext fun x292 => funext fun x293 => funext fun x294 => funext fun x295 => funext fun x296 => funext fun x297 => funext fun x298 => funext fun x299 => funext fun x300 => funext fun x301 => funext fun x302 => funext fun x303 => funext fun x304 => funext fun x305 => funext fun x306 => funext fun x307 => funext fun x308 => funext fun x309 => funext fun x310 => funext fun x311 => funext fun x312 => funext fun x313 => funext fun x314 => funext fun x315 => rwsolve_b3_eq x235 x236 x237 x238 x239 x240 x241 x242 x243 x244 x245 x246 x247 x248 x249 x250 x251 x252 x253 x254 x255 x256 x257 x258 x259 x260 x261 x262 x263 x264 x265 x266 x267 x268 x269 x270 x271 x272 x273 x274 x275 x276 x277 x278 x279 x280 x281 x282 x283 x284 x285 x286 x287 x288 x289 x290 x291 x292 x293 x294 x295 x296 x297 x298 x299 x300 x301 x302 x303 x304 x305 x306 x307 x308 x309 x310 x311 x312 x313 x314 x315 Q)))
def rwsolve_sp:List AS := [.ptr 27 [.bool false],.sl (.st (.i .i64) [.i .i64,.i .i64,.i .i64,.i .i64,.i .i64,.i .i64,.i .i64,.i .i64,.i .i64,.i .i64,.b,.i .i64,.i .i64,.i .i64,.i .i64,.i .i64,.i .i64]) 34,.val (.int .i64 0),.sl (.st (.i .i64) [.i .i64,.i .i64,.i .i64,.i .i64,.i .i64,.i .i64,.i .i64,.i .i64,.i .i64,.i .i64,.i .i64,.i .i64,.i .i64,.i .i64,.i .i64,.i .i64,.i .i64,.i .i64,.i .i64,.i .i64,.i .i64,.i .i64,.p,.i .i64,.i .i64,.i .i64,.b,.i .i64,.b,.b]) 67]
noncomputable def stepP {α:Type} (turn:Bool) (arm j:V.T3) (i:Nat) (l:List L31) (b:Bool) (K:List L31 → Bool → Option α):Option α :=
 if turn = true then (if cEq (l.getD i zBy).1 2 = true then K (l.set i ((l.getD i zBy).1,(l.getD i zBy).2.1,(l.getD i zBy).2.2.1,(l.getD i zBy).2.2.2.1,(l.getD i zBy).2.2.2.2.1,(l.getD i zBy).2.2.2.2.2.1,(l.getD i zBy).2.2.2.2.2.2.1,(l.getD i zBy).2.2.2.2.2.2.2.1,(l.getD i zBy).2.2.2.2.2.2.2.2.1,(l.getD i zBy).2.2.2.2.2.2.2.2.2.1,(l.getD i zBy).2.2.2.2.2.2.2.2.2.2.1,V.x3 (V.tAdd ((l.getD i zBy).2.2.2.2.2.2.2.2.2.2.2.1,(l.getD i zBy).2.2.2.2.2.2.2.2.2.2.2.2.1,(l.getD i zBy).2.2.2.2.2.2.2.2.2.2.2.2.2.1) j),V.y3 (V.tAdd ((l.getD i zBy).2.2.2.2.2.2.2.2.2.2.2.1,(l.getD i zBy).2.2.2.2.2.2.2.2.2.2.2.2.1,(l.getD i zBy).2.2.2.2.2.2.2.2.2.2.2.2.2.1) j),V.z3 (V.tAdd ((l.getD i zBy).2.2.2.2.2.2.2.2.2.2.2.1,(l.getD i zBy).2.2.2.2.2.2.2.2.2.2.2.2.1,(l.getD i zBy).2.2.2.2.2.2.2.2.2.2.2.2.2.1) j),(l.getD i zBy).2.2.2.2.2.2.2.2.2.2.2.2.2.2.1,(l.getD i zBy).2.2.2.2.2.2.2.2.2.2.2.2.2.2.2.1,(l.getD i zBy).2.2.2.2.2.2.2.2.2.2.2.2.2.2.2.2.1,(l.getD i zBy).2.2.2.2.2.2.2.2.2.2.2.2.2.2.2.2.2.1,(l.getD i zBy).2.2.2.2.2.2.2.2.2.2.2.2.2.2.2.2.2.2.1,(l.getD i zBy).2.2.2.2.2.2.2.2.2.2.2.2.2.2.2.2.2.2.2.1,(l.getD i zBy).2.2.2.2.2.2.2.2.2.2.2.2.2.2.2.2.2.2.2.2.1,(l.getD i zBy).2.2.2.2.2.2.2.2.2.2.2.2.2.2.2.2.2.2.2.2.2.1,(l.getD i zBy).2.2.2.2.2.2.2.2.2.2.2.2.2.2.2.2.2.2.2.2.2.2.1,(slV (l.getD i zBy).2.2.2.2.2.2.2.2.2.2.2.2.2.2.2.2.2.2.2.2.2.2.2.1.1,(l.getD i zBy).2.2.2.2.2.2.2.2.2.2.2.2.2.2.2.2.2.2.2.2.2.2.2.1.2),(l.getD i zBy).2.2.2.2.2.2.2.2.2.2.2.2.2.2.2.2.2.2.2.2.2.2.2.2.1,(l.getD i zBy).2.2.2.2.2.2.2.2.2.2.2.2.2.2.2.2.2.2.2.2.2.2.2.2.2.1,(l.getD i zBy).2.2.2.2.2.2.2.2.2.2.2.2.2.2.2.2.2.2.2.2.2.2.2.2.2.2.1,(l.getD i zBy).2.2.2.2.2.2.2.2.2.2.2.2.2.2.2.2.2.2.2.2.2.2.2.2.2.2.2.1,(l.getD i zBy).2.2.2.2.2.2.2.2.2.2.2.2.2.2.2.2.2.2.2.2.2.2.2.2.2.2.2.2.1,(l.getD i zBy).2.2.2.2.2.2.2.2.2.2.2.2.2.2.2.2.2.2.2.2.2.2.2.2.2.2.2.2.2.1,(l.getD i zBy).2.2.2.2.2.2.2.2.2.2.2.2.2.2.2.2.2.2.2.2.2.2.2.2.2.2.2.2.2.2)) (V.on (V.tAdd ((l.getD i zBy).2.2.2.2.2.2.2.2.2.2.2.1,(l.getD i zBy).2.2.2.2.2.2.2.2.2.2.2.2.1,(l.getD i zBy).2.2.2.2.2.2.2.2.2.2.2.2.2.1) j) b) else K (l.set i ((l.getD i zBy).1,(l.getD i zBy).2.1,(l.getD i zBy).2.2.1,(l.getD i zBy).2.2.2.1,(l.getD i zBy).2.2.2.2.1,(l.getD i zBy).2.2.2.2.2.1,(l.getD i zBy).2.2.2.2.2.2.1,(l.getD i zBy).2.2.2.2.2.2.2.1,(l.getD i zBy).2.2.2.2.2.2.2.2.1,(l.getD i zBy).2.2.2.2.2.2.2.2.2.1,(l.getD i zBy).2.2.2.2.2.2.2.2.2.2.1,(l.getD i zBy).2.2.2.2.2.2.2.2.2.2.2.1,(l.getD i zBy).2.2.2.2.2.2.2.2.2.2.2.2.1,(l.getD i zBy).2.2.2.2.2.2.2.2.2.2.2.2.2.1,(l.getD i zBy).2.2.2.2.2.2.2.2.2.2.2.2.2.2.1,(l.getD i zBy).2.2.2.2.2.2.2.2.2.2.2.2.2.2.2.1,(l.getD i zBy).2.2.2.2.2.2.2.2.2.2.2.2.2.2.2.2.1,(l.getD i zBy).2.2.2.2.2.2.2.2.2.2.2.2.2.2.2.2.2.1,(l.getD i zBy).2.2.2.2.2.2.2.2.2.2.2.2.2.2.2.2.2.2.1,(l.getD i zBy).2.2.2.2.2.2.2.2.2.2.2.2.2.2.2.2.2.2.2.1,(l.getD i zBy).2.2.2.2.2.2.2.2.2.2.2.2.2.2.2.2.2.2.2.2.1,(l.getD i zBy).2.2.2.2.2.2.2.2.2.2.2.2.2.2.2.2.2.2.2.2.2.1,(l.getD i zBy).2.2.2.2.2.2.2.2.2.2.2.2.2.2.2.2.2.2.2.2.2.2.1,(slV (l.getD i zBy).2.2.2.2.2.2.2.2.2.2.2.2.2.2.2.2.2.2.2.2.2.2.2.1.1,(l.getD i zBy).2.2.2.2.2.2.2.2.2.2.2.2.2.2.2.2.2.2.2.2.2.2.2.1.2),(l.getD i zBy).2.2.2.2.2.2.2.2.2.2.2.2.2.2.2.2.2.2.2.2.2.2.2.2.1,(l.getD i zBy).2.2.2.2.2.2.2.2.2.2.2.2.2.2.2.2.2.2.2.2.2.2.2.2.2.1,(l.getD i zBy).2.2.2.2.2.2.2.2.2.2.2.2.2.2.2.2.2.2.2.2.2.2.2.2.2.2.1,(l.getD i zBy).2.2.2.2.2.2.2.2.2.2.2.2.2.2.2.2.2.2.2.2.2.2.2.2.2.2.2.1,(l.getD i zBy).2.2.2.2.2.2.2.2.2.2.2.2.2.2.2.2.2.2.2.2.2.2.2.2.2.2.2.2.1,(l.getD i zBy).2.2.2.2.2.2.2.2.2.2.2.2.2.2.2.2.2.2.2.2.2.2.2.2.2.2.2.2.2.1,(l.getD i zBy).2.2.2.2.2.2.2.2.2.2.2.2.2.2.2.2.2.2.2.2.2.2.2.2.2.2.2.2.2.2)) (b)) else (if cEq (l.getD i zBy).1 2 = true then K (l.set i ((l.getD i zBy).1,(l.getD i zBy).2.1,(l.getD i zBy).2.2.1,(l.getD i zBy).2.2.2.1,(l.getD i zBy).2.2.2.2.1,(l.getD i zBy).2.2.2.2.2.1,(l.getD i zBy).2.2.2.2.2.2.1,(l.getD i zBy).2.2.2.2.2.2.2.1,V.x3 (V.tAdd ((l.getD i zBy).2.2.2.2.2.2.2.2.1,(l.getD i zBy).2.2.2.2.2.2.2.2.2.1,(l.getD i zBy).2.2.2.2.2.2.2.2.2.2.1) j),V.y3 (V.tAdd ((l.getD i zBy).2.2.2.2.2.2.2.2.1,(l.getD i zBy).2.2.2.2.2.2.2.2.2.1,(l.getD i zBy).2.2.2.2.2.2.2.2.2.2.1) j),V.z3 (V.tAdd ((l.getD i zBy).2.2.2.2.2.2.2.2.1,(l.getD i zBy).2.2.2.2.2.2.2.2.2.1,(l.getD i zBy).2.2.2.2.2.2.2.2.2.2.1) j),V.x3 (V.tAdd ((l.getD i zBy).2.2.2.2.2.2.2.2.2.2.2.1,(l.getD i zBy).2.2.2.2.2.2.2.2.2.2.2.2.1,(l.getD i zBy).2.2.2.2.2.2.2.2.2.2.2.2.2.1) (V.q3 (V.tCross arm j))),V.y3 (V.tAdd ((l.getD i zBy).2.2.2.2.2.2.2.2.2.2.2.1,(l.getD i zBy).2.2.2.2.2.2.2.2.2.2.2.2.1,(l.getD i zBy).2.2.2.2.2.2.2.2.2.2.2.2.2.1) (V.q3 (V.tCross arm j))),V.z3 (V.tAdd ((l.getD i zBy).2.2.2.2.2.2.2.2.2.2.2.1,(l.getD i zBy).2.2.2.2.2.2.2.2.2.2.2.2.1,(l.getD i zBy).2.2.2.2.2.2.2.2.2.2.2.2.2.1) (V.q3 (V.tCross arm j))),(l.getD i zBy).2.2.2.2.2.2.2.2.2.2.2.2.2.2.1,(l.getD i zBy).2.2.2.2.2.2.2.2.2.2.2.2.2.2.2.1,(l.getD i zBy).2.2.2.2.2.2.2.2.2.2.2.2.2.2.2.2.1,(l.getD i zBy).2.2.2.2.2.2.2.2.2.2.2.2.2.2.2.2.2.1,(l.getD i zBy).2.2.2.2.2.2.2.2.2.2.2.2.2.2.2.2.2.2.1,(l.getD i zBy).2.2.2.2.2.2.2.2.2.2.2.2.2.2.2.2.2.2.2.1,(l.getD i zBy).2.2.2.2.2.2.2.2.2.2.2.2.2.2.2.2.2.2.2.2.1,(l.getD i zBy).2.2.2.2.2.2.2.2.2.2.2.2.2.2.2.2.2.2.2.2.2.1,(l.getD i zBy).2.2.2.2.2.2.2.2.2.2.2.2.2.2.2.2.2.2.2.2.2.2.1,(slV (l.getD i zBy).2.2.2.2.2.2.2.2.2.2.2.2.2.2.2.2.2.2.2.2.2.2.2.1.1,(l.getD i zBy).2.2.2.2.2.2.2.2.2.2.2.2.2.2.2.2.2.2.2.2.2.2.2.1.2),(l.getD i zBy).2.2.2.2.2.2.2.2.2.2.2.2.2.2.2.2.2.2.2.2.2.2.2.2.1,(l.getD i zBy).2.2.2.2.2.2.2.2.2.2.2.2.2.2.2.2.2.2.2.2.2.2.2.2.2.1,(l.getD i zBy).2.2.2.2.2.2.2.2.2.2.2.2.2.2.2.2.2.2.2.2.2.2.2.2.2.2.1,(l.getD i zBy).2.2.2.2.2.2.2.2.2.2.2.2.2.2.2.2.2.2.2.2.2.2.2.2.2.2.2.1,(l.getD i zBy).2.2.2.2.2.2.2.2.2.2.2.2.2.2.2.2.2.2.2.2.2.2.2.2.2.2.2.2.1,(l.getD i zBy).2.2.2.2.2.2.2.2.2.2.2.2.2.2.2.2.2.2.2.2.2.2.2.2.2.2.2.2.2.1,(l.getD i zBy).2.2.2.2.2.2.2.2.2.2.2.2.2.2.2.2.2.2.2.2.2.2.2.2.2.2.2.2.2.2)) (V.on (V.tAdd ((l.getD i zBy).2.2.2.2.2.2.2.2.2.2.2.1,(l.getD i zBy).2.2.2.2.2.2.2.2.2.2.2.2.1,(l.getD i zBy).2.2.2.2.2.2.2.2.2.2.2.2.2.1) (V.q3 (V.tCross arm j))) (V.on (V.tCross arm j) (V.on (V.tAdd ((l.getD i zBy).2.2.2.2.2.2.2.2.1,(l.getD i zBy).2.2.2.2.2.2.2.2.2.1,(l.getD i zBy).2.2.2.2.2.2.2.2.2.2.1) j) b))) else K (l.set i ((l.getD i zBy).1,(l.getD i zBy).2.1,(l.getD i zBy).2.2.1,(l.getD i zBy).2.2.2.1,(l.getD i zBy).2.2.2.2.1,(l.getD i zBy).2.2.2.2.2.1,(l.getD i zBy).2.2.2.2.2.2.1,(l.getD i zBy).2.2.2.2.2.2.2.1,(l.getD i zBy).2.2.2.2.2.2.2.2.1,(l.getD i zBy).2.2.2.2.2.2.2.2.2.1,(l.getD i zBy).2.2.2.2.2.2.2.2.2.2.1,(l.getD i zBy).2.2.2.2.2.2.2.2.2.2.2.1,(l.getD i zBy).2.2.2.2.2.2.2.2.2.2.2.2.1,(l.getD i zBy).2.2.2.2.2.2.2.2.2.2.2.2.2.1,(l.getD i zBy).2.2.2.2.2.2.2.2.2.2.2.2.2.2.1,(l.getD i zBy).2.2.2.2.2.2.2.2.2.2.2.2.2.2.2.1,(l.getD i zBy).2.2.2.2.2.2.2.2.2.2.2.2.2.2.2.2.1,(l.getD i zBy).2.2.2.2.2.2.2.2.2.2.2.2.2.2.2.2.2.1,(l.getD i zBy).2.2.2.2.2.2.2.2.2.2.2.2.2.2.2.2.2.2.1,(l.getD i zBy).2.2.2.2.2.2.2.2.2.2.2.2.2.2.2.2.2.2.2.1,(l.getD i zBy).2.2.2.2.2.2.2.2.2.2.2.2.2.2.2.2.2.2.2.2.1,(l.getD i zBy).2.2.2.2.2.2.2.2.2.2.2.2.2.2.2.2.2.2.2.2.2.1,(l.getD i zBy).2.2.2.2.2.2.2.2.2.2.2.2.2.2.2.2.2.2.2.2.2.2.1,(slV (l.getD i zBy).2.2.2.2.2.2.2.2.2.2.2.2.2.2.2.2.2.2.2.2.2.2.2.1.1,(l.getD i zBy).2.2.2.2.2.2.2.2.2.2.2.2.2.2.2.2.2.2.2.2.2.2.2.1.2),(l.getD i zBy).2.2.2.2.2.2.2.2.2.2.2.2.2.2.2.2.2.2.2.2.2.2.2.2.1,(l.getD i zBy).2.2.2.2.2.2.2.2.2.2.2.2.2.2.2.2.2.2.2.2.2.2.2.2.2.1,(l.getD i zBy).2.2.2.2.2.2.2.2.2.2.2.2.2.2.2.2.2.2.2.2.2.2.2.2.2.2.1,(l.getD i zBy).2.2.2.2.2.2.2.2.2.2.2.2.2.2.2.2.2.2.2.2.2.2.2.2.2.2.2.1,(l.getD i zBy).2.2.2.2.2.2.2.2.2.2.2.2.2.2.2.2.2.2.2.2.2.2.2.2.2.2.2.2.1,(l.getD i zBy).2.2.2.2.2.2.2.2.2.2.2.2.2.2.2.2.2.2.2.2.2.2.2.2.2.2.2.2.2.1,(l.getD i zBy).2.2.2.2.2.2.2.2.2.2.2.2.2.2.2.2.2.2.2.2.2.2.2.2.2.2.2.2.2.2)) (b))
def stepN {α:Type} (turn:Bool) (l:List L31) (b:Bool) (K:List L31 → Bool → Option α):Option α := if turn = true then K l b else K l b
noncomputable def endP {α:Type} (i:Int) (l:List L31) (a b:Option α):Option α := if cLt i 0 = true then a else if cLe (l.length:Int) i = true then a else if 0 ≤ i ∧ i < (l.length:Int) then b else none
noncomputable def finP {α:Type} (bad:Bool) (rows:List L18) (n:Int) (l:List L31) (k0:Bool → List L18 → List L31 → Option α) (lr l2:List L31) (b:Bool):Option α := if (!b) = true then (if 0 ≤ n ∧ n < (rows.length:Int) then k0 bad (rows.set n.toNat ((rows.getD n.toNat zRw).1,(rows.getD n.toNat zRw).2.1,(rows.getD n.toNat zRw).2.2.1,(rows.getD n.toNat zRw).2.2.2.1,(rows.getD n.toNat zRw).2.2.2.2.1,(rows.getD n.toNat zRw).2.2.2.2.2.1,(rows.getD n.toNat zRw).2.2.2.2.2.2.1,(rows.getD n.toNat zRw).2.2.2.2.2.2.2.1,(rows.getD n.toNat zRw).2.2.2.2.2.2.2.2.1,(rows.getD n.toNat zRw).2.2.2.2.2.2.2.2.2.1,(rows.getD n.toNat zRw).2.2.2.2.2.2.2.2.2.2.1,(rows.getD n.toNat zRw).2.2.2.2.2.2.2.2.2.2.2.1,(rows.getD n.toNat zRw).2.2.2.2.2.2.2.2.2.2.2.2.1,(rows.getD n.toNat zRw).2.2.2.2.2.2.2.2.2.2.2.2.2.1,(rows.getD n.toNat zRw).2.2.2.2.2.2.2.2.2.2.2.2.2.2.1,(rows.getD n.toNat zRw).2.2.2.2.2.2.2.2.2.2.2.2.2.2.2.1,(rows.getD n.toNat zRw).2.2.2.2.2.2.2.2.2.2.2.2.2.2.2.2.1,V.wsh rows n l)) l2 else none) else k0 true rows lr
noncomputable def _root_.Go.Proofs.YtfkgmidgdpfnkaaGreat.V.slP (rows:List L18) (n:Int) (l:List L31):Bool := V.on (V.slJ rows n l) (V.gn (V.slD rows n l) (V.wshB rows n l false))
theorem rwsolve_w {α:Type} (bad:Bool) (rows:List L18) (n:Int) (l:List L31) (k0:Bool → List L18 → List L31 → Option α):M.rwsolve bad rows n l k0 =
   (if cLt n 0 = true then k0 bad rows l else if cLe (rows.length:Int) n = true then k0 bad rows l else if 0 ≤ n ∧ n < (rows.length:Int) then
     endP (rows.getD n.toNat zRw).1 l (endP (rows.getD n.toNat zRw).2.1 l (stepN (rows.getD n.toNat zRw).2.2.2.2.2.2.2.2.2.2.2.1 l (V.slP rows n l) fun l1 b1 => stepN (rows.getD n.toNat zRw).2.2.2.2.2.2.2.2.2.2.2.1 l1 (V.on (V.slK rows n l) b1) fun l2 b2 => finP bad rows n l k0 (l2) l2 b2) (stepP (rows.getD n.toNat zRw).2.2.2.2.2.2.2.2.2.2.2.1 ((rows.getD n.toNat zRw).2.2.2.2.2.2.2.2.1,(rows.getD n.toNat zRw).2.2.2.2.2.2.2.2.2.1,(rows.getD n.toNat zRw).2.2.2.2.2.2.2.2.2.2.1) (V.q3 (V.slJ rows n l)) (rows.getD n.toNat zRw).2.1.toNat l (V.slP rows n l) fun l1 b1 => stepN (rows.getD n.toNat zRw).2.2.2.2.2.2.2.2.2.2.2.1 l1 (V.on (V.slK rows n l) b1) fun l2 b2 => finP bad rows n l k0 (l2.set (rows.getD n.toNat zRw).2.1.toNat (nB (l.getD (rows.getD n.toNat zRw).2.1.toNat zBy))) l2 b2)) (endP (rows.getD n.toNat zRw).2.1 l (stepN (rows.getD n.toNat zRw).2.2.2.2.2.2.2.2.2.2.2.1 l (V.slP rows n l) fun l1 b1 => stepP (rows.getD n.toNat zRw).2.2.2.2.2.2.2.2.2.2.2.1 ((rows.getD n.toNat zRw).2.2.2.2.2.1,(rows.getD n.toNat zRw).2.2.2.2.2.2.1,(rows.getD n.toNat zRw).2.2.2.2.2.2.2.1) (V.q3 (V.slK rows n l)) (rows.getD n.toNat zRw).1.toNat l1 (V.on (V.slK rows n l) b1) fun l2 b2 => finP bad rows n l k0 (l2.set (rows.getD n.toNat zRw).1.toNat (nB (l.getD (rows.getD n.toNat zRw).1.toNat zBy))) l2 b2) (stepP (rows.getD n.toNat zRw).2.2.2.2.2.2.2.2.2.2.2.1 ((rows.getD n.toNat zRw).2.2.2.2.2.2.2.2.1,(rows.getD n.toNat zRw).2.2.2.2.2.2.2.2.2.1,(rows.getD n.toNat zRw).2.2.2.2.2.2.2.2.2.2.1) (V.q3 (V.slJ rows n l)) (rows.getD n.toNat zRw).2.1.toNat l (V.slP rows n l) fun l1 b1 => stepP (rows.getD n.toNat zRw).2.2.2.2.2.2.2.2.2.2.2.1 ((rows.getD n.toNat zRw).2.2.2.2.2.1,(rows.getD n.toNat zRw).2.2.2.2.2.2.1,(rows.getD n.toNat zRw).2.2.2.2.2.2.2.1) (V.q3 (V.slK rows n l)) (rows.getD n.toNat zRw).1.toNat l1 (V.on (V.slK rows n l) b1) fun l2 b2 => finP bad rows n l k0 ((l2.set (rows.getD n.toNat zRw).1.toNat (nB (l.getD (rows.getD n.toNat zRw).1.toNat zBy))).set (rows.getD n.toNat zRw).2.1.toNat (nB (l.getD (rows.getD n.toNat zRw).2.1.toNat zBy))) l2 b2)) else none) := by kernel_rfl
theorem stepP_val {α:Type} (turn:Bool) (arm j:V.T3) (i:Nat) (l:List L31) (b:Bool) (K:List L31 → Bool → Option α):stepP turn arm j i l b K = K (l.set i (V.psh turn arm j (l.getD i zBy))) (V.pshB turn arm j (l.getD i zBy) b) := by
 unfold stepP V.psh V.pshB nB
 cases turn <;> cases cEq (l.getD i zBy).1 2 <;> rfl
theorem stepN_val {α:Type} (turn:Bool) (l:List L31) (b:Bool) (K:List L31 → Bool → Option α):stepN turn l b K = K l b := by unfold stepN; cases turn <;> rfl
theorem on_comm {β γ:Type} (o:Option β) (q:Option γ) (b:Bool):V.on o (V.on q b) = V.on q (V.on o b) := by unfold V.on; cases o <;> cases q <;> cases b <;> rfl
theorem pshB_on {β:Type} (o:Option β) (turn:Bool) (arm j:V.T3) (x:L31) (b:Bool):V.pshB turn arm j x (V.on o b) = V.on o (V.pshB turn arm j x b) := by
 unfold V.pshB
 split
 · split
   · exact on_comm _ _ _
   · rw [on_comm _ o,on_comm _ o,on_comm _ o]
 · rfl
theorem stpB_on {β:Type} (o:Option β) (turn:Bool) (arm j:V.T3) (i:Int) (l:List L31) (b:Bool):V.stpB turn arm j i l (V.on o b) = V.on o (V.stpB turn arm j i l b) := by
 unfold V.stpB
 split
 · exact pshB_on o turn arm j _ b
 · rfl
theorem endP_in {α:Type} {i:Int} {l:List L31} (h:0 ≤ i ∧ i < (l.length:Int)) (a b:Option α):endP i l a b = b := by
 have h1:¬ cLt i 0 = true := by rw [cLt_eq]; simp; omega
 have h2:¬ cLe (l.length:Int) i = true := by rw [cLe_eq]; simp; omega
 unfold endP
 rw [if_neg h1,if_neg h2,if_pos h]
theorem endP_out {α:Type} {i:Int} {l:List L31} (h:¬ (0 ≤ i ∧ i < (l.length:Int))) (a b:Option α):endP i l a b = a := by
 unfold endP
 by_cases h1:cLt i 0 = true
 · rw [if_pos h1]
 · have h2 : cLe (l.length : Int) i = true := by
     rw [cLt_eq] at h1; rw [cLe_eq]; simp at h1 ⊢; omega
   rw [if_neg h1,if_pos h2]
def NrB (x:L31):Prop := slV x.2.2.2.2.2.2.2.2.2.2.2.2.2.2.2.2.2.2.2.2.2.2.2.1.1 = x.2.2.2.2.2.2.2.2.2.2.2.2.2.2.2.2.2.2.2.2.2.2.2.1.1
theorem slV_slV (v:Value):slV (slV v) = slV v := by
 obtain ⟨a,n,c,e⟩ := slV_slice v
 rw [e]; rfl
theorem nB_eq {x:L31} (h:NrB x):nB x = x := by
 unfold NrB at h
 unfold nB
 rw [h]
theorem NrB_nB (x:L31):NrB (nB x) := slV_slV _
theorem NrB_psh (turn:Bool) (arm j:V.T3) (x:L31):NrB (V.psh turn arm j x) := by
 unfold V.psh
 split
 · split <;> exact slV_slV _
 · exact NrB_nB x
noncomputable def _root_.Go.Proofs.YtfkgmidgdpfnkaaGreat.V.nrB (l:List L31):Bool := hidR (@decide (∀ x ∈ l,NrB x) (Classical.propDecidable _))
theorem nrB_iff {l:List L31}:V.nrB l = true ↔ ∀ x ∈ l,NrB x := by unfold V.nrB; rw [hidR_eq]; simp
theorem set_nB {l:List L31} (h:∀ x ∈ l,NrB x) {i:Nat} (hi:i < l.length):nB (l.getD i zBy) = l[i] := by
 rw [List.getD_eq_getElem?_getD,List.getElem?_eq_getElem hi]
 exact nB_eq (h _ (List.getElem_mem hi))
theorem back1 {τ:Type} (l:List τ) (i:Nat) (hi:i < l.length) (y:τ):(l.set i y).set i l[i] = l := by
 apply List.ext_getElem (by simp)
 intro k h1 h2
 simp only [List.getElem_set]
 split
 · rename_i e; subst e; rfl
 · rfl
theorem back2 {τ:Type} (l:List τ) (i j:Nat) (hi:i < l.length) (hj:j < l.length) (y z:τ):(((l.set i y).set j z).set j l[j]).set i l[i] = l := by
 apply List.ext_getElem (by simp)
 intro k h1 h2
 simp only [List.getElem_set]
 split
 · rename_i e; subst e; rfl
 · split
   · rename_i e; subst e; rfl
   · rfl
theorem rwsolve_v {α:Type} (bad:Bool) (rows:List L18) (n:Int) (l:List L31) (hg:V.nrB l = true) (k0:Bool → List L18 → List L31 → Option α):M.rwsolve bad rows n l k0 = k0 (V.slvB rows n l bad) (V.slvR rows n l) (V.slvL rows n l) := by
 rw [rwsolve_w]
 have hn' := nrB_iff.1 hg
 unfold V.slvB V.slvR V.slvL
 by_cases hn:0 ≤ n ∧ n < (rows.length:Int)
 · have h1 : ¬ cLt n 0 = true := by rw [cLt_eq]; simp; omega
   have h2:¬ cLe (rows.length:Int) n = true := by rw [cLe_eq]; simp; omega
   rw [if_neg h1,if_neg h2]
   simp only [if_pos hn,stepP_val,stepN_val]
   have hf:∀ (lr:List L31),lr = l → finP bad rows n l k0 lr (V.sl2 rows n l) (V.slX rows n l) = k0 (if V.slX rows n l = true then true else bad) (if V.slX rows n l = true then rows else rows.set n.toNat ((rows.getD n.toNat zRw).1,(rows.getD n.toNat zRw).2.1,(rows.getD n.toNat zRw).2.2.1,(rows.getD n.toNat zRw).2.2.2.1,(rows.getD n.toNat zRw).2.2.2.2.1,(rows.getD n.toNat zRw).2.2.2.2.2.1,(rows.getD n.toNat zRw).2.2.2.2.2.2.1,(rows.getD n.toNat zRw).2.2.2.2.2.2.2.1,(rows.getD n.toNat zRw).2.2.2.2.2.2.2.2.1,(rows.getD n.toNat zRw).2.2.2.2.2.2.2.2.2.1,(rows.getD n.toNat zRw).2.2.2.2.2.2.2.2.2.2.1,(rows.getD n.toNat zRw).2.2.2.2.2.2.2.2.2.2.2.1,(rows.getD n.toNat zRw).2.2.2.2.2.2.2.2.2.2.2.2.1,(rows.getD n.toNat zRw).2.2.2.2.2.2.2.2.2.2.2.2.2.1,(rows.getD n.toNat zRw).2.2.2.2.2.2.2.2.2.2.2.2.2.2.1,(rows.getD n.toNat zRw).2.2.2.2.2.2.2.2.2.2.2.2.2.2.2.1,(rows.getD n.toNat zRw).2.2.2.2.2.2.2.2.2.2.2.2.2.2.2.2.1,V.wsh rows n l)) (if V.slX rows n l = true then l else V.sl2 rows n l) := by
     intro lr e
     unfold finP
     rw [if_pos hn,e]
     cases V.slX rows n l <;> rfl
   have hx:V.slX rows n l = V.stpB (rows.getD n.toNat zRw).2.2.2.2.2.2.2.2.2.2.2.1 ((rows.getD n.toNat zRw).2.2.2.2.2.1,(rows.getD n.toNat zRw).2.2.2.2.2.2.1,(rows.getD n.toNat zRw).2.2.2.2.2.2.2.1) (V.q3 (V.slK rows n l)) (rows.getD n.toNat zRw).1 (V.sl1 rows n l) (V.on (V.slK rows n l) (V.stpB (rows.getD n.toNat zRw).2.2.2.2.2.2.2.2.2.2.2.1 ((rows.getD n.toNat zRw).2.2.2.2.2.2.2.2.1,(rows.getD n.toNat zRw).2.2.2.2.2.2.2.2.2.1,(rows.getD n.toNat zRw).2.2.2.2.2.2.2.2.2.2.1) (V.q3 (V.slJ rows n l)) (rows.getD n.toNat zRw).2.1 l (V.slP rows n l))) := by
     unfold V.slX V.sl0
     rw [stpB_on]
     rfl
   by_cases ha:0 ≤ (rows.getD n.toNat zRw).1 ∧ (rows.getD n.toNat zRw).1 < (l.length:Int)
   · by_cases hb : 0 ≤ (rows.getD n.toNat zRw).2.1 ∧ (rows.getD n.toNat zRw).2.1 < (l.length : Int)
     · rw [endP_in ha, endP_in hb]
       have e1:V.sl1 rows n l = l.set (rows.getD n.toNat zRw).2.1.toNat (V.psh (rows.getD n.toNat zRw).2.2.2.2.2.2.2.2.2.2.2.1 ((rows.getD n.toNat zRw).2.2.2.2.2.2.2.2.1,(rows.getD n.toNat zRw).2.2.2.2.2.2.2.2.2.1,(rows.getD n.toNat zRw).2.2.2.2.2.2.2.2.2.2.1) (V.q3 (V.slJ rows n l)) (l.getD (rows.getD n.toNat zRw).2.1.toNat zBy)) := by unfold V.sl1 V.stp; rw [if_pos hb]
       have ha':0 ≤ (rows.getD n.toNat zRw).1 ∧ (rows.getD n.toNat zRw).1 < ((V.sl1 rows n l).length:Int) := by rw [e1,List.length_set]; exact ha
       have e2:V.sl2 rows n l = (V.sl1 rows n l).set (rows.getD n.toNat zRw).1.toNat (V.psh (rows.getD n.toNat zRw).2.2.2.2.2.2.2.2.2.2.2.1 ((rows.getD n.toNat zRw).2.2.2.2.2.1,(rows.getD n.toNat zRw).2.2.2.2.2.2.1,(rows.getD n.toNat zRw).2.2.2.2.2.2.2.1) (V.q3 (V.slK rows n l)) ((V.sl1 rows n l).getD (rows.getD n.toNat zRw).1.toNat zBy)) := by unfold V.sl2 V.stp; rw [if_pos ha']
       have e3:V.slX rows n l = V.pshB (rows.getD n.toNat zRw).2.2.2.2.2.2.2.2.2.2.2.1 ((rows.getD n.toNat zRw).2.2.2.2.2.1,(rows.getD n.toNat zRw).2.2.2.2.2.2.1,(rows.getD n.toNat zRw).2.2.2.2.2.2.2.1) (V.q3 (V.slK rows n l)) ((V.sl1 rows n l).getD (rows.getD n.toNat zRw).1.toNat zBy) (V.on (V.slK rows n l) (V.pshB (rows.getD n.toNat zRw).2.2.2.2.2.2.2.2.2.2.2.1 ((rows.getD n.toNat zRw).2.2.2.2.2.2.2.2.1,(rows.getD n.toNat zRw).2.2.2.2.2.2.2.2.2.1,(rows.getD n.toNat zRw).2.2.2.2.2.2.2.2.2.2.1) (V.q3 (V.slJ rows n l)) (l.getD (rows.getD n.toNat zRw).2.1.toNat zBy) (V.slP rows n l))) := by
         rw [hx]; unfold V.stpB; rw [if_pos ha',if_pos hb]
       rw [← hf ((V.sl2 rows n l).set (rows.getD n.toNat zRw).1.toNat (nB (l.getD (rows.getD n.toNat zRw).1.toNat zBy)) |>.set (rows.getD n.toNat zRw).2.1.toNat (nB (l.getD (rows.getD n.toNat zRw).2.1.toNat zBy))) (by
         rw [e2,e1,set_nB hn' (show (rows.getD n.toNat zRw).1.toNat < l.length by omega),set_nB hn' (show (rows.getD n.toNat zRw).2.1.toNat < l.length by omega)]
         exact back2 l _ _ _ _ _ _),e3,e2,e1]
     · rw [endP_in ha, endP_out hb]
       have e1:V.sl1 rows n l = l := by unfold V.sl1 V.stp; rw [if_neg hb]
       have e2:V.sl2 rows n l = l.set (rows.getD n.toNat zRw).1.toNat (V.psh (rows.getD n.toNat zRw).2.2.2.2.2.2.2.2.2.2.2.1 ((rows.getD n.toNat zRw).2.2.2.2.2.1,(rows.getD n.toNat zRw).2.2.2.2.2.2.1,(rows.getD n.toNat zRw).2.2.2.2.2.2.2.1) (V.q3 (V.slK rows n l)) (l.getD (rows.getD n.toNat zRw).1.toNat zBy)) := by unfold V.sl2 V.stp; rw [e1,if_pos ha]
       have e3:V.slX rows n l = V.pshB (rows.getD n.toNat zRw).2.2.2.2.2.2.2.2.2.2.2.1 ((rows.getD n.toNat zRw).2.2.2.2.2.1,(rows.getD n.toNat zRw).2.2.2.2.2.2.1,(rows.getD n.toNat zRw).2.2.2.2.2.2.2.1) (V.q3 (V.slK rows n l)) (l.getD (rows.getD n.toNat zRw).1.toNat zBy) (V.on (V.slK rows n l) (V.slP rows n l)) := by
         rw [hx,e1]; unfold V.stpB; rw [if_pos ha,if_neg hb]
       rw [← hf ((V.sl2 rows n l).set (rows.getD n.toNat zRw).1.toNat (nB (l.getD (rows.getD n.toNat zRw).1.toNat zBy))) (by
         rw [e2,set_nB hn' (show (rows.getD n.toNat zRw).1.toNat < l.length by omega)]
         exact back1 l _ _ _),e3,e2]
   · by_cases hb : 0 ≤ (rows.getD n.toNat zRw).2.1 ∧ (rows.getD n.toNat zRw).2.1 < (l.length : Int)
     · rw [endP_out ha, endP_in hb]
       have e1:V.sl1 rows n l = l.set (rows.getD n.toNat zRw).2.1.toNat (V.psh (rows.getD n.toNat zRw).2.2.2.2.2.2.2.2.2.2.2.1 ((rows.getD n.toNat zRw).2.2.2.2.2.2.2.2.1,(rows.getD n.toNat zRw).2.2.2.2.2.2.2.2.2.1,(rows.getD n.toNat zRw).2.2.2.2.2.2.2.2.2.2.1) (V.q3 (V.slJ rows n l)) (l.getD (rows.getD n.toNat zRw).2.1.toNat zBy)) := by unfold V.sl1 V.stp; rw [if_pos hb]
       have ha':¬ (0 ≤ (rows.getD n.toNat zRw).1 ∧ (rows.getD n.toNat zRw).1 < ((V.sl1 rows n l).length:Int)) := by rw [e1,List.length_set]; exact ha
       have e2:V.sl2 rows n l = V.sl1 rows n l := by unfold V.sl2 V.stp; rw [if_neg ha']
       have e3:V.slX rows n l = V.on (V.slK rows n l) (V.pshB (rows.getD n.toNat zRw).2.2.2.2.2.2.2.2.2.2.2.1 ((rows.getD n.toNat zRw).2.2.2.2.2.2.2.2.1,(rows.getD n.toNat zRw).2.2.2.2.2.2.2.2.2.1,(rows.getD n.toNat zRw).2.2.2.2.2.2.2.2.2.2.1) (V.q3 (V.slJ rows n l)) (l.getD (rows.getD n.toNat zRw).2.1.toNat zBy) (V.slP rows n l)) := by
         rw [hx]; unfold V.stpB; rw [if_neg ha',if_pos hb]
       rw [← hf ((V.sl2 rows n l).set (rows.getD n.toNat zRw).2.1.toNat (nB (l.getD (rows.getD n.toNat zRw).2.1.toNat zBy))) (by
         rw [e2,e1,set_nB hn' (show (rows.getD n.toNat zRw).2.1.toNat < l.length by omega)]
         exact back1 l _ _ _),e3,e2,e1]
     · rw [endP_out ha, endP_out hb]
       have e1:V.sl1 rows n l = l := by unfold V.sl1 V.stp; rw [if_neg hb]
       have e2:V.sl2 rows n l = l := by unfold V.sl2 V.stp; rw [e1,if_neg ha]
       have e3:V.slX rows n l = V.on (V.slK rows n l) (V.slP rows n l) := by
         rw [hx,e1]; unfold V.stpB; rw [if_neg ha,if_neg hb]
       rw [← hf (V.sl2 rows n l) e2,e3,e2]
 · simp only [if_neg hn]
   by_cases h1:cLt n 0 = true
   · rw [if_pos h1]
   · have h2 : cLe (rows.length : Int) n = true := by
       rw [cLt_eq] at h1; rw [cLe_eq]; simp at h1 ⊢; omega
     rw [if_neg h1,if_pos h2]
noncomputable def rwsolve_h {α:Type} (ds:List D) (Q:SV → Hp → Option α):Option α :=
 dB ds fun bad ds => dL kRw ds fun rows ds => dI ds fun n ds => dL kBy ds fun l ds => dE ds (if V.nrB l = true then Q (.tup []) ([.cells [.bool (V.slvB rows n l bad)] 27,.seq kRw (V.slvR rows n l) 34,.seq kBy (V.slvL rows n l) 67]) else none)
theorem rwsolve_h_ok {α:Type}:FnOk E.P 17 (fEnt (α := α) rwsolve_sp rwsolve_h) :=
 fEnt_ok E (look_rwwish_ok) (exec_sound E E_ok (look_rwwish_ok) (noLps_ok _) 400) fun ds Q r h => by
   unfold rwsolve_h at h
   obtain ⟨bad,ds,rfl,h1⟩ := dB_inv h
   obtain ⟨rows,ds,rfl,h2⟩ := dL_inv h1
   obtain ⟨n,ds,rfl,h3⟩ := dI_inv h2
   obtain ⟨l,ds,rfl,h4⟩ := dL_inv h3
   obtain ⟨rfl,hE⟩ := dE_inv h4
   split at hE
   · rename_i hg
     exact ⟨[SV.ptr (nat_lit 0) (nat_lit 0),SV.sl (nat_lit 1),SV.int .i64 n,SV.sl (nat_lit 2)],[.cells [SV.bool bad] (nat_lit 27),.seq kRw rows (nat_lit 34),
 SObj.seq
   kBy
   l (nat_lit 67)],fun vs => by kernel_rfl,(rwsolve_eq bad rows n l Q).trans ((rwsolve_v bad rows n l hg _).trans hE)⟩
   · cases hE
noncomputable def look_rwsolve {α:Type}:LookF α := addFn 17 (fEnt rwsolve_sp rwsolve_h) look_rwwish
theorem look_rwsolve_ok {α:Type}:LookOk E.P (look_rwsolve (α := α)) := addFn_ok rwsolve_h_ok (look_rwwish_ok)
end
section
open Go
set_option maxRecDepth 20000
noncomputable def M.rawake {α:Type} (k0:Bool → Option α):Option α := if V.nrB [((2:Int),(0:Int),(0:Int),(0:Int),(4294967296:Int),(0:Int),(0:Int),(0:Int),(8589934592:Int),(0:Int),(0:Int),(0:Int),(0:Int),(0:Int),(4294967296:Int),(4294967296:Int),(4294967296:Int),(4294967296:Int),(0:Int),(0:Int),(0:Int),(0:Int),(0:Int),(Value.slice none (0:Nat) (0:Nat),[]),(0:Int),(0:Int),(0:Int),false,(0:Int),false,false)] = true then if cEq (V.rate ((4294967296:Int),(0:Int),(0:Int)) (Prod.fst (Prod.snd (Prod.snd (Prod.snd (Prod.snd (Prod.snd (Prod.snd (Prod.snd (Prod.snd (Prod.snd (Prod.snd (Prod.snd (List.getD [((0:Int),(-1:Int),(4294967296:Int),(0:Int),(0:Int),(0:Int),(0:Int),(0:Int),(0:Int),(0:Int),(0:Int),false,(0:Int),(0:Int),(38654705664:Int),(-1:Int),(0:Int),(0:Int))] (0:Nat) zRw))))))))))))) ((0:Int),(0:Int),(0:Int)) ((0:Int),(0:Int),(0:Int)) (V.bAt [((2:Int),(0:Int),(0:Int),(0:Int),(4294967296:Int),(0:Int),(0:Int),(0:Int),(8589934592:Int),(0:Int),(0:Int),(0:Int),(0:Int),(0:Int),(4294967296:Int),(4294967296:Int),(4294967296:Int),(4294967296:Int),(0:Int),(0:Int),(0:Int),(0:Int),(0:Int),(Value.slice none (0:Nat) (0:Nat),[]),(0:Int),(0:Int),(0:Int),false,(0:Int),false,false)] (0:Int)) (V.bAt [((2:Int),(0:Int),(0:Int),(0:Int),(4294967296:Int),(0:Int),(0:Int),(0:Int),(8589934592:Int),(0:Int),(0:Int),(0:Int),(0:Int),(0:Int),(4294967296:Int),(4294967296:Int),(4294967296:Int),(4294967296:Int),(0:Int),(0:Int),(0:Int),(0:Int),(0:Int),(Value.slice none (0:Nat) (0:Nat),[]),(0:Int),(0:Int),(0:Int),false,(0:Int),false,false)] (-1:Int))) (-8589934592:Int) = true then if cEq (V.wgt ((4294967296:Int),(0:Int),(0:Int)) (Prod.fst (Prod.snd (Prod.snd (Prod.snd (Prod.snd (Prod.snd (Prod.snd (Prod.snd (Prod.snd (Prod.snd (Prod.snd (Prod.snd (List.getD [((0:Int),(-1:Int),(4294967296:Int),(0:Int),(0:Int),(0:Int),(0:Int),(0:Int),(0:Int),(0:Int),(0:Int),false,(0:Int),(0:Int),(38654705664:Int),(-1:Int),(0:Int),(0:Int))] (0:Nat) zRw))))))))))))) ((0:Int),(0:Int),(0:Int)) ((0:Int),(0:Int),(0:Int)) (V.bAt [((2:Int),(0:Int),(0:Int),(0:Int),(4294967296:Int),(0:Int),(0:Int),(0:Int),(8589934592:Int),(0:Int),(0:Int),(0:Int),(0:Int),(0:Int),(4294967296:Int),(4294967296:Int),(4294967296:Int),(4294967296:Int),(0:Int),(0:Int),(0:Int),(0:Int),(0:Int),(Value.slice none (0:Nat) (0:Nat),[]),(0:Int),(0:Int),(0:Int),false,(0:Int),false,false)] (0:Int)) (V.bAt [((2:Int),(0:Int),(0:Int),(0:Int),(4294967296:Int),(0:Int),(0:Int),(0:Int),(8589934592:Int),(0:Int),(0:Int),(0:Int),(0:Int),(0:Int),(4294967296:Int),(4294967296:Int),(4294967296:Int),(4294967296:Int),(0:Int),(0:Int),(0:Int),(0:Int),(0:Int),(Value.slice none (0:Nat) (0:Nat),[]),(0:Int),(0:Int),(0:Int),false,(0:Int),false,false)] (-1:Int))) (4294967296:Int) = true then if (0:Int) ≤ (0:Int) ∧ (0:Int) < (↑(List.length (V.slvL [((0:Int),(-1:Int),(4294967296:Int),(0:Int),(0:Int),(0:Int),(0:Int),(0:Int),(0:Int),(0:Int),(0:Int),false,(0:Int),(0:Int),(38654705664:Int),(-1:Int),(0:Int),(0:Int))] (0:Int) [((2:Int),(0:Int),(0:Int),(0:Int),(4294967296:Int),(0:Int),(0:Int),(0:Int),(8589934592:Int),(0:Int),(0:Int),(0:Int),(0:Int),(0:Int),(4294967296:Int),(4294967296:Int),(4294967296:Int),(4294967296:Int),(0:Int),(0:Int),(0:Int),(0:Int),(0:Int),(Value.slice none (0:Nat) (0:Nat),[]),(0:Int),(0:Int),(0:Int),false,(0:Int),false,false)])):Int) then if (cEq (Prod.fst (Prod.snd (Prod.snd (Prod.snd (Prod.snd (Prod.snd (Prod.snd (Prod.snd (Prod.snd (List.getD (V.slvL [((0:Int),(-1:Int),(4294967296:Int),(0:Int),(0:Int),(0:Int),(0:Int),(0:Int),(0:Int),(0:Int),(0:Int),false,(0:Int),(0:Int),(38654705664:Int),(-1:Int),(0:Int),(0:Int))] (0:Int) [((2:Int),(0:Int),(0:Int),(0:Int),(4294967296:Int),(0:Int),(0:Int),(0:Int),(8589934592:Int),(0:Int),(0:Int),(0:Int),(0:Int),(0:Int),(4294967296:Int),(4294967296:Int),(4294967296:Int),(4294967296:Int),(0:Int),(0:Int),(0:Int),(0:Int),(0:Int),(Value.slice none (0:Nat) (0:Nat),[]),(0:Int),(0:Int),(0:Int),false,(0:Int),false,false)]) (0:Nat) zBy)))))))))) (0:Int) && (cEq (Prod.fst (Prod.snd (Prod.snd (Prod.snd (Prod.snd (Prod.snd (Prod.snd (Prod.snd (Prod.snd (Prod.snd (List.getD (V.slvL [((0:Int),(-1:Int),(4294967296:Int),(0:Int),(0:Int),(0:Int),(0:Int),(0:Int),(0:Int),(0:Int),(0:Int),false,(0:Int),(0:Int),(38654705664:Int),(-1:Int),(0:Int),(0:Int))] (0:Int) [((2:Int),(0:Int),(0:Int),(0:Int),(4294967296:Int),(0:Int),(0:Int),(0:Int),(8589934592:Int),(0:Int),(0:Int),(0:Int),(0:Int),(0:Int),(4294967296:Int),(4294967296:Int),(4294967296:Int),(4294967296:Int),(0:Int),(0:Int),(0:Int),(0:Int),(0:Int),(Value.slice none (0:Nat) (0:Nat),[]),(0:Int),(0:Int),(0:Int),false,(0:Int),false,false)]) (0:Nat) zBy))))))))))) (0:Int) && (cEq (Prod.fst (Prod.snd (Prod.snd (Prod.snd (Prod.snd (Prod.snd (Prod.snd (Prod.snd (Prod.snd (Prod.snd (Prod.snd (List.getD (V.slvL [((0:Int),(-1:Int),(4294967296:Int),(0:Int),(0:Int),(0:Int),(0:Int),(0:Int),(0:Int),(0:Int),(0:Int),false,(0:Int),(0:Int),(38654705664:Int),(-1:Int),(0:Int),(0:Int))] (0:Int) [((2:Int),(0:Int),(0:Int),(0:Int),(4294967296:Int),(0:Int),(0:Int),(0:Int),(8589934592:Int),(0:Int),(0:Int),(0:Int),(0:Int),(0:Int),(4294967296:Int),(4294967296:Int),(4294967296:Int),(4294967296:Int),(0:Int),(0:Int),(0:Int),(0:Int),(0:Int),(Value.slice none (0:Nat) (0:Nat),[]),(0:Int),(0:Int),(0:Int),false,(0:Int),false,false)]) (0:Nat) zBy)))))))))))) (0:Int) && true))) = true then if (0:Int) ≤ (0:Int) ∧ (0:Int) < (↑(List.length (V.slvR [((0:Int),(-1:Int),(4294967296:Int),(0:Int),(0:Int),(0:Int),(0:Int),(0:Int),(0:Int),(0:Int),(0:Int),false,(0:Int),(0:Int),(38654705664:Int),(-1:Int),(0:Int),(0:Int))] (0:Int) [((2:Int),(0:Int),(0:Int),(0:Int),(4294967296:Int),(0:Int),(0:Int),(0:Int),(8589934592:Int),(0:Int),(0:Int),(0:Int),(0:Int),(0:Int),(4294967296:Int),(4294967296:Int),(4294967296:Int),(4294967296:Int),(0:Int),(0:Int),(0:Int),(0:Int),(0:Int),(Value.slice none (0:Nat) (0:Nat),[]),(0:Int),(0:Int),(0:Int),false,(0:Int),false,false)])):Int) then if cEq (Prod.snd (Prod.snd (Prod.snd (Prod.snd (Prod.snd (Prod.snd (Prod.snd (Prod.snd (Prod.snd (Prod.snd (Prod.snd (Prod.snd (Prod.snd (Prod.snd (Prod.snd (Prod.snd (Prod.snd (List.getD (V.slvR [((0:Int),(-1:Int),(4294967296:Int),(0:Int),(0:Int),(0:Int),(0:Int),(0:Int),(0:Int),(0:Int),(0:Int),false,(0:Int),(0:Int),(38654705664:Int),(-1:Int),(0:Int),(0:Int))] (0:Int) [((2:Int),(0:Int),(0:Int),(0:Int),(4294967296:Int),(0:Int),(0:Int),(0:Int),(8589934592:Int),(0:Int),(0:Int),(0:Int),(0:Int),(0:Int),(4294967296:Int),(4294967296:Int),(4294967296:Int),(4294967296:Int),(0:Int),(0:Int),(0:Int),(0:Int),(0:Int),(Value.slice none (0:Nat) (0:Nat),[]),(0:Int),(0:Int),(0:Int),false,(0:Int),false,false)]) (0:Nat) zRw)))))))))))))))))) (8589934592:Int) = true then k0 !V.slvB [((0:Int),(-1:Int),(4294967296:Int),(0:Int),(0:Int),(0:Int),(0:Int),(0:Int),(0:Int),(0:Int),(0:Int),false,(0:Int),(0:Int),(38654705664:Int),(-1:Int),(0:Int),(0:Int))] (0:Int) [((2:Int),(0:Int),(0:Int),(0:Int),(4294967296:Int),(0:Int),(0:Int),(0:Int),(8589934592:Int),(0:Int),(0:Int),(0:Int),(0:Int),(0:Int),(4294967296:Int),(4294967296:Int),(4294967296:Int),(4294967296:Int),(0:Int),(0:Int),(0:Int),(0:Int),(0:Int),(Value.slice none (0:Nat) (0:Nat),[]),(0:Int),(0:Int),(0:Int),false,(0:Int),false,false)] (V.wgtB ((4294967296:Int),(0:Int),(0:Int)) (Prod.fst (Prod.snd (Prod.snd (Prod.snd (Prod.snd (Prod.snd (Prod.snd (Prod.snd (Prod.snd (Prod.snd (Prod.snd (Prod.snd (List.getD [((0:Int),(-1:Int),(4294967296:Int),(0:Int),(0:Int),(0:Int),(0:Int),(0:Int),(0:Int),(0:Int),(0:Int),false,(0:Int),(0:Int),(38654705664:Int),(-1:Int),(0:Int),(0:Int))] (0:Nat) zRw))))))))))))) ((0:Int),(0:Int),(0:Int)) ((0:Int),(0:Int),(0:Int)) (V.bAt [((2:Int),(0:Int),(0:Int),(0:Int),(4294967296:Int),(0:Int),(0:Int),(0:Int),(8589934592:Int),(0:Int),(0:Int),(0:Int),(0:Int),(0:Int),(4294967296:Int),(4294967296:Int),(4294967296:Int),(4294967296:Int),(0:Int),(0:Int),(0:Int),(0:Int),(0:Int),(Value.slice none (0:Nat) (0:Nat),[]),(0:Int),(0:Int),(0:Int),false,(0:Int),false,false)] (0:Int)) (V.bAt [((2:Int),(0:Int),(0:Int),(0:Int),(4294967296:Int),(0:Int),(0:Int),(0:Int),(8589934592:Int),(0:Int),(0:Int),(0:Int),(0:Int),(0:Int),(4294967296:Int),(4294967296:Int),(4294967296:Int),(4294967296:Int),(0:Int),(0:Int),(0:Int),(0:Int),(0:Int),(Value.slice none (0:Nat) (0:Nat),[]),(0:Int),(0:Int),(0:Int),false,(0:Int),false,false)] (-1:Int)) (V.rateB ((4294967296:Int),(0:Int),(0:Int)) (Prod.fst (Prod.snd (Prod.snd (Prod.snd (Prod.snd (Prod.snd (Prod.snd (Prod.snd (Prod.snd (Prod.snd (Prod.snd (Prod.snd (List.getD [((0:Int),(-1:Int),(4294967296:Int),(0:Int),(0:Int),(0:Int),(0:Int),(0:Int),(0:Int),(0:Int),(0:Int),false,(0:Int),(0:Int),(38654705664:Int),(-1:Int),(0:Int),(0:Int))] (0:Nat) zRw))))))))))))) ((0:Int),(0:Int),(0:Int)) ((0:Int),(0:Int),(0:Int)) (V.bAt [((2:Int),(0:Int),(0:Int),(0:Int),(4294967296:Int),(0:Int),(0:Int),(0:Int),(8589934592:Int),(0:Int),(0:Int),(0:Int),(0:Int),(0:Int),(4294967296:Int),(4294967296:Int),(4294967296:Int),(4294967296:Int),(0:Int),(0:Int),(0:Int),(0:Int),(0:Int),(Value.slice none (0:Nat) (0:Nat),[]),(0:Int),(0:Int),(0:Int),false,(0:Int),false,false)] (0:Int)) (V.bAt [((2:Int),(0:Int),(0:Int),(0:Int),(4294967296:Int),(0:Int),(0:Int),(0:Int),(8589934592:Int),(0:Int),(0:Int),(0:Int),(0:Int),(0:Int),(4294967296:Int),(4294967296:Int),(4294967296:Int),(4294967296:Int),(0:Int),(0:Int),(0:Int),(0:Int),(0:Int),(Value.slice none (0:Nat) (0:Nat),[]),(0:Int),(0:Int),(0:Int),false,(0:Int),false,false)] (-1:Int)) false)) else k0 false else none else k0 false else none else k0 false else k0 false else none
theorem rawake_eq {α:Type} (Q:SV → Hp → Option α):callI E look_rwsolve (exec E look_rwsolve noLps 400) 8 ([]) ([]) Q = M.rawake (fun (x0:Bool) => Q (SV.bool x0) ([])) := by kernel_rfl
def rawake_sp:List AS := []
abbrev awB:L31 := (2,0,0,0,4294967296,0,0,0,8589934592,0,0,0,0,0,4294967296,4294967296,4294967296,4294967296,0,0,0,0,0,(Value.slice none 0 0,[]),0,0,0,false,0,false,false)
abbrev awC:L31 := (2,0,0,0,4294967296,0,0,0,0,0,0,0,0,0,4294967296,4294967296,4294967296,4294967296,0,0,0,0,0,(Value.slice none 0 0,[]),0,0,0,false,0,false,false)
abbrev awR:L18 := (0,-1,4294967296,0,0,0,0,0,0,0,0,false,0,0,38654705664,-1,0,0)
abbrev awS:L18 := (0,-1,4294967296,0,0,0,0,0,0,0,0,false,0,0,38654705664,-1,0,8589934592)
theorem awA0:V.bAt [awB] 0 = awB := by
 unfold V.bAt
 rw [if_neg (by rw [cLt_eq]; decide),if_neg (by rw [cLe_eq]; decide)]; rfl
theorem awA1:V.bAt [awB] (-1) = fBy := by
 unfold V.bAt
 rw [if_pos (by rw [cLt_eq]; decide)]
theorem aw1:V.rate (4294967296,0,0) false (0,0,0) (0,0,0) awB fBy = -8589934592 := by kernel_rfl
theorem aw1b:V.rateB (4294967296,0,0) false (0,0,0) (0,0,0) awB fBy false = false := by kernel_rfl
theorem aw2:V.wgt (4294967296,0,0) false (0,0,0) (0,0,0) awB fBy = 4294967296 := by kernel_rfl
theorem aw2b:V.wgtB (4294967296,0,0) false (0,0,0) (0,0,0) awB fBy false = false := by kernel_rfl
theorem awW:V.wW [awR] 0 [awB] = 4294967296 := by
 unfold V.wW
 show V.wgt (4294967296,0,0) false (0,0,0) (0,0,0) (V.bAt [awB] 0) (V.bAt [awB] (-1)) = _
 rw [awA0,awA1,aw2]
theorem awWb:V.wgtB (4294967296,0,0) false (0,0,0) (0,0,0) (V.bAt [awB] 0) (V.bAt [awB] (-1)) false = false := by rw [awA0,awA1,aw2b]
theorem awRt:V.wR [awR] 0 [awB] = -8589934592 := by
 unfold V.wR
 show V.rate (4294967296,0,0) false (0,0,0) (0,0,0) (V.bAt [awB] 0) (V.bAt [awB] (-1)) = _
 rw [awA0,awA1,aw1]
theorem awRb:V.rateB (4294967296,0,0) false (0,0,0) (0,0,0) (V.bAt [awB] 0) (V.bAt [awB] (-1)) false = false := by rw [awA0,awA1,aw1b]
theorem awN0:¬ cLt 0 0 = true := by rw [cLt_eq]; decide
theorem awN1:¬ cLe (List.length [awR]:Int) 0 = true := by rw [cLe_eq]; decide
theorem awLo:V.eLow [awR] 0 = 0 := by
 unfold V.eLow
 rw [if_neg awN0,if_neg awN1]
 exact (if_neg (show ¬ cLe 0 (-1) = true by rw [cLe_eq]; decide)).trans rfl
theorem awHi:V.eHigh [awR] 0 = 38654705664 := by
 unfold V.eHigh
 rw [if_neg awN0,if_neg awN1]
 exact (if_neg (show ¬ cLe 0 (-1) = true by rw [cLe_eq]; decide)).trans rfl
theorem awEb:V.eB [awR] 0 false = false := by
 unfold V.eB
 rw [if_neg awN0,if_neg awN1]
 exact if_neg (show ¬ cLe 0 (-1) = true by rw [cLe_eq]; decide)
theorem awS':V.wS [awR] 0 [awB] = 8589934592 := by
 unfold V.wS
 rw [awW,awRt]; kernel_rfl
theorem awWs:V.wsh [awR] 0 [awB] = 8589934592 := by
 unfold V.wsh
 rw [if_neg awN0,if_neg awN1,awW,if_neg (show ¬ cLt 4294967296 64 = true by rw [cLt_eq]; decide),awS',awLo,awHi]; decide
theorem awWsB:V.wshB [awR] 0 [awB] false = false := by
 unfold V.wshB
 rw [if_neg awN0,if_neg awN1,awW,if_neg (show ¬ cLt 4294967296 64 = true by rw [cLt_eq]; decide),awRt]
 show V.eB [awR] 0 (V.gn _ (V.gn _ (V.gn _ (V.rateB (4294967296,0,0) false (0,0,0) (0,0,0) (V.bAt [awB] 0) (V.bAt [awB] (-1)) (V.wgtB (4294967296,0,0) false (0,0,0) (0,0,0) (V.bAt [awB] 0) (V.bAt [awB] (-1)) false))))) = false
 rw [awWb,awRb]
 exact awEb
theorem awD:V.slD [awR] 0 [awB] = some 8589934592 := by unfold V.slD; rw [awWs]; kernel_rfl
theorem awJ:V.slJ [awR] 0 [awB] = some (8589934592,0,0) := by unfold V.slJ; rw [awD]; kernel_rfl
theorem awK:V.slK [awR] 0 [awB] = some (-8589934592,0,0) := by unfold V.slK; rw [awJ]; kernel_rfl
theorem aw0:V.sl0 [awR] 0 [awB] = false := by unfold V.sl0; rw [awK,awJ,awD,awWsB]; rfl
theorem awL1:V.sl1 [awR] 0 [awB] = [awB] := by unfold V.sl1 V.stp; rw [if_neg (by decide)]
theorem awL2:V.sl2 [awR] 0 [awB] = [awC] := by unfold V.sl2 V.stp; rw [awL1,awK,if_pos (by decide)]; kernel_rfl
theorem awX:V.slX [awR] 0 [awB] = false := by
 unfold V.slX V.stpB
 rw [awL1,awK,awJ,aw0,if_pos (by decide),if_neg (by decide)]; kernel_rfl
theorem awFL:V.slvL [awR] 0 [awB] = [awC] := by unfold V.slvL; rw [awX,if_pos (by decide),if_neg (by decide),awL2]
theorem awFR:V.slvR [awR] 0 [awB] = [awS] := by unfold V.slvR; rw [awX,if_pos (by decide),if_neg (by decide),awWs]; rfl
theorem awFB:V.slvB [awR] 0 [awB] false = false := by unfold V.slvB; rw [awX,if_pos (by decide),if_neg (by decide)]
theorem rawake_v {α:Type} (k0:Bool → Option α):M.rawake k0 = k0 true := by
 unfold M.rawake
 refine (if_pos (nrB_iff.2 (by intro x hx; simp at hx; subst hx; rfl))).trans ?_
 refine (if_pos (show cEq (V.rate (4294967296,0,0) false (0,0,0) (0,0,0) (V.bAt [awB] 0) (V.bAt [awB] (-1))) (-8589934592) = true by rw [awA0,awA1,aw1,cEq_eq]; decide)).trans ?_
 refine (if_pos (show cEq (V.wgt (4294967296,0,0) false (0,0,0) (0,0,0) (V.bAt [awB] 0) (V.bAt [awB] (-1))) 4294967296 = true by rw [awA0,awA1,aw2,cEq_eq]; decide)).trans ?_
 show (if (0:Int) ≤ 0 ∧ (0:Int) < (List.length (V.slvL [awR] 0 [awB]):Int) then (if (cEq ((List.getD (V.slvL [awR] 0 [awB]) 0 zBy).2.2.2.2.2.2.2.2.1) 0 && (cEq ((List.getD (V.slvL [awR] 0 [awB]) 0 zBy).2.2.2.2.2.2.2.2.2.1) 0 && (cEq ((List.getD (V.slvL [awR] 0 [awB]) 0 zBy).2.2.2.2.2.2.2.2.2.2.1) 0 && true))) = true then (if (0:Int) ≤ 0 ∧ (0:Int) < (List.length (V.slvR [awR] 0 [awB]):Int) then (if cEq ((List.getD (V.slvR [awR] 0 [awB]) 0 zRw).2.2.2.2.2.2.2.2.2.2.2.2.2.2.2.2.2) 8589934592 = true then k0 (!V.slvB [awR] 0 [awB] (V.wgtB (4294967296,0,0) false (0,0,0) (0,0,0) (V.bAt [awB] 0) (V.bAt [awB] (-1)) (V.rateB (4294967296,0,0) false (0,0,0) (0,0,0) (V.bAt [awB] 0) (V.bAt [awB] (-1)) false))) else k0 false) else none) else k0 false) else none) = _
 rw [awFL,awFR,awRb,awWb,awFB,if_pos (by decide),if_pos (by simp only [cEq_eq]; rfl),if_pos (by decide),if_pos (by simp only [cEq_eq]; rfl)]
 rfl
noncomputable def rawake_h {α:Type} (ds:List D) (Q:SV → Hp → Option α):Option α :=
 dE ds (if true = true then Q (.bool true) ([]) else none)
theorem rawake_h_ok {α:Type}:FnOk E.P 8 (fEnt (α := α) rawake_sp rawake_h) :=
 fEnt_ok E (look_rwsolve_ok) (exec_sound E E_ok (look_rwsolve_ok) (noLps_ok _) 400) fun ds Q r h => by
   unfold rawake_h at h
   obtain ⟨rfl,hE⟩ := dE_inv h
   split at hE
   · rename_i hg
     exact ⟨[],[],fun vs => by kernel_rfl,(rawake_eq Q).trans ((rawake_v _).trans hE)⟩
   · cases hE
noncomputable def look_rawake {α:Type}:LookF α := addFn 8 (fEnt rawake_sp rawake_h) look_rwsolve
theorem look_rawake_ok {α:Type}:LookOk E.P (look_rawake (α := α)) := addFn_ok rawake_h_ok (look_rwsolve_ok)
end
section
open Go
set_option maxRecDepth 20000
noncomputable abbrev rsame2_S1 (y1:Value) (y2:List L31) (y3:Value) (y4:List L31) (y5:Value) (y6:List L18) (y7:Value) (y8:List L18) (y9:Int):St := St.mk (some (SV.ros y1 kBy y2) :: some (SV.ros y3 kBy y4) :: some (SV.ros y5 kRw y6) :: some (SV.ros y7 kRw y8) :: nn 5 (some (SV.int .i64 y9) :: nn 44 ([]))) []
noncomputable abbrev rsame2_S2 (y1:Value) (y2:List L18) (y3:Value) (y4:List L18):St := St.mk (none :: none :: some (SV.ros y1 kRw y2) :: some (SV.ros y3 kRw y4) :: nn 4 (some (SV.bool false) :: nn 45 ([]))) []
noncomputable abbrev rsame2_S3:St := St.mk (some (SV.ros undef kBy []) :: some (SV.ros undef kBy []) :: some (SV.ros undef kRw []) :: some (SV.ros undef kRw []) :: nn 5 (some (SV.int .i64 (0:Int)) :: nn 44 ([]))) []
noncomputable abbrev rsame2_S4 (y1:Value) (y2:List L18) (y3:Value) (y4:List L18) (y5:Int):St := St.mk (none :: none :: some (SV.ros y1 kRw y2) :: some (SV.ros y3 kRw y4) :: nn 6 (some (SV.int .i64 y5) :: nn 43 ([]))) []
noncomputable abbrev rsame2_S5:St := St.mk (none :: none :: some (SV.ros undef kRw []) :: some (SV.ros undef kRw []) :: nn 6 (some (SV.int .i64 (0:Int)) :: nn 43 ([]))) []
abbrev rsame2_P1:List Bool := [false,true,false,true,true,true]
noncomputable def M.rsame2_l0_step {α:Type} (x14:List L31) (x16:List L31) (kn:Int → Option α) (k0:Option α) (k2:Option α) (x21:Int):Option α := let s22 := (↑(List.length x14):Int); let s23 := List.getD x16 (Int.toNat x21) zBy; let s24 := List.getD x14 (Int.toNat x21) zBy; let s25 := Prod.snd s24; let s26 := Prod.snd s23; let s27 := Prod.snd s25; let s28 := Prod.snd s26; let s29 := Prod.snd s27; let s30 := Prod.snd s28; let s31 := Prod.snd s30; let s32 := Prod.snd s29; let s33 := Prod.snd s31; let s34 := Prod.snd s32; let s35 := Prod.snd s34; let s36 := Prod.snd s33; let s37 := Prod.snd s35; let s38 := Prod.snd s36; let s39 := Prod.snd s38; let s40 := Prod.snd s37; let s41 := Prod.snd s39; let s42 := Prod.snd s40; let s43 := Prod.snd s41; let s44 := Prod.snd s42; let s45 := Prod.snd s44; let s46 := Prod.snd s43; let s47 := Prod.snd s45; let s48 := Prod.snd s46; let s49 := Prod.snd s47; let s50 := Prod.snd s48; let s51 := Prod.snd s50; let s52 := Prod.snd s49; let s53 := Prod.snd s52; let s54 := Prod.snd s51; let s55 := Prod.snd s53; let s56 := Prod.snd s54; let s57 := Prod.snd s55; let s58 := Prod.snd s56; let s59 := Prod.snd s58; let s60 := Prod.snd s57; let s61 := Prod.snd s60; let s62 := Prod.snd s59; let s63 := Prod.snd s61; let s64 := Prod.snd s62; let s65 := Prod.snd s64; let s66 := Prod.snd s63; let s67 := Prod.snd s65; let s68 := Prod.snd s66; let s69 := Prod.snd s67; let s70 := Prod.snd s68; let s71 := Prod.snd (Prod.fst s70); if cLt x21 s22 = true then if (0:Int) ≤ x21 ∧ x21 < s22 then if (0:Int) ≤ x21 ∧ x21 < (↑(List.length x16):Int) then if V.lenM (List.length s71) = true then if (!V.bSame (Prod.fst s24,Prod.fst s25,Prod.fst s27,Prod.fst s29,Prod.fst s32,Prod.fst s34,Prod.fst s35,Prod.fst s37,Prod.fst s40,Prod.fst s42,Prod.fst s44,Prod.fst s45,Prod.fst s47,Prod.fst s49,Prod.fst s52,Prod.fst s53,Prod.fst s55,Prod.fst s57,Prod.fst s60,Prod.fst s61,Prod.fst s63,Prod.fst s66,Prod.fst s68,(Value.slice none (0:Nat) (0:Nat),s71),Prod.snd s70) (Prod.fst s23,Prod.fst s26,Prod.fst s28,Prod.fst s30,Prod.fst s31,Prod.fst s33,Prod.fst s36,Prod.fst s38,Prod.fst s39,Prod.fst s41,Prod.fst s43,Prod.fst s46,Prod.fst s48,Prod.fst s50,Prod.fst s51,Prod.fst s54,Prod.fst s56,Prod.fst s58,Prod.fst s59,Prod.fst s62,Prod.fst s64,Prod.fst s65,Prod.fst s67,(Value.slice none (0:Nat) (0:Nat),Prod.snd (Prod.fst s69)),Prod.snd s69)) = true then k0 else kn (IntKind.wrap .i64 (x21 + (1:Int))) else none else none else none else k2
noncomputable def M.rsame2_l0 {α:Type} (x14:List L31) (x16:List L31) (k0:Option α) (k2:Option α):Nat → Int → Option α
 | 0,_ => none
 | n + 1,x21 => M.rsame2_l0_step x14 x16 (M.rsame2_l0 x14 x16 k0 k2 n) k0 k2 x21
theorem rsame2_l0_step_eq {α:Type} (x13:Value) (x14:List L31) (x15:Value) (x16:List L31) (x17:Value) (x18:List L18) (x19:Value) (x20:List L18) (x21:Int) (Q:Ex → St → Option α):(loopStep E (exec E look_rsame noLps 400) 19 [false,true,false,true,true] 0 (codeAt E.P 19 [false,true,false,true,true])) (rsame2_S1 x13 x14 x15 x16 x17 x18 x19 x20 x21) Q = M.rsame2_l0_step x14 x16 (fun (x72:Int) => Q .normal (rsame2_S1 x13 x14 x15 x16 x17 x18 x19 x20 x72)) (Q .ret (rsame2_S2 x17 x18 x19 x20)) (Q (.exit 0) (St.mk (none :: none :: some (SV.ros x17 kRw x18) :: some (SV.ros x19 kRw x20) :: nn 50 ([]))
 [])) x21 := by kernel_rfl
theorem rsame2_l0_iter {α:Type} (x13:Value) (x14:List L31) (x15:Value) (x16:List L31) (x17:Value) (x18:List L18) (x19:Value) (x20:List L18) (Q:Ex → St → Option α):∀ (n:Nat) (x21:Int),iter (loopStep E (exec E look_rsame noLps 400) 19 [false,true,false,true,true] 0 (codeAt E.P 19 [false,true,false,true,true])) n (rsame2_S1 x13 x14 x15 x16 x17 x18 x19 x20 x21) Q = M.rsame2_l0 x14 x16 (Q .ret (rsame2_S2 x17 x18 x19 x20)) (Q (.exit 0) (St.mk (none :: none :: some (SV.ros x17 kRw x18) :: some (SV.ros x19 kRw x20) :: nn 50 ([]))
 [])) n x21
 | 0,_ => rfl
 | n + 1,x21 => (rsame2_l0_step_eq x13 x14 x15 x16 x17 x18 x19 x20 x21 (iterK (loopStep E (exec E look_rsame noLps 400) 19 [false,true,false,true,true] 0 (codeAt E.P 19 [false,true,false,true,true])) n Q)).trans (congrArg (fun kn => M.rsame2_l0_step x14 x16 kn (Q .ret (rsame2_S2 x17 x18 x19 x20)) (Q (.exit 0) (St.mk (none :: none :: some (SV.ros x17 kRw x18) :: some (SV.ros x19 kRw x20) :: nn 50 ([]))
 [])) x21) (funext fun x21 => rsame2_l0_iter x13 x14 x15 x16 x17 x18 x19 x20 Q n x21))
noncomputable def rsame2_l0_go {α:Type} (ds:List D) (Q:Ex → St → Option α):Option α :=
 dV ds fun x13 ds => dL kBy ds fun x14 ds => dV ds fun x15 ds => dL kBy ds fun x16 ds => dV ds fun x17 ds => dL kRw ds fun x18 ds => dV ds fun x19 ds => dL kRw ds fun x20 ds => dI ds fun x21 ds => dE ds (M.rsame2_l0 x14 x16 (Q .ret (rsame2_S2 x17 x18 x19 x20)) (Q (.exit 0) (St.mk (none :: none :: some (SV.ros x17 kRw x18) :: some (SV.ros x19 kRw x20) :: nn 50 ([]))
 [])) (100 + x14.length + x16.length + x18.length + x20.length) x21)
theorem rsame2_l0_ok {α:Type}:LoopOk E.P 19 [false,true,false,true,true] 0 (lEnt (α := α) (rsame2_S3) rsame2_l0_go) :=
 lEnt_ok E (exec_sound E E_ok (look_rsame_ok) (noLps_ok _) 400) fun ds Q r h S hS => by
   unfold rsame2_l0_go at h
   obtain ⟨x13,ds,rfl,h1⟩ := dV_inv h
   obtain ⟨x14,ds,rfl,h2⟩ := dL_inv h1
   obtain ⟨x15,ds,rfl,h3⟩ := dV_inv h2
   obtain ⟨x16,ds,rfl,h4⟩ := dL_inv h3
   obtain ⟨x17,ds,rfl,h5⟩ := dV_inv h4
   obtain ⟨x18,ds,rfl,h6⟩ := dL_inv h5
   obtain ⟨x19,ds,rfl,h7⟩ := dV_inv h6
   obtain ⟨x20,ds,rfl,h8⟩ := dL_inv h7
   obtain ⟨x21,ds,rfl,h9⟩ := dI_inv h8
   obtain ⟨rfl,hE⟩ := dE_inv h9
   have e:fillS (rsame2_S3) [.v x13,.l kBy x14,.v x15,.l kBy x16,.v x17,.l kRw x18,.v x19,.l kRw x20,.i x21] = some (rsame2_S1 x13 x14 x15 x16 x17 x18 x19 x20 x21) := by kernel_rfl
   rw [e] at hS
   cases hS
   exact ⟨_,(rsame2_l0_iter x13 x14 x15 x16 x17 x18 x19 x20 Q _ x21).trans hE⟩
noncomputable def rsame2_l0_lps {α:Type}:LookL α := addLp 19 [false,true,false,true,true] 0 (lEnt (rsame2_S3) rsame2_l0_go) noLps
theorem rsame2_l0_lps_ok {α:Type}:LoopsOk E.P (rsame2_l0_lps (α := α)) := addLp_ok rsame2_l0_ok (noLps_ok _)
noncomputable def M.rsame2_l1_step {α:Type} (x83:List L18) (x85:List L18) (kn:Int → Option α) (k0:Option α) (k2:Option α) (x86:Int):Option α := let s87 := (↑(List.length x83):Int); let s88 := List.getD x83 (Int.toNat x86) zRw; let s89 := List.getD x85 (Int.toNat x86) zRw; let s90 := Prod.snd s88; let s91 := Prod.snd s89; let s92 := Prod.snd s91; let s93 := Prod.snd s90; let s94 := Prod.snd s92; let s95 := Prod.snd s93; let s96 := Prod.snd s94; let s97 := Prod.snd s95; let s98 := Prod.snd s97; let s99 := Prod.snd s96; let s100 := Prod.snd s99; let s101 := Prod.snd s98; let s102 := Prod.snd s101; let s103 := Prod.snd s100; let s104 := Prod.snd s102; let s105 := Prod.snd s103; let s106 := Prod.snd s105; let s107 := Prod.snd s104; let s108 := Prod.snd s107; let s109 := Prod.snd s106; let s110 := Prod.snd s109; let s111 := Prod.snd s108; let s112 := Prod.snd s111; let s113 := Prod.snd s110; let s114 := Prod.snd s113; let s115 := Prod.snd s112; let s116 := Prod.snd s115; let s117 := Prod.snd s114; let s118 := Prod.snd s117; let s119 := Prod.snd s116; let s120 := Prod.snd s118; let s121 := Prod.snd s119; if cLt x86 s87 = true then if (0:Int) ≤ x86 ∧ x86 < s87 then if (0:Int) ≤ x86 ∧ x86 < (↑(List.length x85):Int) then if (!(cEq (Prod.fst s88) (Prod.fst s89) && (cEq (Prod.fst s90) (Prod.fst s91) && (cEq (Prod.fst s93) (Prod.fst s92) && (cEq (Prod.fst s95) (Prod.fst s94) && (cEq (Prod.fst s97) (Prod.fst s96) && true)) && (cEq (Prod.fst s98) (Prod.fst s99) && (cEq (Prod.fst s101) (Prod.fst s100) && (cEq (Prod.fst s102) (Prod.fst s103) && true)) && (cEq (Prod.fst s104) (Prod.fst s105) && (cEq (Prod.fst s107) (Prod.fst s106) && (cEq (Prod.fst s108) (Prod.fst s109) && true)) && (Prod.fst s111 == Prod.fst s110 && (cEq (Prod.fst s112) (Prod.fst s113) && (cEq (Prod.fst s115) (Prod.fst s114) && (cEq (Prod.fst s116) (Prod.fst s117) && (cEq (Prod.fst s119) (Prod.fst s118) && (cEq (Prod.fst s121) (Prod.fst s120) && (cEq (Prod.snd s121) (Prod.snd s120) && true))))))))))))) = true then k0 else kn (IntKind.wrap .i64 (x86 + (1:Int))) else none else none else k2
noncomputable def M.rsame2_l1 {α:Type} (x83:List L18) (x85:List L18) (k0:Option α) (k2:Option α):Nat → Int → Option α
 | 0,_ => none
 | n + 1,x86 => M.rsame2_l1_step x83 x85 (M.rsame2_l1 x83 x85 k0 k2 n) k0 k2 x86
theorem rsame2_l1_step_eq {α:Type} (x82:Value) (x83:List L18) (x84:Value) (x85:List L18) (x86:Int) (Q:Ex → St → Option α):(loopStep E (exec E look_rsame rsame2_l0_lps 400) 19 rsame2_P1 0 (codeAt E.P 19 rsame2_P1)) (rsame2_S4 x82 x83 x84 x85 x86) Q = M.rsame2_l1_step x83 x85 (fun (x122:Int) => Q .normal (rsame2_S4 x82 x83 x84 x85 x122)) (Q .ret (St.mk (nn 8 (some (SV.bool false) :: nn 45 ([]))) [])) (Q (.exit 2) (St.mk (nn 54 ([])) [])) x86 := by kernel_rfl
theorem rsame2_l1_iter {α:Type} (x82:Value) (x83:List L18) (x84:Value) (x85:List L18) (Q:Ex → St → Option α):∀ (n:Nat) (x86:Int),iter (loopStep E (exec E look_rsame rsame2_l0_lps 400) 19 rsame2_P1 0 (codeAt E.P 19 rsame2_P1)) n (rsame2_S4 x82 x83 x84 x85 x86) Q = M.rsame2_l1 x83 x85 (Q .ret (St.mk (nn 8 (some (SV.bool false) :: nn 45 ([]))) [])) (Q (.exit 2) (St.mk (nn 54 ([])) [])) n x86
 | 0,_ => rfl
 | n + 1,x86 => (rsame2_l1_step_eq x82 x83 x84 x85 x86 (iterK (loopStep E (exec E look_rsame rsame2_l0_lps 400) 19 rsame2_P1 0 (codeAt E.P 19 rsame2_P1)) n Q)).trans (congrArg (fun kn => M.rsame2_l1_step x83 x85 kn (Q .ret (St.mk (nn 8 (some (SV.bool false) :: nn 45 ([]))) [])) (Q (.exit 2) (St.mk (nn 54 ([])) [])) x86) (funext fun x86 => rsame2_l1_iter x82 x83 x84 x85 Q n x86))
noncomputable def rsame2_l1_go {α:Type} (ds:List D) (Q:Ex → St → Option α):Option α :=
 dV ds fun x82 ds => dL kRw ds fun x83 ds => dV ds fun x84 ds => dL kRw ds fun x85 ds => dI ds fun x86 ds => dE ds (M.rsame2_l1 x83 x85 (Q .ret (St.mk (nn 8 (some (SV.bool false) :: nn 45 ([]))) [])) (Q (.exit 2) (St.mk (nn 54 ([])) [])) (100 + x83.length + x85.length) x86)
theorem rsame2_l1_ok {α:Type}:LoopOk E.P 19 rsame2_P1 0 (lEnt (α := α) (rsame2_S5) rsame2_l1_go) :=
 lEnt_ok E (exec_sound E E_ok (look_rsame_ok) (rsame2_l0_lps_ok) 400) fun ds Q r h S hS => by
   unfold rsame2_l1_go at h
   obtain ⟨x82,ds,rfl,h1⟩ := dV_inv h
   obtain ⟨x83,ds,rfl,h2⟩ := dL_inv h1
   obtain ⟨x84,ds,rfl,h3⟩ := dV_inv h2
   obtain ⟨x85,ds,rfl,h4⟩ := dL_inv h3
   obtain ⟨x86,ds,rfl,h5⟩ := dI_inv h4
   obtain ⟨rfl,hE⟩ := dE_inv h5
   have e:fillS (rsame2_S5) [.v x82,.l kRw x83,.v x84,.l kRw x85,.i x86] = some (rsame2_S4 x82 x83 x84 x85 x86) := by kernel_rfl
   rw [e] at hS
   cases hS
   exact ⟨_,(rsame2_l1_iter x82 x83 x84 x85 Q _ x86).trans hE⟩
noncomputable def rsame2_l1_lps {α:Type}:LookL α := addLp 19 rsame2_P1 0 (lEnt (rsame2_S5) rsame2_l1_go) rsame2_l0_lps
theorem rsame2_l1_lps_ok {α:Type}:LoopsOk E.P (rsame2_l1_lps (α := α)) := addLp_ok rsame2_l1_ok (rsame2_l0_lps_ok)
noncomputable def M.rsame2 {α:Type} (a:List L31) (b:List L31) (r:List L18) (s:List L18) (k0:Bool → Option α):Option α := if (!cEq (↑(List.length a):Int) (↑(List.length b):Int)) = true then k0 false else if (!cEq (↑(List.length r):Int) (↑(List.length s):Int)) = true then k0 false else M.rsame2_l0 a b (k0 false) (M.rsame2_l1 r s (k0 false) (k0 true) ((100:Nat) + List.length r + List.length s) (0:Int)) ((100:Nat) + List.length a + List.length b + List.length r + List.length s) (0:Int)
theorem rsame2_eq {α:Type} (a:List L31) (b:List L31) (r:List L18) (s:List L18) (v123:Value) (v124:Value) (v125:Value) (v126:Value) (Q:SV → Hp → Option α):callI E look_rsame (exec E look_rsame rsame2_l1_lps 400) 19 ([SV.ros v123
   kBy
   a,
 SV.ros v124
   kBy
   b,
 SV.ros v125 kRw r,
 SV.ros v126 kRw s]) ([]) Q = M.rsame2 a b r s (fun (x127:Bool) => Q (SV.bool x127) ([])) := by kernel_rfl
def rsame2_sp:List AS := [.ro (.st (.i .i64) [.i .i64,.i .i64,.i .i64,.i .i64,.i .i64,.i .i64,.i .i64,.i .i64,.i .i64,.i .i64,.i .i64,.i .i64,.i .i64,.i .i64,.i .i64,.i .i64,.i .i64,.i .i64,.i .i64,.i .i64,.i .i64,.i .i64,.p,.i .i64,.i .i64,.i .i64,.b,.i .i64,.b,.b]),.ro (.st (.i .i64) [.i .i64,.i .i64,.i .i64,.i .i64,.i .i64,.i .i64,.i .i64,.i .i64,.i .i64,.i .i64,.i .i64,.i .i64,.i .i64,.i .i64,.i .i64,.i .i64,.i .i64,.i .i64,.i .i64,.i .i64,.i .i64,.i .i64,.p,.i .i64,.i .i64,.i .i64,.b,.i .i64,.b,.b]),.ro (.st (.i .i64) [.i .i64,.i .i64,.i .i64,.i .i64,.i .i64,.i .i64,.i .i64,.i .i64,.i .i64,.i .i64,.b,.i .i64,.i .i64,.i .i64,.i .i64,.i .i64,.i .i64]),.ro (.st (.i .i64) [.i .i64,.i .i64,.i .i64,.i .i64,.i .i64,.i .i64,.i .i64,.i .i64,.i .i64,.i .i64,.b,.i .i64,.i .i64,.i .i64,.i .i64,.i .i64,.i .i64])]
noncomputable instance:DecidableEq (Int × Int × Int × Int × Int × Int × Int × Int × Int × Int × Int × Int × Int × Int × Int × Int × Int × Int × Int × Int × Int × Int × Int × List (Int × Int × Int) × Int × Int × Int × Bool × Int × Bool × Bool) := fun a b => Classical.propDecidable (a = b)
noncomputable instance:DecidableEq L18 := fun a b => Classical.propDecidable (a = b)
theorem eq18 (x y:L18):(cEq x.1 y.1 && (cEq x.2.1 y.2.1 && ((cEq x.2.2.1 y.2.2.1 && (cEq x.2.2.2.1 y.2.2.2.1 && (cEq x.2.2.2.2.1 y.2.2.2.2.1 && true))) && ((cEq x.2.2.2.2.2.1 y.2.2.2.2.2.1 && (cEq x.2.2.2.2.2.2.1 y.2.2.2.2.2.2.1 && (cEq x.2.2.2.2.2.2.2.1 y.2.2.2.2.2.2.2.1 && true))) && ((cEq x.2.2.2.2.2.2.2.2.1 y.2.2.2.2.2.2.2.2.1 && (cEq x.2.2.2.2.2.2.2.2.2.1 y.2.2.2.2.2.2.2.2.2.1 && (cEq x.2.2.2.2.2.2.2.2.2.2.1 y.2.2.2.2.2.2.2.2.2.2.1 && true))) && ((x.2.2.2.2.2.2.2.2.2.2.2.1 == y.2.2.2.2.2.2.2.2.2.2.2.1) && (cEq x.2.2.2.2.2.2.2.2.2.2.2.2.1 y.2.2.2.2.2.2.2.2.2.2.2.2.1 && (cEq x.2.2.2.2.2.2.2.2.2.2.2.2.2.1 y.2.2.2.2.2.2.2.2.2.2.2.2.2.1 && (cEq x.2.2.2.2.2.2.2.2.2.2.2.2.2.2.1 y.2.2.2.2.2.2.2.2.2.2.2.2.2.2.1 && (cEq x.2.2.2.2.2.2.2.2.2.2.2.2.2.2.2.1 y.2.2.2.2.2.2.2.2.2.2.2.2.2.2.2.1 && (cEq x.2.2.2.2.2.2.2.2.2.2.2.2.2.2.2.2.1 y.2.2.2.2.2.2.2.2.2.2.2.2.2.2.2.2.1 && (cEq x.2.2.2.2.2.2.2.2.2.2.2.2.2.2.2.2.2 y.2.2.2.2.2.2.2.2.2.2.2.2.2.2.2.2.2 && true)))))))))))) = decide (x = y) := by
 obtain ⟨a0,a1,a2,a3,a4,a5,a6,a7,a8,a9,a10,a11,a12,a13,a14,a15,a16,a17⟩ := x
 obtain ⟨b0,b1,b2,b3,b4,b5,b6,b7,b8,b9,b10,b11,b12,b13,b14,b15,b16,b17⟩ := y
 rw [Bool.eq_iff_iff]
 simp only [cEq_eq,Bool.and_eq_true,beq_iff_eq,decide_eq_true_eq,Prod.mk.injEq,and_true,and_assoc]
noncomputable def _root_.Go.Proofs.YtfkgmidgdpfnkaaGreat.V.bsM (a:List L31):Bool := hidR (a.all fun x => decide (x.2.2.2.2.2.2.2.2.2.2.2.2.2.2.2.2.2.2.2.2.2.2.2.1.2.length < 9223372036854775808))
theorem bsM_iff {a:List L31}:V.bsM a = true ↔ ∀ x ∈ a,x.2.2.2.2.2.2.2.2.2.2.2.2.2.2.2.2.2.2.2.2.2.2.2.1.2.length < 9223372036854775808 := by unfold V.bsM; rw [hidR_eq]; simp
noncomputable def _root_.Go.Proofs.YtfkgmidgdpfnkaaGreat.V.same2 (a b:List L31) (r s:List L18):Bool := hidR (decide (a.map bfl = b.map bfl) && decide (r = s))
theorem same2_iff {a b:List L31} {r s:List L18}:V.same2 a b r s = true ↔ a.map bfl = b.map bfl ∧ r = s := by unfold V.same2; rw [hidR_eq]; simp
theorem rsame2_l0_w {α:Type} (a b:List L31) (kn:Int → Option α) (k0 k2:Option α) (i:Nat):M.rsame2_l0_step a b kn k0 k2 (i:Int) = if cLt (i:Int) (a.length:Int) = true then (if (0:Int) ≤ (i:Int) ∧ (i:Int) < (a.length:Int) then (if (0:Int) ≤ (i:Int) ∧ (i:Int) < (b.length:Int) then (if V.lenM (List.length (a.getD (i:Int).toNat zBy).2.2.2.2.2.2.2.2.2.2.2.2.2.2.2.2.2.2.2.2.2.2.2.1.2) = true then (if (!V.bSame (a.getD (i:Int).toNat zBy) (b.getD (i:Int).toNat zBy)) = true then k0 else kn (IntKind.wrap .i64 ((i:Int) + 1))) else none) else none) else none) else k2 := by kernel_rfl
theorem rsame2_l1_w {α:Type} (a b:List L18) (kn:Int → Option α) (k0 k2:Option α) (i:Nat):M.rsame2_l1_step a b kn k0 k2 (i:Int) = if cLt (i:Int) (a.length:Int) = true then (if (0:Int) ≤ (i:Int) ∧ (i:Int) < (a.length:Int) then (if (0:Int) ≤ (i:Int) ∧ (i:Int) < (b.length:Int) then (if (!(cEq (a.getD (i:Int).toNat zRw).1 (b.getD (i:Int).toNat zRw).1 && (cEq (a.getD (i:Int).toNat zRw).2.1 (b.getD (i:Int).toNat zRw).2.1 && ((cEq (a.getD (i:Int).toNat zRw).2.2.1 (b.getD (i:Int).toNat zRw).2.2.1 && (cEq (a.getD (i:Int).toNat zRw).2.2.2.1 (b.getD (i:Int).toNat zRw).2.2.2.1 && (cEq (a.getD (i:Int).toNat zRw).2.2.2.2.1 (b.getD (i:Int).toNat zRw).2.2.2.2.1 && true))) && ((cEq (a.getD (i:Int).toNat zRw).2.2.2.2.2.1 (b.getD (i:Int).toNat zRw).2.2.2.2.2.1 && (cEq (a.getD (i:Int).toNat zRw).2.2.2.2.2.2.1 (b.getD (i:Int).toNat zRw).2.2.2.2.2.2.1 && (cEq (a.getD (i:Int).toNat zRw).2.2.2.2.2.2.2.1 (b.getD (i:Int).toNat zRw).2.2.2.2.2.2.2.1 && true))) && ((cEq (a.getD (i:Int).toNat zRw).2.2.2.2.2.2.2.2.1 (b.getD (i:Int).toNat zRw).2.2.2.2.2.2.2.2.1 && (cEq (a.getD (i:Int).toNat zRw).2.2.2.2.2.2.2.2.2.1 (b.getD (i:Int).toNat zRw).2.2.2.2.2.2.2.2.2.1 && (cEq (a.getD (i:Int).toNat zRw).2.2.2.2.2.2.2.2.2.2.1 (b.getD (i:Int).toNat zRw).2.2.2.2.2.2.2.2.2.2.1 && true))) && (((a.getD (i:Int).toNat zRw).2.2.2.2.2.2.2.2.2.2.2.1 == (b.getD (i:Int).toNat zRw).2.2.2.2.2.2.2.2.2.2.2.1) && (cEq (a.getD (i:Int).toNat zRw).2.2.2.2.2.2.2.2.2.2.2.2.1 (b.getD (i:Int).toNat zRw).2.2.2.2.2.2.2.2.2.2.2.2.1 && (cEq (a.getD (i:Int).toNat zRw).2.2.2.2.2.2.2.2.2.2.2.2.2.1 (b.getD (i:Int).toNat zRw).2.2.2.2.2.2.2.2.2.2.2.2.2.1 && (cEq (a.getD (i:Int).toNat zRw).2.2.2.2.2.2.2.2.2.2.2.2.2.2.1 (b.getD (i:Int).toNat zRw).2.2.2.2.2.2.2.2.2.2.2.2.2.2.1 && (cEq (a.getD (i:Int).toNat zRw).2.2.2.2.2.2.2.2.2.2.2.2.2.2.2.1 (b.getD (i:Int).toNat zRw).2.2.2.2.2.2.2.2.2.2.2.2.2.2.2.1 && (cEq (a.getD (i:Int).toNat zRw).2.2.2.2.2.2.2.2.2.2.2.2.2.2.2.2.1 (b.getD (i:Int).toNat zRw).2.2.2.2.2.2.2.2.2.2.2.2.2.2.2.2.1 && (cEq (a.getD (i:Int).toNat zRw).2.2.2.2.2.2.2.2.2.2.2.2.2.2.2.2.2 (b.getD (i:Int).toNat zRw).2.2.2.2.2.2.2.2.2.2.2.2.2.2.2.2.2 && true))))))))))))) = true then k0 else kn (IntKind.wrap .i64 ((i:Int) + 1))) else none) else none) else k2 := by kernel_rfl
theorem rsame2_l0_val {α:Type} (a b:List L31) (hl:a.length < 9223372036854775808) (he:a.length = b.length) (hp:∀ x ∈ a,x.2.2.2.2.2.2.2.2.2.2.2.2.2.2.2.2.2.2.2.2.2.2.2.1.2.length < 9223372036854775808) (k0 k2:Option α):∀ (fuel i:Nat),i ≤ a.length → a.length - i < fuel →
   M.rsame2_l0 a b k0 k2 fuel (i:Int) = if (a.drop i).map bfl = (b.drop i).map bfl then k2 else k0
 | 0,i,h1,h2 => by omega
 | f + 1,i,h1,h2 => by
   show M.rsame2_l0_step a b (M.rsame2_l0 a b k0 k2 f) k0 k2 (i:Int) = _
   rw [rsame2_l0_w,cLt_natR]
   by_cases hx:i < a.length
   · rw [w_nextR (by omega), rsame2_l0_val a b hl he hp k0 k2 f (i + 1) (by omega) (by omega)]
     have hb:((0:Int) ≤ (i:Int) ∧ (i:Int) < (b.length:Int)) = True := eq_true (by omega)
     have hm:a.getD i zBy ∈ a := by rw [List.getD_eq_getElem?_getD,List.getElem?_eq_getElem hx]; exact List.getElem_mem hx
     simp only [hx,decide_true,if_true,inBR hx,hb,Int.toNat_natCast,lenM_of (hp _ hm)]
     rw [dropR a zBy i hx,dropR b zBy i (by omega),List.map_cons,List.map_cons]
     by_cases hpq:bfl (a.getD i zBy) = bfl (b.getD i zBy)
     · rw [if_neg (by rw [(bSame_iff _ _).2 hpq]; decide), hpq]
       by_cases h4:(a.drop (i + 1)).map bfl = (b.drop (i + 1)).map bfl
       · rw [if_pos h4,if_pos (by rw [h4])]
       · rw [if_neg h4,if_neg (fun h => h4 (List.cons.inj h).2)]
     · have : V.bSame (a.getD i zBy) (b.getD i zBy) = false := by rw [Bool.eq_false_iff]; exact fun h => hpq ((bSame_iff _ _).1 h)
       rw [if_pos (by rw [this]; rfl),if_neg (fun h => hpq (List.cons.inj h).1)]
   · have : i = a.length := by omega
     subst this
     rw [if_neg (by simp),List.drop_eq_nil_of_le (Nat.le_refl _),List.drop_eq_nil_of_le (by omega),if_pos rfl]
theorem rsame2_l1_val {α:Type} (a b:List L18) (hl:a.length < 9223372036854775808) (he:a.length = b.length) (k0 k2:Option α):∀ (fuel i:Nat),i ≤ a.length → a.length - i < fuel →
   M.rsame2_l1 a b k0 k2 fuel (i:Int) = if a.drop i = b.drop i then k2 else k0
 | 0,i,h1,h2 => by omega
 | f + 1,i,h1,h2 => by
   show M.rsame2_l1_step a b (M.rsame2_l1 a b k0 k2 f) k0 k2 (i:Int) = _
   rw [rsame2_l1_w,cLt_natR,eq18]
   by_cases hx:i < a.length
   · rw [w_nextR (by omega), rsame2_l1_val a b hl he k0 k2 f (i + 1) (by omega) (by omega)]
     have hb:((0:Int) ≤ (i:Int) ∧ (i:Int) < (b.length:Int)) = True := eq_true (by omega)
     simp only [hx,decide_true,if_true,inBR hx,hb,Int.toNat_natCast]
     rw [dropR a zRw i hx,dropR b zRw i (by omega)]
     by_cases hpq:a.getD i zRw = b.getD i zRw
     · rw [if_neg (by rw [decide_eq_true hpq]; decide), hpq]
       by_cases h4:a.drop (i + 1) = b.drop (i + 1)
       · rw [if_pos h4,if_pos (by rw [h4])]
       · rw [if_neg h4,if_neg (fun h => h4 (List.cons.inj h).2)]
     · rw [if_pos (by rw [decide_eq_false hpq]; rfl),if_neg (fun h => hpq (List.cons.inj h).1)]
   · have : i = a.length := by omega
     subst this
     rw [if_neg (by simp),List.drop_eq_nil_of_le (Nat.le_refl _),List.drop_eq_nil_of_le (by omega),if_pos rfl]
theorem rsame2_v {α:Type} (a b:List L31) (r s:List L18) (hg:(V.lenM a.length && (V.lenM r.length && V.bsM a)) = true) (k0:Bool → Option α):M.rsame2 a b r s k0 = k0 (V.same2 a b r s) := by
 simp only [Bool.and_eq_true] at hg
 obtain ⟨g1,g2,g3⟩ := hg
 unfold M.rsame2
 rw [cEq_natR,cEq_natR]
 by_cases h1:a.length = b.length
 · rw [if_neg (by simp [h1])]
   by_cases h2:r.length = s.length
   · rw [if_neg (by simp [h2])]
     refine (rsame2_l0_val a b (lenM_lt g1) h1 (bsM_iff.1 g3) _ _ _ 0 (by omega) (by omega)).trans ?_
     have e := rsame2_l1_val r s (lenM_lt g2) h2 (k0 false) (k0 true) (100 + r.length + s.length) 0 (by omega) (by omega)
     rw [Int.natCast_zero] at e
     rw [e]
     simp only [List.drop_zero]
     unfold V.same2
     rw [hidR_eq]
     by_cases c1:a.map bfl = b.map bfl <;> by_cases c2:r = s <;> simp [c1,c2]
   · rw [if_pos (by simp [h2])]
     have:V.same2 a b r s = false := by rw [Bool.eq_false_iff]; intro h; exact h2 (by rw [(same2_iff.1 h).2])
     rw [this]
 · rw [if_pos (by simp [h1])]
   have:V.same2 a b r s = false := by
     rw [Bool.eq_false_iff]; intro h
     have := congrArg List.length (same2_iff.1 h).1
     simp at this; exact h1 this
   rw [this]
noncomputable def rsame2_h {α:Type} (ds:List D) (Q:SV → Hp → Option α):Option α :=
 dL kBy ds fun a ds => dL kBy ds fun b ds => dL kRw ds fun r ds => dL kRw ds fun s ds => dE ds (if (V.lenM a.length && (V.lenM r.length && V.bsM a)) = true then Q (.bool (V.same2 a b r s)) ([]) else none)
theorem rsame2_h_ok {α:Type}:FnOk E.P 19 (fEnt (α := α) rsame2_sp rsame2_h) :=
 fEntR_ok E (look_rsame_ok) (exec_sound E E_ok (look_rsame_ok) (rsame2_l1_lps_ok) 400) fun ds Q r h => by
   unfold rsame2_h at h
   obtain ⟨a,ds,rfl,h1⟩ := dL_inv h
   obtain ⟨b,ds,rfl,h2⟩ := dL_inv h1
   obtain ⟨r,ds,rfl,h3⟩ := dL_inv h2
   obtain ⟨s,ds,rfl,h4⟩ := dL_inv h3
   obtain ⟨rfl,hE⟩ := dE_inv h4
   split at hE
   · rename_i hg
     exact ⟨_,_,hE,fun vs => ⟨_,_,by kernel_rfl,(rsame2_eq a b r s (vs.headD undef) (vs.tail.headD undef) (vs.tail.tail.headD undef) (vs.tail.tail.tail.headD undef) _).trans (rsame2_v a b r s hg _)⟩⟩
   · cases hE
end
section
open Go
def BGood (x:L31):Prop := NrB x ∧ x.2.2.2.2.2.2.2.2.2.2.2.2.2.2.2.2.2.2.2.2.2.2.2.1.2.length < 9223372036854775808
theorem BGood_of {W:World} {x:L31} (h:RT.goodR W (.i .i64) [.i .i64,.i .i64,.i .i64,.i .i64,.i .i64,.i .i64,.i .i64,.i .i64,.i .i64,.i .i64,.i .i64,.i .i64,.i .i64,.i .i64,.i .i64,.i .i64,.i .i64,.i .i64,.i .i64,.i .i64,.i .i64,.i .i64,.p,.i .i64,.i .i64,.i .i64,.b,.i .i64,.b,.b] x):BGood x := by
 have h1:LK.goodR W .p x.2.2.2.2.2.2.2.2.2.2.2.2.2.2.2.2.2.2.2.2.2.2.2.1 := h.2.2.2.2.2.2.2.2.2.2.2.2.2.2.2.2.2.2.2.2.2.2.2.1
 exact ⟨h1.1,h1.2.2.1⟩
theorem psh_pts (turn:Bool) (arm j:V.T3) (x:L31):((V.psh turn arm j x).2.2.2.2.2.2.2.2.2.2.2.2.2.2.2.2.2.2.2.2.2.2.2.1).2 = x.2.2.2.2.2.2.2.2.2.2.2.2.2.2.2.2.2.2.2.2.2.2.2.1.2 := by
 unfold V.psh nB
 split
 · split <;> rfl
 · rfl
theorem BGood_psh (turn:Bool) (arm j:V.T3) {x:L31} (h:BGood x):BGood (V.psh turn arm j x) :=
 ⟨NrB_psh turn arm j x,by rw [psh_pts]; exact h.2⟩
theorem BGood_z:BGood zBy := ⟨rfl,by decide⟩
theorem BGood_stp (turn:Bool) (arm j:V.T3) (i:Int) {l:List L31} (h:∀ x ∈ l,BGood x):∀ x ∈ V.stp turn arm j i l,BGood x := by
 intro x hx
 unfold V.stp at hx
 split at hx
 · rcases List.mem_or_eq_of_mem_set hx with hx | rfl
   · exact h x hx
   · apply BGood_psh
     rw [List.getD_eq_getElem?_getD]
     cases he:l[i.toNat]? with
     | none => exact BGood_z
     | some y => exact h y (List.mem_of_getElem? he)
 · exact h x hx
theorem slvL_len (rows:List L18) (n:Int) (l:List L31):(V.slvL rows n l).length = l.length := by
 unfold V.slvL V.sl2 V.sl1
 split
 · split
   · rfl
   · rw [stp_len,stp_len]
 · rfl
theorem slvR_len (rows:List L18) (n:Int) (l:List L31):(V.slvR rows n l).length = rows.length := by
 unfold V.slvR
 split
 · split <;> simp
 · rfl
theorem slvL_good (rows:List L18) (n:Int) {l:List L31} (h:∀ x ∈ l,BGood x):∀ x ∈ V.slvL rows n l,BGood x := by
 unfold V.slvL V.sl2 V.sl1
 split
 · split
   · exact h
   · exact BGood_stp _ _ _ _ (BGood_stp _ _ _ _ h)
 · exact h
theorem nrB_good {l:List L31} (h:∀ x ∈ l,BGood x):V.nrB l = true := nrB_iff.2 fun x hx => (h x hx).1
theorem bsM_good {l:List L31} (h:∀ x ∈ l,BGood x):V.bsM l = true := bsM_iff.2 fun x hx => (h x hx).2
theorem ceq_refl (x:Int):cEq x x = true := by rw [cEq_eq]; exact beq_self_eq_true x
theorem beqR (b:Bool):(b == b) = true := by cases b <;> rfl
theorem same2_refl (a:List L31) (r:List L18):V.same2 a a r r = true := same2_iff.2 ⟨rfl,rfl⟩
end
end Go.Proofs.YtfkgmidgdpfnkaaGreat.Sx
