/- Texts of the walk, merged. -/
import Derived.Test.YtlagndfhibkjpaaGreatMg4
import Derived.ProofKit
import Derived.OpenShut
import Derived.Test.YtlagndfhibkjpaaGreatMg7
import Derived.Test.YtlagndfhibkjpaaGreatMg6
set_option linter.unusedVariables false
set_option linter.unusedSimpArgs false
namespace Go.Proofs.YtlagndfhibkjpaaGreat.Sx
section
open Go Go.RowKit Go.ChangeShapes
section
variable {H:Type} {enc:TypeId × Value → H} {P:Program}
theorem trodAll_keep (hl:laidOutB P = true) {W W':World} {sp:Nat → Bool}:∀ (ts:List TypeId) (vs:List Value) (ds:List (DataW H)) (ps:List MemPlace),(∀ t ∈ ts,P.readableRec t = true ∧ t < P.types.size) →
   DataW.TrodAll enc P W 0 (fun _ => true) true ts vs ds ps → (∀ x ∈ ps,W.sameAt W' x) → (∀ x ∈ ps,sp x.block = true) → DataW.TrodAll enc P W' 0 sp true ts vs ds ps
 | [],[],[],ps,_,h,_,_ => h
 | t :: ts,v :: vs,d :: ds,ps,hr,h,h1,h2 => by
   obtain ⟨p,q,a,b,rfl⟩ := h
   exact ⟨p, q, WideElems.Trod_stays hl (hr t (by simp)).1 (hr t (by simp)).2 a (fun x hx => h1 x (by simp [hx])) (fun x hx => h2 x (by simp [hx])),
     trodAll_keep hl ts vs ds q (fun t ht => hr t (by simp [ht])) b (fun x hx => h1 x (by simp [hx])) (fun x hx => h2 x (by simp [hx])),rfl⟩
 | [],_ :: _,_,_,_,h,_,_ => h.elim
 | [],[],_ :: _,_,_,h,_,_ => h.elim
 | _ :: _,[],_,_,_,h,_,_ => h.elim
 | _ :: _,_ :: _,[],_,_,h,_,_ => h.elim
theorem post_of_below {f:Func} {s:ChangeSpec} {apart fresh handsOn again:Bool} {W W':World} {args:Array Value} {ds gs:List (DataW H)} {before:List MemPlace} {tb:TypeId}
   (hl:laidOutB P = true) (hr:∀ t ∈ f.params.toList,P.readableRec t = true ∧ t < P.types.size) (hv:s.vars = []) (hres:f.resultTypes = #[tb]) (htb:P.underlying tb = some .bool)
   (hfn:(s.fn H (ds ++ gs)) = { results := [.lit (.bool true)],args := ds }) (hW:DataW.Whole enc P f.params.toList s.vars apart W args.toList ds gs before) (hb:Below W.heap.size W W') :
   s.post enc P f apart fresh handsOn again W args (.bool true) W' := by
 have hW0 := hW
 obtain ⟨p,q,hA,hV,hps,hfz,hnd⟩ := hW
 rw [hv] at hV
 obtain ⟨rfl,rfl⟩ := trodVars_none hV
 rw [List.append_nil] at hps
 subst hps
 have hlt:∀ x ∈ before,x.block < W.heap.size := fun x hx => hW0.lt x hx
 have hsame:∀ x ∈ before,W.sameAt W' x := fun x hx => hb.same (hlt x hx)
 have hargs:∀ sp:Nat → Bool,(∀ x ∈ before,sp x.block = true) → DataW.TrodAll enc P W' 0 sp true f.params.toList args.toList ds before := fun sp hsp => trodAll_keep hl _ _ _ _ hr hA hsame hsp
 have hbool:∀ (b:Nat) (sp:Nat → Bool) (hd:Bool),DataW.Trod enc P W' b sp hd tb (.bool true) (.lit (.bool true)) [] := fun b sp hd => ⟨1,by simp [DataW.trod,Value.cells,htb]⟩
 have hres1:∀ (b:Nat) (sp:Nat → Bool) (hd:Bool),DataW.TrodAll enc P W' b sp hd f.resultTypes.toList ((Value.bool true).resultList f.resultTypes.size) [.lit (.bool true)] [] := by
   intro b sp hd
   rw [hres]
   exact trodAll_mk1 (hbool b sp hd)
 have hk : W.keptBut W' (fun _ => False) := by
   refine ⟨hb.os,hb.output,fun i hi => ?_⟩
   rw [hb.block i hi]
   cases W.heap[i]? with
   | none => rfl
   | some o => cases o with
     | cells c t fr => exact ⟨rfl,rfl,rfl,fun _ _ => rfl⟩
     | map es ck => exact .inr ⟨rfl,rfl⟩
     | _ => rfl
 refine ⟨ds,[],before,[],before,[],hW0,?_,?_,?_,World.keptBut_mono (fun _ h => h.elim) hk,fun _ => ⟨?_,_,[],([] ++ before) ++ [],⟨[] ++ before,[],trodAll_append (hargs _ fun _ _ => rfl) (hres1 _ _ _),?_,rfl,?_,?_⟩,fun x hx _ => by simpa using hx⟩⟩
 · rw [hfn]; exact hres1 _ _ _
 · rw [hfn]; exact hargs _ fun x hx => by simpa using hlt x hx
 · rw [hfn,hv]; rfl
 · intro j t r h1 h2
   rw [hres] at h1 h2
   cases j with
   | zero =>
     simp [Value.resultList] at h1 h2
     subst h1; subst h2
     simp [Value.okWide,htb,Cell.okWide,Cell.ok]
   | succ j => simp at h1
 · rw [hv]; rfl
 · intro b off hx
   have hx':MemPlace.cell b off ∈ before := by simpa using hx
   have := hfz b off hx'
   unfold World.frozen? at this ⊢
   have hbl:b < W.heap.size := hlt _ hx'
   simp only [hb.block b hbl]
   exact this
 · intro ha
   simpa using hnd ha
end
theorem flat_get (κ:K):∀ (xs:List κ.T) (q m:Nat),q < xs.length → m < κ.sz → (xs.flatMap κ.cells)[q * κ.sz + m]? = (κ.cells (xs[q]?.getD κ.dflt))[m]?
 | [],q,m,h,_ => by simp at h
 | x :: xs,0,m,h,hm => by
   rw [List.flatMap_cons,List.getElem?_append_left (by rw [K.cells_length]; omega)]
   simp
 | x :: xs,q + 1,m,h,hm => by
   rw [List.flatMap_cons,List.getElem?_append_right (by rw [K.cells_length,Nat.add_mul]; omega),K.cells_length]
   rw [show (q + 1) * κ.sz + m - κ.sz = q * κ.sz + m by rw [Nat.add_mul]; omega]
   simpa using flat_get κ xs q m (by simpa using h) hm
theorem ros_trod {H:Type} {enc:TypeId × Value → H} {P:Program} {W:World} {t e:TypeId} {κ:K} {good:κ.T → Prop} {fuel:Nat} {cs:List Value} {x:DataW H × List MemPlace} (ht:P.underlying t = some (.slice e)) (hc:P.cellsOf e = κ.sz)
   (hel:∀ n cs x,DataW.trod enc P W 0 (fun _ => true) true n e cs = some x → ∃ y:κ.T,cs = κ.cells y ∧ good y) (h:DataW.trod enc P W 0 (fun _ => true) true fuel t cs = some x) :
   ∃ v,cs = [v] ∧ ∃ xs:List κ.T,(∀ x ∈ xs,good x) ∧ xs.length < 9223372036854775808 ∧ RosOk (fun b => b < W.heap.size) W v κ xs := by
 rcases DataW.trod_slice ht h with ⟨rfl,_⟩ | ⟨a,l0,c0,elems,rest,n,_,rfl,_,hb,hl,hm,hlen,hes,_,_⟩
 · exact ⟨_,rfl,[],by simp,by simp,.inl ⟨rfl,none,0,rfl⟩⟩
 · refine ⟨_, rfl, ?_⟩
   have each:∀ i,i < l0 → ∃ y:κ.T,W.cells? 0 (a.add (i * κ.sz)) κ.sz = some (κ.cells y) ∧ good y := by
     intro i hi
     have h1 := hes i hi
     rw [hc] at h1
     have h2:elems[i]? = some (elems[i]'(by omega)) := List.getElem?_eq_getElem (by omega)
     rw [h2,Option.bind_eq_some_iff] at h1
     obtain ⟨cs,hcs,hx⟩ := h1
     obtain ⟨y,rfl,hy⟩ := hel _ _ _ hx
     exact ⟨y,hcs,hy⟩
   have all:∀ k,k ≤ l0 → ∃ xs:List κ.T,xs.length = k ∧ (∀ x ∈ xs,good x) ∧ ∀ i,(hi:i < xs.length) → W.cells? 0 (a.add (i * κ.sz)) κ.sz = some (κ.cells xs[i]) := by
     intro k
     induction k with
     | zero => exact fun _ => ⟨[],rfl,by simp,by simp⟩
     | succ k ih =>
       intro hk
       obtain ⟨xs,e1,e2,e3⟩ := ih (by omega)
       obtain ⟨y,e4,e5⟩ := each k (by omega)
       refine ⟨xs ++ [y],by simp [e1],?_,?_⟩
       · intro x hx
         rcases List.mem_append.1 hx with hx | hx
         · exact e2 x hx
         · simp at hx; subst hx; exact e5
       · intro i hi
         by_cases hik:i < xs.length
         · rw [List.getElem_append_left hik]; exact e3 i hik
         · have : i = xs.length := by simp at hi; omega
           subst this
           rw [List.getElem_append_right (by omega)]
           simpa [e1] using e4
   obtain ⟨xs,e1,e2,e3⟩ := all l0 (Nat.le_refl _)
   refine ⟨xs,e2,by unfold maxLen at hm; omega,?_⟩
   by_cases h0:l0 = 0
   · subst h0
     exact .inl ⟨List.eq_nil_of_length_eq_zero e1,_,_,rfl⟩
   · have hcell : ∀ i j, i < l0 → j < κ.sz → W.cell? ((a.add (i * κ.sz)).add j) = (κ.cells (xs[i]?.getD κ.dflt))[j]? := by
       intro i j hi hj
       have := (World.cells?_some (e3 i (by omega))).2.2 j hj
       rw [this]
       simp [show i < xs.length by omega]
     have hsz:0 < κ.sz := K.sz_pos κ
     have h00 := hcell 0 0 (by omega) hsz
     have hsp:a.spot = none ∧ a.block < W.heap.size := by
       have e0:(a.add (0 * κ.sz)).add 0 = a := by simp [Addr.add]
       rw [e0] at h00
       have hne:(κ.cells (xs[0]?.getD κ.dflt))[0]? ≠ none := by
         rw [List.getElem?_eq_getElem (by rw [K.cells_length]; exact hsz)]; simp
       rw [← h00] at hne
       unfold World.cell? at hne
       split at hne
       · rename_i c t' f' hh
         refine ⟨?_,?_⟩
         · cases hs : a.spot with
           | none => rfl
           | some q => simp [hs] at hne
         · exact (Array.getElem?_eq_some_iff.1 hh).1
       · simp at hne
     refine .inr ⟨a,c0,by rw [e1],by omega,hsp.1,hsp.2,?_⟩
     intro j c hj
     have hjl:j < xs.length * κ.sz := by
       have := (List.getElem?_eq_some_iff.1 hj).1
       rwa [cells_flat_length] at this
     have hq:j / κ.sz < xs.length := Nat.div_lt_of_lt_mul (by rwa [Nat.mul_comm])
     have hm':j % κ.sz < κ.sz := Nat.mod_lt _ hsz
     have hadd:(⟨a.block,a.off + j,none⟩:Addr) = (a.add (j / κ.sz * κ.sz)).add (j % κ.sz) := by
       obtain ⟨ab,ao,asp⟩ := a
       have:asp = none := hsp.1
       subst this
       rw [add_lit,add_lit,Nat.add_assoc,Nat.div_add_mod' j κ.sz]
     rw [hadd,hcell _ _ (by omega) hm']
     rw [← flat_get κ xs (j / κ.sz) (j % κ.sz) hq hm',Nat.div_add_mod' j κ.sz]
     exact hj
theorem wf64 {n:Int} (h:(Lit.int .i64 n).wf = true):-9223372036854775808 ≤ n ∧ n < 9223372036854775808 := by
 simp only [Lit.wf,Bool.and_eq_true,decide_eq_true_eq] at h
 have h1:IntKind.i64.min = -9223372036854775808 := by decide
 have h2:IntKind.i64.max = 9223372036854775807 := by decide
 rw [h1,h2] at h
 omega
theorem sound_of {P:Program} {f:FuncId} {c:List SV → Hp → (SV → Hp → Option (SV × Hp)) → Option (SV × Hp)} {args:List SV} {v:SV} {H':Hp} (h:FnOk P f c) (hc:c args [] (fun v H => some (v,H)) = some (v,H')):Sound P f args [] v H' := by
 obtain ⟨v,H',h1,h2⟩ := h _ _ _ _ hc
 cases h1
 exact h2
theorem law_calls {P:Program} {f:FuncId} {args:List SV} (hs:Sound P f args [] (.bool true) []) (W:World)
   (hok:∀ (ρ:Nat → Tk),SV.okL (fun b => b < W.heap.size) W ρ 0 args) :
   Calls P f (denL (fun _ => ⟨0,.slice none 0 0⟩) args).toArray W fun e W' => e = .returned (.bool true) ∧ Below W.heap.size W W' := by
 have := hs.run ⟨fun b => b < W.heap.size, W, fun b => W.heap.size ≤ b⟩ (fun _ => ⟨0, .slice none 0 0⟩) W
   { obj := by intro t o h; simp at h
     sep := by intro t t' b h; simp [blkOf] at h
     own := by intro t b h; simp [blkOf] at h
     hdr := fun t => ⟨none,0,0,rfl⟩
     keep := fun _ _ _ => rfl
     size := Nat.le_refl _
     os := rfl
     tape := rfl
     output := rfl
     ok := by intro t o h; simp at h
     fit := ⟨fun b h => h,fun b h => ⟨h,by show ¬ (W.heap.size ≤ b); have:b < W.heap.size := h; omega⟩⟩ } (hok _)
 refine this.mono fun e W' ⟨ρ',_,he,hR,_⟩ => ⟨by rw [he]; rfl,hR.os,hR.tape,hR.output,hR.size,fun k hk => hR.keep k hk (by show ¬ (W.heap.size ≤ k); omega)⟩
def LK.good:(k:LK) → k.T → Prop
 | .i k,n => (Lit.int k n).wf = true
 | .b,_ => True
def RT.good:(k:LK) → (ks:List LK) → RT k ks → Prop
 | k,[],x => k.good x
 | k,k' :: ks,x => k.good x.1 ∧ RT.good k' ks x.2
def Mt:List LK → List Value → Prop
 | [],[] => True
 | .i k :: ks,.int k' n :: cs => k' = k ∧ (Lit.int k n).wf = true ∧ Mt ks cs
 | .b :: ks,.bool _ :: cs => Mt ks cs
 | _,_ => False
theorem Mt.length:∀ {ks:List LK} {cs:List Value},Mt ks cs → cs.length = ks.length
 | [],[],_ => rfl
 | .i _ :: ks,.int _ _ :: cs,h => by simp [Mt.length (ks := ks) (cs := cs) h.2.2]
 | .b :: ks,.bool _ :: cs,h => by simp [Mt.length (ks := ks) (cs := cs) h]
 | [],_ :: _,h => h.elim
 | .i _ :: _,[],h => h.elim
 | .b :: _,[],h => h.elim
theorem Mt.append:∀ {ks ls:List LK} {cs ds:List Value},Mt ks cs → Mt ls ds → Mt (ks ++ ls) (cs ++ ds)
 | [],ls,[],ds,_,h => h
 | .i _ :: ks,ls,.int _ _ :: cs,ds,h,h' => ⟨h.1,h.2.1,Mt.append h.2.2 h'⟩
 | .b :: ks,ls,.bool _ :: cs,ds,h,h' => Mt.append (ks := ks) (cs := cs) h h'
 | [],_,_ :: _,_,h,_ => h.elim
 | .i _ :: _,_,[],_,h,_ => h.elim
 | .b :: _,_,[],_,h,_ => h.elim
theorem Mt.data:∀ {k:LK} {ks:List LK} {cs:List Value},Mt (k :: ks) cs → ∃ x:RT k ks,cs = RT.cells k ks x ∧ RT.good k ks x
 | .i k,[],[.int k' n],h => by obtain ⟨rfl,h2,_⟩ := h; exact ⟨n,rfl,h2⟩
 | .b,[],[.bool v],h => ⟨v,rfl,trivial⟩
 | .i k,k2 :: ks,.int k' n :: cs,h => by
   obtain ⟨rfl,h2,h3⟩ := h
   obtain ⟨x,rfl,hx⟩ := Mt.data h3
   exact ⟨(n,x),rfl,h2,hx⟩
 | .b,k2 :: ks,.bool v :: cs,h => by
   obtain ⟨x,rfl,hx⟩ := Mt.data (cs := cs) (k := k2) (ks := ks) h
   exact ⟨(v,x),rfl,trivial,hx⟩
 | .i _,[],.int _ _ :: _ :: _,h => h.2.2.elim
 | .b,[],.bool _ :: _ :: _,h => h.elim
 | .i _,_,[],h => h.elim
 | .b,_,[],h => h.elim
def shpFs (P:Program) (f:TypeId → Option (List LK)):List Field → Nat → Option (List LK)
 | [],_ => some []
 | x :: l,off => if x.offset = off then (f x.type).bind fun ks => if ks.length = P.cellsOf x.type then (shpFs P f l (off + ks.length)).map fun ls => ks ++ ls else none else none
def rep {α:Type}:Nat → List α → List α
 | 0,_ => []
 | n + 1,l => l ++ rep n l
def shp (P:Program):Nat → TypeId → Option (List LK)
 | 0,_ => none
 | d + 1, t => match P.underlying t with
   | some (.int k) => some [.i k]
   | some .bool => some [.b]
   | some (.struct fs) => (shpFs P (shp P d) fs.toList 0).bind fun ks => if ks.length = P.cellsOf t then some ks else none
   | some (.array n e) => (shp P d e).bind fun ks => if ks.length = P.cellsOf e ∧ n * ks.length = P.cellsOf t then some (rep n ks) else none
   | _ => none
theorem trod_bool' {H:Type} {enc:TypeId × Value → H} {P:Program} {W:World} {b:Nat} {sp:Nat → Bool} {hd:Bool} {t:TypeId} {n:Nat} {cs:List Value} {x:DataW H × List MemPlace}
   (ht:P.underlying t = some .bool) (h:DataW.trod enc P W b sp hd n t cs = some x):∃ v,cs = [.bool v] := by
 cases n with
 | zero => simp [DataW.trod] at h
 | succ n =>
   unfold DataW.trod at h
   rw [ht] at h
   split at h <;> simp_all
theorem trod_shp {H:Type} {enc:TypeId × Value → H} {P:Program} {W:World} {b:Nat} {sp:Nat → Bool} {hd:Bool}:∀ (d:Nat) (t:TypeId) (ks:List LK),shp P d t = some ks →
   ∀ (n:Nat) (cs:List Value) (x:DataW H × List MemPlace),DataW.trod enc P W b sp hd n t cs = some x → Mt ks cs
 | 0,t,ks,h => by simp [shp] at h
 | d + 1,t,ks,h => by
   intro n cs x hx
   have ih := trod_shp (enc := enc) (P := P) (W := W) (b := b) (sp := sp) (hd := hd) d
   unfold shp at h
   split at h
   · rename_i k ht
     cases h
     obtain ⟨m,rfl,_,hw⟩ := DataW.trod_int ht hx
     exact ⟨rfl,hw,trivial⟩
   · rename_i ht
     cases h
     obtain ⟨v,rfl⟩ := trod_bool' ht hx
     trivial
   · rename_i fs ht
     rw [Option.bind_eq_some_iff] at h
     obtain ⟨ks',h1,h2⟩ := h
     split at h2
     · rename_i hl
       cases h2
       obtain ⟨xs,m,_,_,hlen,hxl,hf⟩ := DataW.trod_struct ht hx
       have each:∀ f ∈ fs.toList,∃ x,DataW.trod enc P W b sp hd m f.type ((cs.drop f.offset).take (P.cellsOf f.type)) = some x := by
         intro f hf'
         obtain ⟨i,hi,rfl⟩ := List.mem_iff_getElem.1 hf'
         have hi':i < fs.size := by simpa using hi
         have := hf i _ (by simp [hi']:fs[i]? = some (fs.toList[i]))
         exact ⟨xs[i]'(by omega),by rw [this]; simp [show i < xs.length by omega]⟩
       have main:∀ (l:List Field) (off:Nat) (ks:List LK),(∀ f ∈ l,∃ x,DataW.trod enc P W b sp hd m f.type ((cs.drop f.offset).take (P.cellsOf f.type)) = some x) →
           shpFs P (shp P d) l off = some ks → cs.length = off + ks.length → Mt ks (cs.drop off) := by
         intro l
         induction l with
         | nil =>
           intro off ks _ hk hl2
           simp [shpFs] at hk
           subst hk
           rw [List.drop_eq_nil_of_le (by simp at hl2; omega)]
           trivial
         | cons f l ihl =>
           intro off ks he hk hl2
           unfold shpFs at hk
           split at hk
           · rename_i ho
             rw [Option.bind_eq_some_iff] at hk
             obtain ⟨k1,a1,a2⟩ := hk
             split at a2
             · rename_i hk1
               rw [Option.map_eq_some_iff] at a2
               obtain ⟨k2,a3,rfl⟩ := a2
               obtain ⟨y,hy⟩ := he f (by simp)
               have m1 := ih _ _ a1 _ _ _ hy
               have m2 := ihl (off + k1.length) k2 (fun g hg => he g (by simp [hg])) a3 (by simp at hl2; omega)
               rw [ho,← hk1] at m1
               have e:cs.drop off = (cs.drop off).take k1.length ++ cs.drop (off + k1.length) := by
                 rw [← List.drop_drop,List.take_append_drop]
               rw [e]
               exact m1.append m2
             · cases a2
           · cases hk
       have := main fs.toList 0 _ each h1 (by omega)
       simpa using this
     · cases h2
   · rename_i n' e ht
     rw [Option.bind_eq_some_iff] at h
     obtain ⟨k1,h1,h2⟩ := h
     split at h2
     · rename_i hl
       cases h2
       obtain ⟨xs,m,_,_,hlen,hxl,hf⟩ := DataW.trod_array ht hx
       have each:∀ i,i < n' → Mt k1 ((cs.drop (i * k1.length)).take k1.length) := by
         intro i hi
         have := hf i hi
         rw [List.getElem?_eq_getElem (by omega)] at this
         have := ih _ _ h1 _ _ _ this
         rwa [← hl.1] at this
       have main:∀ j,j ≤ n' → Mt (rep j k1) (cs.drop ((n' - j) * k1.length)) := by
         intro j
         induction j with
         | zero =>
           intro _
           rw [List.drop_eq_nil_of_le (by simp; omega)]
           trivial
         | succ j ihj =>
           intro hj
           have m1 := each (n' - (j + 1)) (by omega)
           have m2 := ihj (by omega)
           have e0:(n' - (j + 1)) * k1.length + k1.length = (n' - j) * k1.length := by
             rw [show n' - j = (n' - (j + 1)) + 1 by omega,Nat.add_mul]; omega
           have e:cs.drop ((n' - (j + 1)) * k1.length) = (cs.drop ((n' - (j + 1)) * k1.length)).take k1.length ++ cs.drop ((n' - j) * k1.length) := by
             rw [← e0,← List.drop_drop,List.take_append_drop]
           rw [e]
           exact m1.append m2
       have := main n' (Nat.le_refl _)
       simpa using this
     · cases h2
   · cases h
theorem el_st {H:Type} {enc:TypeId × Value → H} {P:Program} {W:World} {t:TypeId} {k:LK} {ks:List LK} (d:Nat) (hs:shp P d t = some (k :: ks)) :
   ∀ n cs x,DataW.trod enc P W 0 (fun _ => true) true n t cs = some x → ∃ y:(K.st k ks).T,cs = (K.st k ks).cells y ∧ RT.good k ks y :=
 fun n cs x h => (trod_shp d t _ hs n cs x h).data
theorem open_st {H:Type} {enc:TypeId × Value → H} {P:Program} {W:World} {r:Reach} {b0:Nat} {t:TypeId} {v:Value} {dd:DataW H} {ps:List MemPlace} {k:LK} {ks:List LK} (d:Nat) (hs:shp P d t = some (k :: ks))
   (ha:(match P.underlying t with | some (.struct _) | some (.array _ _) => true | _ => false) = true) (hval:Value.okWide P W r b0 t v) (h:DataW.Trod enc P W 0 (fun _ => true) true t v dd ps) :
   ∃ y:RT k ks,v = .agg (RT.cells k ks y).toArray ∧ RT.good k ks y := by
 have:∃ cs,v = .agg cs := by
   unfold Value.okWide at hval
   split at hval
   · obtain ⟨cs,rfl,_⟩ := hval; exact ⟨cs,rfl⟩
   · obtain ⟨cs,rfl,_⟩ := hval; exact ⟨cs,rfl⟩
   · rename_i h1 h2
     exfalso
     split at ha
     · rename_i fs hf; exact h1 fs hf
     · rename_i n e hf; exact h2 n e hf
     · cases ha
 obtain ⟨cs,rfl⟩ := this
 obtain ⟨fuel,h⟩ := h
 obtain ⟨y,hy,hg⟩ := (trod_shp d t _ hs _ _ _ h).data
 have hy':cs.toList = RT.cells k ks y := hy
 exact ⟨y,by rw [← hy'],hg⟩
inductive RK where
 | leaf (k:LK) | sl (t:TypeId)
def MtR {H:Type} (enc:TypeId × Value → H) (P:Program) (W:World):List RK → List Value → Prop
 | [],[] => True
 | .leaf (.i k) :: ks,.int k' n :: cs => k' = k ∧ (Lit.int k n).wf = true ∧ MtR enc P W ks cs
 | .leaf .b :: ks,.bool _ :: cs => MtR enc P W ks cs
 | .sl t :: ks,v :: cs => (∃ fuel x,DataW.trod enc P W 0 (fun _ => true) true fuel t [v] = some x) ∧ MtR enc P W ks cs
 | _,_ => False
theorem MtR.append {H:Type} {enc:TypeId × Value → H} {P:Program} {W:World}:∀ {ks ls:List RK} {cs ds:List Value},MtR enc P W ks cs → MtR enc P W ls ds → MtR enc P W (ks ++ ls) (cs ++ ds)
 | [],ls,[],ds,_,h => h
 | .leaf (.i _) :: ks,ls,.int _ _ :: cs,ds,h,h' => ⟨h.1,h.2.1,MtR.append h.2.2 h'⟩
 | .leaf .b :: ks,ls,.bool _ :: cs,ds,h,h' => MtR.append (ks := ks) (cs := cs) h h'
 | .sl _ :: ks,ls,v :: cs,ds,h,h' => ⟨h.1,MtR.append h.2 h'⟩
theorem MtR.ci {H:Type} {enc:TypeId × Value → H} {P:Program} {W:World} {k:IntKind} {ks:List RK}:∀ {cs:List Value},MtR enc P W (.leaf (.i k) :: ks) cs → ∃ n cs',cs = .int k n :: cs' ∧ (Lit.int k n).wf = true ∧ MtR enc P W ks cs'
 | .int _ n :: cs,h => by obtain ⟨rfl,h2,h3⟩ := h; exact ⟨n,cs,rfl,h2,h3⟩
theorem MtR.cs {H:Type} {enc:TypeId × Value → H} {P:Program} {W:World} {t:TypeId} {ks:List RK}:∀ {cs:List Value},MtR enc P W (.sl t :: ks) cs → ∃ v cs',cs = v :: cs' ∧ (∃ fuel x,DataW.trod enc P W 0 (fun _ => true) true fuel t [v] = some x) ∧ MtR enc P W ks cs'
 | v :: cs,h => ⟨v,cs,rfl,h.1,h.2⟩
theorem MtR.nil {H:Type} {enc:TypeId × Value → H} {P:Program} {W:World}:∀ {cs:List Value},MtR enc P W [] cs → cs = []
 | [],_ => rfl
def shpRF (P:Program) (f:TypeId → Option (List RK)):List Field → Nat → Option (List RK)
 | [],_ => some []
 | x :: l,off => if x.offset = off then (f x.type).bind fun ks => if ks.length = P.cellsOf x.type then (shpRF P f l (off + ks.length)).map fun ls => ks ++ ls else none else none
def shpR (P:Program):Nat → TypeId → Option (List RK)
 | 0,_ => none
 | d + 1, t => match P.underlying t with
   | some (.int k) => some [.leaf (.i k)]
   | some .bool => some [.leaf .b]
   | some (.slice _) => some [.sl t]
   | some (.struct fs) => (shpRF P (shpR P d) fs.toList 0).bind fun ks => if ks.length = P.cellsOf t then some ks else none
   | _ => none
theorem trod_shpR {H:Type} {enc:TypeId × Value → H} {P:Program} {W:World}:∀ (d:Nat) (t:TypeId) (ks:List RK),shpR P d t = some ks →
   ∀ (n:Nat) (cs:List Value) (x:DataW H × List MemPlace),DataW.trod enc P W 0 (fun _ => true) true n t cs = some x → MtR enc P W ks cs
 | 0,t,ks,h => by simp [shpR] at h
 | d + 1,t,ks,h => by
   intro n cs x hx
   have ih := trod_shpR (enc := enc) (P := P) (W := W) d
   unfold shpR at h
   split at h
   · rename_i k ht
     cases h
     obtain ⟨m,rfl,_,hw⟩ := DataW.trod_int ht hx
     exact ⟨rfl,hw,trivial⟩
   · rename_i ht
     cases h
     obtain ⟨v,rfl⟩ := trod_bool' ht hx
     trivial
   · rename_i e ht
     cases h
     rcases DataW.trod_slice ht hx with ⟨rfl,_⟩ | ⟨a,l0,c0,elems,rest,n,_,rfl,_⟩
     · exact ⟨⟨_,_,hx⟩,trivial⟩
     · exact ⟨⟨_,_,hx⟩,trivial⟩
   · rename_i fs ht
     rw [Option.bind_eq_some_iff] at h
     obtain ⟨ks',h1,h2⟩ := h
     split at h2
     · rename_i hl
       cases h2
       obtain ⟨xs,m,_,_,hlen,hxl,hf⟩ := DataW.trod_struct ht hx
       have each:∀ f ∈ fs.toList,∃ x,DataW.trod enc P W 0 (fun _ => true) true m f.type ((cs.drop f.offset).take (P.cellsOf f.type)) = some x := by
         intro f hf'
         obtain ⟨i,hi,rfl⟩ := List.mem_iff_getElem.1 hf'
         have hi':i < fs.size := by simpa using hi
         have := hf i _ (by simp [hi']:fs[i]? = some (fs.toList[i]))
         exact ⟨xs[i]'(by omega),by rw [this]; simp [show i < xs.length by omega]⟩
       have main:∀ (l:List Field) (off:Nat) (ks:List RK),(∀ f ∈ l,∃ x,DataW.trod enc P W 0 (fun _ => true) true m f.type ((cs.drop f.offset).take (P.cellsOf f.type)) = some x) →
           shpRF P (shpR P d) l off = some ks → cs.length = off + ks.length → MtR enc P W ks (cs.drop off) := by
         intro l
         induction l with
         | nil =>
           intro off ks _ hk hl2
           simp [shpRF] at hk
           subst hk
           rw [List.drop_eq_nil_of_le (by simp at hl2; omega)]
           trivial
         | cons f l ihl =>
           intro off ks he hk hl2
           unfold shpRF at hk
           split at hk
           · rename_i ho
             rw [Option.bind_eq_some_iff] at hk
             obtain ⟨k1,a1,a2⟩ := hk
             split at a2
             · rename_i hk1
               rw [Option.map_eq_some_iff] at a2
               obtain ⟨k2,a3,rfl⟩ := a2
               obtain ⟨y,hy⟩ := he f (by simp)
               have m1 := ih _ _ a1 _ _ _ hy
               have m2 := ihl (off + k1.length) k2 (fun g hg => he g (by simp [hg])) a3 (by simp at hl2; omega)
               rw [ho,← hk1] at m1
               have e:cs.drop off = (cs.drop off).take k1.length ++ cs.drop (off + k1.length) := by
                 rw [← List.drop_drop,List.take_append_drop]
               rw [e]
               exact m1.append m2
             · cases a2
           · cases hk
       have := main fs.toList 0 _ each h1 (by omega)
       simpa using this
     · cases h2
   · cases h
theorem open_str {H:Type} {enc:TypeId × Value → H} {P:Program} {W:World} {r:Reach} {b0:Nat} {t:TypeId} {v:Value} {dd:DataW H} {ps:List MemPlace} {ks:List RK} (d:Nat) (hs:shpR P d t = some ks)
   (ha:(match P.underlying t with | some (.struct _) | some (.array _ _) => true | _ => false) = true) (hval:Value.okWide P W r b0 t v) (h:DataW.Trod enc P W 0 (fun _ => true) true t v dd ps) :
   ∃ cs:List Value,v = .agg cs.toArray ∧ MtR enc P W ks cs := by
 have:∃ cs,v = .agg cs := by
   unfold Value.okWide at hval
   split at hval
   · obtain ⟨cs,rfl,_⟩ := hval; exact ⟨cs,rfl⟩
   · obtain ⟨cs,rfl,_⟩ := hval; exact ⟨cs,rfl⟩
   · rename_i h1 h2
     exfalso
     split at ha
     · rename_i fs hf; exact h1 fs hf
     · rename_i n e hf; exact h2 n e hf
     · cases ha
 obtain ⟨cs,rfl⟩ := this
 obtain ⟨fuel,h⟩ := h
 exact ⟨cs.toList,by simp,trod_shpR d t _ hs _ _ _ h⟩
noncomputable def _root_.Go.Proofs.YtlagndfhibkjpaaGreat.V.gB (p:Prop):Bool := open Classical in Classical.choose (⟨decide p,rfl⟩:∃ r:Bool,r = decide p)
theorem gB_of {p:Prop} (h:p):V.gB p = true := by
 have e:V.gB p = _ := Classical.choose_spec (⟨open Classical in decide p,rfl⟩:∃ r:Bool,r = open Classical in decide p)
 rw [e]; simp [h]
theorem gB_iff {p:Prop} (h:V.gB p = true):p := by
 have e:V.gB p = _ := Classical.choose_spec (⟨open Classical in decide p,rfl⟩:∃ r:Bool,r = open Classical in decide p)
 rw [e] at h; simpa using h
end
section
open Go
set_option maxRecDepth 20000
noncomputable def look_PoE_pawake {α:Type}:LookF α := addFn 20 (fEnt pawake_sp pawake_h) look_rplace
theorem look_PoE_pawake_ok {α:Type}:LookOk E.P (look_PoE_pawake (α := α)) := addFn_ok pawake_h_ok (look_rplace_ok)
noncomputable def M.lcores {α:Type} (ap:L3) (ax:L3) (ae:L3) (ar:Int) (bp:L3) (bx:L3) (be:L3) (br:Int) (k0:Bool → Option α):Option α := if cEq ar br = true then if V.lenB (List.length ap) = true then if V.ptsEq ap bp = true then if V.lenB (List.length ax) = true then if V.ptsEq ax bx = true then if V.lenB (List.length ae) = true then k0 (V.ptsEq ae be) else none else k0 false else none else k0 false else none else k0 false
theorem lcores_eq {α:Type} (ap:L3) (ax:L3) (ae:L3) (ar:Int) (bp:L3) (bx:L3) (be:L3) (br:Int) (v0:Value) (v1:Value) (v2:Value) (v3:Value) (v4:Value) (v5:Value) (Q:SV → Hp → Option α):callI E look_PoE_pawake (exec E look_PoE_pawake noLps 400) 24 ([SV.agg [SV.ros v0 kP ap,SV.ros v1 kP ax,SV.ros v2 kP ae,SV.int .i64 ar],
 SV.agg [SV.ros v3 kP bp,SV.ros v4 kP bx,SV.ros v5 kP be,SV.int .i64 br]]) ([]) Q = M.lcores ap ax ae ar bp bx be br (fun (x6:Bool) => Q (SV.bool x6) ([])) := by kernel_rfl
def lcores_sp:List AS := [.st [.ro kP,.ro kP,.ro kP,.leaf (.int .i64 0)],.st [.ro kP,.ro kP,.ro kP,.leaf (.int .i64 0)]]
def _root_.Go.Proofs.YtlagndfhibkjpaaGreat.V.corEq (ap ax ae:List P3) (ar:Int) (bp bx be:List P3) (br:Int):Bool := decide (ar = br ∧ ap = bp ∧ ax = bx ∧ ae = be)
theorem lcores_v {α:Type} (ap ax ae:List P3) (ar:Int) (bp bx be:List P3) (br:Int) (h1:V.lenB ap.length = true) (h2:V.lenB ax.length = true) (h3:V.lenB ae.length = true) (k0:Bool → Option α) :
   M.lcores ap ax ae ar bp bx be br k0 = k0 (V.corEq ap ax ae ar bp bx be br) := by
 unfold M.lcores V.corEq V.ptsEq
 rw [cEq_eq,if_pos h1,if_pos h2,if_pos h3]
 by_cases c1:ar = br
 · by_cases c2 : ap = bp
   · by_cases c3 : ax = bx
     · simp [c1,c2,c3]
     · simp [c1,c2,c3]
   · simp [c1,c2]
 · simp [c1]
noncomputable def lcores_h {α:Type} (ds:List D) (Q:SV → Hp → Option α):Option α :=
 dL kP ds fun ap ds => dL kP ds fun ax ds => dL kP ds fun ae ds => dI ds fun ar ds => dL kP ds fun bp ds => dL kP ds fun bx ds => dL kP ds fun be ds => dI ds fun br ds => dE ds (if V.lenB ap.length = true ∧ V.lenB ax.length = true ∧ V.lenB ae.length = true then Q (.bool (V.corEq ap ax ae ar bp bx be br)) ([]) else none)
theorem lcores_h_ok {α:Type}:FnOk E.P 24 (fEnt (α := α) lcores_sp lcores_h) :=
 fEntR_ok E (look_PoE_pawake_ok) (exec_sound E E_ok (look_PoE_pawake_ok) (noLps_ok _) 400) fun ds Q r h => by
   unfold lcores_h at h
   obtain ⟨ap,ds,rfl,h1⟩ := dL_inv h
   obtain ⟨ax,ds,rfl,h2⟩ := dL_inv h1
   obtain ⟨ae,ds,rfl,h3⟩ := dL_inv h2
   obtain ⟨ar,ds,rfl,h4⟩ := dI_inv h3
   obtain ⟨bp,ds,rfl,h5⟩ := dL_inv h4
   obtain ⟨bx,ds,rfl,h6⟩ := dL_inv h5
   obtain ⟨be,ds,rfl,h7⟩ := dL_inv h6
   obtain ⟨br,ds,rfl,h8⟩ := dI_inv h7
   obtain ⟨rfl,hE⟩ := dE_inv h8
   split at hE
   · rename_i hg
     exact ⟨_,_,hE,fun vs => ⟨_,_,by kernel_rfl,(lcores_eq ap ax ae ar bp bx be br ((cellsV (vs.headD undef)).headD undef) ((cellsV (vs.headD undef)).tail.headD undef) ((cellsV (vs.headD undef)).tail.tail.headD undef) ((cellsV (vs.tail.headD undef)).headD undef) ((cellsV (vs.tail.headD undef)).tail.headD undef) ((cellsV (vs.tail.headD undef)).tail.tail.headD undef) _).trans (lcores_v ap ax ae ar bp bx be br hg.1 hg.2.1 hg.2.2 _)⟩⟩
   · cases hE
noncomputable def look_lcores {α:Type}:LookF α := addFn 24 (fEnt lcores_sp lcores_h) look_PoE_pawake
theorem look_lcores_ok {α:Type}:LookOk E.P (look_lcores (α := α)) := addFn_ok lcores_h_ok (look_PoE_pawake_ok)
noncomputable abbrev pplaces_S1 (y1 y2 y3 y4:Bool) (y5:Int) (y6:Value) (y7:L3) (y8:Value) (y9:L3) (y10:Value) (y11:L3) (y12:Int) (y13 y14 y15:L3) (y16 y17:Nat) (y18:Int) (y19 y20 y21:L3) (y22:Int) (y23 y24 y25:L3):St := St.mk (nn 3 (some (SV.ptr (nat_lit 0) (nat_lit 0)) :: nn 3 (some (SV.bool y1) :: some (SV.sl (nat_lit 1)) :: some (SV.sl (nat_lit 2)) :: some (SV.sl (nat_lit 3)) :: some (SV.ptr (nat_lit 4) (nat_lit 0)) :: some (SV.bool y2) :: none :: some (SV.bool y3) :: some (SV.ptr (nat_lit 8) (nat_lit 0)) :: none :: some (SV.bool y4) :: some (SV.int .i64 y5) :: nn 121 ([])))) [.cells [SV.ros y6 kP y7,SV.ros y8 kP y9,SV.ros y10 kP y11,SV.int .i64 y12] (nat_lit 33),.seq kP y13 (nat_lit 23),.seq kP y14 (nat_lit 23),.seq kP y15 (nat_lit 23),.cells [SV.sl (nat_lit 5),SV.clp (nat_lit 6) kP y16,SV.clp (nat_lit 7) kP y17,SV.int .i64 y18] (nat_lit 33),.seq kP y19 (nat_lit 23),.seq kP y20 (nat_lit 23),.seq kP y21 (nat_lit 23),.cells [SV.sl (nat_lit 9),SV.sl (nat_lit 10),SV.sl (nat_lit 11),SV.int .i64 y22] (nat_lit 33),.seq kP y23 (nat_lit 23),.seq kP y24 (nat_lit 23),.seq kP y25 (nat_lit 23)]
noncomputable abbrev pplaces_S2 (y1 y2 y3 y4:Bool) (y5:Value) (y6:L3) (y7:Value) (y8:L3) (y9:Value) (y10:L3) (y11:Int) (y12 y13 y14:L3) (y15 y16:Nat) (y17:Int) (y18 y19 y20:L3) (y21:Int) (y22 y23 y24:L3):St := St.mk (nn 3 (some (SV.ptr (nat_lit 0) (nat_lit 0)) :: nn 3 (some (SV.bool y1) :: some (SV.sl (nat_lit 1)) :: some (SV.sl (nat_lit 2)) :: some (SV.sl (nat_lit 3)) :: some (SV.ptr (nat_lit 4) (nat_lit 0)) :: some (SV.bool y2) :: none :: some (SV.bool y3) :: some (SV.ptr (nat_lit 8) (nat_lit 0)) :: none :: some (SV.bool y4) :: nn 122 ([])))) [.cells [SV.ros y5 kP y6,SV.ros y7 kP y8,SV.ros y9 kP y10,SV.int .i64 y11] (nat_lit 33),.seq kP y12 (nat_lit 23),.seq kP y13 (nat_lit 23),.seq kP y14 (nat_lit 23),.cells [SV.sl (nat_lit 5),SV.clp (nat_lit 6) kP y15,SV.clp (nat_lit 7) kP y16,SV.int .i64 y17] (nat_lit 33),.seq kP y18 (nat_lit 23),.seq kP y19 (nat_lit 23),.seq kP y20 (nat_lit 23),.cells [SV.sl (nat_lit 9),SV.sl (nat_lit 10),SV.sl (nat_lit 11),SV.int .i64 y21] (nat_lit 33),.seq kP y22 (nat_lit 23),.seq kP y23 (nat_lit 23),.seq kP y24 (nat_lit 23)]
noncomputable abbrev pplaces_S3:St := St.mk (nn 3 (some (SV.ptr (nat_lit 0) (nat_lit 0)) :: nn 3 (some (SV.bool false) :: some (SV.sl (nat_lit 1)) :: some (SV.sl (nat_lit 2)) :: some (SV.sl (nat_lit 3)) :: some (SV.ptr (nat_lit 4) (nat_lit 0)) :: some (SV.bool false) :: none :: some (SV.bool false) :: some (SV.ptr (nat_lit 8) (nat_lit 0)) :: none :: some (SV.bool false) :: some (SV.int .i64 (0:Int)) :: nn 121 ([])))) [.cells [SV.ros undef kP [],SV.ros undef kP [],SV.ros undef kP [],SV.int .i64 (0:Int)] (nat_lit 33),.seq kP [] (nat_lit 23),.seq kP [] (nat_lit 23),.seq kP [] (nat_lit 23),.cells [SV.sl (nat_lit 5),SV.clp (nat_lit 6) kP (0:Nat),SV.clp (nat_lit 7) kP (0:Nat),SV.int .i64 (0:Int)] (nat_lit 33),.seq kP [] (nat_lit 23),.seq kP [] (nat_lit 23),.seq kP [] (nat_lit 23),.cells [SV.sl (nat_lit 9),SV.sl (nat_lit 10),SV.sl (nat_lit 11),SV.int .i64 (0:Int)] (nat_lit 33),.seq kP [] (nat_lit 23),.seq kP [] (nat_lit 23),.seq kP [] (nat_lit 23)]
noncomputable abbrev pplaces_S4 (y1 y2 y3 y4:Bool) (y5:Int) (y6:Value) (y7:L3) (y8:Value) (y9:L3) (y10:Value) (y11:L3) (y12:Int) (y13 y14 y15:L3) (y16 y17:Nat) (y18:Int) (y19 y20 y21:L3) (y22:Int) (y23 y24 y25:L3):St := St.mk (nn 3 (some (SV.ptr (nat_lit 0) (nat_lit 0)) :: nn 3 (some (SV.bool y1) :: some (SV.sl (nat_lit 1)) :: some (SV.sl (nat_lit 2)) :: some (SV.sl (nat_lit 3)) :: some (SV.ptr (nat_lit 4) (nat_lit 0)) :: some (SV.bool y2) :: none :: some (SV.bool y3) :: some (SV.ptr (nat_lit 8) (nat_lit 0)) :: none :: some (SV.bool y4) :: none :: some (SV.int .i64 y5) :: nn 120 ([])))) [.cells [SV.ros y6 kP y7,SV.ros y8 kP y9,SV.ros y10 kP y11,SV.int .i64 y12] (nat_lit 33),.seq kP y13 (nat_lit 23),.seq kP y14 (nat_lit 23),.seq kP y15 (nat_lit 23),.cells [SV.sl (nat_lit 5),SV.clp (nat_lit 6) kP y16,SV.clp (nat_lit 7) kP y17,SV.int .i64 y18] (nat_lit 33),.seq kP y19 (nat_lit 23),.seq kP y20 (nat_lit 23),.seq kP y21 (nat_lit 23),.cells [SV.sl (nat_lit 9),SV.sl (nat_lit 10),SV.sl (nat_lit 11),SV.int .i64 y22] (nat_lit 33),.seq kP y23 (nat_lit 23),.seq kP y24 (nat_lit 23),.seq kP y25 (nat_lit 23)]
noncomputable abbrev pplaces_S5 (y1 y2 y3 y4:Bool) (y5:Value) (y6:L3) (y7:Value) (y8:L3) (y9:Value) (y10:L3) (y11:Int) (y12 y13 y14:L3) (y15 y16:Nat) (y17:Int) (y18 y19 y20:L3):St := St.mk (nn 3 (some (SV.ptr (nat_lit 0) (nat_lit 0)) :: nn 3 (some (SV.bool y1) :: some (SV.sl (nat_lit 1)) :: some (SV.sl (nat_lit 2)) :: some (SV.sl (nat_lit 3)) :: some (SV.ptr (nat_lit 4) (nat_lit 0)) :: some (SV.bool y2) :: none :: some (SV.bool y3) :: none :: none :: some (SV.bool y4) :: nn 122 ([])))) [.cells [SV.ros y5 kP y6,SV.ros y7 kP y8,SV.ros y9 kP y10,SV.int .i64 y11] (nat_lit 33),.seq kP y12 (nat_lit 23),.seq kP y13 (nat_lit 23),.seq kP y14 (nat_lit 23),.cells [SV.sl (nat_lit 5),SV.clp (nat_lit 6) kP y15,SV.clp (nat_lit 7) kP y16,SV.int .i64 y17] (nat_lit 33),.seq kP y18 (nat_lit 23),.seq kP y19 (nat_lit 23),.seq kP y20 (nat_lit 23)]
noncomputable abbrev pplaces_S6:St := St.mk (nn 3 (some (SV.ptr (nat_lit 0) (nat_lit 0)) :: nn 3 (some (SV.bool false) :: some (SV.sl (nat_lit 1)) :: some (SV.sl (nat_lit 2)) :: some (SV.sl (nat_lit 3)) :: some (SV.ptr (nat_lit 4) (nat_lit 0)) :: some (SV.bool false) :: none :: some (SV.bool false) :: some (SV.ptr (nat_lit 8) (nat_lit 0)) :: none :: some (SV.bool false) :: none :: some (SV.int .i64 (0:Int)) :: nn 120 ([])))) [.cells [SV.ros undef kP [],SV.ros undef kP [],SV.ros undef kP [],SV.int .i64 (0:Int)] (nat_lit 33),.seq kP [] (nat_lit 23),.seq kP [] (nat_lit 23),.seq kP [] (nat_lit 23),.cells [SV.sl (nat_lit 5),SV.clp (nat_lit 6) kP (0:Nat),SV.clp (nat_lit 7) kP (0:Nat),SV.int .i64 (0:Int)] (nat_lit 33),.seq kP [] (nat_lit 23),.seq kP [] (nat_lit 23),.seq kP [] (nat_lit 23),.cells [SV.sl (nat_lit 9),SV.sl (nat_lit 10),SV.sl (nat_lit 11),SV.int .i64 (0:Int)] (nat_lit 33),.seq kP [] (nat_lit 23),.seq kP [] (nat_lit 23),.seq kP [] (nat_lit 23)]
noncomputable abbrev pplaces_S7 (y1 y2 y3 y4:Bool) (y5:Int) (y6:Value) (y7:L3) (y8:Value) (y9:L3) (y10:Value) (y11:L3) (y12:Int) (y13 y14 y15:L3) (y16 y17:Nat) (y18:Int) (y19 y20 y21:L3):St := St.mk (nn 3 (some (SV.ptr (nat_lit 0) (nat_lit 0)) :: nn 3 (some (SV.bool y1) :: some (SV.sl (nat_lit 1)) :: some (SV.sl (nat_lit 2)) :: some (SV.sl (nat_lit 3)) :: some (SV.ptr (nat_lit 4) (nat_lit 0)) :: some (SV.bool y2) :: none :: some (SV.bool y3) :: none :: none :: some (SV.bool y4) :: none :: none :: some (SV.int .i64 y5) :: nn 119 ([])))) [.cells [SV.ros y6 kP y7,SV.ros y8 kP y9,SV.ros y10 kP y11,SV.int .i64 y12] (nat_lit 33),.seq kP y13 (nat_lit 23),.seq kP y14 (nat_lit 23),.seq kP y15 (nat_lit 23),.cells [SV.sl (nat_lit 5),SV.clp (nat_lit 6) kP y16,SV.clp (nat_lit 7) kP y17,SV.int .i64 y18] (nat_lit 33),.seq kP y19 (nat_lit 23),.seq kP y20 (nat_lit 23),.seq kP y21 (nat_lit 23)]
noncomputable abbrev pplaces_S8 (y1 y2 y3 y4:Bool) (y5:Value) (y6:L3) (y7:Value) (y8:L3) (y9:Value) (y10:L3) (y11:Int) (y12 y13 y14:L3):St := St.mk (nn 3 (some (SV.ptr (nat_lit 0) (nat_lit 0)) :: nn 3 (some (SV.bool y1) :: some (SV.sl (nat_lit 1)) :: some (SV.sl (nat_lit 2)) :: some (SV.sl (nat_lit 3)) :: none :: some (SV.bool y2) :: none :: some (SV.bool y3) :: none :: none :: some (SV.bool y4) :: nn 122 ([])))) [.cells [SV.ros y5 kP y6,SV.ros y7 kP y8,SV.ros y9 kP y10,SV.int .i64 y11] (nat_lit 33),.seq kP y12 (nat_lit 23),.seq kP y13 (nat_lit 23),.seq kP y14 (nat_lit 23)]
noncomputable abbrev pplaces_S9:St := St.mk (nn 3 (some (SV.ptr (nat_lit 0) (nat_lit 0)) :: nn 3 (some (SV.bool false) :: some (SV.sl (nat_lit 1)) :: some (SV.sl (nat_lit 2)) :: some (SV.sl (nat_lit 3)) :: some (SV.ptr (nat_lit 4) (nat_lit 0)) :: some (SV.bool false) :: none :: some (SV.bool false) :: none :: none :: some (SV.bool false) :: none :: none :: some (SV.int .i64 (0:Int)) :: nn 119 ([])))) [.cells [SV.ros undef kP [],SV.ros undef kP [],SV.ros undef kP [],SV.int .i64 (0:Int)] (nat_lit 33),.seq kP [] (nat_lit 23),.seq kP [] (nat_lit 23),.seq kP [] (nat_lit 23),.cells [SV.sl (nat_lit 5),SV.clp (nat_lit 6) kP (0:Nat),SV.clp (nat_lit 7) kP (0:Nat),SV.int .i64 (0:Int)] (nat_lit 33),.seq kP [] (nat_lit 23),.seq kP [] (nat_lit 23),.seq kP [] (nat_lit 23)]
noncomputable abbrev pplaces_S10 (y1 y2 y3 y4:Bool) (y5:Int) (y6:Value) (y7:L3) (y8:Value) (y9:L3) (y10:Value) (y11:L3) (y12:Int) (y13 y14 y15:L3) (y16:Int) (y17 y18 y19:L3) (y20:Int) (y21 y22 y23:L3):St := St.mk (nn 3 (some (SV.ptr (nat_lit 0) (nat_lit 0)) :: nn 3 (some (SV.bool y1) :: some (SV.sl (nat_lit 1)) :: some (SV.sl (nat_lit 2)) :: some (SV.sl (nat_lit 3)) :: some (SV.ptr (nat_lit 4) (nat_lit 0)) :: some (SV.bool y2) :: none :: some (SV.bool y3) :: some (SV.ptr (nat_lit 8) (nat_lit 0)) :: none :: some (SV.bool y4) :: some (SV.int .i64 y5) :: nn 121 ([])))) [.cells [SV.ros y6 kP y7,SV.ros y8 kP y9,SV.ros y10 kP y11,SV.int .i64 y12] (nat_lit 33),.seq kP y13 (nat_lit 23),.seq kP y14 (nat_lit 23),.seq kP y15 (nat_lit 23),.cells [SV.sl (nat_lit 5),SV.sl (nat_lit 6),SV.sl (nat_lit 7),SV.int .i64 y16] (nat_lit 33),.seq kP y17 (nat_lit 23),.seq kP y18 (nat_lit 23),.seq kP y19 (nat_lit 23),.cells [SV.sl (nat_lit 9),SV.sl (nat_lit 10),SV.sl (nat_lit 11),SV.int .i64 y20] (nat_lit 33),.seq kP y21 (nat_lit 23),.seq kP y22 (nat_lit 23),.seq kP y23 (nat_lit 23)]
noncomputable abbrev pplaces_S11 (y1 y2 y3 y4:Bool) (y5:Value) (y6:L3) (y7:Value) (y8:L3) (y9:Value) (y10:L3) (y11:Int) (y12 y13 y14:L3) (y15:Int) (y16 y17 y18:L3) (y19:Int) (y20 y21 y22:L3):St := St.mk (nn 3 (some (SV.ptr (nat_lit 0) (nat_lit 0)) :: nn 3 (some (SV.bool y1) :: some (SV.sl (nat_lit 1)) :: some (SV.sl (nat_lit 2)) :: some (SV.sl (nat_lit 3)) :: some (SV.ptr (nat_lit 4) (nat_lit 0)) :: some (SV.bool y2) :: none :: some (SV.bool y3) :: some (SV.ptr (nat_lit 8) (nat_lit 0)) :: none :: some (SV.bool y4) :: nn 122 ([])))) [.cells [SV.ros y5 kP y6,SV.ros y7 kP y8,SV.ros y9 kP y10,SV.int .i64 y11] (nat_lit 33),.seq kP y12 (nat_lit 23),.seq kP y13 (nat_lit 23),.seq kP y14 (nat_lit 23),.cells [SV.sl (nat_lit 5),SV.sl (nat_lit 6),SV.sl (nat_lit 7),SV.int .i64 y15] (nat_lit 33),.seq kP y16 (nat_lit 23),.seq kP y17 (nat_lit 23),.seq kP y18 (nat_lit 23),.cells [SV.sl (nat_lit 9),SV.sl (nat_lit 10),SV.sl (nat_lit 11),SV.int .i64 y19] (nat_lit 33),.seq kP y20 (nat_lit 23),.seq kP y21 (nat_lit 23),.seq kP y22 (nat_lit 23)]
noncomputable abbrev pplaces_S12:St := St.mk (nn 3 (some (SV.ptr (nat_lit 0) (nat_lit 0)) :: nn 3 (some (SV.bool false) :: some (SV.sl (nat_lit 1)) :: some (SV.sl (nat_lit 2)) :: some (SV.sl (nat_lit 3)) :: some (SV.ptr (nat_lit 4) (nat_lit 0)) :: some (SV.bool false) :: none :: some (SV.bool false) :: some (SV.ptr (nat_lit 8) (nat_lit 0)) :: none :: some (SV.bool false) :: some (SV.int .i64 (0:Int)) :: nn 121 ([])))) [.cells [SV.ros undef kP [],SV.ros undef kP [],SV.ros undef kP [],SV.int .i64 (0:Int)] (nat_lit 33),.seq kP [] (nat_lit 23),.seq kP [] (nat_lit 23),.seq kP [] (nat_lit 23),.cells [SV.sl (nat_lit 5),SV.sl (nat_lit 6),SV.sl (nat_lit 7),SV.int .i64 (0:Int)] (nat_lit 33),.seq kP [] (nat_lit 23),.seq kP [] (nat_lit 23),.seq kP [] (nat_lit 23),.cells [SV.sl (nat_lit 9),SV.sl (nat_lit 10),SV.sl (nat_lit 11),SV.int .i64 (0:Int)] (nat_lit 33),.seq kP [] (nat_lit 23),.seq kP [] (nat_lit 23),.seq kP [] (nat_lit 23)]
noncomputable abbrev pplaces_S13 (y1 y2 y3 y4:Bool) (y5:Int) (y6:Value) (y7:L3) (y8:Value) (y9:L3) (y10:Value) (y11:L3) (y12:Int) (y13 y14 y15:L3) (y16:Int) (y17 y18 y19:L3) (y20:Int) (y21 y22 y23:L3):St := St.mk (nn 3 (some (SV.ptr (nat_lit 0) (nat_lit 0)) :: nn 3 (some (SV.bool y1) :: some (SV.sl (nat_lit 1)) :: some (SV.sl (nat_lit 2)) :: some (SV.sl (nat_lit 3)) :: some (SV.ptr (nat_lit 4) (nat_lit 0)) :: some (SV.bool y2) :: none :: some (SV.bool y3) :: some (SV.ptr (nat_lit 8) (nat_lit 0)) :: none :: some (SV.bool y4) :: none :: some (SV.int .i64 y5) :: nn 120 ([])))) [.cells [SV.ros y6 kP y7,SV.ros y8 kP y9,SV.ros y10 kP y11,SV.int .i64 y12] (nat_lit 33),.seq kP y13 (nat_lit 23),.seq kP y14 (nat_lit 23),.seq kP y15 (nat_lit 23),.cells [SV.sl (nat_lit 5),SV.sl (nat_lit 6),SV.sl (nat_lit 7),SV.int .i64 y16] (nat_lit 33),.seq kP y17 (nat_lit 23),.seq kP y18 (nat_lit 23),.seq kP y19 (nat_lit 23),.cells [SV.sl (nat_lit 9),SV.sl (nat_lit 10),SV.sl (nat_lit 11),SV.int .i64 y20] (nat_lit 33),.seq kP y21 (nat_lit 23),.seq kP y22 (nat_lit 23),.seq kP y23 (nat_lit 23)]
noncomputable abbrev pplaces_S14 (y1 y2 y3 y4:Bool) (y5:Value) (y6:L3) (y7:Value) (y8:L3) (y9:Value) (y10:L3) (y11:Int) (y12 y13 y14:L3) (y15:Int) (y16 y17 y18:L3):St := St.mk (nn 3 (some (SV.ptr (nat_lit 0) (nat_lit 0)) :: nn 3 (some (SV.bool y1) :: some (SV.sl (nat_lit 1)) :: some (SV.sl (nat_lit 2)) :: some (SV.sl (nat_lit 3)) :: some (SV.ptr (nat_lit 4) (nat_lit 0)) :: some (SV.bool y2) :: none :: some (SV.bool y3) :: none :: none :: some (SV.bool y4) :: nn 122 ([])))) [.cells [SV.ros y5 kP y6,SV.ros y7 kP y8,SV.ros y9 kP y10,SV.int .i64 y11] (nat_lit 33),.seq kP y12 (nat_lit 23),.seq kP y13 (nat_lit 23),.seq kP y14 (nat_lit 23),.cells [SV.sl (nat_lit 5),SV.sl (nat_lit 6),SV.sl (nat_lit 7),SV.int .i64 y15] (nat_lit 33),.seq kP y16 (nat_lit 23),.seq kP y17 (nat_lit 23),.seq kP y18 (nat_lit 23)]
noncomputable abbrev pplaces_S15:St := St.mk (nn 3 (some (SV.ptr (nat_lit 0) (nat_lit 0)) :: nn 3 (some (SV.bool false) :: some (SV.sl (nat_lit 1)) :: some (SV.sl (nat_lit 2)) :: some (SV.sl (nat_lit 3)) :: some (SV.ptr (nat_lit 4) (nat_lit 0)) :: some (SV.bool false) :: none :: some (SV.bool false) :: some (SV.ptr (nat_lit 8) (nat_lit 0)) :: none :: some (SV.bool false) :: none :: some (SV.int .i64 (0:Int)) :: nn 120 ([])))) [.cells [SV.ros undef kP [],SV.ros undef kP [],SV.ros undef kP [],SV.int .i64 (0:Int)] (nat_lit 33),.seq kP [] (nat_lit 23),.seq kP [] (nat_lit 23),.seq kP [] (nat_lit 23),.cells [SV.sl (nat_lit 5),SV.sl (nat_lit 6),SV.sl (nat_lit 7),SV.int .i64 (0:Int)] (nat_lit 33),.seq kP [] (nat_lit 23),.seq kP [] (nat_lit 23),.seq kP [] (nat_lit 23),.cells [SV.sl (nat_lit 9),SV.sl (nat_lit 10),SV.sl (nat_lit 11),SV.int .i64 (0:Int)] (nat_lit 33),.seq kP [] (nat_lit 23),.seq kP [] (nat_lit 23),.seq kP [] (nat_lit 23)]
noncomputable abbrev pplaces_S16 (y1 y2 y3 y4:Bool) (y5:Int) (y6:Value) (y7:L3) (y8:Value) (y9:L3) (y10:Value) (y11:L3) (y12:Int) (y13 y14 y15:L3) (y16:Int) (y17 y18 y19:L3):St := St.mk (nn 3 (some (SV.ptr (nat_lit 0) (nat_lit 0)) :: nn 3 (some (SV.bool y1) :: some (SV.sl (nat_lit 1)) :: some (SV.sl (nat_lit 2)) :: some (SV.sl (nat_lit 3)) :: some (SV.ptr (nat_lit 4) (nat_lit 0)) :: some (SV.bool y2) :: none :: some (SV.bool y3) :: none :: none :: some (SV.bool y4) :: none :: none :: some (SV.int .i64 y5) :: nn 119 ([])))) [.cells [SV.ros y6 kP y7,SV.ros y8 kP y9,SV.ros y10 kP y11,SV.int .i64 y12] (nat_lit 33),.seq kP y13 (nat_lit 23),.seq kP y14 (nat_lit 23),.seq kP y15 (nat_lit 23),.cells [SV.sl (nat_lit 5),SV.sl (nat_lit 6),SV.sl (nat_lit 7),SV.int .i64 y16] (nat_lit 33),.seq kP y17 (nat_lit 23),.seq kP y18 (nat_lit 23),.seq kP y19 (nat_lit 23)]
noncomputable abbrev pplaces_S17:St := St.mk (nn 3 (some (SV.ptr (nat_lit 0) (nat_lit 0)) :: nn 3 (some (SV.bool false) :: some (SV.sl (nat_lit 1)) :: some (SV.sl (nat_lit 2)) :: some (SV.sl (nat_lit 3)) :: some (SV.ptr (nat_lit 4) (nat_lit 0)) :: some (SV.bool false) :: none :: some (SV.bool false) :: none :: none :: some (SV.bool false) :: none :: none :: some (SV.int .i64 (0:Int)) :: nn 119 ([])))) [.cells [SV.ros undef kP [],SV.ros undef kP [],SV.ros undef kP [],SV.int .i64 (0:Int)] (nat_lit 33),.seq kP [] (nat_lit 23),.seq kP [] (nat_lit 23),.seq kP [] (nat_lit 23),.cells [SV.sl (nat_lit 5),SV.sl (nat_lit 6),SV.sl (nat_lit 7),SV.int .i64 (0:Int)] (nat_lit 33),.seq kP [] (nat_lit 23),.seq kP [] (nat_lit 23),.seq kP [] (nat_lit 23)]
abbrev pplaces_P1:List Bool := [false,true,false,true,true,true,true,true,true,true,true,true,true,true,true,true]
abbrev pplaces_P2:List Bool := [false,true,false,true,true,true,true,true,true,true,true,true,true,true,true]
abbrev pplaces_P3:List Bool := [false,true,false,true,true,true,true,true,true,true,true,true,true,true]
noncomputable def M.pplaces_l0_step {α:Type} (kn:Int → L3 → Option α) (k1:L3 → Option α) (x39:Int) (x57:L3):Option α := if cLt x39 (↑(List.length x57):Int) = true then if (0:Int) ≤ x39 ∧ x39 < (↑(List.length x57):Int) then kn (IntKind.wrap .i64 (x39 + (1:Int))) (List.set x57 (Int.toNat x39) ((-9:Int),Prod.snd (List.getD x57 (Int.toNat x39) ((0:Int),(0:Int),(0:Int))))) else none else k1 x57
noncomputable def M.pplaces_l0 {α:Type} (k1:L3 → Option α):Nat → Int → L3 → Option α
 | 0,_,_ => none
 | n + 1,x39,x57 => M.pplaces_l0_step (M.pplaces_l0 k1 n) k1 x39 x57
theorem pplaces_l0_step_eq {α:Type} (x35 x36 x37 x38:Bool) (x39:Int) (x40:Value) (x41:L3) (x42:Value) (x43:L3) (x44:Value) (x45:L3) (x46:Int) (x47 x48 x49:L3) (x50 x51:Nat) (x52:Int) (x53 x54 x55:L3) (x56:Int) (x57 x58 x59:L3) (Q:Ex → St → Option α):(loopStep E (exec E look_lcores noLps 400) 8 pplaces_P3 0 (codeAt E.P 8 pplaces_P3)) (pplaces_S1 x35 x36 x37 x38 x39 x40 x41 x42 x43 x44 x45 x46 x47 x48 x49 x50 x51 x52 x53 x54 x55 x56 x57 x58 x59) Q = M.pplaces_l0_step (fun (x61:Int) (x62:L3) => Q .normal (pplaces_S1 x35 x36 x37 x38 x61 x40 x41 x42 x43 x44 x45 x46 x47 x48 x49 x50 x51 x52 x53 x54 x55 x56 x62 x58 x59)) (fun (x60:L3) => Q (.exit 0) (pplaces_S2 x35 x36 x37 x38 x40 x41 x42 x43 x44 x45 x46 x47 x48 x49 x50 x51 x52 x53 x54 x55 x56 x60 x58 x59)) x39 x57 := by kernel_rfl
theorem pplaces_l0_iter {α:Type} (x35 x36 x37 x38:Bool) (x40:Value) (x41:L3) (x42:Value) (x43:L3) (x44:Value) (x45:L3) (x46:Int) (x47 x48 x49:L3) (x50 x51:Nat) (x52:Int) (x53 x54 x55:L3) (x56:Int) (x58 x59:L3) (Q:Ex → St → Option α):∀ (n:Nat) (x39:Int) (x57:L3),iter (loopStep E (exec E look_lcores noLps 400) 8 pplaces_P3 0 (codeAt E.P 8 pplaces_P3)) n (pplaces_S1 x35 x36 x37 x38 x39 x40 x41 x42 x43 x44 x45 x46 x47 x48 x49 x50 x51 x52 x53 x54 x55 x56 x57 x58 x59) Q = M.pplaces_l0 (fun (x60:L3) => Q (.exit 0) (pplaces_S2 x35 x36 x37 x38 x40 x41 x42 x43 x44 x45 x46 x47 x48 x49 x50 x51 x52 x53 x54 x55 x56 x60 x58 x59)) n x39 x57
 | 0,_,_ => rfl
 | n + 1,x39,x57 => (pplaces_l0_step_eq x35 x36 x37 x38 x39 x40 x41 x42 x43 x44 x45 x46 x47 x48 x49 x50 x51 x52 x53 x54 x55 x56 x57 x58 x59 (iterK (loopStep E (exec E look_lcores noLps 400) 8 pplaces_P3 0 (codeAt E.P 8 pplaces_P3)) n Q)).trans (congrArg (fun kn => M.pplaces_l0_step kn (fun (x60:L3) => Q (.exit 0) (pplaces_S2 x35 x36 x37 x38 x40 x41 x42 x43 x44 x45 x46 x47 x48 x49 x50 x51 x52 x53 x54 x55 x56 x60 x58 x59)) x39 x57) (funext fun x39 => funext fun x57 => pplaces_l0_iter x35 x36 x37 x38 x40 x41 x42 x43 x44 x45 x46 x47 x48 x49 x50 x51 x52 x53 x54 x55 x56 x58 x59 Q n x39 x57))
noncomputable def pplaces_l0_go {α:Type} (ds:List D) (Q:Ex → St → Option α):Option α :=
 dB ds fun x35 ds => dB ds fun x36 ds => dB ds fun x37 ds => dB ds fun x38 ds => dI ds fun x39 ds => dV ds fun x40 ds => dL kP ds fun x41 ds => dV ds fun x42 ds => dL kP ds fun x43 ds => dV ds fun x44 ds => dL kP ds fun x45 ds => dI ds fun x46 ds => dL kP ds fun x47 ds => dL kP ds fun x48 ds => dL kP ds fun x49 ds => dN ds fun x50 ds => dN ds fun x51 ds => dI ds fun x52 ds => dL kP ds fun x53 ds => dL kP ds fun x54 ds => dL kP ds fun x55 ds => dI ds fun x56 ds => dL kP ds fun x57 ds => dL kP ds fun x58 ds => dL kP ds fun x59 ds => dE ds (M.pplaces_l0 (fun (x60:L3) => Q (.exit 0) (pplaces_S2 x35 x36 x37 x38 x40 x41 x42 x43 x44 x45 x46 x47 x48 x49 x50 x51 x52 x53 x54 x55 x56 x60 x58 x59)) (100 + x41.length + x43.length + x45.length + x47.length + x48.length + x49.length + x53.length + x54.length + x55.length + x57.length + x58.length + x59.length) x39 x57)
theorem pplaces_l0_ok {α:Type}:LoopOk E.P 8 pplaces_P3 0 (lEnt (α := α) (pplaces_S3) pplaces_l0_go) :=
 lEnt_ok E (exec_sound E E_ok (look_lcores_ok) (noLps_ok _) 400) fun ds Q r h S hS => by
   unfold pplaces_l0_go at h
   obtain ⟨x35,ds,rfl,h1⟩ := dB_inv h
   obtain ⟨x36,ds,rfl,h2⟩ := dB_inv h1
   obtain ⟨x37,ds,rfl,h3⟩ := dB_inv h2
   obtain ⟨x38,ds,rfl,h4⟩ := dB_inv h3
   obtain ⟨x39,ds,rfl,h5⟩ := dI_inv h4
   obtain ⟨x40,ds,rfl,h6⟩ := dV_inv h5
   obtain ⟨x41,ds,rfl,h7⟩ := dL_inv h6
   obtain ⟨x42,ds,rfl,h8⟩ := dV_inv h7
   obtain ⟨x43,ds,rfl,h9⟩ := dL_inv h8
   obtain ⟨x44,ds,rfl,h10⟩ := dV_inv h9
   obtain ⟨x45,ds,rfl,h11⟩ := dL_inv h10
   obtain ⟨x46,ds,rfl,h12⟩ := dI_inv h11
   obtain ⟨x47,ds,rfl,h13⟩ := dL_inv h12
   obtain ⟨x48,ds,rfl,h14⟩ := dL_inv h13
   obtain ⟨x49,ds,rfl,h15⟩ := dL_inv h14
   obtain ⟨x50,ds,rfl,h16⟩ := dN_inv h15
   obtain ⟨x51,ds,rfl,h17⟩ := dN_inv h16
   obtain ⟨x52,ds,rfl,h18⟩ := dI_inv h17
   obtain ⟨x53,ds,rfl,h19⟩ := dL_inv h18
   obtain ⟨x54,ds,rfl,h20⟩ := dL_inv h19
   obtain ⟨x55,ds,rfl,h21⟩ := dL_inv h20
   obtain ⟨x56,ds,rfl,h22⟩ := dI_inv h21
   obtain ⟨x57,ds,rfl,h23⟩ := dL_inv h22
   obtain ⟨x58,ds,rfl,h24⟩ := dL_inv h23
   obtain ⟨x59,ds,rfl,h25⟩ := dL_inv h24
   obtain ⟨rfl,hE⟩ := dE_inv h25
   have e:fillS (pplaces_S3) [.b x35,.b x36,.b x37,.b x38,.i x39,.v x40,.l kP x41,.v x42,.l kP x43,.v x44,.l kP x45,.i x46,.l kP x47,.l kP x48,.l kP x49,.n x50,.n x51,.i x52,.l kP x53,.l kP x54,.l kP x55,.i x56,.l kP x57,.l kP x58,.l kP x59] = some (pplaces_S1 x35 x36 x37 x38 x39 x40 x41 x42 x43 x44 x45 x46 x47 x48 x49 x50 x51 x52 x53 x54 x55 x56 x57 x58 x59) := by kernel_rfl
   rw [e] at hS
   cases hS
   exact ⟨_,(pplaces_l0_iter x35 x36 x37 x38 x40 x41 x42 x43 x44 x45 x46 x47 x48 x49 x50 x51 x52 x53 x54 x55 x56 x58 x59 Q _ x39 x57).trans hE⟩
noncomputable def pplaces_l0_lps {α:Type}:LookL α := addLp 8 pplaces_P3 0 (lEnt (pplaces_S3) pplaces_l0_go) noLps
theorem pplaces_l0_lps_ok {α:Type}:LoopsOk E.P (pplaces_l0_lps (α := α)) := addLp_ok pplaces_l0_ok (noLps_ok _)
noncomputable def M.pplaces_l1_step {α:Type} (kn:Int → L3 → Option α) (k1:Option α) (x96:Int) (x115:L3):Option α := if cLt x96 (↑(List.length x115):Int) = true then if (0:Int) ≤ x96 ∧ x96 < (↑(List.length x115):Int) then kn (IntKind.wrap .i64 (x96 + (1:Int))) (List.set x115 (Int.toNat x96) ((-9:Int),Prod.snd (List.getD x115 (Int.toNat x96) ((0:Int),(0:Int),(0:Int))))) else none else k1
noncomputable def M.pplaces_l1 {α:Type} (k1:Option α):Nat → Int → L3 → Option α
 | 0,_,_ => none
 | n + 1,x96,x115 => M.pplaces_l1_step (M.pplaces_l1 k1 n) k1 x96 x115
theorem pplaces_l1_step_eq {α:Type} (x92 x93 x94 x95:Bool) (x96:Int) (x97:Value) (x98:L3) (x99:Value) (x100:L3) (x101:Value) (x102:L3) (x103:Int) (x104 x105 x106:L3) (x107 x108:Nat) (x109:Int) (x110 x111 x112:L3) (x113:Int) (x114 x115 x116:L3) (Q:Ex → St → Option α):(loopStep E (exec E look_lcores pplaces_l0_lps 400) 8 pplaces_P2 0 (codeAt E.P 8 pplaces_P2)) (pplaces_S4 x92 x93 x94 x95 x96 x97 x98 x99 x100 x101 x102 x103 x104 x105 x106 x107 x108 x109 x110 x111 x112 x113 x114 x115 x116) Q = M.pplaces_l1_step (fun (x117:Int) (x118:L3) => Q .normal (pplaces_S4 x92 x93 x94 x95 x117 x97 x98 x99 x100 x101 x102 x103 x104 x105 x106 x107 x108 x109 x110 x111 x112 x113 x114 x118 x116)) (Q (.exit 2) (pplaces_S5 x92 x93 x94 x95 x97 x98 x99 x100 x101 x102 x103 x104 x105 x106 x107 x108 x109 x110 x111 x112)) x96 x115 := by kernel_rfl
theorem pplaces_l1_iter {α:Type} (x92 x93 x94 x95:Bool) (x97:Value) (x98:L3) (x99:Value) (x100:L3) (x101:Value) (x102:L3) (x103:Int) (x104 x105 x106:L3) (x107 x108:Nat) (x109:Int) (x110 x111 x112:L3) (x113:Int) (x114 x116:L3) (Q:Ex → St → Option α):∀ (n:Nat) (x96:Int) (x115:L3),iter (loopStep E (exec E look_lcores pplaces_l0_lps 400) 8 pplaces_P2 0 (codeAt E.P 8 pplaces_P2)) n (pplaces_S4 x92 x93 x94 x95 x96 x97 x98 x99 x100 x101 x102 x103 x104 x105 x106 x107 x108 x109 x110 x111 x112 x113 x114 x115 x116) Q = M.pplaces_l1 (Q (.exit 2) (pplaces_S5 x92 x93 x94 x95 x97 x98 x99 x100 x101 x102 x103 x104 x105 x106 x107 x108 x109 x110 x111 x112)) n x96 x115
 | 0,_,_ => rfl
 | n + 1,x96,x115 => (pplaces_l1_step_eq x92 x93 x94 x95 x96 x97 x98 x99 x100 x101 x102 x103 x104 x105 x106 x107 x108 x109 x110 x111 x112 x113 x114 x115 x116 (iterK (loopStep E (exec E look_lcores pplaces_l0_lps 400) 8 pplaces_P2 0 (codeAt E.P 8 pplaces_P2)) n Q)).trans (congrArg (fun kn => M.pplaces_l1_step kn (Q (.exit 2) (pplaces_S5 x92 x93 x94 x95 x97 x98 x99 x100 x101 x102 x103 x104 x105 x106 x107 x108 x109 x110 x111 x112)) x96 x115) (funext fun x96 => funext fun x115 => pplaces_l1_iter x92 x93 x94 x95 x97 x98 x99 x100 x101 x102 x103 x104 x105 x106 x107 x108 x109 x110 x111 x112 x113 x114 x116 Q n x96 x115))
noncomputable def pplaces_l1_go {α:Type} (ds:List D) (Q:Ex → St → Option α):Option α :=
 dB ds fun x92 ds => dB ds fun x93 ds => dB ds fun x94 ds => dB ds fun x95 ds => dI ds fun x96 ds => dV ds fun x97 ds => dL kP ds fun x98 ds => dV ds fun x99 ds => dL kP ds fun x100 ds => dV ds fun x101 ds => dL kP ds fun x102 ds => dI ds fun x103 ds => dL kP ds fun x104 ds => dL kP ds fun x105 ds => dL kP ds fun x106 ds => dN ds fun x107 ds => dN ds fun x108 ds => dI ds fun x109 ds => dL kP ds fun x110 ds => dL kP ds fun x111 ds => dL kP ds fun x112 ds => dI ds fun x113 ds => dL kP ds fun x114 ds => dL kP ds fun x115 ds => dL kP ds fun x116 ds => dE ds (M.pplaces_l1 (Q (.exit 2) (pplaces_S5 x92 x93 x94 x95 x97 x98 x99 x100 x101 x102 x103 x104 x105 x106 x107 x108 x109 x110 x111 x112)) (100 + x98.length + x100.length + x102.length + x104.length + x105.length + x106.length + x110.length + x111.length + x112.length + x114.length + x115.length + x116.length) x96 x115)
theorem pplaces_l1_ok {α:Type}:LoopOk E.P 8 pplaces_P2 0 (lEnt (α := α) (pplaces_S6) pplaces_l1_go) :=
 lEnt_ok E (exec_sound E E_ok (look_lcores_ok) (pplaces_l0_lps_ok) 400) fun ds Q r h S hS => by
   unfold pplaces_l1_go at h
   obtain ⟨x92,ds,rfl,h1⟩ := dB_inv h
   obtain ⟨x93,ds,rfl,h2⟩ := dB_inv h1
   obtain ⟨x94,ds,rfl,h3⟩ := dB_inv h2
   obtain ⟨x95,ds,rfl,h4⟩ := dB_inv h3
   obtain ⟨x96,ds,rfl,h5⟩ := dI_inv h4
   obtain ⟨x97,ds,rfl,h6⟩ := dV_inv h5
   obtain ⟨x98,ds,rfl,h7⟩ := dL_inv h6
   obtain ⟨x99,ds,rfl,h8⟩ := dV_inv h7
   obtain ⟨x100,ds,rfl,h9⟩ := dL_inv h8
   obtain ⟨x101,ds,rfl,h10⟩ := dV_inv h9
   obtain ⟨x102,ds,rfl,h11⟩ := dL_inv h10
   obtain ⟨x103,ds,rfl,h12⟩ := dI_inv h11
   obtain ⟨x104,ds,rfl,h13⟩ := dL_inv h12
   obtain ⟨x105,ds,rfl,h14⟩ := dL_inv h13
   obtain ⟨x106,ds,rfl,h15⟩ := dL_inv h14
   obtain ⟨x107,ds,rfl,h16⟩ := dN_inv h15
   obtain ⟨x108,ds,rfl,h17⟩ := dN_inv h16
   obtain ⟨x109,ds,rfl,h18⟩ := dI_inv h17
   obtain ⟨x110,ds,rfl,h19⟩ := dL_inv h18
   obtain ⟨x111,ds,rfl,h20⟩ := dL_inv h19
   obtain ⟨x112,ds,rfl,h21⟩ := dL_inv h20
   obtain ⟨x113,ds,rfl,h22⟩ := dI_inv h21
   obtain ⟨x114,ds,rfl,h23⟩ := dL_inv h22
   obtain ⟨x115,ds,rfl,h24⟩ := dL_inv h23
   obtain ⟨x116,ds,rfl,h25⟩ := dL_inv h24
   obtain ⟨rfl,hE⟩ := dE_inv h25
   have e:fillS (pplaces_S6) [.b x92,.b x93,.b x94,.b x95,.i x96,.v x97,.l kP x98,.v x99,.l kP x100,.v x101,.l kP x102,.i x103,.l kP x104,.l kP x105,.l kP x106,.n x107,.n x108,.i x109,.l kP x110,.l kP x111,.l kP x112,.i x113,.l kP x114,.l kP x115,.l kP x116] = some (pplaces_S4 x92 x93 x94 x95 x96 x97 x98 x99 x100 x101 x102 x103 x104 x105 x106 x107 x108 x109 x110 x111 x112 x113 x114 x115 x116) := by kernel_rfl
   rw [e] at hS
   cases hS
   exact ⟨_,(pplaces_l1_iter x92 x93 x94 x95 x97 x98 x99 x100 x101 x102 x103 x104 x105 x106 x107 x108 x109 x110 x111 x112 x113 x114 x116 Q _ x96 x115).trans hE⟩
noncomputable def pplaces_l1_lps {α:Type}:LookL α := addLp 8 pplaces_P2 0 (lEnt (pplaces_S6) pplaces_l1_go) pplaces_l0_lps
theorem pplaces_l1_lps_ok {α:Type}:LoopsOk E.P (pplaces_l1_lps (α := α)) := addLp_ok pplaces_l1_ok (pplaces_l0_lps_ok)
noncomputable def M.pplaces_l2_step {α:Type} (x159:Nat) (kn:Int → L3 → Option α) (k1:Option α) (x148:Int) (x163:L3):Option α := if cLt x148 (↑x159:Int) = true then if (0:Int) ≤ x148 ∧ x148 < (↑x159:Int) then kn (IntKind.wrap .i64 (x148 + (1:Int))) (List.set x163 (Int.toNat x148) ((-9:Int),Prod.snd (List.getD x163 (Int.toNat x148) ((0:Int),(0:Int),(0:Int))))) else none else k1
noncomputable def M.pplaces_l2 {α:Type} (x159:Nat) (k1:Option α):Nat → Int → L3 → Option α
 | 0,_,_ => none
 | n + 1,x148,x163 => M.pplaces_l2_step x159 (M.pplaces_l2 x159 k1 n) k1 x148 x163
theorem pplaces_l2_step_eq {α:Type} (x144 x145 x146 x147:Bool) (x148:Int) (x149:Value) (x150:L3) (x151:Value) (x152:L3) (x153:Value) (x154:L3) (x155:Int) (x156 x157 x158:L3) (x159 x160:Nat) (x161:Int) (x162 x163 x164:L3) (Q:Ex → St → Option α):(loopStep E (exec E look_lcores pplaces_l1_lps 400) 8 pplaces_P1 0 (codeAt E.P 8 pplaces_P1)) (pplaces_S7 x144 x145 x146 x147 x148 x149 x150 x151 x152 x153 x154 x155 x156 x157 x158 x159 x160 x161 x162 x163 x164) Q = M.pplaces_l2_step x159 (fun (x165:Int) (x166:L3) => Q .normal (pplaces_S7 x144 x145 x146 x147 x165 x149 x150 x151 x152 x153 x154 x155 x156 x157 x158 x159 x160 x161 x162 x166 x164)) (Q (.exit 4) (pplaces_S8 x144 x145 x146 x147 x149 x150 x151 x152 x153 x154 x155 x156 x157 x158)) x148 x163 := by kernel_rfl
theorem pplaces_l2_iter {α:Type} (x144 x145 x146 x147:Bool) (x149:Value) (x150:L3) (x151:Value) (x152:L3) (x153:Value) (x154:L3) (x155:Int) (x156 x157 x158:L3) (x159 x160:Nat) (x161:Int) (x162 x164:L3) (Q:Ex → St → Option α):∀ (n:Nat) (x148:Int) (x163:L3),iter (loopStep E (exec E look_lcores pplaces_l1_lps 400) 8 pplaces_P1 0 (codeAt E.P 8 pplaces_P1)) n (pplaces_S7 x144 x145 x146 x147 x148 x149 x150 x151 x152 x153 x154 x155 x156 x157 x158 x159 x160 x161 x162 x163 x164) Q = M.pplaces_l2 x159 (Q (.exit 4) (pplaces_S8 x144 x145 x146 x147 x149 x150 x151 x152 x153 x154 x155 x156 x157 x158)) n x148 x163
 | 0,_,_ => rfl
 | n + 1,x148,x163 => (pplaces_l2_step_eq x144 x145 x146 x147 x148 x149 x150 x151 x152 x153 x154 x155 x156 x157 x158 x159 x160 x161 x162 x163 x164 (iterK (loopStep E (exec E look_lcores pplaces_l1_lps 400) 8 pplaces_P1 0 (codeAt E.P 8 pplaces_P1)) n Q)).trans (congrArg (fun kn => M.pplaces_l2_step x159 kn (Q (.exit 4) (pplaces_S8 x144 x145 x146 x147 x149 x150 x151 x152 x153 x154 x155 x156 x157 x158)) x148 x163) (funext fun x148 => funext fun x163 => pplaces_l2_iter x144 x145 x146 x147 x149 x150 x151 x152 x153 x154 x155 x156 x157 x158 x159 x160 x161 x162 x164 Q n x148 x163))
noncomputable def pplaces_l2_go {α:Type} (ds:List D) (Q:Ex → St → Option α):Option α :=
 dB ds fun x144 ds => dB ds fun x145 ds => dB ds fun x146 ds => dB ds fun x147 ds => dI ds fun x148 ds => dV ds fun x149 ds => dL kP ds fun x150 ds => dV ds fun x151 ds => dL kP ds fun x152 ds => dV ds fun x153 ds => dL kP ds fun x154 ds => dI ds fun x155 ds => dL kP ds fun x156 ds => dL kP ds fun x157 ds => dL kP ds fun x158 ds => dN ds fun x159 ds => dN ds fun x160 ds => dI ds fun x161 ds => dL kP ds fun x162 ds => dL kP ds fun x163 ds => dL kP ds fun x164 ds => dE ds (M.pplaces_l2 x159 (Q (.exit 4) (pplaces_S8 x144 x145 x146 x147 x149 x150 x151 x152 x153 x154 x155 x156 x157 x158)) (100 + x150.length + x152.length + x154.length + x156.length + x157.length + x158.length + x162.length + x163.length + x164.length) x148 x163)
theorem pplaces_l2_ok {α:Type}:LoopOk E.P 8 pplaces_P1 0 (lEnt (α := α) (pplaces_S9) pplaces_l2_go) :=
 lEnt_ok E (exec_sound E E_ok (look_lcores_ok) (pplaces_l1_lps_ok) 400) fun ds Q r h S hS => by
   unfold pplaces_l2_go at h
   obtain ⟨x144,ds,rfl,h1⟩ := dB_inv h
   obtain ⟨x145,ds,rfl,h2⟩ := dB_inv h1
   obtain ⟨x146,ds,rfl,h3⟩ := dB_inv h2
   obtain ⟨x147,ds,rfl,h4⟩ := dB_inv h3
   obtain ⟨x148,ds,rfl,h5⟩ := dI_inv h4
   obtain ⟨x149,ds,rfl,h6⟩ := dV_inv h5
   obtain ⟨x150,ds,rfl,h7⟩ := dL_inv h6
   obtain ⟨x151,ds,rfl,h8⟩ := dV_inv h7
   obtain ⟨x152,ds,rfl,h9⟩ := dL_inv h8
   obtain ⟨x153,ds,rfl,h10⟩ := dV_inv h9
   obtain ⟨x154,ds,rfl,h11⟩ := dL_inv h10
   obtain ⟨x155,ds,rfl,h12⟩ := dI_inv h11
   obtain ⟨x156,ds,rfl,h13⟩ := dL_inv h12
   obtain ⟨x157,ds,rfl,h14⟩ := dL_inv h13
   obtain ⟨x158,ds,rfl,h15⟩ := dL_inv h14
   obtain ⟨x159,ds,rfl,h16⟩ := dN_inv h15
   obtain ⟨x160,ds,rfl,h17⟩ := dN_inv h16
   obtain ⟨x161,ds,rfl,h18⟩ := dI_inv h17
   obtain ⟨x162,ds,rfl,h19⟩ := dL_inv h18
   obtain ⟨x163,ds,rfl,h20⟩ := dL_inv h19
   obtain ⟨x164,ds,rfl,h21⟩ := dL_inv h20
   obtain ⟨rfl,hE⟩ := dE_inv h21
   have e:fillS (pplaces_S9) [.b x144,.b x145,.b x146,.b x147,.i x148,.v x149,.l kP x150,.v x151,.l kP x152,.v x153,.l kP x154,.i x155,.l kP x156,.l kP x157,.l kP x158,.n x159,.n x160,.i x161,.l kP x162,.l kP x163,.l kP x164] = some (pplaces_S7 x144 x145 x146 x147 x148 x149 x150 x151 x152 x153 x154 x155 x156 x157 x158 x159 x160 x161 x162 x163 x164) := by kernel_rfl
   rw [e] at hS
   cases hS
   exact ⟨_,(pplaces_l2_iter x144 x145 x146 x147 x149 x150 x151 x152 x153 x154 x155 x156 x157 x158 x159 x160 x161 x162 x164 Q _ x148 x163).trans hE⟩
noncomputable def pplaces_l2_lps {α:Type}:LookL α := addLp 8 pplaces_P1 0 (lEnt (pplaces_S9) pplaces_l2_go) pplaces_l1_lps
theorem pplaces_l2_lps_ok {α:Type}:LoopsOk E.P (pplaces_l2_lps (α := α)) := addLp_ok pplaces_l2_ok (pplaces_l1_lps_ok)
noncomputable def M.pplaces_l3_step {α:Type} (kn:Int → L3 → Option α) (k1:L3 → Option α) (x199:Int) (x215:L3):Option α := if cLt x199 (↑(List.length x215):Int) = true then if (0:Int) ≤ x199 ∧ x199 < (↑(List.length x215):Int) then kn (IntKind.wrap .i64 (x199 + (1:Int))) (List.set x215 (Int.toNat x199) ((-9:Int),Prod.snd (List.getD x215 (Int.toNat x199) ((0:Int),(0:Int),(0:Int))))) else none else k1 x215
noncomputable def M.pplaces_l3 {α:Type} (k1:L3 → Option α):Nat → Int → L3 → Option α
 | 0,_,_ => none
 | n + 1,x199,x215 => M.pplaces_l3_step (M.pplaces_l3 k1 n) k1 x199 x215
theorem pplaces_l3_step_eq {α:Type} (x195 x196 x197 x198:Bool) (x199:Int) (x200:Value) (x201:L3) (x202:Value) (x203:L3) (x204:Value) (x205:L3) (x206:Int) (x207 x208 x209:L3) (x210:Int) (x211 x212 x213:L3) (x214:Int) (x215 x216 x217:L3) (Q:Ex → St → Option α):(loopStep E (exec E look_lcores pplaces_l2_lps 400) 8 pplaces_P3 0 (codeAt E.P 8 pplaces_P3)) (pplaces_S10 x195 x196 x197 x198 x199 x200 x201 x202 x203 x204 x205 x206 x207 x208 x209 x210 x211 x212 x213 x214 x215 x216 x217) Q = M.pplaces_l3_step (fun (x219:Int) (x220:L3) => Q .normal (pplaces_S10 x195 x196 x197 x198 x219 x200 x201 x202 x203 x204 x205 x206 x207 x208 x209 x210 x211 x212 x213 x214 x220 x216 x217)) (fun (x218:L3) => Q (.exit 0) (pplaces_S11 x195 x196 x197 x198 x200 x201 x202 x203 x204 x205 x206 x207 x208 x209 x210 x211 x212 x213 x214 x218 x216 x217)) x199 x215 := by kernel_rfl
theorem pplaces_l3_iter {α:Type} (x195 x196 x197 x198:Bool) (x200:Value) (x201:L3) (x202:Value) (x203:L3) (x204:Value) (x205:L3) (x206:Int) (x207 x208 x209:L3) (x210:Int) (x211 x212 x213:L3) (x214:Int) (x216 x217:L3) (Q:Ex → St → Option α):∀ (n:Nat) (x199:Int) (x215:L3),iter (loopStep E (exec E look_lcores pplaces_l2_lps 400) 8 pplaces_P3 0 (codeAt E.P 8 pplaces_P3)) n (pplaces_S10 x195 x196 x197 x198 x199 x200 x201 x202 x203 x204 x205 x206 x207 x208 x209 x210 x211 x212 x213 x214 x215 x216 x217) Q = M.pplaces_l3 (fun (x218:L3) => Q (.exit 0) (pplaces_S11 x195 x196 x197 x198 x200 x201 x202 x203 x204 x205 x206 x207 x208 x209 x210 x211 x212 x213 x214 x218 x216 x217)) n x199 x215
 | 0,_,_ => rfl
 | n + 1,x199,x215 => (pplaces_l3_step_eq x195 x196 x197 x198 x199 x200 x201 x202 x203 x204 x205 x206 x207 x208 x209 x210 x211 x212 x213 x214 x215 x216 x217 (iterK (loopStep E (exec E look_lcores pplaces_l2_lps 400) 8 pplaces_P3 0 (codeAt E.P 8 pplaces_P3)) n Q)).trans (congrArg (fun kn => M.pplaces_l3_step kn (fun (x218:L3) => Q (.exit 0) (pplaces_S11 x195 x196 x197 x198 x200 x201 x202 x203 x204 x205 x206 x207 x208 x209 x210 x211 x212 x213 x214 x218 x216 x217)) x199 x215) (funext fun x199 => funext fun x215 => pplaces_l3_iter x195 x196 x197 x198 x200 x201 x202 x203 x204 x205 x206 x207 x208 x209 x210 x211 x212 x213 x214 x216 x217 Q n x199 x215))
noncomputable def pplaces_l3_go {α:Type} (ds:List D) (Q:Ex → St → Option α):Option α :=
 dB ds fun x195 ds => dB ds fun x196 ds => dB ds fun x197 ds => dB ds fun x198 ds => dI ds fun x199 ds => dV ds fun x200 ds => dL kP ds fun x201 ds => dV ds fun x202 ds => dL kP ds fun x203 ds => dV ds fun x204 ds => dL kP ds fun x205 ds => dI ds fun x206 ds => dL kP ds fun x207 ds => dL kP ds fun x208 ds => dL kP ds fun x209 ds => dI ds fun x210 ds => dL kP ds fun x211 ds => dL kP ds fun x212 ds => dL kP ds fun x213 ds => dI ds fun x214 ds => dL kP ds fun x215 ds => dL kP ds fun x216 ds => dL kP ds fun x217 ds => dE ds (M.pplaces_l3 (fun (x218:L3) => Q (.exit 0) (pplaces_S11 x195 x196 x197 x198 x200 x201 x202 x203 x204 x205 x206 x207 x208 x209 x210 x211 x212 x213 x214 x218 x216 x217)) (100 + x201.length + x203.length + x205.length + x207.length + x208.length + x209.length + x211.length + x212.length + x213.length + x215.length + x216.length + x217.length) x199 x215)
theorem pplaces_l3_ok {α:Type}:LoopOk E.P 8 pplaces_P3 0 (lEnt (α := α) (pplaces_S12) pplaces_l3_go) :=
 lEnt_ok E (exec_sound E E_ok (look_lcores_ok) (pplaces_l2_lps_ok) 400) fun ds Q r h S hS => by
   unfold pplaces_l3_go at h
   obtain ⟨x195,ds,rfl,h1⟩ := dB_inv h
   obtain ⟨x196,ds,rfl,h2⟩ := dB_inv h1
   obtain ⟨x197,ds,rfl,h3⟩ := dB_inv h2
   obtain ⟨x198,ds,rfl,h4⟩ := dB_inv h3
   obtain ⟨x199,ds,rfl,h5⟩ := dI_inv h4
   obtain ⟨x200,ds,rfl,h6⟩ := dV_inv h5
   obtain ⟨x201,ds,rfl,h7⟩ := dL_inv h6
   obtain ⟨x202,ds,rfl,h8⟩ := dV_inv h7
   obtain ⟨x203,ds,rfl,h9⟩ := dL_inv h8
   obtain ⟨x204,ds,rfl,h10⟩ := dV_inv h9
   obtain ⟨x205,ds,rfl,h11⟩ := dL_inv h10
   obtain ⟨x206,ds,rfl,h12⟩ := dI_inv h11
   obtain ⟨x207,ds,rfl,h13⟩ := dL_inv h12
   obtain ⟨x208,ds,rfl,h14⟩ := dL_inv h13
   obtain ⟨x209,ds,rfl,h15⟩ := dL_inv h14
   obtain ⟨x210,ds,rfl,h16⟩ := dI_inv h15
   obtain ⟨x211,ds,rfl,h17⟩ := dL_inv h16
   obtain ⟨x212,ds,rfl,h18⟩ := dL_inv h17
   obtain ⟨x213,ds,rfl,h19⟩ := dL_inv h18
   obtain ⟨x214,ds,rfl,h20⟩ := dI_inv h19
   obtain ⟨x215,ds,rfl,h21⟩ := dL_inv h20
   obtain ⟨x216,ds,rfl,h22⟩ := dL_inv h21
   obtain ⟨x217,ds,rfl,h23⟩ := dL_inv h22
   obtain ⟨rfl,hE⟩ := dE_inv h23
   have e:fillS (pplaces_S12) [.b x195,.b x196,.b x197,.b x198,.i x199,.v x200,.l kP x201,.v x202,.l kP x203,.v x204,.l kP x205,.i x206,.l kP x207,.l kP x208,.l kP x209,.i x210,.l kP x211,.l kP x212,.l kP x213,.i x214,.l kP x215,.l kP x216,.l kP x217] = some (pplaces_S10 x195 x196 x197 x198 x199 x200 x201 x202 x203 x204 x205 x206 x207 x208 x209 x210 x211 x212 x213 x214 x215 x216 x217) := by kernel_rfl
   rw [e] at hS
   cases hS
   exact ⟨_,(pplaces_l3_iter x195 x196 x197 x198 x200 x201 x202 x203 x204 x205 x206 x207 x208 x209 x210 x211 x212 x213 x214 x216 x217 Q _ x199 x215).trans hE⟩
noncomputable def pplaces_l3_lps {α:Type}:LookL α := addLp 8 pplaces_P3 0 (lEnt (pplaces_S12) pplaces_l3_go) pplaces_l2_lps
theorem pplaces_l3_lps_ok {α:Type}:LoopsOk E.P (pplaces_l3_lps (α := α)) := addLp_ok pplaces_l3_ok (pplaces_l2_lps_ok)
noncomputable def M.pplaces_l4_step {α:Type} (kn:Int → L3 → Option α) (k1:Option α) (x254:Int) (x271:L3):Option α := if cLt x254 (↑(List.length x271):Int) = true then if (0:Int) ≤ x254 ∧ x254 < (↑(List.length x271):Int) then kn (IntKind.wrap .i64 (x254 + (1:Int))) (List.set x271 (Int.toNat x254) ((-9:Int),Prod.snd (List.getD x271 (Int.toNat x254) ((0:Int),(0:Int),(0:Int))))) else none else k1
noncomputable def M.pplaces_l4 {α:Type} (k1:Option α):Nat → Int → L3 → Option α
 | 0,_,_ => none
 | n + 1,x254,x271 => M.pplaces_l4_step (M.pplaces_l4 k1 n) k1 x254 x271
theorem pplaces_l4_step_eq {α:Type} (x250 x251 x252 x253:Bool) (x254:Int) (x255:Value) (x256:L3) (x257:Value) (x258:L3) (x259:Value) (x260:L3) (x261:Int) (x262 x263 x264:L3) (x265:Int) (x266 x267 x268:L3) (x269:Int) (x270 x271 x272:L3) (Q:Ex → St → Option α):(loopStep E (exec E look_lcores pplaces_l3_lps 400) 8 pplaces_P2 0 (codeAt E.P 8 pplaces_P2)) (pplaces_S13 x250 x251 x252 x253 x254 x255 x256 x257 x258 x259 x260 x261 x262 x263 x264 x265 x266 x267 x268 x269 x270 x271 x272) Q = M.pplaces_l4_step (fun (x273:Int) (x274:L3) => Q .normal (pplaces_S13 x250 x251 x252 x253 x273 x255 x256 x257 x258 x259 x260 x261 x262 x263 x264 x265 x266 x267 x268 x269 x270 x274 x272)) (Q (.exit 2) (pplaces_S14 x250 x251 x252 x253 x255 x256 x257 x258 x259 x260 x261 x262 x263 x264 x265 x266 x267 x268)) x254 x271 := by kernel_rfl
theorem pplaces_l4_iter {α:Type} (x250 x251 x252 x253:Bool) (x255:Value) (x256:L3) (x257:Value) (x258:L3) (x259:Value) (x260:L3) (x261:Int) (x262 x263 x264:L3) (x265:Int) (x266 x267 x268:L3) (x269:Int) (x270 x272:L3) (Q:Ex → St → Option α):∀ (n:Nat) (x254:Int) (x271:L3),iter (loopStep E (exec E look_lcores pplaces_l3_lps 400) 8 pplaces_P2 0 (codeAt E.P 8 pplaces_P2)) n (pplaces_S13 x250 x251 x252 x253 x254 x255 x256 x257 x258 x259 x260 x261 x262 x263 x264 x265 x266 x267 x268 x269 x270 x271 x272) Q = M.pplaces_l4 (Q (.exit 2) (pplaces_S14 x250 x251 x252 x253 x255 x256 x257 x258 x259 x260 x261 x262 x263 x264 x265 x266 x267 x268)) n x254 x271
 | 0,_,_ => rfl
 | n + 1,x254,x271 => (pplaces_l4_step_eq x250 x251 x252 x253 x254 x255 x256 x257 x258 x259 x260 x261 x262 x263 x264 x265 x266 x267 x268 x269 x270 x271 x272 (iterK (loopStep E (exec E look_lcores pplaces_l3_lps 400) 8 pplaces_P2 0 (codeAt E.P 8 pplaces_P2)) n Q)).trans (congrArg (fun kn => M.pplaces_l4_step kn (Q (.exit 2) (pplaces_S14 x250 x251 x252 x253 x255 x256 x257 x258 x259 x260 x261 x262 x263 x264 x265 x266 x267 x268)) x254 x271) (funext fun x254 => funext fun x271 => pplaces_l4_iter x250 x251 x252 x253 x255 x256 x257 x258 x259 x260 x261 x262 x263 x264 x265 x266 x267 x268 x269 x270 x272 Q n x254 x271))
noncomputable def pplaces_l4_go {α:Type} (ds:List D) (Q:Ex → St → Option α):Option α :=
 dB ds fun x250 ds => dB ds fun x251 ds => dB ds fun x252 ds => dB ds fun x253 ds => dI ds fun x254 ds => dV ds fun x255 ds => dL kP ds fun x256 ds => dV ds fun x257 ds => dL kP ds fun x258 ds => dV ds fun x259 ds => dL kP ds fun x260 ds => dI ds fun x261 ds => dL kP ds fun x262 ds => dL kP ds fun x263 ds => dL kP ds fun x264 ds => dI ds fun x265 ds => dL kP ds fun x266 ds => dL kP ds fun x267 ds => dL kP ds fun x268 ds => dI ds fun x269 ds => dL kP ds fun x270 ds => dL kP ds fun x271 ds => dL kP ds fun x272 ds => dE ds (M.pplaces_l4 (Q (.exit 2) (pplaces_S14 x250 x251 x252 x253 x255 x256 x257 x258 x259 x260 x261 x262 x263 x264 x265 x266 x267 x268)) (100 + x256.length + x258.length + x260.length + x262.length + x263.length + x264.length + x266.length + x267.length + x268.length + x270.length + x271.length + x272.length) x254 x271)
theorem pplaces_l4_ok {α:Type}:LoopOk E.P 8 pplaces_P2 0 (lEnt (α := α) (pplaces_S15) pplaces_l4_go) :=
 lEnt_ok E (exec_sound E E_ok (look_lcores_ok) (pplaces_l3_lps_ok) 400) fun ds Q r h S hS => by
   unfold pplaces_l4_go at h
   obtain ⟨x250,ds,rfl,h1⟩ := dB_inv h
   obtain ⟨x251,ds,rfl,h2⟩ := dB_inv h1
   obtain ⟨x252,ds,rfl,h3⟩ := dB_inv h2
   obtain ⟨x253,ds,rfl,h4⟩ := dB_inv h3
   obtain ⟨x254,ds,rfl,h5⟩ := dI_inv h4
   obtain ⟨x255,ds,rfl,h6⟩ := dV_inv h5
   obtain ⟨x256,ds,rfl,h7⟩ := dL_inv h6
   obtain ⟨x257,ds,rfl,h8⟩ := dV_inv h7
   obtain ⟨x258,ds,rfl,h9⟩ := dL_inv h8
   obtain ⟨x259,ds,rfl,h10⟩ := dV_inv h9
   obtain ⟨x260,ds,rfl,h11⟩ := dL_inv h10
   obtain ⟨x261,ds,rfl,h12⟩ := dI_inv h11
   obtain ⟨x262,ds,rfl,h13⟩ := dL_inv h12
   obtain ⟨x263,ds,rfl,h14⟩ := dL_inv h13
   obtain ⟨x264,ds,rfl,h15⟩ := dL_inv h14
   obtain ⟨x265,ds,rfl,h16⟩ := dI_inv h15
   obtain ⟨x266,ds,rfl,h17⟩ := dL_inv h16
   obtain ⟨x267,ds,rfl,h18⟩ := dL_inv h17
   obtain ⟨x268,ds,rfl,h19⟩ := dL_inv h18
   obtain ⟨x269,ds,rfl,h20⟩ := dI_inv h19
   obtain ⟨x270,ds,rfl,h21⟩ := dL_inv h20
   obtain ⟨x271,ds,rfl,h22⟩ := dL_inv h21
   obtain ⟨x272,ds,rfl,h23⟩ := dL_inv h22
   obtain ⟨rfl,hE⟩ := dE_inv h23
   have e:fillS (pplaces_S15) [.b x250,.b x251,.b x252,.b x253,.i x254,.v x255,.l kP x256,.v x257,.l kP x258,.v x259,.l kP x260,.i x261,.l kP x262,.l kP x263,.l kP x264,.i x265,.l kP x266,.l kP x267,.l kP x268,.i x269,.l kP x270,.l kP x271,.l kP x272] = some (pplaces_S13 x250 x251 x252 x253 x254 x255 x256 x257 x258 x259 x260 x261 x262 x263 x264 x265 x266 x267 x268 x269 x270 x271 x272) := by kernel_rfl
   rw [e] at hS
   cases hS
   exact ⟨_,(pplaces_l4_iter x250 x251 x252 x253 x255 x256 x257 x258 x259 x260 x261 x262 x263 x264 x265 x266 x267 x268 x269 x270 x272 Q _ x254 x271).trans hE⟩
noncomputable def pplaces_l4_lps {α:Type}:LookL α := addLp 8 pplaces_P2 0 (lEnt (pplaces_S15) pplaces_l4_go) pplaces_l3_lps
theorem pplaces_l4_lps_ok {α:Type}:LoopsOk E.P (pplaces_l4_lps (α := α)) := addLp_ok pplaces_l4_ok (pplaces_l3_lps_ok)
noncomputable def M.pplaces_l5_step {α:Type} (kn:Int → L3 → Option α) (k1:Option α) (x304:Int) (x317:L3):Option α := if cLt x304 (↑(List.length x317):Int) = true then if (0:Int) ≤ x304 ∧ x304 < (↑(List.length x317):Int) then kn (IntKind.wrap .i64 (x304 + (1:Int))) (List.set x317 (Int.toNat x304) ((-9:Int),Prod.snd (List.getD x317 (Int.toNat x304) ((0:Int),(0:Int),(0:Int))))) else none else k1
noncomputable def M.pplaces_l5 {α:Type} (k1:Option α):Nat → Int → L3 → Option α
 | 0,_,_ => none
 | n + 1,x304,x317 => M.pplaces_l5_step (M.pplaces_l5 k1 n) k1 x304 x317
theorem pplaces_l5_step_eq {α:Type} (x300 x301 x302 x303:Bool) (x304:Int) (x305:Value) (x306:L3) (x307:Value) (x308:L3) (x309:Value) (x310:L3) (x311:Int) (x312 x313 x314:L3) (x315:Int) (x316 x317 x318:L3) (Q:Ex → St → Option α):(loopStep E (exec E look_lcores pplaces_l4_lps 400) 8 pplaces_P1 0 (codeAt E.P 8 pplaces_P1)) (pplaces_S16 x300 x301 x302 x303 x304 x305 x306 x307 x308 x309 x310 x311 x312 x313 x314 x315 x316 x317 x318) Q = M.pplaces_l5_step (fun (x319:Int) (x320:L3) => Q .normal (pplaces_S16 x300 x301 x302 x303 x319 x305 x306 x307 x308 x309 x310 x311 x312 x313 x314 x315 x316 x320 x318)) (Q (.exit 4) (pplaces_S8 x300 x301 x302 x303 x305 x306 x307 x308 x309 x310 x311 x312 x313 x314)) x304 x317 := by kernel_rfl
theorem pplaces_l5_iter {α:Type} (x300 x301 x302 x303:Bool) (x305:Value) (x306:L3) (x307:Value) (x308:L3) (x309:Value) (x310:L3) (x311:Int) (x312 x313 x314:L3) (x315:Int) (x316 x318:L3) (Q:Ex → St → Option α):∀ (n:Nat) (x304:Int) (x317:L3),iter (loopStep E (exec E look_lcores pplaces_l4_lps 400) 8 pplaces_P1 0 (codeAt E.P 8 pplaces_P1)) n (pplaces_S16 x300 x301 x302 x303 x304 x305 x306 x307 x308 x309 x310 x311 x312 x313 x314 x315 x316 x317 x318) Q = M.pplaces_l5 (Q (.exit 4) (pplaces_S8 x300 x301 x302 x303 x305 x306 x307 x308 x309 x310 x311 x312 x313 x314)) n x304 x317
 | 0,_,_ => rfl
 | n + 1,x304,x317 => (pplaces_l5_step_eq x300 x301 x302 x303 x304 x305 x306 x307 x308 x309 x310 x311 x312 x313 x314 x315 x316 x317 x318 (iterK (loopStep E (exec E look_lcores pplaces_l4_lps 400) 8 pplaces_P1 0 (codeAt E.P 8 pplaces_P1)) n Q)).trans (congrArg (fun kn => M.pplaces_l5_step kn (Q (.exit 4) (pplaces_S8 x300 x301 x302 x303 x305 x306 x307 x308 x309 x310 x311 x312 x313 x314)) x304 x317) (funext fun x304 => funext fun x317 => pplaces_l5_iter x300 x301 x302 x303 x305 x306 x307 x308 x309 x310 x311 x312 x313 x314 x315 x316 x318 Q n x304 x317))
noncomputable def pplaces_l5_go {α:Type} (ds:List D) (Q:Ex → St → Option α):Option α :=
 dB ds fun x300 ds => dB ds fun x301 ds => dB ds fun x302 ds => dB ds fun x303 ds => dI ds fun x304 ds => dV ds fun x305 ds => dL kP ds fun x306 ds => dV ds fun x307 ds => dL kP ds fun x308 ds => dV ds fun x309 ds => dL kP ds fun x310 ds => dI ds fun x311 ds => dL kP ds fun x312 ds => dL kP ds fun x313 ds => dL kP ds fun x314 ds => dI ds fun x315 ds => dL kP ds fun x316 ds => dL kP ds fun x317 ds => dL kP ds fun x318 ds => dE ds (M.pplaces_l5 (Q (.exit 4) (pplaces_S8 x300 x301 x302 x303 x305 x306 x307 x308 x309 x310 x311 x312 x313 x314)) (100 + x306.length + x308.length + x310.length + x312.length + x313.length + x314.length + x316.length + x317.length + x318.length) x304 x317)
theorem pplaces_l5_ok {α:Type}:LoopOk E.P 8 pplaces_P1 0 (lEnt (α := α) (pplaces_S17) pplaces_l5_go) :=
 lEnt_ok E (exec_sound E E_ok (look_lcores_ok) (pplaces_l4_lps_ok) 400) fun ds Q r h S hS => by
   unfold pplaces_l5_go at h
   obtain ⟨x300,ds,rfl,h1⟩ := dB_inv h
   obtain ⟨x301,ds,rfl,h2⟩ := dB_inv h1
   obtain ⟨x302,ds,rfl,h3⟩ := dB_inv h2
   obtain ⟨x303,ds,rfl,h4⟩ := dB_inv h3
   obtain ⟨x304,ds,rfl,h5⟩ := dI_inv h4
   obtain ⟨x305,ds,rfl,h6⟩ := dV_inv h5
   obtain ⟨x306,ds,rfl,h7⟩ := dL_inv h6
   obtain ⟨x307,ds,rfl,h8⟩ := dV_inv h7
   obtain ⟨x308,ds,rfl,h9⟩ := dL_inv h8
   obtain ⟨x309,ds,rfl,h10⟩ := dV_inv h9
   obtain ⟨x310,ds,rfl,h11⟩ := dL_inv h10
   obtain ⟨x311,ds,rfl,h12⟩ := dI_inv h11
   obtain ⟨x312,ds,rfl,h13⟩ := dL_inv h12
   obtain ⟨x313,ds,rfl,h14⟩ := dL_inv h13
   obtain ⟨x314,ds,rfl,h15⟩ := dL_inv h14
   obtain ⟨x315,ds,rfl,h16⟩ := dI_inv h15
   obtain ⟨x316,ds,rfl,h17⟩ := dL_inv h16
   obtain ⟨x317,ds,rfl,h18⟩ := dL_inv h17
   obtain ⟨x318,ds,rfl,h19⟩ := dL_inv h18
   obtain ⟨rfl,hE⟩ := dE_inv h19
   have e:fillS (pplaces_S17) [.b x300,.b x301,.b x302,.b x303,.i x304,.v x305,.l kP x306,.v x307,.l kP x308,.v x309,.l kP x310,.i x311,.l kP x312,.l kP x313,.l kP x314,.i x315,.l kP x316,.l kP x317,.l kP x318] = some (pplaces_S16 x300 x301 x302 x303 x304 x305 x306 x307 x308 x309 x310 x311 x312 x313 x314 x315 x316 x317 x318) := by kernel_rfl
   rw [e] at hS
   cases hS
   exact ⟨_,(pplaces_l5_iter x300 x301 x302 x303 x305 x306 x307 x308 x309 x310 x311 x312 x313 x314 x315 x316 x318 Q _ x304 x317).trans hE⟩
noncomputable def pplaces_l5_lps {α:Type}:LookL α := addLp 8 pplaces_P1 0 (lEnt (pplaces_S17) pplaces_l5_go) pplaces_l4_lps
theorem pplaces_l5_lps_ok {α:Type}:LoopsOk E.P (pplaces_l5_lps (α := α)) := addLp_ok pplaces_l5_ok (pplaces_l4_lps_ok)
noncomputable def M.pplaces {α:Type} (l:L3) (ax:L3) (ed:L3) (r:Int) (px:Int) (p_y:Int) (pz:Int) (tw:Int) (tx:Int) (ty:Int) (tz:Int) (bx:Int) (b_y:Int) (bz:Int) (k0:Bool → Option α):Option α := let s328:List P3 := V.mvd l (bx,b_y,bz); let s329:Int := Prod.fst (V.spn l r); let s330:Int × Int × Int × Int × Int := Prod.snd (V.spn l r); let s331:Nat := List.length l; let s332:Nat := List.length ax; let s333:Nat := List.length ed; let s334:Int := Prod.fst s330; let s335:Int × Int × Int × Int := Prod.snd s330; let s336:Nat := List.length s328; let s337:Int × Int × Int := Prod.snd s335; let s338:Int := Prod.fst s335; let s339:Option (List P3 × List P3 × List P3) := V.plc l ax ed (px,p_y,pz) (tw,tx,ty,tz); let s340:List P3 := V.plP s339; let s341:Int × Int := Prod.snd s337; let s342:List P3 := V.plA s339; let s343:Int := Prod.fst s337; let s344:List P3 := V.plE s339; let s345:Bool := V.plG s339; let s346:Int := V.plR r s339; let s347:Nat := List.length s342; let s348:Int := Prod.snd s341; let s349:Int := Prod.fst s341; let s350:Nat := List.length s340; let s351:List (K.T kP) := List.take (List.length s344) s344; let s352:List (K.T kP) := List.take s347 s342; let s353:Nat := (100:Nat) + s331 + s332 + s333 + s331 + s332 + s333 + (0:Nat) + (0:Nat) + (0:Nat); let s354:Nat := s353 + s336 + s332 + s333; let s355:Nat := (100:Nat) + s331 + s332 + s333 + s331 + s332 + s333 + s350 + List.length s342 + List.length s344; let s356:Nat := s355 + s336 + s332 + s333; if cLt (200:Int) (IntKind.wrap .i64 (IntKind.wrap .i64 ((↑s331:Int) + (↑s332:Int)) + (↑s333:Int))) = true then k0 true else if s331 * (24:Nat) ≤ (140737488355328:Nat) then if s332 * (24:Nat) ≤ (140737488355328:Nat) then if s333 * (24:Nat) ≤ (140737488355328:Nat) then if V.lenB (List.length l) = true ∧ V.lenB (List.length ax) = true ∧ V.lenB (List.length ed) = true then if s345 = true then if V.lenB (List.length l) = true ∧ V.lenB (List.length ax) = true ∧ V.lenB (List.length ed) = true then if V.lenB (List.length l) = true ∧ V.lenB (List.length ax) = true ∧ V.lenB (List.length ed) = true then if V.lenB (List.length l) = true ∧ V.lenB (List.length ax) = true ∧ V.lenB (List.length ed) = true then if V.lenB s350 = true ∧ V.lenB (List.length s352) = true ∧ V.lenB (List.length s351) = true then if V.corEq s340 s352 s351 r s340 s342 s344 s346 = true then if V.lenB s336 = true ∧ V.lenB s332 = true ∧ V.lenB s333 = true then M.pplaces_l0 (fun (x324:L3) ↦ M.pplaces_l1 (M.pplaces_l2 s347 (if V.corEq s328 ax ed r s328 ax ed r = true then if (true == s345) = true then if V.lenB (List.length l) = true then if V.ptsEq l l = true then if V.lenB (List.length ax) = true then if V.ptsEq ax ax = true then if V.lenB (List.length ed) = true then if V.ptsEq ed ed = true then if V.lenB (List.length l) = true then if V.lenB (List.length l) = true then k0 (cEq s329 s329 && (cEq s334 s334 && (cEq s338 s338 && true)) && (cEq s343 s343 && (cEq s349 s349 && (cEq s348 s348 && true)) && true)) else none else none else k0 false else none else k0 false else none else k0 false else none else k0 false else k0 false) s355 (0:Int) s342) (s355 + List.length x324 + s332 + s333) (0:Int) ax) s356 (0:Int) s328 else none else M.pplaces_l0 (fun (x325:L3) ↦ M.pplaces_l1 (M.pplaces_l2 s347 (k0 false) s355 (0:Int) s342) (s355 + List.length x325 + s332 + s333) (0:Int) ax) s356 (0:Int) s328 else none else none else none else none else if V.lenB (List.length l) = true ∧ V.lenB (List.length ax) = true ∧ V.lenB (List.length ed) = true then if V.lenB (List.length l) = true ∧ V.lenB (List.length ax) = true ∧ V.lenB (List.length ed) = true then if V.lenB (List.length l) = true ∧ V.lenB (List.length ax) = true ∧ V.lenB (List.length ed) = true then if V.lenB (0:Nat) = true ∧ V.lenB (0:Nat) = true ∧ V.lenB (0:Nat) = true then if V.corEq [] [] [] (0:Int) s340 s342 s344 s346 = true then if V.lenB s336 = true ∧ V.lenB s332 = true ∧ V.lenB s333 = true then M.pplaces_l3 (fun (x326:L3) ↦ M.pplaces_l4 (M.pplaces_l5 (if V.corEq s328 ax ed r s328 ax ed r = true then if (false == s345) = true then if V.lenB (List.length l) = true then if V.ptsEq l l = true then if V.lenB (List.length ax) = true then if V.ptsEq ax ax = true then if V.lenB (List.length ed) = true then if V.ptsEq ed ed = true then if V.lenB (List.length l) = true then if V.lenB (List.length l) = true then k0 (cEq s329 s329 && (cEq s334 s334 && (cEq s338 s338 && true)) && (cEq s343 s343 && (cEq s349 s349 && (cEq s348 s348 && true)) && true)) else none else none else k0 false else none else k0 false else none else k0 false else none else k0 false else k0 false) s353 (0:Int) []) (s353 + List.length x326 + s332 + s333) (0:Int) ax) s354 (0:Int) s328 else none else M.pplaces_l3 (fun (x327:L3) ↦ M.pplaces_l4 (M.pplaces_l5 (k0 false) s353 (0:Int) []) (s353 + List.length x327 + s332 + s333) (0:Int) ax) s354 (0:Int) s328 else none else none else none else none else none else none else none else none
theorem pplaces_eq {α:Type} (l:L3) (ax:L3) (ed:L3) (r:Int) (px:Int) (p_y:Int) (pz:Int) (tw:Int) (tx:Int) (ty:Int) (tz:Int) (bx:Int) (b_y:Int) (bz:Int) (v321:Value) (v322:Value) (v323:Value) (Q:SV → Hp → Option α):callI E look_lcores (exec E look_lcores pplaces_l5_lps 400) 8 ([SV.agg [SV.ros v321 kP l,SV.ros v322 kP ax,SV.ros v323 kP ed,SV.int .i64 r],SV.agg [SV.int .i64 px,SV.int .i64 p_y,SV.int .i64 pz,SV.int .i64 tw,SV.int .i64 tx,SV.int .i64 ty,SV.int .i64 tz],
 SV.agg [SV.int .i64 bx,SV.int .i64 b_y,SV.int .i64 bz]]) ([]) Q = M.pplaces l ax ed r px p_y pz tw tx ty tz bx b_y bz (fun (x357:Bool) => Q (SV.bool x357) ([])) := by kernel_rfl
def pplaces_sp:List AS := [.st [.ro kP,.ro kP,.ro kP,.leaf (.int .i64 0)],.val (.agg [.int .i64 0,.int .i64 0,.int .i64 0,.int .i64 0,.int .i64 0,.int .i64 0,.int .i64 0]),.val (.agg [.int .i64 0,.int .i64 0,.int .i64 0])]
theorem pp_l0 {α:Type} (k1:List P3 → Option α):∀ (fuel i:Nat) (X:List P3),X.length < 1099511627776 → i ≤ X.length → X.length - i < fuel → ∃ Y:List P3,Y.length = X.length ∧ M.pplaces_l0 k1 fuel (i:Int) X = k1 Y
 | 0,i,X,h0,h1,h2 => by omega
 | f + 1,i,X,h0,h1,h2 => by
   unfold M.pplaces_l0 M.pplaces_l0_step
   rw [cLt_nat]
   by_cases hi:i < X.length
   · rw [if_pos (by simpa using hi), if_pos (by omega : (0 : Int) ≤ (i : Int) ∧ (i : Int) < (X.length : Int)), w_next (by omega)]
     obtain ⟨Y,y1,y2⟩ := pp_l0 k1 f (i + 1) (List.set X (Int.toNat (i:Int)) ((-9:Int),Prod.snd (List.getD X (Int.toNat (i:Int)) ((0:Int),(0:Int),(0:Int))))) (by rw [List.length_set]; omega) (by rw [List.length_set]; omega) (by rw [List.length_set]; omega)
     exact ⟨Y,by rw [y1,List.length_set],y2⟩
   · exact ⟨X,rfl,by rw [if_neg (by simpa using hi)]⟩
theorem pp_all0 {α:Type} (k1:List P3 → Option α) (v:Option α) (fuel i:Nat) (X:List P3) (h0:X.length < 1099511627776) (h1:i ≤ X.length) (h2:X.length - i < fuel) (h:∀ Y:List P3,Y.length = X.length → k1 Y = v):M.pplaces_l0 k1 fuel (i:Int) X = v := by
 obtain ⟨Y,y1,y2⟩ := pp_l0 k1 fuel i X h0 h1 h2
 rw [y2]; exact h Y y1
theorem pp_l1 {α:Type} (k1:Option α):∀ (fuel i:Nat) (X:List P3),X.length < 1099511627776 → i ≤ X.length → X.length - i < fuel → M.pplaces_l1 k1 fuel (i:Int) X = k1
 | 0,i,X,h0,h1,h2 => by omega
 | f + 1,i,X,h0,h1,h2 => by
   unfold M.pplaces_l1 M.pplaces_l1_step
   rw [cLt_nat]
   by_cases hi:i < X.length
   · rw [if_pos (by simpa using hi), if_pos (by omega : (0 : Int) ≤ (i : Int) ∧ (i : Int) < (X.length : Int)), w_next (by omega)]
     exact pp_l1 k1 f (i + 1) _ (by rw [List.length_set]; omega) (by rw [List.length_set]; omega) (by rw [List.length_set]; omega)
   · rw [if_neg (by simpa using hi)]
theorem pp_l2 {α:Type} (n:Nat) (hn:n < 1099511627776) (k1:Option α):∀ (fuel i:Nat) (X:List P3),i ≤ n → n - i < fuel → M.pplaces_l2 n k1 fuel (i:Int) X = k1
 | 0,i,X,h1,h2 => by omega
 | f + 1,i,X,h1,h2 => by
   unfold M.pplaces_l2 M.pplaces_l2_step
   rw [cLt_nat]
   by_cases hi:i < n
   · rw [if_pos (by simpa using hi), if_pos (by omega : (0 : Int) ≤ (i : Int) ∧ (i : Int) < (n : Int)), w_next (by omega)]
     exact pp_l2 n hn k1 f (i + 1) _ (by omega) (by omega)
   · rw [if_neg (by simpa using hi)]
theorem pp_l3 {α:Type} (k1:List P3 → Option α):∀ (fuel i:Nat) (X:List P3),X.length < 1099511627776 → i ≤ X.length → X.length - i < fuel → ∃ Y:List P3,Y.length = X.length ∧ M.pplaces_l3 k1 fuel (i:Int) X = k1 Y
 | 0,i,X,h0,h1,h2 => by omega
 | f + 1,i,X,h0,h1,h2 => by
   unfold M.pplaces_l3 M.pplaces_l3_step
   rw [cLt_nat]
   by_cases hi:i < X.length
   · rw [if_pos (by simpa using hi), if_pos (by omega : (0 : Int) ≤ (i : Int) ∧ (i : Int) < (X.length : Int)), w_next (by omega)]
     obtain ⟨Y,y1,y2⟩ := pp_l3 k1 f (i + 1) (List.set X (Int.toNat (i:Int)) ((-9:Int),Prod.snd (List.getD X (Int.toNat (i:Int)) ((0:Int),(0:Int),(0:Int))))) (by rw [List.length_set]; omega) (by rw [List.length_set]; omega) (by rw [List.length_set]; omega)
     exact ⟨Y,by rw [y1,List.length_set],y2⟩
   · exact ⟨X,rfl,by rw [if_neg (by simpa using hi)]⟩
theorem pp_all3 {α:Type} (k1:List P3 → Option α) (v:Option α) (fuel i:Nat) (X:List P3) (h0:X.length < 1099511627776) (h1:i ≤ X.length) (h2:X.length - i < fuel) (h:∀ Y:List P3,Y.length = X.length → k1 Y = v):M.pplaces_l3 k1 fuel (i:Int) X = v := by
 obtain ⟨Y,y1,y2⟩ := pp_l3 k1 fuel i X h0 h1 h2
 rw [y2]; exact h Y y1
theorem pp_l4 {α:Type} (k1:Option α):∀ (fuel i:Nat) (X:List P3),X.length < 1099511627776 → i ≤ X.length → X.length - i < fuel → M.pplaces_l4 k1 fuel (i:Int) X = k1
 | 0,i,X,h0,h1,h2 => by omega
 | f + 1,i,X,h0,h1,h2 => by
   unfold M.pplaces_l4 M.pplaces_l4_step
   rw [cLt_nat]
   by_cases hi:i < X.length
   · rw [if_pos (by simpa using hi), if_pos (by omega : (0 : Int) ≤ (i : Int) ∧ (i : Int) < (X.length : Int)), w_next (by omega)]
     exact pp_l4 k1 f (i + 1) _ (by rw [List.length_set]; omega) (by rw [List.length_set]; omega) (by rw [List.length_set]; omega)
   · rw [if_neg (by simpa using hi)]
theorem pp_l5 {α:Type} (k1:Option α):∀ (fuel i:Nat) (X:List P3),X.length < 1099511627776 → i ≤ X.length → X.length - i < fuel → M.pplaces_l5 k1 fuel (i:Int) X = k1
 | 0,i,X,h0,h1,h2 => by omega
 | f + 1,i,X,h0,h1,h2 => by
   unfold M.pplaces_l5 M.pplaces_l5_step
   rw [cLt_nat]
   by_cases hi:i < X.length
   · rw [if_pos (by simpa using hi), if_pos (by omega : (0 : Int) ≤ (i : Int) ∧ (i : Int) < (X.length : Int)), w_next (by omega)]
     exact pp_l5 k1 f (i + 1) _ (by rw [List.length_set]; omega) (by rw [List.length_set]; omega) (by rw [List.length_set]; omega)
   · rw [if_neg (by simpa using hi)]
theorem wayRun_len (m:V.T9):∀ (G:List P3) (f:Bool) (a:List P3),(wayRun m G f a).2.2.length ≤ a.length + G.length
 | [],f,a => by show a.length ≤ _; omega
 | g :: G,f,a => by
   show (if Sm g 1048576 then wayRun m G (V.on (V.tTurn m (scP g 4096)) f) (if wayS m g = (0,0,0) then a else a ++ [wayS m g]) else (false,f,a)).2.2.length ≤ a.length + (G.length + 1)
   by_cases h:Sm g 1048576
   · rw [if_pos h]
     have := wayRun_len m G (V.on (V.tTurn m (scP g 4096)) f) (if wayS m g = (0,0,0) then a else a ++ [wayS m g])
     by_cases h0:wayS m g = (0,0,0)
     · rw [if_pos h0] at this ⊢; omega
     · rw [if_neg h0] at this ⊢
       rw [List.length_append,List.length_singleton] at this
       omega
   · rw [if_neg h]; show a.length ≤ _; omega
theorem wy_len (f:Bool) (m:V.T9) (l:List P3):(V.wy f m l).2.2.length ≤ l.length := by
 have := wayRun_len m (l.map growP) f []
 unfold V.wy
 rw [hid_eq]
 simpa using this
theorem plc_len {l ax ed:List P3} {t:V.T3} {q:V.T4} {w:List P3 × List P3 × List P3} (h:V.plc l ax ed t q = some w):w.1.length = l.length ∧ w.2.1.length ≤ ax.length ∧ w.2.2.length ≤ ed.length := by
 unfold V.plc at h
 rw [hid_eq] at h
 unfold plcP at h
 cases hp:placeRun (V.q9 (V.tRows q)) t l (V.on (V.tRows q) false) [] with
 | none => rw [hp] at h; exact absurd h (by simp)
 | some p =>
   rw [hp] at h
   have hl := placeRun_len _ _ _ _ _ _ hp
   have h2:plcK (V.q9 (V.tRows q)) ax ed p.1 p.2 = some w := h
   unfold plcK at h2
   split at h2
   · injection h2 with h2
     subst h2
     exact ⟨by simpa using hl,wy_len _ _ _,wy_len _ _ _⟩
   · exact absurd h2 (by simp)
theorem plG_none:V.plG none = false := hid_eq _
theorem plP_none:V.plP none = [] := hid_eq _
theorem plA_none:V.plA none = [] := hid_eq _
theorem plE_none:V.plE none = [] := hid_eq _
theorem plR_none (r:Int):V.plR r none = 0 := hid_eq _
theorem plR_some (r:Int) (t:List P3 × List P3 × List P3):V.plR r (some t) = r := hid_eq _
theorem mvd_len (l:List P3) (b:P3):(V.mvd l b).length = l.length := by unfold V.mvd; rw [hid_eq,List.length_map]
theorem pplaces_v {α:Type} (l ax ed:List P3) (r px p_y pz tw tx ty tz bx b_y bz:Int) (g1:l.length < 8796093022208) (g2:ax.length < 8796093022208) (g3:ed.length < 8796093022208) (k0:Bool → Option α):M.pplaces l ax ed r px p_y pz tw tx ty tz bx b_y bz k0 = k0 true := by
 unfold M.pplaces
 have ee:∀ a:Int,cEq a a = true := by intro a; rw [cEq_eq]; simp
 have ec:∀ (a b c:List P3) (n:Int),V.corEq a b c n a b c n = true := by intro a b c n; unfold V.corEq; simp
 have ep:∀ a:List P3,V.ptsEq a a = true := by intro a; unfold V.ptsEq; simp
 have hm := mvd_len l (bx,b_y,bz)
 simp only
 rw [IntWalk.i64_in ((l.length:Int) + (ax.length:Int)) (by omega),IntWalk.i64_in (((l.length:Int) + (ax.length:Int)) + (ed.length:Int)) (by omega),cLt_eq]
 by_cases h200:(200:Int) < ((l.length:Int) + (ax.length:Int)) + (ed.length:Int)
 · rw [if_pos (by simpa using h200)]
 · rw [if_neg (by simpa using h200), if_pos (by omega), if_pos (by omega), if_pos (by omega)]
   have b1:V.lenB l.length = true := lenB_of (by omega)
   have b2:V.lenB ax.length = true := lenB_of (by omega)
   have b3:V.lenB ed.length = true := lenB_of (by omega)
   have b4:V.lenB (V.mvd l (bx,b_y,bz)).length = true := lenB_of (by omega)
   have b0:V.lenB 0 = true := lenB_of (by omega)
   cases ho:V.plc l ax ed (px,p_y,pz) (tw,tx,ty,tz) with
   | none =>
     simp only [plG_none,plP_none,plA_none,plE_none,plR_none,b0,b1,b2,b3,b4,ec,ep,ee,and_self,if_true,Bool.false_eq_true,if_false,beq_self_eq_true,Bool.and_true]
     refine pp_all3 _ (k0 true) _ 0 (V.mvd l (bx,b_y,bz)) (by omega) (by omega) (by omega) fun Y hY => ?_
     refine Eq.trans (pp_l4 _ _ 0 ax (by omega) (by omega) (by omega)) ?_
     exact pp_l5 _ _ 0 [] (by simp) (by simp) (by simp; omega)
   | some w =>
     obtain ⟨w1,w2,w3⟩ := plc_len ho
     have b5:V.lenB w.1.length = true := lenB_of (by omega)
     have b6:V.lenB w.2.1.length = true := lenB_of (by omega)
     have b7:V.lenB w.2.2.length = true := lenB_of (by omega)
     simp only [plG_some,plP_some,plA_some,plE_some,plR_some,List.take_length,b1,b2,b3,b4,b5,b6,b7,ec,ep,ee,and_self,if_true,beq_self_eq_true,Bool.and_true]
     refine pp_all0 _ (k0 true) _ 0 (V.mvd l (bx,b_y,bz)) (by omega) (by omega) (by omega) fun Y hY => ?_
     refine Eq.trans (pp_l1 _ _ 0 ax (by omega) (by omega) (by omega)) ?_
     exact pp_l2 w.2.1.length (by omega) _ _ 0 w.2.1 (by omega) (by omega)
noncomputable def pplaces_h {α:Type} (ds:List D) (Q:SV → Hp → Option α):Option α :=
 dL kP ds fun l ds => dL kP ds fun ax ds => dL kP ds fun ed ds => dI ds fun r ds => dI ds fun px ds => dI ds fun p_y ds => dI ds fun pz ds => dI ds fun tw ds => dI ds fun tx ds => dI ds fun ty ds => dI ds fun tz ds => dI ds fun bx ds => dI ds fun b_y ds => dI ds fun bz ds => dE ds (if V.gB ((l.length < 8796093022208 ∧ ∀ x ∈ l,(RT.good (.i .i64) [.i .i64,.i .i64]) x) ∧ (ax.length < 8796093022208 ∧ ∀ x ∈ ax,(RT.good (.i .i64) [.i .i64,.i .i64]) x) ∧ (ed.length < 8796093022208 ∧ ∀ x ∈ ed,(RT.good (.i .i64) [.i .i64,.i .i64]) x) ∧ (-9223372036854775808 ≤ r ∧ r < 9223372036854775808) ∧ (-9223372036854775808 ≤ px ∧ px < 9223372036854775808) ∧ (-9223372036854775808 ≤ p_y ∧ p_y < 9223372036854775808) ∧ (-9223372036854775808 ≤ pz ∧ pz < 9223372036854775808) ∧ (-9223372036854775808 ≤ tw ∧ tw < 9223372036854775808) ∧ (-9223372036854775808 ≤ tx ∧ tx < 9223372036854775808) ∧ (-9223372036854775808 ≤ ty ∧ ty < 9223372036854775808) ∧ (-9223372036854775808 ≤ tz ∧ tz < 9223372036854775808) ∧ (-9223372036854775808 ≤ bx ∧ bx < 9223372036854775808) ∧ (-9223372036854775808 ≤ b_y ∧ b_y < 9223372036854775808) ∧ (-9223372036854775808 ≤ bz ∧ bz < 9223372036854775808)) = true then Q (.bool true) ([]) else none)
theorem pplaces_h_ok {α:Type}:FnOk E.P 8 (fEnt (α := α) pplaces_sp pplaces_h) :=
 fEntR_ok E (look_lcores_ok) (exec_sound E E_ok (look_lcores_ok) (pplaces_l5_lps_ok) 400) fun ds Q r h => by
   unfold pplaces_h at h
   obtain ⟨l,ds,rfl,h1⟩ := dL_inv h
   obtain ⟨ax,ds,rfl,h2⟩ := dL_inv h1
   obtain ⟨ed,ds,rfl,h3⟩ := dL_inv h2
   obtain ⟨r,ds,rfl,h4⟩ := dI_inv h3
   obtain ⟨px,ds,rfl,h5⟩ := dI_inv h4
   obtain ⟨p_y,ds,rfl,h6⟩ := dI_inv h5
   obtain ⟨pz,ds,rfl,h7⟩ := dI_inv h6
   obtain ⟨tw,ds,rfl,h8⟩ := dI_inv h7
   obtain ⟨tx,ds,rfl,h9⟩ := dI_inv h8
   obtain ⟨ty,ds,rfl,h10⟩ := dI_inv h9
   obtain ⟨tz,ds,rfl,h11⟩ := dI_inv h10
   obtain ⟨bx,ds,rfl,h12⟩ := dI_inv h11
   obtain ⟨b_y,ds,rfl,h13⟩ := dI_inv h12
   obtain ⟨bz,ds,rfl,h14⟩ := dI_inv h13
   obtain ⟨rfl,hE⟩ := dE_inv h14
   split at hE
   · rename_i hg
     exact ⟨_,_,hE,fun vs => ⟨_,_,by kernel_rfl,(pplaces_eq l ax ed r px p_y pz tw tx ty tz bx b_y bz ((cellsV (vs.headD undef)).headD undef) ((cellsV (vs.headD undef)).tail.headD undef) ((cellsV (vs.headD undef)).tail.tail.headD undef) _).trans (pplaces_v l ax ed r px p_y pz tw tx ty tz bx b_y bz (gB_iff hg).1.1 (gB_iff hg).2.1.1 (gB_iff hg).2.2.1.1 _)⟩⟩
   · cases hE
noncomputable def look_pplaces {α:Type}:LookF α := addFn 8 (fEnt pplaces_sp pplaces_h) look_lcores
theorem look_pplaces_ok {α:Type}:LookOk E.P (look_pplaces (α := α)) := addFn_ok pplaces_h_ok (look_lcores_ok)
end
section
open Go
structure Sgn (s:P3):Prop where
 a:s.1 = 1 ∨ s.1 = -1
 b:s.2.1 = 1 ∨ s.2.1 = -1
 c:s.2.2 = 1 ∨ s.2.2 = -1
theorem bigP_sm (p:P3) (n:Int):bigP p n = false ↔ Sm p n := ⟨fun h => bigP_false h,fun h => bigP_eq_false h⟩
def mlt (c:Int) (p:P3):P3 := (c * p.1,c * p.2.1,c * p.2.2)
theorem grow_form:∀ (n:Nat) (p:P3),Sm p 1048576 → p ≠ (0,0,0) → ∃ k:Nat,growN n p = mlt ((2 ^ k:Nat):Int) p ∧ Sm (growN n p) 1048576
 | 0,p,h,h0 => ⟨0,by simp [growN,mlt],h⟩
 | n + 1,p,h,h0 => by
   show ∃ k:Nat,(if p = (0,0,0) then p else if Sm p 524288 then growN n (dblP p) else p) = _ ∧ Sm (if p = (0,0,0) then p else if Sm p 524288 then growN n (dblP p) else p) 1048576
   rw [if_neg h0]
   by_cases hs:Sm p 524288
   · rw [if_pos hs]
     have hsm := hs
     unfold Sm at hsm
     have d:dblP p = (2 * p.1,2 * p.2.1,2 * p.2.2) := by
       unfold dblP
       rw [IntWalk.i64_in (2 * p.1) (by omega),IntWalk.i64_in (2 * p.2.1) (by omega),IntWalk.i64_in (2 * p.2.2) (by omega)]
     obtain ⟨k,e1,e2⟩ := grow_form n (dblP p) (by rw [d]; show (-1048576 ≤ 2 * p.1 ∧ 2 * p.1 ≤ 1048576) ∧ (-1048576 ≤ 2 * p.2.1 ∧ 2 * p.2.1 ≤ 1048576) ∧ (-1048576 ≤ 2 * p.2.2 ∧ 2 * p.2.2 ≤ 1048576); omega) (by
       intro hz; apply h0
       rw [d] at hz
       simp only [Prod.mk.injEq] at hz
       obtain ⟨x,y,z⟩ := p
       simp only at hz
       rw [show x = 0 by omega,show y = 0 by omega,show z = 0 by omega])
     refine ⟨k + 1,?_,e2⟩
     rw [e1,d]
     have e:∀ x:Int,((2 ^ k:Nat):Int) * (2 * x) = ((2 ^ (k + 1):Nat):Int) * x := by
       intro x; rw [← Int.mul_assoc,Nat.pow_succ]; push_cast; rfl
     unfold mlt
     simp only [e]
   · rw [if_neg hs]
     exact ⟨0,by simp [mlt],h⟩
theorem sc_in {p:P3} {n:Int} (h:Sm p 1048576) (hn:0 ≤ n ∧ n ≤ 1048576):scP p n = (p.1 * n,p.2.1 * n,p.2.2 * n) ∧ Gd (p.1 * n) ∧ Gd (p.2.1 * n) ∧ Gd (p.2.2 * n) := by
 have e:∀ x:Int,(-1048576 ≤ x ∧ x ≤ 1048576) → -1099511627776 ≤ x * n ∧ x * n ≤ 1099511627776 := by
   intro x hx
   have a1:x * n ≤ 1048576 * 1048576 := Int.le_trans (Int.mul_le_mul_of_nonneg_right hx.2 hn.1) (Int.mul_le_mul_of_nonneg_left hn.2 (by omega))
   have a2:(-1048576) * n ≤ x * n := Int.mul_le_mul_of_nonneg_right hx.1 hn.1
   omega
 have e1 := e p.1 h.1
 have e2 := e p.2.1 h.2.1
 have e3 := e p.2.2 h.2.2
 unfold scP Gd
 rw [IntWalk.i64_in (p.1 * n) (by omega),IntWalk.i64_in (p.2.1 * n) (by omega),IntWalk.i64_in (p.2.2 * n) (by omega)]
 refine ⟨rfl,?_,?_,?_⟩ <;> omega
end
section
open Go
def In (x n:Int):Prop := -n ≤ x ∧ x ≤ n
theorem in_mul {x y m n:Int} (hx:In x m) (hy:In y n) (hm:0 ≤ m) (hn:0 ≤ n):In (x * y) (m * n) := by
 have h:(x * y).natAbs ≤ (m * n).natAbs := by
   rw [Int.natAbs_mul,Int.natAbs_mul]
   exact Nat.mul_le_mul (by unfold In at hx; omega) (by unfold In at hy; omega)
 have h2:0 ≤ m * n := Int.mul_nonneg hm hn
 unfold In; omega
theorem part_le {a:Int} (h:a * a ≤ 18446744108069289992):In a 4294967299 := by
 have e:((a.natAbs * a.natAbs:Nat):Int) = a * a := Int.natAbs_mul_self
 by_cases h1:a.natAbs ≤ 4294967299
 · unfold In; omega
 · have h2 : 4294967300 * 4294967300 ≤ a.natAbs * a.natAbs := Nat.mul_le_mul (by omega) (by omega)
   generalize a.natAbs * a.natAbs = n at e h2
   generalize a * a = b at e h
   omega
theorem dbl_in {a:Int} (h:In a 4294967299):V.mAdd a a = some (2 * a) ∧ V.dbl a = 2 * a := by
 have e:V.mAdd a a = some (2 * a) := by rw [mAdd_some]; unfold In Gd at *; omega
 exact ⟨e,by unfold V.dbl; rw [e]; rfl⟩
theorem neg_in {a:Int} (h:In a 4294967299):V.mSub 0 a = some (-a) ∧ V.neg a = -a := by
 have e:V.mSub 0 a = some (-a) := by rw [mSub_some]; unfold In Gd at *; omega
 exact ⟨e,by unfold V.neg; rw [e]; rfl⟩
theorem two_in {a b c d:Int} (ha:In a 4294967299) (hb:In b 4294967299) (hc:In c 4294967299) (hd:In d 4294967299):∃ n,V.twoD (V.dbl a) (V.dbl b) c d = some n ∧ In n 17179869212 := by
 rw [(dbl_in ha).2,(dbl_in hb).2]
 have h1 := in_mul (x := 2 * a) (m := 8589934598) (by unfold In at *; omega) hc (by omega) (by omega)
 have h2 := in_mul (x := 2 * b) (m := 8589934598) (by unfold In at *; omega) hd (by omega) (by omega)
 have hb1:In ((2 * a * c + 2 * b * d) / 4294967296) 17179869212 := by
   unfold In at *
   omega
 refine ⟨(2 * a * c + 2 * b * d) / 4294967296,?_,hb1⟩
 unfold V.twoD
 rw [mDot2_some]
 unfold In Gd at *
 refine ⟨by omega,by omega,by omega,by omega,by omega,rfl⟩
theorem one_sub {n:Int} (h:In n 17179869212):V.mSub 4294967296 n = some (4294967296 - n) ∧ In (4294967296 - n) 21474836508 := by
 refine ⟨by rw [mSub_some]; unfold In Gd at *; omega,by unfold In at *; omega⟩
structure MOk (m:V.T9):Prop where
 a0:In m.1.1 21474836508
 a1:In m.1.2.1 21474836508
 a2:In m.1.2.2 21474836508
 b0:In m.2.1.1 21474836508
 b1:In m.2.1.2.1 21474836508
 b2:In m.2.1.2.2 21474836508
 c0:In m.2.2.1 21474836508
 c1:In m.2.2.2.1 21474836508
 c2:In m.2.2.2.2 21474836508
theorem In.mono {x m n:Int} (h:In x m) (hmn:m ≤ n):In x n := by unfold In at *; omega
theorem In.neg {x m:Int} (h:In x m):In (-x) m := by unfold In at *; omega
theorem rows_in {w x y z:Int} (hw:In w 4294967299) (hx:In x 4294967299) (hy:In y 4294967299) (hz:In z 4294967299):∃ m,V.tRows (w,x,y,z) = some m ∧ MOk m := by
 obtain ⟨n1,e1,i1⟩ := two_in hy hz hy hz
 obtain ⟨n2,e2,i2⟩ := two_in hx hz hx hz
 obtain ⟨n3,e3,i3⟩ := two_in hx hy hx hy
 obtain ⟨m1,f1,j1⟩ := two_in hx hw hy hz.neg
 obtain ⟨m2,f2,j2⟩ := two_in hx hw hz hy
 obtain ⟨m3,f3,j3⟩ := two_in hx hw hy hz
 obtain ⟨m4,f4,j4⟩ := two_in hy hw hz hx.neg
 obtain ⟨m5,f5,j5⟩ := two_in hx hw hz hy.neg
 obtain ⟨m6,f6,j6⟩ := two_in hy hw hz hx
 have gv:∀ n:Int,V.gv (some n) = n := fun _ => rfl
 refine ⟨((4294967296 - n1,m1,m2),(m3,4294967296 - n2,m4),(m5,m6,4294967296 - n3)),?_,?_⟩
 · unfold V.tRows
   simp only
   rw [(neg_in hx).2,(neg_in hy).2,(neg_in hz).2,(dbl_in hw).1,(dbl_in hx).1,(dbl_in hy).1,(dbl_in hz).1,(neg_in hx).1,(neg_in hy).1,(neg_in hz).1,e1,e2,e3,f1,f2,f3,f4,f5,f6,gv,gv,gv,gv,gv,gv,gv,gv,gv,(one_sub i1).1,(one_sub i2).1,(one_sub i3).1,gv,gv,gv]
   rfl
 · exact ⟨(one_sub i1).2,j1.mono (by omega),j2.mono (by omega),j3.mono (by omega),(one_sub i2).2,j4.mono (by omega),j5.mono (by omega),j6.mono (by omega),(one_sub i3).2⟩
theorem dot_in {a b c x y z n:Int} (ha:In a 21474836508) (hb:In b 21474836508) (hc:In c 21474836508) (hx:In x n) (hy:In y n) (hz:In z n) (hn:0 ≤ n ∧ n ≤ 68719476736):∃ t,V.mDot [a,b,c] [x,y,z] = some t ∧ In t (16 * n) := by
 have h1 := in_mul ha hx (by omega) hn.1
 have h2 := in_mul hb hy (by omega) hn.1
 have h3 := in_mul hc hz (by omega) hn.1
 have hb1:In ((a * x + (b * y + c * z)) / 4294967296) (16 * n) := by
   unfold In at *
   omega
 refine ⟨(a * x + (b * y + c * z)) / 4294967296,?_,hb1⟩
 rw [mDot3_some]
 unfold In Gd at *
 refine ⟨by omega,by omega,by omega,by omega,by omega,by omega,by omega,rfl⟩
theorem turn_in {m:V.T9} (hm:MOk m) {v:V.T3} {n:Int} (h1:In v.1 n) (h2:In v.2.1 n) (h3:In v.2.2 n) (hn:0 ≤ n ∧ n ≤ 68719476736):∃ t,V.tTurn m v = some t ∧ In t.1 (16 * n) ∧ In t.2.1 (16 * n) ∧ In t.2.2 (16 * n) := by
 obtain ⟨t1,e1,i1⟩ := dot_in hm.a0 hm.a1 hm.a2 h1 h2 h3 hn
 obtain ⟨t2,e2,i2⟩ := dot_in hm.b0 hm.b1 hm.b2 h1 h2 h3 hn
 obtain ⟨t3,e3,i3⟩ := dot_in hm.c0 hm.c1 hm.c2 h1 h2 h3 hn
 exact ⟨(t1,t2,t3),tTurn_some.2 ⟨e1,e2,e3⟩,i1,i2,i3⟩
theorem way_ok {m:V.T9} (hm:MOk m) {p:P3} (h:Neat p):Sm (growP p) 1048576 ∧ ∃ t,V.tTurn m (scP (growP p) 4096) = some t := by
 obtain ⟨k,e1,e2⟩ := grow_form 20 p ((bigP_sm p _).1 h.2.2) h.1
 obtain ⟨e3,_⟩ := sc_in e2 (n := 4096) (by omega)
 obtain ⟨t,ht,_⟩ := turn_in hm (v := scP (growN 20 p) 4096) (n := 4294967296) (by rw [e3]; have := e2.1; unfold In; simp only; omega) (by rw [e3]; have := e2.2.1; unfold In; simp only; omega) (by rw [e3]; have := e2.2.2; unfold In; simp only; omega) (by omega)
 exact ⟨e2,t,ht⟩
theorem wayRun_ok {m:V.T9} (hm:MOk m):∀ (E:List P3) (f:Bool) (a:List P3),(∀ e ∈ E,Neat e) → (wayRun m (E.map growP) f a).1 = true ∧ (wayRun m (E.map growP) f a).2.1 = f
 | [],f,a,h => ⟨rfl,rfl⟩
 | e :: E,f,a,h => by
   obtain ⟨h1,t,h2⟩ := way_ok hm (h e (by simp))
   have ew:wayRun m ((e :: E).map growP) f a = wayRun m (E.map growP) f (if wayS m (growP e) = (0,0,0) then a else a ++ [wayS m (growP e)]) := by
     show (if Sm (growP e) 1048576 then wayRun m (E.map growP) (V.on (V.tTurn m (scP (growP e) 4096)) f) (if wayS m (growP e) = (0,0,0) then a else a ++ [wayS m (growP e)]) else (false,f,a)) = _
     rw [if_pos h1,h2,on_some]
   rw [ew]
   exact wayRun_ok hm E f _ (fun e he => h e (by simp [he]))
theorem wy_ok {m:V.T9} (hm:MOk m) (f:Bool) (E:List P3) (h:∀ e ∈ E,Neat e):(V.wy f m E).1 = true ∧ (V.wy f m E).2.1 = f := by
 unfold V.wy
 rw [hid_eq]
 exact wayRun_ok hm E f [] h
theorem at_ok {m:V.T9} (hm:MOk m) {t:V.T3} (h1:In t.1 5497558138880) (h2:In t.2.1 5497558138880) (h3:In t.2.2 5497558138880) {p:P3} (hp:Sm p 65536):(∃ v,atT m p = some v) ∧ (∃ v,atA m t p = some v) ∧ Sm (atQ m t p) 8388608 := by
 obtain ⟨e3,_⟩ := sc_in (hp.mono (by omega:(65536:Int) ≤ 1048576)) (n := 1048576) (by omega)
 obtain ⟨v,hv,i1,i2,i3⟩ := turn_in hm (v := scP p 1048576) (n := 68719476736) (by rw [e3]; have := hp.1; unfold In; simp only; omega) (by rw [e3]; have := hp.2.1; unfold In; simp only; omega) (by rw [e3]; have := hp.2.2; unfold In; simp only; omega) (by omega)
 have hA:atA m t p = some (v.1 + t.1,v.2.1 + t.2.1,v.2.2 + t.2.2) := by
   unfold atA atT
   rw [hv]
   have g:∀ x y:Int,In x 1099511627776 → In y 5497558138880 → V.mAdd x y = some (x + y) := by
     intro x y hx hy; rw [mAdd_some]; unfold In Gd at *; omega
   exact tAdd_some.2 ⟨g _ _ (i1.mono (by omega)) h1,g _ _ (i2.mono (by omega)) h2,g _ _ (i3.mono (by omega)) h3⟩
 refine ⟨⟨v,hv⟩,⟨_,hA⟩,?_⟩
 unfold atQ
 rw [hA]
 show (-8388608 ≤ Int.fdiv (v.1 + t.1) 1048576 ∧ Int.fdiv (v.1 + t.1) 1048576 ≤ 8388608) ∧ (-8388608 ≤ Int.fdiv (v.2.1 + t.2.1) 1048576 ∧ Int.fdiv (v.2.1 + t.2.1) 1048576 ≤ 8388608) ∧ (-8388608 ≤ Int.fdiv (v.2.2 + t.2.2) 1048576 ∧ Int.fdiv (v.2.2 + t.2.2) 1048576 ≤ 8388608)
 rw [Int.fdiv_eq_ediv_of_nonneg _ (by omega),Int.fdiv_eq_ediv_of_nonneg _ (by omega),Int.fdiv_eq_ediv_of_nonneg _ (by omega)]
 unfold In at *
 omega
theorem placeRun_ok {m:V.T9} (hm:MOk m) {t:V.T3} (h1:In t.1 5497558138880) (h2:In t.2.1 5497558138880) (h3:In t.2.2 5497558138880):∀ (l:List P3) (f:Bool) (a:List P3),(∀ p ∈ l,Sm p 65536) → placeRun m t l f a = some (f,a ++ l.map (atQ m t))
 | [],f,a,h => by simp [placeRun]
 | p :: l,f,a,h => by
   have hp := h p (by simp)
   obtain ⟨⟨t1,e1⟩,⟨t2,e2⟩,e3⟩ := at_ok hm h1 h2 h3 hp
   show (if Sm p 1048576 then (if Sm (atQ m t p) 8388608 then placeRun m t l (V.on (atA m t p) (V.on (atT m p) f)) (a ++ [atQ m t p]) else none) else none) = _
   rw [if_pos (hp.mono (by omega)),e1,e2,if_pos e3,on_some,on_some,placeRun_ok hm h1 h2 h3 l f _ (fun q hq => h q (by simp [hq]))]
   simp
theorem plc_ok {q:V.T4} {m:V.T9} (hq:V.tRows q = some m) (hm:MOk m) {t:V.T3} (h1:In t.1 5497558138880) (h2:In t.2.1 5497558138880) (h3:In t.2.2 5497558138880) {l A E:List P3} (h0:l.length ≠ 0) (hl:∀ p ∈ l,Sm p 65536) (hA:∀ e ∈ A,Neat e) (hE:∀ e ∈ E,Neat e) :
   V.plc l A E t q = some (l.map (atQ m t),(V.wy false m A).2.2,(V.wy false m E).2.2) := by
 unfold V.plc
 rw [hid_eq]
 unfold plcP
 rw [hq]
 show (placeRun m t l (V.on (some m) false) []).elim none (fun r => plcK m A E r.1 r.2) = _
 rw [on_some,placeRun_ok hm h1 h2 h3 l false [] hl]
 show plcK m A E false ([] ++ l.map (atQ m t)) = _
 obtain ⟨a1,a2⟩ := wy_ok hm false A hA
 obtain ⟨b1,b2⟩ := wy_ok hm false E hE
 unfold plcK
 rw [a2,if_pos ⟨a1,b1,b2,by simpa using h0⟩]
 rfl
end
section
open Go
def nrm (A B C:P3):P3 := cr3 (sub3 B A) (sub3 C A)
def AxOf (l:List P3) (A B C a:P3):Prop := nrm A B C ≠ (0,0,0) ∧ V.sideP l (nrm A B C) A ≠ 0 ∧ a = shortP (mulP (V.sideP l (nrm A B C) A) (nrm A B C))
theorem nrm_sm {A B C:P3} (ha:Sm A 65536) (hb:Sm B 65536) (hc:Sm C 65536):Sm (nrm A B C) 34359738368 := (cr_sm (sub_sm hb ha).2 (sub_sm hc ha).2).2
theorem ahead_eq {n a p:P3} (hn:Sm n 34359738368) (ha:Sm a 65536) (hp:Sm p 65536):ahead n a p = dt3 n (sub3 p a) := by
 unfold ahead
 rw [(sub_sm hp ha).1]
 exact dt_sm hn (sub_sm hp ha).2
theorem not_all {l:List P3} (hs:∀ p ∈ l,Sm p 65536) (hn:¬ Copl l) {n a:P3} (h0:n ≠ (0,0,0)) (h:∀ p ∈ l,dt3 n (sub3 p a) = 0):False := by
 apply hn
 have h':∀ p ∈ l,∀ r ∈ l,dt3 n (sub3 p r) = 0 := by
   intro p hp r hr
   rw [sub_sub p r a,dt_sub,h p hp,h r hr]; rfl
 intro x hx y hy z hz w hw
 exact det_perp h0 (h' y hy x hx) (h' z hz x hx) (h' w hw x hx)
theorem dt_neg (n v:P3):dt3 (negT n) v = - dt3 n v := by unfold dt3 negT; simp only; grind
theorem side_one {l:List P3} (hs:∀ p ∈ l,Sm p 65536) {n a:P3} (hn:Sm n 34359738368) (ha:a ∈ l):V.sideP l n a = if ∀ p ∈ l,dt3 n (sub3 p a) ≤ 0 then 1 else if ∀ p ∈ l,0 ≤ dt3 n (sub3 p a) then -1 else 0 := by
 have e1:(∀ p ∈ l,ahead n a p ≤ 0) ↔ ∀ p ∈ l,dt3 n (sub3 p a) ≤ 0 := by
   constructor <;> intro h p hp
   · rw [← ahead_eq hn (hs a ha) (hs p hp)]; exact h p hp
   · rw [ahead_eq hn (hs a ha) (hs p hp)]; exact h p hp
 have e2:(∀ p ∈ l,0 ≤ ahead n a p) ↔ ∀ p ∈ l,0 ≤ dt3 n (sub3 p a) := by
   constructor <;> intro h p hp
   · rw [← ahead_eq hn (hs a ha) (hs p hp)]; exact h p hp
   · rw [ahead_eq hn (hs a ha) (hs p hp)]; exact h p hp
 unfold V.sideP
 simp only [e1,e2]
theorem side_neg {l:List P3} (hs:∀ p ∈ l,Sm p 65536) (hc:¬ Copl l) {n a b:P3} (hn:Sm n 34359738368) (h0:n ≠ (0,0,0)) (ha:a ∈ l) (hb:b ∈ l) (hab:dt3 n (sub3 b a) = 0) :
   V.sideP l (negT n) b = - V.sideP l n a := by
 have e:∀ p,dt3 (negT n) (sub3 p b) = - dt3 n (sub3 p a) := by
   intro p
   rw [dt_neg,sub_sub p b a,dt_sub,hab,Int.sub_zero]
 rw [side_one hs hn ha,side_one hs hn.neg hb]
 simp only [e]
 by_cases h1:∀ p ∈ l,dt3 n (sub3 p a) ≤ 0
 · by_cases h2 : ∀ p ∈ l, 0 ≤ dt3 n (sub3 p a)
   · exact (not_all hs hc h0 (a := a) fun p hp => by have := h1 p hp; have := h2 p hp; omega).elim
   · rw [if_pos h1,if_neg (fun h => h2 fun p hp => by have := h p hp; omega),if_pos (fun p hp => by have := h1 p hp; omega)]
 · by_cases h2 : ∀ p ∈ l, 0 ≤ dt3 n (sub3 p a)
   · rw [if_neg h1,if_pos h2,if_pos (fun p hp => by have := h2 p hp; omega)]; rfl
   · rw [if_neg h1,if_neg h2,if_neg (fun h => h2 fun p hp => by have := h p hp; omega),if_neg (fun h => h1 fun p hp => by have := h p hp; omega)]; rfl
theorem mulP_negneg {s:Int} {n:P3} (hs:s = 1 ∨ s = -1 ∨ s = 0) (h0:s ≠ 0) (hn:Sm n 34359738368):mulP (-s) (negT n) = mulP s n := by
 rcases hs with rfl | rfl | rfl
 · rw [mulP_one hn,mulP_neg hn.neg,negT_negT]
 · rw [show -(-1:Int) = 1 by decide,mulP_one hn.neg,mulP_neg hn]
 · exact absurd rfl h0
theorem nrm_swap23 (A B C:P3):nrm A C B = negT (nrm A B C) := by
 unfold nrm cr3 negT; ext <;> simp only <;> grind
theorem nrm_swap12 (A B C:P3):nrm B A C = negT (nrm A B C) := by
 unfold nrm cr3 negT sub3; ext <;> simp only <;> grind
theorem nrm_dt (A B C:P3):dt3 (nrm A B C) (sub3 B A) = 0 := by
 unfold nrm cr3 dt3; simp only; grind
theorem AxOf.swap {l:List P3} (hs:∀ p ∈ l,Sm p 65536) (hc:¬ Copl l) {A B C A' B' C' a:P3} (ha:A ∈ l) (hb:B ∈ l) (hcm:C ∈ l) (ha':A' ∈ l) (he:nrm A' B' C' = negT (nrm A B C)) (hd:dt3 (nrm A B C) (sub3 A' A) = 0) (h:AxOf l A B C a):AxOf l A' B' C' a := by
 obtain ⟨h1,h2,h3⟩ := h
 have hn := nrm_sm (hs A ha) (hs B hb) (hs C hcm)
 have hsd := side_neg hs hc hn h1 ha ha' hd
 unfold AxOf
 rw [he,hsd]
 refine ⟨negT_ne h1,by omega,?_⟩
 rw [mulP_negneg (sideP_cases _ _ _) h2 hn]
 exact h3
theorem AxOf.swap23 {l:List P3} (hs:∀ p ∈ l,Sm p 65536) (hc:¬ Copl l) {A B C a:P3} (ha:A ∈ l) (hb:B ∈ l) (hcm:C ∈ l) (h:AxOf l A B C a):AxOf l A C B a :=
 AxOf.swap hs hc ha hb hcm ha (nrm_swap23 A B C) (by unfold dt3 sub3; simp) h
theorem AxOf.swap12 {l:List P3} (hs:∀ p ∈ l,Sm p 65536) (hc:¬ Copl l) {A B C a:P3} (ha:A ∈ l) (hb:B ∈ l) (hcm:C ∈ l) (h:AxOf l A B C a):AxOf l B A C a :=
 AxOf.swap hs hc ha hb hcm hb (nrm_swap12 A B C) (nrm_dt A B C) h
theorem pt_of_mem {l:List P3} {p:P3} (h:p ∈ l):∃ i,i < l.length ∧ pt l i = p := by
 obtain ⟨i,hi,rfl⟩ := List.mem_iff_getElem.1 h
 exact ⟨i,hi,pt_eq l i hi⟩
theorem nrm_ne12 {A B C:P3} (h:nrm A B C ≠ (0,0,0)):A ≠ B ∧ A ≠ C ∧ B ≠ C := by
 refine ⟨?_,?_,?_⟩ <;> rintro rfl <;> apply h <;> (unfold nrm cr3 sub3; ext <;> simp only <;> grind)
def SgnLe (p q:P3):Prop := ((p.1 ≤ 0 → q.1 ≤ 0) ∧ (0 ≤ p.1 → 0 ≤ q.1)) ∧ ((p.2.1 ≤ 0 → q.2.1 ≤ 0) ∧ (0 ≤ p.2.1 → 0 ≤ q.2.1)) ∧ ((p.2.2 ≤ 0 → q.2.2 ≤ 0) ∧ (0 ≤ p.2.2 → 0 ≤ q.2.2))
theorem SgnLe.trans {p q r:P3} (h1:SgnLe p q) (h2:SgnLe q r):SgnLe p r := by
 obtain ⟨⟨a1,a2⟩,⟨a3,a4⟩,a5,a6⟩ := h1
 obtain ⟨⟨b1,b2⟩,⟨b3,b4⟩,b5,b6⟩ := h2
 exact ⟨⟨fun h => b1 (a1 h),fun h => b2 (a2 h)⟩,⟨fun h => b3 (a3 h),fun h => b4 (a4 h)⟩,fun h => b5 (a5 h),fun h => b6 (a6 h)⟩
theorem SgnLe.refl (p:P3):SgnLe p p := ⟨⟨id,id⟩,⟨id,id⟩,id,id⟩
end
section
open Go
set_option maxRecDepth 20000
noncomputable def exB (p:Prop):Bool := @decide p (Classical.propDecidable p)
theorem exB_iff {p:Prop}:exB p = true ↔ p := by unfold exB; exact @decide_eq_true_iff p (Classical.propDecidable p)
theorem exB_true {p:Prop} (h:p):exB p = true := exB_iff.2 h
theorem exB_false {p:Prop} (h:¬ p):exB p = false := by rw [Bool.eq_false_iff]; exact fun h' => h (exB_iff.1 h')
theorem if_exB {c p:Prop} [Decidable c] (h:c ↔ p) {τ:Type} (a b:τ):(if c then a else b) = if exB p = true then a else b := by
 by_cases hc:c
 · rw [if_pos hc,if_pos (exB_true (h.1 hc))]
 · rw [if_neg hc,if_neg (by rw [exB_false fun hp => hc (h.2 hp)]; decide)]
theorem scan {α:Type} (F:Nat → Int → Option α) (n:Nat) (bad:Nat → Prop) (k0 k2:Option α)
   (hstep:∀ f i,i < n → F (f + 1) (i:Int) = if exB (bad i) = true then k0 else F f ((i + 1:Nat):Int)) (hend:∀ f,F (f + 1) (n:Int) = k2) :
   ∀ fuel i,i ≤ n → n - i < fuel → F fuel (i:Int) = if exB (∃ j,i ≤ j ∧ j < n ∧ bad j) = true then k0 else k2
 | 0,i,h1,h2 => by omega
 | f + 1,i,h1,h2 => by
   by_cases hi:i < n
   · rw [hstep f i hi]
     by_cases hb:bad i
     · rw [if_pos (exB_true hb),if_pos (exB_true ⟨i,Nat.le_refl _,hi,hb⟩)]
     · rw [if_neg (by rw [exB_false hb]; decide), scan F n bad k0 k2 hstep hend f (i + 1) (by omega) (by omega)]
       have e:exB (∃ j,i + 1 ≤ j ∧ j < n ∧ bad j) = exB (∃ j,i ≤ j ∧ j < n ∧ bad j) := by
         congr 1
         apply propext
         constructor
         · rintro ⟨j,a,b,c⟩; exact ⟨j,by omega,b,c⟩
         · rintro ⟨j, a, b, c⟩
           by_cases e:j = i
           · subst e; exact absurd c hb
           · exact ⟨j,by omega,b,c⟩
       rw [e]
   · have : i = n := by omega
     subst this
     rw [hend f,if_neg]
     rw [exB_false]
     · decide
     · rintro ⟨j,a,b,_⟩; omega
noncomputable def M.dwithin {α:Type} (ax:Int) (ay:Int) (az:Int) (lo:Int) (hi:Int) (k0:Bool → Option α):Option α := if V.shwithin_r0 ax lo hi = true then if V.shwithin_r0 ay lo hi = true then k0 (V.shwithin_r0 az lo hi) else k0 false else k0 false
theorem dwithin_eq {α:Type} (ax:Int) (ay:Int) (az:Int) (lo:Int) (hi:Int) (Q:SV → Hp → Option α):callI E look_dshort (exec E look_dshort noLps 400) 66 ([SV.agg [SV.int .i64 ax,SV.int .i64 ay,SV.int .i64 az],SV.int .i64 lo,SV.int .i64 hi]) ([]) Q = M.dwithin ax ay az lo hi (fun (x0:Bool) => Q (SV.bool x0) ([])) := by kernel_rfl
def dwithin_sp:List AS := [.val (.agg [.int .i64 0,.int .i64 0,.int .i64 0]),.val (.int .i64 0),.val (.int .i64 0)]
noncomputable def _root_.Go.Proofs.YtlagndfhibkjpaaGreat.V.dwithin_r0 (ax:Int) (ay:Int) (az:Int) (lo:Int) (hi:Int):Bool := if V.shwithin_r0 ax lo hi = true then if V.shwithin_r0 ay lo hi = true then V.shwithin_r0 az lo hi else false else false
theorem dwithin_val {α:Type} (ax:Int) (ay:Int) (az:Int) (lo:Int) (hi:Int) (k0:Bool → Option α):M.dwithin ax ay az lo hi k0 = k0 (V.dwithin_r0 ax ay az lo hi) := by
 unfold M.dwithin V.dwithin_r0
 repeat' first | rfl | (split <;> rename_i h <;> first | simp only [if_pos h] | simp only [if_neg h] | skip)
noncomputable def dwithin_c {α:Type} (ds:List D) (Q:SV → Hp → Option α):Option α :=
 dI ds fun ax ds => dI ds fun ay ds => dI ds fun az ds => dI ds fun lo ds => dI ds fun hi ds => dE ds (Q (SV.bool (V.dwithin_r0 ax ay az lo hi)) ([]))
theorem dwithin_c_ok {α:Type}:FnOk E.P 66 (fEnt (α := α) dwithin_sp dwithin_c) :=
 fEnt_ok E (look_dshort_ok) (exec_sound E E_ok (look_dshort_ok) (noLps_ok _) 400) fun ds Q r h => by
   unfold dwithin_c at h
   obtain ⟨ax,ds,rfl,h1⟩ := dI_inv h
   obtain ⟨ay,ds,rfl,h2⟩ := dI_inv h1
   obtain ⟨az,ds,rfl,h3⟩ := dI_inv h2
   obtain ⟨lo,ds,rfl,h4⟩ := dI_inv h3
   obtain ⟨hi,ds,rfl,h5⟩ := dI_inv h4
   obtain ⟨rfl,hE⟩ := dE_inv h5
   exact ⟨[SV.agg [SV.int .i64 ax,SV.int .i64 ay,SV.int .i64 az],SV.int .i64 lo,SV.int .i64 hi],[],fun vs => by kernel_rfl,(dwithin_eq ax ay az lo hi Q).trans ((dwithin_val ax ay az lo hi (fun (x0:Bool) => Q (SV.bool x0) ([]))).trans hE)⟩
noncomputable def look_dwithin {α:Type}:LookF α := addFn 66 (fEnt dwithin_sp dwithin_c) look_dshort
theorem look_dwithin_ok {α:Type}:LookOk E.P (look_dwithin (α := α)) := addFn_ok dwithin_c_ok (look_dshort_ok)
noncomputable abbrev dform_S1 (y1 y2 y3 y4 y5 y6 y7:Int) (y8:Value) (y9:L3):St := St.mk (none :: some (SV.ptr (nat_lit 0) (nat_lit 0)) :: none :: none :: some (SV.int .i64 y1) :: none :: some (SV.int .i64 y2) :: nn 73 ([])) [.cells [SV.int .i64 y3,SV.int .i64 y4,SV.int .i64 y5,SV.int .i64 y6,SV.int .i64 y7,SV.ros y8 kP y9] (nat_lit 37)]
noncomputable abbrev dform_S2 (y1 y2 y3 y4 y5 y6:Int) (y7:Value) (y8:L3):St := St.mk (none :: some (SV.ptr (nat_lit 0) (nat_lit 0)) :: some (SV.bool false) :: none :: some (SV.int .i64 y1) :: nn 75 ([])) [.cells [SV.int .i64 y2,SV.int .i64 y3,SV.int .i64 y4,SV.int .i64 y5,SV.int .i64 y6,SV.ros y7 kP y8] (nat_lit 37)]
noncomputable abbrev dform_S3 (y1 y2 y3 y4 y5 y6:Int) (y7:Value) (y8:L3):St := St.mk (none :: some (SV.ptr (nat_lit 0) (nat_lit 0)) :: none :: none :: some (SV.int .i64 y1) :: nn 75 ([])) [.cells [SV.int .i64 y2,SV.int .i64 y3,SV.int .i64 y4,SV.int .i64 y5,SV.int .i64 y6,SV.ros y7 kP y8] (nat_lit 37)]
noncomputable abbrev dform_S4:St := St.mk (none :: some (SV.ptr (nat_lit 0) (nat_lit 0)) :: none :: none :: some (SV.int .i64 (0:Int)) :: none :: some (SV.int .i64 (0:Int)) :: nn 73 ([])) [.cells [SV.int .i64 (0:Int),SV.int .i64 (0:Int),SV.int .i64 (0:Int),SV.int .i64 (0:Int),SV.int .i64 (0:Int),SV.ros undef kP []] (nat_lit 37)]
noncomputable abbrev dform_S5:St := St.mk (none :: some (SV.ptr (nat_lit 0) (nat_lit 0)) :: none :: none :: some (SV.int .i64 (0:Int)) :: nn 75 ([])) [.cells [SV.int .i64 (0:Int),SV.int .i64 (0:Int),SV.int .i64 (0:Int),SV.int .i64 (0:Int),SV.int .i64 (0:Int),SV.ros undef kP []] (nat_lit 37)]
abbrev dform_P1:List Bool := [false,true,true,true,false,false,true,false,false,true,false,true,false,true,true,true,true,true,true,true,false,true,false,true]
abbrev dform_P2:List Bool := [false,true,false,true,false,true,true,true,true,true,true,true,false,true,false,true]
noncomputable def M.dform_l0_step {α:Type} (x27:Int) (x35:L3) (kn:Int → Option α) (k0:Option α) (k2:Option α) (x28:Int):Option α := if cLt x28 x27 = true then if (0:Int) ≤ x28 ∧ x28 < (↑(List.length x35):Int) then if (0:Int) ≤ x27 ∧ x27 < (↑(List.length x35):Int) then if (cEq (Prod.fst (List.getD x35 (Int.toNat x28) ((0:Int),(0:Int),(0:Int)))) (Prod.fst (List.getD x35 (Int.toNat x27) ((0:Int),(0:Int),(0:Int)))) && (cEq (Prod.fst (Prod.snd (List.getD x35 (Int.toNat x28) ((0:Int),(0:Int),(0:Int))))) (Prod.fst (Prod.snd (List.getD x35 (Int.toNat x27) ((0:Int),(0:Int),(0:Int))))) && (cEq (Prod.snd (Prod.snd (List.getD x35 (Int.toNat x28) ((0:Int),(0:Int),(0:Int))))) (Prod.snd (Prod.snd (List.getD x35 (Int.toNat x27) ((0:Int),(0:Int),(0:Int))))) && true))) = true then k0 else kn (IntKind.wrap .i64 (x28 + (1:Int))) else none else none else k2
noncomputable def M.dform_l0 {α:Type} (x27:Int) (x35:L3) (k0:Option α) (k2:Option α):Nat → Int → Option α
 | 0,_ => none
 | n + 1,x28 => M.dform_l0_step x27 x35 (M.dform_l0 x27 x35 k0 k2 n) k0 k2 x28
theorem dform_l0_step_eq {α:Type} (x27 x28 x29 x30 x31 x32 x33:Int) (x34:Value) (x35:L3) (Q:Ex → St → Option α):(loopStep E (exec E look_dwithin noLps 400) 28 dform_P1 0 (codeAt E.P 28 dform_P1)) (dform_S1 x27 x28 x29 x30 x31 x32 x33 x34 x35) Q = M.dform_l0_step x27 x35 (fun (x36:Int) => Q .normal (dform_S1 x27 x36 x29 x30 x31 x32 x33 x34 x35)) (Q .ret (dform_S2 x27 x29 x30 x31 x32 x33 x34 x35)) (Q (.exit 3) (dform_S3 x27 x29 x30 x31 x32 x33 x34 x35)) x28 := by kernel_rfl
theorem dform_l0_iter {α:Type} (x27 x29 x30 x31 x32 x33:Int) (x34:Value) (x35:L3) (Q:Ex → St → Option α):∀ (n:Nat) (x28:Int),iter (loopStep E (exec E look_dwithin noLps 400) 28 dform_P1 0 (codeAt E.P 28 dform_P1)) n (dform_S1 x27 x28 x29 x30 x31 x32 x33 x34 x35) Q = M.dform_l0 x27 x35 (Q .ret (dform_S2 x27 x29 x30 x31 x32 x33 x34 x35)) (Q (.exit 3) (dform_S3 x27 x29 x30 x31 x32 x33 x34 x35)) n x28
 | 0,_ => rfl
 | n + 1,x28 => (dform_l0_step_eq x27 x28 x29 x30 x31 x32 x33 x34 x35 (iterK (loopStep E (exec E look_dwithin noLps 400) 28 dform_P1 0 (codeAt E.P 28 dform_P1)) n Q)).trans (congrArg (fun kn => M.dform_l0_step x27 x35 kn (Q .ret (dform_S2 x27 x29 x30 x31 x32 x33 x34 x35)) (Q (.exit 3) (dform_S3 x27 x29 x30 x31 x32 x33 x34 x35)) x28) (funext fun x28 => dform_l0_iter x27 x29 x30 x31 x32 x33 x34 x35 Q n x28))
noncomputable def dform_l0_go {α:Type} (ds:List D) (Q:Ex → St → Option α):Option α :=
 dI ds fun x27 ds => dI ds fun x28 ds => dI ds fun x29 ds => dI ds fun x30 ds => dI ds fun x31 ds => dI ds fun x32 ds => dI ds fun x33 ds => dV ds fun x34 ds => dL kP ds fun x35 ds => dE ds (M.dform_l0 x27 x35 (Q .ret (dform_S2 x27 x29 x30 x31 x32 x33 x34 x35)) (Q (.exit 3) (dform_S3 x27 x29 x30 x31 x32 x33 x34 x35)) (100 + x35.length) x28)
theorem dform_l0_ok {α:Type}:LoopOk E.P 28 dform_P1 0 (lEnt (α := α) (dform_S4) dform_l0_go) :=
 lEnt_ok E (exec_sound E E_ok (look_dwithin_ok) (noLps_ok _) 400) fun ds Q r h S hS => by
   unfold dform_l0_go at h
   obtain ⟨x27,ds,rfl,h1⟩ := dI_inv h
   obtain ⟨x28,ds,rfl,h2⟩ := dI_inv h1
   obtain ⟨x29,ds,rfl,h3⟩ := dI_inv h2
   obtain ⟨x30,ds,rfl,h4⟩ := dI_inv h3
   obtain ⟨x31,ds,rfl,h5⟩ := dI_inv h4
   obtain ⟨x32,ds,rfl,h6⟩ := dI_inv h5
   obtain ⟨x33,ds,rfl,h7⟩ := dI_inv h6
   obtain ⟨x34,ds,rfl,h8⟩ := dV_inv h7
   obtain ⟨x35,ds,rfl,h9⟩ := dL_inv h8
   obtain ⟨rfl,hE⟩ := dE_inv h9
   have e:fillS (dform_S4) [.i x27,.i x28,.i x29,.i x30,.i x31,.i x32,.i x33,.v x34,.l kP x35] = some (dform_S1 x27 x28 x29 x30 x31 x32 x33 x34 x35) := by kernel_rfl
   rw [e] at hS
   cases hS
   exact ⟨_,(dform_l0_iter x27 x29 x30 x31 x32 x33 x34 x35 Q _ x28).trans hE⟩
noncomputable def dform_l0_lps {α:Type}:LookL α := addLp 28 dform_P1 0 (lEnt (dform_S4) dform_l0_go) noLps
theorem dform_l0_lps_ok {α:Type}:LoopsOk E.P (dform_l0_lps (α := α)) := addLp_ok dform_l0_ok (noLps_ok _)
noncomputable def M.dform_l1_step {α:Type} (x44:L3) (kn:Int → Option α) (k0:Option α) (k2:Option α) (x37:Int):Option α := if cLt x37 (↑(List.length x44):Int) = true then if (0:Int) ≤ x37 ∧ x37 < (↑(List.length x44):Int) then if (!V.dwithin_r0 (Prod.fst (List.getD x44 (Int.toNat x37) ((0:Int),(0:Int),(0:Int)))) (Prod.fst (Prod.snd (List.getD x44 (Int.toNat x37) ((0:Int),(0:Int),(0:Int))))) (Prod.snd (Prod.snd (List.getD x44 (Int.toNat x37) ((0:Int),(0:Int),(0:Int))))) (-65536:Int) (65536:Int)) = true then k0 else M.dform_l0 x37 x44 k0 (kn (IntKind.wrap .i64 (x37 + (1:Int)))) ((100:Nat) + List.length x44) (0:Int) else none else k2
noncomputable def M.dform_l1 {α:Type} (x44:L3) (k0:Option α) (k2:Option α):Nat → Int → Option α
 | 0,_ => none
 | n + 1,x37 => M.dform_l1_step x44 (M.dform_l1 x44 k0 k2 n) k0 k2 x37
theorem dform_l1_step_eq {α:Type} (x37 x38 x39 x40 x41 x42:Int) (x43:Value) (x44:L3) (Q:Ex → St → Option α):(loopStep E (exec E look_dwithin dform_l0_lps 400) 28 dform_P2 0 (codeAt E.P 28 dform_P2)) (dform_S3 x37 x38 x39 x40 x41 x42 x43 x44) Q = M.dform_l1_step x44 (fun (x45:Int) => Q .normal (dform_S3 x45 x38 x39 x40 x41 x42 x43 x44)) (Q .ret (St.mk (none :: none :: some (SV.bool false) :: nn 77 ([]))
 [])) (Q (.exit 1) (St.mk (nn 80 ([])) [])) x37 := by kernel_rfl
theorem dform_l1_iter {α:Type} (x38 x39 x40 x41 x42:Int) (x43:Value) (x44:L3) (Q:Ex → St → Option α):∀ (n:Nat) (x37:Int),iter (loopStep E (exec E look_dwithin dform_l0_lps 400) 28 dform_P2 0 (codeAt E.P 28 dform_P2)) n (dform_S3 x37 x38 x39 x40 x41 x42 x43 x44) Q = M.dform_l1 x44 (Q .ret (St.mk (none :: none :: some (SV.bool false) :: nn 77 ([]))
 [])) (Q (.exit 1) (St.mk (nn 80 ([])) [])) n x37
 | 0,_ => rfl
 | n + 1,x37 => (dform_l1_step_eq x37 x38 x39 x40 x41 x42 x43 x44 (iterK (loopStep E (exec E look_dwithin dform_l0_lps 400) 28 dform_P2 0 (codeAt E.P 28 dform_P2)) n Q)).trans (congrArg (fun kn => M.dform_l1_step x44 kn (Q .ret (St.mk (none :: none :: some (SV.bool false) :: nn 77 ([]))
 [])) (Q (.exit 1) (St.mk (nn 80 ([])) [])) x37) (funext fun x37 => dform_l1_iter x38 x39 x40 x41 x42 x43 x44 Q n x37))
noncomputable def dform_l1_go {α:Type} (ds:List D) (Q:Ex → St → Option α):Option α :=
 dI ds fun x37 ds => dI ds fun x38 ds => dI ds fun x39 ds => dI ds fun x40 ds => dI ds fun x41 ds => dI ds fun x42 ds => dV ds fun x43 ds => dL kP ds fun x44 ds => dE ds (M.dform_l1 x44 (Q .ret (St.mk (none :: none :: some (SV.bool false) :: nn 77 ([]))
 [])) (Q (.exit 1) (St.mk (nn 80 ([])) [])) (100 + x44.length) x37)
theorem dform_l1_ok {α:Type}:LoopOk E.P 28 dform_P2 0 (lEnt (α := α) (dform_S5) dform_l1_go) :=
 lEnt_ok E (exec_sound E E_ok (look_dwithin_ok) (dform_l0_lps_ok) 400) fun ds Q r h S hS => by
   unfold dform_l1_go at h
   obtain ⟨x37,ds,rfl,h1⟩ := dI_inv h
   obtain ⟨x38,ds,rfl,h2⟩ := dI_inv h1
   obtain ⟨x39,ds,rfl,h3⟩ := dI_inv h2
   obtain ⟨x40,ds,rfl,h4⟩ := dI_inv h3
   obtain ⟨x41,ds,rfl,h5⟩ := dI_inv h4
   obtain ⟨x42,ds,rfl,h6⟩ := dI_inv h5
   obtain ⟨x43,ds,rfl,h7⟩ := dV_inv h6
   obtain ⟨x44,ds,rfl,h8⟩ := dL_inv h7
   obtain ⟨rfl,hE⟩ := dE_inv h8
   have e:fillS (dform_S5) [.i x37,.i x38,.i x39,.i x40,.i x41,.i x42,.v x43,.l kP x44] = some (dform_S3 x37 x38 x39 x40 x41 x42 x43 x44) := by kernel_rfl
   rw [e] at hS
   cases hS
   exact ⟨_,(dform_l1_iter x38 x39 x40 x41 x42 x43 x44 Q _ x37).trans hE⟩
noncomputable def dform_l1_lps {α:Type}:LookL α := addLp 28 dform_P2 0 (lEnt (dform_S5) dform_l1_go) dform_l0_lps
theorem dform_l1_lps_ok {α:Type}:LoopsOk E.P (dform_l1_lps (α := α)) := addLp_ok dform_l1_ok (dform_l0_lps_ok)
noncomputable def M.dform {α:Type} (k:Int) (r:Int) (hx:Int) (hy:Int) (hz:Int) (l:L3) (k0:Bool → Option α):Option α := if cEq k (1:Int) = true then k0 (V.shwithin_r0 r (1:Int) (16384:Int)) else if cEq k (2:Int) = true then if V.shwithin_r0 r (1:Int) (16384:Int) = true then k0 (V.shwithin_r0 hx (1:Int) (65536:Int)) else k0 false else if cEq k (3:Int) = true then if V.shwithin_r0 r (0:Int) (16384:Int) = true then k0 (V.dwithin_r0 hx hy hz (1:Int) (65536:Int)) else k0 false else if cEq k (4:Int) = true then if (!V.shwithin_r0 r (0:Int) (16384:Int)) = true then k0 false else if (!V.shwithin_r0 (↑(List.length l):Int) (4:Int) (12:Int)) = true then k0 false else M.dform_l1 l (k0 false) (k0 true) ((100:Nat) + List.length l) (0:Int) else k0 false
theorem dform_eq {α:Type} (k:Int) (r:Int) (hx:Int) (hy:Int) (hz:Int) (l:L3) (v46:Value) (Q:SV → Hp → Option α):callI E look_dwithin (exec E look_dwithin dform_l1_lps 400) 28 ([SV.agg [SV.int .i64 k,SV.int .i64 r,SV.int .i64 hx,SV.int .i64 hy,SV.int .i64 hz,SV.ros v46 kP l]]) ([]) Q = M.dform k r hx hy hz l (fun (x47:Bool) => Q (SV.bool x47) ([])) := by kernel_rfl
def dform_sp:List AS := [.st [.leaf (.int .i64 0),.leaf (.int .i64 0),.leaf (.int .i64 0),.leaf (.int .i64 0),.leaf (.int .i64 0),.ro kP]]
theorem dwithin_big (p:P3):V.dwithin_r0 p.1 p.2.1 p.2.2 (-65536) 65536 = !bigP p 65536 := by
 unfold V.dwithin_r0
 simp only [within_eq]
 obtain ⟨x,y,z⟩ := p
 rw [Bool.eq_iff_iff]
 cases a:inZ x (-65536) 65536 <;> cases b:inZ y (-65536) 65536 <;> cases c:inZ z (-65536) 65536 <;> simp [inZ,bigP] at * <;> omega
theorem dwithin_one (x y z:Int):V.dwithin_r0 x y z 1 65536 = (inZ x 1 65536 && inZ y 1 65536 && inZ z 1 65536) := by
 unfold V.dwithin_r0
 simp only [within_eq]
 cases inZ x 1 65536 <;> cases inZ y 1 65536 <;> cases inZ z 1 65536 <;> rfl
theorem dform_l0_val {α:Type} (l:List P3) (hl:l.length ≤ 12) (q:Nat) (hq:q < l.length) (k0 k2:Option α) (fuel:Nat) (hf:12 < fuel) :
   M.dform_l0 (q:Int) l k0 k2 fuel 0 = if exB (∃ j,0 ≤ j ∧ j < q ∧ pt l j = pt l q) = true then k0 else k2 := by
 refine scan (fun f i => M.dform_l0 (q:Int) l k0 k2 f i) q (fun j => pt l j = pt l q) k0 k2 ?_ ?_ fuel 0 (by omega) (by omega)
 · intro f i hi
   show M.dform_l0_step _ _ _ _ _ _ = _
   unfold M.dform_l0_step
   have a:(0:Int) ≤ (i:Int) ∧ (i:Int) < (l.length:Int) := by omega
   have b:(0:Int) ≤ (q:Int) ∧ (q:Int) < (l.length:Int) := by omega
   rw [cLt_nat,if_pos (by simpa using hi),if_pos a,if_pos b,w_next (by omega),eq3]
   exact if_exB (by simp only [toNat_nat,decide_eq_true_eq]; exact Iff.rfl) _ _
 · intro f
   show M.dform_l0_step _ _ _ _ _ _ = _
   unfold M.dform_l0_step
   rw [cLt_nat,if_neg (by simp)]
theorem apartP_iff (l:List P3):V.apartP l = true ↔ ¬ ∃ i,0 ≤ i ∧ i < l.length ∧ (bigP (pt l i) 65536 = true ∨ ∃ j,0 ≤ j ∧ j < i ∧ pt l j = pt l i) := by
 simp only [V.apartP,decide_eq_true_eq]
 constructor
 · rintro ⟨h1, h2⟩ ⟨i, _, hi, h | ⟨j, _, hj, h⟩⟩
   · rw [h1 _ (pt_mem l i hi)] at h; cases h
   · rw [pt_eq l i hi, pt_eq l j (by omega)] at h
     have := (List.getElem_inj h2).1 h
     omega
 · intro h
   refine ⟨fun p hp => ?_,?_⟩
   · obtain ⟨i, hi, rfl⟩ := pt_of_mem hp
     cases hb:bigP (pt l i) 65536 with
     | false => rfl
     | true => exact absurd ⟨i,Nat.zero_le _,hi,.inl hb⟩ h
   · rw [List.Nodup, List.pairwise_iff_getElem]
     intro i j hi hj hij e
     exact h ⟨j,Nat.zero_le _,hj,.inr ⟨i,Nat.zero_le _,hij,by rw [pt_eq l i hi,pt_eq l j hj]; exact e⟩⟩
theorem dform_l1_val {α:Type} (l:List P3) (hl:l.length ≤ 12) (k0 k2:Option α) (fuel:Nat) (hf:12 < fuel) :
   M.dform_l1 l k0 k2 fuel 0 = if V.apartP l = true then k2 else k0 := by
 have h := scan (fun f i => M.dform_l1 l k0 k2 f i) l.length (fun i => bigP (pt l i) 65536 = true ∨ ∃ j,0 ≤ j ∧ j < i ∧ pt l j = pt l i) k0 k2 ?_ ?_ fuel 0 (by omega) (by omega)
 · refine Eq.trans h ?_
   by_cases ha:V.apartP l = true
   · rw [if_pos ha, if_neg]
     rw [exB_false ((apartP_iff l).1 ha)]; decide
   · rw [if_neg ha, if_pos]
     apply exB_true
     exact Classical.byContradiction fun hn => ha ((apartP_iff l).2 hn)
 · intro f i hi
   show M.dform_l1_step _ _ _ _ _ = _
   unfold M.dform_l1_step
   have a:(0:Int) ≤ (i:Int) ∧ (i:Int) < (l.length:Int) := by omega
   rw [cLt_nat,if_pos (by simpa using hi),if_pos a,w_next (by omega),dform_l0_val l hl i hi _ _ _ (by omega)]
   show (if (!V.dwithin_r0 (pt l i).1 (pt l i).2.1 (pt l i).2.2 (-65536) 65536) = true then k0 else _) = _
   rw [dwithin_big,Bool.not_not]
   cases hb:bigP (pt l i) 65536 with
   | true => rw [if_pos rfl,if_pos (exB_true (.inl rfl))]
   | false =>
     rw [if_neg (by decide)]
     congr 2
     apply congrArg
     apply propext
     simp
 · intro f
   show M.dform_l1_step _ _ _ _ _ = _
   unfold M.dform_l1_step
   rw [cLt_nat,if_neg (by simp)]
noncomputable def formP (k r hx hy hz:Int) (l:List P3):Bool :=
 if k = 1 then inZ r 1 16384 else if k = 2 then inZ hx 1 65536 && inZ r 1 16384 else if k = 3 then inZ hx 1 65536 && inZ hy 1 65536 && inZ hz 1 65536 && inZ r 0 16384
 else if k = 4 then inZ (l.length:Int) 4 12 && V.apartP l && inZ r 0 16384 else false
noncomputable def _root_.Go.Proofs.YtlagndfhibkjpaaGreat.V.form (k r hx hy hz:Int) (l:List P3):Bool := hid (formP k r hx hy hz l)
theorem chk_form (k r hx hy hz:Int) (l:List P3):chkP k r hx hy hz l = if formP k r hx hy hz l = true then (if k = 4 then (if V.flatP l = true then 51 else 0) else 0) else 50 := by
 unfold chkP formP
 by_cases h1:k = 1
 · simp [h1]
 by_cases h2:k = 2
 · simp [h2]
 by_cases h3:k = 3
 · simp [h3]
 by_cases h4:k = 4
 · simp [h4]
 simp [h1,h2,h3,h4]
theorem dform_v {α:Type} (k r hx hy hz:Int) (l:List P3) (k0:Bool → Option α):M.dform k r hx hy hz l k0 = k0 (V.form k r hx hy hz l) := by
 unfold M.dform V.form
 rw [hid_eq]
 unfold formP
 simp only [cEq_eq,beq_iff_eq,within_eq,dwithin_one]
 by_cases k1:k = 1
 · simp only [if_pos k1]
 simp only [if_neg k1]
 by_cases k2:k = 2
 · simp only [if_pos k2]
   cases inZ hx 1 65536 <;> cases inZ r 1 16384 <;> simp
 simp only [if_neg k2]
 by_cases k3:k = 3
 · simp only [if_pos k3]
   cases (inZ hx 1 65536 && inZ hy 1 65536 && inZ hz 1 65536) <;> cases inZ r 0 16384 <;> simp
 simp only [if_neg k3]
 by_cases k4:k = 4
 · simp only [if_pos k4]
   cases h1:inZ r 0 16384 with
   | false => simp
   | true =>
     cases h2:inZ (l.length:Int) 4 12 with
     | false => simp
     | true =>
       have hl:l.length ≤ 12 := by simp [inZ] at h2; omega
       rw [if_neg (by decide),if_neg (by decide),dform_l1_val l hl _ _ _ (by omega)]
       cases V.apartP l <;> simp
 simp [k4]
noncomputable def dform_h {α:Type} (ds:List D) (Q:SV → Hp → Option α):Option α :=
 dI ds fun k ds => dI ds fun r ds => dI ds fun hx ds => dI ds fun hy ds => dI ds fun hz ds => dL kP ds fun l ds => dE ds (Q (.bool (V.form k r hx hy hz l)) ([]))
theorem dform_h_ok {α:Type}:FnOk E.P 28 (fEnt (α := α) dform_sp dform_h) :=
 fEntR_ok E (look_dwithin_ok) (exec_sound E E_ok (look_dwithin_ok) (dform_l1_lps_ok) 400) fun ds Q r h => by
   unfold dform_h at h
   obtain ⟨k,ds,rfl,h1⟩ := dI_inv h
   obtain ⟨r,ds,rfl,h2⟩ := dI_inv h1
   obtain ⟨hx,ds,rfl,h3⟩ := dI_inv h2
   obtain ⟨hy,ds,rfl,h4⟩ := dI_inv h3
   obtain ⟨hz,ds,rfl,h5⟩ := dI_inv h4
   obtain ⟨l,ds,rfl,h6⟩ := dL_inv h5
   obtain ⟨rfl,hE⟩ := dE_inv h6
   exact ⟨_,_,hE,fun vs => ⟨_,_,by kernel_rfl,(dform_eq k r hx hy hz l ((cellsV (vs.headD undef)).tail.tail.tail.tail.tail.headD undef) _).trans (dform_v k r hx hy hz l _)⟩⟩
noncomputable def look_dform {α:Type}:LookF α := addFn 28 (fEnt dform_sp dform_h) look_dwithin
theorem look_dform_ok {α:Type}:LookOk E.P (look_dform (α := α)) := addFn_ok dform_h_ok (look_dwithin_ok)
noncomputable abbrev dflat_S1 (y1:Value) (y2:L3) (y3 y4 y5 y6 y7 y8 y9:Int):St := St.mk (some (SV.ros y1 kP y2) :: none :: none :: some (SV.int .i64 y3) :: some (SV.int .i64 y4) :: some (SV.int .i64 y5) :: some (SV.ptr (nat_lit 0) (nat_lit 0)) :: some (SV.int .i64 y6) :: nn 47 ([])) [.cells [SV.int .i64 y7,SV.int .i64 y8,SV.int .i64 y9] (nat_lit 23)]
noncomputable abbrev dflat_S2 (y1:Value) (y2:L3) (y3 y4 y5:Int):St := St.mk (some (SV.ros y1 kP y2) :: none :: some (SV.bool false) :: some (SV.int .i64 y3) :: some (SV.int .i64 y4) :: some (SV.int .i64 y5) :: nn 49 ([])) []
noncomputable abbrev dflat_S3 (y1:Value) (y2:L3) (y3 y4 y5:Int):St := St.mk (some (SV.ros y1 kP y2) :: none :: none :: some (SV.int .i64 y3) :: some (SV.int .i64 y4) :: some (SV.int .i64 y5) :: nn 49 ([])) []
noncomputable abbrev dflat_S4:St := St.mk (some (SV.ros undef kP []) :: none :: none :: some (SV.int .i64 (0:Int)) :: some (SV.int .i64 (0:Int)) :: some (SV.int .i64 (0:Int)) :: some (SV.ptr (nat_lit 0) (nat_lit 0)) :: some (SV.int .i64 (0:Int)) :: nn 47 ([])) [.cells [SV.int .i64 (0:Int),SV.int .i64 (0:Int),SV.int .i64 (0:Int)] (nat_lit 23)]
noncomputable abbrev dflat_S5 (y1:Value) (y2:L3) (y3 y4:Int):St := St.mk (some (SV.ros y1 kP y2) :: none :: some (SV.bool false) :: some (SV.int .i64 y3) :: some (SV.int .i64 y4) :: nn 50 ([])) []
noncomputable abbrev dflat_S6 (y1:Value) (y2:L3) (y3 y4:Int):St := St.mk (some (SV.ros y1 kP y2) :: none :: none :: some (SV.int .i64 y3) :: some (SV.int .i64 y4) :: nn 50 ([])) []
noncomputable abbrev dflat_S7:St := St.mk (some (SV.ros undef kP []) :: none :: none :: some (SV.int .i64 (0:Int)) :: some (SV.int .i64 (0:Int)) :: some (SV.int .i64 (0:Int)) :: nn 49 ([])) []
noncomputable abbrev dflat_S8 (y1:Value) (y2:L3) (y3:Int):St := St.mk (some (SV.ros y1 kP y2) :: none :: some (SV.bool false) :: some (SV.int .i64 y3) :: nn 51 ([])) []
abbrev dflat_P1:List Bool := [false,true,true,false,false,true,false,false,true,false,false,true,false,false,true,false,false,true,false,false,true,false,true]
abbrev dflat_P2:List Bool := [false,true,false,false,true,false,false,true,false,false,true,false,false,true,false,true]
abbrev dflat_P3:List Bool := [false,true,false,false,true,false,false,true,false,true]
noncomputable def M.dflat_l0_step {α:Type} (x83:L3) (x86 x88 x89 x90:Int) (kn:Int → Option α) (k0:Option α) (k2:Option α) (x87:Int):Option α := if cLt x87 (↑(List.length x83):Int) = true then if (0:Int) ≤ x87 ∧ x87 < (↑(List.length x83):Int) then if (0:Int) ≤ x86 ∧ x86 < (↑(List.length x83):Int) then if (!cEq (V.pDot (x88,x89,x90) (V.pSub (List.getD x83 (Int.toNat x87) ((0:Int),(0:Int),(0:Int))) (List.getD x83 (Int.toNat x86) ((0:Int),(0:Int),(0:Int))))) (0:Int)) = true then k0 else kn (IntKind.wrap .i64 (x87 + (1:Int))) else none else none else k2
noncomputable def M.dflat_l0 {α:Type} (x83:L3) (x86 x88 x89 x90:Int) (k0:Option α) (k2:Option α):Nat → Int → Option α
 | 0,_ => none
 | n + 1,x87 => M.dflat_l0_step x83 x86 x88 x89 x90 (M.dflat_l0 x83 x86 x88 x89 x90 k0 k2 n) k0 k2 x87
theorem dflat_l0_step_eq {α:Type} (x82:Value) (x83:L3) (x84 x85 x86 x87 x88 x89 x90:Int) (Q:Ex → St → Option α):(loopStep E (exec E look_dform noLps 400) 29 dflat_P1 0 (codeAt E.P 29 dflat_P1)) (dflat_S1 x82 x83 x84 x85 x86 x87 x88 x89 x90) Q = M.dflat_l0_step x83 x86 x88 x89 x90 (fun (x91:Int) => Q .normal (dflat_S1 x82 x83 x84 x85 x86 x91 x88 x89 x90)) (Q .ret (dflat_S2 x82 x83 x84 x85 x86)) (Q (.exit 6) (dflat_S3 x82 x83 x84 x85 x86)) x87 := by kernel_rfl
theorem dflat_l0_iter {α:Type} (x82:Value) (x83:L3) (x84 x85 x86 x88 x89 x90:Int) (Q:Ex → St → Option α):∀ (n:Nat) (x87:Int),iter (loopStep E (exec E look_dform noLps 400) 29 dflat_P1 0 (codeAt E.P 29 dflat_P1)) n (dflat_S1 x82 x83 x84 x85 x86 x87 x88 x89 x90) Q = M.dflat_l0 x83 x86 x88 x89 x90 (Q .ret (dflat_S2 x82 x83 x84 x85 x86)) (Q (.exit 6) (dflat_S3 x82 x83 x84 x85 x86)) n x87
 | 0,_ => rfl
 | n + 1,x87 => (dflat_l0_step_eq x82 x83 x84 x85 x86 x87 x88 x89 x90 (iterK (loopStep E (exec E look_dform noLps 400) 29 dflat_P1 0 (codeAt E.P 29 dflat_P1)) n Q)).trans (congrArg (fun kn => M.dflat_l0_step x83 x86 x88 x89 x90 kn (Q .ret (dflat_S2 x82 x83 x84 x85 x86)) (Q (.exit 6) (dflat_S3 x82 x83 x84 x85 x86)) x87) (funext fun x87 => dflat_l0_iter x82 x83 x84 x85 x86 x88 x89 x90 Q n x87))
noncomputable def dflat_l0_go {α:Type} (ds:List D) (Q:Ex → St → Option α):Option α :=
 dV ds fun x82 ds => dL kP ds fun x83 ds => dI ds fun x84 ds => dI ds fun x85 ds => dI ds fun x86 ds => dI ds fun x87 ds => dI ds fun x88 ds => dI ds fun x89 ds => dI ds fun x90 ds => dE ds (M.dflat_l0 x83 x86 x88 x89 x90 (Q .ret (dflat_S2 x82 x83 x84 x85 x86)) (Q (.exit 6) (dflat_S3 x82 x83 x84 x85 x86)) (100 + x83.length) x87)
theorem dflat_l0_ok {α:Type}:LoopOk E.P 29 dflat_P1 0 (lEnt (α := α) (dflat_S4) dflat_l0_go) :=
 lEnt_ok E (exec_sound E E_ok (look_dform_ok) (noLps_ok _) 400) fun ds Q r h S hS => by
   unfold dflat_l0_go at h
   obtain ⟨x82,ds,rfl,h1⟩ := dV_inv h
   obtain ⟨x83,ds,rfl,h2⟩ := dL_inv h1
   obtain ⟨x84,ds,rfl,h3⟩ := dI_inv h2
   obtain ⟨x85,ds,rfl,h4⟩ := dI_inv h3
   obtain ⟨x86,ds,rfl,h5⟩ := dI_inv h4
   obtain ⟨x87,ds,rfl,h6⟩ := dI_inv h5
   obtain ⟨x88,ds,rfl,h7⟩ := dI_inv h6
   obtain ⟨x89,ds,rfl,h8⟩ := dI_inv h7
   obtain ⟨x90,ds,rfl,h9⟩ := dI_inv h8
   obtain ⟨rfl,hE⟩ := dE_inv h9
   have e:fillS (dflat_S4) [.v x82,.l kP x83,.i x84,.i x85,.i x86,.i x87,.i x88,.i x89,.i x90] = some (dflat_S1 x82 x83 x84 x85 x86 x87 x88 x89 x90) := by kernel_rfl
   rw [e] at hS
   cases hS
   exact ⟨_,(dflat_l0_iter x82 x83 x84 x85 x86 x88 x89 x90 Q _ x87).trans hE⟩
noncomputable def dflat_l0_lps {α:Type}:LookL α := addLp 29 dflat_P1 0 (lEnt (dflat_S4) dflat_l0_go) noLps
theorem dflat_l0_lps_ok {α:Type}:LoopsOk E.P (dflat_l0_lps (α := α)) := addLp_ok dflat_l0_ok (noLps_ok _)
noncomputable def M.dflat_l1_step {α:Type} (x93:L3) (x94 x95:Int) (kn:Int → Option α) (k0:Option α) (k2:Option α) (x96:Int):Option α := if cLt x96 x95 = true then if (0:Int) ≤ x96 ∧ x96 < (↑(List.length x93):Int) then if (0:Int) ≤ x95 ∧ x95 < (↑(List.length x93):Int) then if (0:Int) ≤ x94 ∧ x94 < (↑(List.length x93):Int) then M.dflat_l0 x93 x96 (Prod.fst (V.pCross (V.pSub (List.getD x93 (Int.toNat x95) ((0:Int),(0:Int),(0:Int))) (List.getD x93 (Int.toNat x96) ((0:Int),(0:Int),(0:Int)))) (V.pSub (List.getD x93 (Int.toNat x94) ((0:Int),(0:Int),(0:Int))) (List.getD x93 (Int.toNat x96) ((0:Int),(0:Int),(0:Int)))))) (Prod.fst (Prod.snd (V.pCross (V.pSub (List.getD x93 (Int.toNat x95) ((0:Int),(0:Int),(0:Int))) (List.getD x93 (Int.toNat x96) ((0:Int),(0:Int),(0:Int)))) (V.pSub (List.getD x93 (Int.toNat x94) ((0:Int),(0:Int),(0:Int))) (List.getD x93 (Int.toNat x96) ((0:Int),(0:Int),(0:Int))))))) (Prod.snd (Prod.snd (V.pCross (V.pSub (List.getD x93 (Int.toNat x95) ((0:Int),(0:Int),(0:Int))) (List.getD x93 (Int.toNat x96) ((0:Int),(0:Int),(0:Int)))) (V.pSub (List.getD x93 (Int.toNat x94) ((0:Int),(0:Int),(0:Int))) (List.getD x93 (Int.toNat x96) ((0:Int),(0:Int),(0:Int))))))) k0 (kn (IntKind.wrap .i64 (x96 + (1:Int)))) ((100:Nat) + List.length x93) (0:Int) else none else none else none else k2
noncomputable def M.dflat_l1 {α:Type} (x93:L3) (x94 x95:Int) (k0:Option α) (k2:Option α):Nat → Int → Option α
 | 0,_ => none
 | n + 1,x96 => M.dflat_l1_step x93 x94 x95 (M.dflat_l1 x93 x94 x95 k0 k2 n) k0 k2 x96
theorem dflat_l1_step_eq {α:Type} (x92:Value) (x93:L3) (x94 x95 x96:Int) (Q:Ex → St → Option α):(loopStep E (exec E look_dform dflat_l0_lps 400) 29 dflat_P2 0 (codeAt E.P 29 dflat_P2)) (dflat_S3 x92 x93 x94 x95 x96) Q = M.dflat_l1_step x93 x94 x95 (fun (x97:Int) => Q .normal (dflat_S3 x92 x93 x94 x95 x97)) (Q .ret (dflat_S5 x92 x93 x94 x95)) (Q (.exit 4) (dflat_S6 x92 x93 x94 x95)) x96 := by kernel_rfl
theorem dflat_l1_iter {α:Type} (x92:Value) (x93:L3) (x94 x95:Int) (Q:Ex → St → Option α):∀ (n:Nat) (x96:Int),iter (loopStep E (exec E look_dform dflat_l0_lps 400) 29 dflat_P2 0 (codeAt E.P 29 dflat_P2)) n (dflat_S3 x92 x93 x94 x95 x96) Q = M.dflat_l1 x93 x94 x95 (Q .ret (dflat_S5 x92 x93 x94 x95)) (Q (.exit 4) (dflat_S6 x92 x93 x94 x95)) n x96
 | 0,_ => rfl
 | n + 1,x96 => (dflat_l1_step_eq x92 x93 x94 x95 x96 (iterK (loopStep E (exec E look_dform dflat_l0_lps 400) 29 dflat_P2 0 (codeAt E.P 29 dflat_P2)) n Q)).trans (congrArg (fun kn => M.dflat_l1_step x93 x94 x95 kn (Q .ret (dflat_S5 x92 x93 x94 x95)) (Q (.exit 4) (dflat_S6 x92 x93 x94 x95)) x96) (funext fun x96 => dflat_l1_iter x92 x93 x94 x95 Q n x96))
noncomputable def dflat_l1_go {α:Type} (ds:List D) (Q:Ex → St → Option α):Option α :=
 dV ds fun x92 ds => dL kP ds fun x93 ds => dI ds fun x94 ds => dI ds fun x95 ds => dI ds fun x96 ds => dE ds (M.dflat_l1 x93 x94 x95 (Q .ret (dflat_S5 x92 x93 x94 x95)) (Q (.exit 4) (dflat_S6 x92 x93 x94 x95)) (100 + x93.length) x96)
theorem dflat_l1_ok {α:Type}:LoopOk E.P 29 dflat_P2 0 (lEnt (α := α) (dflat_S7) dflat_l1_go) :=
 lEnt_ok E (exec_sound E E_ok (look_dform_ok) (dflat_l0_lps_ok) 400) fun ds Q r h S hS => by
   unfold dflat_l1_go at h
   obtain ⟨x92,ds,rfl,h1⟩ := dV_inv h
   obtain ⟨x93,ds,rfl,h2⟩ := dL_inv h1
   obtain ⟨x94,ds,rfl,h3⟩ := dI_inv h2
   obtain ⟨x95,ds,rfl,h4⟩ := dI_inv h3
   obtain ⟨x96,ds,rfl,h5⟩ := dI_inv h4
   obtain ⟨rfl,hE⟩ := dE_inv h5
   have e:fillS (dflat_S7) [.v x92,.l kP x93,.i x94,.i x95,.i x96] = some (dflat_S3 x92 x93 x94 x95 x96) := by kernel_rfl
   rw [e] at hS
   cases hS
   exact ⟨_,(dflat_l1_iter x92 x93 x94 x95 Q _ x96).trans hE⟩
noncomputable def dflat_l1_lps {α:Type}:LookL α := addLp 29 dflat_P2 0 (lEnt (dflat_S7) dflat_l1_go) dflat_l0_lps
theorem dflat_l1_lps_ok {α:Type}:LoopsOk E.P (dflat_l1_lps (α := α)) := addLp_ok dflat_l1_ok (dflat_l0_lps_ok)
noncomputable def M.dflat_l2_step {α:Type} (x99:L3) (x100:Int) (kn:Int → Option α) (k0:Option α) (k2:Option α) (x101:Int):Option α := if cLt x101 x100 = true then M.dflat_l1 x99 x100 x101 k0 (kn (IntKind.wrap .i64 (x101 + (1:Int)))) ((100:Nat) + List.length x99) (0:Int) else k2
noncomputable def M.dflat_l2 {α:Type} (x99:L3) (x100:Int) (k0:Option α) (k2:Option α):Nat → Int → Option α
 | 0,_ => none
 | n + 1,x101 => M.dflat_l2_step x99 x100 (M.dflat_l2 x99 x100 k0 k2 n) k0 k2 x101
theorem dflat_l2_step_eq {α:Type} (x98:Value) (x99:L3) (x100 x101:Int) (Q:Ex → St → Option α):(loopStep E (exec E look_dform dflat_l1_lps 400) 29 dflat_P3 0 (codeAt E.P 29 dflat_P3)) (dflat_S6 x98 x99 x100 x101) Q = M.dflat_l2_step x99 x100 (fun (x102:Int) => Q .normal (dflat_S6 x98 x99 x100 x102)) (Q .ret (dflat_S8 x98 x99 x100)) (Q (.exit 2) (St.mk (some (SV.ros x98 kP x99) :: none :: none :: some (SV.int .i64 x100) :: nn 51 ([])) [])) x101 := by kernel_rfl
theorem dflat_l2_iter {α:Type} (x98:Value) (x99:L3) (x100:Int) (Q:Ex → St → Option α):∀ (n:Nat) (x101:Int),iter (loopStep E (exec E look_dform dflat_l1_lps 400) 29 dflat_P3 0 (codeAt E.P 29 dflat_P3)) n (dflat_S6 x98 x99 x100 x101) Q = M.dflat_l2 x99 x100 (Q .ret (dflat_S8 x98 x99 x100)) (Q (.exit 2) (St.mk (some (SV.ros x98 kP x99) :: none :: none :: some (SV.int .i64 x100) :: nn 51 ([])) [])) n x101
 | 0,_ => rfl
 | n + 1,x101 => (dflat_l2_step_eq x98 x99 x100 x101 (iterK (loopStep E (exec E look_dform dflat_l1_lps 400) 29 dflat_P3 0 (codeAt E.P 29 dflat_P3)) n Q)).trans (congrArg (fun kn => M.dflat_l2_step x99 x100 kn (Q .ret (dflat_S8 x98 x99 x100)) (Q (.exit 2) (St.mk (some (SV.ros x98 kP x99) :: none :: none :: some (SV.int .i64 x100) :: nn 51 ([])) [])) x101) (funext fun x101 => dflat_l2_iter x98 x99 x100 Q n x101))
noncomputable def dflat_l2_go {α:Type} (ds:List D) (Q:Ex → St → Option α):Option α :=
 dV ds fun x98 ds => dL kP ds fun x99 ds => dI ds fun x100 ds => dI ds fun x101 ds => dE ds (M.dflat_l2 x99 x100 (Q .ret (dflat_S8 x98 x99 x100)) (Q (.exit 2) (St.mk (some (SV.ros x98 kP x99) :: none :: none :: some (SV.int .i64 x100) :: nn 51 ([])) [])) (100 + x99.length) x101)
theorem dflat_l2_ok {α:Type}:LoopOk E.P 29 dflat_P3 0 (lEnt (α := α) (St.mk (some (SV.ros undef kP []) :: none :: none :: some (SV.int .i64 (0:Int)) :: some (SV.int .i64 (0:Int)) :: nn 50 ([])) []) dflat_l2_go) :=
 lEnt_ok E (exec_sound E E_ok (look_dform_ok) (dflat_l1_lps_ok) 400) fun ds Q r h S hS => by
   unfold dflat_l2_go at h
   obtain ⟨x98,ds,rfl,h1⟩ := dV_inv h
   obtain ⟨x99,ds,rfl,h2⟩ := dL_inv h1
   obtain ⟨x100,ds,rfl,h3⟩ := dI_inv h2
   obtain ⟨x101,ds,rfl,h4⟩ := dI_inv h3
   obtain ⟨rfl,hE⟩ := dE_inv h4
   have e:fillS (St.mk (some (SV.ros undef kP []) :: none :: none :: some (SV.int .i64 (0:Int)) :: some (SV.int .i64 (0:Int)) :: nn 50 ([])) []) [.v x98,.l kP x99,.i x100,.i x101] = some (dflat_S6 x98 x99 x100 x101) := by kernel_rfl
   rw [e] at hS
   cases hS
   exact ⟨_,(dflat_l2_iter x98 x99 x100 Q _ x101).trans hE⟩
noncomputable def dflat_l2_lps {α:Type}:LookL α := addLp 29 dflat_P3 0 (lEnt (St.mk (some (SV.ros undef kP []) :: none :: none :: some (SV.int .i64 (0:Int)) :: some (SV.int .i64 (0:Int)) :: nn 50 ([])) []) dflat_l2_go) dflat_l1_lps
theorem dflat_l2_lps_ok {α:Type}:LoopsOk E.P (dflat_l2_lps (α := α)) := addLp_ok dflat_l2_ok (dflat_l1_lps_ok)
noncomputable def M.dflat_l3_step {α:Type} (x104:L3) (kn:Int → Option α) (k0:Option α) (k2:Option α) (x105:Int):Option α := if cLt x105 (↑(List.length x104):Int) = true then M.dflat_l2 x104 x105 k0 (kn (IntKind.wrap .i64 (x105 + (1:Int)))) ((100:Nat) + List.length x104) (0:Int) else k2
noncomputable def M.dflat_l3 {α:Type} (x104:L3) (k0:Option α) (k2:Option α):Nat → Int → Option α
 | 0,_ => none
 | n + 1,x105 => M.dflat_l3_step x104 (M.dflat_l3 x104 k0 k2 n) k0 k2 x105
theorem dflat_l3_step_eq {α:Type} (x103:Value) (x104:L3) (x105:Int) (Q:Ex → St → Option α):(loopStep E (exec E look_dform dflat_l2_lps 400) 29 [false,true,false,true] 0 (codeAt E.P 29 [false,true,false,true])) (St.mk (some (SV.ros x103 kP x104) :: none :: none :: some (SV.int .i64 x105) :: nn 51 ([])) []) Q = M.dflat_l3_step x104 (fun (x106:Int) => Q .normal (St.mk (some (SV.ros x103 kP x104) :: none :: none :: some (SV.int .i64 x106) :: nn 51 ([])) [])) (Q .ret (St.mk (none :: none :: some (SV.bool false) :: nn 52 ([])) [])) (Q (.exit 0) (St.mk (nn 55 ([])) [])) x105 := by kernel_rfl
theorem dflat_l3_iter {α:Type} (x103:Value) (x104:L3) (Q:Ex → St → Option α):∀ (n:Nat) (x105:Int),iter (loopStep E (exec E look_dform dflat_l2_lps 400) 29 [false,true,false,true] 0 (codeAt E.P 29 [false,true,false,true])) n (St.mk (some (SV.ros x103 kP x104) :: none :: none :: some (SV.int .i64 x105) :: nn 51 ([])) []) Q = M.dflat_l3 x104 (Q .ret (St.mk (none :: none :: some (SV.bool false) :: nn 52 ([])) [])) (Q (.exit 0) (St.mk (nn 55 ([])) [])) n x105
 | 0,_ => rfl
 | n + 1,x105 => (dflat_l3_step_eq x103 x104 x105 (iterK (loopStep E (exec E look_dform dflat_l2_lps 400) 29 [false,true,false,true] 0 (codeAt E.P 29 [false,true,false,true])) n Q)).trans (congrArg (fun kn => M.dflat_l3_step x104 kn (Q .ret (St.mk (none :: none :: some (SV.bool false) :: nn 52 ([])) [])) (Q (.exit 0) (St.mk (nn 55 ([])) [])) x105) (funext fun x105 => dflat_l3_iter x103 x104 Q n x105))
noncomputable def dflat_l3_go {α:Type} (ds:List D) (Q:Ex → St → Option α):Option α :=
 dV ds fun x103 ds => dL kP ds fun x104 ds => dI ds fun x105 ds => dE ds (M.dflat_l3 x104 (Q .ret (St.mk (none :: none :: some (SV.bool false) :: nn 52 ([])) [])) (Q (.exit 0) (St.mk (nn 55 ([])) [])) (100 + x104.length) x105)
theorem dflat_l3_ok {α:Type}:LoopOk E.P 29 [false,true,false,true] 0 (lEnt (α := α) (St.mk (some (SV.ros undef kP []) :: none :: none :: some (SV.int .i64 (0:Int)) :: nn 51 ([])) []) dflat_l3_go) :=
 lEnt_ok E (exec_sound E E_ok (look_dform_ok) (dflat_l2_lps_ok) 400) fun ds Q r h S hS => by
   unfold dflat_l3_go at h
   obtain ⟨x103,ds,rfl,h1⟩ := dV_inv h
   obtain ⟨x104,ds,rfl,h2⟩ := dL_inv h1
   obtain ⟨x105,ds,rfl,h3⟩ := dI_inv h2
   obtain ⟨rfl,hE⟩ := dE_inv h3
   have e:fillS (St.mk (some (SV.ros undef kP []) :: none :: none :: some (SV.int .i64 (0:Int)) :: nn 51 ([])) []) [.v x103,.l kP x104,.i x105] = some (St.mk (some (SV.ros x103 kP x104) :: none :: none :: some (SV.int .i64 x105) :: nn 51 ([])) []) := by kernel_rfl
   rw [e] at hS
   cases hS
   exact ⟨_,(dflat_l3_iter x103 x104 Q _ x105).trans hE⟩
noncomputable def dflat_l3_lps {α:Type}:LookL α := addLp 29 [false,true,false,true] 0 (lEnt (St.mk (some (SV.ros undef kP []) :: none :: none :: some (SV.int .i64 (0:Int)) :: nn 51 ([])) []) dflat_l3_go) dflat_l2_lps
theorem dflat_l3_lps_ok {α:Type}:LoopsOk E.P (dflat_l3_lps (α := α)) := addLp_ok dflat_l3_ok (dflat_l2_lps_ok)
noncomputable def M.dflat {α:Type} (l:L3) (k0:Bool → Option α):Option α := M.dflat_l3 l (k0 false) (k0 true) ((100:Nat) + List.length l) (0:Int)
theorem dflat_eq {α:Type} (l:L3) (v107:Value) (Q:SV → Hp → Option α):callI E look_dform (exec E look_dform dflat_l3_lps 400) 29 ([SV.ros v107 kP l]) ([]) Q = M.dflat l (fun (x108:Bool) => Q (SV.bool x108) ([])) := by kernel_rfl
def dflat_sp:List AS := [.ro kP]
def Off (l:List P3) (A B C:P3):Prop := ∃ d ∈ l,dt3 (nrm A B C) (sub3 d A) ≠ 0
theorem Off.swap23 {l:List P3} {A B C:P3} (h:Off l A B C):Off l A C B := by
 obtain ⟨d,hd,h1⟩ := h
 refine ⟨d,hd,?_⟩
 rw [nrm_swap23,dt_neg]; omega
theorem Off.swap12 {l:List P3} {A B C:P3} (h:Off l A B C):Off l B A C := by
 obtain ⟨d,hd,h1⟩ := h
 refine ⟨d,hd,?_⟩
 rw [nrm_swap12,dt_neg,sub_sub d B A,dt_sub,nrm_dt]
 omega
theorem copl_off {l:List P3} (h:¬ Copl l):∃ i j k,i < j ∧ j < k ∧ k < l.length ∧ Off l (pt l i) (pt l j) (pt l k) := by
 have:∃ A ∈ l,∃ B ∈ l,∃ C ∈ l,Off l A B C := by
   apply Classical.byContradiction
   intro hn
   apply h
   intro a ha b hb c hc d hd
   apply Classical.byContradiction
   intro h0
   exact hn ⟨a,ha,b,hb,c,hc,d,hd,h0⟩
 obtain ⟨A,hA,B,hB,C,hC,hx⟩ := this
 have hne:nrm A B C ≠ (0,0,0) := by
   obtain ⟨d,_,h1⟩ := hx
   intro e; rw [e] at h1; simp [dt3] at h1
 obtain ⟨n1,n2,n3⟩ := nrm_ne12 hne
 obtain ⟨i,hi,rfl⟩ := pt_of_mem hA
 obtain ⟨j,hj,rfl⟩ := pt_of_mem hB
 obtain ⟨k,hk,rfl⟩ := pt_of_mem hC
 have m1:i ≠ j := fun e => n1 (by rw [e])
 have m2:i ≠ k := fun e => n2 (by rw [e])
 have m3:j ≠ k := fun e => n3 (by rw [e])
 rcases Nat.lt_or_gt_of_ne m1 with c1 | c1 <;> rcases Nat.lt_or_gt_of_ne m2 with c2 | c2 <;> rcases Nat.lt_or_gt_of_ne m3 with c3 | c3
 · exact ⟨i,j,k,c1,c3,hk,hx⟩
 · exact ⟨i,k,j,c2,c3,hj,hx.swap23⟩
 · omega
 · exact ⟨k,i,j,c2,c1,hj,hx.swap23.swap12⟩
 · exact ⟨j,i,k,c1,c2,hk,hx.swap12⟩
 · omega
 · exact ⟨j,k,i,c3,c2,hi,hx.swap12.swap23⟩
 · exact ⟨k,j,i,c3,c1,hi,hx.swap12.swap23.swap12⟩
def offD (l:List P3) (m k i o:Nat):Prop := V.pDot (triN l m k i) (V.pSub (pt l o) (pt l m)) ≠ 0
theorem offD_iff {l:List P3} (h:Pts l) {m k i o:Nat} (hm:m < l.length) (hk:k < l.length) (hi:i < l.length) (ho:o < l.length):offD l m k i o ↔ dt3 (nrm (pt l m) (pt l k) (pt l i)) (sub3 (pt l o) (pt l m)) ≠ 0 := by
 obtain ⟨e,s⟩ := h.triN hm hk hi
 unfold offD
 rw [e,(h.sub hm ho).1,dt_sm s (h.sub hm ho).2]
 exact Iff.rfl
theorem flat_iff {l:List P3} (h:Pts l):V.flatP l = true ↔ ¬ ∃ i,0 ≤ i ∧ i < l.length ∧ ∃ k,0 ≤ k ∧ k < i ∧ ∃ m,0 ≤ m ∧ m < k ∧ ∃ o,0 ≤ o ∧ o < l.length ∧ offD l m k i o := by
 rw [flatP_iff]
 constructor
 · rintro hc ⟨i, _, hi, k, _, hk, m, _, hm, o, _, ho, h1⟩
   rw [offD_iff h (by omega) (by omega) hi ho] at h1
   exact h1 (hc _ (pt_mem l m (by omega)) _ (pt_mem l k (by omega)) _ (pt_mem l i hi) _ (pt_mem l o ho))
 · intro hn
   apply Classical.byContradiction
   intro hc
   obtain ⟨m,k,i,h1,h2,h3,d,hd,h4⟩ := copl_off hc
   obtain ⟨o,ho,rfl⟩ := pt_of_mem hd
   exact hn ⟨i,Nat.zero_le _,h3,k,Nat.zero_le _,h2,m,Nat.zero_le _,h1,o,Nat.zero_le _,ho,(offD_iff h (by omega) (by omega) h3 ho).2 h4⟩
theorem dflat_l0_val {α:Type} (l:List P3) (hl:l.length < 1099511627776) (m k i:Nat) (hm:m < l.length) (k0 k2:Option α) (fuel:Nat) (hf:l.length < fuel) :
   M.dflat_l0 l (m:Int) (triN l m k i).1 (triN l m k i).2.1 (triN l m k i).2.2 k0 k2 fuel 0 = if exB (∃ o,0 ≤ o ∧ o < l.length ∧ offD l m k i o) = true then k0 else k2 := by
 refine scan (fun f o => M.dflat_l0 l (m:Int) (triN l m k i).1 (triN l m k i).2.1 (triN l m k i).2.2 k0 k2 f o) l.length (fun o => offD l m k i o) k0 k2 ?_ ?_ fuel 0 (by omega) (by omega)
 · intro f o ho
   show M.dflat_l0_step _ _ _ _ _ _ _ _ _ = _
   unfold M.dflat_l0_step
   have a:(0:Int) ≤ (o:Int) ∧ (o:Int) < (l.length:Int) := by omega
   have b:(0:Int) ≤ (m:Int) ∧ (m:Int) < (l.length:Int) := by omega
   rw [cLt_nat,if_pos (by simpa using ho),if_pos a,if_pos b,w_next (by omega),cEq_eq]
   exact if_exB (by simp only [toNat_nat,Bool.not_eq_true',beq_eq_false_iff_ne]; exact Iff.rfl) _ _
 · intro f
   show M.dflat_l0_step _ _ _ _ _ _ _ _ _ = _
   unfold M.dflat_l0_step
   rw [cLt_nat,if_neg (by simp)]
theorem dflat_l1_val {α:Type} (l:List P3) (hl:l.length < 1099511627776) (k i:Nat) (hk:k < i) (hi:i < l.length) (k0 k2:Option α) (fuel:Nat) (hf:l.length < fuel) :
   M.dflat_l1 l (i:Int) (k:Int) k0 k2 fuel 0 = if exB (∃ m,0 ≤ m ∧ m < k ∧ ∃ o,0 ≤ o ∧ o < l.length ∧ offD l m k i o) = true then k0 else k2 := by
 refine scan (fun f m => M.dflat_l1 l (i:Int) (k:Int) k0 k2 f m) k (fun m => ∃ o,0 ≤ o ∧ o < l.length ∧ offD l m k i o) k0 k2 ?_ ?_ fuel 0 (by omega) (by omega)
 · intro f m hm
   show M.dflat_l1_step _ _ _ _ _ _ _ = _
   unfold M.dflat_l1_step
   have a:(0:Int) ≤ (m:Int) ∧ (m:Int) < (l.length:Int) := by omega
   have b:(0:Int) ≤ (k:Int) ∧ (k:Int) < (l.length:Int) := by omega
   have c:(0:Int) ≤ (i:Int) ∧ (i:Int) < (l.length:Int) := by omega
   rw [cLt_nat,if_pos (by simpa using hm),if_pos a,if_pos b,if_pos c,w_next (by omega)]
   exact dflat_l0_val l hl m k i (by omega) _ _ _ (by omega)
 · intro f
   show M.dflat_l1_step _ _ _ _ _ _ _ = _
   unfold M.dflat_l1_step
   rw [cLt_nat,if_neg (by simp)]
theorem dflat_l2_val {α:Type} (l:List P3) (hl:l.length < 1099511627776) (i:Nat) (hi:i < l.length) (k0 k2:Option α) (fuel:Nat) (hf:l.length < fuel) :
   M.dflat_l2 l (i:Int) k0 k2 fuel 0 = if exB (∃ k,0 ≤ k ∧ k < i ∧ ∃ m,0 ≤ m ∧ m < k ∧ ∃ o,0 ≤ o ∧ o < l.length ∧ offD l m k i o) = true then k0 else k2 := by
 refine scan (fun f k => M.dflat_l2 l (i:Int) k0 k2 f k) i (fun k => ∃ m,0 ≤ m ∧ m < k ∧ ∃ o,0 ≤ o ∧ o < l.length ∧ offD l m k i o) k0 k2 ?_ ?_ fuel 0 (by omega) (by omega)
 · intro f k hk
   show M.dflat_l2_step _ _ _ _ _ _ = _
   unfold M.dflat_l2_step
   rw [cLt_nat,if_pos (by simpa using hk),w_next (by omega)]
   exact dflat_l1_val l hl k i hk hi _ _ _ (by omega)
 · intro f
   show M.dflat_l2_step _ _ _ _ _ _ = _
   unfold M.dflat_l2_step
   rw [cLt_nat,if_neg (by simp)]
theorem dflat_v {α:Type} (l:List P3) (hg:V.ptsB l = true) (k0:Bool → Option α):M.dflat l k0 = k0 (V.flatP l) := by
 obtain ⟨g1,g2,g3,g4⟩ := ptsB_iff hg
 have hp:Pts l := ⟨fun p hp => sm_of (g1 p hp),g2⟩
 unfold M.dflat
 have h := scan (fun f i => M.dflat_l3 l (k0 false) (k0 true) f i) l.length (fun i => ∃ k,0 ≤ k ∧ k < i ∧ ∃ m,0 ≤ m ∧ m < k ∧ ∃ o,0 ≤ o ∧ o < l.length ∧ offD l m k i o) (k0 false) (k0 true) ?_ ?_ (100 + l.length) 0 (by omega) (by omega)
 · refine Eq.trans h ?_
   cases hf:V.flatP l with
   | true =>
     rw [if_neg]
     rw [exB_false ((flat_iff hp).1 hf)]; decide
   | false =>
     rw [if_pos]
     apply exB_true
     apply Classical.byContradiction
     intro hn
     rw [(flat_iff hp).2 hn] at hf; cases hf
 · intro f i hi
   show M.dflat_l3_step _ _ _ _ _ = _
   unfold M.dflat_l3_step
   rw [cLt_nat,if_pos (by simpa using hi),w_next (by omega)]
   exact dflat_l2_val l g4 i hi _ _ _ (by omega)
 · intro f
   show M.dflat_l3_step _ _ _ _ _ = _
   unfold M.dflat_l3_step
   rw [cLt_nat,if_neg (by simp)]
noncomputable def dflat_h {α:Type} (ds:List D) (Q:SV → Hp → Option α):Option α :=
 dL kP ds fun l ds => dE ds (if V.ptsB l = true then Q (.bool (V.flatP l)) ([]) else none)
theorem dflat_h_ok {α:Type}:FnOk E.P 29 (fEnt (α := α) dflat_sp dflat_h) :=
 fEntR_ok E (look_dform_ok) (exec_sound E E_ok (look_dform_ok) (dflat_l3_lps_ok) 400) fun ds Q r h => by
   unfold dflat_h at h
   obtain ⟨l,ds,rfl,h1⟩ := dL_inv h
   obtain ⟨rfl,hE⟩ := dE_inv h1
   split at hE
   · rename_i hg
     exact ⟨_,_,hE,fun vs => ⟨_,_,by kernel_rfl,(dflat_eq l (vs.headD undef) _).trans (dflat_v l hg _)⟩⟩
   · cases hE
noncomputable def look_dflat {α:Type}:LookF α := addFn 29 (fEnt dflat_sp dflat_h) look_dform
theorem look_dflat_ok {α:Type}:LookOk E.P (look_dflat (α := α)) := addFn_ok dflat_h_ok (look_dform_ok)
noncomputable def M.dcheck {α:Type} (k:Int) (r:Int) (hx:Int) (hy:Int) (hz:Int) (l:L3) (k0:Int → Option α):Option α := if (!V.form k r hx hy hz l) = true then k0 (50:Int) else if cEq k (4:Int) = true then if V.ptsB l = true then if V.flatP l = true then k0 (51:Int) else k0 (0:Int) else none else k0 (0:Int)
theorem dcheck_eq {α:Type} (k:Int) (r:Int) (hx:Int) (hy:Int) (hz:Int) (l:L3) (v109:Value) (Q:SV → Hp → Option α):callI E look_dflat (exec E look_dflat noLps 400) 9 ([SV.agg [SV.int .i64 k,SV.int .i64 r,SV.int .i64 hx,SV.int .i64 hy,SV.int .i64 hz,SV.ros v109 kP l]]) ([]) Q = M.dcheck k r hx hy hz l (fun (x110:Int) => Q (SV.int .i64 x110) ([])) := by kernel_rfl
def dcheck_sp:List AS := [.st [.leaf (.int .i64 0),.leaf (.int .i64 0),.leaf (.int .i64 0),.leaf (.int .i64 0),.leaf (.int .i64 0),.ro kP]]
theorem dcheck_v {α:Type} (k r hx hy hz:Int) (l:List P3) (k0:Int → Option α):M.dcheck k r hx hy hz l k0 = k0 (V.chk k r hx hy hz l) := by
 unfold M.dcheck V.chk V.form
 simp only [hid_eq,cEq_eq,beq_iff_eq]
 rw [chk_form]
 cases h:formP k r hx hy hz l with
 | false => simp
 | true =>
   by_cases h4:k = 4
   · subst h4
     have hf:inZ (l.length:Int) 4 12 = true ∧ V.apartP l = true := by
       unfold formP at h
       simp at h
       exact ⟨h.1.1,h.1.2⟩
     have hl:4 ≤ l.length ∧ l.length ≤ 12 := by have := hf.1; simp [inZ] at this; omega
     have hp := ptsB_of hf.2 (by omega) (by omega)
     cases V.flatP l <;> simp [hp]
   · simp [h4]
noncomputable def dcheck_h {α:Type} (ds:List D) (Q:SV → Hp → Option α):Option α :=
 dI ds fun k ds => dI ds fun r ds => dI ds fun hx ds => dI ds fun hy ds => dI ds fun hz ds => dL kP ds fun l ds => dE ds (Q (.int .i64 (V.chk k r hx hy hz l)) ([]))
theorem dcheck_h_ok {α:Type}:FnOk E.P 9 (fEnt (α := α) dcheck_sp dcheck_h) :=
 fEntR_ok E (look_dflat_ok) (exec_sound E E_ok (look_dflat_ok) (noLps_ok _) 400) fun ds Q r h => by
   unfold dcheck_h at h
   obtain ⟨k,ds,rfl,h1⟩ := dI_inv h
   obtain ⟨r,ds,rfl,h2⟩ := dI_inv h1
   obtain ⟨hx,ds,rfl,h3⟩ := dI_inv h2
   obtain ⟨hy,ds,rfl,h4⟩ := dI_inv h3
   obtain ⟨hz,ds,rfl,h5⟩ := dI_inv h4
   obtain ⟨l,ds,rfl,h6⟩ := dL_inv h5
   obtain ⟨rfl,hE⟩ := dE_inv h6
   exact ⟨_,_,hE,fun vs => ⟨_,_,by kernel_rfl,(dcheck_eq k r hx hy hz l ((cellsV (vs.headD undef)).tail.tail.tail.tail.tail.headD undef) _).trans (dcheck_v k r hx hy hz l _)⟩⟩
noncomputable def look_dcheck {α:Type}:LookF α := addFn 9 (fEnt dcheck_sp dcheck_h) look_dflat
theorem look_dcheck_ok {α:Type}:LookOk E.P (look_dcheck (α := α)) := addFn_ok dcheck_h_ok (look_dflat_ok)
end
section
open Go
def Rr (n:Int):Prop := -9223372036854775808 ≤ n ∧ n < 9223372036854775808
theorem pick_val {c n:Int} (hc:Rr c) (hn:0 < n ∧ n < 9223372036854775808):V.lpick_g c n = true ∧ 0 ≤ V.lpick_r0 c n ∧ V.lpick_r0 c n < n := by
 unfold Rr at hc
 have h0:¬ n = 0 := by omega
 unfold V.lpick_g V.lpick_r0
 simp only [cLt_eq,if_neg h0,ite_self,true_and]
 by_cases h:c < 0
 · rw [if_pos (by simpa using h), IntWalk.i64_in (c + 1) (by omega), IntWalk.i64_in (0 - (c + 1)) (by omega)]
   rw [Int.tmod_eq_emod_of_nonneg (by omega)]
   exact ⟨Int.emod_nonneg _ h0,Int.emod_lt_of_pos _ hn.1⟩
 · rw [if_neg (by simpa using h)]
   rw [Int.tmod_eq_emod_of_nonneg (by omega)]
   exact ⟨Int.emod_nonneg _ h0,Int.emod_lt_of_pos _ hn.1⟩
theorem part_val {c n:Int} (hc:Rr c) (hn:0 ≤ n ∧ n ≤ 1152921504606846976):V.lpart_g c n = true ∧ -n ≤ V.lpart_r0 c n ∧ V.lpart_r0 c n ≤ n := by
 have e:IntKind.wrap .i64 (IntKind.wrap .i64 (2 * n) + 1) = 2 * n + 1 := by
   rw [IntWalk.i64_in (2 * n) (by omega),IntWalk.i64_in _ (by omega)]
 obtain ⟨p1,p2,p3⟩ := pick_val (n := 2 * n + 1) hc (by omega)
 unfold V.lpart_g V.lpart_r0
 rw [e,if_pos p1,if_pos p1,IntWalk.i64_in _ (by omega)]
 exact ⟨rfl,by omega,by omega⟩
noncomputable def partP (p:P3):P3 := (V.lpart_r0 p.1 65536,V.lpart_r0 p.2.1 65536,V.lpart_r0 p.2.2 65536)
def RP (p:P3):Prop := Rr p.1 ∧ Rr p.2.1 ∧ Rr p.2.2
noncomputable def kd (k:Int):Int := 1 + V.lpick_r0 k 4
noncomputable def rad (r:Int):Int := 1 + V.lpick_r0 r 16384
noncomputable def hlf (h:Int):Int := 1 + V.lpick_r0 h 65536
noncomputable def pts0 (k:Int) (l:List P3):List P3 := if kd k = 4 then (l.take 12).map partP else []
noncomputable def chk0 (k r hx hy hz:Int) (l:List P3):Int := chkP (kd k) (rad r) (hlf hx) (hlf hy) (hlf hz) (pts0 k l)
noncomputable def rgKP (k r hx hy hz:Int) (l:List P3):Int := if kd k = 4 ∧ chk0 k r hx hy hz l ≠ 0 then 3 else kd k
noncomputable def rgPP (k r hx hy hz:Int) (l:List P3):List P3 := if kd k = 4 ∧ chk0 k r hx hy hz l ≠ 0 then [] else pts0 k l
theorem kd_val {k:Int} (h:Rr k):1 ≤ kd k ∧ kd k ≤ 4 := by obtain ⟨_,p2,p3⟩ := pick_val (n := 4) h (by omega); unfold kd; omega
theorem rad_val {k:Int} (h:Rr k):1 ≤ rad k ∧ rad k ≤ 16384 := by obtain ⟨_,p2,p3⟩ := pick_val (n := 16384) h (by omega); unfold rad; omega
theorem hlf_val {k:Int} (h:Rr k):1 ≤ hlf k ∧ hlf k ≤ 65536 := by obtain ⟨_,p2,p3⟩ := pick_val (n := 65536) h (by omega); unfold hlf; omega
theorem right_ok {k r hx hy hz:Int} {l:List P3} (h1:Rr k) (h2:Rr r) (h3:Rr hx) (h4:Rr hy) (h5:Rr hz) :
   chkP (rgKP k r hx hy hz l) (rad r) (hlf hx) (hlf hy) (hlf hz) (rgPP k r hx hy hz l) = 0 := by
 have a1 := kd_val h1
 have a2 := rad_val h2
 have a3 := hlf_val h3
 have a4 := hlf_val h4
 have a5 := hlf_val h5
 unfold rgKP rgPP
 split
 · unfold chkP
   rw [if_neg (by decide),if_neg (by decide),if_pos rfl,if_pos (by simp [inZ]; omega)]
 · rename_i hc
   by_cases h4':kd k = 4
   · apply Classical.byContradiction
     intro hn
     exact hc ⟨h4',hn⟩
   · have : kd k = 1 ∨ kd k = 2 ∨ kd k = 3 := by omega
     unfold chkP
     rcases this with e | e | e <;> rw [e]
     · rw [if_pos rfl,if_pos (by simp [inZ]; omega)]
     · rw [if_neg (by decide),if_pos rfl,if_pos (by simp [inZ]; omega)]
     · rw [if_neg (by decide),if_neg (by decide),if_pos rfl,if_pos (by simp [inZ]; omega)]
noncomputable def _root_.Go.Proofs.YtlagndfhibkjpaaGreat.V.rgK (k r hx hy hz:Int) (l:List P3):Int := hid (rgKP k r hx hy hz l)
noncomputable def _root_.Go.Proofs.YtlagndfhibkjpaaGreat.V.rgR (r:Int):Int := hid (rad r)
noncomputable def _root_.Go.Proofs.YtlagndfhibkjpaaGreat.V.rgH (h:Int):Int := hid (hlf h)
noncomputable def _root_.Go.Proofs.YtlagndfhibkjpaaGreat.V.rgP (k r hx hy hz:Int) (l:List P3):List P3 := hid (rgPP k r hx hy hz l)
theorem good_rp {p:P3} (h:RT.good (.i .i64) [.i .i64,.i .i64] p):RP p := ⟨wf64 h.1,wf64 h.2.1,wf64 h.2.2⟩
end
section
open Go
set_option maxRecDepth 20000
noncomputable abbrev right_S1 (y1 y2 y3 y4 y5 y6:Int) (y7:Value) (y8:L3) (y9 y10 y11 y12 y13:Int) (y14:L3) (y15 y16 y17 y18 y19:Int) (y20:L3):St := St.mk (none :: some (SV.ptr (nat_lit 0) (nat_lit 0)) :: some (SV.ptr (nat_lit 1) (nat_lit 0)) :: some (SV.ptr (nat_lit 3) (nat_lit 0)) :: some (SV.int .i64 y1) :: nn 67 ([])) [.cells [SV.int .i64 y2,SV.int .i64 y3,SV.int .i64 y4,SV.int .i64 y5,SV.int .i64 y6,SV.ros y7 kP y8] (nat_lit 26),.cells [SV.int .i64 y9,SV.int .i64 y10,SV.int .i64 y11,SV.int .i64 y12,SV.int .i64 y13,SV.sl (nat_lit 2)] (nat_lit 37),.seq kP y14 (nat_lit 23),.cells [SV.int .i64 y15,SV.int .i64 y16,SV.int .i64 y17,SV.int .i64 y18,SV.int .i64 y19,SV.sl (nat_lit 4)] (nat_lit 37),.seq kP y20 (nat_lit 23)]
noncomputable abbrev right_S2 (y1 y2 y3 y4 y5:Int) (y6:L3) (y7 y8 y9 y10 y11:Int) (y12:L3):St := St.mk (none :: none :: some (SV.ptr (nat_lit 0) (nat_lit 0)) :: some (SV.ptr (nat_lit 2) (nat_lit 0)) :: nn 68 ([])) [.cells [SV.int .i64 y1,SV.int .i64 y2,SV.int .i64 y3,SV.int .i64 y4,SV.int .i64 y5,SV.sl (nat_lit 1)] (nat_lit 37),.seq kP y6 (nat_lit 23),.cells [SV.int .i64 y7,SV.int .i64 y8,SV.int .i64 y9,SV.int .i64 y10,SV.int .i64 y11,SV.sl (nat_lit 3)] (nat_lit 37),.seq kP y12 (nat_lit 23)]
noncomputable abbrev right_S3:St := St.mk (none :: some (SV.ptr (nat_lit 0) (nat_lit 0)) :: some (SV.ptr (nat_lit 1) (nat_lit 0)) :: some (SV.ptr (nat_lit 3) (nat_lit 0)) :: some (SV.int .i64 (0:Int)) :: nn 67 ([])) [.cells [SV.int .i64 (0:Int),SV.int .i64 (0:Int),SV.int .i64 (0:Int),SV.int .i64 (0:Int),SV.int .i64 (0:Int),SV.ros undef kP []] (nat_lit 26),.cells [SV.int .i64 (0:Int),SV.int .i64 (0:Int),SV.int .i64 (0:Int),SV.int .i64 (0:Int),SV.int .i64 (0:Int),SV.sl (nat_lit 2)] (nat_lit 37),.seq kP [] (nat_lit 23),.cells [SV.int .i64 (0:Int),SV.int .i64 (0:Int),SV.int .i64 (0:Int),SV.int .i64 (0:Int),SV.int .i64 (0:Int),SV.sl (nat_lit 4)] (nat_lit 37),.seq kP [] (nat_lit 23)]
abbrev right_P1:List Bool := [false,true,false,false,true,false,true,true,true]
noncomputable def M.right_l0_step {α:Type} (x28:L3) (kn:Int → L3 → Option α) (k1:L3 → Option α) (x21:Int) (x40:L3):Option α := if cLt x21 (↑(List.length x28):Int) = true then if cLt x21 (12:Int) = true then if (0:Int) ≤ x21 ∧ x21 < (↑(List.length x28):Int) then if V.lpart_g (Prod.fst (List.getD x28 (Int.toNat x21) ((0:Int),(0:Int),(0:Int)))) (65536:Int) = true then if V.lpart_g (Prod.fst (Prod.snd (List.getD x28 (Int.toNat x21) ((0:Int),(0:Int),(0:Int))))) (65536:Int) = true then if V.lpart_g (Prod.snd (Prod.snd (List.getD x28 (Int.toNat x21) ((0:Int),(0:Int),(0:Int))))) (65536:Int) = true then if (List.length x40 + ((0:Nat) + (1:Nat))) * (24:Nat) ≤ (140737488355328:Nat) then kn (IntKind.wrap .i64 (x21 + (1:Int))) (x40 ++ [(V.lpart_r0 (Prod.fst (List.getD x28 (Int.toNat x21) ((0:Int),(0:Int),(0:Int)))) (65536:Int),V.lpart_r0 (Prod.fst (Prod.snd (List.getD x28 (Int.toNat x21) ((0:Int),(0:Int),(0:Int))))) (65536:Int),V.lpart_r0 (Prod.snd (Prod.snd (List.getD x28 (Int.toNat x21) ((0:Int),(0:Int),(0:Int))))) (65536:Int))]) else none else none else none else none else none else k1 x40 else k1 x40
noncomputable def M.right_l0 {α:Type} (x28:L3) (k1:L3 → Option α):Nat → Int → L3 → Option α
 | 0,_,_ => none
 | n + 1,x21,x40 => M.right_l0_step x28 (M.right_l0 x28 k1 n) k1 x21 x40
theorem right_l0_step_eq {α:Type} (x21 x22 x23 x24 x25 x26:Int) (x27:Value) (x28:L3) (x29 x30 x31 x32 x33:Int) (x34:L3) (x35 x36 x37 x38 x39:Int) (x40:L3) (Q:Ex → St → Option α):(loopStep E (exec E look_dcheck noLps 400) 5 right_P1 0 (codeAt E.P 5 right_P1)) (right_S1 x21 x22 x23 x24 x25 x26 x27 x28 x29 x30 x31 x32 x33 x34 x35 x36 x37 x38 x39 x40) Q = M.right_l0_step x28 (fun (x42:Int) (x43:L3) => Q .normal (right_S1 x42 x22 x23 x24 x25 x26 x27 x28 x29 x30 x31 x32 x33 x34 x35 x36 x37 x38 x39 x43)) (fun (x41:L3) => Q (.exit 0) (right_S2 x29 x30 x31 x32 x33 x34 x35 x36 x37 x38 x39 x41)) x21 x40 := by kernel_rfl
theorem right_l0_iter {α:Type} (x22 x23 x24 x25 x26:Int) (x27:Value) (x28:L3) (x29 x30 x31 x32 x33:Int) (x34:L3) (x35 x36 x37 x38 x39:Int) (Q:Ex → St → Option α):∀ (n:Nat) (x21:Int) (x40:L3),iter (loopStep E (exec E look_dcheck noLps 400) 5 right_P1 0 (codeAt E.P 5 right_P1)) n (right_S1 x21 x22 x23 x24 x25 x26 x27 x28 x29 x30 x31 x32 x33 x34 x35 x36 x37 x38 x39 x40) Q = M.right_l0 x28 (fun (x41:L3) => Q (.exit 0) (right_S2 x29 x30 x31 x32 x33 x34 x35 x36 x37 x38 x39 x41)) n x21 x40
 | 0,_,_ => rfl
 | n + 1,x21,x40 => (right_l0_step_eq x21 x22 x23 x24 x25 x26 x27 x28 x29 x30 x31 x32 x33 x34 x35 x36 x37 x38 x39 x40 (iterK (loopStep E (exec E look_dcheck noLps 400) 5 right_P1 0 (codeAt E.P 5 right_P1)) n Q)).trans (congrArg (fun kn => M.right_l0_step x28 kn (fun (x41:L3) => Q (.exit 0) (right_S2 x29 x30 x31 x32 x33 x34 x35 x36 x37 x38 x39 x41)) x21 x40) (funext fun x21 => funext fun x40 => right_l0_iter x22 x23 x24 x25 x26 x27 x28 x29 x30 x31 x32 x33 x34 x35 x36 x37 x38 x39 Q n x21 x40))
noncomputable def right_l0_go {α:Type} (ds:List D) (Q:Ex → St → Option α):Option α :=
 dI ds fun x21 ds => dI ds fun x22 ds => dI ds fun x23 ds => dI ds fun x24 ds => dI ds fun x25 ds => dI ds fun x26 ds => dV ds fun x27 ds => dL kP ds fun x28 ds => dI ds fun x29 ds => dI ds fun x30 ds => dI ds fun x31 ds => dI ds fun x32 ds => dI ds fun x33 ds => dL kP ds fun x34 ds => dI ds fun x35 ds => dI ds fun x36 ds => dI ds fun x37 ds => dI ds fun x38 ds => dI ds fun x39 ds => dL kP ds fun x40 ds => dE ds (M.right_l0 x28 (fun (x41:L3) => Q (.exit 0) (right_S2 x29 x30 x31 x32 x33 x34 x35 x36 x37 x38 x39 x41)) (100 + x28.length + x34.length + x40.length) x21 x40)
theorem right_l0_ok {α:Type}:LoopOk E.P 5 right_P1 0 (lEnt (α := α) (right_S3) right_l0_go) :=
 lEnt_ok E (exec_sound E E_ok (look_dcheck_ok) (noLps_ok _) 400) fun ds Q r h S hS => by
   unfold right_l0_go at h
   obtain ⟨x21,ds,rfl,h1⟩ := dI_inv h
   obtain ⟨x22,ds,rfl,h2⟩ := dI_inv h1
   obtain ⟨x23,ds,rfl,h3⟩ := dI_inv h2
   obtain ⟨x24,ds,rfl,h4⟩ := dI_inv h3
   obtain ⟨x25,ds,rfl,h5⟩ := dI_inv h4
   obtain ⟨x26,ds,rfl,h6⟩ := dI_inv h5
   obtain ⟨x27,ds,rfl,h7⟩ := dV_inv h6
   obtain ⟨x28,ds,rfl,h8⟩ := dL_inv h7
   obtain ⟨x29,ds,rfl,h9⟩ := dI_inv h8
   obtain ⟨x30,ds,rfl,h10⟩ := dI_inv h9
   obtain ⟨x31,ds,rfl,h11⟩ := dI_inv h10
   obtain ⟨x32,ds,rfl,h12⟩ := dI_inv h11
   obtain ⟨x33,ds,rfl,h13⟩ := dI_inv h12
   obtain ⟨x34,ds,rfl,h14⟩ := dL_inv h13
   obtain ⟨x35,ds,rfl,h15⟩ := dI_inv h14
   obtain ⟨x36,ds,rfl,h16⟩ := dI_inv h15
   obtain ⟨x37,ds,rfl,h17⟩ := dI_inv h16
   obtain ⟨x38,ds,rfl,h18⟩ := dI_inv h17
   obtain ⟨x39,ds,rfl,h19⟩ := dI_inv h18
   obtain ⟨x40,ds,rfl,h20⟩ := dL_inv h19
   obtain ⟨rfl,hE⟩ := dE_inv h20
   have e:fillS (right_S3) [.i x21,.i x22,.i x23,.i x24,.i x25,.i x26,.v x27,.l kP x28,.i x29,.i x30,.i x31,.i x32,.i x33,.l kP x34,.i x35,.i x36,.i x37,.i x38,.i x39,.l kP x40] = some (right_S1 x21 x22 x23 x24 x25 x26 x27 x28 x29 x30 x31 x32 x33 x34 x35 x36 x37 x38 x39 x40) := by kernel_rfl
   rw [e] at hS
   cases hS
   exact ⟨_,(right_l0_iter x22 x23 x24 x25 x26 x27 x28 x29 x30 x31 x32 x33 x34 x35 x36 x37 x38 x39 Q _ x21 x40).trans hE⟩
noncomputable def right_l0_lps {α:Type}:LookL α := addLp 5 right_P1 0 (lEnt (right_S3) right_l0_go) noLps
theorem right_l0_lps_ok {α:Type}:LoopsOk E.P (right_l0_lps (α := α)) := addLp_ok right_l0_ok (noLps_ok _)
noncomputable def M.right {α:Type} (k:Int) (r:Int) (hx:Int) (hy:Int) (hz:Int) (l:L3) (k0:Int → Int → Int → Int → Int → L3 → Option α):Option α := if V.lpick_g k (4:Int) = true then if V.lpick_g r (16384:Int) = true then if V.lpick_g hx (65536:Int) = true then if V.lpick_g hy (65536:Int) = true then if V.lpick_g hz (65536:Int) = true then if cEq (IntKind.wrap .i64 ((1:Int) + V.lpick_r0 k (4:Int))) (4:Int) = true then M.right_l0 l (fun (x45:L3) ↦ if (!cEq (V.chk (IntKind.wrap .i64 ((1:Int) + V.lpick_r0 k (4:Int))) (IntKind.wrap .i64 ((1:Int) + V.lpick_r0 r (16384:Int))) (IntKind.wrap .i64 ((1:Int) + V.lpick_r0 hx (65536:Int))) (IntKind.wrap .i64 ((1:Int) + V.lpick_r0 hy (65536:Int))) (IntKind.wrap .i64 ((1:Int) + V.lpick_r0 hz (65536:Int))) x45) (0:Int)) = true then k0 (3:Int) (IntKind.wrap .i64 ((1:Int) + V.lpick_r0 r (16384:Int))) (IntKind.wrap .i64 ((1:Int) + V.lpick_r0 hx (65536:Int))) (IntKind.wrap .i64 ((1:Int) + V.lpick_r0 hy (65536:Int))) (IntKind.wrap .i64 ((1:Int) + V.lpick_r0 hz (65536:Int))) [] else k0 (IntKind.wrap .i64 ((1:Int) + V.lpick_r0 k (4:Int))) (IntKind.wrap .i64 ((1:Int) + V.lpick_r0 r (16384:Int))) (IntKind.wrap .i64 ((1:Int) + V.lpick_r0 hx (65536:Int))) (IntKind.wrap .i64 ((1:Int) + V.lpick_r0 hy (65536:Int))) (IntKind.wrap .i64 ((1:Int) + V.lpick_r0 hz (65536:Int))) x45) ((100:Nat) + List.length l + (0:Nat) + (0:Nat)) (0:Int) [] else k0 (IntKind.wrap .i64 ((1:Int) + V.lpick_r0 k (4:Int))) (IntKind.wrap .i64 ((1:Int) + V.lpick_r0 r (16384:Int))) (IntKind.wrap .i64 ((1:Int) + V.lpick_r0 hx (65536:Int))) (IntKind.wrap .i64 ((1:Int) + V.lpick_r0 hy (65536:Int))) (IntKind.wrap .i64 ((1:Int) + V.lpick_r0 hz (65536:Int))) [] else none else none else none else none else none
theorem right_eq {α:Type} (k:Int) (r:Int) (hx:Int) (hy:Int) (hz:Int) (l:L3) (v44:Value) (Q:SV → Hp → Option α):callI E look_dcheck (exec E look_dcheck right_l0_lps 400) 5 ([SV.agg [SV.int .i64 k,SV.int .i64 r,SV.int .i64 hx,SV.int .i64 hy,SV.int .i64 hz,SV.ros v44 kP l]]) ([]) Q = M.right k r hx hy hz l (fun (x46 x47 x48 x49 x50:Int) (x51:L3) => Q (SV.agg [SV.int .i64 x46,SV.int .i64 x47,SV.int .i64 x48,SV.int .i64 x49,SV.int .i64 x50,SV.sl (nat_lit 0)]) ([.seq kP x51 (nat_lit 23)])) := by kernel_rfl
def right_sp:List AS := [.st [.leaf (.int .i64 0),.leaf (.int .i64 0),.leaf (.int .i64 0),.leaf (.int .i64 0),.leaf (.int .i64 0),.ro kP]]
theorem right_l0_val {α:Type} (l:List P3) (hl:l.length < 9223372036854775808) (hp:∀ p ∈ l,RP p) (k1:List P3 → Option α):∀ (fuel i:Nat) (acc:List P3),i ≤ l.length → i ≤ 12 → 12 - i < fuel → acc.length ≤ i →
   M.right_l0 l k1 fuel (i:Int) acc = k1 (acc ++ ((l.drop i).take (12 - i)).map partP)
 | 0,i,acc,h1,h2,h3,h4 => by omega
 | f + 1,i,acc,h1,h2,h3,h4 => by
   unfold M.right_l0 M.right_l0_step
   rw [cLt_nat]
   by_cases hi:i < l.length
   · rw [if_pos (by simpa using hi)]
     by_cases h12:i < 12
     · have c12 : cLt (i : Int) 12 = true := by rw [cLt_eq]; simp; omega
       have hin:(0:Int) ≤ (i:Int) ∧ (i:Int) < (l.length:Int) := by omega
       obtain ⟨r1,r2,r3⟩ := hp _ (pt_mem l i hi)
       have g1 := (part_val r1 (n := 65536) (by omega)).1
       have g2 := (part_val r2 (n := 65536) (by omega)).1
       have g3 := (part_val r3 (n := 65536) (by omega)).1
       unfold pt at g1 g2 g3
       have ih := right_l0_val l hl hp k1 f (i + 1) (acc ++ [partP (pt l i)]) (by omega) (by omega) (by omega) (by rw [List.length_append,List.length_singleton]; omega)
       simp only [c12,if_true,if_pos hin,toNat_nat,g1,g2,g3]
       rw [if_pos (by omega:(acc.length + (0 + 1)) * 24 ≤ 140737488355328),w_next (by omega)]
       refine Eq.trans ih ?_
       rw [drop_pt l i hi,show 12 - i = (12 - (i + 1)) + 1 by omega,List.take_succ_cons,List.map_cons,List.append_assoc]
       rfl
     · have : i = 12 := by omega
       subst this
       rw [if_neg (by rw [cLt_eq]; decide)]
       simp
   · have : i = l.length := by omega
     subst this
     rw [if_neg (by simp)]
     simp
noncomputable def _root_.Go.Proofs.YtlagndfhibkjpaaGreat.V.rgG (k r hx hy hz:Int) (l:List P3):Bool := V.gB ((Rr k ∧ Rr r ∧ Rr hx ∧ Rr hy ∧ Rr hz) ∧ l.length < 9223372036854775808 ∧ ∀ p ∈ l,RP p)
theorem right_v {α:Type} (k r hx hy hz:Int) (l:List P3) (hg:V.rgG k r hx hy hz l = true) (k0:Int → Int → Int → Int → Int → List P3 → Option α) :
   M.right k r hx hy hz l k0 = k0 (V.rgK k r hx hy hz l) (V.rgR r) (V.rgH hx) (V.rgH hy) (V.rgH hz) (V.rgP k r hx hy hz l) := by
 obtain ⟨⟨g1,g2,g3,g4,g5⟩,hl,hp⟩ := gB_iff hg
 unfold M.right V.rgK V.rgR V.rgH V.rgP V.chk
 simp only [hid_eq]
 obtain ⟨p1,q1,r1⟩ := pick_val (n := 4) g1 (by omega)
 obtain ⟨p2,q2,r2⟩ := pick_val (n := 16384) g2 (by omega)
 obtain ⟨p3,q3,r3⟩ := pick_val (n := 65536) g3 (by omega)
 obtain ⟨p4,q4,r4⟩ := pick_val (n := 65536) g4 (by omega)
 obtain ⟨p5,q5,r5⟩ := pick_val (n := 65536) g5 (by omega)
 rw [if_pos p1,if_pos p2,if_pos p3,if_pos p4,if_pos p5]
 rw [IntWalk.i64_in (1 + V.lpick_r0 k 4) (by omega),IntWalk.i64_in (1 + V.lpick_r0 r 16384) (by omega),IntWalk.i64_in (1 + V.lpick_r0 hx 65536) (by omega),IntWalk.i64_in (1 + V.lpick_r0 hy 65536) (by omega),IntWalk.i64_in (1 + V.lpick_r0 hz 65536) (by omega)]
 show (if cEq (kd k) 4 = true then M.right_l0 l (fun x45 => if (!cEq (chkP (kd k) (rad r) (hlf hx) (hlf hy) (hlf hz) x45) 0) = true then k0 3 (rad r) (hlf hx) (hlf hy) (hlf hz) [] else k0 (kd k) (rad r) (hlf hx) (hlf hy) (hlf hz) x45) (100 + l.length + 0 + 0) 0 [] else k0 (kd k) (rad r) (hlf hx) (hlf hy) (hlf hz) []) = _
 have hk := right_l0_val l hl hp (fun x45 => if (!cEq (chkP (kd k) (rad r) (hlf hx) (hlf hy) (hlf hz) x45) 0) = true then k0 3 (rad r) (hlf hx) (hlf hy) (hlf hz) [] else k0 (kd k) (rad r) (hlf hx) (hlf hy) (hlf hz) x45) (100 + l.length + 0 + 0) 0 [] (by omega) (by omega) (by omega) (by simp)
 rw [Int.natCast_zero] at hk
 rw [hk]
 unfold rgKP rgPP chk0
 simp only [cEq_eq,beq_iff_eq]
 by_cases h4:kd k = 4
 · have e : pts0 k l = (l.take 12).map partP := by unfold pts0; rw [if_pos h4]
   rw [if_pos h4,e]
   simp only [List.nil_append,List.drop_zero,Nat.sub_zero]
   by_cases hc:chkP (kd k) (rad r) (hlf hx) (hlf hy) (hlf hz) ((l.take 12).map partP) = 0
   · rw [hc,if_neg (by decide),if_neg (fun h => h.2 rfl),if_neg (fun h => h.2 rfl)]
   · have : (chkP (kd k) (rad r) (hlf hx) (hlf hy) (hlf hz) ((l.take 12).map partP) == 0) = false := by simpa using hc
     rw [this,if_pos (show (!false) = true from rfl),if_pos ⟨h4,hc⟩,if_pos ⟨h4,hc⟩]
 · have e : pts0 k l = [] := by unfold pts0; rw [if_neg h4]
   rw [if_neg h4,e]
   simp [h4]
noncomputable def right_h {α:Type} (ds:List D) (Q:SV → Hp → Option α):Option α :=
 dI ds fun k ds => dI ds fun r ds => dI ds fun hx ds => dI ds fun hy ds => dI ds fun hz ds => dL kP ds fun l ds => dE ds (if V.rgG k r hx hy hz l = true then Q (.agg [.int .i64 (V.rgK k r hx hy hz l),.int .i64 (V.rgR r),.int .i64 (V.rgH hx),.int .i64 (V.rgH hy),.int .i64 (V.rgH hz),.sl 0]) ([.seq kP (V.rgP k r hx hy hz l) 23]) else none)
theorem right_h_ok {α:Type}:FnOk E.P 5 (fEnt (α := α) right_sp right_h) :=
 fEntR_ok E (look_dcheck_ok) (exec_sound E E_ok (look_dcheck_ok) (right_l0_lps_ok) 400) fun ds Q r h => by
   unfold right_h at h
   obtain ⟨k,ds,rfl,h1⟩ := dI_inv h
   obtain ⟨r,ds,rfl,h2⟩ := dI_inv h1
   obtain ⟨hx,ds,rfl,h3⟩ := dI_inv h2
   obtain ⟨hy,ds,rfl,h4⟩ := dI_inv h3
   obtain ⟨hz,ds,rfl,h5⟩ := dI_inv h4
   obtain ⟨l,ds,rfl,h6⟩ := dL_inv h5
   obtain ⟨rfl,hE⟩ := dE_inv h6
   split at hE
   · rename_i hg
     exact ⟨_,_,hE,fun vs => ⟨_,_,by kernel_rfl,(right_eq k r hx hy hz l ((cellsV (vs.headD undef)).tail.tail.tail.tail.tail.headD undef) _).trans (right_v k r hx hy hz l hg _)⟩⟩
   · cases hE
noncomputable def look_right {α:Type}:LookF α := addFn 5 (fEnt right_sp right_h) look_dcheck
theorem look_right_ok {α:Type}:LookOk E.P (look_right (α := α)) := addFn_ok right_h_ok (look_dcheck_ok)
end
section
open Go
set_option maxRecDepth 20000
noncomputable def look_PoS_place {α:Type}:LookF α := addFn 6 (fEnt place_sp place_h) look_right
theorem look_PoS_place_ok {α:Type}:LookOk E.P (look_PoS_place (α := α)) := addFn_ok place_h_ok (look_right_ok)
noncomputable def look_PoS_pspan {α:Type}:LookF α := addFn 26 (fEnt pspan_sp pspan_h) look_PoS_place
theorem look_PoS_pspan_ok {α:Type}:LookOk E.P (look_PoS_pspan (α := α)) := addFn_ok pspan_h_ok (look_PoS_place_ok)
noncomputable def look_PoS_pjoin {α:Type}:LookF α := addFn 61 (fEnt pjoin_sp pjoin_c) look_PoS_pspan
theorem look_PoS_pjoin_ok {α:Type}:LookOk E.P (look_PoS_pjoin (α := α)) := addFn_ok pjoin_c_ok (look_PoS_pspan_ok)
noncomputable def look_PoS_pawake {α:Type}:LookF α := addFn 20 (fEnt pawake_sp pawake_h) look_PoS_pjoin
theorem look_PoS_pawake_ok {α:Type}:LookOk E.P (look_PoS_pawake (α := α)) := addFn_ok pawake_h_ok (look_PoS_pjoin_ok)
noncomputable def look_PoS_dvwhole {α:Type}:LookF α := addFn 18 (fEnt dvwhole_sp dvwhole_h) look_PoS_pawake
theorem look_PoS_dvwhole_ok {α:Type}:LookOk E.P (look_PoS_dvwhole (α := α)) := addFn_ok dvwhole_h_ok (look_PoS_pawake_ok)
noncomputable def M.qpick {α:Type} (c:Int) (n:Int) (k0:Int → Option α):Option α := if cLt c (0:Int) = true then if n = (0:Int) then none else k0 (Int.tmod (IntKind.wrap .i64 ((0:Int) - IntKind.wrap .i64 (c + (1:Int)))) n) else if n = (0:Int) then none else k0 (Int.tmod c n)
theorem qpick_eq {α:Type} (c:Int) (n:Int) (Q:SV → Hp → Option α):callI E look_PoS_dvwhole (exec E look_PoS_dvwhole noLps 400) 52 ([SV.int .i64 c,SV.int .i64 n]) ([]) Q = M.qpick c n (fun (x0:Int) => Q (SV.int .i64 x0) ([])) := by kernel_rfl
def qpick_sp:List AS := [.val (.int .i64 0),.val (.int .i64 0)]
noncomputable def _root_.Go.Proofs.YtlagndfhibkjpaaGreat.V.qpick_g (c:Int) (n:Int):Bool := if cLt c (0:Int) = true then if n = (0:Int) then false else true else if n = (0:Int) then false else true
noncomputable def _root_.Go.Proofs.YtlagndfhibkjpaaGreat.V.qpick_r0 (c:Int) (n:Int):Int := if cLt c (0:Int) = true then if n = (0:Int) then (0:Int) else Int.tmod (IntKind.wrap .i64 ((0:Int) - IntKind.wrap .i64 (c + (1:Int)))) n else if n = (0:Int) then (0:Int) else Int.tmod c n
theorem qpick_val {α:Type} (c:Int) (n:Int) (k0:Int → Option α):M.qpick c n k0 = if V.qpick_g c n = true then k0 (V.qpick_r0 c n) else none := by
 unfold M.qpick V.qpick_g V.qpick_r0
 repeat' first | rfl | (split <;> rename_i h <;> first | simp only [if_pos h] | simp only [if_neg h] | skip)
noncomputable def qpick_c {α:Type} (ds:List D) (Q:SV → Hp → Option α):Option α :=
 dI ds fun c ds => dI ds fun n ds => dE ds (if V.qpick_g c n = true then Q (SV.int .i64 (V.qpick_r0 c n)) ([]) else none)
theorem qpick_c_ok {α:Type}:FnOk E.P 52 (fEnt (α := α) qpick_sp qpick_c) :=
 fEnt_ok E (look_PoS_dvwhole_ok) (exec_sound E E_ok (look_PoS_dvwhole_ok) (noLps_ok _) 400) fun ds Q r h => by
   unfold qpick_c at h
   obtain ⟨c,ds,rfl,h1⟩ := dI_inv h
   obtain ⟨n,ds,rfl,h2⟩ := dI_inv h1
   obtain ⟨rfl,hE⟩ := dE_inv h2
   exact ⟨[SV.int .i64 c,SV.int .i64 n],[],fun vs => by kernel_rfl,(qpick_eq c n Q).trans ((qpick_val c n (fun (x0:Int) => Q (SV.int .i64 x0) ([]))).trans hE)⟩
noncomputable def look_qpick {α:Type}:LookF α := addFn 52 (fEnt qpick_sp qpick_c) look_PoS_dvwhole
theorem look_qpick_ok {α:Type}:LookOk E.P (look_qpick (α := α)) := addFn_ok qpick_c_ok (look_PoS_dvwhole_ok)
theorem qg (c n:Int) (h:n ≠ 0):V.qpick_g c n = true := by
 unfold V.qpick_g
 rw [if_neg h,ite_self]
noncomputable def M.qright {α:Type} (px:Int) (p_y:Int) (pz:Int) (tw:Int) (tx:Int) (ty:Int) (tz:Int) (k0:Int → Int → Int → Int → Int → Int → Int → Option α):Option α := if V.qpick_g tw (2199023255553:Int) = true then if V.qpick_g tx (2199023255553:Int) = true then if V.qpick_g ty (2199023255553:Int) = true then if V.qpick_g tz (2199023255553:Int) = true then if V.on (V.tWhole (IntKind.wrap .i64 (V.qpick_r0 tw (2199023255553:Int) - (1099511627776:Int)),IntKind.wrap .i64 (V.qpick_r0 tx (2199023255553:Int) - (1099511627776:Int)),IntKind.wrap .i64 (V.qpick_r0 ty (2199023255553:Int) - (1099511627776:Int)),IntKind.wrap .i64 (V.qpick_r0 tz (2199023255553:Int) - (1099511627776:Int)))) false = true then if V.qpick_g px (8796093022209:Int) = true then if V.qpick_g p_y (8796093022209:Int) = true then if V.qpick_g pz (8796093022209:Int) = true then k0 (IntKind.wrap .i64 (V.qpick_r0 px (8796093022209:Int) - (4398046511104:Int))) (IntKind.wrap .i64 (V.qpick_r0 p_y (8796093022209:Int) - (4398046511104:Int))) (IntKind.wrap .i64 (V.qpick_r0 pz (8796093022209:Int) - (4398046511104:Int))) (4294967296:Int) (0:Int) (0:Int) (0:Int) else none else none else none else if V.qpick_g px (8796093022209:Int) = true then if V.qpick_g p_y (8796093022209:Int) = true then if V.qpick_g pz (8796093022209:Int) = true then k0 (IntKind.wrap .i64 (V.qpick_r0 px (8796093022209:Int) - (4398046511104:Int))) (IntKind.wrap .i64 (V.qpick_r0 p_y (8796093022209:Int) - (4398046511104:Int))) (IntKind.wrap .i64 (V.qpick_r0 pz (8796093022209:Int) - (4398046511104:Int))) (V.w4 (V.tWhole (IntKind.wrap .i64 (V.qpick_r0 tw (2199023255553:Int) - (1099511627776:Int)),IntKind.wrap .i64 (V.qpick_r0 tx (2199023255553:Int) - (1099511627776:Int)),IntKind.wrap .i64 (V.qpick_r0 ty (2199023255553:Int) - (1099511627776:Int)),IntKind.wrap .i64 (V.qpick_r0 tz (2199023255553:Int) - (1099511627776:Int))))) (V.x4 (V.tWhole (IntKind.wrap .i64 (V.qpick_r0 tw (2199023255553:Int) - (1099511627776:Int)),IntKind.wrap .i64 (V.qpick_r0 tx (2199023255553:Int) - (1099511627776:Int)),IntKind.wrap .i64 (V.qpick_r0 ty (2199023255553:Int) - (1099511627776:Int)),IntKind.wrap .i64 (V.qpick_r0 tz (2199023255553:Int) - (1099511627776:Int))))) (V.y4 (V.tWhole (IntKind.wrap .i64 (V.qpick_r0 tw (2199023255553:Int) - (1099511627776:Int)),IntKind.wrap .i64 (V.qpick_r0 tx (2199023255553:Int) - (1099511627776:Int)),IntKind.wrap .i64 (V.qpick_r0 ty (2199023255553:Int) - (1099511627776:Int)),IntKind.wrap .i64 (V.qpick_r0 tz (2199023255553:Int) - (1099511627776:Int))))) (V.z4 (V.tWhole (IntKind.wrap .i64 (V.qpick_r0 tw (2199023255553:Int) - (1099511627776:Int)),IntKind.wrap .i64 (V.qpick_r0 tx (2199023255553:Int) - (1099511627776:Int)),IntKind.wrap .i64 (V.qpick_r0 ty (2199023255553:Int) - (1099511627776:Int)),IntKind.wrap .i64 (V.qpick_r0 tz (2199023255553:Int) - (1099511627776:Int))))) else none else none else none else none else none else none else none
theorem qright_eq {α:Type} (px:Int) (p_y:Int) (pz:Int) (tw:Int) (tx:Int) (ty:Int) (tz:Int) (Q:SV → Hp → Option α):callI E look_qpick (exec E look_qpick noLps 400) 7 ([SV.agg [SV.int .i64 px,SV.int .i64 p_y,SV.int .i64 pz,SV.int .i64 tw,SV.int .i64 tx,SV.int .i64 ty,SV.int .i64 tz]]) ([]) Q = M.qright px p_y pz tw tx ty tz (fun (x2 x3 x4 x5 x6 x7 x8:Int) => Q (SV.agg [SV.int .i64 x2,SV.int .i64 x3,SV.int .i64 x4,SV.int .i64 x5,SV.int .i64 x6,SV.int .i64 x7,SV.int .i64 x8]) ([])) := by kernel_rfl
def qright_sp:List AS := [.val (.agg [.int .i64 0,.int .i64 0,.int .i64 0,.int .i64 0,.int .i64 0,.int .i64 0,.int .i64 0])]
noncomputable def qp (n:Int):Int := IntKind.wrap .i64 (V.qpick_r0 n 8796093022209 - 4398046511104)
noncomputable def qq (n:Int):Int := IntKind.wrap .i64 (V.qpick_r0 n 2199023255553 - 1099511627776)
noncomputable def _root_.Go.Proofs.YtlagndfhibkjpaaGreat.V.prP (n:Int):Int := hid (qp n)
noncomputable def _root_.Go.Proofs.YtlagndfhibkjpaaGreat.V.prQ (tw tx ty tz:Int):V.T4 := hid ((V.tWhole (qq tw,qq tx,qq ty,qq tz)).getD (4294967296,0,0,0))
theorem qright_v {α:Type} (px p_y pz tw tx ty tz:Int) (k0:Int → Int → Int → Int → Int → Int → Int → Option α):M.qright px p_y pz tw tx ty tz k0 = k0 (V.prP px) (V.prP p_y) (V.prP pz) (V.prQ tw tx ty tz).1 (V.prQ tw tx ty tz).2.1 (V.prQ tw tx ty tz).2.2.1 (V.prQ tw tx ty tz).2.2.2 := by
 unfold M.qright V.prP V.prQ
 simp only [qg _ 2199023255553 (by decide),qg _ 8796093022209 (by decide),if_true,hid_eq]
 show (if V.on (V.tWhole (qq tw,qq tx,qq ty,qq tz)) false = true then k0 (qp px) (qp p_y) (qp pz) 4294967296 0 0 0 else k0 (qp px) (qp p_y) (qp pz) (V.w4 (V.tWhole (qq tw,qq tx,qq ty,qq tz))) (V.x4 (V.tWhole (qq tw,qq tx,qq ty,qq tz))) (V.y4 (V.tWhole (qq tw,qq tx,qq ty,qq tz))) (V.z4 (V.tWhole (qq tw,qq tx,qq ty,qq tz)))) = _
 cases V.tWhole (qq tw,qq tx,qq ty,qq tz) with
 | none => rw [on_none,if_pos rfl]; rfl
 | some t => rw [on_some,if_neg (by decide)]; rfl
noncomputable def qright_h {α:Type} (ds:List D) (Q:SV → Hp → Option α):Option α :=
 dI ds fun px ds => dI ds fun p_y ds => dI ds fun pz ds => dI ds fun tw ds => dI ds fun tx ds => dI ds fun ty ds => dI ds fun tz ds => dE ds (Q (.agg [.int .i64 (V.prP px),.int .i64 (V.prP p_y),.int .i64 (V.prP pz),.int .i64 (V.prQ tw tx ty tz).1,.int .i64 (V.prQ tw tx ty tz).2.1,.int .i64 (V.prQ tw tx ty tz).2.2.1,.int .i64 (V.prQ tw tx ty tz).2.2.2]) ([]))
theorem qright_h_ok {α:Type}:FnOk E.P 7 (fEnt (α := α) qright_sp qright_h) :=
 fEnt_ok E (look_qpick_ok) (exec_sound E E_ok (look_qpick_ok) (noLps_ok _) 400) fun ds Q r h => by
   unfold qright_h at h
   obtain ⟨px,ds,rfl,h1⟩ := dI_inv h
   obtain ⟨p_y,ds,rfl,h2⟩ := dI_inv h1
   obtain ⟨pz,ds,rfl,h3⟩ := dI_inv h2
   obtain ⟨tw,ds,rfl,h4⟩ := dI_inv h3
   obtain ⟨tx,ds,rfl,h5⟩ := dI_inv h4
   obtain ⟨ty,ds,rfl,h6⟩ := dI_inv h5
   obtain ⟨tz,ds,rfl,h7⟩ := dI_inv h6
   obtain ⟨rfl,hE⟩ := dE_inv h7
   exact ⟨[SV.agg [SV.int .i64 px,SV.int .i64 p_y,SV.int .i64 pz,SV.int .i64 tw,SV.int .i64 tx,SV.int .i64 ty,SV.int .i64 tz]],[],fun vs => by kernel_rfl,(qright_eq px p_y pz tw tx ty tz Q).trans ((qright_v px p_y pz tw tx ty tz _).trans hE)⟩
end
section
open Go
theorem mul_bd {a b m n:Int} (h1:-m ≤ a) (h2:a ≤ m) (h3:-n ≤ b) (h4:b ≤ n):-(m * n) ≤ a * b ∧ a * b ≤ m * n := by
 have e1:0 ≤ (m + a) * (n + b) := Int.mul_nonneg (by omega) (by omega)
 have e2:0 ≤ (m - a) * (n - b) := Int.mul_nonneg (by omega) (by omega)
 have e3:0 ≤ (m + a) * (n - b) := Int.mul_nonneg (by omega) (by omega)
 have e4:0 ≤ (m - a) * (n + b) := Int.mul_nonneg (by omega) (by omega)
 have f1:(m + a) * (n + b) = m * n + m * b + a * n + a * b := by grind
 have f2:(m - a) * (n - b) = m * n - m * b - a * n + a * b := by grind
 have f3:(m + a) * (n - b) = m * n - m * b + a * n - a * b := by grind
 have f4:(m - a) * (n + b) = m * n + m * b - a * n - a * b := by grind
 omega
theorem part_sq {a n t:Int} (hn:0 < n) (h1:-n ≤ a) (h2:a ≤ n) (ht:t = Int.fdiv (a * 4294967296) n) :
   -4294967296 ≤ t ∧ t ≤ 4294967296 ∧ ∃ r,0 ≤ r ∧ r < n ∧ n * n * (t * t) = a * a * 18446744073709551616 - 8589934592 * (a * r) + r * r := by
 rw [fdiv_pos _ _ hn] at ht
 have e1:a * 4294967296 / n * n + a * 4294967296 % n = a * 4294967296 := Int.ediv_mul_add_emod _ n
 have e2:0 ≤ a * 4294967296 % n := Int.emod_nonneg _ (by omega)
 have e3:a * 4294967296 % n < n := Int.emod_lt_of_pos _ hn
 rw [← ht] at e1
 generalize a * 4294967296 % n = r at *
 refine ⟨?_,?_,r,e2,e3,?_⟩
 · rw [ht]; exact Int.le_ediv_of_mul_le hn (by omega)
 · rw [ht]; exact Int.ediv_le_of_le_mul hn (by omega)
 · have : n * n * (t * t) = (t * n) * (t * n) := by grind
   rw [this,show t * n = a * 4294967296 - r by omega]
   grind
theorem four_sum {a b c d n:Int} (hn:0 ≤ n) (h:a * a + (b * b + (c * c + d * d)) < (n + 1) * (n + 1)):a + b + c + d ≤ 2 * n + 1 := by
 have e:(a + b + c + d) * (a + b + c + d) + ((a - b) * (a - b) + (a - c) * (a - c) + (a - d) * (a - d) + (b - c) * (b - c) + (b - d) * (b - d) + (c - d) * (c - d)) = 4 * (a * a + (b * b + (c * c + d * d))) := by grind
 have := sq_nn (a - b); have := sq_nn (a - c); have := sq_nn (a - d); have := sq_nn (b - c); have := sq_nn (b - d); have := sq_nn (c - d)
 by_cases hh:a + b + c + d ≤ 2 * n + 1
 · exact hh
 · have : (2 * n + 2) * (2 * n + 2) ≤ (a + b + c + d) * (a + b + c + d) := Int.mul_le_mul (by omega) (by omega) (by omega) (by omega)
   have e2:(2 * n + 2) * (2 * n + 2) = 4 * ((n + 1) * (n + 1)) := by grind
   omega
theorem natAbs_sq (a:Int):(a.natAbs:Int) * a.natAbs = a * a := by
 rcases Int.natAbs_eq a with h | h <;> (generalize a.natAbs = m at *; subst h; grind)
theorem rest_bd {a r n:Int} (h1:0 ≤ r) (h2:r ≤ n):-(n * (a.natAbs:Int)) ≤ a * r ∧ a * r ≤ n * (a.natAbs:Int) := by
 have := mul_bd (a := a) (b := r) (m := a.natAbs) (n := n) (by omega) (by omega) (by omega) (by omega)
 rw [Int.mul_comm (a.natAbs:Int) n] at this
 exact this
theorem whole_norm {q t:V.T4} (h:V.tWhole q = some t):18446744056529682423 ≤ t.1 * t.1 + (t.2.1 * t.2.1 + (t.2.2.1 * t.2.2.1 + t.2.2.2 * t.2.2.2)) ∧
   t.1 * t.1 + (t.2.1 * t.2.1 + (t.2.2.1 * t.2.2.1 + t.2.2.2 * t.2.2.2)) ≤ 18446744108069289992 := by
 obtain ⟨n,hn,hlo,h1,h2,h3,h4⟩ := tWhole_some.1 h
 obtain ⟨w,x,y,z⟩ := q
 obtain ⟨tw,tx,ty,tz⟩ := t
 obtain ⟨_,_,_,_,hs,hm⟩ := mNorm4_some.1 hn
 simp only at hs h1 h2 h3 h4 ⊢
 have pw := sq_nn w; have px := sq_nn x; have py := sq_nn y; have pz := sq_nn z
 have hS:0 ≤ w * w + (x * x + (y * y + z * z)) := by omega
 obtain ⟨q0,q1,q2⟩ := isqSpec hS
 rw [← hs] at q0 q1 q2
 have bw := sq_le (a := w) q0 (by omega)
 have bx := sq_le (a := x) q0 (by omega)
 have b_y := sq_le (a := y) q0 (by omega)
 have bz := sq_le (a := z) q0 (by omega)
 obtain ⟨_,_,r0,c0,d0,e0⟩ := part_sq (by omega) bw.1 bw.2 (mDiv_some.1 h1).2.2.2.2
 obtain ⟨_,_,r1,c1,d1,e1⟩ := part_sq (by omega) bx.1 bx.2 (mDiv_some.1 h2).2.2.2.2
 obtain ⟨_,_,r2,c2,d2,e2⟩ := part_sq (by omega) b_y.1 b_y.2 (mDiv_some.1 h3).2.2.2.2
 obtain ⟨_,_,r3,c3,d3,e3⟩ := part_sq (by omega) bz.1 bz.2 (mDiv_some.1 h4).2.2.2.2
 have f0 := rest_bd (a := w) c0 (Int.le_of_lt d0)
 have f1 := rest_bd (a := x) c1 (Int.le_of_lt d1)
 have f2 := rest_bd (a := y) c2 (Int.le_of_lt d2)
 have f3 := rest_bd (a := z) c3 (Int.le_of_lt d3)
 have g := four_sum (a := w.natAbs) (b := x.natAbs) (c := y.natAbs) (d := z.natAbs) q0 (by rw [natAbs_sq,natAbs_sq,natAbs_sq,natAbs_sq]; exact q2)
 have g2:n * ((w.natAbs:Int) + x.natAbs + y.natAbs + z.natAbs) ≤ n * (2 * n + 1) := Int.mul_le_mul_of_nonneg_left g q0
 have g3:n * ((w.natAbs:Int) + x.natAbs + y.natAbs + z.natAbs) = n * (w.natAbs:Int) + n * (x.natAbs:Int) + n * (y.natAbs:Int) + n * (z.natAbs:Int) := by grind
 have g4:n * (2 * n + 1) = 2 * (n * n) + n := by grind
 have k0:r0 * r0 ≤ n * n := Int.mul_le_mul (by omega) (by omega) c0 (by omega)
 have k1:r1 * r1 ≤ n * n := Int.mul_le_mul (by omega) (by omega) c1 (by omega)
 have k2:r2 * r2 ≤ n * n := Int.mul_le_mul (by omega) (by omega) c2 (by omega)
 have k3:r3 * r3 ≤ n * n := Int.mul_le_mul (by omega) (by omega) c3 (by omega)
 have := sq_nn r0; have := sq_nn r1; have := sq_nn r2; have := sq_nn r3
 have hc:n * 2147483648 ≤ n * n := Int.mul_le_mul_of_nonneg_left hlo q0
 have hN:0 < n * n := Int.mul_pos (by omega) (by omega)
 have e5:(n + 1) * (n + 1) = n * n + 2 * n + 1 := by grind
 rw [e5] at q2
 have eT:n * n * (tw * tw + (tx * tx + (ty * ty + tz * tz))) = n * n * (tw * tw) + (n * n * (tx * tx) + (n * n * (ty * ty) + n * n * (tz * tz))) := by grind
 generalize tw * tw + (tx * tx + (ty * ty + tz * tz)) = T at *
 rw [e0,e1,e2,e3] at eT
 generalize n * n = N at *
 constructor
 · refine Int.le_of_mul_le_mul_left (a := N) ?_ hN
   rw [eT]; omega
 · refine Int.le_of_mul_le_mul_left (a := N) ?_ hN
   rw [eT]; omega
theorem ex1 (w x y z:Int):(x + x) * y + (w + w) * -z = 2 * (x * y) - 2 * (w * z) := by grind
theorem ex2 (w x y z:Int):(x + x) * z + (w + w) * y = 2 * (x * z) + 2 * (w * y) := by grind
end
section
open Go
theorem qpick_bd {c n:Int} (hc:-9223372036854775808 ≤ c ∧ c < 9223372036854775808) (hn:0 < n ∧ n < 4611686018427387904):0 ≤ V.qpick_r0 c n ∧ V.qpick_r0 c n < n := by
 unfold V.qpick_r0
 rw [cLt_eq]
 by_cases h0:c < 0
 · have c1 : decide (c < 0) = true := decide_eq_true h0
   simp only [c1,if_true]
   rw [IntWalk.i64_in (c + 1) (by omega),IntWalk.i64_in (0 - (c + 1)) (by omega),Int.tmod_eq_emod_of_nonneg (show 0 ≤ 0 - (c + 1) by omega),if_neg (by omega)]
   exact ⟨Int.emod_nonneg _ (by omega),Int.emod_lt_of_pos _ hn.1⟩
 · have c1 : decide (c < 0) = false := decide_eq_false h0
   simp only [c1,if_true,Bool.false_eq_true,if_false]
   rw [Int.tmod_eq_emod_of_nonneg (show 0 ≤ c by omega),if_neg (by omega)]
   exact ⟨Int.emod_nonneg _ (by omega),Int.emod_lt_of_pos _ hn.1⟩
theorem prP_in {n:Int} (h:-9223372036854775808 ≤ n ∧ n < 9223372036854775808):In (V.prP n) 4398046511104 := by
 unfold V.prP qp
 rw [hid_eq]
 have := qpick_bd h (n := 8796093022209) (by omega)
 rw [IntWalk.i64_in _ (by omega)]
 unfold In; omega
theorem whole_in {q t:V.T4} (h:V.tWhole q = some t):In t.1 4294967299 ∧ In t.2.1 4294967299 ∧ In t.2.2.1 4294967299 ∧ In t.2.2.2 4294967299 := by
 have h2 := (whole_norm h).2
 have p1 := sq_nn t.1
 have p2 := sq_nn t.2.1
 have p3 := sq_nn t.2.2.1
 have p4 := sq_nn t.2.2.2
 exact ⟨part_le (by omega),part_le (by omega),part_le (by omega),part_le (by omega)⟩
theorem prQ_rows (tw tx ty tz:Int):∃ m,V.tRows (V.prQ tw tx ty tz) = some m ∧ MOk m := by
 unfold V.prQ
 rw [hid_eq]
 cases ho:V.tWhole (qq tw,qq tx,qq ty,qq tz) with
 | none => exact rows_in (w := 4294967296) (x := 0) (y := 0) (z := 0) (by unfold In; omega) (by unfold In; omega) (by unfold In; omega) (by unfold In; omega)
 | some t =>
   obtain ⟨a,b,c,d⟩ := whole_in ho
   exact rows_in (w := t.1) (x := t.2.1) (y := t.2.2.1) (z := t.2.2.2) a b c d
theorem corLen3 (k r hx hy hz:Int) (l:List P3):(V.corA k r hx hy hz l).length ≤ 7000 ∧ (V.corE k r hx hy hz l).length ≤ 7000 := by
 unfold V.corA V.corE
 simp only [hid_eq]
 by_cases hc:chkP k r hx hy hz l = 0
 · simp only [if_pos hc]
   refine ⟨?_,?_⟩
   · unfold corAP
     split
     · decide
     · split
       · rename_i h4
         have hl:l.length ≤ 12 := by rcases chk_range hc with ⟨h,_⟩ | ⟨h,_⟩ | ⟨h,_⟩ | ⟨_,_,h,_⟩ <;> omega
         have := iF_len l hl l.length 0 ([],[])
         have e:sz2 (([],[]):St2) = 0 := rfl
         unfold facesP
         unfold sz2 at this
         have e2:(([],[]):St2).1.length = 0 := rfl
         have e3:(([],[]):St2).2.length = 0 := rfl
         omega
       · decide
   · unfold corEP
     split
     · decide
     · split
       · decide
       · split
         · rename_i h4
           have hl:l.length ≤ 12 := by rcases chk_range hc with ⟨h,_⟩ | ⟨h,_⟩ | ⟨h,_⟩ | ⟨_,_,h,_⟩ <;> omega
           have := iF_len l hl l.length 0 ([],[])
           unfold facesP
           unfold sz2 at this
           have e2:(([],[]):St2).1.length = 0 := rfl
           have e3:(([],[]):St2).2.length = 0 := rfl
           omega
         · decide
 · simp only [if_neg hc]
   exact ⟨by simp,by simp⟩
structure CF (k r hx hy hz:Int) (l:List P3):Prop where
 rg:V.rgG k r hx hy hz l = true
 chk:V.chk (V.rgK k r hx hy hz l) (V.rgR r) (V.rgH hx) (V.rgH hy) (V.rgH hz) (V.rgP k r hx hy hz l) = 0
 p0:0 < (V.corP (V.rgK k r hx hy hz l) (V.rgR r) (V.rgH hx) (V.rgH hy) (V.rgH hz) (V.rgP k r hx hy hz l)).length
 p1:(V.corP (V.rgK k r hx hy hz l) (V.rgR r) (V.rgH hx) (V.rgH hy) (V.rgH hz) (V.rgP k r hx hy hz l)).length ≤ 12
 p2:∀ p ∈ V.corP (V.rgK k r hx hy hz l) (V.rgR r) (V.rgH hx) (V.rgH hy) (V.rgH hz) (V.rgP k r hx hy hz l),Sm p 65536
 a0:∀ p ∈ V.corA (V.rgK k r hx hy hz l) (V.rgR r) (V.rgH hx) (V.rgH hy) (V.rgH hz) (V.rgP k r hx hy hz l),Neat p
 a1:(V.corA (V.rgK k r hx hy hz l) (V.rgR r) (V.rgH hx) (V.rgH hy) (V.rgH hz) (V.rgP k r hx hy hz l)).length ≤ 7000
 e0:∀ p ∈ V.corE (V.rgK k r hx hy hz l) (V.rgR r) (V.rgH hx) (V.rgH hy) (V.rgH hz) (V.rgP k r hx hy hz l),Neat p
 e1:(V.corE (V.rgK k r hx hy hz l) (V.rgR r) (V.rgH hx) (V.rgH hy) (V.rgH hz) (V.rgP k r hx hy hz l)).length ≤ 7000
 r0:0 ≤ V.corR (V.rgK k r hx hy hz l) (V.rgR r) (V.rgH hx) (V.rgH hy) (V.rgH hz) (V.rgP k r hx hy hz l) ∧ V.corR (V.rgK k r hx hy hz l) (V.rgR r) (V.rgH hx) (V.rgH hy) (V.rgH hz) (V.rgP k r hx hy hz l) ≤ 16384
theorem core_facts {k r hx hy hz:Int} {l:List P3} (g1:-9223372036854775808 ≤ k ∧ k < 9223372036854775808) (g2:-9223372036854775808 ≤ r ∧ r < 9223372036854775808) (g3:-9223372036854775808 ≤ hx ∧ hx < 9223372036854775808) (g4:-9223372036854775808 ≤ hy ∧ hy < 9223372036854775808) (g5:-9223372036854775808 ≤ hz ∧ hz < 9223372036854775808)
   (gl:l.length < 9223372036854775808) (gp:∀ x ∈ l,(RT.good (.i .i64) [.i .i64,.i .i64]) x):CF k r hx hy hz l := by
 have hG:V.rgG k r hx hy hz l = true := gB_of ⟨⟨g1,g2,g3,g4,g5⟩,gl,fun p hp => good_rp (gp p hp)⟩
 have ok1 := right_ok (l := l) g1 g2 g3 g4 g5
 have hc:chkP (V.rgK k r hx hy hz l) (V.rgR r) (V.rgH hx) (V.rgH hy) (V.rgH hz) (V.rgP k r hx hy hz l) = 0 := by
   simp only [V.rgK,V.rgR,V.rgH,V.rgP,hid_eq]; exact ok1
 have hchk:V.chk (V.rgK k r hx hy hz l) (V.rgR r) (V.rgH hx) (V.rgH hy) (V.rgH hz) (V.rgP k r hx hy hz l) = 0 := (hid_eq _).trans hc
 obtain ⟨p1,p2,p3⟩ := corPP_pos hc
 obtain ⟨t1,t2,t3⟩ := core_tidy hc
 obtain ⟨c2,c3⟩ := corLen3 (V.rgK k r hx hy hz l) (V.rgR r) (V.rgH hx) (V.rgH hy) (V.rgH hz) (V.rgP k r hx hy hz l)
 have eP:V.corP (V.rgK k r hx hy hz l) (V.rgR r) (V.rgH hx) (V.rgH hy) (V.rgH hz) (V.rgP k r hx hy hz l) = corPP (V.rgK k r hx hy hz l) (V.rgH hx) (V.rgH hy) (V.rgH hz) (V.rgP k r hx hy hz l) := by unfold V.corP; rw [hid_eq,if_pos hc]
 have eA:V.corA (V.rgK k r hx hy hz l) (V.rgR r) (V.rgH hx) (V.rgH hy) (V.rgH hz) (V.rgP k r hx hy hz l) = corAP (V.rgK k r hx hy hz l) (V.rgP k r hx hy hz l) := by unfold V.corA; rw [hid_eq,if_pos hc]
 have eE:V.corE (V.rgK k r hx hy hz l) (V.rgR r) (V.rgH hx) (V.rgH hy) (V.rgH hz) (V.rgP k r hx hy hz l) = corEP (V.rgK k r hx hy hz l) (V.rgP k r hx hy hz l) := by unfold V.corE; rw [hid_eq,if_pos hc]
 have eR:V.corR (V.rgK k r hx hy hz l) (V.rgR r) (V.rgH hx) (V.rgH hy) (V.rgH hz) (V.rgP k r hx hy hz l) = V.rgR r := by unfold V.corR; rw [hid_eq,if_pos hc]
 have hr := rad_val g2
 refine ⟨hG,hchk,by rw [eP]; exact p1,by rw [eP]; exact p2,by rw [eP]; exact p3,by rw [eA]; exact t2,c2,by rw [eE]; exact t3.neat,c3,?_⟩
 rw [eR]; unfold V.rgR; rw [hid_eq]; omega
end
section
open Go
set_option maxRecDepth 20000
noncomputable abbrev dhas_S1 (y1:Value) (y2:L3) (y3:Bool) (y4 y5 y6 y7:Int):St := St.mk (some (SV.ros y1 kP y2) :: none :: some (SV.bool y3) :: none :: some (SV.ptr (nat_lit 0) (nat_lit 0)) :: none :: none :: some (SV.int .i64 y4) :: nn 32 ([])) [.cells [SV.int .i64 y5,SV.int .i64 y6,SV.int .i64 y7] (nat_lit 23)]
noncomputable abbrev dhas_S2:St := St.mk (some (SV.ros undef kP []) :: none :: some (SV.bool false) :: none :: some (SV.ptr (nat_lit 0) (nat_lit 0)) :: none :: none :: some (SV.int .i64 (0:Int)) :: nn 32 ([])) [.cells [SV.int .i64 (0:Int),SV.int .i64 (0:Int),SV.int .i64 (0:Int)] (nat_lit 23)]
noncomputable def M.dhas_l0_step {α:Type} (x9:L3) (x10:Bool) (x12 x13 x14:Int) (kn:Int → Option α) (k0:Option α) (k2:Option α) (x11:Int):Option α := if cLt x11 (↑(List.length x9):Int) = true then if (0:Int) ≤ x11 ∧ x11 < (↑(List.length x9):Int) then if (cEq (Prod.fst (List.getD x9 (Int.toNat x11) ((0:Int),(0:Int),(0:Int)))) x12 && (cEq (Prod.fst (Prod.snd (List.getD x9 (Int.toNat x11) ((0:Int),(0:Int),(0:Int))))) x13 && (cEq (Prod.snd (Prod.snd (List.getD x9 (Int.toNat x11) ((0:Int),(0:Int),(0:Int))))) x14 && true))) = true then k0 else if x10 = true then if (0:Int) ≤ x11 ∧ x11 < (↑(List.length x9):Int) then if (cEq (Prod.fst (List.getD x9 (Int.toNat x11) ((0:Int),(0:Int),(0:Int)))) (IntKind.wrap .i64 ((0:Int) - x12)) && (cEq (Prod.fst (Prod.snd (List.getD x9 (Int.toNat x11) ((0:Int),(0:Int),(0:Int))))) (IntKind.wrap .i64 ((0:Int) - x13)) && (cEq (Prod.snd (Prod.snd (List.getD x9 (Int.toNat x11) ((0:Int),(0:Int),(0:Int))))) (IntKind.wrap .i64 ((0:Int) - x14)) && true))) = true then k0 else kn (IntKind.wrap .i64 (x11 + (1:Int))) else none else kn (IntKind.wrap .i64 (x11 + (1:Int))) else none else k2
noncomputable def M.dhas_l0 {α:Type} (x9:L3) (x10:Bool) (x12 x13 x14:Int) (k0:Option α) (k2:Option α):Nat → Int → Option α
 | 0,_ => none
 | n + 1,x11 => M.dhas_l0_step x9 x10 x12 x13 x14 (M.dhas_l0 x9 x10 x12 x13 x14 k0 k2 n) k0 k2 x11
theorem dhas_l0_step_eq {α:Type} (x8:Value) (x9:L3) (x10:Bool) (x11 x12 x13 x14:Int) (Q:Ex → St → Option α):(loopStep E (exec E look_right noLps 400) 33 [false,true,false,true] 0 (codeAt E.P 33 [false,true,false,true])) (dhas_S1 x8 x9 x10 x11 x12 x13 x14) Q = M.dhas_l0_step x9 x10 x12 x13 x14 (fun (x15:Int) => Q .normal (dhas_S1 x8 x9 x10 x15 x12 x13 x14)) (Q .ret (St.mk (nn 6 (some (SV.bool true) :: nn 33 ([]))) [])) (Q (.exit 0) (St.mk (nn 40 ([])) [])) x11 := by kernel_rfl
theorem dhas_l0_iter {α:Type} (x8:Value) (x9:L3) (x10:Bool) (x12 x13 x14:Int) (Q:Ex → St → Option α):∀ (n:Nat) (x11:Int),iter (loopStep E (exec E look_right noLps 400) 33 [false,true,false,true] 0 (codeAt E.P 33 [false,true,false,true])) n (dhas_S1 x8 x9 x10 x11 x12 x13 x14) Q = M.dhas_l0 x9 x10 x12 x13 x14 (Q .ret (St.mk (nn 6 (some (SV.bool true) :: nn 33 ([]))) [])) (Q (.exit 0) (St.mk (nn 40 ([])) [])) n x11
 | 0,_ => rfl
 | n + 1,x11 => (dhas_l0_step_eq x8 x9 x10 x11 x12 x13 x14 (iterK (loopStep E (exec E look_right noLps 400) 33 [false,true,false,true] 0 (codeAt E.P 33 [false,true,false,true])) n Q)).trans (congrArg (fun kn => M.dhas_l0_step x9 x10 x12 x13 x14 kn (Q .ret (St.mk (nn 6 (some (SV.bool true) :: nn 33 ([]))) [])) (Q (.exit 0) (St.mk (nn 40 ([])) [])) x11) (funext fun x11 => dhas_l0_iter x8 x9 x10 x12 x13 x14 Q n x11))
noncomputable def dhas_l0_go {α:Type} (ds:List D) (Q:Ex → St → Option α):Option α :=
 dV ds fun x8 ds => dL kP ds fun x9 ds => dB ds fun x10 ds => dI ds fun x11 ds => dI ds fun x12 ds => dI ds fun x13 ds => dI ds fun x14 ds => dE ds (M.dhas_l0 x9 x10 x12 x13 x14 (Q .ret (St.mk (nn 6 (some (SV.bool true) :: nn 33 ([]))) [])) (Q (.exit 0) (St.mk (nn 40 ([])) [])) (100 + x9.length) x11)
theorem dhas_l0_ok {α:Type}:LoopOk E.P 33 [false,true,false,true] 0 (lEnt (α := α) (dhas_S2) dhas_l0_go) :=
 lEnt_ok E (exec_sound E E_ok (look_right_ok) (noLps_ok _) 400) fun ds Q r h S hS => by
   unfold dhas_l0_go at h
   obtain ⟨x8,ds,rfl,h1⟩ := dV_inv h
   obtain ⟨x9,ds,rfl,h2⟩ := dL_inv h1
   obtain ⟨x10,ds,rfl,h3⟩ := dB_inv h2
   obtain ⟨x11,ds,rfl,h4⟩ := dI_inv h3
   obtain ⟨x12,ds,rfl,h5⟩ := dI_inv h4
   obtain ⟨x13,ds,rfl,h6⟩ := dI_inv h5
   obtain ⟨x14,ds,rfl,h7⟩ := dI_inv h6
   obtain ⟨rfl,hE⟩ := dE_inv h7
   have e:fillS (dhas_S2) [.v x8,.l kP x9,.b x10,.i x11,.i x12,.i x13,.i x14] = some (dhas_S1 x8 x9 x10 x11 x12 x13 x14) := by kernel_rfl
   rw [e] at hS
   cases hS
   exact ⟨_,(dhas_l0_iter x8 x9 x10 x12 x13 x14 Q _ x11).trans hE⟩
noncomputable def dhas_l0_lps {α:Type}:LookL α := addLp 33 [false,true,false,true] 0 (lEnt (dhas_S2) dhas_l0_go) noLps
theorem dhas_l0_lps_ok {α:Type}:LoopsOk E.P (dhas_l0_lps (α := α)) := addLp_ok dhas_l0_ok (noLps_ok _)
noncomputable def M.dhas {α:Type} (l:L3) (x:Int) (y:Int) (z:Int) (both:Bool) (k0:Bool → Option α):Option α := M.dhas_l0 l both x y z (k0 true) (k0 false) ((100:Nat) + List.length l) (0:Int)
theorem dhas_eq {α:Type} (l:L3) (x:Int) (y:Int) (z:Int) (both:Bool) (v16:Value) (Q:SV → Hp → Option α):callI E look_right (exec E look_right dhas_l0_lps 400) 33 ([SV.ros v16 kP l,SV.agg [SV.int .i64 x,SV.int .i64 y,SV.int .i64 z],SV.bool both]) ([]) Q = M.dhas l x y z both (fun (x17:Bool) => Q (SV.bool x17) ([])) := by kernel_rfl
def dhas_sp:List AS := [.ro kP,.val (.agg [.int .i64 0,.int .i64 0,.int .i64 0]),.val (.bool false)]
noncomputable def _root_.Go.Proofs.YtlagndfhibkjpaaGreat.V.has2 (l:List P3) (p:P3) (both:Bool):Bool := V.hasP l p || (both && V.hasP l (negP p))
theorem dhas_v {α:Type} (l:List P3) (x y z:Int) (both:Bool) (hg:V.lenB l.length = true) (k0:Bool → Option α):M.dhas l x y z both k0 = k0 (V.has2 l (x,y,z) both) := by
 have hl := lenB_lt hg
 unfold M.dhas
 have h := scan (fun f i => M.dhas_l0 l both x y z (k0 true) (k0 false) f i) l.length (fun i => pt l i = (x,y,z) ∨ (both = true ∧ pt l i = negP (x,y,z))) (k0 true) (k0 false) ?_ ?_ (100 + l.length) 0 (by omega) (by omega)
 · refine Eq.trans h ?_
   have e:exB (∃ j,0 ≤ j ∧ j < l.length ∧ (pt l j = (x,y,z) ∨ (both = true ∧ pt l j = negP (x,y,z)))) = V.has2 l (x,y,z) both := by
     rw [Bool.eq_iff_iff,exB_iff]
     unfold V.has2 V.hasP
     simp only [Bool.or_eq_true,Bool.and_eq_true,decide_eq_true_eq]
     constructor
     · rintro ⟨j, _, hj, h | ⟨h1, h2⟩⟩
       · exact .inl (h ▸ pt_mem l j hj)
       · exact .inr ⟨h1,h2 ▸ pt_mem l j hj⟩
     · rintro (h | ⟨h1, h2⟩)
       · obtain ⟨j, hj, e⟩ := pt_of_mem h
         exact ⟨j,Nat.zero_le _,hj,.inl e⟩
       · obtain ⟨j, hj, e⟩ := pt_of_mem h2
         exact ⟨j,Nat.zero_le _,hj,.inr ⟨h1,e⟩⟩
   rw [e]
   cases V.has2 l (x,y,z) both <;> rfl
 · intro f i hi
   show M.dhas_l0_step _ _ _ _ _ _ _ _ _ = _
   unfold M.dhas_l0_step
   have a:(0:Int) ≤ (i:Int) ∧ (i:Int) < (l.length:Int) := by omega
   have e1:∀ x y z:Int,(cEq (l.getD (Int.toNat (i:Int)) (0,0,0)).1 x && (cEq (l.getD (Int.toNat (i:Int)) (0,0,0)).2.1 y && (cEq (l.getD (Int.toNat (i:Int)) (0,0,0)).2.2 z && true))) = decide (pt l i = (x,y,z)) := fun x y z => eq3 _ _ _ (x,y,z)
   rw [cLt_nat,if_pos (by simpa using hi),w_next (by omega)]
   simp only [if_pos a,e1]
   have en:((IntKind.wrap .i64 (0 - x),IntKind.wrap .i64 (0 - y),IntKind.wrap .i64 (0 - z)):P3) = negP (x,y,z) := rfl
   rw [en]
   by_cases c1:pt l i = (x,y,z)
   · rw [exB_true (.inl c1)]; simp [c1]
   · by_cases c2 : both = true ∧ pt l i = negP (x, y, z)
     · rw [exB_true (.inr c2)]; simp [c1,c2.1,c2.2]
     · rw [exB_false (fun h => h.elim c1 c2)]
       cases both with
       | false => simp [c1]
       | true =>
         have c3:¬ pt l i = negP (x,y,z) := fun h => c2 ⟨rfl,h⟩
         simp [c1,c3]
 · intro f
   show M.dhas_l0_step _ _ _ _ _ _ _ _ _ = _
   unfold M.dhas_l0_step
   rw [cLt_nat,if_neg (by simp)]
noncomputable def dhas_h {α:Type} (ds:List D) (Q:SV → Hp → Option α):Option α :=
 dL kP ds fun l ds => dI ds fun x ds => dI ds fun y ds => dI ds fun z ds => dB ds fun both ds => dE ds (if V.lenB l.length = true then Q (.bool (V.has2 l (x,y,z) both)) ([]) else none)
theorem dhas_h_ok {α:Type}:FnOk E.P 33 (fEnt (α := α) dhas_sp dhas_h) :=
 fEntR_ok E (look_right_ok) (exec_sound E E_ok (look_right_ok) (dhas_l0_lps_ok) 400) fun ds Q r h => by
   unfold dhas_h at h
   obtain ⟨l,ds,rfl,h1⟩ := dL_inv h
   obtain ⟨x,ds,rfl,h2⟩ := dI_inv h1
   obtain ⟨y,ds,rfl,h3⟩ := dI_inv h2
   obtain ⟨z,ds,rfl,h4⟩ := dI_inv h3
   obtain ⟨both,ds,rfl,h5⟩ := dB_inv h4
   obtain ⟨rfl,hE⟩ := dE_inv h5
   split at hE
   · rename_i hg
     exact ⟨_,_,hE,fun vs => ⟨_,_,by kernel_rfl,(dhas_eq l x y z both (vs.headD undef) _).trans (dhas_v l x y z both hg _)⟩⟩
   · cases hE
noncomputable def look_dhas {α:Type}:LookF α := addFn 33 (fEnt dhas_sp dhas_h) look_right
theorem look_dhas_ok {α:Type}:LookOk E.P (look_dhas (α := α)) := addFn_ok dhas_h_ok (look_right_ok)
noncomputable abbrev dside_S1 (y1:Value) (y2:L3) (y3 y4 y5 y6 y7 y8 y9 y10 y11:Int):St := St.mk (some (SV.ros y1 kP y2) :: nn 3 (some (SV.ptr (nat_lit 0) (nat_lit 0)) :: some (SV.ptr (nat_lit 1) (nat_lit 0)) :: none :: some (SV.int .i64 y3) :: some (SV.int .i64 y4) :: some (SV.int .i64 y5) :: nn 25 ([]))) [.cells [SV.int .i64 y6,SV.int .i64 y7,SV.int .i64 y8] (nat_lit 23),.cells [SV.int .i64 y9,SV.int .i64 y10,SV.int .i64 y11] (nat_lit 23)]
noncomputable abbrev dside_S2:St := St.mk (some (SV.ros undef kP []) :: nn 3 (some (SV.ptr (nat_lit 0) (nat_lit 0)) :: some (SV.ptr (nat_lit 1) (nat_lit 0)) :: none :: some (SV.int .i64 (0:Int)) :: some (SV.int .i64 (0:Int)) :: some (SV.int .i64 (0:Int)) :: nn 25 ([]))) [.cells [SV.int .i64 (0:Int),SV.int .i64 (0:Int),SV.int .i64 (0:Int)] (nat_lit 23),.cells [SV.int .i64 (0:Int),SV.int .i64 (0:Int),SV.int .i64 (0:Int)] (nat_lit 23)]
abbrev dside_P1:List Bool := [false,true,false,true,true,true]
noncomputable def M.dside_l0_step {α:Type} (x31:L3) (x35 x36 x37 x38 x39 x40:Int) (kn:Int → Int → Int → Option α) (k1:Int → Int → Option α) (x32 x33 x34:Int):Option α := if cLt x34 (↑(List.length x31):Int) = true then if (0:Int) ≤ x34 ∧ x34 < (↑(List.length x31):Int) then kn (if V.pDot (x35,x36,x37) (V.pSub (List.getD x31 (Int.toNat x34) ((0:Int),(0:Int),(0:Int))) (x38,x39,x40)) < x32 then V.pDot (x35,x36,x37) (V.pSub (List.getD x31 (Int.toNat x34) ((0:Int),(0:Int),(0:Int))) (x38,x39,x40)) else x32) (if V.pDot (x35,x36,x37) (V.pSub (List.getD x31 (Int.toNat x34) ((0:Int),(0:Int),(0:Int))) (x38,x39,x40)) > x33 then V.pDot (x35,x36,x37) (V.pSub (List.getD x31 (Int.toNat x34) ((0:Int),(0:Int),(0:Int))) (x38,x39,x40)) else x33) (IntKind.wrap .i64 (x34 + (1:Int))) else none else k1 x32 x33
noncomputable def M.dside_l0 {α:Type} (x31:L3) (x35 x36 x37 x38 x39 x40:Int) (k1:Int → Int → Option α):Nat → Int → Int → Int → Option α
 | 0,_,_,_ => none
 | n + 1,x32,x33,x34 => M.dside_l0_step x31 x35 x36 x37 x38 x39 x40 (M.dside_l0 x31 x35 x36 x37 x38 x39 x40 k1 n) k1 x32 x33 x34
theorem dside_l0_step_eq {α:Type} (x30:Value) (x31:L3) (x32 x33 x34 x35 x36 x37 x38 x39 x40:Int) (Q:Ex → St → Option α):(loopStep E (exec E look_dhas noLps 400) 31 dside_P1 0 (codeAt E.P 31 dside_P1)) (dside_S1 x30 x31 x32 x33 x34 x35 x36 x37 x38 x39 x40) Q = M.dside_l0_step x31 x35 x36 x37 x38 x39 x40 (fun (x43 x44 x45:Int) => Q .normal (dside_S1 x30 x31 x43 x44 x45 x35 x36 x37 x38 x39 x40)) (fun (x41 x42:Int) => Q (.exit 0) (St.mk (nn 7 (some (SV.int .i64 x41) :: some (SV.int .i64 x42) :: nn 26 ([]))) [])) x32 x33 x34 := by kernel_rfl
theorem dside_l0_iter {α:Type} (x30:Value) (x31:L3) (x35 x36 x37 x38 x39 x40:Int) (Q:Ex → St → Option α):∀ (n:Nat) (x32 x33 x34:Int),iter (loopStep E (exec E look_dhas noLps 400) 31 dside_P1 0 (codeAt E.P 31 dside_P1)) n (dside_S1 x30 x31 x32 x33 x34 x35 x36 x37 x38 x39 x40) Q = M.dside_l0 x31 x35 x36 x37 x38 x39 x40 (fun (x41 x42:Int) => Q (.exit 0) (St.mk (nn 7 (some (SV.int .i64 x41) :: some (SV.int .i64 x42) :: nn 26 ([]))) [])) n x32 x33 x34
 | 0,_,_,_ => rfl
 | n + 1,x32,x33,x34 => (dside_l0_step_eq x30 x31 x32 x33 x34 x35 x36 x37 x38 x39 x40 (iterK (loopStep E (exec E look_dhas noLps 400) 31 dside_P1 0 (codeAt E.P 31 dside_P1)) n Q)).trans (congrArg (fun kn => M.dside_l0_step x31 x35 x36 x37 x38 x39 x40 kn (fun (x41 x42:Int) => Q (.exit 0) (St.mk (nn 7 (some (SV.int .i64 x41) :: some (SV.int .i64 x42) :: nn 26 ([]))) [])) x32 x33 x34) (funext fun x32 => funext fun x33 => funext fun x34 => dside_l0_iter x30 x31 x35 x36 x37 x38 x39 x40 Q n x32 x33 x34))
noncomputable def dside_l0_go {α:Type} (ds:List D) (Q:Ex → St → Option α):Option α :=
 dV ds fun x30 ds => dL kP ds fun x31 ds => dI ds fun x32 ds => dI ds fun x33 ds => dI ds fun x34 ds => dI ds fun x35 ds => dI ds fun x36 ds => dI ds fun x37 ds => dI ds fun x38 ds => dI ds fun x39 ds => dI ds fun x40 ds => dE ds (M.dside_l0 x31 x35 x36 x37 x38 x39 x40 (fun (x41 x42:Int) => Q (.exit 0) (St.mk (nn 7 (some (SV.int .i64 x41) :: some (SV.int .i64 x42) :: nn 26 ([]))) [])) (100 + x31.length) x32 x33 x34)
theorem dside_l0_ok {α:Type}:LoopOk E.P 31 dside_P1 0 (lEnt (α := α) (dside_S2) dside_l0_go) :=
 lEnt_ok E (exec_sound E E_ok (look_dhas_ok) (noLps_ok _) 400) fun ds Q r h S hS => by
   unfold dside_l0_go at h
   obtain ⟨x30,ds,rfl,h1⟩ := dV_inv h
   obtain ⟨x31,ds,rfl,h2⟩ := dL_inv h1
   obtain ⟨x32,ds,rfl,h3⟩ := dI_inv h2
   obtain ⟨x33,ds,rfl,h4⟩ := dI_inv h3
   obtain ⟨x34,ds,rfl,h5⟩ := dI_inv h4
   obtain ⟨x35,ds,rfl,h6⟩ := dI_inv h5
   obtain ⟨x36,ds,rfl,h7⟩ := dI_inv h6
   obtain ⟨x37,ds,rfl,h8⟩ := dI_inv h7
   obtain ⟨x38,ds,rfl,h9⟩ := dI_inv h8
   obtain ⟨x39,ds,rfl,h10⟩ := dI_inv h9
   obtain ⟨x40,ds,rfl,h11⟩ := dI_inv h10
   obtain ⟨rfl,hE⟩ := dE_inv h11
   have e:fillS (dside_S2) [.v x30,.l kP x31,.i x32,.i x33,.i x34,.i x35,.i x36,.i x37,.i x38,.i x39,.i x40] = some (dside_S1 x30 x31 x32 x33 x34 x35 x36 x37 x38 x39 x40) := by kernel_rfl
   rw [e] at hS
   cases hS
   exact ⟨_,(dside_l0_iter x30 x31 x35 x36 x37 x38 x39 x40 Q _ x32 x33 x34).trans hE⟩
noncomputable def dside_l0_lps {α:Type}:LookL α := addLp 31 dside_P1 0 (lEnt (dside_S2) dside_l0_go) noLps
theorem dside_l0_lps_ok {α:Type}:LoopsOk E.P (dside_l0_lps (α := α)) := addLp_ok dside_l0_ok (noLps_ok _)
noncomputable def M.dside {α:Type} (l:L3) (nx:Int) (ny:Int) (nz:Int) (ax:Int) (ay:Int) (az:Int) (k0:Int → Option α):Option α := M.dside_l0 l nx ny nz ax ay az (fun (x47 x48:Int) ↦ if cLe x48 (0:Int) = true then k0 (1:Int) else if cLe (0:Int) x47 = true then k0 (-1:Int) else k0 (0:Int)) ((100:Nat) + List.length l) (0:Int) (0:Int) (0:Int)
theorem dside_eq {α:Type} (l:L3) (nx:Int) (ny:Int) (nz:Int) (ax:Int) (ay:Int) (az:Int) (v46:Value) (Q:SV → Hp → Option α):callI E look_dhas (exec E look_dhas dside_l0_lps 400) 31 ([SV.ros v46 kP l,SV.agg [SV.int .i64 nx,SV.int .i64 ny,SV.int .i64 nz],SV.agg [SV.int .i64 ax,SV.int .i64 ay,SV.int .i64 az]]) ([]) Q = M.dside l nx ny nz ax ay az (fun (x49:Int) => Q (SV.int .i64 x49) ([])) := by kernel_rfl
def dside_sp:List AS := [.ro kP,.val (.agg [.int .i64 0,.int .i64 0,.int .i64 0]),.val (.agg [.int .i64 0,.int .i64 0,.int .i64 0])]
theorem dside_l0_val {α:Type} (l:List P3) (hl:l.length < 1099511627776) (n a:P3) (k1:Int → Int → Option α):∀ (fuel i:Nat) (lo hi:Int),i ≤ l.length → l.length - i < fuel →
   M.dside_l0 l n.1 n.2.1 n.2.2 a.1 a.2.1 a.2.2 k1 fuel lo hi (i:Int) = k1 (minF n a (l.drop i) lo) (maxF n a (l.drop i) hi)
 | 0,i,lo,hi,h1,h2 => by omega
 | f + 1,i,lo,hi,h1,h2 => by
   unfold M.dside_l0 M.dside_l0_step
   rw [cLt_nat]
   by_cases hx:i < l.length
   · rw [w_next (by omega), dside_l0_val l hl n a k1 f (i + 1) _ _ (by omega) (by omega)]
     simp only [hx,decide_true,if_true,inB hx,toNat_nat]
     rw [drop_pt l i hx]
     rfl
   · have : i = l.length := by omega
     subst this
     simp [minF,maxF]
theorem dside_v {α:Type} (l:List P3) (nx ny nz ax ay az:Int) (hg:V.lenB l.length = true) (k0:Int → Option α):M.dside l nx ny nz ax ay az k0 = k0 (V.sideP l (nx,ny,nz) (ax,ay,az)) := by
 unfold M.dside V.sideP
 have := dside_l0_val l (lenB_lt hg) (nx,ny,nz) (ax,ay,az) (fun (x53 x54:Int) => if cLe x54 (0:Int) = true then k0 (1:Int) else if cLe (0:Int) x53 = true then k0 (-1:Int) else k0 (0:Int)) (100 + l.length) 0 0 0 (by omega) (by omega)
 simp only at this
 refine this.trans ?_
 simp only [cLe_eq,decide_eq_true_eq,minF_ge,maxF_le,Int.le_refl,true_and,List.drop_zero]
 split
 · rfl
 · split <;> rfl
noncomputable def dside_h {α:Type} (ds:List D) (Q:SV → Hp → Option α):Option α :=
 dL kP ds fun l ds => dI ds fun nx ds => dI ds fun ny ds => dI ds fun nz ds => dI ds fun ax ds => dI ds fun ay ds => dI ds fun az ds => dE ds (if V.lenB l.length = true then Q (.int .i64 (V.sideP l (nx,ny,nz) (ax,ay,az))) ([]) else none)
theorem dside_h_ok {α:Type}:FnOk E.P 31 (fEnt (α := α) dside_sp dside_h) :=
 fEntR_ok E (look_dhas_ok) (exec_sound E E_ok (look_dhas_ok) (dside_l0_lps_ok) 400) fun ds Q r h => by
   unfold dside_h at h
   obtain ⟨l,ds,rfl,h1⟩ := dL_inv h
   obtain ⟨nx,ds,rfl,h2⟩ := dI_inv h1
   obtain ⟨ny,ds,rfl,h3⟩ := dI_inv h2
   obtain ⟨nz,ds,rfl,h4⟩ := dI_inv h3
   obtain ⟨ax,ds,rfl,h5⟩ := dI_inv h4
   obtain ⟨ay,ds,rfl,h6⟩ := dI_inv h5
   obtain ⟨az,ds,rfl,h7⟩ := dI_inv h6
   obtain ⟨rfl,hE⟩ := dE_inv h7
   split at hE
   · rename_i hg
     exact ⟨_,_,hE,fun vs => ⟨_,_,by kernel_rfl,(dside_eq l nx ny nz ax ay az (vs.headD undef) _).trans (dside_v l nx ny nz ax ay az hg _)⟩⟩
   · cases hE
noncomputable def look_dside {α:Type}:LookF α := addFn 31 (fEnt dside_sp dside_h) look_dhas
theorem look_dside_ok {α:Type}:LookOk E.P (look_dside (α := α)) := addFn_ok dside_h_ok (look_dhas_ok)
end
end Go.Proofs.YtlagndfhibkjpaaGreat.Sx
