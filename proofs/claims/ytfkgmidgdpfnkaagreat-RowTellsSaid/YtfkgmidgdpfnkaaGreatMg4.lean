/- Texts of the walk, merged. -/
import Derived.Test.YtfkgmidgdpfnkaaGreatMg3
import Derived.RangeFuncRecord
import Derived.OrdersIn
import Derived.TacticsIn
set_option linter.unusedVariables false
set_option linter.unusedSimpArgs false
namespace Go.Proofs.YtfkgmidgdpfnkaaGreat.Sx
section
open Go Go.RowKit
theorem RosOk0.world {R:Nat → Prop} {w w':World} (h:∀ b,R b → w'.heap[b]? = w.heap[b]?) {v:Value} {κ:K} {xs:List κ.T} (hr:RosOk0 R w v κ xs):RosOk0 R w' v κ xs := by
 rcases hr with h0 | ⟨ad,cap,e,hl,hs,hR,hc⟩
 · exact .inl h0
 · refine .inr ⟨ad, cap, e, hl, hs, hR, fun j c hj => ?_⟩
   rw [World.cell?_of_block (w := w) (a := ⟨ad.block,_,none⟩) (h ad.block hR)]; exact hc j c hj
theorem LK.okT_world {R:Nat → Prop} {w w':World} (h:∀ b,R b → w'.heap[b]? = w.heap[b]?) (k:LK) (x:k.T) (hx:k.okT R w x):k.okT R w' x := by
 cases k with
 | p => exact RosOk0.world (κ := kP) (v := slV x.1) (xs := x.2) h hx
 | _ => trivial
theorem RT.okT_world {R:Nat → Prop} {w w':World} (h:∀ b,R b → w'.heap[b]? = w.heap[b]?):∀ (k:LK) (ks:List LK) (x:RT k ks),RT.okT R w k ks x → RT.okT R w' k ks x
 | k,[],x,hx => LK.okT_world h k x hx
 | k,k' :: ks,x,hx => ⟨LK.okT_world h k x.1 hx.1,RT.okT_world h k' ks x.2 hx.2⟩
theorem InOk.world {R:Nat → Prop} {w w':World} (h:∀ b,R b → w'.heap[b]? = w.heap[b]?) {κ:K} {xs:List κ.T} (hr:InOk R w κ xs):InOk R w' κ xs := fun x hx => by
 have := hr x hx
 cases κ with
 | st k ks => exact RT.okT_world h k ks x this
 | _ => trivial
theorem RosOk.world {R:Nat → Prop} {w w':World} (h:∀ b,R b → w'.heap[b]? = w.heap[b]?) {v:Value} {κ:K} {xs:List κ.T} (hr:RosOk R w v κ xs):RosOk R w' v κ xs := ⟨hr.1.world h,hr.2.world h⟩
mutual
theorem ok_world {R:Nat → Prop} {w w':World} {ρ:Nat → Tk} {n:Nat} (h:∀ b,R b → w'.heap[b]? = w.heap[b]?):∀ (v:SV),v.ok R w ρ n → v.ok R w' ρ n
 | .ptr _ _,hv => by simp only [SV.ok] at hv ⊢; exact hv
 | .aix _ _ _ _ _,hv => by simp only [SV.ok] at hv ⊢; exact hv
 | .pix _ _ _ _,hv => by simp only [SV.ok] at hv ⊢; exact hv
 | .sub _ _ _ _,hv => by simp only [SV.ok] at hv ⊢; exact hv
 | .clp _ _ _,hv => by simp only [SV.ok] at hv ⊢; exact hv
 | .yld _,hv => by simp only [SV.ok] at hv ⊢; exact hv
 | .sl _,hv => by simp only [SV.ok] at hv ⊢; exact hv
 | .rix _ _ _ _ _,hv => by simp only [SV.ok] at hv ⊢; exact ⟨hv.1.world h,hv.2⟩
 | .ros _ _ _,hv => by simp only [SV.ok] at hv ⊢; exact hv.world h
 | .fn _ a b,hv => by simp only [SV.ok] at hv ⊢; exact ⟨okL_world h a hv.1,okL_world h b hv.2⟩
 | .raw _,hv => by simp only [SV.ok] at hv ⊢; exact hv
 | .arr _ _ _,hv => by simp only [SV.ok] at hv ⊢; exact ⟨hv.1,hv.2.world h⟩
 | .agg l,hv => by simp only [SV.ok] at hv ⊢; exact okL_world h l hv
 | .tup l,hv => by simp only [SV.ok] at hv ⊢; exact okL_world h l hv
 | .int _ _,_ => by simp only [SV.ok]
 | .bool _,_ => by simp only [SV.ok]
theorem okL_world {R:Nat → Prop} {w w':World} {ρ:Nat → Tk} {n:Nat} (h:∀ b,R b → w'.heap[b]? = w.heap[b]?):∀ (l:List SV),SV.okL R w ρ n l → SV.okL R w' ρ n l
 | [],_ => by simp only [SV.okL]
 | x :: l,hv => by simp only [SV.okL] at hv ⊢; exact ⟨ok_world h x hv.1,okL_world h l hv.2⟩
end
theorem SObj.ok_world {R:Nat → Prop} {w w':World} {ρ:Nat → Tk} {n:Nat} (h:∀ b,R b → w'.heap[b]? = w.heap[b]?) {o:SObj} (ho:o.ok R w ρ n):o.ok R w' ρ n := by
 cases o with
 | cells l T => exact ⟨okL_world h l ho.1,ho.2⟩
 | lp f p F st => exact fun i v hv => Sx.ok_world h v (ho i v hv)
 | seq κ xs E => exact InOk.world h ho
 | dead => trivial
theorem Rel.roKeep {C:Cx} {ρ:Nat → Tk} {H:Hp} {w:World} (h:Rel C ρ H w):∀ b,C.R b → w.heap[b]? = C.w1.heap[b]? := fun b hb => h.keep b (h.fit.ro b hb).1 (h.fit.ro b hb).2
def Cx.all (C:Cx) (ρ:Nat → Tk) (H:Hp) (w:World):Cx := { R := C.R,w1 := w,Own := fun b => w.heap.size ≤ b ∨ ∃ t,blkOf ρ H t = some b }
theorem Rel.into {C:Cx} {ρ:Nat → Tk} {H:Hp} {w:World} (h:Rel C ρ H w):Rel (C.all ρ H w) ρ H w :=
 ⟨h.obj,h.sep,fun t b hb => .inr ⟨t,hb⟩,h.hdr,fun _ _ _ => rfl,Nat.le_refl _,rfl,rfl,rfl,fun t o ho => SObj.ok_world h.roKeep (h.ok t o ho),⟨fun b hb => .inl hb,fun b hr => by
   have hlt:b < w.heap.size := Nat.lt_of_lt_of_le (h.fit.ro b hr).1 h.size
   refine ⟨hlt,fun hc => ?_⟩
   rcases hc with hc | ⟨t,ht⟩
   · exact absurd hlt (Nat.not_lt.2 hc)
   · exact (h.fit.ro b hr).2 (h.own t b ht)⟩⟩
theorem Rel.outer {C:Cx} {ρ ρ':Nat → Tk} {H H':Hp} {w w':World} (h:Rel C ρ H w) (h':Rel (C.all ρ H w) ρ' H' w'):Rel C ρ' H' w' :=
 ⟨h'.obj, h'.sep, fun t b hb => by
   rcases h'.own t b hb with hc | ⟨s,hs⟩
   · exact h.fit.new b (Nat.le_trans h.size hc)
   · exact h.own s b hs,h'.hdr,fun b h1 h2 => by
   rw [h'.keep b (Nat.lt_of_lt_of_le h1 h.size) (fun hc => by
     rcases hc with hc | ⟨s,hs⟩
     · exact absurd (Nat.lt_of_lt_of_le h1 h.size) (Nat.not_lt.2 hc)
     · exact h2 (h.own s b hs))]
   exact h.keep b h1 h2,Nat.le_trans h.size h'.size,h'.os.trans h.os,h'.tape.trans h.tape,h'.output.trans h.output,fun t o ho => SObj.ok_world (fun b hb => (h.roKeep b hb).symm) (h'.ok t o ho),h.fit⟩
theorem FRel.into {C:Cx} {ρ:Nat → Tk} {H:Hp} {w:World} (h:Rel C ρ H w) {n:Nat} {F:Fr} {tmps:Array Value} (hF:FRel C ρ n F tmps):FRel (C.all ρ H w) ρ n F tmps :=
 ⟨hF.size,fun i v hv => ⟨(hF.val i v hv).1,Sx.ok_world h.roKeep v (hF.val i v hv).2⟩⟩
theorem FRel.outer {C:Cx} {ρ ρ':Nat → Tk} {H:Hp} {w:World} (h:Rel C ρ H w) {n:Nat} {F:Fr} {tmps:Array Value} (hF:FRel (C.all ρ H w) ρ' n F tmps):FRel C ρ' n F tmps :=
 ⟨hF.size,fun i v hv => ⟨(hF.val i v hv).1,Sx.ok_world (fun b hb => (h.roKeep b hb).symm) v (hF.val i v hv).2⟩⟩
structure Apart (ρ:Nat → Tk) (H:Hp) (w:World) (ρ':Nat → Tk) (H':Hp) (w':World):Prop where
 size:w.heap.size ≤ w'.heap.size
 keep:∀ D,D < w.heap.size → (∀ t,blkOf ρ H t ≠ some D) → w'.heap[D]? = w.heap[D]? ∧ ∀ t,blkOf ρ' H' t ≠ some D
theorem Rel.apart {C:Cx} {ρ ρ':Nat → Tk} {H H':Hp} {w w':World} (h':Rel (C.all ρ H w) ρ' H' w'):Apart ρ H w ρ' H' w' :=
 ⟨h'.size, fun D hD hn => ⟨h'.keep D hD (fun hc => by
   rcases hc with hc | ⟨t,ht⟩
   · exact absurd hD (Nat.not_lt.2 hc)
   · exact hn t ht),fun t ht => by
   rcases h'.own t D ht with hc | ⟨s,hs⟩
   · exact absurd hD (Nat.not_lt.2 hc)
   · exact hn s hs⟩⟩
theorem Apart.refl (ρ:Nat → Tk) (H:Hp) (w:World):Apart ρ H w ρ H w := ⟨Nat.le_refl _,fun _ _ h => ⟨rfl,h⟩⟩
theorem Apart.trans {ρ ρ1 ρ2:Nat → Tk} {H H1 H2:Hp} {w w1 w2:World} (h:Apart ρ H w ρ1 H1 w1) (k:Apart ρ1 H1 w1 ρ2 H2 w2):Apart ρ H w ρ2 H2 w2 :=
 ⟨Nat.le_trans h.size k.size, fun D hD hn => by
   obtain ⟨a,b⟩ := h.keep D hD hn
   obtain ⟨c,d⟩ := k.keep D (Nat.lt_of_lt_of_le hD h.size) b
   exact ⟨c.trans a,d⟩⟩
def MarkOk (n:Nat) (w:World) (ρ:Nat → Tk) (H:Hp) (d:Deferred):Prop := ∃ D,d = { target := .collected D,args := #[] } ∧ n ≤ D ∧ w.heap[D]? = some (.deferred (some [])) ∧ ∀ t,blkOf ρ H t ≠ some D
structure Marks (ms:List Deferred) (n:Nat) (w:World) (ρ:Nat → Tk) (H:Hp):Prop where
 all:∀ d ∈ ms,MarkOk n w ρ H d
 nodup:ms.Nodup
theorem Marks.nil {n:Nat} {w:World} {ρ:Nat → Tk} {H:Hp}:Marks [] n w ρ H := ⟨fun d h => (List.not_mem_nil h).elim,List.nodup_nil⟩
theorem Marks.apart {ms:List Deferred} {n:Nat} {w w':World} {ρ ρ':Nat → Tk} {H H':Hp} (m:Marks ms n w ρ H) (a:Apart ρ H w ρ' H' w'):Marks ms n w' ρ' H' :=
 ⟨fun d hd => by
   obtain ⟨D,e,h1,h2,h3⟩ := m.all d hd
   obtain ⟨k1,k2⟩ := a.keep D (Array.getElem?_eq_some_iff.1 h2).1 h3
   exact ⟨D,e,h1,k1.trans h2,k2⟩,m.nodup⟩
theorem Marks.append {ms1 ms2:List Deferred} {n:Nat} {w1 w2:World} {ρ1 ρ2:Nat → Tk} {H1 H2:Hp} (m1:Marks ms1 n w1 ρ1 H1) (a:Apart ρ1 H1 w1 ρ2 H2 w2) (m2:Marks ms2 w1.heap.size w2 ρ2 H2) (hn:n ≤ w1.heap.size):Marks (ms2 ++ ms1) n w2 ρ2 H2 :=
 ⟨fun d hd => by
   rcases List.mem_append.1 hd with hd | hd
   · obtain ⟨D, e, h1, h2, h3⟩ := m2.all d hd
     exact ⟨D,e,Nat.le_trans hn h1,h2,h3⟩
   · exact (m1.apart a).all d hd,List.nodup_append.2 ⟨m2.nodup,m1.nodup,fun d h2 d' h1 e => by
   subst e
   obtain ⟨D,e,k1,_⟩ := m2.all d h2
   obtain ⟨D',e',_,k2,_⟩ := m1.all d h1
   rw [e] at e'
   have:D = D' := by simpa using e'
   subst this
   have := (Array.getElem?_eq_some_iff.1 k2).1
   omega⟩⟩
theorem Rel.putFree {C:Cx} {ρ:Nat → Tk} {H:Hp} {w:World} (h:Rel C ρ H w) {D:Nat} (o:Obj) (hn:∀ t,blkOf ρ H t ≠ some D) (hD:C.w1.heap.size ≤ D):Rel C ρ H (w.putObj D o) :=
 ⟨fun t o' ho => (h.obj t o' ho).agree (C := C) (n := H.length) (h.ok t o' ho) (fun _ _ => rfl) fun b hb => World.putObj_heap_other (fun e => hn t (by rw [blkOf_eq ho,hb,e])),h.sep,h.own,h.hdr,
   fun b h1 h2 => by rw [World.putObj_heap_other (by omega)]; exact h.keep b h1 h2,by simpa using h.size,h.os,h.tape,h.output,h.ok,h.fit⟩
abbrev Fw (ro:Option Nat):Fence := { Fence.wide with round := ro }
theorem callsFw {P:Program} {f:FuncId} {args:Array Value} {w:World} {R:Ending → World → Prop} (ro:Option Nat) (n:Nat) (h:Calls P f args w R):CallsIn (Fw ro) n P f args w R :=
 callsIn_wide.2 h
theorem rowsFw {P:Program} {row:String} {args:Array Value} {w:World} {R:Value → World → Prop} (ro:Option Nat) (n:Nat) (h:Rows P row args w R):RowsIn (Fw ro) n P row args w R :=
 fun c cs _ => let ⟨v,w',r,s⟩ := h c cs; ⟨v,w',r,stepsIn_wide.2 s⟩
theorem _root_.Go.Oper.wpIn_of_wp {P:Program} {o:Oper} (hd:∀ c,o.op ≠ .defer c) {a:Act} {w:World} {next:Act → World → Prop} {Q:Exit → Act → World → Prop} (h:o.wp P a w next Q) (ro:Option Nat) :
   o.wpIn (Fw ro) 0 P a w next Q := by
 refine ⟨fun _ _ => trivial,?_⟩
 rw [Oper.semAt_eq _ _ _ hd]
 unfold Oper.wp at h
 generalize (execOp a.eval o).run P w = r at *
 cases r with
 | ok n w' =>
   cases n with
   | value v => exact h
   | skip => exact h
   | defer d => exact h
   | enter f args => exact ⟨fun hx => (by cases hx),callsFw ro _ h⟩
   | row r args => exact ⟨fun hx => (by cases hx),rowsFw ro _ h⟩
   | _ => exact h.elim
 | halt x w' =>
   cases x with
   | panic v => exact h
   | _ => exact h.elim
structure OpGood (P:Program) (o:Oper) (F:Fr) (H:Hp) (v:SV) (H':Hp):Prop where
 len:H.length ≤ H'.length
 wp:∀ (C:Cx) (ρ:Nat → Tk) (a:Act) (w:World),FRel C ρ H.length F a.tmps → Rel C ρ H w → ∀ (ro:Option Nat) (next:Act → World → Prop) (Q:Exit → Act → World → Prop),
   (∀ ρ' w',(∀ t,t < H.length → ρ' t = ρ t) → Rel C ρ' H' w' → v.ok C.R C.w1 ρ' H'.length → next (a.put o.dst (den ρ' v)) w') → o.wpIn (Fw ro) 0 P a w next Q
theorem OpGood0.up {P:Program} {o:Oper} {F:Fr} {H:Hp} {v:SV} {H':Hp} (h:OpGood0 P o F H v H') (hd:∀ c,o.op ≠ .defer c):OpGood P o F H v H' :=
 ⟨h.len,fun C ρ a w hF hR ro next Q hn => Oper.wpIn_of_wp hd (h.wp C ρ a w hF hR next Q hn) ro⟩
structure YSound (P:Program) (t:Nat) (args:List SV) (H:Hp) (v:SV) (H':Hp):Prop where
 len:H.length ≤ H'.length
 run:∀ (C:Cx) (ρ:Nat → Tk) (w:World),Rel C ρ H w → SV.okL C.R C.w1 ρ H.length args → ∃ (f:FuncId) (tmps:Array Value) (assign body:Code),
   (Instr.yield (ρ t).blk (denL ρ args).toArray).run P w = .ok (.round (ρ t).blk f tmps assign body) w ∧
   ∀ ro,RoundIn (Fw ro) 0 P (ρ t).blk f tmps assign body w fun e w' => ∃ ρ',(∀ t,t < H.length → ρ' t = ρ t) ∧ e = .returned (den ρ' v) ∧ Rel C ρ' H' w' ∧ v.ok C.R C.w1 ρ' H'.length
def YldOk (P:Program) {α:Type} (yf:YldF α):Prop :=
 ∀ t args H K r,yf t args H K = some r → ∃ v H',K v H' = some r ∧ YSound P t args H v H'
section
variable (E:Env) {α:Type}
theorem opS_nodefer {callf:CallF α} {o:Oper} {F:Fr} {H:Hp} {K:SV → Hp → Option α} {r:α} (h:opS E callf o F H K = some r):∀ c,o.op ≠ .defer c := by
 intro c hc
 unfold opS at h
 rw [hc] at h
 cases h
theorem opY_sound (hE:EnvOk E) {callf:CallF α} {yf:YldF α} (hcall:CallOk E.P callf) (hy:YldOk E.P yf) (o:Oper) (F:Fr) (H:Hp) (K:SV → Hp → Option α) (r:α) (h:opY E callf yf o F H K = some r) :
   ∃ v H',K v H' = some r ∧ (isWr o = false → ∃ l,H' = H ++ l) ∧ ∀ F',Agree o F F' → OpGood E.P o F' H v H' := by
 unfold opY at h
 split at h
 · rename_i t asx hyo
   obtain ⟨v,H',h1,h2⟩ := hy _ _ _ _ _ h
   unfold yldOf at hyo
   split at hyo
   · rename_i c ho
     split at hyo
     · rename_i f hc
       split at hyo
       · rename_i t' hf
         cases ha:opds F c.args.toList with
         | none => simp [ha] at hyo
         | some args =>
           simp only [ha,Option.map_some,Option.some.injEq,Prod.mk.injEq] at hyo
           obtain ⟨rfl,rfl⟩ := hyo
           refine ⟨v,H',h1,fun hw => absurd hw (by simp [isWr,ho,hc]),fun F' hA => ⟨h2.len,fun C ρ a w hF hR ro next Q hn => ?_⟩⟩
           obtain ⟨e1,e2⟩ := opd_spec hF (hA.opd (by simp [ho,Op.operands,Call.operands,hc]) hf)
           obtain ⟨e3,e4⟩ := opds_spec hF (hA.opds (fun x hx => by simp [ho,Op.operands,Call.operands]; exact .inr (by simpa using hx)) ha)
           obtain ⟨g,tmps,asx,bd,r1,r2⟩ := h2.run C ρ w hR e4
           have hrun:(execOp a.eval o).run E.P w = .ok (.round (ρ t').blk g tmps asx bd) w := by
             simp only [execOp,ho,resolve,hc,e1,den,Deferred.ofValue,eval_args e3,Sem.run_bind,Sem.run_pure,Result.andThen_ok,invoke,Array.empty_append]
             exact r1
           refine ⟨fun _ _ => trivial,?_⟩
           rw [Oper.semAt_eq _ _ _ (fun c hc => by rw [ho] at hc; cases hc),hrun]
           refine ⟨fun hx => (by cases hx),(r2 ro).mono fun e w' hw => ?_⟩
           obtain ⟨ρ',q1,q2,q3,q4⟩ := hw
           subst q2
           exact hn ρ' w' q1 q3 q4
       · cases hyo
     · cases hyo
   · cases hyo
 · obtain ⟨v, H', h1, h2, h3⟩ := opS_sound0 E hE hcall o F H K r h
   exact ⟨v,H',h1,h2,fun F' hA => (h3 F' hA).up (opS_nodefer E h)⟩
end
end
section
open Go Go.RowKit
def Ex.exit':Ex → Exit
 | .normal => .normal
 | .exit id => .exit id
 | .ret => .ret
theorem FRel.next {C:Cx} {ρ ρ':Nat → Tk} {n n':Nat} {F:Fr} {tmps:Array Value} (h:FRel C ρ n F tmps) (hr:∀ t,t < n → ρ' t = ρ t) (hn:n ≤ n'):FRel C ρ' n' F tmps :=
 ⟨h.size, fun i v hv => by
   obtain ⟨h1,h2⟩ := h.val i v hv
   exact ⟨by rw [den_agree hr v h2]; exact h1,ok_mono hn v (ok_agree hr v h2)⟩⟩
theorem FRel.set {C:Cx} {ρ:Nat → Tk} {n:Nat} {F:Fr} {tmps:Array Value} (h:FRel C ρ n F tmps) {d:Nat} {v:SV} (hv:v.ok C.R C.w1 ρ n):FRel C ρ n (F.set d (some v)) (tmps.setIfInBounds d (den ρ v)) :=
 ⟨by simp [h.size], fun i u hu => by
   by_cases e:d = i
   · subst e
     by_cases hd:d < F.length
     · rw [List.getElem?_set_self hd] at hu
       cases hu
       exact ⟨by simp [h.size,hd],hv⟩
     · rw [List.getElem?_eq_none (by simp; omega)] at hu; cases hu
   · rw [List.getElem?_set_ne e] at hu
     obtain ⟨h1,h2⟩ := h.val i u hu
     exact ⟨by rw [Array.getElem?_setIfInBounds_ne e]; exact h1,h2⟩⟩
theorem FRel.put {C:Cx} {ρ:Nat → Tk} {n:Nat} {F:Fr} {a:Act} (h:FRel C ρ n F a.tmps) (dst:Option Tmp) {v:SV} (hv:v.ok C.R C.w1 ρ n):FRel C ρ n (put F dst v) (a.put dst (den ρ v)).tmps := by
 cases dst with
 | none => exact h
 | some d => exact h.set hv
theorem FRel.same {C:Cx} {ρ:Nat → Tk} {n:Nat} {F:Fr} {tmps:Array Value} (h:FRel C ρ n F tmps) {d:Nat} {b c:Bool} (hd:F[d]? = some (some (.bool b))) (hbc:b = c):FRel C ρ n (F.set d (some (.bool c))) tmps := by
 subst hbc
 have hl := (List.getElem?_eq_some_iff.1 hd).1
 have:F.set d (some (.bool b)) = F := by
   apply List.ext_getElem?
   intro i
   by_cases e:d = i
   · subst e; rw [List.getElem?_set_self hl,hd]
   · rw [List.getElem?_set_ne e]
 rw [this]; exact h
section
variable (E:Env) {α:Type}
structure StepGood (P:Program) (ops:Array Oper) (o:Oper) (S S':St):Prop where
 len:S.H.length ≤ S'.H.length
 wp:∀ (C:Cx) (ρ:Nat → Tk) (a:Act) (w:World),FRel C ρ S.H.length S.F a.tmps → Rel C ρ S.H w → ∀ (ro:Option Nat) (rest:List Oper) (Q:Exit → Act → World → Prop),
   (∀ ρ' a' w',(∀ t,t < S.H.length → ρ' t = ρ t) → a'.defers = a.defers → FRel C ρ' S'.H.length S'.F a'.tmps → Rel C ρ' S'.H w' → wpListIn (Fw ro) 0 P ops Q rest a' w') → wpListIn (Fw ro) 0 P ops Q (o :: rest) a w
theorem put_defers (a:Act) (d:Option Tmp) (v:Value):(a.put d v).defers = a.defers := by cases d <;> rfl
theorem go_step {ops:Array Oper} {o:Oper} {S:St} {v:SV} {H':Hp} (hg:OpGood E.P o S.F S.H v H') (hw:∀ (C:Cx) (ρ:Nat → Tk) (a:Act),FRel C ρ S.H.length S.F a.tmps → Region.wanted o (yielded ops a.tmps) = true) :
   StepGood E.P ops o S ⟨put S.F o.dst v,H'⟩ :=
 ⟨hg.len, fun C ρ a w hF hR ro rest Q hn => by
   unfold wpListIn
   rw [if_pos (hw C ρ a hF)]
   refine hg.wp C ρ a w hF hR ro _ _ fun ρ' w' hr hR' hv => hn ρ' _ w' hr (put_defers a _ _) ?_ hR'
   exact (hF.next hr hg.len).put o.dst hv⟩
theorem skip_step {ops:Array Oper} {o:Oper} {S:St} (hw:∀ (C:Cx) (ρ:Nat → Tk) (a:Act),FRel C ρ S.H.length S.F a.tmps → Region.wanted o (yielded ops a.tmps) = false) :
   StepGood E.P ops o S ⟨put S.F o.dst (.raw undef),S.H⟩ :=
 ⟨Nat.le_refl _, fun C ρ a w hF hR ro rest Q hn => by
   unfold wpListIn
   rw [if_neg (by rw [hw C ρ a hF]; exact Bool.false_ne_true)]
   exact ⟨fun _ _ => trivial,hn ρ _ w (fun _ _ => rfl) (put_defers a _ _) (hF.put o.dst (v := .raw undef) (by simp [SV.ok,undef])) hR⟩⟩
theorem StepGood.before {ops:Array Oper} {o:Oper} {S S1 S':St} (h:StepGood E.P ops o S1 S') (hH:S1.H = S.H) (hF:∀ (C:Cx) (ρ:Nat → Tk) (tmps:Array Value),FRel C ρ S.H.length S.F tmps → FRel C ρ S.H.length S1.F tmps):StepGood E.P ops o S S' :=
 ⟨by rw [← hH]; exact h.len,fun C ρ a w h1 h2 ro rest Q hn => h.wp C ρ a w (by rw [hH]; exact hF C ρ _ h1) (by rw [hH]; exact h2) ro rest Q (by rw [hH]; exact hn)⟩
theorem yielded_of {ops:Array Oper} {tmps:Array Value} {j d:Nat} (hd:(ops[j]?).bind (·.dst) = some d):yielded ops tmps j = match tmps[d]? with | some (.bool b) => some b | _ => none := by
 unfold yielded; rw [hd]; rfl
theorem op1_sound (hE:EnvOk E) {callf:CallF α} {yf:YldF α} (hcall:CallOk E.P callf) (hy:YldOk E.P yf) (ops:Array Oper) (o:Oper) (S:St) (K:St → Option α) (r:α) (h:op1 E callf yf ops o S K = some r) :
   ∃ S',K S' = some r ∧ StepGood E.P ops o S S' := by
 unfold op1 at h
 simp only at h
 have go:∀ (S:St),opY E callf yf o S.F S.H (fun v H => K ⟨put S.F o.dst v,H⟩) = some r → (∀ (C:Cx) (ρ:Nat → Tk) (a:Act),FRel C ρ S.H.length S.F a.tmps → Region.wanted o (yielded ops a.tmps) = true) → ∃ S',K S' = some r ∧ StepGood E.P ops o S S' := by
   intro S h hw
   obtain ⟨v,H',hk,_,hg⟩ := opY_sound E hE hcall hy o S.F S.H _ r h
   exact ⟨_,hk,go_step E (hg _ (.refl _ _)) hw⟩
 split at h
 · rename_i hgd
   exact go S h fun C ρ a _ => by simp [Region.wanted,hgd]
 · rename_i j want hgd
   split at h
   · rename_i b d hgo
     -- the boolean's slot
     unfold guardOf at hgo
     split at hgo
     · rename_i d' hd'
       have hslot:d' = d ∧ S.F[d]? = some (some (.bool b)) := by
         split at hgo
         · rename_i hb; cases hgo; exact ⟨rfl,hb⟩
         · cases hgo
         · cases hgo
       obtain ⟨rfl,hsl⟩ := hslot
       have hy : ∀ (C : Cx) (ρ : Nat → Tk) (a : Act), FRel C ρ S.H.length S.F a.tmps → yielded ops a.tmps j = some b := fun C ρ a hF => by
         rw [yielded_of hd',(hF.val d' _ hsl).1]; rfl
       split at h
       · rename_i hb
         split at h
         · rename_i hwt
           obtain ⟨S', hk, hg⟩ := go ⟨S.F.set d' (some (.bool true)), S.H⟩ h fun C ρ a hF => by
             have h1 := (hF.val d' (.bool true) (List.getElem?_set_self (List.getElem?_eq_some_iff.1 hsl).1)).1
             simp only [Region.wanted,hgd,yielded_of hd',h1,den,hwt]; rfl
           exact ⟨S',hk,hg.before E rfl fun C ρ t hF => hF.same hsl hb⟩
         · rename_i hwt
           have := skip_step E (ops := ops) (o := o) (S := ⟨S.F.set d' (some (.bool true)), S.H⟩) fun C ρ a hF => by
             have h1 := (hF.val d' (.bool true) (List.getElem?_set_self (List.getElem?_eq_some_iff.1 hsl).1)).1
             simp only [Region.wanted,hgd,yielded_of hd',h1,den]
             cases want <;> simp_all
           exact ⟨_,h,this.before E rfl fun C ρ t hF => hF.same hsl hb⟩
       · rename_i hb
         have hb':b = false := by simpa using hb
         split at h
         · rename_i hwt
           have := skip_step E (ops := ops) (o := o) (S := ⟨S.F.set d' (some (.bool false)), S.H⟩) fun C ρ a hF => by
             have h1 := (hF.val d' (.bool false) (List.getElem?_set_self (List.getElem?_eq_some_iff.1 hsl).1)).1
             simp only [Region.wanted,hgd,yielded_of hd',h1,den,hwt]; rfl
           exact ⟨_,h,this.before E rfl fun C ρ t hF => hF.same hsl hb'⟩
         · rename_i hwt
           obtain ⟨S', hk, hg⟩ := go ⟨S.F.set d' (some (.bool false)), S.H⟩ h fun C ρ a hF => by
             have h1 := (hF.val d' (.bool false) (List.getElem?_set_self (List.getElem?_eq_some_iff.1 hsl).1)).1
             simp only [Region.wanted,hgd,yielded_of hd',h1,den]
             cases want <;> simp_all
           exact ⟨S',hk,hg.before E rfl fun C ρ t hF => hF.same hsl hb'⟩
     · cases hgo
   · rename_i hgo
     unfold guardOf at hgo
     split at hgo
     · rename_i d' hd'
       split at hgo
       · cases hgo
       · rename_i vs hsl
         refine ⟨_,h,skip_step E fun C ρ a hF => ?_⟩
         simp only [Region.wanted,hgd,yielded_of hd',(hF.val d' _ hsl).1,den]
         cases want <;> rfl
       · cases hgo
     · cases hgo
   · cases h
theorem opsL_sound (hE:EnvOk E) {callf:CallF α} {yf:YldF α} (hcall:CallOk E.P callf) (hy:YldOk E.P yf) (ops:Array Oper):∀ (l:List Oper) (S:St) (K:St → Option α) (r:α),opsL E callf yf ops l S K = some r →
   ∃ S',K S' = some r ∧ S.H.length ≤ S'.H.length ∧ ∀ (C:Cx) (ρ:Nat → Tk) (a:Act) (w:World),FRel C ρ S.H.length S.F a.tmps → Rel C ρ S.H w → ∀ (ro:Option Nat) (Q:Exit → Act → World → Prop),
     (∀ ρ' a' w',(∀ t,t < S.H.length → ρ' t = ρ t) → a'.defers = a.defers → FRel C ρ' S'.H.length S'.F a'.tmps → Rel C ρ' S'.H w' → Q .normal a' w') → wpListIn (Fw ro) 0 E.P ops Q l a w
 | [],S,K,r,h => ⟨S,h,Nat.le_refl _,fun C ρ a w hF hR ro Q hn => hn ρ a w (fun _ _ => rfl) rfl hF hR⟩
 | o :: l,S,K,r,h => by
   simp only [opsL] at h
   obtain ⟨S1,h1,g1⟩ := op1_sound E hE hcall hy ops o S _ r h
   obtain ⟨S2,h2,l2,g2⟩ := opsL_sound hE hcall hy ops l S1 K r h1
   refine ⟨S2,h2,Nat.le_trans g1.len l2,fun C ρ a w hF hR ro Q hn => g1.wp C ρ a w hF hR ro l Q fun ρ' a' w' hr hd hF' hR' => ?_⟩
   refine g2 C ρ' a' w' hF' hR' ro Q fun ρ2 a2 w2 hr2 hd2 hF2 hR2 => hn ρ2 a2 w2 (fun t ht => ?_) (hd2.trans hd) hF2 hR2
   rw [hr2 t (Nat.lt_of_lt_of_le ht g1.len),hr t ht]
structure CodeGood (P:Program) (rd:Bool) (base:Nat) (c:Code) (S:St) (e:Ex) (S':St):Prop where
 len:base ≤ S'.H.length
 wp:∀ (C:Cx) (ρ:Nat → Tk) (a:Act) (w:World),FRel C ρ S.H.length S.F a.tmps → Rel C ρ S.H w → ∀ (ro:Option Nat),(rd = false → ro = none) →
   c.wpIn (Fw ro) 0 P (fun ex a' w' => ex = e.exit' ∧ ∃ ρ' ms,a'.defers = ms ++ a.defers ∧ Marks ms w.heap.size w' ρ' S'.H ∧ FRel C ρ' S'.H.length S'.F a'.tmps ∧ Rel C ρ' S'.H w' ∧ ∀ t,t < base → ρ' t = ρ t) a w
theorem CodeGood.step {P:Program} {rd:Bool} {base:Nat} {c:Code} {S:St} {e:Ex} {S':St} (h:CodeGood P rd base c S e S') {C:Cx} {ρ:Nat → Tk} {a:Act} {w:World} (hF:FRel C ρ S.H.length S.F a.tmps) (hR:Rel C ρ S.H w) (ro:Option Nat) (hro:rd = false → ro = none) :
   c.wpIn (Fw ro) 0 P (fun ex a' w' => ex = e.exit' ∧ ∃ ρ' ms,a'.defers = ms ++ a.defers ∧ Marks ms w.heap.size w' ρ' S'.H ∧ FRel C ρ' S'.H.length S'.F a'.tmps ∧ Rel C ρ' S'.H w' ∧ (∀ t,t < base → ρ' t = ρ t) ∧ Apart ρ S.H w ρ' S'.H w') a w :=
 Go.wpIn_mono (h.wp _ ρ a w (hF.into hR) hR.into ro hro) fun ex a' w' hp => by
   obtain ⟨p1,ρ',ms,p2,p3,p4,p5,p6⟩ := hp
   exact ⟨p1,ρ',ms,p2,p3,p4.outer hR,hR.outer p5,p6,p5.apart⟩
def Stands (P:Program) (fid:FuncId) (path:List Bool) (c:Code):Prop := ∃ (fn:Func) (body:Code),P.funcs[fid]? = some fn ∧ fn.body = some body ∧ sub body path = some c
def RunOk (P:Program) (run:RunF α):Prop :=
 ∀ fid path base c S K r,Stands P fid path c → base ≤ S.H.length → run fid path base c S K = some r → ∃ e S',K e S' = some r ∧ CodeGood P (inRnd P fid path) base c S e S'
def LookOk (P:Program) (look:LookF α):Prop :=
 ∀ f c args H K r,look f = some c → c args H K = some r → ∃ v H',K v H' = some r ∧ Sound P f args H v H'
def LoopsOk (P:Program) (lps:LookL α):Prop :=
 ∀ fid path base S l,lps fid path base S = some l → ∀ c,Stands P fid path (.loop c) →
   ∀ K r,base ≤ S.H.length → l K = some r → ∃ e S',K e S' = some r ∧ CodeGood P (inRnd P fid path) base (.loop c) S e S'
theorem resVals_spec {H:Hp} {F:Fr} {C:Cx} {ρ:Nat → Tk} {tmps:Array Value} {w:World} (hF:FRel C ρ H.length F tmps) (hR:Rel C ρ H w):∀ (l:List ResultVar) (vs:List SV),resVals E H F l = some vs →
   (l.mapM (m := Sem) fun
     | .tmp t => pure (tmps.getD t undef)
     | .cell a t => do loadVar t (← asAddr (tmps.getD a undef))).run E.P w = .ok (denL ρ vs) w ∧ SV.okL C.R C.w1 ρ H.length vs
 | [],vs,h => by simp only [resVals,Option.some.injEq] at h; subst h; simp [denL,SV.okL]
 | .tmp t :: l,vs,h => by
   simp only [resVals] at h
   split at h
   · rename_i a b ha hb
     cases h
     obtain ⟨h1,h2⟩ := resVals_spec hF hR l b hb
     have hs:F[t]? = some (some a) := by
       cases hq:F[t]? with
       | none => simp [hq] at ha
       | some y => cases y <;> simp_all
     obtain ⟨g1,g2⟩ := hF.val t a hs
     refine ⟨?_,⟨g2,h2⟩⟩
     have hgd:tmps.getD t undef = den ρ a := by rw [Array.getD_eq_getD_getElem?,g1]; rfl
     simp only [List.mapM_cons,Sem.run_bind,Sem.run_pure,Result.andThen_ok,h1,denL,hgd]
   · cases h
 | .cell p T :: l,vs,h => by
   simp only [resVals] at h
   split at h
   · rename_i a b ha hb
     cases hv:loadAt E H T a with
     | none => simp [hv] at h
     | some v =>
       simp only [hv,Option.map_some,Option.some.injEq] at h
       subst h
       obtain ⟨h1,h2⟩ := resVals_spec hF hR l b hb
       have hs:F[p]? = some (some a) := by
         cases hq:F[p]? with
         | none => simp [hq] at ha
         | some y => cases y <;> simp_all
       obtain ⟨g1,g2⟩ := hF.val p a hs
       obtain ⟨ad,e1,e2,e3⟩ := loadAt_spec E hv hR g2
       refine ⟨?_,⟨e3,h2⟩⟩
       have hgd:tmps.getD p undef = .pointer (some ad) := by rw [Array.getD_eq_getD_getElem?,g1]; exact e1
       have has:asAddr (.pointer (some ad)) = (pure ad:Sem Addr) := rfl
       simp only [List.mapM_cons,Sem.run_bind,Sem.run_pure,Result.andThen_ok,h1,denL,hgd,has,e2]
   · cases h
theorem resOf_spec {H:Hp} {F:Fr} {C:Cx} {ρ:Nat → Tk} {tmps:Array Value} {w:World} (hF:FRel C ρ H.length F tmps) (hR:Rel C ρ H w) {fn:Func} {v:SV} (h:resOf E H F fn.results = some v) :
   (results fn tmps).run E.P w = .ok (den ρ v) w ∧ v.ok C.R C.w1 ρ H.length := by
 unfold resOf at h
 obtain ⟨l,hl,h⟩ := bindO_some h
 obtain ⟨h1,h2⟩ := resVals_spec E hF hR _ _ hl
 have hrun:(fn.results.mapM (m := Sem) fun
     | .tmp t => pure (tmps.getD t undef)
     | .cell a t => do loadVar t (← asAddr (tmps.getD a undef))).run E.P w = .ok (denL ρ l).toArray w := by
   rw [Array.mapM_eq_mapM_toList,Sem.run_map,h1]; rfl
 have hres:(results fn tmps).run E.P w = .ok (if hh:(denL ρ l).toArray.size = 1 then (denL ρ l).toArray[0] else .tuple (denL ρ l).toArray) w := by
   unfold results
   refine (Sem.run_bind _ _ _ _).trans ?_
   exact (congrArg (fun x => Result.andThen x _) hrun).trans rfl
 rw [hres]
 split at h
 · rename_i x
   cases h
   simp only [SV.okL] at h2
   exact ⟨by simp [denL],h2.1⟩
 · rename_i hne
   cases h
   refine ⟨?_,by simpa [SV.ok] using h2⟩
   rw [dif_neg]
   · rfl
   · rw [List.size_toArray, denL_length]
     intro hc
     rcases l with _ | ⟨x,_ | ⟨y,l⟩⟩
     · simp at hc
     · exact hne _ rfl
     · simp at hc
theorem junked_rel {C:Cx} {ρ:Nat → Tk} {n:Nat} {tmps:Array Value}:∀ (J:List Nat) (F:Fr),FRel C ρ n F tmps → FRel C ρ n (junked J F) tmps
 | [],F,h => h
 | d :: J,F,h => by
   refine junked_rel J (F.set d none) ⟨by simp [h.size],fun i v hv => h.val i v ?_⟩
   by_cases e:d = i
   · subst e
     by_cases hd:d < F.length
     · rw [List.getElem?_set_self hd] at hv; cases hv
     · rw [List.getElem?_eq_none (by simp; omega)] at hv; cases hv
   · rwa [List.getElem?_set_ne e] at hv
structure SameGood (base:Nat) (S S':St):Prop where
 len:base ≤ S'.H.length
 rel:∀ (C:Cx) (ρ:Nat → Tk) (tmps:Array Value) (w:World),FRel C ρ S.H.length S.F tmps → Rel C ρ S.H w → ∃ ρ',(∀ t,t < base → ρ' t = ρ t) ∧ FRel C ρ' S'.H.length S'.F tmps ∧ Rel C ρ' S'.H w
theorem SameGood.step {base:Nat} {S S':St} (h:SameGood base S S') {C:Cx} {ρ:Nat → Tk} {tmps:Array Value} {w:World} (hF:FRel C ρ S.H.length S.F tmps) (hR:Rel C ρ S.H w) :
   ∃ ρ',(∀ t,t < base → ρ' t = ρ t) ∧ FRel C ρ' S'.H.length S'.F tmps ∧ Rel C ρ' S'.H w ∧ Apart ρ S.H w ρ' S'.H w := by
 obtain ⟨ρ',p1,p2,p3⟩ := h.rel _ ρ tmps w (hF.into hR) hR.into
 exact ⟨ρ',p1,p2.outer hR,hR.outer p3,p3.apart⟩
theorem gcSt_sound {base:Nat} {S:St} {K:St → Option α} {r:α} (h:gcSt base S K = some r):∃ S',K S' = some r ∧ SameGood base S S' := by
 unfold gcSt at h
 split at h
 · rename_i H hg
   obtain ⟨_,h2,h3⟩ := gc_spec hg
   refine ⟨_,h,h2,fun C ρ tmps w hF hR => ?_⟩
   obtain ⟨ρ',e1,e2,e3,_⟩ := h3 C ρ w hR
   obtain ⟨rfl,e4⟩ := e3 rfl
   exact ⟨ρ',e1,⟨hF.size,fun i v hv => ⟨(hF.val i v hv).1,ok_of_toks v (fun t ht => e4 t (mem_frToks hv ht)) (hF.val i v hv).2⟩⟩,e2⟩
 · rename_i τ H hne hg
   obtain ⟨_,h2,h3⟩ := gc_spec hg
   refine ⟨_,h,h2,fun C ρ tmps w hF hR => ?_⟩
   obtain ⟨ρ',e1,e2,_,e3⟩ := h3 C ρ w hR
   have e3 := e3 (fun e => hne e)
   refine ⟨ρ',e1,⟨by rw [frRen_length]; exact hF.size,fun i v hv => ?_⟩,e2⟩
   obtain ⟨u,g1,rfl⟩ := frRen_get _ hv
   obtain ⟨p1,p2⟩ := hF.val i u g1
   obtain ⟨q1,q2⟩ := ren_spec (ρ' := ρ') (n' := List.length H) u (fun t ht => e3 t (mem_frToks g1 ht)) p2
   exact ⟨by rw [q1]; exact p1,q2⟩
 · cases h
theorem killAt_get (τ : List Nat) : ∀ (H : Hp) (k i : Nat), (killAt τ k H)[i]? = (H[i]?).map fun o => if memN (k + i) τ then .dead else o
 | [],k,i => by simp [killAt]
 | o :: H,k,0 => by simp [killAt]
 | o :: H,k,i + 1 => by
   simp only [killAt,List.getElem?_cons_succ]
   rw [killAt_get τ H (k + 1) i,show k + 1 + i = k + (i + 1) by omega]
theorem killAt_length (τ:List Nat):∀ (H:Hp) (k:Nat),(killAt τ k H).length = H.length
 | [],k => rfl
 | o :: H,k => by simp [killAt,killAt_length τ H (k + 1)]
theorem ltAll_spec {n:Nat}:∀ {l:List Nat},ltAll n l = true → ∀ t ∈ l,t < n
 | [],_,t,h => by simp at h
 | x :: l,h,t,ht => by
   simp only [ltAll,Bool.and_eq_true] at h
   rcases List.mem_cons.1 ht with rfl | ht
   · exact Nat.le_of_ble_eq_true h.1
   · exact ltAll_spec h.2 t ht
theorem fresh_spec {H:Hp} {τ:List Nat} {objs:Hp} (hobjs:pickAll H τ = some objs) (hnd:τ.Nodup) (hc1:∀ t ∈ hpToks H,t < H.length) (hc3:∀ t ∈ hpToks objs,t < H.length) :
   ∀ (C:Cx) (ρ:Nat → Tk) (w:World),Rel C ρ H w → ∃ ρ':Nat → Tk,(∀ t,t < H.length → ρ' t = ρ t) ∧ Rel C ρ' ((killAt τ 0 H ++ objs).map (SObj.ren (frMap H.length τ))) w ∧
     (∀ t,t < H.length → ρ' (frMap H.length τ t) = ρ t ∧ frMap H.length τ t < H.length + τ.length) := by
 obtain ⟨hol,hog⟩ := pickAll_get hobjs
 let orig:Nat → Nat := fun i => if i < H.length then i else (τ[i - H.length]?).getD 0
 have hg : ∀ t, t < H.length → orig (frMap H.length τ t) = t ∧ frMap H.length τ t < H.length + τ.length := fun t ht => by
   unfold frMap
   by_cases hm:memN t τ = true
   · have hi := idxOf_spec (memN_iff.1 hm)
     have hil := (List.getElem?_eq_some_iff.1 hi).1
     rw [if_pos hm]
     refine ⟨?_,by omega⟩
     simp only [orig]
     rw [if_neg (by omega),show H.length + idxOf t τ - H.length = idxOf t τ by omega,hi]; rfl
   · rw [if_neg hm]
     exact ⟨by simp [orig,ht],by omega⟩
 have hlen:((killAt τ 0 H ++ objs).map (SObj.ren (frMap H.length τ))).length = H.length + τ.length := by simp [hol,killAt_length]
 -- what stands at a place: nothing (dead), or what stood at its origin
 have hget:∀ (i:Nat) (o':SObj),((killAt τ 0 H ++ objs).map (SObj.ren (frMap H.length τ)))[i]? = some o' →
     o' = .dead ∨ ((i < H.length → memN i τ = false) ∧ ∃ o,H[orig i]? = some o ∧ o' = o.ren (frMap H.length τ) ∧ (∀ t ∈ o.toks,t < H.length)) := fun i o' ho => by
   rw [List.getElem?_map] at ho
   cases hq:(killAt τ 0 H ++ objs)[i]? with
   | none => simp [hq] at ho
   | some o =>
     simp only [hq,Option.map_some,Option.some.injEq] at ho
     by_cases hi:i < H.length
     · have h1 : (killAt τ 0 H)[i]? = some o := by rw [← hq, List.getElem?_append_left (by rw [killAt_length]; exact hi)]
       rw [killAt_get,Nat.zero_add] at h1
       cases hH:H[i]? with
       | none => simp [hH] at h1
       | some o0 =>
         simp only [hH,Option.map_some,Option.some.injEq] at h1
         cases hm:memN i τ with
         | true => rw [hm,if_pos rfl] at h1; subst h1; exact .inl ho.symm
         | false =>
           rw [hm] at h1
           simp only [Bool.false_eq_true,if_false] at h1
           subst h1
           exact .inr ⟨fun _ => rfl,o0,by simp only [orig,if_pos hi]; exact hH,ho.symm,fun t ht => hc1 t (mem_hpToks hH ht)⟩
     · have h1 : objs[i - H.length]? = some o := by
         rw [← hq,List.getElem?_append_right (by rw [killAt_length]; omega),killAt_length]
       have hil:i - H.length < τ.length := by rw [← hol]; exact (List.getElem?_eq_some_iff.1 h1).1
       have h2 := hog (i - H.length) τ[i - H.length] (List.getElem?_eq_getElem hil)
       refine .inr ⟨fun h => absurd h hi,o,?_,ho.symm,fun t ht => hc3 t (mem_hpToks h1 ht)⟩
       simp only [orig,if_neg hi]
       rw [List.getElem?_eq_getElem hil,Option.getD_some,← h2.1]; exact h1
 intro C ρ w hR
 have hρ:∀ t,t < H.length → (fun i => ρ (orig i)) (frMap H.length τ t) = ρ t ∧ frMap H.length τ t < H.length + τ.length := fun t ht => ⟨by simp only [(hg t ht).1],(hg t ht).2⟩
 refine ⟨fun i => ρ (orig i),fun t ht => by simp only [orig,if_pos ht],?_,hρ⟩
 have hobjblk:∀ (tk:Tk) (o:SObj),objBlk tk (o.ren (frMap H.length τ)) = objBlk tk o := fun tk o => by cases o <;> rfl
 have hblk:∀ i b,blkOf (fun i => ρ (orig i)) ((killAt τ 0 H ++ objs).map (SObj.ren (frMap H.length τ))) i = some b → i < H.length + τ.length ∧ (i < H.length → memN i τ = false) ∧ blkOf ρ H (orig i) = some b := fun i b hb' => by
   have hl := blkOf_lt_len hb'
   rw [hlen] at hl
   obtain ⟨o',ho',h2⟩ := blkOf_get hb'
   rcases hget i o' ho' with rfl | ⟨g0,o,g1,g2,_⟩
   · simp [objBlk] at h2
   refine ⟨hl,g0,?_⟩
   rw [blkOf_eq g1,← hobjblk,← g2]; exact h2
 have hτ : ∀ i, ¬ i < H.length → i < H.length + τ.length → orig i ∈ τ := fun i h1 h2 => by
   simp only [orig,if_neg h1]
   rw [List.getElem?_eq_getElem (show i - H.length < τ.length by omega),Option.getD_some]
   exact List.getElem_mem _
 refine ⟨fun i o' ho' => ?_,fun i j b h1 h2 => ?_,fun i b h1 => hR.own _ b (hblk i b h1).2.2,fun t => hR.hdr _,hR.keep,hR.size,hR.os,hR.tape,hR.output,fun i o' ho' => ?_,hR.fit⟩
 · rcases hget i o' ho' with rfl | ⟨_, o, g1, g2, g3⟩
   · trivial
   have hob := hR.obj _ o g1
   have hok := hR.ok _ o g1
   subst g2
   cases o with
   | cells l T =>
     have := renL_spec (R := C.R) (w := C.w1) (ρ := ρ) (ρ' := fun i => ρ (orig i)) l (fun t ht => hρ t (g3 t ht)) hok.1
     simp only [SObj.ren,ObjRel] at hob ⊢
     rw [this.2.2]; exact hob
   | seq κ xs E => exact hob
   | dead => trivial
   | lp f p F st =>
     obtain ⟨tmps,fn,dfr,g,ps,a,c,h1,h2,h3,h4⟩ := hob
     refine ⟨tmps,fn,dfr,g,ps,a,c,h1,h2,by rw [frRen_length]; exact h3,fun j v hv => ?_⟩
     obtain ⟨u,k1,rfl⟩ := frRen_get _ hv
     rw [(ren_spec (R := C.R) (w := C.w1) (ρ := ρ) (ρ' := fun i => ρ (orig i)) u (fun t ht => hρ t (g3 t (mem_frToks k1 ht))) (hok j u k1)).1]; exact h4 j u k1
 · obtain ⟨l1, m1, e1⟩ := hblk i b h1
   obtain ⟨l2,m2,e2⟩ := hblk j b h2
   have e := hR.sep _ _ b e1 e2
   by_cases hi:i < H.length <;> by_cases hj:j < H.length
   · simp only [orig,if_pos hi,if_pos hj] at e; exact e
   · exfalso
     have := hτ j hj l2
     rw [← e] at this
     simp only [orig,if_pos hi] at this
     have := memN_iff.2 this
     rw [m1 hi] at this; cases this
   · exfalso
     have := hτ i hi l1
     rw [e] at this
     simp only [orig,if_pos hj] at this
     have := memN_iff.2 this
     rw [m2 hj] at this; cases this
   · simp only [orig, if_neg hi, if_neg hj] at e
     rw [List.getElem?_eq_getElem (show i - H.length < τ.length by omega),List.getElem?_eq_getElem (show j - H.length < τ.length by omega),Option.getD_some,Option.getD_some] at e
     have := (List.getElem_inj hnd).1 e
     omega
 · rw [hlen]
   rcases hget i o' ho' with rfl | ⟨_,o,g1,g2,g3⟩
   · trivial
   have hok := hR.ok _ o g1
   subst g2
   cases o with
   | cells l T =>
     have := renL_spec (R := C.R) (w := C.w1) (ρ := ρ) (ρ' := fun i => ρ (orig i)) l (fun t ht => hρ t (g3 t ht)) hok.1
     exact ⟨this.2.1,by rw [ren_leaves]; exact hok.2⟩
   | seq κ xs E => trivial
   | dead => trivial
   | lp f p F st =>
     intro j v hv
     obtain ⟨u,k1,rfl⟩ := frRen_get _ hv
     exact (ren_spec (R := C.R) (w := C.w1) (ρ := ρ) (ρ' := fun i => ρ (orig i)) u (fun t ht => hρ t (g3 t (mem_frToks k1 ht))) (hok j u k1)).2
theorem freshSt_sound {b:Bool} {S:St} {K:St → Option α} {r:α} (h:freshSt b S K = some r):∃ S',K S' = some r ∧ SameGood S.H.length S S' := by
 unfold freshSt at h
 split at h
 · split at h
   · rename_i ts _
     split at h
     · rename_i objs hobjs
       split at h
       · rename_i hc
         simp only [Bool.and_eq_true] at hc
         obtain ⟨⟨⟨c1,c2⟩,c3⟩,c4⟩ := hc
         have hs := fresh_spec hobjs (nodupN_spec c1) (ltAll_spec c2) (ltAll_spec c3)
         refine ⟨_,h,by simp [killAt_length],fun C ρ tmps w hF hR => ?_⟩
         obtain ⟨ρ',e1,e2,e3⟩ := hs C ρ w hR
         have hlen:((killAt (seqsIn S.H ts) 0 S.H ++ objs).map (SObj.ren (frMap S.H.length (seqsIn S.H ts)))).length = S.H.length + (seqsIn S.H ts).length := by simp [(pickAll_get hobjs).1,killAt_length]
         refine ⟨ρ',e1,⟨by rw [frRen_length]; exact hF.size,fun i v hv => ?_⟩,e2⟩
         obtain ⟨u,g1,rfl⟩ := frRen_get _ hv
         obtain ⟨p1,p2⟩ := hF.val i u g1
         obtain ⟨q1,q2⟩ := ren_spec (ρ' := ρ') (n' := S.H.length + (seqsIn S.H ts).length) u (fun t ht => e3 t (ltAll_spec c4 t (mem_frToks g1 ht))) p2
         exact ⟨by rw [q1]; exact p1,by rw [hlen]; exact q2⟩
       · cases h
     · cases h
   · cases h
 · exact ⟨S,h,Nat.le_refl _,fun C ρ tmps w hF hR => ⟨ρ,fun _ _ => rfl,hF,hR⟩⟩
theorem cleanL_sound {fid:FuncId} {path:List Bool} {base:Nat} {S:St} {K:St → Option α} {r:α} (h:cleanL E fid path base S K = some r):∃ S',K S' = some r ∧ SameGood base S S' := by
 obtain ⟨S',h1,h2⟩ := gcSt_sound h
 exact ⟨S',h1,h2.len,fun C ρ tmps w hF hR => h2.rel C ρ tmps w (junked_rel _ _ hF) hR⟩
theorem cleanX_sound {fid:FuncId} {path:List Bool} {base:Nat} {S:St} {K:St → Option α} {r:α} (h:cleanX E fid path base S K = some r):∃ S',K S' = some r ∧ SameGood base S S' := by
 obtain ⟨S',h1,h2⟩ := gcSt_sound h
 exact ⟨S',h1,h2.len,fun C ρ tmps w hF hR => h2.rel C ρ tmps w (junked_rel _ _ hF) hR⟩
theorem leave_marks {fn:Func} {tmps:Array Value} {C:Cx} {ρ:Nat → Tk} {H:Hp} {n:Nat} {R:Ending → World → Prop} {v:SV} {F:Fr} (hv:resOf E H F fn.results = some v) (hF:FRel C ρ H.length F tmps) (hn:C.w1.heap.size ≤ n)
   (hend:∀ w,Rel C ρ H w → v.ok C.R C.w1 ρ H.length → R (.returned (den ρ v)) w):∀ (ms:List Deferred) (w:World),Rel C ρ H w → Marks ms n w ρ H → LeavesInM Fence.wide 0 E.P fn tmps R ms .returning w
 | [],w,hR,_ => by
   obtain ⟨r1,r2⟩ := resOf_spec E hF hR hv
   exact ⟨_,r1,hend w hR r2⟩
 | d :: ms,w,hR,m => by
   obtain ⟨D,e,h1,h2,h3⟩ := m.all d (by simp)
   refine ⟨by simp,.inl ⟨D,w.putObj D (.deferred none),by rw [e],run_takeDeferred h2,leave_marks hv hF hn hend ms _ (hR.putFree _ h3 (Nat.le_trans hn h1)) ⟨fun d' hd' => ?_,(List.nodup_cons.1 m.nodup).2⟩⟩⟩
   obtain ⟨D',e',k1,k2,k3⟩ := m.all d' (by simp [hd'])
   refine ⟨D',e',k1,?_,k3⟩
   rw [World.putObj_heap_other (fun hc => ?_)]
   · exact k2
   · subst hc
     exact (List.nodup_cons.1 m.nodup).1 (by rw [e,← e']; exact hd')
theorem callI_sound {look:LookF α} {run:RunF α} (hlook:LookOk E.P look) (hrun:RunOk E.P run):CallOk E.P (callI E look run) := by
 intro f args H K r h
 unfold callI at h
 split at h
 · rename_i c hc
   exact hlook f c args H K r hc h
 · split at h
   · rename_i fn hfn
     split at h
     · rename_i c hc
       split at h
       · rename_i hle
         have hle' := Nat.le_of_ble_eq_true hle
         obtain ⟨S0,h,hg0⟩ := freshSt_sound h
         obtain ⟨e,S',h1,hg1⟩ := hrun f [] H.length c S0 _ r ⟨fn,c,hfn,hc,rfl⟩ hg0.len h
         have hg : CodeGood E.P (inRnd E.P f []) H.length c ⟨enterF fn.ntmps args, H⟩ e S' := ⟨hg1.len, fun C ρ a w hF hR ro hro => by
           obtain ⟨ρ1,q1,q2,q3⟩ := hg0.rel C ρ a.tmps w hF hR
           refine Go.wpIn_mono (hg1.wp C ρ1 a w q2 q3 ro hro) fun ex a' w' hp => ?_
           obtain ⟨p1,ρ',ms,p2,p3,p4,p5,p6⟩ := hp
           exact ⟨p1,ρ',ms,p2,p3,p4,p5,fun t ht => by rw [p6 t ht,q1 t ht]⟩⟩
         have hex : (e = .normal ∨ e = .ret) ∧ (bindO (resOf E S'.H S'.F fn.results) fun v => gcRet H.length v S'.H K) = some r := by
           cases e with
           | normal => exact ⟨.inl rfl,h1⟩
           | ret => exact ⟨.inr rfl,h1⟩
           | exit id => cases h1
         obtain ⟨he,h2⟩ := hex
         obtain ⟨v,hv,h3⟩ := bindO_some h2
         -- the call itself
         have hcall:∀ (C:Cx) (ρ:Nat → Tk) (w:World),Rel C ρ H w → SV.okL C.R C.w1 ρ H.length args →
             Calls E.P f (denL ρ args).toArray w fun en w' => ∃ ρ',(∀ t,t < H.length → ρ' t = ρ t) ∧ en = .returned (den ρ' v) ∧ Rel C ρ' S'.H w' ∧ v.ok C.R C.w1 ρ' S'.H.length := by
           intro C ρ w hR hargs
           refine callsIn_wide.1 (callsIn_of_wp_marks (F := Fence.wide) (n := 0) hfn hc trivial ?_ rfl)
           have hF:FRel C ρ H.length (enterF fn.ntmps args) ((denL ρ args).toArray ++ Array.replicate (fn.ntmps - (denL ρ args).toArray.size) undef) := by
             refine ⟨by simp [enterF,denL_length],fun i u hu => ?_⟩
             unfold enterF at hu
             by_cases hi:i < args.length
             · rw [List.getElem?_append_left (by simpa using hi), List.getElem?_map] at hu
               cases hq:args[i]? with
               | none => simp [hq] at hu
               | some u' =>
                 simp only [hq,Option.map_some,Option.some.injEq] at hu
                 subst hu
                 refine ⟨?_,okL_iff.1 hargs _ (List.mem_of_getElem? hq)⟩
                 rw [Array.getElem?_append_left (by simpa [denL_length] using hi),List.getElem?_toArray]
                 exact denL_get ρ args i _ hq
             · rw [List.getElem?_append_right (by simpa using hi), List.getElem?_replicate] at hu
               split at hu
               · rename_i hlt
                 cases hu
                 refine ⟨?_,by simp [SV.ok,undef]⟩
                 rw [Array.getElem?_append_right (by simpa [denL_length] using hi)]
                 simp only [List.length_map] at hlt
                 simp only [List.size_toArray,denL_length,den,Array.getElem?_replicate]
                 rw [if_pos hlt]
               · cases hu
           refine Go.wpIn_mono (hg.wp C ρ { tmps := _,defers := [] } w hF hR none (fun _ => rfl)) fun ex a' w' hp => ?_
           obtain ⟨hex,ρ',ms,d0,dm,d2,d3,d4⟩ := hp
           have hlv := leave_marks E (R := fun en w' => ∃ ρ',(∀ t,t < H.length → ρ' t = ρ t) ∧ en = .returned (den ρ' v) ∧ Rel C ρ' S'.H w' ∧ v.ok C.R C.w1 ρ' S'.H.length) hv d2 hR.size (fun w hR' hok => ⟨ρ',d4,rfl,hR',hok⟩) ms w' d3 dm
           rw [List.append_nil] at d0
           rw [← d0] at hlv
           rcases he with rfl | rfl <;> subst hex <;> exact hlv
         unfold gcRet at h3
         split at h3
         · rename_i H2 hgc
           obtain ⟨_,l2,g3⟩ := gc_spec hgc
           refine ⟨v,H2,h3,l2,fun C ρ w hR hargs => (hcall C ρ w hR hargs).mono fun en w' hq => ?_⟩
           obtain ⟨ρ',q1,q2,q3,q4⟩ := hq
           obtain ⟨ρ2,e1,e2,e3,_⟩ := g3 C ρ' w' q3
           obtain ⟨rfl,e4⟩ := e3 rfl
           exact ⟨ρ2,q1,q2,e2,ok_of_toks v e4 q4⟩
         · rename_i τ H2 hne hgc
           obtain ⟨_,l2,g3⟩ := gc_spec hgc
           refine ⟨_,H2,h3,l2,fun C ρ w hR hargs => (hcall C ρ w hR hargs).mono fun en w' hq => ?_⟩
           obtain ⟨ρ',q1,q2,q3,q4⟩ := hq
           obtain ⟨ρ2,e1,e2,_,e3⟩ := g3 C ρ' w' q3
           have e3 := e3 (fun e => hne e)
           obtain ⟨p1,p2⟩ := ren_spec (ρ' := ρ2) (n' := List.length H2) v e3 q4
           exact ⟨ρ2,fun t ht => by rw [e1 t ht,q1 t ht],by rw [p1]; exact q2,e2,p2⟩
         · cases h3
       · cases h
     · cases h
   · cases h
theorem roomFw (ro:Option Nat) (n:Nat):(Fw ro).room n := fun _ h => by cases h
theorem iter_sound {rd:Bool} {base:Nat} {c:Code} {step:St → (Ex → St → Option α) → Option α}
   (hstep:∀ S K r,base ≤ S.H.length → step S K = some r → ∃ e S1 S',K e S' = some r ∧ CodeGood E.P rd base c S e S1 ∧ SameGood base S1 S'):∀ (L:Nat) (S:St) (K:Ex → St → Option α) (r:α),base ≤ S.H.length → iter step L S K = some r →
   ∃ e S',K e S' = some r ∧ base ≤ S'.H.length ∧ ∀ (C:Cx) (ρ:Nat → Tk) (a:Act) (w:World),FRel C ρ S.H.length S.F a.tmps → Rel C ρ S.H w → ∀ (ro:Option Nat),(rd = false → ro = none) → ∀ (b:Frame) (k:List Item) (cs:List Frame),b.roundOf = ro →
     ∃ ex a' w',(ex = e.exit' ∧ ∃ ρ' ms,a'.defers = ms ++ a.defers ∧ Marks ms w.heap.size w' ρ' S'.H ∧ FRel C ρ' S'.H.length S'.F a'.tmps ∧ Rel C ρ' S'.H w' ∧ ∀ t,t < base → ρ' t = ρ t) ∧
       ArrivesIn (Machine.fenced E.P (Fw ro)) E.P (lone (b.atR a (.code c :: .inLoop c :: k)) cs w) b k cs ex a' w'
 | 0,S,K,r,_,h => by simp [iter] at h
 | L + 1,S,K,r,hb,h => by
   simp only [iter] at h
   obtain ⟨e,S1,S',h1,g1,g2⟩ := hstep S _ r hb h
   have leave:∀ (x:Ex),x = e → x ≠ .normal → K e S' = some r → ∃ e S',K e S' = some r ∧ base ≤ S'.H.length ∧ ∀ (C:Cx) (ρ:Nat → Tk) (a:Act) (w:World),FRel C ρ S.H.length S.F a.tmps → Rel C ρ S.H w → ∀ (ro:Option Nat),(rd = false → ro = none) → ∀ (b:Frame) (k:List Item) (cs:List Frame),b.roundOf = ro →
     ∃ ex a' w',(ex = e.exit' ∧ ∃ ρ' ms,a'.defers = ms ++ a.defers ∧ Marks ms w.heap.size w' ρ' S'.H ∧ FRel C ρ' S'.H.length S'.F a'.tmps ∧ Rel C ρ' S'.H w' ∧ ∀ t,t < base → ρ' t = ρ t) ∧
       ArrivesIn (Machine.fenced E.P (Fw ro)) E.P (lone (b.atR a (.code c :: .inLoop c :: k)) cs w) b k cs ex a' w' := by
     intro x hx hne hk
     refine ⟨e,S',hk,g2.len,fun C ρ a w hF hR ro hro b k cs hbo => ?_⟩
     obtain ⟨ex,a',w',⟨p1,ρ',ms,p2,p3,p4,p5,p6⟩,harr⟩ := g1.wp C ρ a w hF hR ro hro b (.inLoop c :: k) cs hbo trivial (roomFw ro _)
     obtain ⟨ρ2,q1,q2,q3,q4⟩ := g2.step p4 p5
     refine ⟨ex,a',w',⟨p1,ρ2,ms,p2,p3.apart q4,q2,q3,fun t ht => by rw [q1 t ht,p6 t ht]⟩,?_⟩
     refine .pass (x := .inLoop c) rfl (fun _ _ => .inl ?_) harr
     rw [p1,← hx]
     cases x <;> simp [Ex.exit'] at hne ⊢
   cases e with
   | exit id => exact leave (.exit id) rfl (by simp) h1
   | ret => exact leave .ret rfl (by simp) h1
   | normal =>
     obtain ⟨e2,S2,h2,l2,g3⟩ := iter_sound hstep L S' K r g2.len h1
     refine ⟨e2,S2,h2,l2,fun C ρ a w hF hR ro hro b k cs hbo => ?_⟩
     obtain ⟨ex,a',w',⟨p1,ρ',ms,p2,p3,p4,p5,p6,p7⟩,harr⟩ := g1.step hF hR ro hro b (.inLoop c :: k) cs hbo trivial (roomFw ro _)
     obtain ⟨ρ2,q1,q2,q3,q4⟩ := g2.step p4 p5
     obtain ⟨ex2,a2,w2,⟨s1,ρ3,ms2,s2,s3,s4,s5,s6⟩,harr2⟩ := g3 _ ρ2 a' w' (q2.into q3) q3.into ro hro b k cs hbo
     subst p1
     refine ⟨ex2,a2,w2,⟨s1,ρ3,ms2 ++ ms,by rw [s2,p2,List.append_assoc],Marks.append (p3.apart q4) s5.apart s3 p7.size,s4.outer q3,q3.outer s5,fun t ht => by rw [s6 t ht,q1 t ht,p6 t ht]⟩,?_⟩
     have hst:StepsIn (Machine.fenced E.P (Fw ro)) E.P (lone (b.atR a (.code c :: .inLoop c :: k)) cs w) (lone (b.atR a' (.inLoop c :: k)) cs w') := harr
     exact .of_steps (hst.trans (.one (fenced_calm (F := Fw ro) (n := 0) trivial (roomFw ro _) rfl) stepR_inLoop)) harr2
theorem CodeGood.after {P:Program} {rd:Bool} {base:Nat} {c:Code} {S S1:St} {e:Ex} {S':St} (h0:SameGood base S S1) (h:CodeGood P rd base c S1 e S'):CodeGood P rd base c S e S' :=
 ⟨h.len, fun C ρ a w hF hR ro hro => by
   obtain ⟨ρ1,q1,q2,q3⟩ := h0.rel C ρ a.tmps w hF hR
   refine Go.wpIn_mono (h.wp C ρ1 a w q2 q3 ro hro) fun ex a' w' hp => ?_
   obtain ⟨p1,ρ',ms,p2,p3,p4,p5,p6⟩ := hp
   exact ⟨p1,ρ',ms,p2,p3,p4,p5,fun t ht => by rw [p6 t ht,q1 t ht]⟩⟩
theorem sub_step {P:Program} {fid:FuncId} {path:List Bool} {c d:Code} {b:Bool} (h:Stands P fid path c) (hd:∀ root,sub root path = some c → sub root (b :: path) = some d):Stands P fid (b :: path) d := by
 obtain ⟨fn,body,h1,h2,h3⟩ := h
 exact ⟨fn,body,h1,h2,hd body h3⟩
theorem inRnd_step {P:Program} {fid:FuncId} {path:List Bool} {c:Code} {b:Bool} (h:Stands P fid path c) (hc:∀ g ps a d,c ≠ .rangeFunc g ps a d):inRnd P fid (b :: path) = inRnd P fid path := by
 obtain ⟨fn,body,h1,h2,h3⟩ := h
 unfold inRnd bodyOf
 simp only [h1,Option.bind_some,h2]
 show (rounds body path || _) = _
 rw [h3]
 cases c <;> simp
 case rangeFunc g ps a d => exact absurd rfl (hc g ps a d)
theorem inRnd_range {P:Program} {fid:FuncId} {path:List Bool} {g:Operand} {ps:Array Tmp} {a c:Code} (h:codeIn P fid path = some (.rangeFunc g ps a c)) (b:Bool):inRnd P fid (b :: path) = true := by
 unfold codeIn at h
 unfold inRnd
 cases hb:bodyOf P fid with
 | none => simp [hb] at h
 | some body =>
   simp only [hb,Option.bind_some] at h
   show (rounds body path || _) = true
   rw [h]; simp
end
end
section
open Go Go.RowKit
def Cx.inner (C:Cx) (ρ:Nat → Tk) (H:Hp) (T:Nat → Prop) (w:World):Cx :=
 { R := C.R,w1 := w,Own := fun b => w.heap.size ≤ b ∨ ∃ t,T t ∧ blkOf ρ H t = some b }
theorem maskH_get {T : List Nat} : ∀ {H : Hp} {i t : Nat}, (maskH T i H)[t]? = (H[t]?).map fun o => if memN (i + t) T then o else .dead
 | [],i,t => by simp [maskH]
 | o :: H,i,0 => by simp [maskH]
 | o :: H,i,t + 1 => by
   simp only [maskH,List.getElem?_cons_succ]
   rw [maskH_get (H := H),show i + 1 + t = i + (t + 1) by omega]
theorem maskH_length {T:List Nat}:∀ {H:Hp} {i:Nat},(maskH T i H).length = H.length
 | [],i => rfl
 | o :: H,i => by simp [maskH,maskH_length (H := H)]
theorem mergeH_get {T:List Nat}:∀ {H M:Hp} {i t:Nat},H.length ≤ M.length → (mergeH T i H M)[t]? = if t < H.length then (if memN (i + t) T then M[t]? else H[t]?) else none
 | [],M,i,t,_ => by simp [mergeH]
 | o :: H,[],i,t,h => by simp at h
 | o :: H,p :: M,i,0,h => by simp only [mergeH,List.getElem?_cons_zero,Nat.add_zero]; split <;> simp
 | o :: H,p :: M,i,t + 1,h => by
   simp only [mergeH,List.getElem?_cons_succ,List.length_cons]
   rw [mergeH_get (H := H) (by simpa using h),show i + 1 + t = i + (t + 1) by omega]
   simp only [Nat.add_lt_add_iff_right]
theorem mergeH_length {T:List Nat}:∀ {H M:Hp} {i:Nat},H.length ≤ M.length → (mergeH T i H M).length = H.length
 | [],M,i,_ => rfl
 | o :: H,[],i,h => by simp at h
 | o :: H,p :: M,i,h => by simp only [mergeH,List.length_cons]; rw [mergeH_length (H := H) (by simpa using h)]
theorem objBlk_mask {tk:Tk} {o:SObj} {c:Bool} {b:Nat} (h:objBlk tk (if c then o else .dead) = some b):c = true ∧ objBlk tk o = some b := by
 cases c
 · cases h
 · exact ⟨rfl,h⟩
theorem Rel.mask {C : Cx} {ρ : Nat → Tk} {H : Hp} {w : World} (h : Rel C ρ H w) (T : List Nat) : Rel (C.inner ρ H (· ∈ T) w) ρ (maskH T 0 H) w := by
 have hg : ∀ t o, (maskH T 0 H)[t]? = some o → ∃ o', H[t]? = some o' ∧ o = if memN t T then o' else .dead := fun t o ho => by
   rw [maskH_get] at ho
   cases hq:H[t]? with
   | none => simp [hq] at ho
   | some o' => simp only [hq,Option.map_some,Option.some.injEq,Nat.zero_add] at ho; exact ⟨o',rfl,ho.symm⟩
 have hb : ∀ t b, blkOf ρ (maskH T 0 H) t = some b → t ∈ T ∧ blkOf ρ H t = some b := fun t b hb => by
   obtain ⟨o,ho,h2⟩ := blkOf_get hb
   obtain ⟨o',h3,rfl⟩ := hg t o ho
   obtain ⟨h4,h5⟩ := objBlk_mask h2
   exact ⟨memN_iff.1 h4,by rw [blkOf_eq h3]; exact h5⟩
 refine ⟨fun t o ho => ?_,fun t t' b h1 h2 => h.sep t t' b (hb t b h1).2 (hb t' b h2).2,fun t b h1 => .inr ⟨t,(hb t b h1).1,(hb t b h1).2⟩,h.hdr,fun _ _ _ => rfl,Nat.le_refl _,rfl,rfl,rfl,fun t o ho => ?_,⟨fun b hb => .inl hb,fun b hr => ?_⟩⟩
 · obtain ⟨o', h3, rfl⟩ := hg t o ho
   have := h.obj t o' h3
   split
   · exact this
   · trivial
 · obtain ⟨o', h3, rfl⟩ := hg t o ho
   rw [maskH_length]
   split
   · exact SObj.ok_world h.roKeep (h.ok t o' h3)
   · trivial
 · have hlt : b < w.heap.size := Nat.lt_of_lt_of_le (h.fit.ro b hr).1 h.size
   refine ⟨hlt,fun hc => ?_⟩
   rcases hc with hc | ⟨t,_,ht⟩
   · exact absurd hlt (by show ¬ b < w.heap.size; omega)
   · exact (h.fit.ro b hr).2 (h.own t b ht)
theorem Rel.unmask {C:Cx} {ρ ρ':Nat → Tk} {H M:Hp} {w w':World} {T:List Nat} (h:Rel C ρ H w) (hM:Rel (C.inner ρ H (· ∈ T) w) ρ' M w') (hl:H.length ≤ M.length) (hr:∀ t,t < H.length → ρ' t = ρ t) :
   Rel C ρ' (mergeH T 0 H M ++ M.drop H.length) w' := by
 have hml := mergeH_length (T := T) (i := 0) hl
 have hlen:(mergeH T 0 H M ++ M.drop H.length).length = M.length := by rw [List.length_append,hml,List.length_drop]; omega
 -- where an object comes from
 have hg:∀ t o,(mergeH T 0 H M ++ M.drop H.length)[t]? = some o → (t < H.length ∧ t ∉ T ∧ H[t]? = some o) ∨ ((t ∈ T ∨ H.length ≤ t) ∧ M[t]? = some o) := fun t o ho => by
   by_cases ht:t < H.length
   · rw [List.getElem?_append_left (by omega), mergeH_get hl, if_pos ht, Nat.zero_add] at ho
     by_cases hT:memN t T = true
     · rw [if_pos hT] at ho; exact .inr ⟨.inl (memN_iff.1 hT),ho⟩
     · rw [if_neg hT] at ho; exact .inl ⟨ht,fun h => hT (memN_iff.2 h),ho⟩
   · rw [List.getElem?_append_right (by omega), List.getElem?_drop, hml] at ho
     refine .inr ⟨.inr (by omega),?_⟩
     rw [show H.length + (t - H.length) = t by omega] at ho; exact ho
 have hb:∀ t b,blkOf ρ' (mergeH T 0 H M ++ M.drop H.length) t = some b → (t < H.length ∧ t ∉ T ∧ blkOf ρ H t = some b) ∨ ((t ∈ T ∨ H.length ≤ t) ∧ blkOf ρ' M t = some b) := fun t b hb => by
   obtain ⟨o,ho,h2⟩ := blkOf_get hb
   rcases hg t o ho with ⟨h3,h4,h5⟩ | ⟨h3,h5⟩
   · refine .inl ⟨h3, h4, ?_⟩
     rw [blkOf_eq h5,← hr t h3]; exact h2
   · exact .inr ⟨h3,by rw [blkOf_eq h5]; exact h2⟩
 have hapart : ∀ t t' b, t ∉ T → blkOf ρ H t = some b → blkOf ρ' M t' = some b → False := fun t t' b hT h1 h2 => by
   have hlt := blk_lt h h1
   rcases hM.own t' b h2 with hc | ⟨s,hs,hs2⟩
   · exact absurd hlt (Nat.not_lt.2 hc)
   · have := h.sep t s b h1 hs2
     subst this
     exact hT hs
 have hout : ∀ b, b < w.heap.size → (∀ t, t ∈ T → blkOf ρ H t ≠ some b) → w'.heap[b]? = w.heap[b]? := fun b hlt hn => hM.keep b hlt fun hc => by
   rcases hc with hc | ⟨t,ht,ht2⟩
   · exact absurd hlt (Nat.not_lt.2 hc)
   · exact hn t ht ht2
 refine ⟨fun t o ho => ?_,fun t t' b h1 h2 => ?_,fun t b h1 => ?_,hM.hdr,fun b h1 h2 => ?_,Nat.le_trans h.size hM.size,hM.os.trans h.os,hM.tape.trans h.tape,hM.output.trans h.output,fun t o ho => ?_,h.fit⟩
 · rcases hg t o ho with ⟨h3, h4, h5⟩ | ⟨_, h5⟩
   · rw [hr t h3]
     refine (h.obj t o h5).agree (C := C) (n := H.length) (h.ok t o h5) hr fun b hbb => hout b ?_ fun s hs hs2 => ?_
     · exact blk_lt h (t := t) (by rw [blkOf_eq h5]; exact hbb)
     · have := h.sep t s b (by rw [blkOf_eq h5]; exact hbb) hs2
       subst this
       exact h4 hs
   · exact hM.obj t o h5
 · rcases hb t b h1 with ⟨_, g2, g3⟩ | ⟨_, g3⟩ <;> rcases hb t' b h2 with ⟨_, k2, k3⟩ | ⟨_, k3⟩
   · exact h.sep t t' b g3 k3
   · exact (hapart t t' b g2 g3 k3).elim
   · exact (hapart t' t b k2 k3 g3).elim
   · exact hM.sep t t' b g3 k3
 · rcases hb t b h1 with ⟨_, _, g3⟩ | ⟨_, g3⟩
   · exact h.own t b g3
   · rcases hM.own t b g3 with hc | ⟨s, _, hs2⟩
     · exact h.fit.new b (Nat.le_trans h.size hc)
     · exact h.own s b hs2
 · rw [hout b (Nat.lt_of_lt_of_le h1 h.size) fun t _ ht => h2 (h.own t b ht)]
   exact h.keep b h1 h2
 · rw [hlen]
   rcases hg t o ho with ⟨h3,h4,h5⟩ | ⟨_,h5⟩
   · exact SObj.ok_mono hl (SObj.ok_agree hr (h.ok t o h5))
   · exact SObj.ok_world (fun b hb => (h.roKeep b hb).symm) (hM.ok t o h5)
end
section
open Go
section
variable (E:Env) {α:Type}
theorem bindO_congr {β γ:Type} {x:Option β} {f g:β → Option γ} (h:∀ b,x = some b → f b = g b):bindO x f = bindO x g := by
 cases x with
 | none => rfl
 | some b => exact h b rfl
def PureOk (pu:Nat → Nat → Bool) (callf:CallF α):Prop :=
 ∀ g args H K K',pu g args.length = true → (∀ v M,(M.length = H.length → M = H) → K v M = K' v M) → callf g args H K = callf g args H K'
theorem opY_pure {callf:CallF α} {yf:YldF α} {pu:Nat → Nat → Bool} (hpu:PureOk pu callf) {o:Oper} {F:Fr} {H:Hp} {K K':SV → Hp → Option α} (h:pureOf pu o F = true)
   (hK:∀ v M,(M.length = H.length → M = H) → K v M = K' v M):opY E callf yf o F H K = opY E callf yf o F H K' := by
 unfold pureOf at h
 split at h
 · rename_i c ho
   split at h
   · rename_i f hc
     split at h
     · rename_i g first cap asx hf has
       have e1:∀ K:SV → Hp → Option α,opY E callf yf o F H K = (if Nat.beq g E.add64 && (E.P.funcs[g]?).isSome then addS (first ++ asx ++ cap) (fun v => K v H) else if Nat.beq g E.sub64 && (E.P.funcs[g]?).isSome then subS (first ++ asx ++ cap) (fun v => K v H)
           else match E.P.funcs[g]? with | some fn => (if fn.body.isSome && fn.name != "runtime.NumGoroutine" then callf g (first ++ asx ++ cap) H K else none) | none => none) := by
         intro K
         have hy:yldOf o F = none := by simp [yldOf,ho,hc,hf]
         unfold opY
         rw [hy]
         simp only [opS,ho,has,bindO,hc,hf]
         rfl
       rw [e1,e1]
       have hv:(fun v => K v H) = fun v => K' v H := funext fun v => hK v H (fun _ => rfl)
       rw [hv]
       split
       · rfl
       · split
         · rfl
         · split
           · split
             · exact hpu _ _ _ _ _ h hK
             · rfl
           · rfl
     · cases h
   · cases h
 · cases h
open Classical in
theorem opY_soundP (hE:EnvOk E) {callf:CallF α} {yf:YldF α} {pu:Nat → Nat → Bool} (hcall:CallOk E.P callf) (hy:YldOk E.P yf) (hpu:PureOk pu callf) (o:Oper) (F:Fr) (H:Hp) (K:SV → Hp → Option α) (r:α) (h:opY E callf yf o F H K = some r) :
   ∃ v H',K v H' = some r ∧ (isWr o = false → ∃ l,H' = H ++ l) ∧ (pureOf pu o F = true → H'.length = H.length → H' = H) ∧ ∀ F',Agree o F F' → OpGood E.P o F' H v H' := by
 by_cases hp:pureOf pu o F = true
 · rw [opY_pure E hpu (K' := fun v M => if (M.length = H.length → M = H) then K v M else none) hp (fun v M hM => by rw [if_pos hM])] at h
   obtain ⟨v,H',h1,h2,h3⟩ := opY_sound E hE hcall hy o F H _ r h
   split at h1
   · rename_i hc
     exact ⟨v,H',h1,h2,fun _ => hc,h3⟩
   · cases h1
 · obtain ⟨v, H', h1, h2, h3⟩ := opY_sound E hE hcall hy o F H _ r h
   exact ⟨v,H',h1,h2,fun hc => absurd hc hp,h3⟩
structure PInv (A:List Nat) (H0:Hp) (S:St):Prop where
 pre:∃ l,S.H = H0 ++ l
 ptr:∀ a,memN a A = true → ∀ v,S.F[a]? = some (some v) → v = .raw undef ∨ ∃ t off,v = .ptr t off ∧ H0.length ≤ t
theorem PInv.put {A:List Nat} {H0:Hp} {F:Fr} {H:Hp} (h:PInv A H0 ⟨F,H⟩) {d:Option Tmp} (hd:dstIn d A = false) (v:SV) (l:Hp):PInv A H0 ⟨put F d v,H ++ l⟩ := by
 obtain ⟨l0,h0⟩ := h.pre
 refine ⟨⟨l0 ++ l,by simp only at h0 ⊢; rw [h0,List.append_assoc]⟩,fun a ha u hu => ?_⟩
 cases d with
 | none => exact h.ptr a ha u hu
 | some d =>
   have hne:d ≠ a := by
     intro e
     subst e
     simp only [dstIn] at hd
     rw [hd] at ha; cases ha
   simp only [Sx.put] at hu
   rw [List.getElem?_set_ne hne] at hu
   exact h.ptr a ha u hu
theorem PInv.put0 {A:List Nat} {H0:Hp} {F:Fr} {H:Hp} (h:PInv A H0 ⟨F,H⟩) {d:Option Tmp} (hd:dstIn d A = false) (v:SV):PInv A H0 ⟨Sx.put F d v,H⟩ := by
 have := h.put hd v []
 rwa [List.append_nil] at this
theorem PInv.new {A:List Nat} {H0:Hp} {F:Fr} {H:Hp} (h:PInv A H0 ⟨F,H⟩) (d:Option Tmp) (l m:Hp):PInv A H0 ⟨Sx.put F d (.ptr (H ++ l).length 0),H ++ l ++ m⟩ := by
 obtain ⟨l0,h0⟩ := h.pre
 simp only at h0
 refine ⟨⟨l0 ++ l ++ m,by simp only; rw [h0]; simp [List.append_assoc]⟩,fun a ha u hu => ?_⟩
 cases d with
 | none => exact h.ptr a ha u hu
 | some d =>
   simp only [Sx.put] at hu
   by_cases e:d = a
   · subst e
     rw [List.getElem?_set] at hu
     simp only [if_true] at hu
     split at hu
     · simp only [Option.some.injEq] at hu
       exact .inr ⟨_,_,hu.symm,by rw [h0]; simp only [List.length_append]; omega⟩
     · cases hu
   · rw [List.getElem?_set_ne e] at hu
     exact h.ptr a ha u hu
theorem storeAt_pre {H0 l:Hp} {T:TypeId} {t off:Nat} {v:SV} {H':Hp} (ht:H0.length ≤ t) (h:storeAt E (H0 ++ l) T (.ptr t off) v = some H'):∃ l',H' = H0 ++ l' := by
 unfold storeAt at h
 split at h
 · simp only at h
   split at h
   · obtain ⟨l', h1, h2⟩ := bindO_some h
     cases h2
     exact ⟨l.set (t - H0.length) _,by rw [List.set_append_right _ _ ht]⟩
   · cases h
 · cases h
theorem storeAt_raw {H:Hp} {T:TypeId} {u:Value} {v:SV}:storeAt E H T (.raw u) v = none := by
 unfold storeAt
 split <;> rfl
theorem opS_pure {callf:CallF α} {A:List Nat} {H0:Hp} {o:Oper} {F:Fr} {H:Hp} {K K':SV → Hp → Option α} (hp:pureO A o = true) (hI:PInv A H0 ⟨F,H⟩)
   (hK:∀ v H',PInv A H0 ⟨put F o.dst v,H'⟩ → K v H' = K' v H'):opS E callf o F H K = opS E callf o F H K' := by
 unfold pureO at hp
 rw [Bool.and_eq_true] at hp
 obtain ⟨_,hp⟩ := hp
 have hset:dstIn o.dst A = false → (∀ v,K v H = K' v H) ∧ ∀ v l,K v (H ++ l) = K' v (H ++ l) := fun hd => ⟨fun v => hK v H (hI.put0 hd v),fun v l => hK v _ (hI.put hd v l)⟩
 split at hp
 · rename_i T hop
   simp only [opS,hop]
   have hn:∀ l m,K (.ptr (H ++ l).length 0) (H ++ l ++ m) = K' (.ptr (H ++ l).length 0) (H ++ l ++ m) := fun l m => hK _ _ (hI.new o.dst l m)
   have hn0 : ∀ m, K (.ptr H.length 0) (H ++ m) = K' (.ptr H.length 0) (H ++ m) := fun m => by
     have := hn [] m
     rwa [List.append_nil] at this
   simp only [hn,hn0]
 · rename_i T a x hop
   rw [Bool.and_eq_true] at hp
   obtain ⟨ha,hd⟩ := hp
   have hd':o.dst = none := by
     cases h:o.dst with
     | none => rfl
     | some d => rw [h] at hd; cases hd
   obtain ⟨l0,h0⟩ := hI.pre
   simp only at h0
   have hst:∀ (l:Hp) (av v:SV) (H':Hp),opd F (.tmp a) = some av → storeAt E (H ++ l) T av v = some H' → K (.raw undef) H' = K' (.raw undef) H' := by
     intro l av v H' hav hs
     have hav':F[a]? = some (some av) := by
       simp only [opd] at hav
       cases hq:F[a]? with
       | none => simp [hq] at hav
       | some y => cases y <;> simp_all
     rcases hI.ptr a ha av hav' with e | ⟨t,off,e,ht⟩
     · subst e
       rw [storeAt_raw] at hs; cases hs
     · subst e
       rw [h0,List.append_assoc] at hs
       obtain ⟨l',hl'⟩ := storeAt_pre E ht hs
       refine hK _ _ ⟨⟨l',hl'⟩,fun b hb u hu => ?_⟩
       rw [hd'] at hu
       exact hI.ptr b hb u hu
   simp only [opS,hop]
   refine bindO_congr fun av hav => bindO_congr fun v hv => ?_
   split
   · refine bindO_congr fun ts hts => bindO_congr fun v' hv' => bindO_congr fun H' hH' => ?_
     split
     · exact hst _ _ _ _ hav hH'
     · rfl
   · refine bindO_congr fun H' hH' => ?_
     have hH2 := hH'
     rw [show H = H ++ [] by rw [List.append_nil]] at hH2
     exact hst [] _ _ _ hav hH2
 all_goals first
   | (rename_i hop
      obtain ⟨h1,h2⟩ := hset (by simpa using hp)
      simp only [opS,hop,h1,h2]; done)
   | (cases hp; done)
theorem opsL_pure {callf:CallF α} {yf:YldF α} {A:List Nat} {H0:Hp} (ops:Array Oper):∀ (l:List Oper) (S:St) (K K':St → Option α),l.all (pureO A) = true → PInv A H0 S → (∀ S',PInv A H0 S' → K S' = K' S') → opsL E callf yf ops l S K = opsL E callf yf ops l S K'
 | [],S,K,K',_,hI,hK => hK S hI
 | o :: l,S,K,K',hl,hI,hK => by
   simp only [List.all_cons,Bool.and_eq_true] at hl
   obtain ⟨ho,hl⟩ := hl
   have hg:o.guard = none := by
     unfold pureO at ho
     rw [Bool.and_eq_true] at ho
     cases h:o.guard with
     | none => rfl
     | some x => rw [h] at ho; exact absurd ho.1 (by simp)
   have hy:yldOf o S.F = none := by
     unfold yldOf
     split
     · rename_i c hc
       unfold pureO at ho
       rw [hc,Bool.and_eq_true] at ho
       exact absurd ho.2 (by simp)
     · rfl
   have e:∀ K:St → Option α,opsL E callf yf ops (o :: l) S K = opS E callf o S.F S.H fun v H => opsL E callf yf ops l ⟨put S.F o.dst v,H⟩ K := by
     intro K
     simp only [opsL,op1,hg,opY,hy]
   rw [e,e]
   exact opS_pure E ho hI fun v H' hI' => opsL_pure ops l _ K K' hl hI' hK
theorem exec_pure {look:LookF α} {lps:LookL α} {A:List Nat} {H0:Hp}:∀ (n:Nat) (fid:FuncId) (path:List Bool) (base:Nat) (c:Code) (S:St) (K K':Ex → St → Option α),pureC A c = true → PInv A H0 S → (∀ e S',PInv A H0 S' → K e S' = K' e S') →
   exec E look lps n fid path base c S K = exec E look lps n fid path base c S K'
 | 0,_,_,_,_,_,_,_,_,_,_ => rfl
 | n + 1,fid,path,base,c,S,K,K',hc,hI,hK => by
   cases c with
   | skip => simp only [exec]; exact hK _ _ hI
   | label id => simp only [exec]; exact hK _ _ hI
   | ret => simp only [exec]; exact hK _ _ hI
   | exit id => simp only [exec]; exact hK _ _ hI
   | seq a b =>
     simp only [pureC,Bool.and_eq_true] at hc
     simp only [exec]
     refine exec_pure n _ _ _ a S _ _ hc.1 hI fun e S' hI' => ?_
     cases e with
     | normal => exact exec_pure n _ _ _ b S' _ _ hc.2 hI' hK
     | exit id => exact hK _ _ hI'
     | ret => exact hK _ _ hI'
   | cond x a b =>
     simp only [pureC,Bool.and_eq_true] at hc
     obtain ⟨⟨hx,ha⟩,hb⟩ := hc
     have hS:∀ t,PInv A H0 (setOpd x t S) := by
       intro t
       cases x with
       | tmp d =>
         refine ⟨hI.pre,fun a ha u hu => hI.ptr a ha u ?_⟩
         have hne:d ≠ a := by
           intro e
           subst e
           simp only [ha] at hx
           cases hx
         simp only [setOpd] at hu
         rwa [List.getElem?_set_ne hne] at hu
       | _ => exact hI
     simp only [exec]
     split
     · rename_i t _
       split
       · exact exec_pure n _ _ _ a _ _ _ ha (hS true) hK
       · exact exec_pure n _ _ _ b _ _ _ hb (hS false) hK
     · rfl
   | block id c =>
     simp only [pureC] at hc
     simp only [exec]
     refine exec_pure n _ _ _ c S _ _ hc hI fun e S' hI' => ?_
     cases e with
     | normal => exact hK _ _ hI'
     | exit id' =>
       simp only
       split
       · exact hK _ _ hI'
       · exact hK _ _ hI'
     | ret => exact hK _ _ hI'
   | scope c =>
     simp only [pureC] at hc
     simp only [exec]
     exact exec_pure n _ _ _ c S _ _ hc hI hK
   | region id ops draw =>
     simp only [pureC,Bool.and_eq_true,Bool.not_eq_true'] at hc
     obtain ⟨hd,hops⟩ := hc
     subst hd
     simp only [exec]
     exact opsL_pure E ops ops.toList S _ _ hops hI fun S' hI' => hK _ _ hI'
   | _ => simp [pureC] at hc
theorem gcRet_pure {H0 H:Hp} {v:SV} {K K':SV → Hp → Option α} (hp:∃ l,H = H0 ++ l) (hK:∀ v M,(M.length = H0.length → M = H0) → K v M = K' v M):gcRet H0.length v H K = gcRet H0.length v H K' := by
 obtain ⟨l,hl⟩ := hp
 have ht:H.take H0.length = H0 := by rw [hl,List.take_left]
 unfold gcRet
 cases hg:gc H H0.length v.toks with
 | none => rfl
 | some x =>
   obtain ⟨τ,M⟩ := x
   unfold gc at hg
   split at hg
   · rename_i τ' hr
     split at hg
     · rename_i objs ho
       split at hg
       · cases τ' with
         | nil =>
           simp only [Option.some.injEq,Prod.mk.injEq] at hg
           obtain ⟨rfl,rfl⟩ := hg
           exact hK _ _ (fun _ => ht)
         | cons t τ2 =>
           simp only [Option.some.injEq,Prod.mk.injEq] at hg
           obtain ⟨rfl,rfl⟩ := hg
           refine hK _ _ (fun hlen => ?_)
           have := (pickAll_get ho).1
           rw [List.length_map,List.length_append,ht,this] at hlen
           simp at hlen
       · cases hg
     · cases hg
   · cases hg
theorem pure_ok (look:LookF α) (lps:LookL α) (n:Nat):PureOk (fun g k => (look g).isNone && pureFn E g k) (callI E look (exec E look lps n)) := by
 intro g args H K K' h hK
 simp only [Bool.and_eq_true] at h
 obtain ⟨hl,h⟩ := h
 have hl':look g = none := by
   cases hq:look g with
   | none => rfl
   | some c => rw [hq] at hl; cases hl
 unfold pureFn at h
 rw [Bool.and_eq_true,Bool.not_eq_true'] at h
 obtain ⟨hf,h⟩ := h
 unfold callI
 rw [hl']
 simp only
 split at h
 · rename_i fn hfn
   rw [hfn]
   simp only
   split at h
   · rename_i c hb
     rw [Bool.and_eq_true] at h
     obtain ⟨hc,hge⟩ := h
     split
     · rw [hf]
       simp only [freshSt]
       have hI:PInv (allocsC c) H ⟨enterF fn.ntmps args,H⟩ := by
         refine ⟨⟨[],by simp⟩,fun a ha u hu => .inl ?_⟩
         have hle := allGe_spec hge a (memN_iff.1 ha)
         simp only [enterF] at hu
         rw [List.getElem?_append_right (by rw [List.length_map]; exact hle),List.getElem?_replicate] at hu
         split at hu
         · simp only [Option.some.injEq] at hu; exact hu.symm
         · cases hu
       refine exec_pure E n g [] H.length c _ _ _ hc hI fun e S' hI' => ?_
       cases e with
       | exit id => rfl
       | normal => exact bindO_congr fun v _ => gcRet_pure hI'.pre hK
       | ret => exact bindO_congr fun v _ => gcRet_pure hI'.pre hK
     · rfl
   · cases h
 · cases h
end
end
section
open Go Go.RowKit
theorem swapTo_lt {N s t:Nat} (h:t < N):swapTo N s t = t := by
 unfold swapTo
 have:Nat.blt t N = true := Nat.ble_eq_true_of_le h
 rw [if_pos this]
theorem swapTo_ge {N s t:Nat} (h:¬ t < N):swapTo N s t = s + (t - N) := by
 unfold swapTo
 have:¬ Nat.blt t N = true := fun hb => h (Nat.le_of_ble_eq_true hb)
 rw [if_neg this]
theorem mem_upFrom {t:Nat}:∀ {n s:Nat},t ∈ upFrom s n ↔ s ≤ t ∧ t < s + n
 | 0,s => by simp only [upFrom,List.not_mem_nil,Nat.add_zero,false_iff]; omega
 | n + 1,s => by
   simp only [upFrom,List.mem_cons,mem_upFrom (n := n)]; omega
theorem slotsOf_pos (wd:List TypeId):∀ (l:List Oper),0 < slotsOf wd l
 | [] => Nat.one_pos
 | o :: l => by
   unfold slotsOf
   split
   · split
     · split
       · omega
       · exact slotsOf_pos wd l
     · exact slotsOf_pos wd l
   · exact slotsOf_pos wd l
theorem noneIn_spec {s n:Nat}:∀ {l:List Nat},noneIn s n l = true → ∀ t,s ≤ t → t < s + n → t ∉ l
 | [],_,_,_,_ => by simp
 | x :: l,h,t,h1,h2 => by
   simp only [noneIn,Bool.and_eq_true,Bool.or_eq_true] at h
   intro hm
   rcases List.mem_cons.1 hm with e | hm
   · subst e
     rcases h.1 with h | h
     · have := Nat.le_of_ble_eq_true h; omega
     · have := Nat.le_of_ble_eq_true h; omega
   · exact noneIn_spec h.2 t h1 h2 hm
theorem putFrom_length:∀ (s:Nat) (l H:Hp),(putFrom s l H).length = H.length
 | _,[],_ => rfl
 | s,x :: l,H => by rw [putFrom,putFrom_length (s + 1) l,List.length_set]
theorem putFrom_out:∀ (s:Nat) (l H:Hp) (t:Nat),t < s ∨ s + l.length ≤ t → (putFrom s l H)[t]? = H[t]?
 | _,[],_,_,_ => rfl
 | s,x :: l,H,t,h => by
   simp only [List.length_cons] at h
   rw [putFrom,putFrom_out (s + 1) l _ t (by omega),List.getElem?_set_ne (by omega)]
theorem putFrom_in:∀ (s:Nat) (l H:Hp) (t:Nat),s ≤ t → t < s + l.length → s + l.length ≤ H.length → (putFrom s l H)[t]? = l[t - s]?
 | s,[],H,t,h1,h2,_ => by simp at h2; omega
 | s,x :: l,H,t,h1,h2,h3 => by
   simp only [List.length_cons] at h2 h3
   rw [putFrom]
   by_cases e:t = s
   · subst e
     rw [putFrom_out (t + 1) l _ t (by omega),List.getElem?_set_self (by omega),Nat.sub_self]; rfl
   · rw [putFrom_in (s + 1) l _ t (by omega) (by omega) (by rw [List.length_set]; omega),show t - s = (t - (s + 1)) + 1 by omega]; rfl
structure StepD (P:Program) (ops:Array Oper) (B N c i:Nat) (o:Oper) (S:St) (rec:Rec) (S1:St):Prop where
 dst:rec.dst = o.dst
 left:rec.left = toksAt S1.H rec.T
 F:S1.F = put S.F o.dst rec.v
 step:(guardLit ops o S.F = some false ∧ rec.v = .raw undef ∧ rec.T = [] ∧ rec.W = [] ∧ S1.H = S.H) ∨
   (guardLit ops o S.F = some true ∧ ∃ (T:List Nat) (v:SV) (M:Hp) (wr:Bool),(∀ F',Agree o S.F F' → OpGood P o F' (maskH T 0 S.H) v M) ∧ (wr = false → ∃ l,M = maskH T 0 S.H ++ l) ∧
     ((M.length = N ∧ rec.v = v ∧ S1.H = mergeH T 0 S.H M ∧ rec.T = T ∧ rec.W = (if wr then T else [])) ∨
      (N ≤ M.length ∧ M.length ≤ N + c ∧ (∀ t,B + c * i ≤ t → t < B + c * i + (M.length - N) → t ∉ v.toks ∧ t ∉ hpToks M ∧ t ∉ T) ∧ rec.v = v.ren (swapTo N (B + c * i)) ∧
       S1.H = putFrom (B + c * i) ((M.drop N).map (SObj.ren (swapTo N (B + c * i)))) (if wr then mergeH T 0 S.H (M.map (SObj.ren (swapTo N (B + c * i)))) else S.H) ∧
       rec.T = upFrom (B + c * i) (M.length - N) ++ T ∧ rec.W = upFrom (B + c * i) (M.length - N) ++ (if wr then T else []))))
inductive Tr (P:Program) (ops:Array Oper) (B N c:Nat):Nat → List Oper → St → List Rec → St → Prop where
 | nil (i:Nat) (S:St):Tr P ops B N c i [] S [] S
 | cons {i:Nat} {o:Oper} {l:List Oper} {S S1 S':St} {rec:Rec} {recs:List Rec}:StepD P ops B N c i o S rec S1 → Tr P ops B N c (i + 1) l S1 recs S' → Tr P ops B N c i (o :: l) S (rec :: recs) S'
section
variable (E:Env) {α:Type}
theorem drawL_sound (hE:EnvOk E) {callf:CallF α} {yf:YldF α} {pu:Nat → Nat → Bool} (hcall:CallOk E.P callf) (hy:YldOk E.P yf) (hpu:PureOk pu callf) (ops:Array Oper) (B N c:Nat):∀ (l:List Oper) (i:Nat) (S:St) (recs:List Rec) (K:St → List Rec → Option α) (r:α),drawL E callf yf pu ops B N c i l S recs K = some r →
   ∃ S' new,K S' (new.reverse ++ recs) = some r ∧ Tr E.P ops B N c i l S new S'
 | [],i,S,recs,K,r,h => ⟨S,[],by simpa [drawL] using h,.nil _ _⟩
 | o :: l,i,S,recs,K,r,h => by
   simp only [drawL] at h
   split at h
   · rename_i want hgd
     have goon:∀ (S1:St) (rec:Rec),StepD E.P ops B N c i o S rec S1 → drawL E callf yf pu ops B N c (i + 1) l S1 (rec :: recs) K = some r → ∃ S' new,K S' (new.reverse ++ recs) = some r ∧ Tr E.P ops B N c i (o :: l) S new S' := by
       intro S1 rec hst h1
       obtain ⟨S',new,h2,h3⟩ := drawL_sound hE hcall hy hpu ops B N c l (i + 1) S1 (rec :: recs) K r h1
       exact ⟨S',rec :: new,by simpa using h2,.cons hst h3⟩
     split at h
     · rename_i hw
       split at h
       · rename_i T hT
         obtain ⟨v,M,hk,hq,hpm,hg⟩ := opY_soundP E.dr ⟨hE.prog,hE.zero,hE.add,hE.sub⟩ hcall hy hpu o S.F (maskH T 0 S.H) _ r h
         -- the bool that a guard asks for is written out
         have fin:∀ (wr:Bool) (v':SV) (nw:List Nat) (H':Hp),
             (match v' with
               | .bool b => if usedAsGuard ops.toList i then (if b then drawL E callf yf pu ops B N c (i + 1) l ⟨put S.F o.dst (.bool true),H'⟩ (⟨o.dst,.bool true,nw ++ T,nw ++ (if wr then T else []),toksAt H' (nw ++ T)⟩ :: recs) K else drawL E callf yf pu ops B N c (i + 1) l ⟨put S.F o.dst (.bool false),H'⟩ (⟨o.dst,.bool false,nw ++ T,nw ++ (if wr then T else []),toksAt H' (nw ++ T)⟩ :: recs) K)
                 else drawL E callf yf pu ops B N c (i + 1) l ⟨put S.F o.dst (.bool b),H'⟩ (⟨o.dst,.bool b,nw ++ T,nw ++ (if wr then T else []),toksAt H' (nw ++ T)⟩ :: recs) K
               | v' => drawL E callf yf pu ops B N c (i + 1) l ⟨put S.F o.dst v',H'⟩ (⟨o.dst,v',nw ++ T,nw ++ (if wr then T else []),toksAt H' (nw ++ T)⟩ :: recs) K) = some r →
             drawL E callf yf pu ops B N c (i + 1) l ⟨put S.F o.dst v',H'⟩ (⟨o.dst,v',nw ++ T,nw ++ (if wr then T else []),toksAt H' (nw ++ T)⟩ :: recs) K = some r := by
           intro wr v' nw H' hh
           cases v' with
           | bool b =>
             simp only at hh
             split at hh
             · split at hh
               · rename_i hb; rw [hb]; exact hh
               · rename_i hb; rw [show b = false by simpa using hb]; exact hh
             · exact hh
           | _ => exact hh
         split at hk
         · rename_i hlen
           have hlen' := Nat.eq_of_beq_eq_true hlen
           refine goon _ ⟨o.dst,v,[] ++ T,[] ++ (if (isWr o && !(pureOf pu o S.F && Nat.beq M.length S.H.length)) then T else []),toksAt (mergeH T 0 S.H M) ([] ++ T)⟩ ⟨rfl,rfl,rfl,.inr ⟨by rw [hgd,hw],T,v,M,(isWr o && !(pureOf pu o S.F && Nat.beq M.length S.H.length)),hg,fun hwr => ?_,.inl ⟨hlen',rfl,rfl,rfl,by simp⟩⟩⟩ (fin _ v [] _ hk)
           rw [Bool.and_eq_false_iff] at hwr
           rcases hwr with hwr | hwr
           · exact hq hwr
           · rw [Bool.not_eq_false', Bool.and_eq_true] at hwr
             exact ⟨[],by rw [List.append_nil]; exact hpm hwr.1 (by rw [maskH_length]; exact Nat.eq_of_beq_eq_true hwr.2)⟩
         · split at hk
           · rename_i hc
             simp only [Bool.and_eq_true] at hc
             obtain ⟨⟨⟨⟨c0,c1⟩,c2⟩,c3⟩,c4⟩ := hc
             refine goon _ ⟨o.dst,v.ren (swapTo N (B + c * i)),upFrom (B + c * i) (M.length - N) ++ T,upFrom (B + c * i) (M.length - N) ++ (if isWr o then T else []),_⟩ ⟨rfl,rfl,rfl,.inr ⟨by rw [hgd,hw],T,v,M,isWr o,hg,hq,.inr ⟨Nat.le_of_ble_eq_true c0,Nat.le_of_ble_eq_true c1,fun t h1 h2 => ⟨noneIn_spec c2 t h1 h2,noneIn_spec c3 t h1 h2,noneIn_spec c4 t h1 h2⟩,rfl,rfl,rfl,rfl⟩⟩⟩ (fin _ _ (upFrom (B + c * i) (M.length - N)) _ hk)
           · cases hk
       · cases h
     · rename_i hw
       exact goon ⟨put S.F o.dst (.raw undef),S.H⟩ ⟨o.dst,.raw undef,[],[],[]⟩ ⟨rfl,rfl,rfl,.inl ⟨by rw [hgd]; simpa using hw,rfl,rfl,rfl,rfl⟩⟩ h
   · cases h
theorem StepD.WT {P:Program} {ops:Array Oper} {B N c i:Nat} {o:Oper} {S S1:St} {rec:Rec} (h:StepD P ops B N c i o S rec S1) {t:Nat} (ht:t ∈ rec.W):t ∈ rec.T := by
 rcases h.step with ⟨_,_,_,e,_⟩ | ⟨_,T,v,M,_,_,_,⟨_,_,_,e3,e4⟩ | ⟨_,_,_,_,_,e3,e4⟩⟩
 · rw [e] at ht; cases ht
 · rw [e4] at ht; rw [e3]
   split at ht
   · exact ht
   · cases ht
 · rw [e4] at ht; rw [e3]
   rcases List.mem_append.1 ht with h | h
   · exact List.mem_append_left _ h
   · split at h
     · exact List.mem_append_right _ h
     · cases h
theorem Tr.length {P:Program} {ops:Array Oper} {B N c i:Nat} {l:List Oper} {S S':St} {recs:List Rec} (h:Tr P ops B N c i l S recs S'):recs.length = l.length := by
 induction h with
 | nil => rfl
 | cons _ _ ih => simp [ih]
theorem Tr.states {P:Program} {ops:Array Oper} {B N c i:Nat} {l:List Oper} {S S':St} {recs:List Rec} (h:Tr P ops B N c i l S recs S') :
   ∃ st:Nat → St,st 0 = S ∧ st l.length = S' ∧ ∀ k,k < l.length → ∃ o rec,l[k]? = some o ∧ recs[k]? = some rec ∧ StepD P ops B N c (i + k) o (st k) rec (st (k + 1)) := by
 induction h with
 | nil i S => exact ⟨fun _ => S,rfl,rfl,fun k hk => by simp at hk⟩
 | @cons i o l S S1 S' rec recs h1 h2 ih =>
   obtain ⟨st,e1,e2,e3⟩ := ih
   refine ⟨fun k => match k with | 0 => S | k + 1 => st k,rfl,e2,fun k hk => ?_⟩
   cases k with
   | zero => exact ⟨o,rec,rfl,rfl,by simp only [Nat.add_zero]; rw [e1]; exact h1⟩
   | succ k =>
     obtain ⟨o',rec',g1,g2,g3⟩ := e3 k (by simpa using hk)
     exact ⟨o',rec',by simpa using g1,by simpa using g2,by rw [show i + (k + 1) = i + 1 + k by omega]; exact g3⟩
end
def fw {β:Type} (w:Nat → Option β) (X:Nat → Bool) (init:β):Nat → β
 | 0 => init
 | k + 1 => if X k then (match w k with | some b => b | none => fw w X init k) else fw w X init k
theorem fw_agree {β:Type} {w:Nat → Option β} {X Y:Nat → Bool} {init:β}:∀ {n:Nat},(∀ k,k < n → w k ≠ none → X k = Y k) → fw w X init n = fw w Y init n
 | 0,_ => rfl
 | n + 1,h => by
   have ih := fw_agree (init := init) (n := n) fun k hk => h k (by omega)
   simp only [fw,ih]
   cases hw:w n with
   | none => simp
   | some b => rw [h n (by omega) (by rw [hw]; simp)]
theorem fw_all {β:Type} {w:Nat → Option β} {init:β} {j:Nat}:∀ {n:Nat},j ≤ n → fw w (fun k => decide (k < j)) init n = fw w (fun _ => true) init j
 | 0, h => by have : j = 0 := by omega
              subst this; rfl
 | n + 1,h => by
   by_cases hj:j = n + 1
   · subst hj
     exact fw_agree fun k hk _ => by simp [hk]
   · simp only [fw]
     rw [if_neg (by simp; omega)]
     exact fw_all (by omega)
theorem fw_cases {β:Type} {w:Nat → Option β} {X:Nat → Bool} {init:β}:∀ (n:Nat),fw w X init n = init ∨ ∃ k,k < n ∧ X k = true ∧ w k = some (fw w X init n)
 | 0 => .inl rfl
 | n + 1 => by
   simp only [fw]
   split
   · rename_i hx
     split
     · rename_i b hb; exact .inr ⟨n,by omega,hx,hb⟩
     · rcases fw_cases (w := w) (X := X) (init := init) n with h | ⟨k, h1, h2, h3⟩
       · exact .inl h
       · exact .inr ⟨k,by omega,h2,h3⟩
   · rcases fw_cases (w := w) (X := X) (init := init) n with h | ⟨k, h1, h2, h3⟩
     · exact .inl h
     · exact .inr ⟨k,by omega,h2,h3⟩
theorem mem_unionN {x:Nat}:∀ {l m:List Nat},x ∈ unionN l m ↔ x ∈ l ∨ x ∈ m
 | [],m => by simp [unionN]
 | y :: l,m => by
   unfold unionN
   split
   · rename_i h
     have := memN_iff.1 h
     rw [mem_unionN (l := l)]
     simp only [List.mem_cons]
     constructor
     · rintro (h | h)
       · exact .inl (.inr h)
       · exact .inr h
     · rintro ((h | h) | h)
       · subst h; exact .inr this
       · exact .inl h
       · exact .inr h
   · rw [mem_unionN (l := l)]
     simp only [List.mem_cons]
     constructor
     · rintro (h | h | h)
       · exact .inl (.inr h)
       · exact .inl (.inl h)
       · exact .inr h
     · rintro ((h | h) | h)
       · exact .inr (.inl h)
       · exact .inl h
       · exact .inr (.inr h)
theorem mem_ancOf {acc:List (List Nat)} {x:Nat}:∀ {es:List Nat},x ∈ ancOf acc es ↔ ∃ e ∈ es,x = e ∨ x ∈ acc.getD e []
 | [] => by simp [ancOf]
 | e :: es => by
   simp only [ancOf,mem_unionN,List.mem_cons,mem_ancOf (es := es)]
   constructor
   · rintro ((h | h) | ⟨e', h1, h2⟩)
     · exact ⟨e,.inl rfl,.inl h⟩
     · exact ⟨e,.inl rfl,.inr h⟩
     · exact ⟨e',.inr h1,h2⟩
   · rintro ⟨e', rfl | h1, h2⟩
     · exact .inl h2
     · exact .inr ⟨e',h1,h2⟩
theorem allLt_spec {n:Nat}:∀ {l:List Nat},allLt n l = true → ∀ x ∈ l,x < n
 | [],_,x,hx => by simp at hx
 | y :: l,h,x,hx => by
   simp only [allLt,Bool.and_eq_true] at h
   rcases List.mem_cons.1 hx with rfl | hx
   · exact Nat.le_of_ble_eq_true h.1
   · exact allLt_spec h.2 x hx
theorem ancL_spec:∀ {l:List Oper} {acc ancs:List (List Nat)},ancL l acc = some ancs → ancs.length = acc.length + l.length ∧ (∀ k,k < acc.length → ancs.getD k [] = acc.getD k []) ∧
   ∀ k o,l[k]? = some o → (∀ e ∈ edgesOf o,e < acc.length + k) ∧ ∀ x,x ∈ ancs.getD (acc.length + k) [] ↔ ∃ e ∈ edgesOf o,x = e ∨ x ∈ ancs.getD e []
 | [],acc,ancs,h => by
   simp only [ancL,Option.some.injEq] at h; subst h
   exact ⟨by simp,fun _ _ => rfl,fun k o h => by simp at h⟩
 | o :: l,acc,ancs,h => by
   simp only [ancL] at h
   split at h
   · rename_i hlt
     obtain ⟨h1,h2,h3⟩ := ancL_spec h
     simp only [List.length_append,List.length_singleton] at h1 h2 h3
     refine ⟨by simp; omega,fun k hk => ?_,fun k o' hk => ?_⟩
     · rw [h2 k (by omega),List.getD_eq_getElem?_getD,List.getElem?_append_left hk,List.getD_eq_getElem?_getD]
     · cases k with
       | zero =>
         simp at hk; subst hk
         refine ⟨by simpa using allLt_spec hlt,fun x => ?_⟩
         have e1 := h2 acc.length (by omega)
         rw [List.getD_eq_getElem?_getD (l := acc ++ _),List.getElem?_append_right (Nat.le_refl _)] at e1
         simp only [Nat.sub_self,List.getElem?_cons_zero,Option.getD_some] at e1
         rw [Nat.add_zero,e1,mem_ancOf]
         constructor
         · rintro ⟨e, he, hx⟩
           refine ⟨e,he,?_⟩
           have hel := allLt_spec hlt e he
           rw [h2 e (by omega),List.getD_eq_getElem?_getD,List.getElem?_append_left hel,← List.getD_eq_getElem?_getD]; exact hx
         · rintro ⟨e, he, hx⟩
           refine ⟨e,he,?_⟩
           have hel := allLt_spec hlt e he
           rw [h2 e (by omega),List.getD_eq_getElem?_getD,List.getElem?_append_left hel,← List.getD_eq_getElem?_getD] at hx; exact hx
       | succ k =>
         simp at hk
         have := h3 k o' hk
         rw [show acc.length + (k + 1) = acc.length + 1 + k by omega]
         exact this
   · cases h
theorem noClash_spec {ops:Array Oper} {anc:List Nat} {oj:Oper} {rj:Rec}:∀ {ol:List Oper} {rl:List Rec} {i:Nat},noClash ops anc oj rj i ol rl = true → ∀ k ok rk,ol[k]? = some ok → rl[k]? = some rk → (i + k) ∈ anc ∨ clash ops ok oj rk rj = false
 | [],rl,i,_,k,ok,rk,h1,_ => by simp at h1
 | o :: ol,[],i,_,k,ok,rk,_,h2 => by simp at h2
 | o :: ol,q :: rl,i,h,k,ok,rk,h1,h2 => by
   simp only [noClash,Bool.and_eq_true,Bool.or_eq_true,Bool.not_eq_true'] at h
   cases k with
   | zero =>
     simp at h1 h2; subst h1; subst h2
     exact h.1.imp memN_iff.1 id
   | succ k =>
     simp at h1 h2
     have := noClash_spec h.2 k ok rk h1 h2
     rwa [show i + (k + 1) = i + 1 + k by omega]
theorem inSlot_spec {B c t k:Nat} (hc:0 < c) (h:inSlot B c t k = true):(t - B) / c = k := by
 simp only [inSlot,Bool.and_eq_true] at h
 have h1 := Nat.le_of_ble_eq_true h.1
 have h2:t < B + c * k + c := Nat.le_of_ble_eq_true h.2
 have e:t - B = t - B - c * k + c * k := by omega
 rw [e,Nat.add_mul_div_left _ _ hc,Nat.div_eq_of_lt (by omega),Nat.zero_add]
theorem inSlots_spec {B c t:Nat} (hc:0 < c):∀ {l:List Nat},inSlots B c t l = true → (t - B) / c ∈ l
 | [],h => by simp [inSlots] at h
 | k :: l,h => by
   simp only [inSlots,Bool.or_eq_true] at h
   rcases h with h | h
   · rw [inSlot_spec hc h]; exact List.mem_cons_self
   · exact List.mem_cons_of_mem _ (inSlots_spec hc h)
theorem visible_spec {B c j:Nat} (hc:0 < c) {anc:List Nat}:∀ {l:List Nat},visible B c j anc l = true → ∀ t ∈ l,t < B ∨ (t - B) / c = j ∨ ((t - B) / c) ∈ anc
 | [],_,t,ht => by simp at ht
 | x :: l,h,t,ht => by
   simp only [visible,Bool.and_eq_true,Bool.or_eq_true] at h
   rcases List.mem_cons.1 ht with rfl | ht
   · rcases h.1 with (h | h) | h
     · exact .inl (Nat.le_of_ble_eq_true h)
     · exact .inr (.inl (inSlot_spec hc h))
     · exact .inr (.inr (inSlots_spec hc h))
   · exact visible_spec hc h.2 t ht
theorem allOk_spec {ops:Array Oper} {B c:Nat} {ancs:List (List Nat)} {ol:List Oper} {rl:List Rec}:∀ {os:List Oper} {rs:List Rec} {j:Nat},allOk ops B c ancs ol rl j os rs = true → ∀ k ok rk,os[k]? = some ok → rs[k]? = some rk →
   noClash ops (ancs.getD (j + k) []) ok rk 0 (ol.take (j + k)) (rl.take (j + k)) = true ∧ visible B c (j + k) (ancs.getD (j + k) []) (rk.v.toks ++ rk.left) = true
 | [],rs,j,_,k,ok,rk,h1,_ => by simp at h1
 | o :: os,[],j,h,_,_,_,_,_ => by simp [allOk] at h
 | o :: os,q :: rs,j,h,k,ok,rk,h1,h2 => by
   simp only [allOk,Bool.and_eq_true] at h
   cases k with
   | zero => simp at h1 h2; subst h1; subst h2; exact ⟨h.1.1,h.1.2⟩
   | succ k =>
     simp at h1 h2
     have := allOk_spec h.2 k ok rk h1 h2
     rwa [show j + (k + 1) = j + 1 + k by omega]
theorem meets_of {t:Nat}:∀ {l m:List Nat},t ∈ l → t ∈ m → meets l m = true
 | [],m,h,_ => by simp at h
 | x :: l,m,h,h2 => by
   simp only [meets,Bool.or_eq_true]
   rcases List.mem_cons.1 h with rfl | h
   · exact .inl (memN_iff.2 h2)
   · exact .inr (meets_of h h2)
theorem mem_tmpsOf {t:Nat}:∀ {l:List Operand},Operand.tmp t ∈ l → t ∈ tmpsOf l
 | [],h => by simp at h
 | x :: l,h => by
   rcases List.mem_cons.1 h with rfl | h
   · simp [tmpsOf]
   · have := mem_tmpsOf h
     cases x <;> simp [tmpsOf,this]
theorem mem_toksAt {H:Hp} {t s:Nat} {o:SObj}:∀ {T:List Nat},t ∈ T → H[t]? = some o → s ∈ o.toks → s ∈ toksAt H T
 | [],h,_,_ => by simp at h
 | x :: T,h,h2,h3 => by
   simp only [toksAt,List.mem_append]
   rcases List.mem_cons.1 h with rfl | h
   · rw [h2]; exact .inl h3
   · exact .inr (mem_toksAt h h2 h3)
end
section
open Go Go.RowKit
mutual
theorem ren_id {g:Nat → Nat}:∀ (v:SV),(∀ t,t ∈ v.toks → g t = t) → v.ren g = v
 | .ptr t _,h => by simp only [SV.ren,h t (by simp [SV.toks])]
 | .aix t _ _ _ _,h => by simp only [SV.ren,h t (by simp [SV.toks])]
 | .pix t _ _ _,h => by simp only [SV.ren,h t (by simp [SV.toks])]
 | .sub t _ _ _,h => by simp only [SV.ren,h t (by simp [SV.toks])]
 | .clp t _ _,h => by simp only [SV.ren,h t (by simp [SV.toks])]
 | .sl t,h => by simp only [SV.ren,h t (by simp [SV.toks])]
 | .yld t,h => by simp only [SV.ren,h t (by simp [SV.toks])]
 | .rix _ _ _ _ _,_ => by simp only [SV.ren]
 | .ros _ _ _,_ => by simp only [SV.ren]
 | .fn _ a b,h => by
   simp only [SV.toks,List.mem_append] at h
   simp only [SV.ren,renL_id a (fun t ht => h t (.inl ht)),renL_id b (fun t ht => h t (.inr ht))]
 | .raw _,_ => by simp only [SV.ren]
 | .arr _ _ _,_ => by simp only [SV.ren]
 | .agg l,h => by simp only [SV.toks] at h; simp only [SV.ren,renL_id l h]
 | .tup l,h => by simp only [SV.toks] at h; simp only [SV.ren,renL_id l h]
 | .int _ _,_ => by simp only [SV.ren]
 | .bool _,_ => by simp only [SV.ren]
theorem renL_id {g:Nat → Nat}:∀ (l:List SV),(∀ t,t ∈ SV.toksL l → g t = t) → SV.renL g l = l
 | [],_ => by simp only [SV.renL]
 | x :: l,h => by
   simp only [SV.toksL,List.mem_append] at h
   simp only [SV.renL,ren_id x (fun t ht => h t (.inl ht)),renL_id l (fun t ht => h t (.inr ht))]
end
theorem den_toks {R:Nat → Prop} {w:World} {n n':Nat} {ρ ρ':Nat → Tk} (v:SV) (h:∀ t,t ∈ v.toks → ρ' t = ρ t ∧ t < n') (hv:v.ok R w ρ n):den ρ' v = den ρ v ∧ v.ok R w ρ' n' := by
 have := ren_spec (ρ' := ρ') (n' := n') (g := id) v h hv
 rwa [ren_id (g := id) v (fun _ _ => rfl)] at this
mutual
theorem toks_lt {R:Nat → Prop} {w:World} {ρ:Nat → Tk} {n:Nat}:∀ (v:SV),v.ok R w ρ n → ∀ t,t ∈ v.toks → t < n
 | .ptr t _,h,s,hs => by simp [SV.toks] at hs; subst hs; exact h
 | .aix t _ _ _ _,h,s,hs => by simp [SV.toks] at hs; subst hs; exact h.1
 | .pix t _ _ _,h,s,hs => by simp [SV.toks] at hs; subst hs; exact h.1
 | .sub t _ _ _,h,s,hs => by simp [SV.toks] at hs; subst hs; exact h.1
 | .clp t _ _,h,s,hs => by simp [SV.toks] at hs; subst hs; exact h.1
 | .sl t,h,s,hs => by simp [SV.toks] at hs; subst hs; exact h
 | .yld t,h,s,hs => by simp [SV.toks] at hs; subst hs; exact h
 | .rix _ _ _ _ _,_,s,hs => by simp [SV.toks] at hs
 | .ros _ _ _,_,s,hs => by simp [SV.toks] at hs
 | .fn _ a b,h,s,hs => by
   simp only [SV.ok] at h
   simp only [SV.toks,List.mem_append] at hs
   rcases hs with hs | hs
   · exact toksL_lt a h.1 s hs
   · exact toksL_lt b h.2 s hs
 | .raw _,_,s,hs => by simp [SV.toks] at hs
 | .arr _ _ _,_,s,hs => by simp [SV.toks] at hs
 | .agg l,h,s,hs => by simp only [SV.ok] at h; simp only [SV.toks] at hs; exact toksL_lt l h s hs
 | .tup l,h,s,hs => by simp only [SV.ok] at h; simp only [SV.toks] at hs; exact toksL_lt l h s hs
 | .int _ _,_,s,hs => by simp [SV.toks] at hs
 | .bool _,_,s,hs => by simp [SV.toks] at hs
theorem toksL_lt {R:Nat → Prop} {w:World} {ρ:Nat → Tk} {n:Nat}:∀ (l:List SV),SV.okL R w ρ n l → ∀ t,t ∈ SV.toksL l → t < n
 | [],_,s,hs => by simp [SV.toksL] at hs
 | x :: l,h,s,hs => by
   simp only [SV.okL] at h
   simp only [SV.toksL,List.mem_append] at hs
   rcases hs with hs | hs
   · exact toks_lt x h.1 s hs
   · exact toksL_lt l h.2 s hs
end
theorem frRen_id {g:Nat → Nat}:∀ (F:Fr),(∀ t,t ∈ frToks F → g t = t) → frRen g F = F
 | [],_ => rfl
 | none :: F,h => by simp only [frRen,frRen_id F (fun t ht => h t (by simpa [frToks] using ht))]
 | some v :: F,h => by
   simp only [frToks,List.mem_append] at h
   simp only [frRen,ren_id v (fun t ht => h t (.inl ht)),frRen_id F (fun t ht => h t (.inr ht))]
theorem frToks_get {t:Nat}:∀ {F:Fr},t ∈ frToks F → ∃ (i:Nat) (v:SV),F[i]? = some (some v) ∧ t ∈ v.toks
 | [],h => by simp [frToks] at h
 | none :: F,h => by
   obtain ⟨i,v,h1,h2⟩ := frToks_get (F := F) h
   exact ⟨i + 1,v,by simpa using h1,h2⟩
 | some u :: F,h => by
   simp only [frToks,List.mem_append] at h
   rcases h with h | h
   · exact ⟨0,u,rfl,h⟩
   · obtain ⟨i, v, h1, h2⟩ := frToks_get (F := F) h
     exact ⟨i + 1,v,by simpa using h1,h2⟩
theorem obj_toks_lt {R:Nat → Prop} {w:World} {ρ:Nat → Tk} {n:Nat} {o:SObj} (h:o.ok R w ρ n):∀ t,t ∈ o.toks → t < n := by
 cases o with
 | cells l T => exact toksL_lt l h.1
 | lp f p F st =>
   intro t ht
   obtain ⟨i,v,h1,h2⟩ := frToks_get ht
   exact toks_lt v (h i v h1) t h2
 | _ => intro t ht; simp [SObj.toks] at ht
theorem Rel.relocate {C:Cx} {ρ:Nat → Tk} {A H2 X:Hp} {w:World} {N s:Nat} (h:Rel C ρ (A ++ X) w) (hN:A.length = N) (hs:s + X.length ≤ N)
   (hsA:∀ (t:Nat) (o:SObj),(A ++ X)[t]? = some o → ∀ u,s ≤ u → u < s + X.length → u ∉ o.toks) (hl:H2.length = N)
   (hget:∀ t o,H2[t]? = some o → (s ≤ t ∧ t < s + X.length ∧ ∃ x,X[t - s]? = some x ∧ o = x.ren (swapTo N s)) ∨ (¬ (s ≤ t ∧ t < s + X.length) ∧ ∃ a,A[t]? = some a ∧ o = a.ren (swapTo N s))) :
   Rel C (fun t => if s ≤ t ∧ t < s + X.length then ρ (N + (t - s)) else ρ t) H2 w := by
 have hlen:(A ++ X).length = N + X.length := by simp [hN]
 have hg:∀ t,t < N + X.length → ¬ (s ≤ t ∧ t < s + X.length) → (fun t => if s ≤ t ∧ t < s + X.length then ρ (N + (t - s)) else ρ t) (swapTo N s t) = ρ t ∧ swapTo N s t < N := fun t ht hts => by
   by_cases e:t < N
   · rw [swapTo_lt e]
     exact ⟨by simp only [if_neg hts],e⟩
   · rw [swapTo_ge e]
     refine ⟨?_,by omega⟩
     simp only
     rw [if_pos ⟨by omega,by omega⟩,show N + (s + (t - N) - s) = t by omega]
 -- where an object comes from
 have hor:∀ t o,H2[t]? = some o → ∃ t' a,(A ++ X)[t']? = some a ∧ o = a.ren (swapTo N s) ∧ (if s ≤ t ∧ t < s + X.length then ρ (N + (t - s)) else ρ t) = ρ t' ∧ ((s ≤ t ∧ t < s + X.length ∧ t' = N + (t - s)) ∨ (¬ (s ≤ t ∧ t < s + X.length) ∧ t' = t ∧ t < N)) := fun t o ho => by
   rcases hget t o ho with ⟨h1,h2,x,hx,rfl⟩ | ⟨hts,a,ha,rfl⟩
   · exact ⟨N + (t - s),x,by rw [List.getElem?_append_right (by omega),hN,show N + (t - s) - N = t - s by omega]; exact hx,rfl,by rw [if_pos ⟨h1,h2⟩],.inl ⟨h1,h2,rfl⟩⟩
   · have hlt := (List.getElem?_eq_some_iff.1 ha).1
     exact ⟨t,a,by rw [List.getElem?_append_left hlt]; exact ha,rfl,by rw [if_neg hts],.inr ⟨hts,rfl,by omega⟩⟩
 have hobjblk:∀ (tk:Tk) (o:SObj),objBlk tk (o.ren (swapTo N s)) = objBlk tk o := fun tk o => by cases o <;> rfl
 have hblk:∀ t b,blkOf (fun t => if s ≤ t ∧ t < s + X.length then ρ (N + (t - s)) else ρ t) H2 t = some b → ∃ t',blkOf ρ (A ++ X) t' = some b ∧ ((s ≤ t ∧ t < s + X.length ∧ t' = N + (t - s)) ∨ (¬ (s ≤ t ∧ t < s + X.length) ∧ t' = t ∧ t < N)) := fun t b hb => by
   obtain ⟨o,ho,h2⟩ := blkOf_get hb
   obtain ⟨t',a,e1,e2,e3,e4⟩ := hor t o ho
   refine ⟨t',?_,e4⟩
   rw [blkOf_eq e1,← e3,← hobjblk,← e2]; exact h2
 have hspec:∀ (t':Nat) (a:SObj),(A ++ X)[t']? = some a → ∀ t,t ∈ a.toks → (fun t => if s ≤ t ∧ t < s + X.length then ρ (N + (t - s)) else ρ t) (swapTo N s t) = ρ t ∧ swapTo N s t < N := fun t' a ha t ht => by
   have hlt := obj_toks_lt (h.ok t' a ha) t ht
   rw [hlen] at hlt
   exact hg t hlt (fun e => hsA t' a ha t e.1 e.2 ht)
 refine ⟨fun t o ho => ?_,fun t u b h1 h2 => ?_,fun t b h1 => ?_,fun t => ?_,h.keep,h.size,h.os,h.tape,h.output,fun t o ho => ?_,h.fit⟩
 · obtain ⟨t', a, e1, rfl, e3, _⟩ := hor t o ho
   have hob := h.obj t' a e1
   have hok := h.ok t' a e1
   simp only [e3]
   cases a with
   | cells l T =>
     have := renL_spec (R := C.R) (w := C.w1) (ρ := ρ) (ρ' := fun t => if s ≤ t ∧ t < s + X.length then ρ (N + (t - s)) else ρ t) l (hspec t' _ e1) hok.1
     simp only [SObj.ren,ObjRel] at hob ⊢
     rw [this.2.2]; exact hob
   | seq κ xs E => exact hob
   | dead => trivial
   | lp f p F st =>
     obtain ⟨tmps,fn,dfr,g,ps,a,c,h1,h2,h3,h4⟩ := hob
     refine ⟨tmps,fn,dfr,g,ps,a,c,h1,h2,by rw [frRen_length]; exact h3,fun j v hv => ?_⟩
     obtain ⟨u,k1,rfl⟩ := frRen_get _ hv
     rw [(ren_spec (R := C.R) (w := C.w1) (ρ := ρ) (ρ' := fun t => if s ≤ t ∧ t < s + X.length then ρ (N + (t - s)) else ρ t) u (fun t ht => hspec t' _ e1 t (mem_frToks k1 ht)) (hok j u k1)).1]; exact h4 j u k1
 · obtain ⟨t', e1, e2⟩ := hblk t b h1
   obtain ⟨u',e3,e4⟩ := hblk u b h2
   have := h.sep t' u' b e1 e3
   rcases e2 with ⟨a1,a2,a3⟩ | ⟨a1,a2,a3⟩ <;> rcases e4 with ⟨b1,b2,b3⟩ | ⟨b1,b2,b3⟩ <;> omega
 · obtain ⟨t', e1, _⟩ := hblk t b h1
   exact h.own t' b e1
 · by_cases e : s ≤ t ∧ t < s + X.length
   · simp only [if_pos e]; exact h.hdr _
   · simp only [if_neg e]; exact h.hdr t
 · obtain ⟨t', a, e1, rfl, e3, _⟩ := hor t o ho
   have hok := h.ok t' a e1
   rw [hl]
   cases a with
   | cells l T =>
     have := renL_spec (R := C.R) (w := C.w1) (ρ := ρ) (ρ' := fun t => if s ≤ t ∧ t < s + X.length then ρ (N + (t - s)) else ρ t) l (hspec t' _ e1) hok.1
     exact ⟨this.2.1,by rw [ren_leaves]; exact hok.2⟩
   | seq κ xs E => trivial
   | dead => trivial
   | lp f p F st =>
     intro j v hv
     obtain ⟨u,k1,rfl⟩ := frRen_get _ hv
     exact (ren_spec (R := C.R) (w := C.w1) (ρ := ρ) (ρ' := fun t => if s ≤ t ∧ t < s + X.length then ρ (N + (t - s)) else ρ t) u (fun t ht => hspec t' _ e1 t (mem_frToks k1 ht)) (hok j u k1)).2
def getF (F:Fr) (d:Nat):Option SV := (F[d]?).join
theorem getF_put (F:Fr) (dst:Option Tmp) (v:SV) (d:Nat):getF (put F dst v) d = if dst = some d ∧ d < F.length then some v else getF F d := by
 cases dst with
 | none => simp [put]
 | some t =>
   simp only [put,getF,Option.some.injEq]
   by_cases e:t = d
   · subst e
     by_cases hl:t < F.length
     · simp [hl]
     · have hl' := Nat.le_of_not_lt hl
       have h1:F[t]? = none := List.getElem?_eq_none hl'
       have h2:(F.set t (some v))[t]? = none := List.getElem?_eq_none (by rw [List.length_set]; exact hl')
       rw [h1,h2,if_neg (fun h => hl h.2)]
   · rw [List.getElem?_set_ne e,if_neg (fun h => e h.1)]
theorem put_length (F:Fr) (dst:Option Tmp) (v:SV):(put F dst v).length = F.length := by cases dst <;> simp [put]
theorem wp_unlisted {X:Array Bool} {n:Nat} (hX:X.size = n) {i:Nat} (hi:i < n) (h:X.getD i true = false):X.getD i false = false := by
 have:i < X.size := by omega
 simp [this] at h ⊢; exact h
end
section
open Go Go.RowKit
theorem slot_room {B c n j:Nat} (hj:j < n):B + c * j + c ≤ B + c * n := by
 have := Nat.mul_le_mul_left c (show j + 1 ≤ n from hj)
 rw [Nat.mul_add,Nat.mul_one] at this; omega
structure Whole (P:Program) (ops:Array Oper) (B c:Nat) (F0:Fr) (H0:Hp) (st:Nat → St) (recs:List Rec) (ancs:List (List Nat)):Prop where
 len:H0.length = B
 pos:0 < c
 init:st 0 = ⟨F0,H0 ++ List.replicate (c * ops.size) .dead⟩
 step:∀ k,k < ops.size → ∃ o rec,ops[k]? = some o ∧ recs[k]? = some rec ∧ StepD P ops B (B + c * ops.size) c k o (st k) rec (st (k + 1))
 anc:ancL ops.toList [] = some ancs
 ok:allOk ops B c ancs ops.toList recs 0 ops.toList recs = true
def dRec:Rec := ⟨none,.raw undef,[],[],[]⟩
def wF (recs:List Rec) (n d k:Nat):Option (Option SV) := if (recs.getD k dRec).dst = some d ∧ d < n then some (some (recs.getD k dRec).v) else none
def wH (recs:List Rec) (st:Nat → St) (t k:Nat):Option (Option SObj) := if memN t (recs.getD k dRec).W then some ((st (k + 1)).H[t]?) else none
section
variable {P:Program} {ops:Array Oper} {B c:Nat} {F0:Fr} {H0:Hp} {st:Nat → St} {recs:List Rec} {ancs:List (List Nat)} (W:Whole P ops B c F0 H0 st recs ancs)
include W
theorem Whole.stepAt {k:Nat} (hk:k < ops.size):∃ o,ops[k]? = some o ∧ StepD P ops B (B + c * ops.size) c k o (st k) (recs.getD k dRec) (st (k + 1)) := by
 obtain ⟨o,rec,h1,h2,h3⟩ := W.step k hk
 exact ⟨o,h1,by rw [List.getD_eq_getElem?_getD,h2]; exact h3⟩
theorem Whole.recAt {k:Nat} (hk:k < ops.size):recs[k]? = some (recs.getD k dRec) := by
 obtain ⟨o,rec,h1,h2,h3⟩ := W.step k hk
 rw [List.getD_eq_getElem?_getD,h2]; rfl
theorem Whole.lens:∀ k,k ≤ ops.size → (st k).F.length = F0.length ∧ (st k).H.length = B + c * ops.size
 | 0,_ => by rw [W.init]; exact ⟨rfl,by simp [W.len]⟩
 | k + 1,h => by
   obtain ⟨h1,h2⟩ := Whole.lens k (by omega)
   obtain ⟨o,_,hs⟩ := W.stepAt (k := k) (by omega)
   refine ⟨by rw [hs.F,put_length]; exact h1,?_⟩
   rcases hs.step with ⟨_,_,_,_,e⟩ | ⟨_,T,v,M,_,_,_,⟨e1,_,e2,_⟩ | ⟨e1,_,_,_,e2,_⟩⟩
   · rw [e]; exact h2
   · rw [e2,mergeH_length (by omega)]; exact h2
   · rw [e2, putFrom_length]
     split
     · rw [mergeH_length (by rw [List.length_map]; omega)]; exact h2
     · exact h2
theorem Whole.textF (d : Nat) : ∀ j, j ≤ ops.size → getF (st j).F d = fw (wF recs F0.length d) (fun _ => true) (getF F0 d) j
 | 0,_ => by rw [W.init]; rfl
 | j + 1,h => by
   obtain ⟨o,_,hs⟩ := W.stepAt (k := j) (by omega)
   have ih := Whole.textF d j (by omega)
   rw [hs.F,getF_put,(W.lens j (by omega)).1,← hs.dst]
   simp only [fw,if_true,wF]
   split
   · rfl
   · exact ih
theorem Whole.textH (t : Nat) (ht : t < B + c * ops.size) : ∀ j, j ≤ ops.size → (st j).H[t]? = fw (wH recs st t) (fun _ => true) ((st 0).H[t]?) j
 | 0,_ => rfl
 | j + 1,h => by
   obtain ⟨o,_,hs⟩ := W.stepAt (k := j) (by omega)
   have ih := Whole.textH t ht j (by omega)
   have hlen := (W.lens j (by omega)).2
   simp only [fw,if_true,wH]
   split
   · rename_i b hb
     split at hb
     · cases hb; rfl
     · cases hb
   · rename_i hb
     rw [← ih]
     split at hb
     · cases hb
     rename_i hc
     rcases hs.step with ⟨_,_,_,_,e⟩ | ⟨_,T,v,M,wr,_,hq,⟨e1,_,e2,e3,e4⟩ | ⟨e1,_,_,_,e2,e3,e4⟩⟩
     · rw [e]
     · rw [e2, mergeH_get (by omega), if_pos (by omega), Nat.zero_add]
       split
       · rename_i hT
         have hw:wr = false := by
           cases hw:wr with
           | false => rfl
           | true => rw [e4,hw,if_pos rfl] at hc; exact absurd hT hc
         obtain ⟨l,hl⟩ := hq hw
         rw [hl,List.getElem?_append_left (by rw [maskH_length]; omega),maskH_get]
         simp only [Nat.zero_add,hT,if_true,Option.map_id']
       · rfl
     · rw [e4] at hc
       have h1:t < B + c * j ∨ B + c * j + ((M.drop (B + c * ops.size)).map (SObj.ren (swapTo (B + c * ops.size) (B + c * j)))).length ≤ t := by
         rw [List.length_map,List.length_drop]
         rcases Nat.lt_or_ge t (B + c * j) with h | h
         · exact .inl h
         · rcases Nat.lt_or_ge t (B + c * j + (M.length - (B + c * ops.size))) with h' | h'
           · exact absurd (memN_iff.2 (List.mem_append_left _ (mem_upFrom.2 ⟨h,h'⟩))) hc
           · exact .inr h'
       rw [e2,putFrom_out _ _ _ _ h1]
       cases hw:wr with
       | false => rfl
       | true =>
         rw [hw,if_pos rfl] at hc
         have h2:¬ (memN t T = true) := fun hm => hc (memN_iff.2 (List.mem_append_right _ (memN_iff.1 hm)))
         rw [if_pos rfl,mergeH_get (by rw [List.length_map]; omega),if_pos (by omega),Nat.zero_add,if_neg h2]
theorem Whole.ancs_spec:∀ k o,ops[k]? = some o → (∀ e ∈ edgesOf o,e < k) ∧ ∀ x,x ∈ ancs.getD k [] ↔ ∃ e ∈ edgesOf o,x = e ∨ x ∈ ancs.getD e [] := by
 intro k o hk
 obtain ⟨_,_,h3⟩ := ancL_spec W.anc
 have := h3 k o (by rw [Array.getElem?_toList]; exact hk)
 simpa using this
theorem Whole.slotAt {j t:Nat} (h1:B + c * j ≤ t) (h2:t < B + c * j + c):¬ t < B ∧ (t - B) / c = j := by
 refine ⟨by omega,?_⟩
 have e:t - B = t - B - c * j + c * j := by omega
 rw [e,Nat.add_mul_div_left _ _ W.pos,Nat.div_eq_of_lt (by omega),Nat.zero_add]
theorem Whole.conf {i j:Nat} (hij:i < j) (hj:j < ops.size) {oi oj:Oper} (hoi:ops[i]? = some oi) (hoj:ops[j]? = some oj) (hc:clash ops oi oj (recs.getD i dRec) (recs.getD j dRec) = true):i ∈ ancs.getD j [] := by
 have h1 := allOk_spec W.ok j oj _ (by rw [Array.getElem?_toList]; exact hoj) (W.recAt hj)
 rw [Nat.zero_add] at h1
 have h2 := noClash_spec h1.1 i oi (recs.getD i dRec) (by rw [List.getElem?_take,if_pos hij,Array.getElem?_toList]; exact hoi) (by rw [List.getElem?_take,if_pos hij]; exact W.recAt (by omega))
 rw [Nat.zero_add] at h2
 rcases h2 with h2 | h2
 · exact h2
 · rw [hc] at h2; cases h2
theorem Whole.vis {j:Nat} (hj:j < ops.size):∀ t,t ∈ (recs.getD j dRec).v.toks ∨ t ∈ (recs.getD j dRec).left → t < B ∨ (t - B) / c = j ∨ ((t - B) / c) ∈ ancs.getD j [] := by
 obtain ⟨o,ho,_⟩ := W.stepAt hj
 have h1 := allOk_spec W.ok j o _ (by rw [Array.getElem?_toList]; exact ho) (W.recAt hj)
 rw [Nat.zero_add] at h1
 intro t ht
 exact visible_spec W.pos h1.2 t (by simpa using ht)
theorem Whole.closed {X:Nat → Bool} (hX:∀ j o,ops[j]? = some o → X j = true → ∀ e ∈ edgesOf o,X e = true):∀ j,j < ops.size → X j = true → ∀ i ∈ ancs.getD j [],X i = true := by
 intro j
 induction j using Nat.strongRecOn with
 | _ j ih =>
   intro hj hXj i hi
   obtain ⟨o,ho,_⟩ := W.stepAt hj
   obtain ⟨h1,h2⟩ := W.ancs_spec j o ho
   obtain ⟨e,he,hx⟩ := (h2 i).1 hi
   have hel := h1 e he
   have hXe := hX j o ho hXj e he
   rcases hx with rfl | hx
   · exact hXe
   · exact ih e hel (by omega) hXe i hx
theorem Whole.ahead {X:Nat → Bool} (hX:∀ j o,ops[j]? = some o → X j = true → ∀ e ∈ edgesOf o,X e = true) {j:Nat} {o:Oper} (ho:ops[j]? = some o) (hp:∀ e ∈ edgesOf o,X e = true):∀ i ∈ ancs.getD j [],X i = true := by
 intro i hi
 have hj := (Array.getElem?_eq_some_iff.1 ho).1
 obtain ⟨h1,h2⟩ := W.ancs_spec j o ho
 obtain ⟨e,he,hx⟩ := (h2 i).1 hi
 rcases hx with rfl | hx
 · exact hp _ he
 · exact W.closed hX e (by have := h1 e he; omega) (hp e he) i hx
end
end
section
open Go Go.RowKit
def vF (recs:List Rec) (F0:Fr) (n:Nat) (X:Nat → Bool) (d:Nat):Option SV := fw (wF recs F0.length d) X (getF F0 d) n
def vH (recs:List Rec) (st:Nat → St) (n:Nat) (X:Nat → Bool) (t:Nat):Option SObj := fw (wH recs st t) X ((st 0).H[t]?) n
def hpX (recs:List Rec) (st:Nat → St) (n N:Nat) (X:Nat → Bool):Hp := (List.range N).map fun t => (vH recs st n X t).getD .dead
def frX (recs:List Rec) (F0:Fr) (n:Nat) (X:Nat → Bool):Fr := (List.range F0.length).map fun d => vF recs F0 n X d
def lX (listed:Array Bool):Nat → Bool := fun k => listed.getD k false
structure DInv (C:Cx) (ops:Array Oper) (B c:Nat) (F0:Fr) (st:Nat → St) (recs:List Rec) (ρ0:Nat → Tk) (d0:List Deferred) (listed:Array Bool) (ρ:Nat → Tk) (a:Act) (w:World):Prop where
 lsize:listed.size = ops.size
 closed:∀ j o,ops[j]? = some o → lX listed j = true → ∀ e ∈ edgesOf o,lX listed e = true
 defers:a.defers = d0
 size:a.tmps.size = F0.length
 val:∀ d v,vF recs F0 ops.size (lX listed) d = some v → a.tmps[d]? = some (den ρ v) ∧ v.ok C.R C.w1 ρ (B + c * ops.size)
 heap:Rel C ρ (hpX recs st ops.size (B + c * ops.size) (lX listed)) w
 agree:∀ t,t < B → ρ t = ρ0 t
theorem mem_edges {o:Oper} {e:Nat}:e ∈ edgesOf o ↔ ∃ x ∈ o.after,Region.binds .any x = true ∧ x.on = e := by
 unfold edgesOf
 simp only [List.mem_map,List.mem_filter,Array.mem_toList_iff]
 constructor
 · rintro ⟨x,⟨h1,h2⟩,h3⟩; exact ⟨x,h1,h2,h3⟩
 · rintro ⟨x,h1,h2,h3⟩; exact ⟨x,⟨h1,h2⟩,h3⟩
section
variable {P:Program} {ops:Array Oper} {B c:Nat} {F0:Fr} {H0:Hp} {st:Nat → St} {recs:List Rec} {ancs:List (List Nat)} (W:Whole P ops B c F0 H0 st recs ancs)
include W
theorem Whole.vH_some (X:Nat → Bool) {t:Nat} (ht:t < B + c * ops.size):∃ o,vH recs st ops.size X t = some o := by
 unfold vH
 rcases fw_cases (w := wH recs st t) (X := X) (init := (st 0).H[t]?) ops.size with h | ⟨k,hk,_,h⟩
 · rw [h]
   have := (W.lens 0 (by omega)).2
   exact ⟨_,List.getElem?_eq_getElem (by omega)⟩
 · cases hh : fw (wH recs st t) X ((st 0).H[t]?) ops.size with
   | some o => exact ⟨o,rfl⟩
   | none =>
     rw [hh] at h
     unfold wH at h
     split at h
     · have := (W.lens (k + 1) (by omega)).2
       simp only [Option.some.injEq] at h
       rw [List.getElem?_eq_getElem (by omega)] at h; cases h
     · cases h
theorem Whole.hpX_get (X:Nat → Bool) {t:Nat} (ht:t < B + c * ops.size):(hpX recs st ops.size (B + c * ops.size) X)[t]? = vH recs st ops.size X t := by
 obtain ⟨o,ho⟩ := W.vH_some X ht
 unfold hpX
 rw [List.getElem?_map,List.getElem?_range ht]
 simp [ho]
omit W in
theorem hpX_length (X:Nat → Bool):(hpX recs st ops.size (B + c * ops.size) X).length = B + c * ops.size := by simp [hpX]
omit W in
theorem frX_get (X:Nat → Bool) (d:Nat):getF (frX recs F0 ops.size X) d = vF recs F0 ops.size X d := by
 unfold frX getF
 by_cases hd:d < F0.length
 · rw [List.getElem?_map,List.getElem?_range hd]; rfl
 · rw [List.getElem?_eq_none (by simpa using hd)]
   unfold vF
   rcases fw_cases (w := wF recs F0.length d) (X := X) (init := getF F0 d) ops.size with h | ⟨k,_,_,h⟩
   · rw [h]; unfold getF; rw [List.getElem?_eq_none (by omega)]
   · unfold wF at h
     rw [if_neg (fun hc => hd hc.2)] at h; cases h
theorem Whole.visF {X:Nat → Bool} (hcl:∀ j,j < ops.size → X j = true → ∀ i ∈ ancs.getD j [],X i = true) (h0:∀ d v,getF F0 d = some v → ∀ t,t ∈ v.toks → t < B) :
   ∀ d v,vF recs F0 ops.size X d = some v → ∀ t,t ∈ v.toks → t < B ∨ X ((t - B) / c) = true := by
 intro d v hv t ht
 rcases fw_cases (w := wF recs F0.length d) (X := X) (init := getF F0 d) ops.size with h | ⟨k,hk,hX,h⟩
 · exact .inl (h0 d v (by rw [← h]; exact hv) t ht)
 · unfold vF at hv
   rw [hv] at h
   unfold wF at h
   split at h
   · simp only [Option.some.injEq] at h
     rcases W.vis hk t (.inl (by rw [h]; exact ht)) with h1 | h1 | h1
     · exact .inl h1
     · exact .inr (by rw [h1]; exact hX)
     · exact .inr (hcl k hk hX _ h1)
   · cases h
theorem Whole.visH {X:Nat → Bool} (hcl:∀ j,j < ops.size → X j = true → ∀ i ∈ ancs.getD j [],X i = true) (h0:∀ (t:Nat) (o:SObj),H0[t]? = some o → ∀ s,s ∈ o.toks → s < B) :
   ∀ (t:Nat) (o:SObj),(hpX recs st ops.size (B + c * ops.size) X)[t]? = some o → ∀ s,s ∈ o.toks → s < B ∨ X ((s - B) / c) = true := by
 intro t o ho s hs
 have ht:t < B + c * ops.size := by have := (List.getElem?_eq_some_iff.1 ho).1; rwa [hpX_length] at this
 rw [W.hpX_get X ht] at ho
 rcases fw_cases (w := wH recs st t) (X := X) (init := (st 0).H[t]?) ops.size with h | ⟨k,hk,hX,h⟩
 · unfold vH at ho
   rw [h,W.init] at ho
   simp only at ho
   by_cases hB:t < H0.length
   · rw [List.getElem?_append_left hB] at ho
     exact .inl (h0 t o ho s hs)
   · rw [List.getElem?_append_right (by omega), List.getElem?_replicate] at ho
     split at ho
     · cases ho; simp [SObj.toks] at hs
     · cases ho
 · unfold vH at ho
   rw [ho] at h
   unfold wH at h
   split at h
   · rename_i hc
     simp only [Option.some.injEq] at h
     obtain ⟨ok,_,hst⟩ := W.stepAt hk
     have hl:s ∈ (recs.getD k dRec).left := by rw [hst.left]; exact mem_toksAt (hst.WT (memN_iff.1 hc)) h hs
     rcases W.vis hk s (.inr hl) with h1 | h1 | h1
     · exact .inl h1
     · exact .inr (by rw [h1]; exact hX)
     · exact .inr (hcl k hk hX _ h1)
   · cases h
theorem Whole.slot {X:Nat → Bool} {j:Nat} {oj:Oper} (hj:j < ops.size) (hoj:ops[j]? = some oj) (hXj:X j = false) (hah:∀ i ∈ ancs.getD j [],X i = true) (hcl:∀ j,j < ops.size → X j = true → ∀ i ∈ ancs.getD j [],X i = true)
   {d:Nat} (hd:∀ (i:Nat) (oi:Oper),ops[i]? = some oi → (recs.getD i dRec).dst = some d → (clash ops oi oj (recs.getD i dRec) (recs.getD j dRec) = true ∧ clash ops oj oi (recs.getD j dRec) (recs.getD i dRec) = true)) :
   ∀ k,k < ops.size → wF recs F0.length d k ≠ none → X k = decide (k < j) := by
 intro k hk hw
 obtain ⟨ok,hok,_⟩ := W.stepAt hk
 have hdst:(recs.getD k dRec).dst = some d := by
   unfold wF at hw
   split at hw
   · rename_i h; exact h.1
   · exact absurd rfl hw
 obtain ⟨c1,c2⟩ := hd k ok hok hdst
 rcases Nat.lt_trichotomy k j with h | h | h
 · rw [decide_eq_true h]; exact hah k (W.conf h hj hok hoj c1)
 · subst h; simp [hXj]
 · rw [decide_eq_false (by omega)]
   cases hx:X k with
   | false => rfl
   | true => rw [hcl k hk hx j (W.conf h hk hoj hok c2)] at hXj; cases hXj
theorem Whole.tok {X:Nat → Bool} {j:Nat} {oj:Oper} (hj:j < ops.size) (hoj:ops[j]? = some oj) (hXj:X j = false) (hah:∀ i ∈ ancs.getD j [],X i = true) (hcl:∀ j,j < ops.size → X j = true → ∀ i ∈ ancs.getD j [],X i = true)
   {t:Nat} (ht:t ∈ (recs.getD j dRec).T):∀ k,k < ops.size → wH recs st t k ≠ none → X k = decide (k < j) := by
 intro k hk hw
 obtain ⟨ok,hok,_⟩ := W.stepAt hk
 have hT:t ∈ (recs.getD k dRec).W := by
   unfold wH at hw
   split at hw
   · rename_i h; exact memN_iff.1 h
   · exact absurd rfl hw
 rcases Nat.lt_trichotomy k j with h | h | h
 · rw [decide_eq_true h]
   exact hah k (W.conf h hj hok hoj (by simp only [clash,meets_of hT ht,Bool.true_or,Bool.or_true]))
 · subst h; simp [hXj]
 · rw [decide_eq_false (by omega)]
   cases hx:X k with
   | false => rfl
   | true => rw [hcl k hk hx j (W.conf h hk hoj hok (by simp only [clash,meets_of hT ht,Bool.or_true]))] at hXj; cases hXj
theorem Whole.heapAt {X:Nat → Bool} {j:Nat} {oj:Oper} (hj:j < ops.size) (hoj:ops[j]? = some oj) (hXj:X j = false) (hah:∀ i ∈ ancs.getD j [],X i = true) (hcl:∀ j,j < ops.size → X j = true → ∀ i ∈ ancs.getD j [],X i = true)
   {t:Nat} (ht:t ∈ (recs.getD j dRec).T) (hlt:t < B + c * ops.size):vH recs st ops.size X t = (st j).H[t]? := by
 unfold vH
 rw [W.textH t hlt j (by omega),← fw_all (w := wH recs st t) (init := (st 0).H[t]?) (j := j) (n := ops.size) (by omega)]
 exact fw_agree (W.tok hj hoj hXj hah hcl ht)
theorem Whole.slotNext {X:Nat → Bool} {j:Nat} {oj:Oper} (hj:j < ops.size) (hoj:ops[j]? = some oj) (hXj:X j = false) (hah:∀ i ∈ ancs.getD j [],X i = true) (hcl:∀ j,j < ops.size → X j = true → ∀ i ∈ ancs.getD j [],X i = true)
   {X':Nat → Bool} (hX':∀ k,X' k = if k = j then true else X k) (d:Nat):vF recs F0 ops.size X' d = if (recs.getD j dRec).dst = some d ∧ d < F0.length then some (recs.getD j dRec).v else vF recs F0 ops.size X d := by
 by_cases hd:(recs.getD j dRec).dst = some d ∧ d < F0.length
 · rw [if_pos hd]
   have hag : ∀ k, k < ops.size → wF recs F0.length d k ≠ none → X' k = decide (k < j + 1) := fun k hk hw => by
     have hs := W.slot hj hoj hXj hah hcl (d := d) (fun i oi hoi hdi => by
       have e1:sameDst (recs.getD i dRec).dst (recs.getD j dRec).dst = true := by rw [hdi,hd.1]; exact Nat.beq_refl d
       have e2:sameDst (recs.getD j dRec).dst (recs.getD i dRec).dst = true := by rw [hdi,hd.1]; exact Nat.beq_refl d
       simp only [clash,e1,e2,Bool.or_true,Bool.true_or,and_self]) k hk hw
     rw [hX' k]
     split
     · rename_i e; subst e; simp
     · rw [hs]; by_cases h : k < j
       · simp [h]; omega
       · simp [h]; omega
   unfold vF
   rw [fw_agree hag,fw_all (by omega)]
   simp only [fw,if_true,wF,if_pos hd]
 · rw [if_neg hd]
   unfold vF
   refine fw_agree fun k hk hw => ?_
   rw [hX' k,if_neg]
   intro e; subst e
   exact hw (by unfold wF; rw [if_neg hd])
theorem Whole.tokNext {X:Nat → Bool} {j:Nat} {oj:Oper} (hj:j < ops.size) (hoj:ops[j]? = some oj) (hXj:X j = false) (hah:∀ i ∈ ancs.getD j [],X i = true) (hcl:∀ j,j < ops.size → X j = true → ∀ i ∈ ancs.getD j [],X i = true)
   {X':Nat → Bool} (hX':∀ k,X' k = if k = j then true else X k) {t:Nat} (ht:t < B + c * ops.size):vH recs st ops.size X' t = if t ∈ (recs.getD j dRec).W then (st (j + 1)).H[t]? else vH recs st ops.size X t := by
 by_cases hd:t ∈ (recs.getD j dRec).W
 · rw [if_pos hd]
   have hag : ∀ k, k < ops.size → wH recs st t k ≠ none → X' k = decide (k < j + 1) := fun k hk hw => by
     have hs := W.tok hj hoj hXj hah hcl (by obtain ⟨_,_,hst⟩ := W.stepAt hj; exact hst.WT hd) k hk hw
     rw [hX' k]
     split
     · rename_i e; subst e; simp
     · rw [hs]; by_cases h : k < j
       · simp [h]; omega
       · simp [h]; omega
   unfold vH
   rw [fw_agree hag,fw_all (by omega),W.textH t ht (j + 1) (by omega)]
 · rw [if_neg hd]
   unfold vH
   refine fw_agree fun k hk hw => ?_
   rw [hX' k,if_neg]
   intro e; subst e
   exact hw (by
     unfold wH
     rw [if_neg fun h => hd (memN_iff.1 h)])
end
end
section
open Go Go.RowKit
theorem getF_some {F:Fr} {d:Nat} {v:SV} (h:F[d]? = some (some v)):getF F d = some v := by unfold getF; rw [h]; rfl
theorem some_getF {F:Fr} {d:Nat} {v:SV} (h:getF F d = some v):F[d]? = some (some v) := by
 unfold getF at h
 cases hq:F[d]? with
 | none => simp [hq] at h
 | some y => cases y <;> simp_all
section
variable {P:Program} {ops:Array Oper} {B c:Nat} {F0:Fr} {H0:Hp} {st:Nat → St} {recs:List Rec} {ancs:List (List Nat)} (W:Whole P ops B c F0 H0 st recs ancs)
include W
theorem Whole.step_any (hF0:∀ d v,getF F0 d = some v → ∀ t,t ∈ v.toks → t < B) (hH0:∀ (t:Nat) (o:SObj),H0[t]? = some o → ∀ s,s ∈ o.toks → s < B)
   {C:Cx} {ρ0:Nat → Tk} {d0:List Deferred} {listed:Array Bool} {ρ:Nat → Tk} {a:Act} {w:World} (I:DInv C ops B c F0 st recs ρ0 d0 listed ρ a w)
   {j:Nat} {o:Oper} (hoj:ops[j]? = some o) (hun:lX listed j = false) (hpre:∀ e ∈ edgesOf o,lX listed e = true)
   {ro:Option Nat} {Q:Exit → Act → World → Prop} {K:Act → World → Prop} (hK:∀ ρ' a' w',DInv C ops B c F0 st recs ρ0 d0 (listed.setIfInBounds j true) ρ' a' w' → K a' w'):wpOpIn (Fw ro) 0 P ops Q j K a w := by
 have hj := (Array.getElem?_eq_some_iff.1 hoj).1
 have hcl := W.closed I.closed
 have hah := W.ahead I.closed hoj hpre
 obtain ⟨o',ho',hst⟩ := W.stepAt hj
 have:o' = o := by rw [hoj] at ho'; exact (Option.some.inj ho').symm
 subst this
 obtain ⟨lF,lH⟩ := W.lens j (by omega)
 have hX' : ∀ k, lX (listed.setIfInBounds j true) k = if k = j then true else lX listed k := fun k => by
   unfold lX
   by_cases e:k = j
   · subst e; rw [if_pos rfl]; simp [I.lsize,hj]
   · rw [if_neg e,getD_set_ne false (Ne.symm e)]
 have hcl':∀ i oi,ops[i]? = some oi → lX (listed.setIfInBounds j true) i = true → ∀ e ∈ edgesOf oi,lX (listed.setIfInBounds j true) e = true := fun i oi hi hx e he => by
   rw [hX' e]
   split
   · rfl
   · rw [hX' i] at hx
     split at hx
     · rename_i e1; subst e1
       have:oi = o' := by rw [hoj] at hi; exact (Option.some.inj hi).symm
       subst this; exact hpre e he
     · exact I.closed i oi hi hx e he
 -- the slots that are read
 have hread : ∀ d, d ∈ readsOf ops o' → vF recs F0 ops.size (lX listed) d = getF (st j).F d := fun d hd => by
   rw [W.textF d j (by omega),← fw_all (w := wF recs F0.length d) (init := getF F0 d) (j := j) (n := ops.size) (by omega)]
   refine fw_agree (W.slot hj hoj hun hah hcl fun i oi hoi hdi => ?_)
   have e1:dstIn (recs.getD i dRec).dst (readsOf ops o') = true := by rw [hdi]; exact memN_iff.2 hd
   simp only [clash,e1,Bool.or_true,Bool.true_or,and_self]
 have hvis := W.visF hcl hF0
 have hvisH := W.visH hcl hH0
 -- the guard
 have hguard:∀ b,guardLit ops o' (st j).F = some b → Region.wanted o' (yielded ops a.tmps) = b := by
   intro b hb
   unfold guardLit at hb
   unfold Region.wanted
   split at hb
   · rename_i hg; rw [hg]; simpa using hb
   · rename_i g want hg
     rw [hg]
     simp only
     unfold guardOf at hb
     cases hd:(ops[g]?).bind (·.dst) with
     | none => rw [hd] at hb; cases hb
     | some d =>
       rw [hd] at hb
       have hdr:d ∈ readsOf ops o' := by unfold readsOf; rw [hg]; simp [hd]
       have hv := hread d hdr
       rw [yielded_of hd]
       cases hF:(st j).F[d]? with
       | none => simp [hF] at hb
       | some y =>
         cases y with
         | none => simp [hF] at hb
         | some v =>
           rw [getF_some hF] at hv
           have hval := (I.val d v hv).1
           simp only [hF] at hb
           cases v with
           | bool c => simp at hb; subst hb; rw [hval]; simp [den]
           | raw u =>
             cases u with
             | tuple vs => simp at hb; subst hb; rw [hval]; simp [den]
             | _ => simp at hb
           | _ => simp at hb
 -- what is to be shown behind the operation
 have finish:∀ (ρ':Nat → Tk) (a':Act) (w':World),a' = a.put o'.dst (den ρ' (recs.getD j dRec).v) → (∀ t,(t < B ∨ lX listed ((t - B) / c) = true) → t < B + c * ops.size → ρ' t = ρ t) → (recs.getD j dRec).v.ok C.R C.w1 ρ' (B + c * ops.size) →
     Rel C ρ' (hpX recs st ops.size (B + c * ops.size) (lX (listed.setIfInBounds j true))) w' → K a' w' := by
   intro ρ' a' w' ha hr hv hR
   subst ha
   refine hK ρ' _ w' ⟨by simp [I.lsize],hcl',by rw [put_defers]; exact I.defers,?_,fun d v hdv => ?_,hR,fun t ht => by rw [hr t (.inl ht) (by omega)]; exact I.agree t ht⟩
   · cases o'.dst <;> simp [Act.put,I.size]
   · rw [W.slotNext hj hoj hun hah hcl hX' d] at hdv
     split at hdv
     · rename_i hc
       simp only [Option.some.injEq] at hdv
       subst hdv
       refine ⟨?_,hv⟩
       rw [← hst.dst,hc.1]
       simp [Act.put,I.size,hc.2]
     · rename_i hc
       obtain ⟨h1,h2⟩ := I.val d v hdv
       obtain ⟨g1,g2⟩ := den_toks (ρ' := ρ') (n' := B + c * ops.size) v (fun t ht => ⟨hr t (hvis d v hdv t ht) (toks_lt v h2 t ht),toks_lt v h2 t ht⟩) h2
       refine ⟨?_,g2⟩
       rw [g1]
       have hne : o'.dst = some d → False := fun e => hc ⟨by rw [hst.dst]; exact e, by
         have := (Array.getElem?_eq_some_iff.1 h1).1
         rw [I.size] at this; exact this⟩
       cases hdst:o'.dst with
       | none => exact h1
       | some d' =>
         simp only [Act.put]
         rw [Array.getElem?_setIfInBounds_ne (fun e => hne (by rw [hdst,e]))]; exact h1
 -- the heap behind the operation
 have hheap:∀ (t:Nat) (o:SObj),t < B + c * ops.size → (hpX recs st ops.size (B + c * ops.size) (lX (listed.setIfInBounds j true)))[t]? = if t ∈ (recs.getD j dRec).W then (st (j + 1)).H[t]? else (hpX recs st ops.size (B + c * ops.size) (lX listed))[t]? := fun t _ ht => by
   rw [W.hpX_get _ ht,W.hpX_get _ ht]
   exact W.tokNext hj hoj hun hah hcl hX' ht
 unfold wpOpIn
 rw [hoj]
 simp only
 rcases hst.step with ⟨hg,hv,hT,hW,hH⟩ | ⟨hg,T,v,M,wr,hop,hq,hcase⟩
 · rw [if_neg (by rw [hguard _ hg]; exact Bool.false_ne_true)]
   refine ⟨fun _ _ => trivial,?_⟩
   refine finish ρ _ w (by rw [hv]; rfl) (fun _ _ _ => rfl) (by rw [hv]; simp [SV.ok,undef]) ?_
   have:hpX recs st ops.size (B + c * ops.size) (lX (listed.setIfInBounds j true)) = hpX recs st ops.size (B + c * ops.size) (lX listed) := by
     apply List.ext_getElem?
     intro t
     by_cases ht:t < B + c * ops.size
     · rw [hheap t .dead ht,if_neg (by rw [hW]; simp)]
     · rw [List.getElem?_eq_none (by rw [hpX_length]; omega),List.getElem?_eq_none (by rw [hpX_length]; omega)]
   rw [this]; exact I.heap
 · rw [if_pos (hguard _ hg)]
   -- the operation, as it is carried out here
   have hTin : ∀ t, t ∈ T → t ∈ (recs.getD j dRec).T := fun t ht => by
     rcases hcase with ⟨_,_,_,e,_⟩ | ⟨_,_,_,_,_,e,_⟩ <;> rw [e]
     · exact ht
     · exact List.mem_append_right _ ht
   have hmask:maskH T 0 (st j).H = maskH T 0 (hpX recs st ops.size (B + c * ops.size) (lX listed)) := by
     apply List.ext_getElem?
     intro t
     rw [maskH_get,maskH_get,Nat.zero_add]
     by_cases ht:t < B + c * ops.size
     · by_cases hm : memN t T = true
       · rw [W.hpX_get _ ht,W.heapAt hj hoj hun hah hcl (hTin t (memN_iff.1 hm)) ht]
       · have h1 : ∃ o, (st j).H[t]? = some o := ⟨_, List.getElem?_eq_getElem (by omega)⟩
         have h2:∃ o,(hpX recs st ops.size (B + c * ops.size) (lX listed))[t]? = some o := ⟨_,List.getElem?_eq_getElem (by rw [hpX_length]; omega)⟩
         obtain ⟨o1,h1⟩ := h1
         obtain ⟨o2,h2⟩ := h2
         simp [h1,h2,hm]
     · rw [List.getElem?_eq_none (by omega),List.getElem?_eq_none (by rw [hpX_length]; omega)]
   have hA : Agree o' (st j).F (frX recs F0 ops.size (lX listed)) := fun x hx => by
     cases x with
     | tmp d =>
       have hd:d ∈ readsOf ops o' := by unfold readsOf; exact List.mem_append_right _ (mem_tmpsOf hx)
       have := hread d hd
       rw [← frX_get (recs := recs) (F0 := F0)] at this
       exact this
     | _ => rfl
   have hgood := hop _ hA
   rw [hmask] at hgood
   have hmR := I.heap.mask T
   have hFr:FRel (C.inner ρ (hpX recs st ops.size (B + c * ops.size) (lX listed)) (· ∈ T) w) ρ (maskH T 0 (hpX recs st ops.size (B + c * ops.size) (lX listed))).length (frX recs F0 ops.size (lX listed)) a.tmps := by
     refine ⟨by rw [I.size]; simp [frX],fun d v hd => ?_⟩
     have := getF_some hd
     rw [frX_get] at this
     obtain ⟨h1,h2⟩ := I.val d v this
     refine ⟨h1,?_⟩
     rw [maskH_length,hpX_length]
     exact ok_world (fun b hb => I.heap.roKeep b hb) v h2
   refine hgood.wp _ ρ a w hFr hmR ro K Q fun ρ1 w1 hr1 hR1 hv1 => ?_
   rw [maskH_length,hpX_length] at hr1
   have hlenM:B + c * ops.size ≤ M.length := by rcases hcase with ⟨e,_⟩ | ⟨e,_⟩ <;> omega
   have hun2 := I.heap.unmask hR1 (by rw [hpX_length]; exact hlenM) (by rw [hpX_length]; exact hr1)
   rw [hpX_length] at hun2
   have hvok:v.ok C.R C.w1 ρ1 M.length := ok_world (fun b hb => (I.heap.roKeep b hb).symm) v hv1
   rcases hcase with ⟨e1,e2,e3,e4,e5⟩ | ⟨e1,e0,nn,e2,e3,e4,e5⟩
   · -- no new object
     refine finish ρ1 _ w1 (by rw [e2]) (fun t _ ht => hr1 t ht) (by rw [e2,← e1]; exact hvok) ?_
     have:mergeH T 0 (hpX recs st ops.size (B + c * ops.size) (lX listed)) M ++ M.drop (B + c * ops.size) = hpX recs st ops.size (B + c * ops.size) (lX (listed.setIfInBounds j true)) := by
       rw [List.drop_of_length_le (by omega),List.append_nil]
       apply List.ext_getElem?
       intro t
       by_cases ht:t < B + c * ops.size
       · rw [hheap t .dead ht, mergeH_get (by rw [hpX_length]; omega), hpX_length, if_pos ht, Nat.zero_add, e5]
         by_cases hm:memN t T = true
         · rw [if_pos hm]
           cases hw:wr with
           | true => rw [if_pos rfl,if_pos (memN_iff.1 hm),e3,mergeH_get (by omega),if_pos (by omega),Nat.zero_add,if_pos hm]
           | false =>
             rw [if_neg (by simp)]
             obtain ⟨l,hl⟩ := hq hw
             rw [hl,List.getElem?_append_left (by rw [maskH_length]; omega),hmask,maskH_get,Nat.zero_add]
             simp only [hm,if_true,Option.map_id']
         · rw [if_neg hm, if_neg (fun h => by
             split at h
             · exact hm (memN_iff.2 h)
             · cases h)]
       · rw [List.getElem?_eq_none (by rw [mergeH_length (by rw [hpX_length]; omega),hpX_length]; omega),List.getElem?_eq_none (by rw [hpX_length]; omega)]
     rw [this] at hun2
     exact hun2
   · -- new objects
     generalize hX:M.drop (B + c * ops.size) = X at hun2
     have hXl:X.length = M.length - (B + c * ops.size) := by rw [← hX,List.length_drop]
     rw [← hXl] at nn e4 e5
     rw [hX] at e3
     have hXc:X.length ≤ c := by omega
     have hroom := slot_room (B := B) (c := c) hj
     have hXM:∀ t x,X[t]? = some x → M[B + c * ops.size + t]? = some x := fun t x h => by rw [← hX,List.getElem?_drop] at h; exact h
     -- nothing mentions the new tokens
     have hsA:∀ (t:Nat) (o:SObj),(mergeH T 0 (hpX recs st ops.size (B + c * ops.size) (lX listed)) M ++ X)[t]? = some o → ∀ u,B + c * j ≤ u → u < B + c * j + X.length → u ∉ o.toks := by
       intro t o ho u hu1 hu2 hs
       by_cases ht:t < B + c * ops.size
       · rw [List.getElem?_append_left (by rw [mergeH_length (by rw [hpX_length]; omega),hpX_length]; exact ht),mergeH_get (by rw [hpX_length]; omega),hpX_length,if_pos ht,Nat.zero_add] at ho
         split at ho
         · exact (nn u hu1 hu2).2.1 (mem_hpToks ho hs)
         · obtain ⟨k1, k2⟩ := W.slotAt (j := j) (t := u) hu1 (by omega)
           rcases hvisH t o ho u hs with h | h
           · exact k1 h
           · rw [k2,hun] at h; cases h
       · rw [List.getElem?_append_right (by rw [mergeH_length (by rw [hpX_length]; omega),hpX_length]; omega),mergeH_length (by rw [hpX_length]; omega),hpX_length] at ho
         exact (nn u hu1 hu2).2.1 (mem_hpToks (hXM _ o ho) hs)
     have hA2:(mergeH T 0 (hpX recs st ops.size (B + c * ops.size) (lX listed)) M).length = B + c * ops.size := by rw [mergeH_length (by rw [hpX_length]; omega),hpX_length]
     have hml:(X.map (SObj.ren (swapTo (B + c * ops.size) (B + c * j)))).length = X.length := List.length_map ..
     have hbl:(if wr = true then mergeH T 0 (st j).H (M.map (SObj.ren (swapTo (B + c * ops.size) (B + c * j)))) else (st j).H).length = B + c * ops.size := by
       split
       · rw [mergeH_length (by rw [List.length_map]; omega)]; exact lH
       · exact lH
     have hrel := Rel.relocate (H2 := hpX recs st ops.size (B + c * ops.size) (lX (listed.setIfInBounds j true))) (s := B + c * j) hun2 hA2 (by omega) hsA (hpX_length _) (fun t o ho => by
       have ht:t < B + c * ops.size := by have := (List.getElem?_eq_some_iff.1 ho).1; rwa [hpX_length] at this
       rw [hheap t .dead ht,e5] at ho
       by_cases hts:B + c * j ≤ t ∧ t < B + c * j + X.length
       · refine .inl ⟨hts.1, hts.2, ?_⟩
         rw [if_pos (List.mem_append_left _ (mem_upFrom.2 hts)),e3,putFrom_in _ _ _ _ hts.1 (by rw [hml]; exact hts.2) (by rw [hml,hbl]; omega),List.getElem?_map] at ho
         cases hx:X[t - (B + c * j)]? with
         | none => rw [hx] at ho; cases ho
         | some x =>
           rw [hx] at ho
           simp only [Option.map_some,Option.some.injEq] at ho
           exact ⟨x,rfl,ho.symm⟩
       · refine .inr ⟨hts, ?_⟩
         have hout:t < B + c * j ∨ B + c * j + (X.map (SObj.ren (swapTo (B + c * ops.size) (B + c * j)))).length ≤ t := by rw [hml]; omega
         by_cases hm:memN t T = true ∧ wr = true
         · obtain ⟨hm, hw⟩ := hm
           rw [hw,if_pos rfl,if_pos (List.mem_append_right _ (memN_iff.1 hm)),e3,putFrom_out _ _ _ _ hout,hw,if_pos rfl,mergeH_get (by rw [List.length_map]; omega),if_pos (by omega),Nat.zero_add,if_pos hm,List.getElem?_map] at ho
           cases hM:M[t]? with
           | none => rw [List.getElem?_eq_none_iff] at hM; omega
           | some m =>
             rw [hM] at ho
             simp only [Option.map_some,Option.some.injEq] at ho
             refine ⟨m,?_,ho.symm⟩
             rw [mergeH_get (by rw [hpX_length]; omega),hpX_length,if_pos ht,Nat.zero_add,if_pos hm,hM]
         · rw [if_neg (fun h => by
             rcases List.mem_append.1 h with h | h
             · exact hts (mem_upFrom.1 h)
             · split at h
               · rename_i hw; exact hm ⟨memN_iff.2 h,hw⟩
               · cases h)] at ho
           refine ⟨o,?_,?_⟩
           · rw [mergeH_get (by rw [hpX_length]; omega), hpX_length, if_pos ht, Nat.zero_add]
             by_cases hT2:memN t T = true
             · rw [if_pos hT2]
               have hw:wr = false := by
                 cases hw:wr with
                 | false => rfl
                 | true => exact absurd ⟨hT2,hw⟩ hm
               obtain ⟨l,hl⟩ := hq hw
               rw [hl,List.getElem?_append_left (by rw [maskH_length]; omega),hmask,maskH_get,Nat.zero_add,ho]
               simp only [hT2,if_true,Option.map_some]
             · rw [if_neg hT2,ho]
           · -- its tokens are old
             have hlt := obj_toks_lt (I.heap.ok t o ho)
             rw [hpX_length] at hlt
             cases o with
             | cells l T' =>
               simp only [SObj.ren]
               rw [renL_id l (fun s hs => by
                 have := hlt s hs
                 exact swapTo_lt this)]
             | lp f p F st =>
               simp only [SObj.ren]
               rw [frRen_id F (fun s hs => by
                 have := hlt s hs
                 exact swapTo_lt this)]
             | _ => rfl)
     have hspec := ren_spec (R := C.R) (w := C.w1) (ρ := ρ1) (ρ' := fun t => if B + c * j ≤ t ∧ t < B + c * j + X.length then ρ1 (B + c * ops.size + (t - (B + c * j))) else ρ1 t) (n' := B + c * ops.size) (g := swapTo (B + c * ops.size) (B + c * j)) v (fun t ht => by
       have hlt := toks_lt v hvok t ht
       have hts:¬ (B + c * j ≤ t ∧ t < B + c * j + X.length) := fun e => (nn t e.1 e.2).1 ht
       by_cases e:t < B + c * ops.size
       · rw [swapTo_lt e]; exact ⟨by simp only [if_neg hts],e⟩
       · rw [swapTo_ge e]
         refine ⟨?_,by omega⟩
         rw [if_pos ⟨by omega,by omega⟩,show B + c * ops.size + (B + c * j + (t - (B + c * ops.size)) - (B + c * j)) = t by omega]) hvok
     refine finish _ _ w1 (by rw [e2,hspec.1]) (fun t hvt ht => ?_) (by rw [e2]; exact hspec.2) hrel
     have hts : ¬ (B + c * j ≤ t ∧ t < B + c * j + X.length) := fun e => by
       obtain ⟨k1,k2⟩ := W.slotAt (j := j) (t := t) e.1 (by omega)
       rcases hvt with h | h
       · exact k1 h
       · rw [k2,hun] at h; cases h
     simp only [if_neg hts]
     exact hr1 t ht
omit W in
theorem count_pos {X : Nat → Bool} : ∀ (n j : Nat), j < n → X j = false → 0 < (List.range n).countP fun k => !X k := fun n j hj hX => by
 rw [List.countP_pos_iff]
 exact ⟨j,List.mem_range.2 hj,by simp [hX]⟩
omit W in
theorem count_next {X X':Nat → Bool} {j:Nat} (hX:X j = false) (hX':∀ k,X' k = if k = j then true else X k):∀ n,j < n → ((List.range n).countP fun k => !X' k) + 1 = (List.range n).countP fun k => !X k
 | 0,h => by omega
 | n + 1,h => by
   rw [List.range_succ,List.countP_append,List.countP_append]
   by_cases e:j = n
   · subst e
     have : ∀ m, m ≤ j → ((List.range m).countP fun k => !X' k) = (List.range m).countP fun k => !X k := fun m hm => by
       apply List.countP_congr
       intro k hk
       rw [hX' k,if_neg (by have := List.mem_range.1 hk; omega)]
     rw [this j (Nat.le_refl _)]
     simp [hX' j,hX]
   · have ih := count_next hX hX' n (by omega)
     have:X' n = X n := by rw [hX' n,if_neg (fun h => e h.symm)]
     simp only [List.countP_singleton,this]
     omega
theorem Whole.all_listed {listed:Array Bool} (hs:listed.size = ops.size) (hr:Region.ready .any ops listed = []):∀ j,j < ops.size → lX listed j = true := by
 intro j
 induction j using Nat.strongRecOn with
 | _ j ih =>
   intro hj
   cases hx:lX listed j with
   | true => rfl
   | false =>
     obtain ⟨o,ho,_⟩ := W.stepAt hj
     have hl:listed.getD j true = false := by
       unfold lX at hx
       have:j < listed.size := by omega
       simp [this] at hx ⊢; exact hx
     have:j ∈ Region.ready .any ops listed := mem_ready.2 ⟨hl,o,ho,fun e he hb => ih e.on ((W.ancs_spec j o ho).1 e.on (mem_edges.2 ⟨e,he,hb,rfl⟩)) (by have := (W.ancs_spec j o ho).1 e.on (mem_edges.2 ⟨e,he,hb,rfl⟩); omega)⟩
     rw [hr] at this; cases this
theorem Whole.any_order (hF0:∀ d v,getF F0 d = some v → ∀ t,t ∈ v.toks → t < B) (hH0:∀ (t:Nat) (o:SObj),H0[t]? = some o → ∀ s,s ∈ o.toks → s < B)
   {C:Cx} {ρ0:Nat → Tk} {d0:List Deferred} {ro:Option Nat} {Q:Exit → Act → World → Prop}
   (hQ:∀ ρ a w,(∀ t,t < B → ρ t = ρ0 t) → a.defers = d0 → FRel C ρ (B + c * ops.size) (st ops.size).F a.tmps → Rel C ρ (st ops.size).H w → Q .normal a w) :
   ∀ (fuel:Nat) (listed:Array Bool) (ρ:Nat → Tk) (a:Act) (w:World),DInv C ops B c F0 st recs ρ0 d0 listed ρ a w → ((List.range ops.size).countP fun k => !lX listed k) ≤ fuel → wpAnyIn (Fw ro) 0 P .any ops Q fuel listed a w := by
 have hend:∀ (listed:Array Bool) (ρ:Nat → Tk) (a:Act) (w:World),DInv C ops B c F0 st recs ρ0 d0 listed ρ a w → (∀ j,j < ops.size → lX listed j = true) → Q .normal a w := by
   intro listed ρ a w I hall
   obtain ⟨lF,lH⟩ := W.lens ops.size (Nat.le_refl _)
   refine hQ ρ a w I.agree I.defers ⟨by rw [I.size,lF],fun d v hv => ?_⟩ ?_
   · refine I.val d v ?_
     rw [← getF_some hv,W.textF d ops.size (Nat.le_refl _)]
     exact fw_agree fun k hk _ => hall k hk
   · have : hpX recs st ops.size (B + c * ops.size) (lX listed) = (st ops.size).H := by
       apply List.ext_getElem?
       intro t
       by_cases ht:t < B + c * ops.size
       · rw [W.hpX_get _ ht, W.textH t ht ops.size (Nat.le_refl _)]
         exact fw_agree fun k hk _ => hall k hk
       · rw [List.getElem?_eq_none (by rw [hpX_length]; omega),List.getElem?_eq_none (by omega)]
     rw [← this]; exact I.heap
 intro fuel
 induction fuel with
 | zero =>
   intro listed ρ a w I hc
   have hall : ∀ j, j < ops.size → lX listed j = true := fun j hj => by
     cases hx:lX listed j with
     | true => rfl
     | false => have := count_pos ops.size j hj hx; omega
   refine ⟨?_,hend listed ρ a w I hall⟩
   cases hr:Region.ready .any ops listed with
   | nil => rfl
   | cons i l =>
     have hi:i ∈ Region.ready .any ops listed := by rw [hr]; simp
     obtain ⟨h1,o,ho,_⟩ := mem_ready.1 hi
     have hlt := (Array.getElem?_eq_some_iff.1 ho).1
     have := hall i hlt
     unfold lX at this
     rw [wp_unlisted I.lsize hlt h1] at this; cases this
 | succ fuel ih =>
   intro listed ρ a w I hc
   refine ⟨fun hr => hend listed ρ a w I (W.all_listed I.lsize hr),fun i hi => ?_⟩
   obtain ⟨h1,o,ho,hall⟩ := mem_ready.1 hi
   have hlt := (Array.getElem?_eq_some_iff.1 ho).1
   have hun:lX listed i = false := wp_unlisted I.lsize hlt h1
   refine W.step_any hF0 hH0 I ho hun (fun e he => ?_) fun ρ' a' w' I' => ih _ ρ' a' w' I' ?_
   · obtain ⟨x, hx, hb, rfl⟩ := mem_edges.1 he
     exact hall x hx hb
   · have := count_next (X := lX listed) (X' := lX (listed.setIfInBounds i true)) hun (fun k => by
       unfold lX
       by_cases e:k = i
       · subst e; rw [if_pos rfl]; simp [I.lsize,hlt]
       · rw [if_neg e,getD_set_ne false (Ne.symm e)]) ops.size hlt
     omega
end
theorem dead_rel {C:Cx} {ρ:Nat → Tk} {H:Hp} {w:World} (h:Rel C ρ H w) (n:Nat):Rel C ρ (H ++ List.replicate n .dead) w := by
 have hg : ∀ (t : Nat) (o : SObj), (H ++ List.replicate n .dead)[t]? = some o → H[t]? = some o ∨ o = .dead := fun t o ho => by
   by_cases ht:t < H.length
   · rw [List.getElem?_append_left ht] at ho; exact .inl ho
   · rw [List.getElem?_append_right (by omega), List.getElem?_replicate] at ho
     split at ho
     · cases ho; exact .inr rfl
     · cases ho
 have hb : ∀ t b, blkOf ρ (H ++ List.replicate n .dead) t = some b → blkOf ρ H t = some b := fun t b hb => by
   obtain ⟨o,ho,h2⟩ := blkOf_get hb
   rcases hg t o ho with h3 | rfl
   · rw [blkOf_eq h3]; exact h2
   · cases h2
 refine ⟨fun t o ho => ?_,fun t t' b h1 h2 => h.sep t t' b (hb t b h1) (hb t' b h2),fun t b h1 => h.own t b (hb t b h1),h.hdr,h.keep,h.size,h.os,h.tape,h.output,fun t o ho => ?_,h.fit⟩
 · rcases hg t o ho with h3 | rfl
   · exact h.obj t o h3
   · trivial
 · rcases hg t o ho with h3 | rfl
   · exact SObj.ok_mono (by simp) (h.ok t o h3)
   · trivial
theorem draw_sound (E:Env) {α:Type} (hE:EnvOk E) {callf:CallF α} {yf:YldF α} {pu:Nat → Nat → Bool} (hcall:CallOk E.P callf) (hy:YldOk E.P yf) (hpu:PureOk pu callf) (rd:Bool) (ops:Array Oper) (base:Nat) (S:St) (hb:base ≤ S.H.length) (K:St → Option α) (r:α) (hm:E.P.follows .mixedOrders = true)
   (c:Nat) (hc:0 < c)
   (h:(drawL E callf yf pu ops S.H.length (S.H.length + c * ops.size) c 0 ops.toList ⟨S.F,S.H ++ List.replicate (c * ops.size) .dead⟩ [] fun S' recs => if drawOk ops S.H.length c recs.reverse then gcSt base S' K else none) = some r) (id:Nat) :
   ∃ S',K S' = some r ∧ CodeGood E.P rd base (.region id ops true) S .normal S' := by
 obtain ⟨S1,new,h1,htr⟩ := drawL_sound E hE hcall hy hpu ops S.H.length (S.H.length + c * ops.size) c ops.toList 0 _ [] _ r h
 simp only [List.append_nil,List.reverse_reverse] at h1
 split at h1
 · rename_i hok
   obtain ⟨S2,h2,g2⟩ := gcSt_sound h1
   refine ⟨S2,h2,g2.len,fun C ρ a w hF hR ro _ => wpIn_region_any hm ?_⟩
   obtain ⟨st,e1,e2,e3⟩ := htr.states
   unfold drawOk at hok
   split at hok
   · rename_i ancs hanc
     have W : Whole E.P ops S.H.length c S.F S.H st new ancs := ⟨rfl, hc, e1, fun k hk => by
       obtain ⟨o,rec,p1,p2,p3⟩ := e3 k (by simpa using hk)
       rw [Nat.zero_add] at p3
       exact ⟨o,rec,by rw [← Array.getElem?_toList]; exact p1,p2,p3⟩,hanc,hok⟩
     have hR0:Rel C ρ S.H { w with drawn := w.drawn + 1 } := ⟨hR.obj,hR.sep,hR.own,hR.hdr,hR.keep,hR.size,hR.os,hR.tape,hR.output,hR.ok,hR.fit⟩
     have hX0 : ∀ k, lX (Array.replicate ops.size false) k = false := fun k => by
       unfold lX
       rw [Array.getD_eq_getD_getElem?]
       by_cases h:k < ops.size <;> simp [h]
     have hfw:∀ {β:Type} (wr:Nat → Option β) (init:β) (n:Nat),fw wr (lX (Array.replicate ops.size false)) init n = init := fun wr init n => by
       rcases fw_cases (w := wr) (X := lX (Array.replicate ops.size false)) (init := init) n with h | ⟨k,_,hx,_⟩
       · exact h
       · rw [hX0 k] at hx; cases hx
     have hlen:(Array.toList ops).length = ops.size := by simp
     refine W.any_order (C := C) (ρ0 := ρ) (d0 := a.defers) (fun d v hv => toks_lt v (hF.val d v (some_getF hv)).2) (fun t o ho => obj_toks_lt (hR.ok t o ho)) (fun ρ' a' w' q1 q2 q3 q4 => ?_) ops.size _ ρ a _ ?_ ?_
     · rw [← hlen, e2] at q3 q4
       have l2 := (W.lens ops.size (Nat.le_refl _)).2
       rw [← hlen,e2] at l2
       obtain ⟨ρ2,k1,k2,k3⟩ := g2.rel C ρ' a'.tmps w' (by rw [l2]; exact q3) q4
       exact ⟨rfl,ρ2,[],q2,.nil,k2,k3,fun t ht => by rw [k1 t ht,q1 t (by omega)]⟩
     · refine ⟨by simp, fun j o _ hx => ?_, rfl, hF.size, fun d v hv => ?_, ?_, fun _ _ => rfl⟩
       · rw [hX0 j] at hx; cases hx
       · unfold vF at hv
         rw [hfw] at hv
         obtain ⟨p1,p2⟩ := hF.val d v (some_getF hv)
         exact ⟨p1,ok_mono (by omega) v p2⟩
       · have:hpX new st ops.size (S.H.length + c * ops.size) (lX (Array.replicate ops.size false)) = S.H ++ List.replicate (c * ops.size) .dead := by
           apply List.ext_getElem?
           intro t
           by_cases ht:t < S.H.length + c * ops.size
           · rw [W.hpX_get _ ht]; unfold vH; rw [hfw,e1]
           · rw [List.getElem?_eq_none (by rw [hpX_length]; omega),List.getElem?_eq_none (by simp; omega)]
         rw [this]; exact dead_rel hR0 (c * ops.size)
     · exact Nat.le_trans List.countP_le_length (by simp)
   · cases hok
 · cases h1
end
section
open Go Go.RowKit
section
variable (E:Env) {α:Type}
theorem nilObj_spec {C:Cx} {ρ:Nat → Tk} {H:Hp} {w:World} (h:Rel C ρ H w) (i:Nat):H.length ≤ (nilObj E i H).length ∧ ∃ ρ',(∀ t,t < H.length → ρ' t = ρ t) ∧ Rel C ρ' (nilObj E i H) w := by
 unfold nilObj
 split
 · rename_i l T hi
   split
   · split
     · rename_i ts _
       have hlt := (List.getElem?_eq_some_iff.1 hi).1
       have hok := h.ok i _ hi
       obtain ⟨ρ',g1,g2,g3,g4,g5⟩ := nilz_spec E ts l ρ H h hok.1 hok.2 (.inr (.inr trivial))
       refine ⟨by simp,ρ',g1,?_⟩
       have hi':(H ++ (nilz E ts l H.length).2)[i]? = some (.cells l T) := by rw [List.getElem?_append_left hlt]; exact hi
       have hob := g2.obj i _ hi'
       have := g2.setObj (o' := .cells (nilz E ts l H.length).1 T) (w' := w) hi' (by rw [blkOf_eq hi']; rfl) (fun _ _ => rfl) rfl rfl rfl rfl
         (by simp only [ObjRel] at hob ⊢; rw [g3,hob,denC_agree g1 l hok.1]) (by rw [blkOf_eq (o := .cells (nilz E ts l H.length).1 T) (by rw [List.getElem?_set_self (by simp; omega)])]; rfl) ⟨g4,g5⟩
       rwa [List.set_append_left _ _ hlt] at this
     · exact ⟨Nat.le_refl _,ρ,fun _ _ => rfl,h⟩
   · exact ⟨Nat.le_refl _,ρ,fun _ _ => rfl,h⟩
 · exact ⟨Nat.le_refl _,ρ,fun _ _ => rfl,h⟩
theorem nilGo_len:∀ (n i:Nat) (H:Hp),H.length ≤ (nilGo E n i H).length
 | 0,i,H => Nat.le_refl _
 | n + 1,i,H => by
   refine Nat.le_trans ?_ (nilGo_len n (i + 1) (nilObj E i H))
   unfold nilObj
   split
   · split
     · split <;> simp
     · exact Nat.le_refl _
   · exact Nat.le_refl _
theorem nilGo_spec {C:Cx} {w:World}:∀ (n i:Nat) (H:Hp) (ρ:Nat → Tk),Rel C ρ H w → ∃ ρ',(∀ t,t < H.length → ρ' t = ρ t) ∧ Rel C ρ' (nilGo E n i H) w
 | 0,i,H,ρ,h => ⟨ρ,fun _ _ => rfl,h⟩
 | n + 1,i,H,ρ,h => by
   obtain ⟨l1,ρ1,a1,a2⟩ := nilObj_spec E h i
   obtain ⟨ρ2,b1,b2⟩ := nilGo_spec n (i + 1) _ ρ1 a2
   exact ⟨ρ2,fun t ht => by rw [b1 t (by omega),a1 t ht],b2⟩
theorem nilSt_sound {S:St} {K:St → Option α} {r:α} (h:nilSt E S K = some r):∃ S',K S' = some r ∧ SameGood S.H.length S S' := by
 unfold nilSt at h
 split at h
 · refine ⟨_, h, nilGo_len E _ _ _, fun C ρ tmps w hF hR => ?_⟩
   obtain ⟨ρ',a1,a2⟩ := nilGo_spec E S.H.length 0 S.H ρ hR
   exact ⟨ρ',a1,hF.next a1 (nilGo_len E _ _ _),a2⟩
 · exact ⟨S,h,Nat.le_refl _,fun C ρ tmps w hF hR => ⟨ρ,fun _ _ => rfl,hF,hR⟩⟩
theorem CodeGood.thenSame {P:Program} {rd:Bool} {base:Nat} {c:Code} {S S1 S':St} {e:Ex} {b2:Nat} (h:CodeGood P rd base c S e S1) (hb:base ≤ b2) (h2:SameGood b2 S1 S'):CodeGood P rd base c S e S' :=
 ⟨Nat.le_trans hb h2.len, fun C ρ a w hF hR ro hro => Go.wpIn_mono (h.wp C ρ a w hF hR ro hro) fun ex a' w' hp => by
   obtain ⟨p1,ρ',ms,p2,p3,p4,p5,p6⟩ := hp
   obtain ⟨ρ2,q1,q2,q3,q4⟩ := h2.step p4 p5
   exact ⟨p1,ρ2,ms,p2,p3.apart q4,q2,q3,fun t ht => by rw [q1 t (Nat.lt_of_lt_of_le ht hb),p6 t ht]⟩⟩
theorem loop_sound {fid:FuncId} {path:List Bool} {base:Nat} {x:Code} {run:RunF α} (ih:RunOk E.P run) (hst:Stands E.P fid path (.loop x)) {L:Nat} {S0:St} {K:Ex → St → Option α} {r:α} (hb:base ≤ S0.H.length)
   (h0:iter (loopStep E run fid path base x) L S0 K = some r):∃ e S',K e S' = some r ∧ CodeGood E.P (inRnd E.P fid path) base (.loop x) S0 e S' := by
 obtain ⟨e, S1, h1, l1, g1⟩ := iter_sound E (rd := inRnd E.P fid path) (c := x) (base := base) (fun S K r hb h => by
   unfold loopStep at h
   obtain ⟨e,S1,h1,g1⟩ := ih fid (false :: path) base x S _ r (sub_step hst fun root hr => by simp [sub,hr]) hb h
   rw [inRnd_step hst (by intro g ps a c e; cases e)] at g1
   cases e with
   | normal =>
     obtain ⟨S2,h2,g2⟩ := cleanL_sound E h1
     exact ⟨.normal,S1,S2,h2,g1,g2⟩
   | exit id =>
     obtain ⟨S2,h2,g2⟩ := cleanX_sound E h1
     exact ⟨.exit id,S1,S2,h2,g1,g2⟩
   | ret =>
     obtain ⟨S2,h2,g2⟩ := cleanX_sound E h1
     exact ⟨.ret,S1,S2,h2,g1,g2⟩) L S0 K r hb h0
 refine ⟨e,S1,h1,⟨l1,fun C ρ a w hF hR ro hro b k cs hbo hfn hrm => ?_⟩⟩
 obtain ⟨ex,a',w',hp,harr⟩ := g1 C ρ a w hF hR ro hro b k cs hbo
 exact ⟨ex,a',w',hp,.of_steps (.one (fenced_calm (F := Fw ro) (n := 0) trivial (roomFw ro _) rfl) stepR_loop) harr⟩
theorem putPs_spec {C:Cx} {ρ:Nat → Tk} {n:Nat}:∀ {ps:List Tmp} {vs:List SV} {F F':Fr} {tmps:Array Value},putPs ps vs F = some F' → FRel C ρ n F tmps → SV.okL C.R C.w1 ρ n vs →
   vs.length = ps.length ∧ FRel C ρ n F' ((ps.zip (denL ρ vs)).foldl (fun t (p,v) => t.setIfInBounds p v) tmps)
 | [],[],F,F',tmps,h,hF,_ => by cases h; exact ⟨rfl,hF⟩
 | p :: ps,v :: vs,F,F',tmps,h,hF,hv => by
   simp only [putPs] at h
   simp only [SV.okL] at hv
   obtain ⟨h1,h2⟩ := putPs_spec h (hF.set hv.1) hv.2
   exact ⟨by simp [h1],h2⟩
 | [],_ :: _,F,F',tmps,h,_,_ => by cases h
 | _ :: _,[],F,F',tmps,h,_,_ => by cases h
theorem stands_of_codeIn {P:Program} {fid:FuncId} {path:List Bool} {c:Code} (h:codeIn P fid path = some c):Stands P fid path c := by
 unfold codeIn bodyOf at h
 cases hf:P.funcs[fid]? with
 | none => simp [hf] at h
 | some fn =>
   cases hb:fn.body with
   | none => simp [hf,hb] at h
   | some body => simp [hf,hb] at h; exact ⟨fn,body,hf,hb,h⟩
theorem lp_of {C:Cx} {ρ:Nat → Tk} {H:Hp} {w:World} (hR:Rel C ρ H w) {t:Nat} {fid:FuncId} {path:List Bool} {F:Fr} {st:LSt} (ht:H[t]? = some (.lp fid path F st)) :
   ∃ (tmps:Array Value) (fn dfr:Nat) (g:Operand) (ps:Array Tmp) (a c:Code),codeIn Pg fid path = some (.rangeFunc g ps a c) ∧
     w.heap[(ρ t).blk]? = some (.loop { state := st.state,pending := st.pend,fn := fn,tmps := tmps,params := ps,assign := a,body := c,defers := dfr }) ∧ FRel C ρ H.length F tmps := by
 obtain ⟨tmps,fn,dfr,g,ps,a,c,h1,h2,h3,h4⟩ := hR.obj t _ ht
 exact ⟨tmps,fn,dfr,g,ps,a,c,h1,h2,h3,fun i v hv => ⟨h4 i v hv,hR.ok t _ ht i v hv⟩⟩
theorem lp_turn {C:Cx} {ρ:Nat → Tk} {H:Hp} {w:World} (hR:Rel C ρ H w) {t:Nat} {fid:FuncId} {path:List Bool} {F:Fr} {st st':LSt} (ht:H[t]? = some (.lp fid path F st)) {rec:Loop} (hrec:w.heap[(ρ t).blk]? = some (.loop rec)) :
   Rel C ρ (H.set t (.lp fid path F st')) (w.putObj (ρ t).blk (.loop { rec with state := st'.state,pending := st'.pend })) := by
 obtain ⟨tmps,fn,dfr,g,ps,a,c,h1,h2,h3,h4⟩ := hR.obj t _ ht
 have hlt := (Array.getElem?_eq_some_iff.1 hrec).1
 have htl := (List.getElem?_eq_some_iff.1 ht).1
 rw [h2] at hrec
 cases hrec
 refine hR.setObj ht (by rw [blkOf_eq ht]; rfl) (fun b hb => World.putObj_heap_other hb) (by simp) rfl rfl rfl ⟨tmps,fn,dfr,g,ps,a,c,h1,?_,h3,h4⟩ (by rw [blkOf_eq (o := .lp fid path F st') (by rw [List.getElem?_set_self htl])]; rfl) (show FrOk C.R C.w1 ρ H.length F from hR.ok t (.lp fid path F st) ht)
 exact World.putObj_heap_same hlt
theorem lp_drop {C:Cx} {ρ:Nat → Tk} {H:Hp} {w:World} (hR:Rel C ρ H w) {t:Nat} {o:SObj} (ht:H[t]? = some o) (hb:objBlk (ρ t) o = some (ρ t).blk) (o':Obj):Rel C ρ (H.set t .dead) (w.putObj (ρ t).blk o') := by
 have hbt:blkOf ρ H t = some (ρ t).blk := by rw [blkOf_eq ht]; exact hb
 have htl := (List.getElem?_eq_some_iff.1 ht).1
 have hget : ∀ s os, (H.set t .dead)[s]? = some os → (s = t ∧ os = .dead) ∨ (s ≠ t ∧ H[s]? = some os) := fun s os hs => by
   by_cases e:t = s
   · subst e; rw [List.getElem?_set_self htl] at hs; cases hs; exact .inl ⟨rfl,rfl⟩
   · rw [List.getElem?_set_ne e] at hs; exact .inr ⟨Ne.symm e,hs⟩
 have hblk : ∀ s b, blkOf ρ (H.set t .dead) s = some b → s ≠ t ∧ blkOf ρ H s = some b := fun s b hs => by
   obtain ⟨os,h1,h2⟩ := blkOf_get hs
   rcases hget s os h1 with ⟨_,rfl⟩ | ⟨h3,h4⟩
   · cases h2
   · exact ⟨h3,by rw [blkOf_eq h4]; exact h2⟩
 refine ⟨fun s os hs => ?_,fun s s' b h1 h2 => hR.sep s s' b (hblk s b h1).2 (hblk s' b h2).2,fun s b h1 => hR.own s b (hblk s b h1).2,hR.hdr,fun b h1 h2 => ?_,by simpa using hR.size,hR.os,hR.tape,hR.output,fun s os hs => ?_,hR.fit⟩
 · rcases hget s os hs with ⟨_, rfl⟩ | ⟨h3, h4⟩
   · trivial
   · refine (hR.obj s os h4).agree (C := C) (n := H.length) (hR.ok s os h4) (fun _ _ => rfl) fun b hb' => World.putObj_heap_other fun e => h3 ?_
     subst e
     exact hR.sep s t _ (by rw [blkOf_eq h4]; exact hb') hbt
 · rw [World.putObj_heap_other (fun e => h2 (by rw [e]; exact hR.own t _ hbt))]
   exact hR.keep b h1 h2
 · rw [List.length_set]
   rcases hget s os hs with ⟨_,rfl⟩ | ⟨h3,h4⟩
   · trivial
   · exact hR.ok s os h4
theorem wpIn_scope_straight {F:Fence} {n:Nat} {P:Program} {Q:Exit → Act → World → Prop} {a:Act} {w:World} {c:Code} (h:c.wpIn F n P (Exit.noGoto Q) a w):(Code.scope c).wpIn F n P Q a w := by
 intro b k cs hro hb hr
 have s1:step P (lone (b.atR a (.code (.scope c) :: k)) cs w) = .next (lone (b.atR a (.code c :: .inScope c :: k)) cs w) := step_lone_go (by simp [stepG,stepG.exec,Frame.atR])
 have s2:∀ a w,step P (lone (b.atR a (.inScope c :: k)) cs w) = .next (lone (b.atR a k) cs w) := fun a w => step_lone_go (by simp [stepG,stepG.exec,Frame.atR])
 have h1:StepsIn (Machine.fenced P F) P (lone (b.atR a (.code (.scope c) :: k)) cs w) (lone (b.atR a (.code c :: .inScope c :: k)) cs w) := .one (fenced_calm hb hr rfl) s1
 obtain ⟨e,a₁,w₁,hq,harr⟩ := h b (.inScope c :: k) cs hro hb hr
 cases e with
 | normal => exact ⟨.normal,a₁,w₁,hq,StepsIn.trans h1 (StepsIn.trans harr (.one (fenced_calm hb hr rfl) (s2 _ _)))⟩
 | exit id => exact ⟨.exit id,a₁,w₁,hq,fun k' hk => StepsIn.trans h1 (harr.1 k' (by simp [exitTo,hk])),fun hr hk => let ⟨k₁,x,y⟩ := harr.2 hr (by simp [exitTo,hk]); ⟨k₁,x,StepsIn.trans h1 y⟩⟩
 | goto l => exact hq.elim
 | ret => exact ⟨_,a₁,w₁,hq,.of_steps h1 harr⟩
 | panic ch => exact ⟨_,a₁,w₁,hq,.of_steps h1 harr⟩
 | outgrown => exact ⟨_,a₁,w₁,hq,.of_steps h1 harr⟩
theorem run_callFunc_callable {P:Program} {f:FuncId} (h:callable P f = true) (args:Array Value) (w:World):(callFunc f args).run P w = .ok (.enter f args) w := by
 unfold callable at h
 split at h
 · rename_i fn hfn
   rw [Bool.and_eq_true] at h
   have hne : fn.name ≠ "runtime.NumGoroutine" := by simpa using h.2
   have hbn:fn.body ≠ none := by intro e; rw [e] at h; simp at h
   simp only [callFunc,Sem.run_bind,run_program,Result.andThen_ok,hfn]
   rw [if_neg (by simpa using hne),if_neg (by simpa using hbn)]
   simp
 · cases h
theorem gcRet_sound {base:Nat} {v:SV} {H:Hp} {K:SV → Hp → Option α} {r:α} (hv:v.toks = []) (h:gcRet base v H K = some r):∃ H',K v H' = some r ∧ base ≤ H'.length ∧ ∀ (C:Cx) (ρ:Nat → Tk) (w:World),Rel C ρ H w → ∃ ρ':Nat → Tk,(∀ t,t < base → ρ' t = ρ t) ∧ Rel C ρ' H' w := by
 unfold gcRet at h
 split at h
 · rename_i H2 hgc
   obtain ⟨_,l2,g3⟩ := gc_spec hgc
   refine ⟨H2,h,l2,fun C ρ w hR => ?_⟩
   obtain ⟨ρ2,e1,e2,_,_⟩ := g3 C ρ w hR
   exact ⟨ρ2,e1,e2⟩
 · rename_i τ H2 hne hgc
   obtain ⟨_,l2,g3⟩ := gc_spec hgc
   refine ⟨H2,?_,l2,fun C ρ w hR => ?_⟩
   · have : v.ren (gcMap base τ) = v := ren_id v (fun t ht => by rw [hv] at ht; cases ht)
     rwa [this] at h
   · obtain ⟨ρ2, e1, e2, _, _⟩ := g3 C ρ w hR
     exact ⟨ρ2,e1,e2⟩
 · cases h
theorem yldI_sound (hE:EnvOk E) {run:RunF α} (hrun:RunOk E.P run):YldOk E.P (yldI E run) := by
 intro t args H K r h
 unfold yldI at h
 split at h
 · rename_i fid path F ht
   split at h
   · rename_i g ps a c hc
     obtain ⟨F1,hF1,h⟩ := bindO_some h
     have hst := stands_of_codeIn hc
     have hrd:∀ b,inRnd E.P fid (b :: path) = true := fun b => inRnd_range hc b
     obtain ⟨e1,S1,k1,g1⟩ := hrun fid (false :: path) H.length a ⟨F1,H⟩ _ r (sub_step hst fun root hr => by simp [sub,hr]) (Nat.le_refl _) h
     rw [hrd] at g1
     cases e1 with
     | exit id => cases k1
     | ret => cases k1
     | normal =>
       simp only at k1
       split at k1
       · rename_i f2 p2 F2 ht2
         have hl1:t < H.length := (List.getElem?_eq_some_iff.1 ht).1
         obtain ⟨e2,S2,k2,g2⟩ := hrun fid (true :: path) H.length c _ _ r (sub_step hst fun root hr => by simp [sub,hr]) (by simpa using g1.len) k1
         rw [hrd] at g2
         split at k2
         · rename_i f3 p3 F3 ht3
           -- what comes of the round
           have key:∃ (b:Bool) (st:LSt) (jump:Option Code),(e2 = .normal → jump = none) ∧ (e2 = .ret → jump = some .ret) ∧ (∀ id,e2 = .exit id → jump = some (.exit id)) ∧
               b = jump.isNone ∧ st.state = (if jump.isNone then .ready else .done) ∧ st.pend = jump ∧ gcRet H.length (.bool b) (S2.H.set t (.lp f3 p3 F3 st)) K = some r := by
             cases e2 with
             | normal => exact ⟨true,.ready,none,fun _ => rfl,(fun h => by cases h),(fun _ h => by cases h),rfl,rfl,rfl,k2⟩
             | ret => exact ⟨false,.done .ret,some .ret,(fun h => by cases h),fun _ => rfl,(fun _ h => by cases h),rfl,rfl,rfl,k2⟩
             | exit id => exact ⟨false,.done (.exit id),some (.exit id),(fun h => by cases h),(fun h => by cases h),(fun id' h => by cases h; rfl),rfl,rfl,rfl,k2⟩
           obtain ⟨b,st,jump,j1,j2,j3,hb,hs1,hs2,k3⟩ := key
           obtain ⟨H4,k4,l4,g4⟩ := gcRet_sound (v := .bool b) rfl k3
           refine ⟨.bool b,H4,k4,l4,fun C ρ w hR hargs => ?_⟩
           obtain ⟨tmps,fn,dfr,g',ps',a',c',q1,q2,q3⟩ := lp_of hR ht
           rw [← hE.prog,hc] at q1
           cases q1
           obtain ⟨hlen,hF⟩ := putPs_spec hF1 q3 hargs
           have hfold:(ps.zip (denL ρ args).toArray).foldl (fun t (p,v) => t.setIfInBounds p v) tmps = (ps.toList.zip (denL ρ args)).foldl (fun t (p,v) => t.setIfInBounds p v) tmps := by
             rw [← Array.foldl_toList]; simp
           have hy := run_yield (P := E.P) (args := (denL ρ args).toArray) q2 (by simp [denL_length,hlen])
           refine ⟨fn,_,a,c,hy,fun ro => ?_⟩
           refine roundIn_of_wpIn (F := Fw ro) (n := 0) trivial ?_
           simp only
           rw [hfold]
           refine Go.wpIn_mono (g1.wp C ρ { tmps := _,defers := [] } w hF hR (some (ρ t).blk) (fun h => by cases h)) fun ex a1 w1 hp => ?_
           obtain ⟨p1,ρ1,ms1,_,_,p4,p5,p6⟩ := hp
           subst p1
           show ∃ w₂,_ ∧ _
           obtain ⟨tmps2,fn2,dfr2,g2',ps2,a2',c2',s1,s2,s3⟩ := lp_of p5 ht2
           rw [p6 t hl1] at s2
           refine ⟨_,run_beginRound s2 rfl,?_⟩
           have hR2 := lp_turn p5 (st' := .busy) ht2 (by rw [p6 t hl1]; exact s2)
           rw [p6 t hl1] at hR2
           have hF2:FRel C ρ1 (S1.H.set t (.lp f2 p2 F2 .busy)).length S1.F a1.tmps := by rw [List.length_set]; exact p4
           refine Go.wpIn_mono (g2.wp C ρ1 a1 _ hF2 hR2 (some (ρ t).blk) (fun h => by cases h)) fun ex a3 w3 hp3 => ?_
           obtain ⟨r1,ρ3,ms3,_,_,r4,r5,r6⟩ := hp3
           obtain ⟨tmps4,fn4,dfr4,g4',ps4,a4',c4',u1,u2,u3⟩ := lp_of r5 ht3
           have hρ:ρ3 t = ρ t := by rw [r6 t hl1,p6 t hl1]
           have hR3 := lp_turn r5 (st' := st) ht3 u2
           rw [hρ] at u2 hR3
           have hend := run_endRound (P := E.P) jump u2
           have hfin:∃ v w',(Instr.endRound (ρ t).blk jump).run E.P w3 = .ok v w' ∧ ∃ ρ',(∀ t,t < H.length → ρ' t = ρ t) ∧ Ending.returned v = .returned (den ρ' (.bool b)) ∧ Rel C ρ' H4 w' ∧ (SV.bool b).ok C.R C.w1 ρ' H4.length := by
             refine ⟨_,_,hend,?_⟩
             rw [hs1,hs2] at hR3
             obtain ⟨ρ4,x1,x2⟩ := g4 C ρ3 _ hR3
             exact ⟨ρ4,fun s hs => by rw [x1 s hs,r6 s hs,p6 s hs],by rw [hb]; rfl,x2,by simp [SV.ok]⟩
           subst r1
           cases e2 with
           | normal => rw [j1 rfl] at hfin; exact hfin
           | ret => rw [j2 rfl] at hfin; exact hfin
           | exit id => rw [j3 id rfl] at hfin; exact hfin
         · cases k2
       · cases k1
   · cases h
 · cases h
theorem exec_sound (hE:EnvOk E) {look:LookF α} {lps:LookL α} (hlook:LookOk E.P look) (hlps:LoopsOk E.P lps):∀ n,RunOk E.P (exec E look lps n)
 | 0 => fun fid path base c S K r _ _ h => by simp [exec] at h
 | n + 1 => by
   intro fid path base c S K r hst hb h
   have ih := exec_sound hE hlook hlps n
   have hcall := callI_sound E hlook ih
   have hyld := yldI_sound E hE ih
   have here:∀ {c:Code} {e:Ex},(∀ {Q:Exit → Act → World → Prop} {a:Act} {w:World} (ro:Option Nat),Q e.exit' a w → c.wpIn (Fw ro) 0 E.P Q a w) → CodeGood E.P (inRnd E.P fid path) base c S e S := fun hw =>
     ⟨hb,fun C ρ a w hF hR ro _ => hw ro ⟨rfl,ρ,[],rfl,.nil,hF,hR,fun _ _ => rfl⟩⟩
   cases c with
   | skip => exact ⟨.normal,S,by simpa [exec] using h,here fun ro h => wpIn_skip h⟩
   | label l => exact ⟨.normal,S,by simpa [exec] using h,here fun ro h => wpIn_label h⟩
   | ret => exact ⟨.ret,S,by simpa [exec] using h,here fun ro h => wpIn_ret h⟩
   | exit id => exact ⟨.exit id,S,by simpa [exec] using h,here fun ro h => wpIn_exit h⟩
   | seq x y =>
     simp only [exec] at h
     obtain ⟨e,S1,h1,g1⟩ := ih fid (false :: path) base x S _ r (sub_step hst fun root hr => by simp [sub,hr]) hb h
     rw [inRnd_step hst (by intro g ps a c e; cases e)] at g1
     cases e with
     | normal =>
       obtain ⟨e2,S2,h2,g2⟩ := ih fid (true :: path) base y S1 K r (sub_step hst fun root hr => by simp [sub,hr]) g1.len h1
       rw [inRnd_step hst (by intro g ps a c e; cases e)] at g2
       refine ⟨e2,S2,h2,g2.len,fun C ρ a w hF hR ro hro => wpIn_seq (Go.wpIn_mono (g1.step hF hR ro hro) fun ex a' w' hp => ?_)⟩
       obtain ⟨p1,ρ',ms,p2,p3,p4,p5,p6,p7⟩ := hp
       subst p1
       refine Go.wpIn_mono (g2.step p4 p5 ro hro) fun ex2 a2 w2 hp2 => ?_
       obtain ⟨q1,ρ2,ms2,q2,q3,q4,q5,q6,q7⟩ := hp2
       exact ⟨q1,ρ2,ms2 ++ ms,by rw [q2,p2,List.append_assoc],Marks.append p3 q7 q3 p7.size,q4,q5,fun t ht => by rw [q6 t ht,p6 t ht]⟩
     | exit id =>
       refine ⟨.exit id,S1,h1,g1.len,fun C ρ a w hF hR ro hro => wpIn_seq (Go.wpIn_mono (g1.wp C ρ a w hF hR ro hro) fun ex a' w' hp => ?_)⟩
       obtain ⟨p1,hp⟩ := hp
       subst p1
       exact ⟨rfl,hp⟩
     | ret =>
       refine ⟨.ret,S1,h1,g1.len,fun C ρ a w hF hR ro hro => wpIn_seq (Go.wpIn_mono (g1.wp C ρ a w hF hR ro hro) fun ex a' w' hp => ?_)⟩
       obtain ⟨p1,hp⟩ := hp
       subst p1
       exact ⟨rfl,hp⟩
   | cond x y z =>
     simp only [exec] at h
     split at h
     · rename_i t ht
       -- the slot of the test is written out
       have hS:∀ (b:Bool),t = b → SameGood base S (setOpd x b S) := by
         intro b hbt
         cases x with
         | tmp d =>
           have hd:S.F[d]? = some (some (.bool t)) := by
             simp only [opd] at ht
             cases hq:S.F[d]? with
             | none => simp [hq] at ht
             | some y => cases y <;> simp_all
           exact ⟨hb,fun C ρ tmps w hF hR => ⟨ρ,fun _ _ => rfl,hF.same hd hbt,hR⟩⟩
         | _ => exact ⟨hb,fun C ρ tmps w hF hR => ⟨ρ,fun _ _ => rfl,hF,hR⟩⟩
       split at h
       · rename_i htt
         obtain ⟨e,S1,h1,g1⟩ := ih fid (false :: path) base y _ K r (sub_step hst fun root hr => by simp [sub,hr]) (hS true htt).len h
         rw [inRnd_step hst (by intro g ps a c e; cases e)] at g1
         have g2 := CodeGood.after (hS true htt) g1
         refine ⟨e,S1,h1,g2.len,fun C ρ a w hF hR ro hro => ?_⟩
         obtain ⟨e1,_⟩ := opd_spec hF ht
         exact wpIn_cond (t := true) (by rw [e1,htt]; rfl) (g2.wp C ρ a w hF hR ro hro)
       · rename_i htt
         have htf:t = false := by simpa using htt
         obtain ⟨e,S1,h1,g1⟩ := ih fid (true :: path) base z _ K r (sub_step hst fun root hr => by simp [sub,hr]) (hS false htf).len h
         rw [inRnd_step hst (by intro g ps a c e; cases e)] at g1
         have g2 := CodeGood.after (hS false htf) g1
         refine ⟨e,S1,h1,g2.len,fun C ρ a w hF hR ro hro => ?_⟩
         obtain ⟨e1,_⟩ := opd_spec hF ht
         exact wpIn_cond (t := false) (by rw [e1,htf]; rfl) (g2.wp C ρ a w hF hR ro hro)
     · cases h
   | block id x =>
     simp only [exec] at h
     obtain ⟨e,S1,h1,g1⟩ := ih fid (false :: path) base x S _ r (sub_step hst fun root hr => by simp [sub,hr]) hb h
     rw [inRnd_step hst (by intro g ps a c e; cases e)] at g1
     cases e with
     | normal =>
       refine ⟨.normal,S1,h1,g1.len,fun C ρ a w hF hR ro hro => wpIn_block (Go.wpIn_mono (g1.wp C ρ a w hF hR ro hro) fun ex a' w' hp => ?_)⟩
       obtain ⟨p1,hp⟩ := hp
       subst p1
       exact ⟨rfl,hp⟩
     | ret =>
       refine ⟨.ret,S1,h1,g1.len,fun C ρ a w hF hR ro hro => wpIn_block (Go.wpIn_mono (g1.wp C ρ a w hF hR ro hro) fun ex a' w' hp => ?_)⟩
       obtain ⟨p1,hp⟩ := hp
       subst p1
       exact ⟨rfl,hp⟩
     | exit id' =>
       simp only at h1
       split at h1
       · rename_i he
         have he' := Nat.eq_of_beq_eq_true he
         refine ⟨.normal,S1,h1,g1.len,fun C ρ a w hF hR ro hro => wpIn_block (Go.wpIn_mono (g1.wp C ρ a w hF hR ro hro) fun ex a' w' hp => ?_)⟩
         obtain ⟨p1,hp⟩ := hp
         subst p1
         simp only [Ex.exit',Exit.inBlock,if_pos he']
         exact ⟨trivial,hp⟩
       · rename_i he
         have he':id' ≠ id := fun e => he (by rw [e]; exact Nat.beq_refl _)
         refine ⟨.exit id',S1,h1,g1.len,fun C ρ a w hF hR ro hro => wpIn_block (Go.wpIn_mono (g1.wp C ρ a w hF hR ro hro) fun ex a' w' hp => ?_)⟩
         obtain ⟨p1,hp⟩ := hp
         subst p1
         simp only [Ex.exit',Exit.inBlock,if_neg he']
         exact ⟨trivial,hp⟩
   | scope x =>
     simp only [exec] at h
     obtain ⟨e,S1,h1,g1⟩ := ih fid (false :: path) base x S _ r (sub_step hst fun root hr => by simp [sub,hr]) hb h
     rw [inRnd_step hst (by intro g ps a c e; cases e)] at g1
     refine ⟨e,S1,h1,g1.len,fun C ρ a w hF hR ro hro => Sx.wpIn_scope_straight (Go.wpIn_mono (g1.wp C ρ a w hF hR ro hro) fun ex a' w' hp => ?_)⟩
     obtain ⟨p1,hp⟩ := hp
     subst p1
     cases e <;> exact ⟨rfl,hp⟩
   | loop x =>
     simp only [exec] at h
     obtain ⟨S0,h0,g0⟩ := cleanL_sound E h
     unfold loopAt at h0
     split at h0
     · rename_i l hl
       obtain ⟨e,S1,h1,g1⟩ := hlps fid path base S0 l hl x hst K r g0.len h0
       exact ⟨e,S1,h1,CodeGood.after g0 g1⟩
     · by_cases hu : memN fid E.unrl = true
       · rw [if_pos hu, iterU_eq] at h0
         obtain ⟨e,S1,h1,g1⟩ := loop_sound E ih hst g0.len h0
         exact ⟨e,S1,h1,CodeGood.after g0 g1⟩
       · rw [if_neg hu] at h0
         obtain ⟨e,S1,h1,g1⟩ := loop_sound E ih hst g0.len h0
         exact ⟨e,S1,h1,CodeGood.after g0 g1⟩
   | rangeFunc g ps asx bd =>
     simp only [exec] at h
     split at h
     · cases h
     · rename_i hnr
       have hnr':inRnd E.P fid path = false := by simpa using hnr
       obtain ⟨S0,h0,g0⟩ := cleanL_sound E h
       split at h0
       · rename_i f lb hg
         split at h0
         · rename_i hcal
           obtain ⟨v,H',h1,hS⟩ := hcall _ _ _ _ _ h0
           have hcode:codeIn E.P fid path = some (.rangeFunc g ps asx bd) := by
             obtain ⟨fn,body,e1,e2,e3⟩ := hst
             simp [codeIn,bodyOf,e1,e2,e3]
           -- the statement itself, for each way in which it ends
           have main:∀ (f':FuncId) (p':List Bool) (F':Fr) (st:LSt) (e:Ex),H'[S0.H.length]? = some (.lp f' p' F' st) → (st = .ready ∧ e = .normal ∨ (st = .done e ∧ e ≠ .normal)) →
               CodeGood E.P (inRnd E.P fid path) base (.rangeFunc g ps asx bd) S0 e ⟨S0.F,H'.set S0.H.length .dead⟩ := by
             intro f' p' F' st e ht hse
             refine ⟨by simp only [List.length_set]; exact Nat.le_trans g0.len (Nat.le_trans (by simp) hS.len),fun C ρ a w hF hR ro hro => ?_⟩
             have hro' := hro hnr'
             subst hro'
             obtain ⟨eg,okg⟩ := opd_spec hF hg
             simp only [den,denL] at eg
             simp only [SV.ok,SV.okL] at okg
             -- the two blocks that are laid
             have hRA:Rel C ρ S0.H (w.alloc (.deferred (some []))) :=
               ⟨fun t o ho => (hR.obj t o ho).agree (C := C) (n := S0.H.length) (hR.ok t o ho) (fun _ _ => rfl) fun b hb' => Below.heap_alloc w _ b (blk_lt hR (t := t) (by rw [blkOf_eq ho]; exact hb')),hR.sep,hR.own,hR.hdr,
                 fun b h1 h2 => by rw [Below.heap_alloc w _ b (Nat.lt_of_lt_of_le h1 hR.size)]; exact hR.keep b h1 h2,Nat.le_trans hR.size (by simp),hR.os,hR.tape,hR.output,hR.ok,hR.fit⟩
             refine wpIn_rangeFunc fun fn _ => ?_
             have hRL:Rel C (ext ρ S0.H.length ⟨w.heap.size + 1,.slice none 0 0⟩) (S0.H ++ [.lp fid path S0.F .ready]) ((w.alloc (.deferred (some []))).alloc (.loop { state := .ready,pending := none,fn := fn,tmps := a.tmps,params := ps,assign := asx,body := bd,defers := w.heap.size })) := by
               refine hRA.push _ ⟨w.heap.size + 1,.slice none 0 0⟩ (fun b hb' => Below.heap_alloc _ _ b hb') (by simp) rfl rfl rfl ?_ ?_ ?_ ⟨_,_,_,rfl⟩
               · refine ⟨a.tmps,fn,w.heap.size,g,ps,asx,bd,by rw [← hE.prog]; exact hcode,?_,hF.size,fun i v hv => by rw [den_agree ext_lt v (hF.val i v hv).2]; exact (hF.val i v hv).1⟩
                 have := World.alloc_heap_new (w.alloc (.deferred (some []))) (.loop { state := .ready,pending := none,fn := fn,tmps := a.tmps,params := ps,assign := asx,body := bd,defers := w.heap.size })
                 rwa [World.size_alloc] at this
               · intro b hb'; cases hb'; simp
               · exact fun i v hv => Sx.ok_mono (by omega) v (Sx.ok_agree ext_lt v (hF.val i v hv).2)
             have hargs:SV.okL C.R C.w1 (ext ρ S0.H.length ⟨w.heap.size + 1,.slice none 0 0⟩) (S0.H ++ [SObj.lp fid path S0.F .ready]).length (.yld S0.H.length :: lb) := by
               refine ⟨by simp [SV.ok],?_⟩
               exact okL_mono (by simp) _ (okL_agree ext_lt _ okg.2)
             have hden:denL (ext ρ S0.H.length ⟨w.heap.size + 1,.slice none 0 0⟩) (.yld S0.H.length :: lb) = .func (.yield (w.heap.size + 1)) #[] #[] :: denL ρ lb := by
               simp only [denL,den,ext_self,denL_agree ext_lt lb okg.2]
             have hDold:∀ t,blkOf (ext ρ S0.H.length ⟨w.heap.size + 1,.slice none 0 0⟩) (S0.H ++ [SObj.lp fid path S0.F .ready]) t ≠ some w.heap.size := by
               intro t hbt
               obtain ⟨o,ho,h2⟩ := blkOf_get hbt
               by_cases htl:t < S0.H.length
               · rw [List.getElem?_append_left htl] at ho
                 rw [ext_lt t htl] at h2
                 have := blk_lt hR (t := t) (b := w.heap.size) (by rw [blkOf_eq ho]; exact h2)
                 omega
               · have hl := (List.getElem?_eq_some_iff.1 ho).1
                 simp at hl
                 have:t = S0.H.length := by omega
                 subst this
                 simp at ho
                 subst ho
                 rw [ext_self] at h2
                 simp [objBlk] at h2
             have hD0:((w.alloc (.deferred (some []))).alloc (.loop { state := .ready,pending := none,fn := fn,tmps := a.tmps,params := ps,assign := asx,body := bd,defers := w.heap.size })).heap[w.heap.size]? = some (.deferred (some [])) :=
               (Below.heap_alloc _ _ _ (by simp)).trans (World.alloc_heap_new w _)
             have hrun := hS.run _ _ _ hRL.into (okL_world hRL.roKeep _ hargs)
             rw [hden] at hrun
             have hsz:w.heap.size < ((w.alloc (.deferred (some []))).alloc (.loop { state := .ready,pending := none,fn := fn,tmps := a.tmps,params := ps,assign := asx,body := bd,defers := w.heap.size })).heap.size := by simp; omega
             have hen := run_enterLoop_outer (P := E.P) (w := w) fn a.tmps ps asx bd
             generalize hW1:((w.alloc (.deferred (some []))).alloc (.loop { state := .ready,pending := none,fn := fn,tmps := a.tmps,params := ps,assign := asx,body := bd,defers := w.heap.size })) = W1 at hRL hD0 hrun hsz hen
             refine ⟨w.heap.size + 1,[{ target := .collected w.heap.size,args := #[] }],W1,{ target := .fn (.func f) (denL ρ lb).toArray,args := #[.func (.yield (w.heap.size + 1)) #[] #[]] },W1,f,
               #[.func (.yield (w.heap.size + 1)) #[] #[]] ++ (denL ρ lb).toArray,W1,hen,?_,fun _ _ => trivial,?_,fun hx => (by cases hx),?_⟩
             · simp only [resolve, eg]
               simp [go_sem]
             · simp only [invoke]
               exact run_callFunc_callable hcal _ _
             · have e1:(#[Value.func (.yield (w.heap.size + 1)) #[] #[]] ++ (denL ρ lb).toArray:Array Value) = (.func (.yield (w.heap.size + 1)) #[] #[] :: denL ρ lb:List Value).toArray := by simp
               rw [e1]
               refine callsFw none _ (hrun.mono fun en w3 hq => ?_)
               obtain ⟨ρ2,r1,rfl,r3,r4⟩ := hq
               have rA := r3.apart
               have rR := hRL.outer r3
               have hρt:(ρ2 S0.H.length).blk = w.heap.size + 1 := by rw [r1 _ (by simp),ext_self]
               obtain ⟨tmps2,fn2,dfr2,g2,ps2,a2,c2,s1,s2,s3⟩ := lp_of rR ht
               have hbusy:st.state ≠ .busy := by rcases hse with ⟨rfl,_⟩ | ⟨rfl,_⟩ <;> simp [LSt.state]
               have hend := run_endLoop (P := E.P) s2 hbusy
               rw [hρt] at hend
               have hR4 := lp_drop rR ht rfl (.loop { state := .exhausted,pending := st.pend,fn := fn2,tmps := tmps2,params := ps2,assign := a2,body := c2,defers := dfr2 })
               rw [hρt] at hR4
               have hagree:∀ t,t < S0.H.length → ρ2 t = ρ t := fun t ht => by rw [r1 t (by simp; omega),ext_lt t ht]
               have hlen:S0.H.length ≤ H'.length := Nat.le_trans (by simp) hS.len
               obtain ⟨k1,k2⟩ := rA.keep w.heap.size hsz hDold
               have hmarks:∀ w4,w4.heap[w.heap.size]? = w3.heap[w.heap.size]? → Marks [{ target := .collected w.heap.size,args := #[] }] w.heap.size w4 ρ2 (H'.set S0.H.length .dead) := fun w4 hw4 =>
                 ⟨fun d hd => by
                   simp only [List.mem_singleton] at hd
                   refine ⟨w.heap.size,hd,Nat.le_refl _,by rw [hw4,k1,hD0],fun t hbt => ?_⟩
                   obtain ⟨o,ho,h2⟩ := blkOf_get hbt
                   by_cases e:S0.H.length = t
                   · subst e
                     rw [List.getElem?_set_self (by have := (List.getElem?_eq_some_iff.1 ht).1; exact this)] at ho
                     cases ho; cases h2
                   · rw [List.getElem?_set_ne e] at ho
                     exact k2 t (by rw [blkOf_eq ho]; exact h2),by simp⟩
               have hFin:FRel C ρ2 (H'.set S0.H.length .dead).length S0.F a.tmps := by rw [List.length_set]; exact hF.next hagree hlen
               have hpost:∀ (ex:Exit),ex = e.exit' → ex = e.exit' ∧ ∃ ρ' ms,([{ target := .collected w.heap.size,args := #[] }] ++ a.defers:List Deferred) = ms ++ a.defers ∧ Marks ms w.heap.size (w3.putObj (w.heap.size + 1) (.loop { state := .exhausted,pending := st.pend,fn := fn2,tmps := tmps2,params := ps2,assign := a2,body := c2,defers := dfr2 })) ρ' (H'.set S0.H.length .dead) ∧
                   FRel C ρ' (H'.set S0.H.length .dead).length S0.F a.tmps ∧ Rel C ρ' (H'.set S0.H.length .dead) (w3.putObj (w.heap.size + 1) (.loop { state := .exhausted,pending := st.pend,fn := fn2,tmps := tmps2,params := ps2,assign := a2,body := c2,defers := dfr2 })) ∧ ∀ t,t < base → ρ' t = ρ t := fun ex hex =>
                 ⟨hex,ρ2,_,rfl,hmarks _ (World.putObj_heap_other (by omega)),hFin,hR4,fun t ht => hagree t (Nat.lt_of_lt_of_le ht g0.len)⟩
               refine ⟨st.pend,_,hend,?_⟩
               rcases hse with ⟨rfl,rfl⟩ | ⟨rfl,hne⟩
               · exact hpost .normal rfl
               · cases e with
                 | normal => exact absurd rfl hne
                 | ret => exact wpIn_ret (hpost .ret rfl)
                 | exit id => exact wpIn_exit (hpost (.exit id) rfl)
           have hlen':base ≤ S0.H.length := g0.len
           split at h1
           · rename_i ht
             obtain ⟨S2,h2,g2⟩ := gcSt_sound h1
             exact ⟨.normal,S2,h2,CodeGood.after g0 ((main _ _ _ _ .normal ht (.inl ⟨rfl,rfl⟩)).thenSame (Nat.le_refl _) g2)⟩
           · rename_i ht
             obtain ⟨S2,h2,g2⟩ := gcSt_sound h1
             exact ⟨.ret,S2,h2,CodeGood.after g0 ((main _ _ _ _ .ret ht (.inr ⟨rfl,by simp⟩)).thenSame (Nat.le_refl _) g2)⟩
           · rename_i id ht
             obtain ⟨S2,h2,g2⟩ := gcSt_sound h1
             exact ⟨.exit id,S2,h2,CodeGood.after g0 ((main _ _ _ _ (.exit id) ht (.inr ⟨rfl,by simp⟩)).thenSame (Nat.le_refl _) g2)⟩
           · cases h1
         · cases h0
       · cases h0
   | region id ops draw =>
     simp only [exec] at h
     split at h
     · rename_i hdr
       subst hdr
       split at h
       · rename_i hm
         obtain ⟨S1,h1,g1⟩ := draw_sound E hE hcall hyld (pure_ok E look lps n) (inRnd E.P fid path) ops base S hb _ r hm _ (slotsOf_pos _ _) h id
         obtain ⟨S',h2,g2⟩ := nilSt_sound E h1
         exact ⟨.normal,S',h2,g1.thenSame g1.len g2⟩
       · cases h
     · rename_i hdr
       have hdr':draw = false := by simpa using hdr
       subst hdr'
       obtain ⟨S',h1,l1,g1⟩ := opsL_sound E hE hcall hyld ops ops.toList S _ r h
       refine ⟨.normal,S',h1,Nat.le_trans hb l1,fun C ρ a w hF hR ro _ => wpIn_region_list (g1 C ρ a w hF hR ro _ fun ρ' a' w' hr hd' hF' hR' => ?_)⟩
       exact ⟨rfl,ρ',[],hd',.nil,hF',hR',fun t ht => hr t (Nat.lt_of_lt_of_le ht hb)⟩
   | _ => simp [exec] at h
end
end
section
open Go Go.RowKit
def LK.noP:LK → Bool
 | .p => false
 | .i _ => true
 | .b => true
def noPL:List LK → Bool
 | [] => true
 | k :: l => k.noP && noPL l
def K.noP:K → Bool
 | .st k ks => k.noP && noPL ks
 | .int _ => true
 | .bool => true
 | .v3 => true
mutual
/-- Nothing in it is read off memory that came in. -/
def SV.free:SV → Bool
 | .rix _ _ _ _ _ => false
 | .ros _ _ _ => false
 | .arr κ _ _ => κ.noP
 | .fn _ a b => SV.freeL a && SV.freeL b
 | .agg l => SV.freeL l
 | .tup l => SV.freeL l
 | _ => true
def SV.freeL:List SV → Bool
 | [] => true
 | x :: l => x.free && SV.freeL l
end
def SObj.free:SObj → Bool
 | .cells l _ => SV.freeL l
 | .lp _ _ _ _ => false
 | .seq κ _ _ => κ.noP
 | .dead => true
theorem LK.okT_noP {R:Nat → Prop} {w:World}:∀ (k:LK) (x:k.T),k.noP = true → k.okT R w x
 | .p,_,h => by cases h
 | .i _,_,_ => trivial
 | .b,_,_ => trivial
theorem RT.okT_noP {R:Nat → Prop} {w:World}:∀ (k:LK) (ks:List LK) (x:RT k ks),k.noP = true → noPL ks = true → RT.okT R w k ks x
 | k,[],x,h,_ => LK.okT_noP k x h
 | k,k' :: ks,x,h,h2 => by
   simp only [noPL,Bool.and_eq_true] at h2
   exact ⟨LK.okT_noP k x.1 h,RT.okT_noP k' ks x.2 h2.1 h2.2⟩
theorem inOk_noP {R : Nat → Prop} {w : World} (κ : K) (xs : List κ.T) (h : κ.noP = true) : InOk R w κ xs := fun x _ => by
 cases κ with
 | st k ks =>
   simp only [K.noP,Bool.and_eq_true] at h
   exact RT.okT_noP k ks x h.1 h.2
 | _ => trivial
mutual
theorem ok_free {R R':Nat → Prop} {w w':World} {ρ:Nat → Tk} {n:Nat}:∀ (v:SV),v.free = true → v.ok R w ρ n → v.ok R' w' ρ n
 | .ptr _ _,_,hv => by simp only [SV.ok] at hv ⊢; exact hv
 | .aix _ _ _ _ _,_,hv => by simp only [SV.ok] at hv ⊢; exact hv
 | .pix _ _ _ _,_,hv => by simp only [SV.ok] at hv ⊢; exact hv
 | .sub _ _ _ _,_,hv => by simp only [SV.ok] at hv ⊢; exact hv
 | .clp _ _ _,_,hv => by simp only [SV.ok] at hv ⊢; exact hv
 | .sl _,_,hv => by simp only [SV.ok] at hv ⊢; exact hv
 | .yld _,_,hv => by simp only [SV.ok] at hv ⊢; exact hv
 | .rix _ _ _ _ _,h,_ => by simp [SV.free] at h
 | .ros _ _ _,h,_ => by simp [SV.free] at h
 | .fn _ a b,h,hv => by
   simp only [SV.free,Bool.and_eq_true] at h
   simp only [SV.ok] at hv ⊢
   exact ⟨okL_free a h.1 hv.1,okL_free b h.2 hv.2⟩
 | .raw _,_,hv => by simp only [SV.ok] at hv ⊢; exact hv
 | .arr κ xs _,h,hv => by simp only [SV.free] at h; simp only [SV.ok] at hv ⊢; exact ⟨hv.1,inOk_noP κ xs h⟩
 | .agg l,h,hv => by simp only [SV.free] at h; simp only [SV.ok] at hv ⊢; exact okL_free l h hv
 | .tup l,h,hv => by simp only [SV.free] at h; simp only [SV.ok] at hv ⊢; exact okL_free l h hv
 | .int _ _,_,_ => by simp only [SV.ok]
 | .bool _,_,_ => by simp only [SV.ok]
theorem okL_free {R R':Nat → Prop} {w w':World} {ρ:Nat → Tk} {n:Nat}:∀ (l:List SV),SV.freeL l = true → SV.okL R w ρ n l → SV.okL R' w' ρ n l
 | [],_,_ => by simp only [SV.okL]
 | x :: l,h,hv => by
   simp only [SV.freeL,Bool.and_eq_true] at h
   simp only [SV.okL] at hv ⊢
   exact ⟨ok_free x h.1 hv.1,okL_free l h.2 hv.2⟩
end
theorem RosOk0.more {R R':Nat → Prop} {w:World} (h:∀ b,R b → R' b) {v:Value} {κ:K} {xs:List κ.T} (hr:RosOk0 R w v κ xs):RosOk0 R' w v κ xs := by
 rcases hr with h0 | ⟨ad,cap,e,hl,hs,hR,hc⟩
 · exact .inl h0
 · exact .inr ⟨ad,cap,e,hl,hs,h _ hR,hc⟩
theorem LK.okT_more {R R':Nat → Prop} {w:World} (h:∀ b,R b → R' b) (k:LK) (x:k.T) (hx:k.okT R w x):k.okT R' w x := by
 cases k with
 | p => exact RosOk0.more (κ := kP) (v := slV x.1) (xs := x.2) h hx
 | _ => trivial
theorem RT.okT_more {R R':Nat → Prop} {w:World} (h:∀ b,R b → R' b):∀ (k:LK) (ks:List LK) (x:RT k ks),RT.okT R w k ks x → RT.okT R' w k ks x
 | k,[],x,hx => LK.okT_more h k x hx
 | k,k' :: ks,x,hx => ⟨LK.okT_more h k x.1 hx.1,RT.okT_more h k' ks x.2 hx.2⟩
theorem InOk.more {R R':Nat → Prop} {w:World} (h:∀ b,R b → R' b) {κ:K} {xs:List κ.T} (hr:InOk R w κ xs):InOk R' w κ xs := fun x hx => by
 have := hr x hx
 cases κ with
 | st k ks => exact RT.okT_more h k ks x this
 | _ => trivial
theorem RosOk.more {R R':Nat → Prop} {w:World} (h:∀ b,R b → R' b) {v:Value} {κ:K} {xs:List κ.T} (hr:RosOk R w v κ xs):RosOk R' w v κ xs := ⟨hr.1.more h,hr.2.more h⟩
mutual
theorem ok_more {R R':Nat → Prop} {w:World} {ρ:Nat → Tk} {n:Nat} (h:∀ b,R b → R' b):∀ (v:SV),v.ok R w ρ n → v.ok R' w ρ n
 | .ptr _ _,hv => by simp only [SV.ok] at hv ⊢; exact hv
 | .aix _ _ _ _ _,hv => by simp only [SV.ok] at hv ⊢; exact hv
 | .pix _ _ _ _,hv => by simp only [SV.ok] at hv ⊢; exact hv
 | .sub _ _ _ _,hv => by simp only [SV.ok] at hv ⊢; exact hv
 | .clp _ _ _,hv => by simp only [SV.ok] at hv ⊢; exact hv
 | .sl _,hv => by simp only [SV.ok] at hv ⊢; exact hv
 | .yld _,hv => by simp only [SV.ok] at hv ⊢; exact hv
 | .rix _ _ _ _ _,hv => by simp only [SV.ok] at hv ⊢; exact ⟨hv.1.more h,hv.2⟩
 | .ros _ _ _,hv => by simp only [SV.ok] at hv ⊢; exact hv.more h
 | .fn _ a b,hv => by simp only [SV.ok] at hv ⊢; exact ⟨okL_more h a hv.1,okL_more h b hv.2⟩
 | .raw _,hv => by simp only [SV.ok] at hv ⊢; exact hv
 | .arr _ _ _,hv => by simp only [SV.ok] at hv ⊢; exact ⟨hv.1,hv.2.more h⟩
 | .agg l,hv => by simp only [SV.ok] at hv ⊢; exact okL_more h l hv
 | .tup l,hv => by simp only [SV.ok] at hv ⊢; exact okL_more h l hv
 | .int _ _,_ => by simp only [SV.ok]
 | .bool _,_ => by simp only [SV.ok]
theorem okL_more {R R':Nat → Prop} {w:World} {ρ:Nat → Tk} {n:Nat} (h:∀ b,R b → R' b):∀ (l:List SV),SV.okL R w ρ n l → SV.okL R' w ρ n l
 | [],_ => by simp only [SV.okL]
 | x :: l,hv => by simp only [SV.okL] at hv ⊢; exact ⟨ok_more h x hv.1,okL_more h l hv.2⟩
end
theorem setAll_length:∀ (σ:List Nat) (H os:Hp),(setAll H σ os).length = H.length
 | [],H,os => by cases os <;> rfl
 | s :: σ,H,[] => rfl
 | s :: σ,H,o :: os => by simp only [setAll]; rw [setAll_length σ]; simp
theorem setAll_not:∀ (σ:List Nat) (H os:Hp) (t:Nat),t ∉ σ → (setAll H σ os)[t]? = H[t]?
 | [],H,os,t,_ => by cases os <;> rfl
 | s :: σ,H,[],t,_ => rfl
 | s :: σ,H,o :: os,t,h => by
   simp only [List.mem_cons,not_or] at h
   simp only [setAll]
   rw [setAll_not σ _ _ t h.2,List.getElem?_set_ne (Ne.symm h.1)]
theorem setAll_get:∀ (σ:List Nat) (H os:Hp) (i s:Nat),σ.Nodup → (∀ s ∈ σ,s < H.length) → σ.length ≤ os.length → σ[i]? = some s → (setAll H σ os)[s]? = os[i]?
 | [],H,os,i,s,_,_,_,h => by simp at h
 | s' :: σ,H,[],i,s,_,_,hl,_ => by simp at hl
 | s' :: σ,H,o :: os,0,s,hn,hlt,_,h => by
   simp at h; subst h
   simp only [setAll]
   rw [setAll_not σ _ _ _ (List.nodup_cons.1 hn).1,List.getElem?_set_self (hlt _ (by simp))]; rfl
 | s' :: σ,H,o :: os,i + 1,s,hn,hlt,hl,h => by
   simp at h
   simp only [setAll]
   rw [setAll_get σ _ _ i s (List.nodup_cons.1 hn).2 (fun x hx => by rw [List.length_set]; exact hlt x (by simp [hx])) (by simpa using hl) h]; rfl
def Cx.call (C:Cx) (ρ:Nat → Tk) (H:Hp) (σ ex:List Nat) (w:World):Cx :=
 { R := fun b => C.R b ∨ ∃ t ∈ ex,blkOf ρ H t = some b,w1 := w,Own := fun b => w.heap.size ≤ b ∨ ∃ t ∈ σ,blkOf ρ H t = some b }
theorem objBlk_ren {g:Nat → Nat} (tk:Tk) (o:SObj):objBlk tk (o.ren g) = objBlk tk o := by cases o <;> rfl
theorem Sound.adapt {P:Program} {f:FuncId} {Hin H H0:Hp} {v0:SV} {args:List SV} (σ ex:List Nat) (hnd:σ.Nodup) (hlt:∀ s ∈ σ,s < H.length) (hdis:∀ t ∈ ex,t ∉ σ) (hlen:Hin.length = σ.length)
   (hH:∀ (i s:Nat) (o:SObj),σ[i]? = some s → Hin[i]? = some o → H[s]? = some o ∧ o.toks = [])
   (hfree:ex = [] ∨ (v0.free = true ∧ ∀ o ∈ H0,SObj.free o = true))
   (hargs:∀ (C:Cx) (ρ:Nat → Tk) (w:World),Rel C ρ H w → SV.okL C.R C.w1 ρ H.length args → ∀ ρ0:Nat → Tk,(∀ i s,σ[i]? = some s → ρ0 i = ρ s) →
     ∃ args0,denL ρ0 args0 = denL ρ args ∧ SV.okL (C.call ρ H σ ex w).R w ρ0 Hin.length args0 ∧ Sound P f args0 Hin v0 H0) :
   Sound P f args H (v0.ren (gAd σ H.length)) (backH σ H H0) := by
 have hbl : ∀ H0 : Hp, σ.length ≤ H0.length → (backH σ H H0).length = H.length + (H0.length - σ.length) := fun H0 hl => by
   unfold backH; rw [List.length_append,setAll_length,List.length_map,List.length_drop]
 refine ⟨by unfold backH; rw [List.length_append,setAll_length]; omega,fun C ρ w hR hok => ?_⟩
 -- the small run
 let ρ0:Nat → Tk := fun i => ρ (σ.getD i 0)
 have hρ0:∀ i s,σ[i]? = some s → ρ0 i = ρ s := fun i s h => by simp only [ρ0]; rw [List.getD_eq_getElem?_getD,h]; rfl
 obtain ⟨args0,hden,hok0,hS⟩ := hargs C ρ w hR hok ρ0 hρ0
 have hl0:σ.length ≤ H0.length := by rw [← hlen]; exact hS.len
 have hget : ∀ (i : Nat) (o : SObj), Hin[i]? = some o → ∃ s, σ[i]? = some s ∧ H[s]? = some o ∧ o.toks = [] ∧ s ∈ σ := fun i o ho => by
   have hi:i < σ.length := by rw [← hlen]; exact (List.getElem?_eq_some_iff.1 ho).1
   have hs:σ[i]? = some σ[i] := List.getElem?_eq_getElem hi
   exact ⟨_,hs,(hH i _ o hs ho).1,(hH i _ o hs ho).2,List.getElem_mem hi⟩
 have hblk0 : ∀ i b, blkOf ρ0 Hin i = some b → ∃ s, σ[i]? = some s ∧ s ∈ σ ∧ blkOf ρ H s = some b := fun i b hb => by
   obtain ⟨o,ho,h2⟩ := blkOf_get hb
   obtain ⟨s,h3,h4,_,h5⟩ := hget i o ho
   exact ⟨s,h3,h5,by rw [blkOf_eq h4,← hρ0 i s h3]; exact h2⟩
 have hroK:∀ b,C.R b → w.heap[b]? = C.w1.heap[b]? := hR.roKeep
 have hfit : (C.call ρ H σ ex w).Fit := ⟨fun b hb => .inl hb, fun b hr => by
   rcases hr with hr | ⟨t,ht,hb⟩
   · have hl : b < w.heap.size := Nat.lt_of_lt_of_le (hR.fit.ro b hr).1 hR.size
     refine ⟨hl,fun hc => ?_⟩
     rcases hc with hc | ⟨s,_,hs⟩
     · exact absurd hl (Nat.not_lt.2 hc)
     · exact (hR.fit.ro b hr).2 (hR.own s b hs)
   · have hl := blk_lt hR hb
     refine ⟨hl,fun hc => ?_⟩
     rcases hc with hc | ⟨s,hs,hs2⟩
     · exact absurd hl (Nat.not_lt.2 hc)
     · exact hdis t ht (hR.sep t s b hb hs2 ▸ hs)⟩
 have hrel0:Rel (C.call ρ H σ ex w) ρ0 Hin w := by
   refine ⟨fun i o ho => ?_,fun i j b h1 h2 => ?_,fun i b h1 => ?_,fun i => hR.hdr _,fun _ _ _ => rfl,Nat.le_refl _,rfl,rfl,rfl,fun i o ho => ?_,hfit⟩
   · obtain ⟨s, h3, h4, h5, _⟩ := hget i o ho
     have hob := hR.obj s o h4
     rw [hρ0 i s h3]
     cases o with
     | cells l T =>
       simp only [ObjRel] at hob ⊢
       have e:denC ρ0 l = denC ρ l := by
         have := renL_spec (R := C.R) (w := C.w1) (ρ := ρ) (ρ' := ρ0) (n' := Hin.length) (g := id) l (fun t ht => by simp only [SObj.toks] at h5; rw [h5] at ht; cases ht) (hR.ok s _ h4).1
         rw [renL_id (g := id) l (fun _ _ => rfl)] at this
         exact this.2.2
       rw [e]; exact hob
     | seq κ xs E => exact hob
     | dead => trivial
     | lp f p F st =>
       obtain ⟨tmps,fn,dfr,g,ps,a,c,h1,h2,h3,h4'⟩ := hob
       refine ⟨tmps,fn,dfr,g,ps,a,c,h1,h2,h3,fun j v hv => ?_⟩
       have := ren_spec (R := C.R) (w := C.w1) (ρ := ρ) (ρ' := ρ0) (n' := Hin.length) (g := id) v (fun t ht => by
         have:t ∈ frToks F := mem_frToks hv ht
         simp only [SObj.toks] at h5; rw [h5] at this; cases this) (hR.ok s _ h4 j v hv)
       rw [ren_id (g := id) v (fun _ _ => rfl)] at this
       rw [this.1]; exact h4' j v hv
   · obtain ⟨s, a1, _, a3⟩ := hblk0 i b h1
     obtain ⟨s',b1,_,b3⟩ := hblk0 j b h2
     have := hR.sep s s' b a3 b3
     subst this
     have hi := (List.getElem?_eq_some_iff.1 a1).1
     have hj := (List.getElem?_eq_some_iff.1 b1).1
     have e1 := (List.getElem?_eq_some_iff.1 a1).2
     have e2 := (List.getElem?_eq_some_iff.1 b1).2
     exact (List.getElem_inj hnd).1 (e1.trans e2.symm)
   · obtain ⟨s, _, a2, a3⟩ := hblk0 i b h1
     exact .inr ⟨s,a2,a3⟩
   · obtain ⟨s, h3, h4, h5, _⟩ := hget i o ho
     have := hR.ok s o h4
     cases o with
     | cells l T =>
       refine ⟨?_,this.2⟩
       have hw := okL_world hroK l this.1
       have hl := okL_of_toks (n' := Hin.length) l (fun t ht => by simp only [SObj.toks] at h5; rw [h5] at ht; cases ht) this.1
       have h6 := renL_spec (R := C.R) (w := C.w1) (ρ := ρ) (ρ' := ρ0) (n' := Hin.length) (g := id) l (fun t ht => by simp only [SObj.toks] at h5; rw [h5] at ht; cases ht) this.1
       rw [renL_id (g := id) l (fun _ _ => rfl)] at h6
       exact okL_more (fun _ h => .inl h) l (okL_world hroK l h6.2.1)
     | lp f p F st =>
       intro j v hv
       have h6 := ren_spec (R := C.R) (w := C.w1) (ρ := ρ) (ρ' := ρ0) (n' := Hin.length) (g := id) v (fun t ht => by
         have:t ∈ frToks F := mem_frToks hv ht
         simp only [SObj.toks] at h5; rw [h5] at this; cases this) (this j v hv)
       rw [ren_id (g := id) v (fun _ _ => rfl)] at h6
       exact Sx.ok_more (fun _ h => .inl h) v (Sx.ok_world hroK v h6.2)
     | seq κ xs E => exact (InOk.world hroK this).more (fun _ h => .inl h)
     | dead => trivial
 have hcall := hS.run _ ρ0 w hrel0 hok0
 rw [hden] at hcall
 refine hcall.mono fun e w' hq => ?_
 obtain ⟨ρ1,q1,q2,q3,q4⟩ := hq
 -- back
 let ρ':Nat → Tk := fun t => if t < H.length then ρ t else ρ1 (t - H.length + σ.length)
 have hρ':∀ t,t < H.length → ρ' t = ρ t := fun t ht => by simp only [ρ',if_pos ht]
 have hg : ∀ s, s < H0.length → ρ' (gAd σ H.length s) = ρ1 s ∧ gAd σ H.length s < (backH σ H H0).length := fun s hs => by
   unfold gAd
   by_cases h:s < σ.length
   · rw [if_pos (show Nat.blt s σ.length = true from Nat.ble_eq_true_of_le h),List.getD_eq_getElem?_getD,List.getElem?_eq_getElem h,Option.getD_some]
     have h1 := hlt _ (List.getElem_mem h)
     refine ⟨?_,by rw [hbl H0 hl0]; omega⟩
     rw [hρ' _ h1,q1 s (by rw [hlen]; exact h),hρ0 s _ (List.getElem?_eq_getElem h)]
   · rw [if_neg (fun hb : Nat.blt s σ.length = true => h (Nat.le_of_ble_eq_true hb))]
     refine ⟨?_,by rw [hbl H0 hl0]; omega⟩
     simp only [ρ']
     rw [if_neg (by omega),show H.length + (s - σ.length) - H.length + σ.length = s by omega]
 -- where an object comes from
 have hor:∀ t o,(backH σ H H0)[t]? = some o → (t < H.length ∧ t ∉ σ ∧ H[t]? = some o) ∨ ∃ i a,H0[i]? = some a ∧ o = a.ren (gAd σ H.length) ∧ ρ' t = ρ1 i ∧ gAd σ H.length i = t := fun t o ho => by
   unfold backH at ho
   by_cases ht:t < H.length
   · rw [List.getElem?_append_left (by rw [setAll_length]; exact ht)] at ho
     by_cases hs:t ∈ σ
     · obtain ⟨i, hi, e⟩ := List.mem_iff_getElem.1 hs
       have h1:σ[i]? = some t := by rw [List.getElem?_eq_getElem hi,e]
       rw [setAll_get σ H _ i t hnd hlt (by rw [List.length_map,List.length_take]; omega) h1,List.getElem?_map,List.getElem?_take,if_pos hi] at ho
       cases hq0:H0[i]? with
       | none => rw [hq0] at ho; cases ho
       | some a =>
         rw [hq0] at ho
         simp only [Option.map_some,Option.some.injEq] at ho
         have e2:gAd σ H.length i = t := by
           unfold gAd
           rw [if_pos (show Nat.blt i σ.length = true from Nat.ble_eq_true_of_le hi),List.getD_eq_getElem?_getD,h1]; rfl
         exact .inr ⟨i,a,hq0,ho.symm,by rw [← e2]; exact (hg i (by omega)).1,e2⟩
     · rw [setAll_not σ H _ t hs] at ho; exact .inl ⟨ht,hs,ho⟩
   · rw [List.getElem?_append_right (by rw [setAll_length]; omega), setAll_length, List.getElem?_map, List.getElem?_drop] at ho
     cases hq0:H0[σ.length + (t - H.length)]? with
     | none => rw [hq0] at ho; cases ho
     | some a =>
       rw [hq0] at ho
       simp only [Option.map_some,Option.some.injEq] at ho
       have e2:gAd σ H.length (σ.length + (t - H.length)) = t := by
         unfold gAd
         rw [if_neg (fun hb:Nat.blt _ σ.length = true => by have := Nat.le_of_ble_eq_true hb; omega)]; omega
       exact .inr ⟨_,a,hq0,ho.symm,by
         have := (hg (σ.length + (t - H.length)) (List.getElem?_eq_some_iff.1 hq0).1).1
         rw [e2] at this; exact this,e2⟩
 have hb:∀ t b,blkOf ρ' (backH σ H H0) t = some b → (t < H.length ∧ t ∉ σ ∧ blkOf ρ H t = some b) ∨ ∃ i,blkOf ρ1 H0 i = some b ∧ gAd σ H.length i = t := fun t b hb => by
   obtain ⟨o,ho,h2⟩ := blkOf_get hb
   rcases hor t o ho with ⟨h3,h4,h5⟩ | ⟨i,a,h3,rfl,h4,h5⟩
   · exact .inl ⟨h3,h4,by rw [blkOf_eq h5,← hρ' t h3]; exact h2⟩
   · refine .inr ⟨i, ?_, h5⟩
     rw [blkOf_eq h3,← h4]
     rw [objBlk_ren] at h2; exact h2
 have hapart : ∀ t i b, t ∉ σ → blkOf ρ H t = some b → blkOf ρ1 H0 i = some b → False := fun t i b hT h1 h2 => by
   have hl := blk_lt hR h1
   rcases q3.own i b h2 with hc | ⟨s,hs,hs2⟩
   · exact absurd hl (Nat.not_lt.2 hc)
   · exact hT (hR.sep t s b h1 hs2 ▸ hs)
 have hout : ∀ b, b < w.heap.size → (∀ t, t ∈ σ → blkOf ρ H t ≠ some b) → w'.heap[b]? = w.heap[b]? := fun b hl hn => q3.keep b hl fun hc => by
   rcases hc with hc | ⟨t,ht,ht2⟩
   · exact absurd hl (Nat.not_lt.2 hc)
   · exact hn t ht ht2
 have okBack : ∀ v : SV, (ex = [] ∨ v.free = true) → v.ok (C.call ρ H σ ex w).R w ρ1 H0.length → v.ok C.R C.w1 ρ1 H0.length := fun v hf hv => by
   rcases hf with he | hf
   · subst he
     have:v.ok C.R w ρ1 H0.length := by
       have e:(C.call ρ H σ [] w).R = C.R := by funext b; simp [Cx.call]
       rw [e] at hv; exact hv
     exact ok_world (fun b hb => (hroK b hb).symm) v this
   · exact ok_free v hf hv
 have okBackL:∀ l:List SV,(ex = [] ∨ SV.freeL l = true) → SV.okL (C.call ρ H σ ex w).R w ρ1 H0.length l → SV.okL C.R C.w1 ρ1 H0.length l := fun l hf hv => by
   rcases hf with he | hf
   · subst he
     have:SV.okL C.R w ρ1 H0.length l := by
       have e:(C.call ρ H σ [] w).R = C.R := by funext b; simp [Cx.call]
       rw [e] at hv; exact hv
     exact okL_world (fun b hb => (hroK b hb).symm) l this
   · exact okL_free l hf hv
 have hfv:ex = [] ∨ v0.free = true := hfree.imp id (·.1)
 have hvr := ren_spec (ρ' := ρ') (n' := (backH σ H H0).length) v0 (fun t ht => hg t (toks_lt v0 q4 t ht)) (okBack v0 hfv q4)
 refine ⟨ρ',hρ',by rw [hvr.1]; exact q2,⟨fun t o ho => ?_,fun t u b h1 h2 => ?_,fun t b h1 => ?_,fun t => ?_,fun b h1 h2 => ?_,Nat.le_trans hR.size q3.size,q3.os.trans hR.os,q3.tape.trans hR.tape,q3.output.trans hR.output,fun t o ho => ?_,hR.fit⟩,hvr.2⟩
 · rcases hor t o ho with ⟨h3, h4, h5⟩ | ⟨i, a, h3, rfl, h4, h5⟩
   · rw [hρ' t h3]
     refine (hR.obj t o h5).agree (C := C) (n := H.length) (hR.ok t o h5) hρ' fun b hbb => hout b ?_ fun s hs hs2 => ?_
     · exact blk_lt hR (t := t) (by rw [blkOf_eq h5]; exact hbb)
     · exact h4 (hR.sep t s b (by rw [blkOf_eq h5]; exact hbb) hs2 ▸ hs)
   · rw [h4]
     have hob := q3.obj i a h3
     have hok1 := q3.ok i a h3
     cases a with
     | cells l T =>
       have := renL_spec (ρ' := ρ') (n' := (backH σ H H0).length) l (fun s hs => hg s (toksL_lt l hok1.1 s hs)) hok1.1
       simp only [SObj.ren,ObjRel] at hob ⊢
       rw [this.2.2]; exact hob
     | seq κ xs E => exact hob
     | dead => trivial
     | lp f p F st =>
       obtain ⟨tmps,fn,dfr,g,ps,a,c,h1,h2,h3,h4'⟩ := hob
       refine ⟨tmps,fn,dfr,g,ps,a,c,h1,h2,by rw [frRen_length]; exact h3,fun j v hv => ?_⟩
       obtain ⟨u,k1,rfl⟩ := frRen_get _ hv
       rw [(ren_spec (ρ' := ρ') (n' := (backH σ H H0).length) u (fun s hs => hg s (toks_lt u (hok1 j u k1) s hs)) (hok1 j u k1)).1]; exact h4' j u k1
 · rcases hb t b h1 with ⟨_, a2, a3⟩ | ⟨i, a3, a4⟩ <;> rcases hb u b h2 with ⟨_, b2, b3⟩ | ⟨j, b3, b4⟩
   · exact hR.sep t u b a3 b3
   · exact (hapart t j b a2 a3 b3).elim
   · exact (hapart u i b b2 b3 a3).elim
   · have := q3.sep i j b a3 b3
     subst this
     exact a4.symm.trans b4
 · rcases hb t b h1 with ⟨_, _, a3⟩ | ⟨i, a3, _⟩
   · exact hR.own t b a3
   · rcases q3.own i b a3 with hc | ⟨s, _, hs2⟩
     · exact hR.fit.new b (Nat.le_trans hR.size hc)
     · exact hR.own s b hs2
 · simp only [ρ']
   split
   · exact hR.hdr t
   · exact q3.hdr _
 · rw [hout b (Nat.lt_of_lt_of_le h1 hR.size) fun t _ ht => h2 (hR.own t b ht)]
   exact hR.keep b h1 h2
 · rcases hor t o ho with ⟨h3, h4, h5⟩ | ⟨i, a, h3, rfl, h4, h5⟩
   · exact SObj.ok_mono (by rw [hbl H0 hl0]; omega) (SObj.ok_agree hρ' (hR.ok t o h5))
   · have hok1 := q3.ok i a h3
     cases a with
     | cells l T =>
       have hfl:ex = [] ∨ SV.freeL l = true := hfree.imp id fun h => h.2 _ (List.mem_of_getElem? h3)
       have := renL_spec (ρ' := ρ') (n' := (backH σ H H0).length) l (fun s hs => hg s (toksL_lt l hok1.1 s hs)) (okBackL l hfl hok1.1)
       exact ⟨this.2.1,by rw [ren_leaves]; exact hok1.2⟩
     | seq κ xs E =>
       have hin:InOk (C.call ρ H σ ex w).R w κ xs := hok1
       rcases hfree with he | hf
       · subst he
         have e:(C.call ρ H σ [] w).R = C.R := by funext b; simp [Cx.call]
         rw [e] at hin
         exact InOk.world (fun b hb => (hroK b hb).symm) hin
       · exact inOk_noP κ xs (hf.2 _ (List.mem_of_getElem? h3))
     | dead => trivial
     | lp f p F st =>
       intro j v hv
       obtain ⟨u,k1,rfl⟩ := frRen_get _ hv
       have hfl : ex = [] ∨ u.free = true := hfree.imp id fun h => by
         have := h.2 _ (List.mem_of_getElem? h3); cases this
       exact (ren_spec (ρ' := ρ') (n' := (backH σ H H0).length) u (fun s hs => hg s (toks_lt u (hok1 j u k1) s hs)) (okBack u hfl (hok1 j u k1))).2
end
section
open Go Go.RowKit
def len8:ByteArray := ⟨((List.range 256).map fun i => UInt8.ofNat (if i = 0 then 0 else Nat.log2 i + 1)).toArray⟩
inductive D where
 | i (n:Int) | b (b:Bool) | n (n:Nat) | v (v:Value) | l (κ:K) (xs:List κ.T)
def rawCls:Value → Option Nat
 | .tuple ⟨[]⟩ => some 0
 | .slice none 0 0 => some 1
 | .pointer none => some 2
 | _ => none
theorem rawCls_eq {v w:Value} {n:Nat} (h:rawCls v = some n) (h':rawCls w = some n):v = w := by
 unfold rawCls at h h'
 split at h <;> split at h' <;> simp_all <;> (subst h; simp at h')
mutual
def same (x y:SV):Bool :=
 match x with
 | .int k _ => match y with | .int k' _ => decide (k = k') | _ => false
 | .bool _ => match y with | .bool _ => true | _ => false
 | .ptr t o => match y with | .ptr t' o' => Nat.beq t t' && Nat.beq o o' | _ => false
 | .aix t o κ _ m => match y with | .aix t' o' κ' _ m' => Nat.beq t t' && Nat.beq o o' && decide (κ = κ') && Nat.beq m m' | _ => false
 | .pix t κ _ o => match y with | .pix t' κ' _ o' => Nat.beq t t' && Nat.beq o o' && decide (κ = κ') | _ => false
 | .rix _ κ _ _ o => match y with | .rix _ κ' _ _ o' => Nat.beq o o' && decide (κ = κ') | _ => false
 | .sl t => match y with | .sl t' => Nat.beq t t' | _ => false
 | .yld t => match y with | .yld t' => Nat.beq t t' | _ => false
 | .sub t κ _ _ => match y with | .sub t' κ' _ _ => Nat.beq t t' && decide (κ = κ') | _ => false
 | .clp t κ _ => match y with | .clp t' κ' _ => Nat.beq t t' && decide (κ = κ') | _ => false
 | .ros _ κ _ => match y with | .ros _ κ' _ => decide (κ = κ') | _ => false
 | .fn f a b => match y with | .fn f' a' b' => Nat.beq f f' && sameL a a' && sameL b b' | _ => false
 | .raw v => match y with
   | .raw w => match rawCls v with
     | some a => match rawCls w with | some b => Nat.beq a b | none => false
     | none => match rawCls w with | some _ => false | none => true
   | _ => false
 | .arr κ _ n => match y with | .arr κ' _ n' => decide (κ = κ') && Nat.beq n n' | _ => false
 | .agg l => match y with | .agg l' => sameL l l' | _ => false
 | .tup l => match y with | .tup l' => sameL l l' | _ => false
def sameL (x y:List SV):Bool :=
 match x with
 | [] => match y with | [] => true | _ => false
 | a :: l => match y with | a' :: l' => same a a' && sameL l l' | _ => false
end
mutual
def dat:SV → List D
 | .int _ n => [.i n]
 | .bool b => [.b b]
 | .ptr _ _ => []
 | .aix _ _ _ i _ => [.n i]
 | .pix _ _ i _ => [.n i]
 | .rix v κ xs i _ => [.v v,.l κ xs,.n i]
 | .sl _ => []
 | .yld _ => []
 | .sub _ _ a b => [.n a,.n b]
 | .clp _ _ a => [.n a]
 | .ros v κ xs => [.v v,.l κ xs]
 | .fn _ a b => datL a ++ datL b
 | .raw v => match rawCls v with | some _ => [] | none => [.v v]
 | .arr κ xs _ => [.l κ xs]
 | .agg l => datL l
 | .tup l => datL l
def datL:List SV → List D
 | [] => []
 | x :: l => dat x ++ datL l
end
mutual
def fill (t:SV) (ds:List D):Option (SV × List D) :=
 match t with
 | .int k _ => match ds with | .i n :: ds => some (.int k n,ds) | _ => none
 | .bool _ => match ds with | .b b :: ds => some (.bool b,ds) | _ => none
 | .ptr t o => some (.ptr t o,ds)
 | .aix t o κ _ m => match ds with | .n i :: ds => some (.aix t o κ i m,ds) | _ => none
 | .pix t κ _ o => match ds with | .n i :: ds => some (.pix t κ i o,ds) | _ => none
 | .rix _ κ _ _ o => match ds with | .v v :: .l κ' xs :: .n i :: ds => if h:κ' = κ then some (.rix v κ (h ▸ xs) i o,ds) else none | _ => none
 | .sl t => some (.sl t,ds)
 | .yld t => some (.yld t,ds)
 | .sub t κ _ _ => match ds with | .n a :: .n b :: ds => some (.sub t κ a b,ds) | _ => none
 | .clp t κ _ => match ds with | .n a :: ds => some (.clp t κ a,ds) | _ => none
 | .ros _ κ _ => match ds with | .v v :: .l κ' xs :: ds => if h:κ' = κ then some (.ros v κ (h ▸ xs),ds) else none | _ => none
 | .fn f a b => match fillL a ds with
   | some (a, ds) => match fillL b ds with
     | some (b,ds) => some (.fn f a b,ds)
     | none => none
   | none => none
 | .raw v => match rawCls v with
   | some _ => some (.raw v,ds)
   | none => match ds with | .v u :: ds => some (.raw u,ds) | _ => none
 | .arr κ _ n => match ds with | .l κ' xs :: ds => if h:κ' = κ then some (.arr κ (h ▸ xs) n,ds) else none | _ => none
 | .agg l => match fillL l ds with | some (l,ds) => some (.agg l,ds) | none => none
 | .tup l => match fillL l ds with | some (l,ds) => some (.tup l,ds) | none => none
def fillL (t:List SV) (ds:List D):Option (List SV × List D) :=
 match t with
 | [] => some ([],ds)
 | x :: l => match fill x ds with
   | some (x, ds) => match fillL l ds with
     | some (l,ds) => some (x :: l,ds)
     | none => none
   | none => none
end
mutual
theorem fill_same:∀ (x t:SV) (r:List D),same x t = true → fill t (dat x ++ r) = some (x,r)
 | .int k n,t,r,h => by cases t <;> simp_all [same,fill,dat]
 | .bool b,t,r,h => by cases t <;> simp_all [same,fill,dat]
 | .ptr a o,t,r,h => by cases t <;> simp_all [same,fill,dat]
 | .aix a o κ i m,t,r,h => by cases t <;> simp_all [same,fill,dat]
 | .pix a κ i o,t,r,h => by cases t <;> simp_all [same,fill,dat]
 | .rix v κ xs i o,t,r,h => by
   cases t <;> simp [same] at h
   obtain ⟨rfl,rfl⟩ := h; simp [fill,dat]
 | .sl a,t,r,h => by cases t <;> simp_all [same,fill,dat]
 | .yld a,t,r,h => by cases t <;> simp_all [same,fill,dat]
 | .sub a κ i o,t,r,h => by cases t <;> simp_all [same,fill,dat]
 | .clp a κ i,t,r,h => by cases t <;> simp_all [same,fill,dat]
 | .ros v κ xs,t,r,h => by
   cases t <;> simp [same] at h
   subst h; simp [fill,dat]
 | .fn f a b,t,r,h => by
   cases t <;> simp [same] at h
   obtain ⟨⟨rfl,h1⟩,h2⟩ := h
   simp [fill,dat,List.append_assoc,fillL_same a _ _ h1,fillL_same b _ _ h2]
 | .raw v,t,r,h => by
   cases t with
   | raw w =>
     simp only [same] at h
     cases hv:rawCls v with
     | none => cases hw:rawCls w with
       | none => simp [fill,dat,hv,hw]
       | some b => simp [hv,hw] at h
     | some a => cases hw:rawCls w with
       | none => simp [hv,hw] at h
       | some b =>
         simp [hv,hw] at h
         subst h
         simp [fill,dat,hv,hw,rawCls_eq hv hw]
   | _ => simp [same] at h
 | .arr κ xs n,t,r,h => by
   cases t <;> simp [same] at h
   obtain ⟨rfl,rfl⟩ := h; simp [fill,dat]
 | .agg l,t,r,h => by
   cases t <;> simp [same] at h
   simp [fill,dat,fillL_same l _ _ h]
 | .tup l,t,r,h => by
   cases t <;> simp [same] at h
   simp [fill,dat,fillL_same l _ _ h]
theorem fillL_same:∀ (x t:List SV) (r:List D),sameL x t = true → fillL t (datL x ++ r) = some (x,r)
 | [],t,r,h => by cases t <;> simp_all [sameL,fillL,datL]
 | x :: l,t,r,h => by
   cases t <;> simp [sameL] at h
   simp [fillL,datL,List.append_assoc,fill_same x _ _ h.1,fillL_same l _ _ h.2]
end
def sameF (x y:Fr):Bool :=
 match x with
 | [] => match y with | [] => true | _ => false
 | some a :: l => match y with | some a' :: l' => same a a' && sameF l l' | _ => false
 | none :: l => match y with | none :: l' => sameF l l' | _ => false
def datF:Fr → List D
 | [] => []
 | some a :: l => dat a ++ datF l
 | none :: l => datF l
def fillF (t:Fr) (ds:List D):Option (Fr × List D) :=
 match t with
 | [] => some ([],ds)
 | some x :: l => match fill x ds with
   | some (x, ds) => match fillF l ds with
     | some (l,ds) => some (some x :: l,ds)
     | none => none
   | none => none
 | none :: l => match fillF l ds with
   | some (l,ds) => some (none :: l,ds)
   | none => none
theorem fillF_same:∀ (x t:Fr) (r:List D),sameF x t = true → fillF t (datF x ++ r) = some (x,r)
 | [],t,r,h => by cases t <;> simp_all [sameF,fillF,datF]
 | some x :: l,t,r,h => by
   cases t with
   | nil => simp [sameF] at h
   | cons y t => cases y <;> simp [sameF] at h; simp [fillF,datF,List.append_assoc,fill_same x _ _ h.1,fillF_same l _ _ h.2]
 | none :: l,t,r,h => by
   cases t with
   | nil => simp [sameF] at h
   | cons y t => cases y <;> simp [sameF] at h; simp [fillF,datF,fillF_same l _ _ h]
def sameEx (x y:Ex):Bool :=
 match x with
 | .normal => match y with | .normal => true | _ => false
 | .ret => match y with | .ret => true | _ => false
 | .exit a => match y with | .exit b => Nat.beq a b | _ => false
theorem sameEx_eq {x y:Ex} (h:sameEx x y = true):x = y := by
 cases x <;> cases y <;> simp_all [sameEx]
def sameSt (x y:LSt):Bool :=
 match x with
 | .ready => match y with | .ready => true | _ => false
 | .busy => match y with | .busy => true | _ => false
 | .done a => match y with | .done b => sameEx a b | _ => false
theorem sameSt_eq {x y:LSt} (h:sameSt x y = true):x = y := by
 cases x <;> cases y <;> simp [sameSt] at h ⊢
 exact sameEx_eq h
def sameO (x y:SObj):Bool :=
 match x with
 | .cells l T => match y with | .cells l' T' => Nat.beq T T' && sameL l l' | _ => false
 | .seq κ _ T => match y with | .seq κ' _ T' => Nat.beq T T' && decide (κ = κ') | _ => false
 | .dead => match y with | .dead => true | _ => false
 | .lp f p F st => match y with | .lp f' p' F' st' => Nat.beq f f' && p == p' && sameSt st st' && sameF F F' | _ => false
def datO:SObj → List D
 | .cells l _ => datL l
 | .seq κ xs _ => [.l κ xs]
 | .dead => []
 | .lp _ _ F _ => datF F
def fillO (t:SObj) (ds:List D):Option (SObj × List D) :=
 match t with
 | .cells l T => match fillL l ds with | some (l,ds) => some (.cells l T,ds) | none => none
 | .seq κ _ T => match ds with | .l κ' xs :: ds => if h:κ' = κ then some (.seq κ (h ▸ xs) T,ds) else none | _ => none
 | .dead => some (.dead,ds)
 | .lp f p F st => match fillF F ds with | some (F,ds) => some (.lp f p F st,ds) | none => none
theorem fillO_same (x t:SObj) (r:List D) (h:sameO x t = true):fillO t (datO x ++ r) = some (x,r) := by
 cases x with
 | cells l T => cases t <;> simp [sameO] at h; obtain ⟨rfl,h⟩ := h; simp [fillO,datO,fillL_same l _ _ h]
 | seq κ xs T => cases t <;> simp [sameO] at h; obtain ⟨rfl,rfl⟩ := h; simp [fillO,datO]
 | dead => cases t <;> simp [sameO] at h; simp [fillO,datO]
 | lp f p F st =>
   cases t <;> simp [sameO] at h
   obtain ⟨⟨⟨rfl,rfl⟩,h1⟩,h2⟩ := h
   have := sameSt_eq h1
   subst this
   simp [fillO,datO,fillF_same F _ _ h2]
def sameH (x y:Hp):Bool :=
 match x with
 | [] => match y with | [] => true | _ => false
 | a :: l => match y with | a' :: l' => sameO a a' && sameH l l' | _ => false
def datH:Hp → List D
 | [] => []
 | a :: l => datO a ++ datH l
def fillH (t:Hp) (ds:List D):Option (Hp × List D) :=
 match t with
 | [] => some ([],ds)
 | x :: l => match fillO x ds with
   | some (x, ds) => match fillH l ds with
     | some (l,ds) => some (x :: l,ds)
     | none => none
   | none => none
theorem fillH_same:∀ (x t:Hp) (r:List D),sameH x t = true → fillH t (datH x ++ r) = some (x,r)
 | [],t,r,h => by cases t <;> simp_all [sameH,fillH,datH]
 | x :: l,t,r,h => by
   cases t <;> simp [sameH] at h
   simp [fillH,datH,List.append_assoc,fillO_same x _ _ h.1,fillH_same l _ _ h.2]
def fillS (t:St) (ds:List D):Option St :=
 match fillF t.F ds with
 | some (F, ds) => match fillH t.H ds with
   | some (H,[]) => some ⟨F,H⟩
   | _ => none
 | none => none
theorem fillS_same (x t:St) (h:(sameF x.F t.F && sameH x.H t.H) = true):fillS t (datF x.F ++ datH x.H) = some x := by
 simp only [Bool.and_eq_true] at h
 have := fillH_same x.H t.H [] h.2
 rw [List.append_nil] at this
 simp [fillS,fillF_same x.F _ _ h.1,this]
section
variable {α:Type}
def dI (ds:List D) (k:Int → List D → Option α):Option α := match ds with | .i n :: ds => k n ds | _ => none
def dB (ds:List D) (k:Bool → List D → Option α):Option α := match ds with | .b n :: ds => k n ds | _ => none
def dV (ds:List D) (k:Value → List D → Option α):Option α := match ds with | .v n :: ds => k n ds | _ => none
def dL (κ:K) (ds:List D) (k:List κ.T → List D → Option α):Option α := match ds with | .l κ' xs :: ds => if h:κ' = κ then k (h ▸ xs) ds else none | _ => none
def dE (ds:List D) (k:Option α):Option α := match ds with | [] => k | _ => none
theorem dI_inv {ds:List D} {k:Int → List D → Option α} {r:α} (h:dI ds k = some r):∃ n ds',ds = .i n :: ds' ∧ k n ds' = some r := by
 unfold dI at h; split at h
 · exact ⟨_,_,rfl,h⟩
 · cases h
theorem dB_inv {ds:List D} {k:Bool → List D → Option α} {r:α} (h:dB ds k = some r):∃ n ds',ds = .b n :: ds' ∧ k n ds' = some r := by
 unfold dB at h; split at h
 · exact ⟨_,_,rfl,h⟩
 · cases h
theorem dV_inv {ds:List D} {k:Value → List D → Option α} {r:α} (h:dV ds k = some r):∃ n ds',ds = .v n :: ds' ∧ k n ds' = some r := by
 unfold dV at h; split at h
 · exact ⟨_,_,rfl,h⟩
 · cases h
theorem dL_inv {κ:K} {ds:List D} {k:List κ.T → List D → Option α} {r:α} (h:dL κ ds k = some r):∃ n ds',ds = .l κ n :: ds' ∧ k n ds' = some r := by
 unfold dL at h; split at h
 · split at h
   · rename_i he; subst he; exact ⟨_,_,rfl,h⟩
   · cases h
 · cases h
theorem dE_inv {ds:List D} {k:Option α} {r:α} (h:dE ds k = some r):ds = [] ∧ k = some r := by
 unfold dE at h; split at h
 · exact ⟨rfl,h⟩
 · cases h
def codeAt (P:Program) (fid:FuncId) (path:List Bool):Code :=
 match P.funcs[fid]? with
 | some fn => match fn.body with
   | some b => match sub b path with
     | some (.loop c) => c
     | _ => .skip
   | none => .skip
 | none => .skip
theorem codeAt_eq {P:Program} {fid:FuncId} {path:List Bool} {c:Code} (h:Stands P fid path (.loop c)):codeAt P fid path = c := by
 obtain ⟨fn,b,h1,h2,h3⟩ := h
 simp [codeAt,h1,h2,h3]
def LoopOk (P:Program) (fid:FuncId) (path:List Bool) (base:Nat) (l:St → Option ((Ex → St → Option α) → Option α)):Prop :=
 ∀ c,Stands P fid path (.loop c) → ∀ S l',l S = some l' → ∀ K r,base ≤ S.H.length → l' K = some r → ∃ e S',K e S' = some r ∧ CodeGood P (inRnd P fid path) base (.loop c) S e S'
def noLps:LookL α := fun _ _ _ _ => none
def addLp (fid:FuncId) (path:List Bool) (base:Nat) (l:St → Option ((Ex → St → Option α) → Option α)) (lps:LookL α):LookL α :=
 fun f p b S => if Nat.beq f fid && Nat.beq b base && p == path then (match l S with | some x => some x | none => lps f p b S) else lps f p b S
theorem noLps_ok (P:Program):LoopsOk P (noLps (α := α)) := fun _ _ _ _ _ h => by cases h
theorem addLp_ok {P:Program} {fid:FuncId} {path:List Bool} {base:Nat} {l:St → Option ((Ex → St → Option α) → Option α)} {lps:LookL α} (h1:LoopOk P fid path base l) (h2:LoopsOk P lps):LoopsOk P (addLp fid path base l lps) := by
 intro f p b S l' hl
 unfold addLp at hl
 split at hl
 · rename_i hc
   simp only [Bool.and_eq_true,Nat.beq_eq,beq_iff_eq] at hc
   obtain ⟨⟨rfl,rfl⟩,rfl⟩ := hc
   split at hl
   · rename_i x hx
     cases hl
     exact fun c hst => h1 c hst S _ hx
   · exact h2 _ _ _ _ l' hl
 · exact h2 f p b S l' hl
def iterK {σ:Type} (step:σ → (Ex → σ → Option α) → Option α) (n:Nat) (K:Ex → σ → Option α) (e:Ex) (S:σ):Option α :=
 match e with
 | .normal => iter step n S K
 | .exit id => K (.exit id) S
 | .ret => K .ret S
def lEnt (t:St) (go:List D → (Ex → St → Option α) → Option α) (S:St):Option ((Ex → St → Option α) → Option α) :=
 if sameF S.F t.F && sameH S.H t.H then some (go (datF S.F ++ datH S.H)) else none
theorem lEnt_ok (E:Env) {run:RunF α} (hrun:RunOk E.P run) {fid:FuncId} {path:List Bool} {base:Nat} {t:St} {go:List D → (Ex → St → Option α) → Option α}
   (h:∀ ds K r,go ds K = some r → ∀ S,fillS t ds = some S → ∃ L,iter (loopStep E run fid path base (codeAt E.P fid path)) L S K = some r):LoopOk E.P fid path base (lEnt t go) := by
 intro c hst S l' h00 K r hb h0
 unfold lEnt at h00
 split at h00
 · rename_i hs
   cases h00
   obtain ⟨L,h1⟩ := h _ _ _ h0 S (fillS_same S t hs)
   rw [codeAt_eq hst] at h1
   exact loop_sound E hrun hst hb h1
 · cases h00
inductive RL where
 | leaf (t:SV) | ro (κ:K)
inductive AS where
 | val (t:SV) | ptr (T:TypeId) (l:List SV) | sl (κ:K) (T:TypeId) | ro (κ:K) | st (l:List RL)
mutual
/-- Plain values: numbers, flags, and structs and arrays of such. -/
def SV.plain:SV → Bool
 | .int _ _ => true
 | .bool _ => true
 | .arr κ _ _ => κ.noP
 | .agg l => SV.plainL l
 | _ => false
def SV.plainL:List SV → Bool
 | [] => true
 | x :: l => x.plain && SV.plainL l
end
mutual
theorem plain_spec:∀ (v:SV),v.plain = true → v.toks = [] ∧ (∀ ρ ρ',den ρ v = den ρ' v) ∧ (∀ R w ρ n R' w' ρ' n',v.ok R w ρ n → v.ok R' w' ρ' n')
 | .int _ _,_ => by simp [SV.toks,den,SV.ok]
 | .bool _,_ => by simp [SV.toks,den,SV.ok]
 | .arr κ xs _,h => by
   simp only [SV.plain] at h
   exact ⟨by simp [SV.toks],fun ρ ρ' => by simp only [den],fun R w ρ n R' w' ρ' n' hh => by simp only [SV.ok] at hh ⊢; exact ⟨hh.1,inOk_noP κ xs h⟩⟩
 | .agg l,h => by
   simp only [SV.plain] at h
   obtain ⟨h1,h2,h3⟩ := plainL_spec l h
   refine ⟨by simp [SV.toks,h1],fun ρ ρ' => by simp only [den]; rw [(h2 ρ ρ').1],fun R w ρ n R' w' ρ' n' hh => by simp only [SV.ok] at hh ⊢; exact h3 R w ρ n R' w' ρ' n' hh⟩
 | .ptr _ _,h => by simp [SV.plain] at h
 | .aix _ _ _ _ _,h => by simp [SV.plain] at h
 | .pix _ _ _ _,h => by simp [SV.plain] at h
 | .rix _ _ _ _ _,h => by simp [SV.plain] at h
 | .sl _,h => by simp [SV.plain] at h
 | .sub _ _ _ _,h => by simp [SV.plain] at h
 | .clp _ _ _,h => by simp [SV.plain] at h
 | .yld _,h => by simp [SV.plain] at h
 | .ros _ _ _,h => by simp [SV.plain] at h
 | .fn _ _ _,h => by simp [SV.plain] at h
 | .raw _,h => by simp [SV.plain] at h
 | .tup _,h => by simp [SV.plain] at h
theorem plainL_spec:∀ (l:List SV),SV.plainL l = true → SV.toksL l = [] ∧ (∀ ρ ρ',denC ρ l = denC ρ' l ∧ denL ρ l = denL ρ' l) ∧ (∀ R w ρ n R' w' ρ' n',SV.okL R w ρ n l → SV.okL R' w' ρ' n' l)
 | [],_ => by simp [SV.toksL,denC,denL,SV.okL]
 | x :: l,h => by
   simp only [SV.plainL,Bool.and_eq_true] at h
   obtain ⟨a1,a2,a3⟩ := plain_spec x h.1
   obtain ⟨b1,b2,b3⟩ := plainL_spec l h.2
   refine ⟨by simp [SV.toksL,a1,b1],fun ρ ρ' => ?_,fun R w ρ n R' w' ρ' n' hh => by simp only [SV.okL] at hh ⊢; exact ⟨a3 R w ρ n R' w' ρ' n' hh.1,b3 R w ρ n R' w' ρ' n' hh.2⟩⟩
   have e:cell1 x (den ρ x) = cell1 x (den ρ' x) := by rw [a2 ρ ρ']
   simp only [denC,denL]
   rw [e,a2 ρ ρ',(b2 ρ ρ').1,(b2 ρ ρ').2]
   exact ⟨rfl,rfl⟩
end
def readRo (κ:K) (a:SV) (H:Hp):Option (List Nat × List κ.T) :=
 match a with
 | .ros _ κ' xs => if h:κ' = κ then some ([],h ▸ xs) else none
 | .sl t => match H[t]? with
   | some (.seq κ' xs _) => if h:κ' = κ then some ([t],h ▸ xs) else none
   | _ => none
 | .sub t κ' lo n => if κ' = κ then (match H[t]? with
   | some (.seq κ' xs _) => if h:κ' = κ then some ([t],(((h ▸ xs):List κ.T).drop lo).take n) else none
   | _ => none) else none
 | .clp t κ' n => if κ' = κ then (match H[t]? with
   | some (.seq κ' xs _) => if h:κ' = κ then some ([t],((h ▸ xs):List κ.T).take n) else none
   | _ => none) else none
 | .raw (.slice none 0 0) => some ([],[])
 | _ => none
def leaf1 (a:SV):Bool :=
 match a with
 | .int _ _ => true
 | .bool _ => true
 | _ => false
def readRL (l:List RL) (asx:List SV) (H:Hp):Option (List Nat × List D) :=
 match l with
 | [] => match asx with
   | [] => some ([],[])
   | _ => none
 | s :: ss => match asx with
   | [] => none
   | a :: asx => match readRL ss asx H with
     | none => none
     | some (ex, ds) => match s with
       | .leaf t => if same a t && leaf1 a then some (ex,dat a ++ ds) else none
       | .ro κ => match readRo κ a H with
         | some (e,xs) => some (e ++ ex,.l κ xs :: ds)
         | none => none
def mkRL (l:List RL) (ds:List D) (cs:List Value):Option (List SV × List D) :=
 match l with
 | [] => some ([],ds)
 | s :: ss => match s with
   | .leaf t => match fill t ds with
     | some (a, ds) => match mkRL ss ds cs.tail with
       | some (asx,ds) => some (a :: asx,ds)
       | none => none
     | none => none
   | .ro κ => match ds with
     | .l κ' xs :: ds => if h : κ' = κ then match mkRL ss ds cs.tail with
         | some (asx,ds) => some (.ros (cs.headD undef) κ (h ▸ xs) :: asx,ds)
         | none => none
       else none
     | _ => none
def cellsV (v:Value):List Value :=
 match v with
 | .agg cs => cs.toList
 | _ => []
def readA (spec:List AS) (args:List SV) (H:Hp):Option (List Nat × List Nat × Hp × List D) :=
 match spec with
 | [] => match args with
   | [] => some ([],[],[],[])
   | _ => none
 | s :: ss => match args with
   | [] => none
   | a :: asx => match readA ss asx H with
     | none => none
     | some (σ, ex, Hin, ds) => match s with
       | .val t => if same a t && a.plain then some (σ,ex,Hin,dat a ++ ds) else none
       | .ptr T l => match a with
         | .ptr t o => match H[t]? with
           | some (.cells l' T') => if Nat.beq o 0 && Nat.beq T' T && sameL l' l && SV.plainL l' then some (t :: σ,ex,.cells l' T' :: Hin,datL l' ++ ds) else none
           | _ => none
         | _ => none
       | .sl κ T => match a with
         | .sl t => match H[t]? with
           | some (.seq κ' xs T') => if Nat.beq T' T && decide (κ' = κ) then some (t :: σ,ex,.seq κ' xs T' :: Hin,.l κ' xs :: ds) else none
           | _ => none
         | _ => none
       | .ro κ => match readRo κ a H with
         | some (e,xs) => some (σ,e ++ ex,Hin,.l κ xs :: ds)
         | none => none
       | .st l => match a with
         | .agg l' => match readRL l l' H with
           | some (e,d) => some (σ,e ++ ex,Hin,d ++ ds)
           | none => none
         | _ => none
def mkA (spec:List AS) (tk:Nat) (ds:List D) (vs:List Value):Option (List SV × Hp) :=
 match spec with
 | [] => match ds with
   | [] => some ([],[])
   | _ => none
 | s :: ss => match s with
   | .val t => match fill t ds with
     | some (a, ds) => match mkA ss tk ds vs.tail with
       | some (asx,Hin) => some (a :: asx,Hin)
       | none => none
     | none => none
   | .ptr T l => match fillL l ds with
     | some (l, ds) => match mkA ss (tk + 1) ds vs.tail with
       | some (asx,Hin) => some (.ptr tk 0 :: asx,.cells l T :: Hin)
       | none => none
     | none => none
   | .sl κ T => match ds with
     | .l κ' xs :: ds => if h : κ' = κ then match mkA ss (tk + 1) ds vs.tail with
         | some (asx,Hin) => some (.sl tk :: asx,.seq κ (h ▸ xs) T :: Hin)
         | none => none
       else none
     | _ => none
   | .ro κ => match ds with
     | .l κ' xs :: ds => if h : κ' = κ then match mkA ss tk ds vs.tail with
         | some (asx,Hin) => some (.ros (vs.headD undef) κ (h ▸ xs) :: asx,Hin)
         | none => none
       else none
     | _ => none
   | .st l => match mkRL l ds (cellsV (vs.headD undef)) with
     | some (l0, ds) => match mkA ss tk ds vs.tail with
       | some (asx,Hin) => some (.agg l0 :: asx,Hin)
       | none => none
     | none => none
theorem seq_ros0 {ρ:Nat → Tk} {w:World} {t:Nat} {κ:K} {xs:List κ.T} {T:TypeId} {R:Nat → Prop} (h:ObjRel ρ w (ρ t) (.seq κ xs T)) (hR:∀ b,(ρ t).hdr.ownBlock = some b → R b):RosOk0 R w (ρ t).hdr κ xs := by
 rcases h.1.2 with ⟨e,e0⟩ | ⟨gb,cap,cur,e,_,hg2,hnc,_,_,htake⟩
 · have hl : xs.length = 0 := by
     have:(xs.flatMap κ.cells).length = 0 := by simp_all
     rw [cells_flat_length] at this
     rcases Nat.mul_eq_zero.1 this with h | h
     · exact h
     · have := K.sz_pos κ; omega
   exact .inl ⟨List.eq_nil_of_length_eq_zero hl,none,0,e⟩
 · refine .inr ⟨_, cap, e, hnc, rfl, hR gb (by rw [e]; rfl), fun j c hj => ?_⟩
   rw [← htake,List.getElem?_take] at hj
   split at hj
   · rw [cell_of_row w _ _ _ _ _ hg2]; simpa using hj
   · cases hj
theorem seq_ros {C:Cx} {ρ:Nat → Tk} {w:World} {H:Hp} {t:Nat} {κ:K} {xs:List κ.T} {T:TypeId} {R:Nat → Prop} (hw:Rel C ρ H w) (ht:H[t]? = some (.seq κ xs T)) (h1:∀ b,C.R b → R b) (hR:∀ b,(ρ t).hdr.ownBlock = some b → R b):RosOk R w (ρ t).hdr κ xs :=
 ⟨seq_ros0 (hw.obj t _ ht) hR,(InOk.world (fun b hb => hw.roKeep b hb) (hw.ok t _ ht)).more h1⟩
theorem ros_clip0 {R:Nat → Prop} {w:World} {v:Value} {κ:K} {xs:List κ.T} {n:Nat} (h:RosOk0 R w v κ xs) (hle:n ≤ xs.length):RosOk0 R w (clipV v n) κ (xs.take n) := by
 by_cases hn:n = 0
 · subst hn
   rcases h with ⟨_,a,c,e⟩ | ⟨ad,cap,e,_⟩
   · exact .inl ⟨by simp,_,_,by rw [e]; rfl⟩
   · exact .inl ⟨by simp,_,_,by rw [e]; rfl⟩
 · rcases h with ⟨e0, a, c, e⟩ | ⟨ad, cap, e, hl, hs, hR, hc⟩
   · subst e0; simp at hle; omega
   · obtain ⟨ab, ao, asp⟩ := ad
     simp only at hs hR hc
     subst hs
     have hlen:(xs.take n).length = n := by rw [List.length_take]; omega
     refine .inr ⟨⟨ab,ao,none⟩,n,?_,by omega,rfl,hR,fun j c hj => hc j c ?_⟩
     · rw [e, hlen]
       simp [clipV,hn,add_lit]
     · have e2:xs.flatMap κ.cells = (xs.take n).flatMap κ.cells ++ (xs.drop n).flatMap κ.cells := by rw [← List.flatMap_append,List.take_append_drop]
       rw [e2,List.getElem?_append_left (List.getElem?_eq_some_iff.1 hj).1]; exact hj
theorem ros_clip {R:Nat → Prop} {w:World} {v:Value} {κ:K} {xs:List κ.T} {n:Nat} (h:RosOk R w v κ xs) (hle:n ≤ xs.length):RosOk R w (clipV v n) κ (xs.take n) := ⟨ros_clip0 h.1 hle,h.2.take n⟩
theorem readRo_spec {κ:K} {a:SV} {H:Hp} {e:List Nat} {xs:List κ.T} (h:readRo κ a H = some (e,xs)) :
   (∀ t ∈ e,t < H.length) ∧ ∀ (C:Cx) (ρ:Nat → Tk) (w:World) (R:Nat → Prop),Rel C ρ H w → a.ok C.R C.w1 ρ H.length → (∀ b,C.R b → R b) → (∀ t ∈ e,∀ b,blkOf ρ H t = some b → R b) → RosOk R w (den ρ a) κ xs := by
 unfold readRo at h
 split at h
 · split at h
   · rename_i he; subst he; cases h
     refine ⟨by simp,fun C ρ w R hR hok h1 _ => ?_⟩
     simp only [SV.ok] at hok
     exact (hok.world (fun b hb => hR.roKeep b hb)).more h1
   · cases h
 · split at h
   · rename_i t _ κ' xs' T ht
     split at h
     · rename_i he; subst he; cases h
       refine ⟨by simp only [List.mem_singleton]; rintro _ rfl; exact (List.getElem?_eq_some_iff.1 ht).1,fun C ρ w R hR hok h1 h2 => ?_⟩
       exact seq_ros hR ht h1 fun b hb => h2 t (by simp) b (by rw [blkOf_eq ht]; exact hb)
     · cases h
   · cases h
 · split at h
   · rename_i t κ' lo n hk
     split at h
     · rename_i κ2 xs' T ht
       split at h
       · rename_i he; subst he; cases h
         refine ⟨by simp only [List.mem_singleton]; rintro _ rfl; exact (List.getElem?_eq_some_iff.1 ht).1,fun C ρ w R hR hok h1 h2 => ?_⟩
         have hr := seq_ros hR ht h1 fun b hb => h2 t (by simp) b (by rw [blkOf_eq ht]; exact hb)
         simp only [SV.ok] at hok
         obtain ⟨_,a,k,c,e1,hle⟩ := hok
         have hk3:k = xs'.length := by
           rcases hr.1 with ⟨e0,a2,c2,e2⟩ | ⟨ad,c2,e2,_⟩
           · rw [e2] at e1; cases e1; rw [e0]; rfl
           · rw [e2] at e1; cases e1; rfl
         simp only [den]
         rw [hk]
         exact ros_win hr (by omega)
       · cases h
     · cases h
   · cases h
 · split at h
   · rename_i t κ' n hk
     split at h
     · rename_i κ2 xs' T ht
       split at h
       · rename_i he; subst he; cases h
         refine ⟨by simp only [List.mem_singleton]; rintro _ rfl; exact (List.getElem?_eq_some_iff.1 ht).1,fun C ρ w R hR hok h1 h2 => ?_⟩
         have hr := seq_ros hR ht h1 fun b hb => h2 t (by simp) b (by rw [blkOf_eq ht]; exact hb)
         simp only [SV.ok] at hok
         obtain ⟨_,a,k,c,e1,hle⟩ := hok
         have hk3:k = xs'.length := by
           rcases hr.1 with ⟨e0,a2,c2,e2⟩ | ⟨ad,c2,e2,_⟩
           · rw [e2] at e1; cases e1; rw [e0]; rfl
           · rw [e2] at e1; cases e1; rfl
         simp only [den]
         exact ros_clip hr (by omega)
       · cases h
     · cases h
   · cases h
 · cases h
   exact ⟨by simp,fun C ρ w R _ _ _ _ => ⟨RosOk0.nil R w κ,fun x hx => by cases hx⟩⟩
 · cases h
theorem readRo_cell {κ:K} {a:SV} {H:Hp} {r:List Nat × List κ.T} (h:readRo κ a H = some r) (ρ:Nat → Tk):denC ρ [a] = [den ρ a] := by
 unfold readRo at h
 split at h <;> first | rfl | cases h
theorem leaf1_cell {a:SV} (h:leaf1 a = true) (ρ:Nat → Tk):denC ρ [a] = [den ρ a] := by
 cases a <;> first | rfl | (simp [leaf1] at h)
theorem readRL_spec {H:Hp}:∀ (l:List RL) (asx:List SV) (e:List Nat) (ds:List D),readRL l asx H = some (e,ds) →
   ∀ (C:Cx) (ρ:Nat → Tk) (w:World) (R:Nat → Prop) (n:Nat) (ρ0:Nat → Tk),Rel C ρ H w → SV.okL C.R C.w1 ρ H.length asx → (∀ b,C.R b → R b) → (∀ t ∈ e,∀ b,blkOf ρ H t = some b → R b) →
     ∀ r,∃ l0,mkRL l (ds ++ r) (denC ρ asx) = some (l0,r) ∧ denC ρ0 l0 = denC ρ asx ∧ SV.okL R w ρ0 n l0
 | [],asx,e,ds,h => by
   unfold readRL at h
   split at h
   · cases h
     exact fun C ρ w R n ρ0 _ _ _ _ r => ⟨[],by simp [mkRL],by simp [denC],by simp [SV.okL]⟩
   · cases h
 | s :: ss,[],e,ds,h => by simp [readRL] at h
 | s :: ss,a :: asx,e,ds,h => by
   unfold readRL at h
   simp only at h
   split at h
   · cases h
   rename_i ex1 ds1 h1
   have ih := readRL_spec ss asx ex1 ds1 h1
   cases s with
   | leaf t =>
     simp only at h
     split at h
     · rename_i hs
       simp only [Bool.and_eq_true] at hs
       cases h
       intro C ρ w R n ρ0 hR hok q1 q2 r
       simp only [SV.okL] at hok
       obtain ⟨l0,m1,m2,m3⟩ := ih C ρ w R n ρ0 hR hok.2 q1 q2 r
       have hpl:a.plain = true := by
         have := hs.2
         cases a <;> first | rfl | (simp [leaf1] at this)
       obtain ⟨p1,p2,p3⟩ := plain_spec a hpl
       refine ⟨a :: l0,?_,?_,?_⟩
       · rw [denC_cons, leaf1_cell hs.2]
         simp only [mkRL,List.append_assoc,fill_same a t _ hs.1,List.singleton_append,List.tail_cons,m1]
       · rw [denC_cons,denC_cons ρ,m2,leaf1_cell hs.2,leaf1_cell hs.2,p2 ρ0 ρ]
       · simp only [SV.okL]; exact ⟨p3 _ _ _ _ _ _ _ _ hok.1,m3⟩
     · cases h
   | ro κ =>
     simp only at h
     split at h
     · rename_i e1 xs hro
       cases h
       intro C ρ w R n ρ0 hR hok q1 q2 r
       simp only [SV.okL] at hok
       obtain ⟨l0,m1,m2,m3⟩ := ih C ρ w R n ρ0 hR hok.2 q1 (fun t ht => q2 t (by simp [ht])) r
       obtain ⟨_,r2⟩ := readRo_spec hro
       refine ⟨.ros (den ρ a) κ xs :: l0,?_,?_,?_⟩
       · rw [denC_cons, readRo_cell hro]
         simp only [mkRL,List.cons_append,List.nil_append,List.tail_cons,List.headD_cons,m1]
         simp
       · rw [denC_cons, denC_cons ρ, m2, readRo_cell hro]
         simp [denC,cell1,den]
       · simp only [SV.okL,SV.ok]; exact ⟨r2 C ρ w R hR hok.1 q1 (fun t ht => q2 t (by simp [ht])),m3⟩
     · cases h
theorem readA_spec {H:Hp}:∀ (spec:List AS) (args:List SV) (σ ex:List Nat) (Hin:Hp) (ds:List D),readA spec args H = some (σ,ex,Hin,ds) →
   Hin.length = σ.length ∧ (∀ s ∈ σ,s < H.length) ∧ (∀ (i s:Nat) (o:SObj),σ[i]? = some s → Hin[i]? = some o → H[s]? = some o ∧ o.toks = []) ∧
   ∀ (C:Cx) (ρ:Nat → Tk) (w:World) (R:Nat → Prop) (tk n:Nat) (ρ0:Nat → Tk),Rel C ρ H w → SV.okL C.R C.w1 ρ H.length args → (∀ b,C.R b → R b) → (∀ t ∈ ex,∀ b,blkOf ρ H t = some b → R b) →
     (∀ i s,σ[i]? = some s → ρ0 (tk + i) = ρ s) → tk + σ.length ≤ n →
     ∃ args0,mkA spec tk ds (denL ρ args) = some (args0,Hin) ∧ denL ρ0 args0 = denL ρ args ∧ SV.okL R w ρ0 n args0
 | [],args,σ,ex,Hin,ds,h => by
   unfold readA at h
   split at h
   · cases h
     exact ⟨rfl,by simp,by simp,fun C ρ w R tk n ρ0 _ _ _ _ _ _ => ⟨[],by simp [mkA],by simp [denL],by simp [SV.okL]⟩⟩
   · cases h
 | s :: ss,[],σ,ex,Hin,ds,h => by simp [readA] at h
 | s :: ss,a :: asx,σ,ex,Hin,ds,h => by
   unfold readA at h
   simp only at h
   split at h
   · cases h
   rename_i σ1 ex1 Hin1 ds1 h1
   obtain ⟨i1,i2,i3,i4⟩ := readA_spec ss asx σ1 ex1 Hin1 ds1 h1
   cases s with
   | val t =>
     simp only at h
     split at h
     · rename_i hs
       simp only [Bool.and_eq_true] at hs
       cases h
       obtain ⟨p1,p2,p3⟩ := plain_spec a hs.2
       refine ⟨i1,i2,i3,fun C ρ w R tk n ρ0 hR hok h1 h2 h3 h4 => ?_⟩
       simp only [SV.okL] at hok
       obtain ⟨as0,m1,m2,m3⟩ := i4 C ρ w R tk n ρ0 hR hok.2 h1 h2 h3 h4
       refine ⟨a :: as0,?_,?_,?_⟩
       · simp only [mkA,fill_same a t _ hs.1,denL,List.tail_cons,m1]
       · simp only [denL,m2,p2 ρ0 ρ]
       · simp only [SV.okL]; exact ⟨p3 _ _ _ _ _ _ _ _ hok.1,m3⟩
     · cases h
   | ptr T l =>
     simp only at h
     split at h
     · rename_i t o
       split at h
       · rename_i l' T' ht
         split at h
         · rename_i hs
           simp only [Bool.and_eq_true,Nat.beq_eq] at hs
           obtain ⟨⟨⟨rfl,rfl⟩,hs⟩,hp⟩ := hs
           cases h
           obtain ⟨p1,p2,p3⟩ := plainL_spec l' hp
           refine ⟨by simp [i1],?_,?_,fun C ρ w R tk n ρ0 hR hok h1 h2 h3 h4 => ?_⟩
           · intro s hs
             rcases List.mem_cons.1 hs with rfl | hs
             · exact (List.getElem?_eq_some_iff.1 ht).1
             · exact i2 s hs
           · intro i s o h1 h2
             cases i with
             | zero => simp at h1 h2; subst h1; subst h2; exact ⟨ht,by simp [SObj.toks,p1]⟩
             | succ i => simp at h1 h2; exact i3 i s o h1 h2
           · simp only [SV.okL] at hok
             obtain ⟨as0,m1,m2,m3⟩ := i4 C ρ w R (tk + 1) n ρ0 hR hok.2 h1 h2 (fun i s hi => by have := h3 (i + 1) s (by simpa using hi); rw [← this]; congr 1; omega) (by simp only [List.length_cons] at h4; omega)
             refine ⟨.ptr tk 0 :: as0,?_,?_,?_⟩
             · simp only [mkA,fillL_same l' l _ hs,denL,List.tail_cons,m1]
             · simp only [denL,den,m2]; have := h3 0 t (by simp); rw [Nat.add_zero] at this; rw [this]
             · simp only [SV.okL,SV.ok]; exact ⟨by simp only [List.length_cons] at h4; omega,m3⟩
         · cases h
       · cases h
     · cases h
   | sl κ T =>
     simp only at h
     split at h
     · rename_i t
       split at h
       · rename_i κ' xs T' ht
         split at h
         · rename_i hs
           simp only [Bool.and_eq_true,Nat.beq_eq,decide_eq_true_eq] at hs
           obtain ⟨rfl,rfl⟩ := hs
           cases h
           refine ⟨by simp [i1],?_,?_,fun C ρ w R tk n ρ0 hR hok h1 h2 h3 h4 => ?_⟩
           · intro s hs
             rcases List.mem_cons.1 hs with rfl | hs
             · exact (List.getElem?_eq_some_iff.1 ht).1
             · exact i2 s hs
           · intro i s o h1 h2
             cases i with
             | zero => simp at h1 h2; subst h1; subst h2; exact ⟨ht,by simp [SObj.toks]⟩
             | succ i => simp at h1 h2; exact i3 i s o h1 h2
           · simp only [SV.okL] at hok
             obtain ⟨as0,m1,m2,m3⟩ := i4 C ρ w R (tk + 1) n ρ0 hR hok.2 h1 h2 (fun i s hi => by have := h3 (i + 1) s (by simpa using hi); rw [← this]; congr 1; omega) (by simp only [List.length_cons] at h4; omega)
             refine ⟨.sl tk :: as0,?_,?_,?_⟩
             · simp only [mkA,denL,List.tail_cons,m1]; simp
             · simp only [denL,den,m2]; have := h3 0 t (by simp); rw [Nat.add_zero] at this; rw [this]
             · simp only [SV.okL,SV.ok]; exact ⟨by simp only [List.length_cons] at h4; omega,m3⟩
         · cases h
       · cases h
     · cases h
   | ro κ =>
     simp only at h
     split at h
     · rename_i e xs hro
       cases h
       obtain ⟨q1,q2⟩ := readRo_spec hro
       refine ⟨i1,i2,i3,fun C ρ w R tk n ρ0 hR hok h1 h2 h3 h4 => ?_⟩
       simp only [SV.okL] at hok
       obtain ⟨as0,m1,m2,m3⟩ := i4 C ρ w R tk n ρ0 hR hok.2 h1 (fun t ht => h2 t (by simp [ht])) h3 h4
       refine ⟨.ros (den ρ a) κ xs :: as0,?_,?_,?_⟩
       · simp only [mkA,denL,List.tail_cons,m1]; simp
       · simp only [denL,den,m2]
       · simp only [SV.okL,SV.ok]; exact ⟨q2 C ρ w R hR hok.1 h1 (fun t ht => h2 t (by simp [ht])),m3⟩
     · cases h
   | st l =>
     simp only at h
     split at h
     · rename_i l'
       split at h
       · rename_i e d hrl
         cases h
         refine ⟨i1,i2,i3,fun C ρ w R tk n ρ0 hR hok h1 h2 h3 h4 => ?_⟩
         simp only [SV.okL,SV.ok] at hok
         obtain ⟨as0,m1,m2,m3⟩ := i4 C ρ w R tk n ρ0 hR hok.2 h1 (fun t ht => h2 t (by simp [ht])) h3 h4
         obtain ⟨l0,q1,q2,q3⟩ := readRL_spec l l' e d hrl C ρ w R n ρ0 hR hok.1 h1 (fun t ht => h2 t (by simp [ht])) ds1
         refine ⟨.agg l0 :: as0,?_,?_,?_⟩
         · simp only [mkA,denL,den,cellsV,List.headD_cons,List.tail_cons,q1,m1]
         · simp only [denL,den,m2,q2]
         · simp only [SV.okL,SV.ok]; exact ⟨q3,m3⟩
       · cases h
     · cases h
def disjN:List Nat → List Nat → Bool
 | [],_ => true
 | x :: l,m => !memN x m && disjN l m
def allFree:Hp → Bool
 | [] => true
 | o :: l => o.free && allFree l
theorem disjN_spec:∀ {l m:List Nat},disjN l m = true → ∀ t ∈ l,t ∉ m
 | [],m,_,t,ht => by simp at ht
 | x :: l,m,h,t,ht => by
   simp only [disjN,Bool.and_eq_true,Bool.not_eq_true'] at h
   rcases List.mem_cons.1 ht with rfl | ht
   · exact fun hm => by have := (memN_iff (t := t) (l := m)).2 hm; rw [this] at h; exact absurd h.1 (by simp)
   · exact disjN_spec h.2 t ht
theorem allFree_spec:∀ {H:Hp},allFree H = true → ∀ o ∈ H,SObj.free o = true
 | [],_,o,ho => by simp at ho
 | x :: l,h,o,ho => by
   simp only [allFree,Bool.and_eq_true] at h
   rcases List.mem_cons.1 ho with rfl | ho
   · exact h.1
   · exact allFree_spec h.2 o ho
def fEnt (spec:List AS) (go:List D → (SV → Hp → Option α) → Option α) (args:List SV) (H:Hp) (K:SV → Hp → Option α):Option α :=
 match readA spec args H with
 | some (σ,ex,Hin,ds) => if nodupN σ && disjN ex σ then go ds (fun v0 H0 => if ex.isEmpty || (v0.free && allFree H0) then adaptK σ H K v0 H0 else none) else none
 | none => none
def FnOk (P:Program) (f:FuncId) (c:List SV → Hp → (SV → Hp → Option α) → Option α):Prop :=
 ∀ args H K r,c args H K = some r → ∃ v H',K v H' = some r ∧ Sound P f args H v H'
def noFns:LookF α := fun _ => none
def addFn (f:FuncId) (c:List SV → Hp → (SV → Hp → Option α) → Option α) (look:LookF α):LookF α := fun g => if Nat.beq g f then some c else look g
theorem noFns_ok (P:Program):LookOk P (noFns (α := α)) := fun _ _ _ _ _ _ h => by cases h
theorem addFn_ok {P:Program} {f:FuncId} {c:List SV → Hp → (SV → Hp → Option α) → Option α} {look:LookF α} (h1:FnOk P f c) (h2:LookOk P look):LookOk P (addFn f c look) := by
 intro g c' args H K r hl h
 unfold addFn at hl
 split at hl
 · rename_i hc
   have := Nat.eq_of_beq_eq_true hc
   subst this
   cases hl
   exact h1 args H K r h
 · exact h2 g c' args H K r hl h
theorem fEnt_main {P:Program} {f:FuncId} {spec:List AS} {go:List D → (SV → Hp → Option α) → Option α}
   (h:∀ ds K r,go ds K = some r → ∃ v0 H0,K v0 H0 = some r ∧ ∀ vs args0 Hin,mkA spec 0 ds vs = some (args0,Hin) → Sound P f args0 Hin v0 H0):FnOk P f (fEnt spec go) := by
 intro args H K r h0
 unfold fEnt at h0
 split at h0
 · rename_i σ ex Hin ds hrd
   split at h0
   · rename_i hc
     simp only [Bool.and_eq_true] at hc
     obtain ⟨v0,H0,h1,h2⟩ := h _ _ _ h0
     split at h1
     · rename_i hf
       obtain ⟨i1,i2,i3,i4⟩ := readA_spec spec args σ ex Hin ds hrd
       refine ⟨_,_,h1,Sound.adapt σ ex (nodupN_spec hc.1) i2 (disjN_spec hc.2) i1 i3 ?_ ?_⟩
       · rcases Bool.or_eq_true _ _ ▸ hf with hf | hf
         · exact .inl (by simpa using hf)
         · simp only [Bool.and_eq_true] at hf
           exact .inr ⟨hf.1,allFree_spec hf.2⟩
       · intro C ρ w hR hok ρ0 hρ0
         obtain ⟨args0,m1,m2,m3⟩ := i4 C ρ w (C.call ρ H σ ex w).R 0 Hin.length ρ0 hR hok (fun b hb => .inl hb) (fun t ht b hb => .inr ⟨t,ht,hb⟩) (fun i s hi => by rw [Nat.zero_add]; exact hρ0 i s hi) (by omega)
         exact ⟨args0,m2,m3,h2 _ _ _ m1⟩
     · cases h1
   · cases h0
 · cases h0
theorem fEnt_ok (E:Env) {look:LookF α} {run:RunF α} (hlook:LookOk E.P look) (hrun:RunOk E.P run) {f:FuncId} {spec:List AS} {go:List D → (SV → Hp → Option α) → Option α}
   (h:∀ ds K r,go ds K = some r → ∃ args0 Hin,(∀ vs,mkA spec 0 ds vs = some (args0,Hin)) ∧ callI E look run f args0 Hin K = some r):FnOk E.P f (fEnt spec go) :=
 fEnt_main fun ds K r h0 => by
   obtain ⟨args0,Hin,h1,h2⟩ := h ds K r h0
   obtain ⟨v0,H0,h3,h4⟩ := callI_sound E hlook hrun f args0 Hin K r h2
   refine ⟨v0,H0,h3,fun vs a1 H1 hm => ?_⟩
   rw [h1 vs] at hm
   cases hm
   exact h4
theorem fEntR_ok (E:Env) {look:LookF (SV × Hp)} {run:RunF (SV × Hp)} (hlook:LookOk E.P look) (hrun:RunOk E.P run) {f:FuncId} {spec:List AS} {go:List D → (SV → Hp → Option α) → Option α}
   (h:∀ ds K r,go ds K = some r → ∃ v0 H0,K v0 H0 = some r ∧ ∀ vs,∃ args0 Hin,mkA spec 0 ds vs = some (args0,Hin) ∧ callI E look run f args0 Hin (fun v H => some (v,H)) = some (v0,H0)):FnOk E.P f (fEnt spec go) :=
 fEnt_main fun ds K r h0 => by
   obtain ⟨v0,H0,h1,h2⟩ := h ds K r h0
   refine ⟨v0,H0,h1,fun vs a1 H1 hm => ?_⟩
   obtain ⟨args0,Hin,h3,h4⟩ := h2 vs
   rw [h3] at hm
   cases hm
   obtain ⟨v1,H1,h5,h6⟩ := callI_sound E hlook hrun f _ _ _ _ h4
   cases h5
   exact h6
end
end
end Go.Proofs.YtfkgmidgdpfnkaaGreat.Sx
