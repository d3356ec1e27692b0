/- Texts of the walk, merged. -/
import Derived.Test.YtfkgmidgdpfnkaaGreatMg2
import Derived.Laws.Externs
import Derived.Great.BuildSlice
import Derived.Laws.AppendOwn
import Derived.Laws.MakeOwn
set_option linter.unusedVariables false
set_option linter.unusedSimpArgs false
namespace Go.Proofs.YtfkgmidgdpfnkaaGreat.Sx
section
open Go Go.RowKit
structure Sound (P:Program) (f:FuncId) (args:List SV) (H:Hp) (v:SV) (H':Hp):Prop where
 len:H.length ≤ H'.length
 run:∀ (C:Cx) (ρ:Nat → Tk) (w:World),Rel C ρ H w → SV.okL C.R C.w1 ρ H.length args →
   Calls P f (denL ρ args).toArray w fun e w' => ∃ ρ',(∀ t,t < H.length → ρ' t = ρ t) ∧ e = .returned (den ρ' v) ∧ Rel C ρ' H' w' ∧ v.ok C.R C.w1 ρ' H'.length
def CallOk (P:Program) {α:Type} (callf:CallF α):Prop :=
 ∀ f args H K r,callf f args H K = some r → ∃ v H',K v H' = some r ∧ Sound P f args H v H'
theorem denL_append (ρ:Nat → Tk):∀ (l m:List SV),denL ρ (l ++ m) = denL ρ l ++ denL ρ m
 | [],m => by simp [denL]
 | x :: l,m => by simp [denL,denL_append ρ l m]
theorem denL_length (ρ:Nat → Tk):∀ (l:List SV),(denL ρ l).length = l.length
 | [] => by simp [denL]
 | x :: l => by simp [denL,denL_length ρ l]
theorem denL_get (ρ:Nat → Tk):∀ (l:List SV) (i:Nat) (v:SV),l[i]? = some v → (denL ρ l)[i]? = some (den ρ v)
 | [],i,v,h => by simp at h
 | x :: l,0,v,h => by simp at h; subst h; simp [denL]
 | x :: l,i + 1,v,h => by simp at h; simpa [denL] using denL_get ρ l i v h
section
variable (E:Env)
theorem add_lit (b o n:Nat):(⟨b,o,none⟩:Addr).add n = ⟨b,o + n,none⟩ := by unfold Addr.add; split <;> simp_all
theorem op_fieldAddr {o:Oper} {F:Fr} {H:Hp} {T:TypeId} {x:Operand} {f:Nat} {u v:SV} (ho:o.op = .fieldAddr T x f) (hx:opd F x = some u) (hv:fieldAddrS E T u f = some v):OpGood0 E.P o F H v H :=
 .val fun C ρ a w hF hR => by
   obtain ⟨h1,h2⟩ := opd_spec hF hx
   unfold fieldAddrS at hv
   obtain ⟨fd,hfd,hv⟩ := bindO_some hv
   obtain ⟨n,hn,hv⟩ := bindO_some hv
   unfold fieldOf at hfd
   split at hfd
   · rename_i fs hT
     split at hv
     · cases hv
     · rename_i hn0
       have run:∀ (b q:Nat),den ρ u = .pointer (some ⟨b,q,none⟩) → (execOp a.eval o).run E.P w = .ok (.value (.pointer (some ⟨b,q + fd.offset,none⟩))) w := fun b q e => by
         simp [execOp,ho,h1,e,Instr.fieldAt,run_underlying hT,hfd,Instr.sureAddr,fieldPlace,run_sizeOf E hn,hn0,add_lit]
       split at hv
       · cases hv; exact ⟨run _ _ rfl,h2⟩
       · cases hv
         refine ⟨?_,h2⟩
         rw [run _ _ rfl]
         simp only [den,Nat.add_assoc]
       · cases hv
         refine ⟨?_,h2⟩
         obtain ⟨hros,hi⟩ := h2
         rcases hros with ⟨he,_⟩ | ⟨ad,cap,e,_⟩
         · subst he; simp at hi
         · subst e
           rw [run _ _ rfl]
           simp only [den,rixAddr,Nat.add_assoc]
       · cases hv
   · cases hfd
theorem op_field {o:Oper} {F:Fr} {H:Hp} {T:TypeId} {x:Operand} {f n:Nat} {l r:List SV} {v:SV} {g:Bool} {fd:Field} (ho:o.op = .field T x f) (hx:opd F x = some (.agg l)) (hf:fieldOf E T f = some fd)
   (hg:E.isAgg fd.type = some g) (hn:E.size fd.type = some n) (hr:segTake l fd.offset n = some r) (hv:mkVal g r = some v):OpGood0 E.P o F H v H :=
 .val fun C ρ a w hF hR => by
   obtain ⟨h1,h2⟩ := opd_spec hF hx
   unfold fieldOf at hf
   split at hf
   · rename_i fs hT
     have := run_part E hg hn (R := C.R) (w1 := C.w1) (m := H.length) (ρ := ρ) h2 hr hv w
     refine ⟨?_,this.2⟩
     simp [execOp,ho,h1,den,Instr.field,run_underlying hT,hf,asAgg,this.1]
   · cases hf
theorem flat_win (κ:K) (xs:List κ.T) (lo n:Nat) (hle:lo + n ≤ xs.length) (j:Nat) (c:Value) (h:(((xs.drop lo).take n).flatMap κ.cells)[j]? = some c):(xs.flatMap κ.cells)[lo * κ.sz + j]? = some c := by
 have e1:xs.flatMap κ.cells = (xs.take lo).flatMap κ.cells ++ (((xs.drop lo).take n).flatMap κ.cells ++ ((xs.drop lo).drop n).flatMap κ.cells) := by
   rw [← List.flatMap_append,List.take_append_drop,← List.flatMap_append,List.take_append_drop]
 have e2:((xs.take lo).flatMap κ.cells).length = lo * κ.sz := by rw [cells_flat_length,List.length_take,Nat.min_eq_left (by omega)]
 rw [e1,List.getElem?_append_right (by omega),e2,Nat.add_sub_cancel_left,List.getElem?_append_left (List.getElem?_eq_some_iff.1 h).1]
 exact h
theorem ros_win0 {R:Nat → Prop} {w:World} {v:Value} {κ:K} {xs:List κ.T} {lo n:Nat} (h:RosOk0 R w v κ xs) (hle:lo + n ≤ xs.length):RosOk0 R w (winV v κ.sz lo n) κ ((xs.drop lo).take n) := by
 by_cases hn:n = 0
 · subst hn
   rcases h with ⟨_,a,c,e⟩ | ⟨ad,cap,e,_⟩
   · exact .inl ⟨by simp,_,_,by rw [e]; rfl⟩
   · exact .inl ⟨by simp,_,_,by rw [e]; rfl⟩
 · rcases h with ⟨e0, _⟩ | ⟨ad, cap, e, hlen, hsp, hR, hc⟩
   · subst e0; simp at hle; omega
   · obtain ⟨ab, ao, asp⟩ := ad
     simp only at hsp hR hc
     subst hsp
     have hl:((xs.drop lo).take n).length = n := by rw [List.length_take,List.length_drop]; omega
     have hcap:¬ cap = lo := by omega
     refine .inr ⟨⟨ab,ao + lo * κ.sz,none⟩,cap - lo,by rw [e,hl]; simp [winV,hcap,add_lit],by omega,rfl,hR,fun j c hj => ?_⟩
     have := hc _ c (flat_win κ xs lo n hle j c hj)
     simpa only [Nat.add_assoc] using this
theorem ros_win {R:Nat → Prop} {w:World} {v:Value} {κ:K} {xs:List κ.T} {lo n:Nat} (h:RosOk R w v κ xs) (hle:lo + n ≤ xs.length):RosOk R w (winV v κ.sz lo n) κ ((xs.drop lo).take n) := ⟨ros_win0 h.1 hle,(h.2.drop lo).take n⟩
theorem ivO_spec {C:Cx} {ρ:Nat → Tk} {n:Nat} {F:Fr} {a:Act} (hF:FRel C ρ n F a.tmps) {lo:Option Operand} {l:Option Int} (h:ivO F lo = some l):(lo.map a.eval = none ∧ l = none) ∨ ∃ k i,lo.map a.eval = some (.int k i) ∧ l = some i := by
 unfold ivO at h
 split at h
 · cases h; exact .inl ⟨rfl,rfl⟩
 · split at h
   · rename_i x k i hx
     cases h
     obtain ⟨h1,_⟩ := opd_spec hF hx
     exact .inr ⟨k,i,by rw [Option.map_some,h1]; rfl,rfl⟩
   · cases h
theorem run_slice_win {T e:TypeId} {sz:Nat} (hT:E.P.underlying T = some (.slice e)) (hsz:E.size e = some sz) (w:World) (a:Option Addr) (n c:Nat) (lo hi:Option Value) (l h:Option Int) (hlo:(lo = none ∧ l = none) ∨ ∃ k i,lo = some (.int k i) ∧ l = some i)
   (hhi:(hi = none ∧ h = none) ∨ ∃ k i,hi = some (.int k i) ∧ h = some i) (h0:0 ≤ lowI l) (h1:lowI l ≤ highI n h) (h2:highI n h ≤ (n:Int)) (h3:n ≤ c) :
   (Instr.sliceAt T (.slice a n c) lo hi none).run E.P w = .ok (winV (.slice a n c) sz (lowI l).toNat (highI n h - lowI l).toNat) w := by
 rcases hlo with ⟨rfl,rfl⟩ | ⟨k1,i,rfl,rfl⟩ <;> rcases hhi with ⟨rfl,rfl⟩ | ⟨k2,j,rfl,rfl⟩ <;> simp only [lowI,highI] at h0 h1 h2 ⊢
 · simp [Instr.sliceAt,Instr.slice,Instr.sliceBounds,Instr.sliceBound,asIntOf,run_underlying hT,run_sizeOf E hsz,winV]
 · have c1 : j ≤ (c : Int) := by omega
   simp [Instr.sliceAt,Instr.slice,Instr.sliceBounds,Instr.sliceBound,asIntOf,run_underlying hT,run_sizeOf E hsz,winV,h1,c1]
 · have e1 : ((n : Int) - i).toNat = n - i.toNat := by omega
   simp [Instr.sliceAt,Instr.slice,Instr.sliceBounds,Instr.sliceBound,asIntOf,run_underlying hT,run_sizeOf E hsz,winV,h0,h1,e1]
 · have c1 : j ≤ (c : Int) := by omega
   have c2:0 ≤ j := by omega
   have c3:i ≤ (j.toNat:Int) := by omega
   have e1:(j - i).toNat = j.toNat - i.toNat := by omega
   simp [Instr.sliceAt,Instr.slice,Instr.sliceBounds,Instr.sliceBound,asIntOf,run_underlying hT,run_sizeOf E hsz,winV,h0,c1,c2,c3,e1]
   intro hx; exfalso; omega
theorem op_slice {o:Oper} {F:Fr} {H:Hp} {T e:TypeId} {x:Operand} {lo hi:Option Operand} {u v:SV} {l h:Option Int} {sz L:Nat} (ho:o.op = .slice T x lo hi none) (hx:opd F x = some u) (hl:ivO F lo = some l) (hh:ivO F hi = some h)
   (hT:E.P.underlying T = some (.slice e)) (hsz:E.size e = some sz) (hL:winLen H sz u = some L) (hb:0 ≤ lowI l ∧ lowI l ≤ highI L h ∧ highI L h ≤ (L:Int)) (hv:cutS H u (lowI l).toNat (highI L h - lowI l).toNat = some v):OpGood0 E.P o F H v H :=
 .val fun C ρ a w hF hR => by
   obtain ⟨h1,h2⟩ := opd_spec hF hx
   have hl' := ivO_spec hF hl
   have hh' := ivO_spec hF hh
   -- the value, its length and room; and what it is cut to
   have key:∃ b c,den ρ u = .slice b L c ∧ L ≤ c ∧ den ρ v = winV (.slice b L c) sz (lowI l).toNat (highI L h - lowI l).toNat ∧ v.ok C.R C.w1 ρ H.length := by
     unfold winLen at hL
     split at hL
     · rename_i vv κ xs
       split at hL
       · rename_i hk
         cases hL
         simp only [cutS,Option.some.injEq] at hv
         subst hv
         simp only [SV.ok] at h2
         have hw := ros_win (lo := (lowI l).toNat) (n := (highI xs.length h - lowI l).toNat) h2 (by omega)
         rcases h2 with ⟨he,b,cap,e1⟩ | ⟨ad,cap,e1,hlen,_⟩
         · refine ⟨b, cap, by rw [he]; simpa [den] using e1, by rw [he]; exact Nat.zero_le _, ?_, hw⟩
           simp only [den]
           rw [e1,he,hk]; rfl
         · refine ⟨some ad, cap, by simpa [den] using e1, hlen, ?_, hw⟩
           simp only [den]
           rw [e1,hk]
       · cases hL
     · rename_i t
       split at hL
       · rename_i κ xs E' ht
         split at hL
         · rename_i hk
           cases hL
           simp only [cutS,ht,Option.some.injEq] at hv
           subst hv
           have hob := hR.obj t _ ht
           have hlt := (List.getElem?_eq_some_iff.1 ht).1
           rcases hob.1.2 with ⟨e1,e0⟩ | ⟨gb,cap,cur,e1,_,hg2,hnc,_⟩
           · refine ⟨none, 0, by rw [e0]; simpa [den] using e1, by omega, ?_, by simp only [SV.ok]; exact ⟨hlt, _, _, _, e1, by omega⟩⟩
             simp only [den]
             rw [e1,e0,hk]
           · refine ⟨_, cap, by simpa [den] using e1, hnc, ?_, by simp only [SV.ok]; exact ⟨hlt, _, _, _, e1, by omega⟩⟩
             simp only [den]
             rw [e1,hk]
         · cases hL
       · cases hL
     · rename_i t κ lo' n'
       split at hL
       · rename_i κ2 xs2 E2 ht
         split at hL
         · rename_i hk
           cases hL
           simp only [cutS] at hv
           split at hv
           · rename_i hc
             cases hv
             simp only [SV.ok] at h2
             obtain ⟨hlt,b,k0,c0,he,hle⟩ := h2
             have hob := hR.obj t _ ht
             generalize hl0:(lowI l).toNat = l0 at *
             generalize hn0:(highI L h - lowI l).toNat = n0 at *
             have hln:l0 + n0 ≤ L := by omega
             rcases hob.1.2 with ⟨e1,e0⟩ | ⟨gb,cap,cur,e1,_,hg2,hnc,_⟩
             · rw [e1] at he
               cases he
               refine ⟨none,0,?_,by omega,?_,by simp only [SV.ok]; exact ⟨hlt,_,_,_,e1,by omega⟩⟩
               · simp only [den, e1, winV]
                 simp
               · simp only [den, e1, winV]
                 simp
             · rw [e1] at he
               cases he
               refine ⟨(if c0 = lo' then some ⟨gb,0,none⟩ else some ⟨gb,lo' * κ.sz,none⟩),c0 - lo',?_,by omega,?_,by simp only [SV.ok]; exact ⟨hlt,_,_,_,e1,by omega⟩⟩
               · simp only [den, e1, winV]
                 split <;> simp [add_lit]
               · simp only [den, e1, winV]
                 rcases hc with h0 | h0
                 · subst h0
                   simp only [Nat.add_zero,Nat.sub_zero,Nat.zero_mul]
                   by_cases hc0:c0 = lo'
                   · subst hc0; simp
                   · have : ¬ c0 - lo' = 0 := by omega
                     simp [hc0,this,add_lit]
                 · have a1 : ¬ c0 = lo' := by omega
                   have a2:¬ c0 - lo' = l0 := by omega
                   have a3:¬ c0 = lo' + l0 := by omega
                   simp [a1,a2,a3,add_lit,hk,Nat.add_mul,Nat.sub_sub]
           · cases hv
         · cases hL
       · cases hL
     · cases hL
   obtain ⟨b,c,k1,k2,k3,k4⟩ := key
   refine ⟨?_,k4⟩
   simp only [execOp,ho,h1,k1,Option.map_none,Sem.run_bind,run_slice_win E hT hsz w b L c _ _ l h hl' hh' hb.1 hb.2.1 hb.2.2 k2,Result.andThen_ok,Sem.run_pure,k3]
theorem run_slice_clip {T e:TypeId} {sz:Nat} (hT:E.P.underlying T = some (.slice e)) (hsz:E.size e = some sz) (w:World) (a:Option Addr) (n c:Nat) (k1 k2:IntKind) (h3:n ≤ c) :
   (Instr.sliceAt T (.slice a n c) none (some (.int k1 (n:Int))) (some (.int k2 (n:Int)))).run E.P w = .ok (clipV (.slice a n c) n) w := by
 simp [Instr.sliceAt,Instr.slice,Instr.sliceBounds,Instr.sliceBound,asIntOf,run_underlying hT,run_sizeOf E hsz,clipV]
 intro hx; exfalso; omega
theorem op_clip {o:Oper} {F:Fr} {H:Hp} {T e:TypeId} {x hi mx:Operand} {t:Nat} {κ:K} {xs:List κ.T} {E':TypeId} {k1 k2:IntKind} {sz:Nat} (ho:o.op = .slice T x none (some hi) (some mx)) (hx:opd F x = some (.sl t)) (hh:opd F hi = some (.int k1 (xs.length:Int))) (hm:opd F mx = some (.int k2 (xs.length:Int)))
   (hT:E.P.underlying T = some (.slice e)) (hsz:E.size e = some sz) (ht:H[t]? = some (.seq κ xs E')):OpGood0 E.P o F H (.clp t κ xs.length) H :=
 .val fun C ρ a w hF hR => by
   obtain ⟨h1,h2⟩ := opd_spec hF hx
   obtain ⟨h3,_⟩ := opd_spec hF hh
   obtain ⟨h4,_⟩ := opd_spec hF hm
   have hob := hR.obj t _ ht
   have hlt := (List.getElem?_eq_some_iff.1 ht).1
   rcases hob.1.2 with ⟨e1,e0⟩ | ⟨gb,cap,cur,e1,_,hg2,hnc,_⟩
   · refine ⟨?_, by simp only [SV.ok]; exact ⟨hlt, _, _, _, e1, by omega⟩⟩
     have := run_slice_clip E hT hsz w none 0 0 k1 k2 (Nat.le_refl _)
     simp only [execOp,ho,h1,h3,h4,den,e1,e0,Option.map_none,Option.map_some,Sem.run_bind,Int.natCast_zero] at this ⊢
     rw [this]; rfl
   · refine ⟨?_, by simp only [SV.ok]; exact ⟨hlt, _, _, _, e1, Nat.le_refl _⟩⟩
     simp only [execOp,ho,h1,h3,h4,den,e1,Option.map_none,Option.map_some,Sem.run_bind,run_slice_clip E hT hsz w _ _ _ k1 k2 hnc,Result.andThen_ok,Sem.run_pure]
theorem op_index {o:Oper} {F:Fr} {H:Hp} {T:TypeId} {x ix:Operand} {s:ByteArray} {k:IntKind} {i:Int} (ho:o.op = .index T x ix) (hx:opd F x = some (.raw (.string s))) (hi:opd F ix = some (.int k i)) (hT:E.P.underlying T = some .string)
   (hb:0 ≤ i ∧ i < (s.size:Int)):OpGood0 E.P o F H (.int .u8 (strAt s i)) H :=
 .val fun C ρ a w hF hR => by
   obtain ⟨h1,h2⟩ := opd_spec hF hx
   obtain ⟨h3,h4⟩ := opd_spec hF hi
   refine ⟨?_,by simp [SV.ok]⟩
   have hs:i.toNat < s.size := by omega
   simp [execOp,ho,h1,h3,den,Instr.index,asIntOf,run_underlying hT,hb.1,strAt,hs]
theorem op_indexA {o:Oper} {F:Fr} {H:Hp} {T e:TypeId} {x ix:Operand} {n sz:Nat} {l r:List SV} {v:SV} {g:Bool} {k:IntKind} {i:Int} (ho:o.op = .index T x ix) (hx:opd F x = some (.agg l)) (hi:opd F ix = some (.int k i)) (hT:E.P.underlying T = some (.array n e))
   (hg:E.isAgg e = some g) (hn:E.size e = some sz) (hb:0 ≤ i ∧ i < (n:Int)) (hr:segTake l (i.toNat * sz) sz = some r) (hv:mkVal g r = some v):OpGood0 E.P o F H v H :=
 .val fun C ρ a w hF hR => by
   obtain ⟨h1,h2⟩ := opd_spec hF hx
   obtain ⟨h3,_⟩ := opd_spec hF hi
   have := run_part E hg hn (R := C.R) (w1 := C.w1) (m := H.length) (ρ := ρ) h2 hr hv w
   refine ⟨?_,this.2⟩
   simp [execOp,ho,h1,h3,den,Instr.index,asIntOf,run_underlying hT,run_sizeOf E hn,hb.1,hb.2,this.1]
theorem op_extract {o:Oper} {F:Fr} {H:Hp} {x:Operand} {i:Nat} {l:List SV} {v:SV} (ho:o.op = .extract x i) (hx:opd F x = some (.tup l)) (hv:l[i]? = some v):OpGood0 E.P o F H v H :=
 .val fun C ρ a w hF hR => by
   obtain ⟨h1,h2⟩ := opd_spec hF hx
   refine ⟨?_,okL_iff.1 h2 v (List.mem_of_getElem? hv)⟩
   have := denL_get ρ l i v hv
   simp [execOp,ho,h1,den,Instr.extract,this]
theorem indexS_spec {α:Type} {o:Oper} {H:Hp} {T:TypeId} {x ix:Operand} {u i:SV} {K:SV → Option α} {r:α} (ho:o.op = .indexAddr T x ix)
   (h:indexS E H T u i K = some r):∃ v,K v = some r ∧ ∀ F,opd F x = some u → opd F ix = some i → OpGood0 E.P o F H v H := by
 unfold indexS at h
 split at h
 · rename_i k i
   split at h
   · -- an array
     rename_i n e t off hT
     split at h
     · rename_i sz l T' hsz ht
       split at h
       · rename_i κ xs m hseg
         split at h
         · rename_i hk
           obtain ⟨hk,hm⟩ := hk
           have hm' := Nat.eq_of_beq_eq_true hm
           split at h
           · rename_i hb
             refine ⟨_,h,fun F hx hi => .val fun C ρ a w hF hR => ?_⟩
             obtain ⟨h1,h2⟩ := opd_spec hF hx
             obtain ⟨h3,_⟩ := opd_spec hF hi
             refine ⟨?_,by simp only [SV.ok]; exact ⟨h2,by omega⟩⟩
             simp [execOp,ho,h1,h3,den,Instr.indexAt,asIntOf,run_underlying hT,Instr.sureAddr,hb.1,hb.2,run_sizeOf E hsz,add_lit,hk]
           · cases h
         · cases h
       · split at h
         · rename_i hb
           refine ⟨_,h,fun F hx hi => .val fun C ρ a w hF hR => ?_⟩
           obtain ⟨h1,h2⟩ := opd_spec hF hx
           obtain ⟨h3,_⟩ := opd_spec hF hi
           refine ⟨?_,h2⟩
           simp [execOp,ho,h1,h3,den,Instr.indexAt,asIntOf,run_underlying hT,Instr.sureAddr,hb.1,hb.2,run_sizeOf E hsz,add_lit]
         · cases h
     · cases h
   · -- a slice of one's own
     rename_i e t hT
     split at h
     · rename_i sz κ xs E' hsz ht
       split at h
       · rename_i hk
         split at h
         · rename_i hb
           refine ⟨_,h,fun F hx hi => .val fun C ρ a w hF hR => ?_⟩
           obtain ⟨h1,h2⟩ := opd_spec hF hx
           obtain ⟨h3,_⟩ := opd_spec hF hi
           have hob := hR.obj t _ ht
           rcases hob.1.2 with ⟨e1,e0⟩ | ⟨gb,cap,cur,e1,_,hg2,_⟩
           · omega
           · have hgb : gb = (ρ t).blk := hob.2 gb (by rw [e1]; rfl)
             refine ⟨?_,by simp only [SV.ok]; exact ⟨h2,_,_,_,e1,by omega⟩⟩
             simp [execOp,ho,h1,h3,den,e1,Instr.indexAt,asIntOf,run_underlying hT,hb.1,hb.2,run_sizeOf E hsz,add_lit,hk,hgb]
         · cases h
       · cases h
     · cases h
   · -- a slice that is read only
     rename_i e v κ xs hT
     split at h
     · rename_i sz hsz
       split at h
       · rename_i hk
         split at h
         · rename_i hb
           refine ⟨_,h,fun F hx hi => .val fun C ρ a w hF hR => ?_⟩
           obtain ⟨h1,h2⟩ := opd_spec hF hx
           obtain ⟨h3,_⟩ := opd_spec hF hi
           refine ⟨?_,by simp only [SV.ok]; exact ⟨h2,by omega⟩⟩
           rcases h2 with ⟨he,_⟩ | ⟨ad,cap,e1,_,hsp,_⟩
           · subst he; simp at hb; omega
           · subst e1
             obtain ⟨ab,ao,asp⟩ := ad
             simp only at hsp
             subst hsp
             simp [execOp,ho,h1,h3,den,rixAddr,Instr.indexAt,asIntOf,run_underlying hT,hb.1,hb.2,run_sizeOf E hsz,add_lit,hk]
         · cases h
       · cases h
     · cases h
   · -- a window of a slice of one's own
     rename_i e t κ lo n hT
     split at h
     · rename_i sz κ' xs E' hsz ht
       split at h
       · rename_i hk
         obtain ⟨hk,hk2⟩ := hk
         split at h
         · rename_i hb
           refine ⟨_,h,fun F hx hi => .val fun C ρ a w hF hR => ?_⟩
           obtain ⟨h1,h2⟩ := opd_spec hF hx
           obtain ⟨h3,_⟩ := opd_spec hF hi
           simp only [SV.ok] at h2
           obtain ⟨ht',a0,k0,c0,he,hle⟩ := h2
           have hob := hR.obj t _ ht
           rcases hob.1.2 with ⟨e1,e0⟩ | ⟨gb,cap,cur,e1,_,hg2,hnc,_⟩
           · rw [e1] at he; cases he; omega
           · have hgb : gb = (ρ t).blk := hob.2 gb (by rw [e1]; rfl)
             have e2 := he
             rw [e1] at e2
             cases e2
             refine ⟨?_,by simp only [SV.ok]; exact ⟨ht',_,_,_,e1,by omega⟩⟩
             have hc:¬ c0 = lo := by omega
             simp [execOp,ho,h1,h3,den,e1,winV,hc,Instr.indexAt,asIntOf,run_underlying hT,hb.1,hb.2,run_sizeOf E hsz,add_lit,hk,hgb,Nat.add_mul]
         · cases h
       · cases h
     · cases h
   · -- a slice without room
     rename_i e t κ n hT
     split at h
     · rename_i sz κ' xs E' hsz ht
       split at h
       · rename_i hk
         obtain ⟨hk,hk2⟩ := hk
         split at h
         · rename_i hb
           refine ⟨_,h,fun F hx hi => .val fun C ρ a w hF hR => ?_⟩
           obtain ⟨h1,h2⟩ := opd_spec hF hx
           obtain ⟨h3,_⟩ := opd_spec hF hi
           simp only [SV.ok] at h2
           obtain ⟨ht',a0,k0,c0,he,hle⟩ := h2
           have hob := hR.obj t _ ht
           rcases hob.1.2 with ⟨e1,e0⟩ | ⟨gb,cap,cur,e1,_,hg2,hnc,_⟩
           · rw [e1] at he; cases he; omega
           · have hgb : gb = (ρ t).blk := hob.2 gb (by rw [e1]; rfl)
             have e2 := he
             rw [e1] at e2
             cases e2
             refine ⟨?_,by simp only [SV.ok]; exact ⟨ht',_,_,_,e1,by omega⟩⟩
             have hc:¬ n = 0 := by omega
             simp [execOp,ho,h1,h3,den,e1,clipV,hc,Instr.indexAt,asIntOf,run_underlying hT,hb.1,hb.2,run_sizeOf E hsz,add_lit,hk,hgb]
         · cases h
       · cases h
     · cases h
   · -- an array within an element
     rename_i n e t κ j off hT
     split at h
     · rename_i sz hsz
       split at h
       · rename_i hb
         refine ⟨_,h,fun F hx hi => .val fun C ρ a w hF hR => ?_⟩
         obtain ⟨h1,h2⟩ := opd_spec hF hx
         obtain ⟨h3,_⟩ := opd_spec hF hi
         refine ⟨?_,h2⟩
         simp [execOp,ho,h1,h3,den,Instr.indexAt,asIntOf,run_underlying hT,Instr.sureAddr,hb.1,hb.2,run_sizeOf E hsz,add_lit,Nat.add_assoc]
       · cases h
     · cases h
   · rename_i n e v κ xs j off hT
     split at h
     · rename_i sz hsz
       split at h
       · rename_i hb
         refine ⟨_,h,fun F hx hi => .val fun C ρ a w hF hR => ?_⟩
         obtain ⟨h1,h2⟩ := opd_spec hF hx
         obtain ⟨h3,_⟩ := opd_spec hF hi
         refine ⟨?_,h2⟩
         obtain ⟨hros,hj⟩ := h2
         rcases hros with ⟨he,_⟩ | ⟨ad,cap,e1,_⟩
         · subst he; simp at hj
         · subst e1
           simp [execOp,ho,h1,h3,den,rixAddr,Instr.indexAt,asIntOf,run_underlying hT,Instr.sureAddr,hb.1,hb.2,run_sizeOf E hsz,add_lit,Nat.add_assoc]
       · cases h
     · cases h
   · cases h
 · cases h
theorem lenS_spec {H:Hp} {x v:SV} (h:lenS H x = some v) {C:Cx} {ρ:Nat → Tk} {w:World} (hR:Rel C ρ H w) (hx:x.ok C.R C.w1 ρ H.length):∃ a n c,den ρ x = .slice a n c ∧ v = .int .i64 (n:Int) := by
 unfold lenS at h
 split at h
 · rename_i t
   split at h
   · rename_i κ xs e ht
     cases h
     have hob := hR.obj t _ ht
     rcases hob.1.2 with ⟨e1,e0⟩ | ⟨gb,cap,cur,e1,_⟩
     · exact ⟨_,_,_,e1,by rw [e0]⟩
     · exact ⟨_,_,_,e1,rfl⟩
   · cases h
 · cases h
   rcases hx with ⟨he,a,cap,e⟩ | ⟨ad,cap,e,_⟩
   · exact ⟨_,_,_,e,by rw [he]; rfl⟩
   · exact ⟨_,_,_,e,rfl⟩
 · cases h
   simp only [SV.ok] at hx
   obtain ⟨_,a0,k0,c0,he,_⟩ := hx
   exact ⟨_,_,_,by simp only [den,he,winV]; rfl,rfl⟩
 · cases h
   simp only [SV.ok] at hx
   obtain ⟨_,a0,k0,c0,he,_⟩ := hx
   exact ⟨_,_,_,by simp only [den,he,clipV]; rfl,rfl⟩
 · cases h; exact ⟨_,_,_,rfl,rfl⟩
 · cases h
theorem minS_spec:∀ (l:List SV) (x v:SV),minS x l = some v → ∀ (ρ:Nat → Tk) (R:Nat → Prop) (w1:World) (n:Nat) (w:World),x.ok R w1 ρ n → ((denL ρ l).foldlM Builtin.min2 (den ρ x)).run E.P w = .ok (den ρ v) w ∧ v.ok R w1 ρ n
 | [],x,v,h,ρ,R,w1,n,w,hx => by simp only [minS,Option.some.injEq] at h; subst h; exact ⟨by simp [denL],hx⟩
 | y :: l,x,v,h,ρ,R,w1,n,w,hx => by
   unfold minS at h
   split at h
   · rename_i he; cases he
   · rename_i k a k' b l' he
     cases he
     split at h
     · rename_i hk
       subst hk
       have := minS_spec l _ v h ρ R w1 n w (by simp [SV.ok])
       refine ⟨?_,this.2⟩
       simp only [denL,den,List.foldlM_cons,Sem.run_bind,Builtin.min2,Sem.run_pure,Result.andThen_ok]
       exact this.1
     · cases h
   · cases h
theorem maxS_spec:∀ (l:List SV) (x v:SV),maxS x l = some v → ∀ (ρ:Nat → Tk) (R:Nat → Prop) (w1:World) (n:Nat) (w:World),x.ok R w1 ρ n → ((denL ρ l).foldlM Builtin.max2 (den ρ x)).run E.P w = .ok (den ρ v) w ∧ v.ok R w1 ρ n
 | [],x,v,h,ρ,R,w1,n,w,hx => by simp only [maxS,Option.some.injEq] at h; subst h; exact ⟨by simp [denL],hx⟩
 | y :: l,x,v,h,ρ,R,w1,n,w,hx => by
   unfold maxS at h
   split at h
   · rename_i he; cases he
   · rename_i k a k' b l' he
     cases he
     split at h
     · rename_i hk
       subst hk
       have := maxS_spec l _ v h ρ R w1 n w (by simp [SV.ok])
       refine ⟨?_,this.2⟩
       simp only [denL,den,List.foldlM_cons,Sem.run_bind,Builtin.max2,Sem.run_pure,Result.andThen_ok]
       exact this.1
     · cases h
   · cases h
end
end
section
open Go Go.RowKit
theorem Rel.newNil {C:Cx} {ρ:Nat → Tk} {H:Hp} {w:World} (h:Rel C ρ H w) (κ:K) (E:TypeId) :
   Rel C (ext ρ H.length ⟨0,.slice none 0 0⟩) (H ++ [.seq κ [] E]) w := by
 refine h.push (.seq κ [] E) ⟨0,.slice none 0 0⟩ (fun b _ => rfl) (Nat.le_refl _) rfl rfl rfl ?_ ?_ (fun x hx => by cases hx) ⟨_,_,_,rfl⟩
 · simp only [ObjRel]
   exact ⟨World.ownsRow_nil w 0 E κ.sz,fun b hb => by simp [Value.ownBlock] at hb⟩
 · intro b hb; simp [objBlk,Value.ownBlock] at hb
theorem K.cells_one (κ:K) (x:κ.T):∀ v ∈ κ.cells x,v.oneCell' = true := by
 intro v hv
 cases κ with
 | st k ks => exact RT.cells_one k ks x v hv
 | _ => simp only [K.cells,List.mem_cons,List.not_mem_nil,or_false] at hv; (first | (rcases hv with rfl | rfl | rfl <;> rfl) | (subst hv; rfl))
theorem flat_get' (κ:K):∀ (xs:List κ.T) (q m:Nat),q < xs.length → m < κ.sz → (xs.flatMap κ.cells)[q * κ.sz + m]? = (κ.cells (xs[q]?.getD κ.dflt))[m]?
 | [],q,m,h,_ => by simp at h
 | x :: xs,0,m,h,hm => by
   rw [List.flatMap_cons,List.getElem?_append_left (by rw [K.cells_length]; omega)]
   simp
 | x :: xs,q + 1,m,h,hm => by
   rw [List.flatMap_cons,List.getElem?_append_right (by rw [K.cells_length,Nat.add_mul]; omega),K.cells_length]
   rw [show (q + 1) * κ.sz + m - κ.sz = q * κ.sz + m by rw [Nat.add_mul]; omega]
   simpa using flat_get' κ xs q m (by simpa using h) hm
theorem rep_cells (κ:K) (d:κ.T) (z:Array Value) (hz:z.toList = κ.cells d) (n:Nat):((List.replicate n d).flatMap κ.cells).toArray = madeCells z (n * κ.sz) := by
 have hzs:z.size = κ.sz := by rw [← Array.length_toList,hz,K.cells_length]
 apply Array.toList_inj.1
 apply List.ext_getElem?
 intro j
 by_cases hj:j < n * κ.sz
 · have hsz := K.sz_pos κ
   have hq:j / κ.sz < n := Nat.div_lt_of_lt_mul (by rwa [Nat.mul_comm])
   have hm:j % κ.sz < κ.sz := Nat.mod_lt _ hsz
   have h1 := flat_get' κ (List.replicate n d) (j / κ.sz) (j % κ.sz) (by simpa using hq) hm
   rw [Nat.div_add_mod' j κ.sz] at h1
   show ((List.replicate n d).flatMap κ.cells)[j]? = _
   rw [h1]
   have h2:(List.replicate n d)[j / κ.sz]? = some d := by simp [hq]
   rw [h2]
   simp only [Option.getD_some,madeCells,Array.toList_map,List.getElem?_map,Array.toList_range,List.getElem?_range hj,Option.map_some]
   have hm':j % z.size < z.size := by rw [hzs]; exact hm
   rw [← hzs,← hz]
   simp [hm']
 · rw [List.getElem?_eq_none (by simp [K.cells_length]; omega),List.getElem?_eq_none (by simp [madeCells]; omega)]
section
variable (E:Env)
theorem nilAt_some {t:TypeId} {x:SV} {r:TypeId × K} (h:nilAt E t x = some r):x = .raw (.slice none 0 0) := by
 unfold nilAt at h
 split at h
 · rfl
 · cases h
theorem nilz_spec {C:Cx} {w:World}:∀ (ts:List TypeId) (l:List SV) (ρ:Nat → Tk) (H:Hp),Rel C ρ H w → SV.okL C.R C.w1 ρ H.length l → leavesB l = true →
   (ts = [] ∨ l ≠ [] ∨ True) → ∃ ρ',(∀ t,t < H.length → ρ' t = ρ t) ∧ Rel C ρ' (H ++ (nilz E ts l H.length).2) w ∧ denC ρ' (nilz E ts l H.length).1 = denC ρ l ∧
     SV.okL C.R C.w1 ρ' (H ++ (nilz E ts l H.length).2).length (nilz E ts l H.length).1 ∧ leavesB (nilz E ts l H.length).1 = true
 | [],l,ρ,H,hR,hok,hl,_ => ⟨ρ,fun _ _ => rfl,by simpa [nilz] using hR,by simp [nilz],by simpa [nilz] using hok,by simpa [nilz] using hl⟩
 | t :: ts,[],ρ,H,hR,hok,hl,_ => ⟨ρ,fun _ _ => rfl,by simpa [nilz] using hR,by simp [nilz],by simpa [nilz] using hok,by simpa [nilz] using hl⟩
 | t :: ts,x :: l,ρ,H,hR,hok,hl,_ => by
   simp only [SV.okL] at hok
   simp only [leavesB,Bool.and_eq_true] at hl
   cases hx:nilAt E t x with
   | some r =>
     obtain ⟨e,κ⟩ := r
     have hx' := nilAt_some E hx
     have hR1 := hR.newNil κ e
     have hlen:(H ++ [SObj.seq κ [] e]).length = H.length + 1 := by simp
     obtain ⟨ρ',g1,g2,g3,g4,g5⟩ := nilz_spec ts l _ _ hR1 (okL_mono (by rw [hlen]; omega) l (okL_agree ext_lt l hok.2)) hl.2 (.inr (.inr trivial))
     rw [hlen] at g2 g3 g4 g5
     have e1:nilz E (t :: ts) (x :: l) H.length = (.sl H.length :: (nilz E ts l (H.length + 1)).1,.seq κ [] e :: (nilz E ts l (H.length + 1)).2) := by
       conv => lhs; unfold nilz
       simp only [hx]
     rw [e1]
     have hself:ρ' H.length = ⟨0,.slice none 0 0⟩ := by rw [g1 _ (by rw [hlen]; omega),ext_self]
     refine ⟨ρ',fun s hs => by rw [g1 s (by rw [hlen]; omega),ext_lt s hs],by simpa using g2,?_,?_,?_⟩
     · simp only
       rw [denC_cons,denC_cons ρ x l,g3,denC_agree ext_lt l hok.2,hx']
       simp [denC,den,cell1,hself]
     · simp only [SV.okL]
       refine ⟨by simp only [SV.ok]; simp,?_⟩
       have:(H ++ SObj.seq κ [] e :: (nilz E ts l (H.length + 1)).2).length = (H ++ [SObj.seq κ [] e] ++ (nilz E ts l (H.length + 1)).2).length := by simp
       rw [this]; exact g4
     · simp only [leavesB,g5,SV.leafB,Bool.and_self]
   | none =>
     by_cases ha:isArr x = true
     · have e1 : nilz E (t :: ts) (x :: l) H.length = (x :: l, []) := by
         conv => lhs; unfold nilz
         simp only [hx,ha,if_true]
       rw [e1]
       exact ⟨ρ,fun _ _ => rfl,by simpa using hR,rfl,by simp only [SV.okL,List.append_nil]; exact hok,by simp only [leavesB,hl.1,hl.2,Bool.and_self]⟩
     · have e1 : nilz E (t :: ts) (x :: l) H.length = (x :: (nilz E ts l H.length).1, (nilz E ts l H.length).2) := by
         conv => lhs; unfold nilz
         simp only [hx,ha,if_false,Bool.false_eq_true]
       rw [e1]
       obtain ⟨ρ',g1,g2,g3,g4,g5⟩ := nilz_spec ts l ρ H hR hok.2 hl.2 (.inr (.inr trivial))
       refine ⟨ρ',g1,g2,?_,?_,by simp only [leavesB,g5,hl.1,Bool.and_self]⟩
       · simp only
         rw [denC_cons,denC_cons ρ x l,g3]
         have := denC_agree (l := [x]) g1 (by simp only [SV.okL]; exact ⟨hok.1,trivial⟩)
         rw [this]
       · simp only [SV.okL]
         exact ⟨ok_mono (by simp) x (ok_agree g1 x hok.1),g4⟩
theorem op_allocN (hE:EnvOk E) {o:Oper} {F:Fr} {H:Hp} {T:TypeId} {l:List SV} (ts:List TypeId) (ho:o.op = .alloc T) (hz:E.zeroOf T = some l) (hl:leavesB l = true) :
   OpGood0 E.P o F H (.ptr (H ++ (nilz E ts l H.length).2).length 0) (H ++ (nilz E ts l H.length).2 ++ [.cells (nilz E ts l H.length).1 T]) := by
 refine ⟨by simp,fun C ρ a w hF hR next Q hn => ?_⟩
 obtain ⟨i,z,h1,h2,h3,h4⟩ := zeroOf_spec E hE hz
 obtain ⟨ρ',g1,g2,g3,g4,g5⟩ := nilz_spec E ts l ρ H hR (h4 _ _ _ _) hl (.inr (.inr trivial))
 have hn' := hn _ _ (fun t ht => by rw [ext_lt t (by simp; omega),g1 t ht]) (g2.newCells _ T g4 g5) (by simp [SV.ok])
 rw [g3,h3 ρ] at hn'
 simp only [den,ext_self,Array.toArray_toList] at hn'
 unfold Oper.wp
 simp only [execOp,ho,Instr.alloc,zeroValue,typeInfo,newVar,newRow,Sem.run_bind,run_program,Result.andThen_ok,h1,h2,Sem.run_pure,run_newObj]
 exact hn'
theorem op_boxN {o:Oper} {F:Fr} {H:Hp} {T:TypeId} {x:Operand} {v:SV} (ts:List TypeId) (ho:o.op = .box T x) (hx:opd F x = some v) (hl:leavesB v.cells = true) :
   OpGood0 E.P o F H (.ptr (H ++ (nilz E ts v.cells H.length).2).length 0) (H ++ (nilz E ts v.cells H.length).2 ++ [.cells (nilz E ts v.cells H.length).1 T]) := by
 refine ⟨by simp,fun C ρ a w hF hR next Q hn => ?_⟩
 obtain ⟨h1,h2⟩ := opd_spec hF hx
 obtain ⟨h3,h4⟩ := cells_den ρ _ _ _ v h2 hR.hdr
 obtain ⟨ρ',g1,g2,g3,g4,g5⟩ := nilz_spec E ts v.cells ρ H hR h4 hl (.inr (.inr trivial))
 have hn' := hn _ _ (fun t ht => by rw [ext_lt t (by simp; omega),g1 t ht]) (g2.newCells _ T g4 g5) (by simp [SV.ok])
 rw [g3,← h3] at hn'
 simp only [den,ext_self,Array.toArray_toList] at hn'
 unfold Oper.wp
 simp only [execOp,ho,Instr.box,h1,newVar,newRow,Sem.run_bind,Result.andThen_ok,Sem.run_pure,run_newObj]
 exact hn'
theorem op_storeN {o:Oper} {F:Fr} {H H':Hp} {T:TypeId} {p x:Operand} {pv v v':SV} (ts:List TypeId) (ho:o.op = .store T p x) (hp:opd F p = some pv) (hx:opd F x = some v) (hl:leavesB v.cells = true)
   (hv:asV v (nilz E ts v.cells H.length).1 = some v') (hs:storeAt E (H ++ (nilz E ts v.cells H.length).2) T pv v' = some H') :
   OpGood0 E.P o F H (.raw undef) H' := by
 refine op_storeG E ho (by simp) (fun C ρ a w hF hR => ?_) hs
 obtain ⟨h1,h2⟩ := opd_spec hF hp
 obtain ⟨h3,h4⟩ := opd_spec hF hx
 obtain ⟨_,h5⟩ := cells_den ρ _ _ _ v h4 hR.hdr
 obtain ⟨ρ',g1,g2,g3,g4,g5⟩ := nilz_spec E ts v.cells ρ H hR h5 hl (.inr (.inr trivial))
 refine ⟨ρ',g1,g2,⟨by rw [h1,den_agree g1 pv h2],ok_mono (by simp) pv (ok_agree g1 pv h2)⟩,?_⟩
 unfold asV at hv
 split at hv
 · cases hv
   refine ⟨?_,by simp only [SV.ok]; exact g4⟩
   rw [h3]
   simp only [den]
   exact congrArg (fun l => Value.agg l.toArray) g3.symm
 · split at hv
   · rename_i hna _ t heq
     cases hv
     rw [heq] at g3 g4
     have hc:v.cells = [v] := by
       unfold SV.cells
       split
       · exact absurd rfl (hna _)
       · rfl
     rw [hc] at g3
     simp only [SV.okL] at g4
     refine ⟨?_,g4.1⟩
     rw [h3]
     have g3:cell1 (.sl t) (den ρ' (.sl t)) ++ [] = cell1 v (den ρ v) ++ [] := g3
     rw [List.append_nil,List.append_nil] at g3
     have hd:cell1 v (den ρ v) = [den ρ v] ∨ ∃ κ xs n,v = .arr κ xs n := by
       cases v <;> first | exact .inl rfl | exact .inr ⟨_,_,_,rfl⟩
     rcases hd with hd | ⟨κ,xs,n,rfl⟩
     · rw [hd] at g3
       exact (List.cons.inj g3).1.symm
     · exfalso
       rw [hc] at heq
       cases ts with
       | nil => simp [nilz] at heq
       | cons t ts => simp [nilz,nilAt,isArr] at heq
   · rename_i hna _ u heq
     cases hv
     rw [heq] at g3 g4
     have hc:v.cells = [v] := by
       unfold SV.cells
       split
       · exact absurd rfl (hna _)
       · rfl
     rw [hc] at g3
     simp only [SV.okL] at g4
     refine ⟨?_,g4.1⟩
     rw [h3]
     have g3:cell1 (.raw u) (den ρ' (.raw u)) ++ [] = cell1 v (den ρ v) ++ [] := g3
     rw [List.append_nil,List.append_nil] at g3
     have hd:cell1 v (den ρ v) = [den ρ v] ∨ ∃ κ xs n,v = .arr κ xs n := by
       cases v <;> first | exact .inl rfl | exact .inr ⟨_,_,_,rfl⟩
     rcases hd with hd | ⟨κ,xs,n,rfl⟩
     · rw [hd] at g3
       exact (List.cons.inj g3).1.symm
     · exfalso
       rw [hc] at heq
       cases ts with
       | nil => simp [nilz] at heq
       | cons t ts => simp [nilz,nilAt,isArr] at heq
   · cases hv
theorem op_nil {o:Oper} {F:Fr} {H:Hp} {e:TypeId} {κ:K} (ho:o.op = .move (.const (.slice none 0 0)) ∨ o.op = .assign (.const (.slice none 0 0))):OpGood0 E.P o F H (.sl H.length) (H ++ [.seq κ [] e]) := by
 refine ⟨by simp,fun C ρ a w hF hR next Q hn => ?_⟩
 have hn' := hn _ _ ext_lt (hR.newNil κ e) (by simp [SV.ok])
 simp only [den,ext_self] at hn'
 unfold Oper.wp
 have h1:a.eval (.const (.slice none 0 0)) = .slice none 0 0 := rfl
 rcases ho with ho | ho <;> simp only [execOp,ho,h1,Sem.run_pure] <;> exact hn'
theorem op_makeSlice {o:Oper} {F:Fr} {H:Hp} {T e:TypeId} {x y:Operand} {n:Int} {κ:K} {inf:TypeInfo} {z:List SV} {d:κ.T} (hE:EnvOk E) (ho:o.op = .makeSlice T x y) (hx:opd F x = some (.int .i64 n)) (hy:opd F y = some (.int .i64 n))
   (hT:E.P.underlying T = some (.slice e)) (hi:E.P.info? e = some inf) (hz:E.zeroOf e = some z) (hk:κ.sz = inf.size) (hd:κ.dec z = some d) (h0:0 ≤ n) (hb:(inf.bytes:Int) * n ≤ 281474976710656) (hm:n ≤ 4611686018427387903) :
   OpGood0 E.P o F H (.sl H.length) (H ++ [.seq κ (List.replicate n.toNat d) e]) := by
 refine ⟨by simp,fun C ρ a w hF hR next Q hn => ?_⟩
 obtain ⟨h1,_⟩ := opd_spec hF hx
 obtain ⟨h2,_⟩ := opd_spec hF hy
 obtain ⟨i,zv,g1,g2,g3,g4⟩ := zeroOf_spec E hE hz
 rw [hi] at g1
 cases g1
 obtain ⟨hc',hdo⟩ := dec_cells ρ H.length κ z d hd (g4 C.R C.w1 _ _)
 have hc:zv.cells.toList = κ.cells d := by rw [← g3 ρ]; exact hc'
 have hn' := hn _ _ ext_lt (hR.newSeq κ (List.replicate n.toNat d) e (fun x hx => by rw [List.eq_of_mem_replicate hx]; exact hdo) (by simp [maxLen]; omega)) (by simp [SV.ok])
 simp only [den,ext_self,List.length_replicate] at hn'
 have hrun := run_make (P := E.P) w T e inf zv hT hi g2 .i64 .i64 n n h0 (Int.le_refl _) hb (by omega)
 rw [rep_cells κ d zv.cells hc,hk] at hn'
 unfold Oper.wp
 simp only [execOp,ho,h1,h2,den,Sem.run_bind,hrun,Result.andThen_ok,Sem.run_pure]
 exact hn'
end
theorem run_append_at {P:Program} (w:World) (t ty e:TypeId) (i:TypeInfo) (z:Value) (ht:P.underlying t = some (.slice e)) (hi:P.info? e = some i) (hz:i.zero = some z)
   (hzs:z.cells.size = i.size) (hsz:0 < i.size) (v:Value) (n:Nat) (xs:List Value) (hown:w.ownsRow 0 e i.size v n xs)
   (a:Addr) (m c:Nat) (news:List Value) (hl:news.length = m * i.size) (hnews:∀ j u,news[j]? = some u → w.cell? (a.add j) = some u) (h1:∀ u ∈ news,u.oneCell' = true)
   (hm0:0 < m) (h63:n + m ≤ maxLen) (hbytes:(n + m) * i.bytes ≤ 140737488355328) :
   ∃ v' w',(Builtin.append_ #[t,t] ty #[v,.slice (some a) m c]).run P w = .ok v' w' ∧ w'.ownsRow 0 e i.size v' (n + m) (xs ++ news) ∧ w.grownBy w' v.ownBlock ∧
     (∃ a k c,v' = .slice a k c) ∧ ∀ b,v'.ownBlock = some b → v.ownBlock = some b ∨ b = w.heap.size := by
 have hsmall:n + m ≤ 9223372036854775807 := by simp only [maxLen] at h63; omega
 have hlen:(xs ++ news).length = (n + m) * i.size := by rw [List.length_append,hown.1,hl,Nat.add_mul]
 have grown:∀ (old:Nat),old < n + m → ∀ (row:Option Nat),
     (w.drew.alloc (.cells (xs.toArray ++ news.toArray ++ Builtin.zeroCells z.cells (grownCap w (n + m) old e - (n + m))) e)).ownsRow 0 e i.size
       (.slice (some ⟨w.heap.size,0,none⟩) (n + m) (grownCap w (n + m) old e)) (n + m) (xs ++ news) ∧
     w.grownBy (w.drew.alloc (.cells (xs.toArray ++ news.toArray ++ Builtin.zeroCells z.cells (grownCap w (n + m) old e - (n + m))) e)) row := by
   intro old ho row
   have hge := grownCap_ge w (n + m) old e
   have hcm:grownCap w (n + m) old e ≤ maxLen := grownCap_le_maxLen w (n + m) old e h63
   refine ⟨⟨hlen,.inr ⟨w.heap.size,_,_,rfl,Nat.zero_le _,heap_alloc_new w.drew _,hge,hcm,?_,?_⟩⟩,⟨rfl,rfl,rfl,by simp,fun k hk _ => heap_alloc_old w.drew _ hk⟩⟩
   · simp only [Array.size_append, List.size_toArray, size_zeroCells, hzs, hown.1, hl, ← Nat.add_mul]
     congr 1
     omega
   · simp only [Array.toList_append, List.append_assoc]
     rw [← List.append_assoc,← hlen]
     exact List.take_left
 rcases hown.2 with ⟨rfl,rfl⟩ | ⟨g,cap,cur,rfl,hbg,hg,hnc,hcm,hcs,htake⟩
 · have hx : xs = [] := List.eq_nil_of_length_eq_zero (by simpa using hown.1)
   subst hx
   have hr := run_append_nil (P := P) w t ty e i z ht hi hz a m c news hl hnews (by omega) (by omega) (by have hb := hbytes; simp only [Nat.zero_add] at hb; omega)
   have hgr := grown 0 (by omega) (Value.ownBlock (.slice none 0 0))
   simp only [Nat.zero_add,List.nil_append,Array.empty_append] at hgr ⊢
   exact ⟨_,_,hr,hgr.1,hgr.2,⟨_,_,_,rfl⟩,fun b hb => .inr (by simpa [Value.ownBlock] using hb.symm)⟩
 · by_cases hroom : n + m ≤ cap
   · have hfit : n * i.size + news.length ≤ cur.size := by rw [hl, hcs, ← Nat.add_mul]; exact Nat.mul_le_mul_right _ hroom
     have hr := run_append_room (P := P) w t ty e i ht hi g n cap cur hg a m c news hl hnews h1 hroom hfit
     refine ⟨_,_,hr,⟨hlen,.inr ⟨g,cap,_,rfl,hbg,setRow_heap w g cur _ e _ hg,hroom,hcm,?_,?_⟩⟩,⟨rfl,rfl,rfl,by simp,fun k _ hk => setRow_other w g k _ (fun e => hk (by simp [Value.ownBlock,e]))⟩,⟨_,_,_,rfl⟩,fun b hb => .inl hb⟩
     · simp only [List.size_toArray, List.length_append, List.length_take, List.length_drop, Array.length_toList]
       omega
     · rw [htake, ← hlen]
       exact List.take_left
   · have holds : ∀ j u, xs[j]? = some u → w.cell? ((⟨g, 0, none⟩ : Addr).add j) = some u := hown.cells (g := g) rfl
     have hr := run_append_grow (P := P) w t ty e i z ht hi hz ⟨g,0,none⟩ n cap xs hown.1 holds a m c news hl hnews (by omega) (by omega) (growslice_fits (by omega) hbytes)
     have hgr := grown cap (by omega) (Value.ownBlock (.slice (some ⟨g,0,none⟩) n cap))
     exact ⟨_,_,hr,hgr.1,hgr.2,⟨_,_,_,rfl⟩,fun b hb => .inr (by simpa [Value.ownBlock] using hb.symm)⟩
theorem run_append_zero {P:Program} (w:World) (t ty e:TypeId) (i:TypeInfo) (ht:P.underlying t = some (.slice e)) (hi:P.info? e = some i) (b:Option Addr) (n cap:Nat) (hn:n ≤ cap) (ao:Option Addr) (c:Nat) :
   (Builtin.append_ #[t,t] ty #[.slice b n cap,.slice ao 0 c]).run P w = .ok (.slice b n cap) w := by
 cases ao <;> cases b <;> simp [Builtin.append_,run_underlying ht,sizeOf,typeInfo,hi,Builtin.lenOf,Builtin.firstCells,loadCells,loadCellsFrom,hn,storeCells]
theorem Rel.grow {C:Cx} {ρ:Nat → Tk} {H:Hp} {w w':World} (h:Rel C ρ H w) {t:Nat} {κ:K} {xs ys:List κ.T} {e:TypeId} (ht:H[t]? = some (.seq κ xs e)) (hin:InOk C.R C.w1 κ ys) {v':Value}
   (hown:w'.ownsRow 0 e κ.sz v' ys.length (ys.flatMap κ.cells)) (hg:w.grownBy w' (ρ t).hdr.ownBlock) (hv:∃ a k c,v' = .slice a k c) (hb:∀ b,v'.ownBlock = some b → (ρ t).hdr.ownBlock = some b ∨ b = w.heap.size) :
   Rel C (ext ρ H.length ⟨(v'.ownBlock).getD 0,v'⟩) (H.set t .dead ++ [.seq κ ys e]) w' := by
 have hlt := (List.getElem?_eq_some_iff.1 ht).1
 have hlen:(H.set t .dead).length = H.length := List.length_set ..
 have hblk0:∀ b,(ρ t).hdr.ownBlock = some b → blkOf ρ H t = some b := fun b hb => by rw [blkOf_eq ht]; exact hb
 -- what stood there
 have hold:∀ s o,s < H.length → (H.set t .dead ++ [.seq κ ys e])[s]? = some o → (s = t ∧ o = .dead) ∨ (s ≠ t ∧ H[s]? = some o) := fun s o hs ho => by
   rw [List.getElem?_append_left (by rw [hlen]; exact hs)] at ho
   by_cases e:t = s
   · subst e
     rw [List.getElem?_set_self hlt] at ho
     cases ho; exact .inl ⟨rfl,rfl⟩
   · rw [List.getElem?_set_ne e] at ho
     exact .inr ⟨Ne.symm e,ho⟩
 have hnew : ∀ s o, ¬ s < H.length → (H.set t .dead ++ [.seq κ ys e])[s]? = some o → s = H.length ∧ o = .seq κ ys e := fun s o hs ho => by
   have hl := (List.getElem?_eq_some_iff.1 ho).1
   simp at hl
   have:s = H.length := by omega
   subst this
   rw [List.getElem?_append_right (by rw [hlen]; exact Nat.le_refl _),hlen] at ho
   simp at ho
   exact ⟨rfl,ho.symm⟩
 have hbk:∀ s b,blkOf (ext ρ H.length ⟨(v'.ownBlock).getD 0,v'⟩) (H.set t .dead ++ [.seq κ ys e]) s = some b →
     (s < H.length ∧ s ≠ t ∧ blkOf ρ H s = some b) ∨ (s = H.length ∧ v'.ownBlock = some b) := fun s b hb => by
   obtain ⟨o,ho,h2⟩ := blkOf_get hb
   by_cases hs:s < H.length
   · rcases hold s o hs ho with ⟨_, rfl⟩ | ⟨hne, ho'⟩
     · simp [objBlk] at h2
     · refine .inl ⟨hs, hne, ?_⟩
       rw [blkOf_eq ho',← h2,ext_lt s hs]
   · obtain ⟨rfl, rfl⟩ := hnew s o hs ho
     refine .inr ⟨rfl,?_⟩
     rw [ext_self] at h2
     exact h2
 refine ⟨?_,?_,?_,?_,?_,?_,?_,?_,?_,?_,h.fit⟩
 · intro s o ho
   by_cases hs:s < H.length
   · rcases hold s o hs ho with ⟨_, rfl⟩ | ⟨hne, ho'⟩
     · trivial
     · rw [ext_lt s hs]
       refine (h.obj s o ho').agree (C := C) (n := H.length) (h.ok s o ho') ext_lt fun b hb' => ?_
       have hb2:blkOf ρ H s = some b := by rw [blkOf_eq ho']; exact hb'
       refine hg.block b (blk_lt h hb2) fun hc => hne (h.sep s t b hb2 (hblk0 b hc.symm))
   · obtain ⟨rfl, rfl⟩ := hnew s o hs ho
     rw [ext_self]
     exact ⟨hown,fun b hb => by simp [hb]⟩
 · intro s s' b h1 h2
   rcases hbk s b h1 with ⟨g1,g2,g3⟩ | ⟨g1,g2⟩ <;> rcases hbk s' b h2 with ⟨g4,g5,g6⟩ | ⟨g4,g5⟩
   · exact h.sep s s' b g3 g6
   · rcases hb b g5 with hc | hc
     · exact absurd (h.sep s t b g3 (hblk0 b hc)) g2
     · have := blk_lt h g3; omega
   · rcases hb b g2 with hc | hc
     · exact absurd (h.sep s' t b g6 (hblk0 b hc)) g5
     · have := blk_lt h g6; omega
   · omega
 · intro s b h1
   rcases hbk s b h1 with ⟨_,_,g3⟩ | ⟨_,g2⟩
   · exact h.own s b g3
   · rcases hb b g2 with hc | hc
     · exact h.own t b (hblk0 b hc)
     · exact h.fit.new b (by rw [hc]; exact h.size)
 · intro s
   by_cases hs:s = H.length
   · subst hs; rw [ext_self]; exact hv
   · unfold ext; rw [if_neg hs]; exact h.hdr s
 · intro b h1 h2
   rw [hg.block b (Nat.lt_of_lt_of_le h1 h.size) fun hc => h2 (h.own t b (hblk0 b hc.symm))]
   exact h.keep b h1 h2
 · exact Nat.le_trans h.size hg.size
 · rw [hg.os]; exact h.os
 · rw [hg.tape]; exact h.tape
 · rw [hg.output]; exact h.output
 · intro s o ho
   rw [List.length_append,List.length_singleton,hlen]
   by_cases hs:s < H.length
   · rcases hold s o hs ho with ⟨_, rfl⟩ | ⟨_, ho'⟩
     · trivial
     · exact SObj.ok_mono (by omega) (SObj.ok_agree ext_lt (h.ok s o ho'))
   · obtain ⟨rfl, rfl⟩ := hnew s o hs ho
     exact hin
end
section
open Go Go.RowKit
def denP (ρ:Nat → Tk) (ps:List (Nat × SV)):List (Nat × Value) := ps.map fun x => (x.1,den ρ x.2)
theorem partsOf_spec {C:Cx} {ρ:Nat → Tk} {n:Nat} {F:Fr} {a:Act} (hF:FRel C ρ n F a.tmps):∀ {l:List (Nat × Operand)} {r:List (Nat × SV)},partsOf F l = some r →
   l.map (fun x => (x.1,a.eval x.2)) = denP ρ r ∧ ∀ x ∈ r,x.2.ok C.R C.w1 ρ n
 | [],r,h => by simp only [partsOf,Option.some.injEq] at h; subst h; simp [denP]
 | (i,x) :: l,r,h => by
   simp only [partsOf] at h
   split at h
   · rename_i p q hp hq
     cases h
     have h1 := opd_spec hF hp
     have h2 := partsOf_spec hF hq
     refine ⟨by simp only [List.map_cons,h2.1,denP,h1.1],?_⟩
     intro y hy
     rcases List.mem_cons.1 hy with rfl | hy
     · exact h1.2
     · exact h2.2 y hy
   · cases h
theorem fold_put (l v:List Value) (off:Nat) (h:off + v.length ≤ l.length) :
   v.toArray.zipIdx.foldl (fun cs (x:Value × Nat) => cs.setIfInBounds (off + x.2) x.1) l.toArray = (l.take off ++ v ++ l.drop (off + v.length)).toArray := by
 have h0 := Great.foldl_set off v 0 l.toArray
 rw [← Array.foldl_toList,Array.toList_zipIdx]
 apply Array.ext_getElem?
 intro k
 rw [h0.2 k]
 simp only [Nat.add_zero,List.size_toArray,List.getElem?_toArray,List.getElem?_append,List.getElem?_take,List.getElem?_drop,List.length_append,List.length_take]
 grind
theorem fillAt_spec (ρ:Nat → Tk) (R:Nat → Prop) (w1:World) (n:Nat) (hs:∀ t,∃ a m c,(ρ t).hdr = .slice a m c) (places:Nat → Option (Nat × Nat)):∀ (ps:List (Nat × SV)) (l l':List SV),SV.okL R w1 ρ n l → (∀ x ∈ ps,x.2.ok R w1 ρ n) → fillAt places l ps = some l' →
   Instr.fill places (denC ρ l).toArray (denP ρ ps) = some (denC ρ l').toArray ∧ SV.okL R w1 ρ n l'
 | [],l,l',ho,_,h => by simp only [fillAt,Option.some.injEq] at h; subst h; exact ⟨by simp [Instr.fill,denP],ho⟩
 | (i,v) :: rest,l,l',ho,hp,h => by
   simp only [fillAt] at h
   split at h
   · rename_i off size hpl
     split at h
     · rename_i hsz
       obtain ⟨m,hm,h⟩ := bindO_some h
       have hv := hp (i,v) (by simp)
       obtain ⟨c1,c2⟩ := cells_den ρ R w1 n v hv hs
       obtain ⟨p1,p2,p3,_⟩ := segPut_spec (ρ := ρ) ho c2 hm
       obtain ⟨q1,q2⟩ := fillAt_spec ρ R w1 n hs places rest m l' p3 (fun x hx => hp x (by simp [hx])) h
       refine ⟨?_,q2⟩
       have hlen:(denC ρ v.cells).length = size := by rw [segWidth_eq c2]; exact Nat.eq_of_beq_eq_true hsz
       have hcs:(den ρ v).cells = (denC ρ v.cells).toArray := Array.toList_inj.1 (by simpa using c1)
       simp only [denP,List.map_cons,Instr.fill,hpl]
       rw [if_neg (by rw [hcs]; simp; omega),hcs]
       have hf := fold_put (denC ρ l) (denC ρ v.cells) off p2
       rw [← p1] at hf
       rw [hf]
       exact q1
     · cases h
   · cases h
theorem decAll_spec (ρ:Nat → Tk) (R:Nat → Prop) (w1:World) (n:Nat) (hs:∀ t,∃ a m c,(ρ t).hdr = .slice a m c) (κ:K):∀ (ps:List (Nat × SV)) (i:Nat) (xs:List κ.T),decAll κ ps i = some xs → (∀ x ∈ ps,x.2.ok R w1 ρ n) →
   ∃ vs:List Value,denP ρ ps = (vs.zipIdx i).map (fun x => (x.2,x.1)) ∧ vs.length = ps.length ∧ xs.length = ps.length ∧ (∀ v ∈ vs,v.cells.size = κ.sz) ∧ (vs.flatMap fun v => v.cells.toList) = xs.flatMap κ.cells ∧ InOk R w1 κ xs
 | [],i,xs,h,_ => by simp only [decAll,Option.some.injEq] at h; subst h; exact ⟨[],by simp [denP,InOk]⟩
 | (j,v) :: l,i,xs,h,hp => by
   simp only [decAll] at h
   split at h
   · rename_i hij
     obtain ⟨x,hx,h⟩ := bindO_some h
     obtain ⟨ys,hy,h⟩ := bindO_some h
     cases h
     obtain ⟨vs,h1,h2,h3,h4,h5,h6⟩ := decAll_spec ρ R w1 n hs κ l (i + 1) ys hy (fun x hx => hp x (by simp [hx]))
     have hij' := Nat.eq_of_beq_eq_true hij
     obtain ⟨c1,c2⟩ := cells_den ρ R w1 n v (hp (j,v) (by simp)) hs
     obtain ⟨hd,hdo⟩ := dec_cells ρ n κ _ _ hx c2
     refine ⟨den ρ v :: vs,?_,by simp [h2],by simp [h3],?_,?_,fun z hz => by rcases List.mem_cons.1 hz with rfl | hz; exact hdo; exact h6 z hz⟩
     · simp only [denP, List.map_cons, List.zipIdx_cons, ← hij']
       simp only [denP] at h1
       rw [h1,hij']
     · intro u hu
       rcases List.mem_cons.1 hu with rfl | hu
       · rw [← Array.length_toList,c1,hd,K.cells_length]
       · exact h4 u hu
     · simp only [List.flatMap_cons,h5,c1,hd]
   · cases h
section
variable (E:Env)
theorem op_build (hE:EnvOk E) {o:Oper} {F:Fr} {H:Hp} {T:TypeId} {parts:Array (Nat × Operand)} {z l:List SV} {ps:List (Nat × SV)} (ho:o.op = .build T parts) (hz:E.zeroOf T = some z) (hp:partsOf F parts.toList = some ps)
   (h:(∃ fs places,E.P.underlying T = some (.struct fs) ∧ placesOf E fs.toList = some places ∧ fillAt (places[·]?) z ps = some l) ∨
     (∃ n e sz,E.P.underlying T = some (.array n e) ∧ E.size e = some sz ∧ fillAt (fun i => some (i * sz,sz)) z ps = some l)):OpGood0 E.P o F H (.agg l) H :=
 .val fun C ρ a w hF hR => by
   obtain ⟨i,zv,h1,h2,h3,h4⟩ := zeroOf_spec E hE hz
   obtain ⟨hp1,hp2⟩ := partsOf_spec hF hp
   have hzc:zv.cells = (denC ρ z).toArray := Array.toList_inj.1 (by simpa using (h3 ρ).symm)
   have hb : E.P.built T (parts.map fun (i, x) => (i, a.eval x)).toList = some (denC ρ l).toArray ∧ SV.okL C.R C.w1 ρ H.length l := by
     rw [Array.toList_map,show (List.map (fun (x:Nat × Operand) => match x with | (i,x) => (i,a.eval x)) parts.toList) = denP ρ ps from hp1]
     rcases h with ⟨fs,places,hT,hpl,hf⟩ | ⟨n,e,sz,hT,hsz,hf⟩
     · obtain ⟨g1, g2⟩ := fillAt_spec ρ C.R C.w1 H.length hR.hdr _ ps z l (h4 _ _ _ _) hp2 hf
       refine ⟨?_,g2⟩
       unfold placesOf at hpl
       simp only [Program.built,h1,hT,h2,hpl,hzc,List.getElem?_toArray]
       exact g1
     · obtain ⟨g1, g2⟩ := fillAt_spec ρ C.R C.w1 H.length hR.hdr _ ps z l (h4 _ _ _ _) hp2 hf
       refine ⟨?_,g2⟩
       unfold Env.size at hsz
       cases hie:E.P.info? e with
       | none => simp [hie] at hsz
       | some ie =>
         simp only [hie,Option.map_some,Option.some.injEq] at hsz
         subst hsz
         simp only [Program.built,h1,hT,h2,hie,hzc]
         exact g1
   refine ⟨?_,by simpa [SV.ok] using hb.2⟩
   simp only [execOp,ho,Sem.run_bind,run_build w T _ _ hb.1,Result.andThen_ok,Sem.run_pure,den]
theorem op_buildSlice {o:Oper} {F:Fr} {H:Hp} {T e:TypeId} {len sz:Nat} {parts:Array (Nat × Operand)} {κ:K} {xs:List κ.T} {ps:List (Nat × SV)} (ho:o.op = .buildSlice T len parts) (hT:E.P.underlying T = some (.slice e))
   (hsz:E.size e = some sz) (hp:partsOf F parts.toList = some ps) (hκ:κ.sz = sz) (hlen:ps.length = len) (hsmall:len * sz ≤ 16777216) (hx:decAll κ ps 0 = some xs) (hz:∃ i z,E.P.info? e = some i ∧ i.zero = some z ∧ z.cells.size = i.size) :
   OpGood0 E.P o F H (.sl H.length) (H ++ [.seq κ xs e]) := by
 refine ⟨by simp,fun C ρ a w hF hR next Q hn => ?_⟩
 obtain ⟨hp1,hp2⟩ := partsOf_spec hF hp
 obtain ⟨vs,g1,g2,g3,g4,g5,g6⟩ := decAll_spec ρ C.R C.w1 H.length hR.hdr κ ps 0 xs hx hp2
 obtain ⟨i,z,hi,hz,hzs⟩ := hz
 have hxl:xs.length = len := by omega
 have hn' := hn _ _ ext_lt (hR.newSeq κ xs e g6 (by unfold maxLen; have := K.sz_pos κ; have:len ≤ len * sz := Nat.le_mul_of_pos_right _ (by omega); omega)) (by simp [SV.ok])
 simp only [den,ext_self,hxl] at hn'
 have hisz:i.size = sz := by simpa [Env.size,hi] using hsz
 unfold Oper.wp
 have hparts : (parts.map fun (i, x) => (i, a.eval x)).toList = (vs.zipIdx 0).map (fun x => (x.2, x.1)) := by
   rw [Array.toList_map,← g1]; exact hp1
 have hrun:(Instr.buildSlice T len (parts.map fun (i,x) => (i,a.eval x))).run E.P w = .ok (.slice (some ⟨w.heap.size,0,none⟩) len len) (w.alloc (.cells (xs.flatMap κ.cells).toArray e)) := by
   by_cases h0:len = 0
   · subst h0
     have hv:vs = [] := List.eq_nil_of_length_eq_zero (by omega)
     have hxs:xs = [] := List.eq_nil_of_length_eq_zero (by omega)
     have hps:ps = [] := List.eq_nil_of_length_eq_zero hlen
     subst hv; subst hxs; subst hps
     have hp0:parts.toList.map (fun x => (x.1,a.eval x.2)) = [] := by rw [hp1]; rfl
     have har:∀ f:Nat → Value,Array.map f (Array.range 0) = #[] := fun f => by simp [Array.range]
     simp [Instr.buildSlice,run_underlying hT,sizeOf,typeInfo,hi,hp0,Instr.fill,newRow,har]
   · refine run_buildSlice w T e len _ _ i z hT hi hz (by rw [hisz]; omega) ?_ ?_
     · rw [hisz,← hκ]; have := K.sz_pos κ; intro hc; rcases Nat.mul_eq_zero.1 hc with h | h <;> omega
     · rw [hparts, ← g5, hisz, ← hκ]
       exact Great.fill_whole (K.sz_pos κ) vs _ g4 (by simp; rw [g2,hlen])
 simp only [execOp,ho,Sem.run_bind,hrun,Result.andThen_ok,Sem.run_pure]
 exact hn'
def Agree (o:Oper) (F F':Fr):Prop := ∀ x ∈ o.op.operands.toList,opd F' x = opd F x
theorem Agree.opd {o:Oper} {F F':Fr} (h:Agree o F F') {x:Operand} {v:SV} (hx:x ∈ o.op.operands.toList) (hv:opd F x = some v):opd F' x = some v := (h x hx).trans hv
theorem Agree.ivO {o:Oper} {F F':Fr} (h:Agree o F F') {x:Option Operand} {r:Option Int} (hx:∀ y,x = some y → y ∈ o.op.operands.toList) (hv:ivO F x = some r):ivO F' x = some r := by
 cases x with
 | none => exact hv
 | some y => unfold Sx.ivO at hv ⊢; simp only [h y (hx y rfl)]; exact hv
theorem Agree.opds {o:Oper} {F F':Fr} (h:Agree o F F'):∀ {l:List Operand} {r:List SV},(∀ x ∈ l,x ∈ o.op.operands.toList) → opds F l = some r → opds F' l = some r
 | [],r,_,hr => hr
 | x :: l,r,hl,hr => by
   simp only [Sx.opds] at hr ⊢
   split at hr
   · rename_i p q hp hq
     rw [h.opd (hl x (by simp)) hp,Agree.opds h (fun y hy => hl y (by simp [hy])) hq]; exact hr
   · cases hr
theorem Agree.parts' {o:Oper} {F F':Fr} (h:Agree o F F'):∀ {l:List (Nat × Operand)} {r:List (Nat × SV)},(∀ x ∈ l,x.2 ∈ o.op.operands.toList) → partsOf F l = some r → partsOf F' l = some r
 | [],r,_,hr => hr
 | (i,x) :: l,r,hl,hr => by
   simp only [partsOf] at hr ⊢
   split at hr
   · rename_i p q hp hq
     rw [h.opd (hl (i,x) (by simp)) hp,Agree.parts' h (fun y hy => hl y (by simp [hy])) hq]; exact hr
   · cases hr
theorem Agree.parts {o:Oper} {F F':Fr} (h:Agree o F F') {parts:Array (Nat × Operand)} {r:List (Nat × SV)} (ho:o.op.operands = (parts.toList.map (·.2)).toArray) (hr:partsOf F parts.toList = some r):partsOf F' parts.toList = some r :=
 h.parts' (fun x hx => by rw [ho]; simp; exact ⟨x.1,by simpa using hx⟩) hr
theorem Agree.refl (o:Oper) (F:Fr):Agree o F F := fun _ _ => rfl
theorem run_three (name:String) (P:Program) (w:World) (k1 k2 k3:IntKind) (x y c:Int) (hc:¬ c.toNat > 1) :
   (Extern.MathBitsCarry.three name #[.int k1 x,.int k2 y,.int k3 c]).run P w = .ok (x.toNat,y.toNat,c.toNat) w := by
 change Sem.run P (do
   let c' := (← asInt (Value.int k3 c)).toNat
   if c' > 1 then unsupported (.noEntry ("extern/math/bits." ++ name ++ ": a carry that is neither 0 nor 1"))
   pure ((← asInt (Value.int k1 x)).toNat,(← asInt (Value.int k2 y)).toNat,c')) w = _
 simp only [asInt,asIntOf,Sem.run_bind,Sem.run_pure,Result.andThen_ok,Sem.run_ite,if_neg hc]
theorem run_add64 {e : Array Value → Sem Value} (he : e = fun args => do let (x, y, c) ← Extern.MathBitsCarry.three "Add64" args; pure (Extern.MathBitsCarry.pair ((x + y + c) % Extern.MathBitsCarry.m64) ((x + y + c) / Extern.MathBitsCarry.m64)))
   (P:Program) (w:World) (k1 k2 k3:IntKind) (x y c:Int) (hc:¬ c.toNat > 1) :
   (e #[.int k1 x,.int k2 y,.int k3 c]).run P w = .ok (.tuple #[.int .u64 (Int.ofNat ((x.toNat + y.toNat + c.toNat) % pow64)),.int .u64 (Int.ofNat ((x.toNat + y.toNat + c.toNat) / pow64))]) w := by
 subst he
 simp only [Sem.run_bind, run_three "Add64" P w k1 k2 k3 x y c hc, Sem.run_pure, Result.andThen_ok, Extern.MathBitsCarry.pair]
 rfl
theorem run_sub64 {e : Array Value → Sem Value} (he : e = fun args => do let (x, y, b) ← Extern.MathBitsCarry.three "Sub64" args; pure (Extern.MathBitsCarry.pair ((x + Extern.MathBitsCarry.m64 - y - b) % Extern.MathBitsCarry.m64) (if x < y + b then 1 else 0)))
   (P:Program) (w:World) (k1 k2 k3:IntKind) (x y c:Int) (hc:¬ c.toNat > 1) :
   (e #[.int k1 x,.int k2 y,.int k3 c]).run P w = .ok (.tuple #[.int .u64 (Int.ofNat ((x.toNat + pow64 - y.toNat - c.toNat) % pow64)),.int .u64 (Int.ofNat (if x.toNat < y.toNat + c.toNat then 1 else 0))]) w := by
 subst he
 simp only [Sem.run_bind, run_three "Sub64" P w k1 k2 k3 x y c hc, Sem.run_pure, Result.andThen_ok, Extern.MathBitsCarry.pair]
 rfl
theorem eval_args {ρ:Nat → Tk} {a:Act} {args:Array Operand} {r:List SV} (h:args.toList.map a.eval = denL ρ r):args.map a.eval = (denL ρ r).toArray := by
 rw [← h]; exact Array.toList_inj.1 (by simp)
theorem readSeq_spec {κ:K} {b:SV} {H:Hp} {ex:List Nat} {ys:List κ.T} (h:readSeq κ b H = some (ex,ys)) {C:Cx} {ρ:Nat → Tk} {w:World} (hR:Rel C ρ H w) (hok:b.ok C.R C.w1 ρ H.length) :
   (∃ ao c,den ρ b = .slice ao ys.length c ∧ (0 < ys.length → ∃ ad,ao = some ad ∧ ∀ j u,(ys.flatMap κ.cells)[j]? = some u → w.cell? (ad.add j) = some u)) ∧ InOk C.R C.w1 κ ys := by
 have ros:∀ (R:Nat → Prop) (w1:World) (v:Value) (zs:List κ.T),RosOk0 R w1 v κ zs → (∀ b,R b → w.heap[b]? = w1.heap[b]?) → ∃ ao c,v = .slice ao zs.length c ∧ (0 < zs.length → ∃ ad,ao = some ad ∧ ∀ j u,(zs.flatMap κ.cells)[j]? = some u → w.cell? (ad.add j) = some u) := by
   intro R w1 v zs hr hk
   rcases hr with ⟨e0,a,c,e1⟩ | ⟨ad,cap,e1,_,hsp,hRb,hc⟩
   · exact ⟨a,c,by rw [e1,e0]; rfl,fun h => by rw [e0] at h; simp at h⟩
   · refine ⟨some ad, cap, e1, fun _ => ⟨ad, rfl, fun j u hj => ?_⟩⟩
     have h1 := hc j u hj
     obtain ⟨ab,ao,asp⟩ := ad
     simp only at hsp hRb h1
     subst hsp
     rw [add_lit,World.cell?_of_block (a := ⟨ab,ao + j,none⟩) (hk ab hRb)]
     exact h1
 have own : ∀ (t : Nat) (zs : List κ.T) (T : TypeId), H[t]? = some (.seq κ zs T) → RosOk0 (fun _ => True) w (ρ t).hdr κ zs := by
   intro t zs T ht
   have hob := hR.obj t _ ht
   rcases hob.1.2 with ⟨e1,e0⟩ | ⟨gb,cap,cur,e1,_,hg2,hnc,_,_,htake⟩
   · exact .inl ⟨List.eq_nil_of_length_eq_zero e0,_,_,e1⟩
   · refine .inr ⟨_, cap, e1, hnc, rfl, trivial, fun j c hj => ?_⟩
     rw [← htake,List.getElem?_take] at hj
     split at hj
     · rw [cell_of_row w _ _ _ _ _ hg2]; simpa using hj
     · cases hj
 unfold readSeq at h
 split at h
 · split at h
   · rename_i he; subst he; cases h
     exact ⟨ros _ _ _ _ hok.1 fun b hb => hR.keep b (hR.fit.ro b hb).1 (hR.fit.ro b hb).2,hok.2⟩
   · cases h
 · split at h
   · rename_i t _ κ' xs' T ht
     split at h
     · rename_i he; subst he; cases h
       exact ⟨ros _ _ _ _ (own t _ _ ht) fun _ _ => rfl,hR.ok t _ ht⟩
     · cases h
   · cases h
 · split at h
   · rename_i t κ' lo n hk
     split at h
     · rename_i κ2 xs' T ht
       split at h
       · rename_i he; subst he; cases h
         have hr := own t _ _ ht
         simp only [SV.ok] at hok
         obtain ⟨_,a,k,c,e1,hle⟩ := hok
         have hk3:k = xs'.length := by
           rcases hr with ⟨e0,a2,c2,e2⟩ | ⟨ad,c2,e2,_⟩
           · rw [e2] at e1; cases e1; rw [e0]; rfl
           · rw [e2] at e1; cases e1; rfl
         simp only [den]
         rw [hk]
         exact ⟨ros _ _ _ _ (ros_win0 hr (by omega)) fun _ _ => rfl,(InOk.drop (hR.ok t _ ht) _).take _⟩
       · cases h
     · cases h
   · cases h
 · cases h; exact ⟨⟨none,0,rfl,fun h => by simp at h⟩,fun x hx => by cases hx⟩
 · cases h
theorem flat_one (κ:K) (ys:List κ.T):∀ u ∈ ys.flatMap κ.cells,u.oneCell' = true := by
 intro u hu
 obtain ⟨y,_,hy⟩ := List.mem_flatMap.1 hu
 exact K.cells_one κ y u hy
theorem op_append_nil {o:Oper} {F:Fr} {H:Hp} {c:Call} {t e:TypeId} {b:SV} {κ:K} {ys:List κ.T} {ex:List Nat} {inf:TypeInfo} {zv:Value} (ho:o.op = .call c) (hc:c.callee = .builtin .append) (hat:c.argTypes = #[t,t])
   (ha:opds F c.args.toList = some [.raw (.slice none 0 0),b]) (hT':E.P.underlying t = some (.slice e)) (hi:E.P.info? e = some inf) (hz:inf.zero = some zv) (hzs:zv.cells.size = inf.size)
   (hk:κ.sz = inf.size) (hby:1 ≤ inf.bytes) (hr:readSeq κ b H = some (ex,ys)) (hb:ys.length * inf.bytes ≤ 140737488355328):OpGood0 E.P o F H (.sl H.length) (H ++ [.seq κ ys e]) := by
 refine ⟨by simp,fun C ρ a w hF hR next Q hn => ?_⟩
 obtain ⟨h3,h4⟩ := opds_spec hF ha
 simp only [denL,den] at h3
 obtain ⟨⟨ao,cc,e1,e2⟩,hys⟩ := readSeq_spec hr hR h4.2.1
 rw [e1] at h3
 have h3':c.args.map a.eval = #[.slice none 0 0,.slice ao ys.length cc] := Array.toList_inj.1 (by simpa using h3)
 have hle:ys.length ≤ ys.length * inf.bytes := Nat.le_mul_of_pos_right _ (by omega)
 by_cases h0:0 < ys.length
 · obtain ⟨ad, rfl, e3⟩ := e2 h0
   obtain ⟨v',w',r1,r2,r3,r4,r5⟩ := run_append_at (P := E.P) w t o.type e inf zv hT' hi hz hzs (by rw [← hk]; exact K.sz_pos κ) _ 0 [] (World.ownsRow_nil w 0 e inf.size) ad ys.length cc (ys.flatMap κ.cells)
     (by rw [cells_flat_length,hk]) e3 (flat_one κ ys) h0 (by unfold maxLen; omega) (by rw [Nat.zero_add]; exact hb)
   simp only [Nat.zero_add,List.nil_append] at r2
   rw [← hk] at r2
   have hR':Rel C (ext ρ H.length ⟨(v'.ownBlock).getD 0,v'⟩) (H ++ [.seq κ ys e]) w' := by
     refine hR.push (.seq κ ys e) _ (fun b hb => r3.block b hb (by simp [Value.ownBlock])) r3.size r3.os r3.tape r3.output ?_ ?_ hys r4
     · exact ⟨r2,fun b hb => by simp [hb]⟩
     · intro b hb
       rcases r5 b hb with h | h
       · simp [Value.ownBlock] at h
       · omega
   have hn' := hn _ _ ext_lt hR' (by simp [SV.ok])
   simp only [den,ext_self] at hn'
   unfold Oper.wp
   simp only [execOp,ho,resolve,hc,hat,Sem.run_bind,Sem.run_pure,Result.andThen_ok,invoke,builtin,h3',r1]
   exact hn'
 · have hy : ys = [] := List.eq_nil_of_length_eq_zero (by omega)
   subst hy
   have r1 := run_append_zero (P := E.P) w t o.type e inf hT' hi none 0 0 (Nat.le_refl _) ao cc
   have hn' := hn _ _ ext_lt (hR.newNil κ e) (by simp [SV.ok])
   simp only [den,ext_self] at hn'
   unfold Oper.wp
   simp only [List.length_nil] at h3'
   simp only [execOp,ho,resolve,hc,hat,Sem.run_bind,Sem.run_pure,Result.andThen_ok,invoke,builtin,h3',r1]
   exact hn'
theorem op_append_own {o:Oper} {F:Fr} {H:Hp} {c:Call} {t e:TypeId} {b:SV} {ts:Nat} {κ:K} {xs ys:List κ.T} {ex:List Nat} {inf:TypeInfo} {zv:Value} (ho:o.op = .call c) (hc:c.callee = .builtin .append) (hat:c.argTypes = #[t,t])
   (ha:opds F c.args.toList = some [.sl ts,b]) (hT':E.P.underlying t = some (.slice e)) (hi:E.P.info? e = some inf) (hz:inf.zero = some zv) (hzs:zv.cells.size = inf.size)
   (hk:κ.sz = inf.size) (hby:1 ≤ inf.bytes) (ht:H[ts]? = some (.seq κ xs e)) (hr:readSeq κ b H = some (ex,ys)) (hb:(xs.length + ys.length) * inf.bytes ≤ 140737488355328) :
   OpGood0 E.P o F H (.sl H.length) (H.set ts .dead ++ [.seq κ (xs ++ ys) e]) := by
 refine ⟨by simp,fun C ρ a w hF hR next Q hn => ?_⟩
 obtain ⟨h3,h4⟩ := opds_spec hF ha
 simp only [denL,den] at h3
 obtain ⟨⟨ao,cc,e1,e2⟩,hys⟩ := readSeq_spec hr hR h4.2.1
 rw [e1] at h3
 have h3':c.args.map a.eval = #[(ρ ts).hdr,.slice ao ys.length cc] := Array.toList_inj.1 (by simpa using h3)
 have hle:xs.length + ys.length ≤ (xs.length + ys.length) * inf.bytes := Nat.le_mul_of_pos_right _ (by omega)
 have hob := hR.obj ts _ ht
 by_cases h0:0 < ys.length
 · obtain ⟨ad, rfl, e3⟩ := e2 h0
   have hown := hob.1
   rw [hk] at hown
   obtain ⟨v',w',r1,r2,r3,r4,r5⟩ := run_append_at (P := E.P) w t o.type e inf zv hT' hi hz hzs (by rw [← hk]; exact K.sz_pos κ) _ xs.length (xs.flatMap κ.cells) hown ad ys.length cc (ys.flatMap κ.cells)
     (by rw [cells_flat_length,hk]) e3 (flat_one κ ys) h0 (by unfold maxLen; omega) hb
   rw [← hk,← List.flatMap_append,← List.length_append] at r2
   have hR' := hR.grow ht (InOk.append (hR.ok ts _ ht) hys) r2 r3 r4 r5
   have hn' := hn _ _ ext_lt hR' (by simp [SV.ok])
   simp only [den,ext_self] at hn'
   unfold Oper.wp
   simp only [execOp,ho,resolve,hc,hat,Sem.run_bind,Sem.run_pure,Result.andThen_ok,invoke,builtin,h3',r1]
   exact hn'
 · have hy : ys = [] := List.eq_nil_of_length_eq_zero (by omega)
   subst hy
   obtain ⟨b1,n1,c1,he,hle1⟩:∃ b1 n1 c1,(ρ ts).hdr = .slice b1 n1 c1 ∧ n1 ≤ c1 := by
     rcases hob.1.2 with ⟨e1,_⟩ | ⟨gb,cap,cur,e1,_,_,hnc,_⟩
     · exact ⟨_,_,_,e1,Nat.le_refl _⟩
     · exact ⟨_,_,_,e1,hnc⟩
   have r1 := run_append_zero (P := E.P) w t o.type e inf hT' hi b1 n1 c1 hle1 ao cc
   have hR' := hR.grow (w' := w) (ys := xs ++ []) ht (InOk.append (hR.ok ts _ ht) hys) (v' := (ρ ts).hdr) (by rw [List.append_nil]; exact hob.1) ⟨rfl,rfl,rfl,Nat.le_refl _,fun _ _ _ => rfl⟩ ⟨_,_,_,he⟩ (fun b hb => .inl hb)
   have hn' := hn _ _ ext_lt hR' (by simp [SV.ok])
   simp only [den,ext_self] at hn'
   rw [he] at hn' h3'
   simp only [List.length_nil] at h3'
   unfold Oper.wp
   simp only [execOp,ho,resolve,hc,hat,Sem.run_bind,Sem.run_pure,Result.andThen_ok,invoke,builtin,h3',r1]
   exact hn'
theorem op_copy {o:Oper} {F:Fr} {H:Hp} {c:Call} {t e:TypeId} {b:SV} {ts sz:Nat} {κ:K} {xs ys:List κ.T} {ex:List Nat} (ho:o.op = .call c) (hc:c.callee = .builtin .copy) (hat:c.argTypes[0]? = some t)
   (ha:opds F c.args.toList = some [.sl ts,b]) (hT:E.P.underlying t = some (.slice e)) (hsz:E.size e = some sz) (hk:κ.sz = sz) (ht:H[ts]? = some (.seq κ xs e)) (hr:readSeq κ b H = some (ex,ys)) (hl:xs.length = ys.length) :
   OpGood0 E.P o F H (.int .i64 (xs.length:Int)) (H.set ts (.seq κ ys e)) := by
 refine ⟨by simp,fun C ρ a w hF hR next Q hn => ?_⟩
 obtain ⟨h3,h4⟩ := opds_spec hF ha
 simp only [denL,den] at h3
 obtain ⟨⟨ao,cc,e1,e2⟩,hys⟩ := readSeq_spec hr hR h4.2.1
 rw [e1] at h3
 have h3':c.args.map a.eval = #[(ρ ts).hdr,.slice ao ys.length cc] := Array.toList_inj.1 (by simpa using h3)
 have hob := hR.obj ts _ ht
 have hlt := (List.getElem?_eq_some_iff.1 ht).1
 by_cases h0:0 < ys.length
 · obtain ⟨ad, rfl, e3⟩ := e2 h0
   rcases hob.1.2 with ⟨_,e0⟩ | ⟨g,cap,cur,ev,hbg,hg,hnc,hcm,hcs,htake⟩
   · omega
   · have hgb : g = (ρ ts).blk := hob.2 g (by rw [ev]; rfl)
     have hlen:(ys.flatMap κ.cells).length = ys.length * κ.sz := cells_flat_length κ ys
     have hle:ys.length * κ.sz ≤ cap * κ.sz := Nat.mul_le_mul_right _ (by omega)
     have hfc := run_firstCells_some (P := E.P) w κ.sz ys.length ad ys.length cc (ys.flatMap κ.cells) hlen e3
     have hst := run_storeCells_at E.P g 0 e (ys.flatMap κ.cells) 0 cur w hg (by rw [hcs,hlen]; omega) (flat_one κ ys)
     simp only [Nat.add_zero,Nat.zero_add,List.take_zero,List.nil_append] at hst
     have hR':Rel C ρ (H.set ts (.seq κ ys e)) (w.setRow g ((ys.flatMap κ.cells) ++ cur.toList.drop (ys.flatMap κ.cells).length).toArray) := by
       refine hR.setObj ht (by rw [blkOf_eq ht]; show (ρ ts).hdr.ownBlock = _; rw [ev,← hgb]; rfl) (by rw [← hgb]; exact setRow_block w _ _) (by simp) rfl rfl rfl ?_ ?_ hys
       · refine ⟨⟨hlen, .inr ⟨g, cap, _, ?_, Nat.zero_le _, setRow_heap w g cur _ e _ hg, by omega, hcm, ?_, ?_⟩⟩, hob.2⟩
         · rw [ev,hl]
         · simp only [List.size_toArray, List.length_append, List.length_drop, Array.length_toList, hlen, hcs]
           omega
         · show ((ys.flatMap κ.cells) ++ _).take (ys.length * κ.sz) = _
           rw [← hlen]
           exact List.take_left
       · have hk2 : (H.set ts (.seq κ ys e))[ts]? = some (.seq κ ys e) := List.getElem?_set_self hlt
         rw [blkOf_eq hk2]
         show (ρ ts).hdr.ownBlock = _
         rw [ev,← hgb]; rfl
     have hn' := hn ρ _ (fun _ _ => rfl) hR' (by simp [SV.ok])
     have r1:(Builtin.copy_ c.argTypes o.type #[(ρ ts).hdr,.slice (some ad) ys.length cc]).run E.P w = .ok (.int .i64 (xs.length:Int)) (w.setRow g ((ys.flatMap κ.cells) ++ cur.toList.drop (ys.flatMap κ.cells).length).toArray) := by
       rw [ev,hl]
       simp [Builtin.copy_,hat,run_underlying hT,Builtin.lenOf,run_sizeOf E hsz,← hk,hfc,hst,goInt]
     simp only [den] at hn'
     unfold Oper.wp
     simp only [execOp,ho,resolve,hc,Sem.run_bind,Sem.run_pure,Result.andThen_ok,invoke,builtin,h3',r1]
     exact hn'
 · have hy : ys = [] := List.eq_nil_of_length_eq_zero (by omega)
   subst hy
   have hx:xs = [] := List.eq_nil_of_length_eq_zero (by rw [hl]; rfl)
   subst hx
   have hset:H.set ts (.seq κ [] e) = H := by
     refine List.ext_getElem? fun j => ?_
     by_cases hj:ts = j
     · subst hj; rw [List.getElem?_set_self hlt,ht]
     · rw [List.getElem?_set_ne hj]
   rw [hset] at hn
   obtain ⟨b1,n1,c1,he,hn0⟩:∃ b1 n1 c1,(ρ ts).hdr = .slice b1 n1 c1 ∧ n1 = 0 := by
     rcases hob.1.2 with ⟨e1,_⟩ | ⟨gb,cap,cur,e1,_,_,hnc,_⟩
     · exact ⟨_,_,_,e1,rfl⟩
     · exact ⟨_,_,_,e1,rfl⟩
   subst hn0
   have hn' := hn ρ w (fun _ _ => rfl) hR (by simp [SV.ok])
   have r1:(Builtin.copy_ c.argTypes o.type #[(ρ ts).hdr,.slice ao 0 cc]).run E.P w = .ok (.int .i64 0) w := by
     rw [he]
     cases ao <;> cases b1 <;> simp [Builtin.copy_,hat,run_underlying hT,Builtin.lenOf,run_sizeOf E hsz,Builtin.firstCells,loadCells,loadCellsFrom,storeCells,goInt]
   simp only [den,List.length_nil] at hn'
   simp only [List.length_nil] at h3'
   unfold Oper.wp
   simp only [execOp,ho,resolve,hc,Sem.run_bind,Sem.run_pure,Result.andThen_ok,invoke,builtin,h3',r1]
   exact hn'
theorem nilKind_some {x:Operand} {T:TypeId} {r:TypeId × K} (h:nilKind E x T = some r):x = .const (.slice none 0 0) := by
 unfold nilKind at h
 split at h
 · rfl
 · cases h
theorem notNil {F:Fr} {ts:Nat} {y:List SV} {l:List Operand} (ha:opds F l = some (.sl ts :: y)):noNilHead l = true := by
 unfold noNilHead
 split
 · rename_i l'
   have e:opd F (.const (.slice none 0 0)) = some (.raw (.slice none 0 0)) := rfl
   simp only [opds,e] at ha
   cases hl:opds F l' with
   | none => rw [hl] at ha; simp at ha
   | some z => rw [hl] at ha; simp at ha
 · rfl
theorem opS_sound0 (hE:EnvOk E) {α:Type} {callf:CallF α} (hcall:CallOk E.P callf) (o:Oper) (F:Fr) (H:Hp) (K:SV → Hp → Option α) (r:α) (h:opS E callf o F H K = some r) :
   ∃ v H',K v H' = some r ∧ (isWr o = false → ∃ l,H' = H ++ l) ∧ ∀ F',Agree o F F' → OpGood0 E.P o F' H v H' := by
 unfold opS at h
 split at h
 · rename_i x ho
   split at h
   · rename_i e κ hnk
     exact ⟨_,_,h,fun _ => ⟨_,rfl⟩,fun F' _ => op_nil E (.inl (by rw [ho,nilKind_some E hnk]))⟩
   · obtain ⟨v, hv, h⟩ := bindO_some h
     exact ⟨v,H,h,fun _ => ⟨[],by simp⟩,fun F' hA => op_move E (.inl ho) (hA.opd (by simp [ho,Op.operands]) hv)⟩
 · rename_i x ho
   split at h
   · rename_i e κ hnk
     exact ⟨_,_,h,fun _ => ⟨_,rfl⟩,fun F' _ => op_nil E (.inr (by rw [ho,nilKind_some E hnk]))⟩
   · obtain ⟨v, hv, h⟩ := bindO_some h
     exact ⟨v,H,h,fun _ => ⟨[],by simp⟩,fun F' hA => op_move E (.inr ho) (hA.opd (by simp [ho,Op.operands]) hv)⟩
 · rename_i c x y ho
   split at h
   · rename_i b u v hc hx hy
     refine ⟨if b then u else v,H,?_,fun _ => ⟨[],by simp⟩,fun F' hA => op_pick E ho (hA.opd (by simp [ho,Op.operands]) hc) (hA.opd (by simp [ho,Op.operands]) hx) (hA.opd (by simp [ho,Op.operands]) hy)⟩
     cases b <;> simpa using h
   · cases h
 · rename_i T ho
   obtain ⟨l,hl,h⟩ := bindO_some h
   split at h
   · rename_i hb
     split at h
     · obtain ⟨ts, _, h⟩ := bindO_some h
       exact ⟨_,_,h,fun _ => ⟨_,List.append_assoc ..⟩,fun F' _ => op_allocN E hE ts ho hl hb⟩
     · exact ⟨_,_,h,fun _ => ⟨_,rfl⟩,fun F' _ => op_alloc E hE ho hl hb⟩
   · cases h
 · rename_i T x ho
   obtain ⟨v,hv,h⟩ := bindO_some h
   split at h
   · rename_i hb
     split at h
     · obtain ⟨ts, _, h⟩ := bindO_some h
       exact ⟨_,_,h,fun _ => ⟨_,List.append_assoc ..⟩,fun F' hA => op_boxN E ts ho (hA.opd (by simp [ho,Op.operands]) hv) hb⟩
     · exact ⟨_,_,h,fun _ => ⟨_,rfl⟩,fun F' hA => op_box E ho (hA.opd (by simp [ho,Op.operands]) hv) hb⟩
   · cases h
 · rename_i T parts ho
   obtain ⟨z,hz,h⟩ := bindO_some h
   obtain ⟨ps,hp,h⟩ := bindO_some h
   split at h
   · rename_i fs hT
     obtain ⟨pl,hpl,h⟩ := bindO_some h
     obtain ⟨l,hl,h⟩ := bindO_some h
     exact ⟨_,_,h,fun _ => ⟨[],by simp⟩,fun F' hA => op_build E hE ho hz (hA.parts (by simp [ho,Op.operands]) hp) (.inl ⟨fs,pl,hT,hpl,hl⟩)⟩
   · rename_i n e hT
     obtain ⟨sz,hsz,h⟩ := bindO_some h
     obtain ⟨l,hl,h⟩ := bindO_some h
     exact ⟨_,_,h,fun _ => ⟨[],by simp⟩,fun F' hA => op_build E hE ho hz (hA.parts (by simp [ho,Op.operands]) hp) (.inr ⟨n,e,sz,hT,hsz,hl⟩)⟩
   · cases h
 · rename_i T len parts ho
   split at h
   · rename_i e hT
     obtain ⟨κ,hκ,h⟩ := bindO_some h
     obtain ⟨sz,hsz,h⟩ := bindO_some h
     obtain ⟨z,hz,h⟩ := bindO_some h
     obtain ⟨ps,hp,h⟩ := bindO_some h
     split at h
     · rename_i hk
       split at h
       · rename_i hb
         obtain ⟨xs,hx,h⟩ := bindO_some h
         simp only [Bool.and_eq_true] at hb
         obtain ⟨i,zv,g1,g2,g3,g4⟩ := zeroOf_spec E hE hz
         refine ⟨_,_,h,fun _ => ⟨_,rfl⟩,fun F' hA => op_buildSlice E ho hT hsz (hA.parts (by simp [ho,Op.operands]) hp) hk.1 (Nat.eq_of_beq_eq_true hb.1) (Nat.le_of_ble_eq_true hb.2) hx ⟨i,zv,g1,g2,?_⟩⟩
         have hs1:i.size = sz := by simpa [Env.size,g1] using hsz
         have := segWidth_eq (ρ := fun _ => ⟨0,undef⟩) (g4 (fun _ => False) default (fun _ => ⟨0,undef⟩) 0)
         rw [g3] at this
         rw [hs1,← Nat.eq_of_beq_eq_true hk.2,← this]; simp
       · cases h
     · cases h
   · cases h
 · rename_i T x ho
   obtain ⟨p,hp,h⟩ := bindO_some h
   obtain ⟨v,hv,h⟩ := bindO_some h
   exact ⟨_,_,h,fun _ => ⟨[],by simp⟩,fun F' hA => op_load E ho (hA.opd (by simp [ho,Op.operands]) hp) hv⟩
 · rename_i T p x ho
   obtain ⟨pv,hpv,h⟩ := bindO_some h
   obtain ⟨v,hv,h⟩ := bindO_some h
   split at h
   · obtain ⟨ts, _, h⟩ := bindO_some h
     obtain ⟨v',hv',h⟩ := bindO_some h
     obtain ⟨H',hH,h⟩ := bindO_some h
     split at h
     · rename_i hb
       exact ⟨_,_,h,fun hw => absurd hw (by simp [isWr,ho]),fun F' hA => op_storeN E ts ho (hA.opd (by simp [ho,Op.operands]) hpv) (hA.opd (by simp [ho,Op.operands]) hv) hb hv' hH⟩
     · cases h
   · obtain ⟨H', hH, h⟩ := bindO_some h
     exact ⟨_,_,h,fun hw => absurd hw (by simp [isWr,ho]),fun F' hA => op_store E ho (hA.opd (by simp [ho,Op.operands]) hpv) (hA.opd (by simp [ho,Op.operands]) hv) hH⟩
 · rename_i x ho
   obtain ⟨v,hv,h⟩ := bindO_some h
   split at h
   · exact ⟨_,_,h,fun _ => ⟨[],by simp⟩,fun F' hA => op_nilCheck E ho (hA.opd (by simp [ho,Op.operands]) hv)⟩
   · exact ⟨_,_,h,fun _ => ⟨[],by simp⟩,fun F' hA => op_nilCheckP E ho (hA.opd (by simp [ho,Op.operands]) hv)⟩
   · exact ⟨_,_,h,fun _ => ⟨[],by simp⟩,fun F' hA => op_nilCheckR E ho (hA.opd (by simp [ho,Op.operands]) hv)⟩
   · cases h
 · rename_i op T x y _ ho
   obtain ⟨u,hu,h⟩ := bindO_some h
   obtain ⟨v,hv,h⟩ := bindO_some h
   obtain ⟨z,hz,hs⟩ := binS_spec E h
   refine ⟨_,_,hz,fun _ => ⟨[],by simp⟩,fun F' hA => .val fun C ρ a w hF hR => ?_⟩
   obtain ⟨h1,h2⟩ := opd_spec hF (hA.opd (by simp [ho,Op.operands]) hu)
   obtain ⟨h3,h4⟩ := opd_spec hF (hA.opd (by simp [ho,Op.operands]) hv)
   obtain ⟨g1,g2⟩ := hs ρ C.R C.w1 H.length w x y h2 h4
   refine ⟨?_,g2⟩
   simp only [execOp,ho,h1,h3]
   rw [Sem.run_bind,g1]; rfl
 · rename_i op T x ho
   obtain ⟨u,hu,h⟩ := bindO_some h
   obtain ⟨v,hv,h⟩ := bindO_some h
   exact ⟨_,_,h,fun _ => ⟨[],by simp⟩,fun F' hA => op_unOp E ho (hA.opd (by simp [ho,Op.operands]) hu) hv⟩
 · rename_i src dst x ho
   obtain ⟨u,hu,h⟩ := bindO_some h
   split at h
   · rename_i d k k' n hs hd
     exact ⟨_,_,h,fun _ => ⟨[],by simp⟩,fun F' hA => op_convert E ho (hA.opd (by simp [ho,Op.operands]) hu) hd ⟨d,hs⟩⟩
   · cases h
 · rename_i f first cap ho
   obtain ⟨a,ha,h⟩ := bindO_some h
   obtain ⟨b,hb,h⟩ := bindO_some h
   exact ⟨_,_,h,fun _ => ⟨[],by simp⟩,fun F' hA => op_makeFunc E ho (hA.opds (fun x hx => by simp [ho,Op.operands]; exact .inl (by simpa using hx)) ha) (hA.opds (fun x hx => by simp [ho,Op.operands]; exact .inr (by simpa using hx)) hb)⟩
 · rename_i T x f ho
   obtain ⟨u,hu,h⟩ := bindO_some h
   obtain ⟨v,hv,h⟩ := bindO_some h
   exact ⟨_,_,h,fun _ => ⟨[],by simp⟩,fun F' hA => op_fieldAddr E ho (hA.opd (by simp [ho,Op.operands]) hu) hv⟩
 · rename_i T x f ho
   obtain ⟨u,hu,h⟩ := bindO_some h
   obtain ⟨fd,hfd,h⟩ := bindO_some h
   split at h
   · rename_i l g n hg hn _
     obtain ⟨r',hr,h⟩ := bindO_some h
     obtain ⟨v,hv,h⟩ := bindO_some h
     exact ⟨_,_,h,fun _ => ⟨[],by simp⟩,fun F' hA => op_field E ho (hA.opd (by simp [ho,Op.operands]) hu) hfd hg hn hr hv⟩
   · cases h
 · rename_i T x ix ho
   obtain ⟨u,hu,h⟩ := bindO_some h
   obtain ⟨i,hi,h⟩ := bindO_some h
   obtain ⟨v,hv,hg⟩ := indexS_spec E ho h
   exact ⟨_,_,hv,fun _ => ⟨[],by simp⟩,fun F' hA => hg F' (hA.opd (by simp [ho,Op.operands]) hu) (hA.opd (by simp [ho,Op.operands]) hi)⟩
 · rename_i T x ix ho
   obtain ⟨u,hu,h⟩ := bindO_some h
   obtain ⟨i,hi,h⟩ := bindO_some h
   split at h
   · have hT : E.P.underlying T = some .string := by assumption
     split at h
     · rename_i hb
       exact ⟨_,_,h,fun _ => ⟨[],by simp⟩,fun F' hA => op_index E ho (hA.opd (by simp [ho,Op.operands]) hu) (hA.opd (by simp [ho,Op.operands]) hi) hT hb⟩
     · cases h
   · obtain ⟨g, hg, h⟩ := bindO_some h
     obtain ⟨sz,hn,h⟩ := bindO_some h
     split at h
     · rename_i hb
       obtain ⟨l',hr,h⟩ := bindO_some h
       obtain ⟨v,hv,h⟩ := bindO_some h
       exact ⟨_,_,h,fun _ => ⟨[],by simp⟩,fun F' hA => op_indexA E ho (hA.opd (by simp [ho,Op.operands]) hu) (hA.opd (by simp [ho,Op.operands]) hi) (by assumption) hg hn hb hr hv⟩
     · cases h
   · cases h
 · rename_i T x lo hi ho
   obtain ⟨u,hu,h⟩ := bindO_some h
   obtain ⟨l,hl,h⟩ := bindO_some h
   obtain ⟨h',hh,h⟩ := bindO_some h
   split at h
   · rename_i e hT
     obtain ⟨sz,hsz,h⟩ := bindO_some h
     obtain ⟨L,hL,h⟩ := bindO_some h
     split at h
     · rename_i hb
       obtain ⟨v,hv,h⟩ := bindO_some h
       exact ⟨_,_,h,fun _ => ⟨[],by simp⟩,fun F' hA => op_slice E ho (hA.opd (by simp [ho,Op.operands]) hu) (hA.ivO (fun y hy => by simp [ho,Op.operands]; simp [hy]) hl) (hA.ivO (fun y hy => by simp [ho,Op.operands]; simp [hy]) hh) hT hsz hL hb hv⟩
     · cases h
   · cases h
 · rename_i T x hi mx ho
   obtain ⟨u,hu,h1⟩ := bindO_some h
   obtain ⟨v1,hh,h2⟩ := bindO_some h1
   obtain ⟨v2,hm,h3⟩ := bindO_some h2
   clear h h1 h2
   split at h3
   · rename_i e t k1 i1 k2 i2 hT
     obtain ⟨sz,hsz,h4⟩ := bindO_some h3
     clear h3
     split at h4
     · rename_i κ xs E' ht
       split at h4
       · split at h4
         · rename_i hc
           obtain ⟨rfl,rfl⟩ := hc
           exact ⟨_,_,h4,fun _ => ⟨[],by simp⟩,fun F' hA => op_clip E ho (hA.opd (by simp [ho,Op.operands]) hu) (hA.opd (by simp [ho,Op.operands]) hh) (hA.opd (by simp [ho,Op.operands]) hm) hT hsz ht⟩
         · cases h4
       · cases h4
     · cases h4
   · cases h3
 · rename_i T x y ho
   obtain ⟨u,hu,h⟩ := bindO_some h
   obtain ⟨u2,hu2,h⟩ := bindO_some h
   split at h
   · rename_i e1 k1 n1 k2 n2 hT h0
     obtain ⟨κ,hκ,h⟩ := bindO_some h
     obtain ⟨inf,hinf,h⟩ := bindO_some h
     obtain ⟨z,hz,h⟩ := bindO_some h
     split at h
     · rename_i hk
       obtain ⟨hk1,hk2,hk,_⟩ := hk
       obtain ⟨d,hd,h⟩ := bindO_some h
       split at h
       · rename_i hnm
         rw [hk1] at hu
         rw [hk2,← hnm] at hu2
         split at h
         · rename_i hb
           exact ⟨_,_,h,fun _ => ⟨_,rfl⟩,fun F' hA => op_makeSlice E hE ho (hA.opd (by simp [ho,Op.operands]) hu) (hA.opd (by simp [ho,Op.operands]) hu2) hT hinf hz hk hd hb.1 hb.2.1 hb.2.2⟩
         · cases h
       · cases h
     · cases h
   · cases h
 · rename_i x i ho
   obtain ⟨u,hu,h⟩ := bindO_some h
   split at h
   · obtain ⟨v, hv, h⟩ := bindO_some h
     exact ⟨_,_,h,fun _ => ⟨[],by simp⟩,fun F' hA => op_extract E ho (hA.opd (by simp [ho,Op.operands]) hu) hv⟩
   · cases h
 · rename_i c ho
   obtain ⟨args,ha,h⟩ := bindO_some h
   split at h
   · -- a function's value
     rename_i f hc
     obtain ⟨fv,hf,h⟩ := bindO_some h
     split at h
     · rename_i g first cap
       have hres:∀ (F':Fr),Agree o F F' → ∀ (C:Cx) (ρ:Nat → Tk) (a:Act),FRel C ρ H.length F' a.tmps → (resolve a.eval c o.type = pure { target := .fn (.func g) (denL ρ cap).toArray,args := (denL ρ first).toArray ++ (denL ρ args).toArray }) ∧ SV.okL C.R C.w1 ρ H.length (first ++ args ++ cap) := by
         intro F' hA C ρ a hF
         obtain ⟨h1,h2⟩ := opd_spec hF (hA.opd (by simp [ho,Op.operands,Call.operands,hc]) hf)
         obtain ⟨h3,h4⟩ := opds_spec hF (hA.opds (fun x hx => by simp [ho,Op.operands,Call.operands]; exact .inr (by simpa using hx)) ha)
         refine ⟨?_,okL_append.2 ⟨okL_append.2 ⟨h2.1,h4⟩,h2.2⟩⟩
         simp only [resolve,hc,h1,den,Deferred.ofValue,eval_args h3]
       split at h
       · rename_i hadd
         rw [Bool.and_eq_true] at hadd
         obtain ⟨fn,e,p1,p2,p3,p4,p5,p6⟩ := hE.add g hadd.2 hadd.1
         unfold addS at h
         split at h
         · rename_i k1 x k2 y k3 cc heq
           split at h
           · cases h
           · rename_i hcc
             refine ⟨_,_,h,fun _ => ⟨[],by simp⟩,fun F' hA => .val fun C ρ a w hF hR => ?_⟩
             obtain ⟨r1,r2⟩ := hres F' hA C ρ a hF
             refine ⟨?_,by simp [SV.ok,SV.okL]⟩
             have hl:(denL ρ first).toArray ++ (denL ρ args).toArray ++ (denL ρ cap).toArray = #[.int k1 x,.int k2 y,.int k3 cc] := by
               have := congrArg (denL ρ) heq
               simp only [denL_append,denL,den] at this
               simp only [List.append_toArray,this]
             simp only [execOp,ho,r1,Sem.run_bind,Sem.run_pure,Result.andThen_ok,invoke,hl]
             rw [run_callFunc_extern p1 p2 p3 p4 p5,run_add64 p6 E.P w k1 k2 k3 x y cc hcc]
             simp [den,denL]
         · cases h
       · split at h
         · rename_i hsub
           rw [Bool.and_eq_true] at hsub
           obtain ⟨fn,e,p1,p2,p3,p4,p5,p6⟩ := hE.sub g hsub.2 hsub.1
           unfold subS at h
           split at h
           · rename_i k1 x k2 y k3 cc heq
             split at h
             · cases h
             · rename_i hcc
               refine ⟨_,_,h,fun _ => ⟨[],by simp⟩,fun F' hA => .val fun C ρ a w hF hR => ?_⟩
               obtain ⟨r1,r2⟩ := hres F' hA C ρ a hF
               refine ⟨?_,by simp [SV.ok,SV.okL]⟩
               have hl:(denL ρ first).toArray ++ (denL ρ args).toArray ++ (denL ρ cap).toArray = #[.int k1 x,.int k2 y,.int k3 cc] := by
                 have := congrArg (denL ρ) heq
                 simp only [denL_append,denL,den] at this
                 simp only [List.append_toArray,this]
               simp only [execOp,ho,r1,Sem.run_bind,Sem.run_pure,Result.andThen_ok,invoke,hl]
               rw [run_callFunc_extern p1 p2 p3 p4 p5,run_sub64 p6 E.P w k1 k2 k3 x y cc hcc]
               simp [den,denL]
           · cases h
         · split at h
           · rename_i fn hfn
             split at h
             · rename_i hb
               simp only [Bool.and_eq_true] at hb
               obtain ⟨v,H',hk,hS⟩ := hcall _ _ _ _ _ h
               refine ⟨v,H',hk,fun hw => absurd hw (by simp [isWr,ho,hc]),fun F' hA => ⟨hS.len,fun C ρ a w hF hR next Q hn => ?_⟩⟩
               obtain ⟨r1,r2⟩ := hres F' hA C ρ a hF
               have hcl := hS.run C ρ w hR r2
               have hne : fn.name ≠ "runtime.NumGoroutine" := by simpa using hb.2
               have hbn:fn.body ≠ none := by intro e; rw [e] at hb; simp at hb
               have hrun:(execOp a.eval o).run E.P w = .ok (.enter g (denL ρ (first ++ args ++ cap)).toArray) w := by
                 simp only [execOp,ho,r1,Sem.run_bind,Sem.run_pure,Result.andThen_ok,invoke,callFunc,run_program,hfn]
                 rw [if_neg (by simpa using hne),if_neg (by simpa using hbn)]
                 simp [denL_append]
               unfold Oper.wp
               rw [hrun]
               refine hcl.mono fun e w' hw => ?_
               obtain ⟨ρ',q1,q2,q3,q4⟩ := hw
               subst q2
               exact hn ρ' w' q1 q3 q4
             · cases h
           · cases h
     · cases h
   · -- len
     rename_i hc
     split at h
     · rename_i t x hat
       split at h
       · rename_i e hT
         obtain ⟨v,hv,h⟩ := bindO_some h
         refine ⟨_,_,h,fun _ => ⟨[],by simp⟩,fun F' hA => .val fun C ρ a w hF hR => ?_⟩
         obtain ⟨h3,h4⟩ := opds_spec hF (hA.opds (fun x hx => by simp [ho,Op.operands,Call.operands]; exact .inr (by simpa using hx)) ha)
         obtain ⟨b,n,cp,e1,e2⟩ := lenS_spec hv hR h4.1
         subst e2
         have harg:c.argTypes[0]? = some t := by rw [← Array.getElem?_toList,hat]; rfl
         refine ⟨?_,by simp [SV.ok]⟩
         simp only [denL,e1] at h3
         have h3':c.args.map a.eval = #[.slice b n cp] := Array.toList_inj.1 (by simpa using h3)
         simp [execOp,ho,resolve,hc,invoke,builtin,Builtin.len_,h3',harg,run_underlying hT,goInt,den]
       · cases h
     · cases h
   · -- append
     rename_i hc
     split at h
     · rename_i t t' s x hat
       split at h
       · rename_i htt
         have htt := Nat.eq_of_beq_eq_true htt
         subst htt
         have hat':c.argTypes = #[t,t] := Array.toList_inj.1 (by simpa using hat)
         split at h
         · rename_i e hT
           obtain ⟨κ,hκ,h⟩ := bindO_some h
           obtain ⟨inf,hinf,h⟩ := bindO_some h
           obtain ⟨z,hz,h⟩ := bindO_some h
           obtain ⟨⟨ex,ys⟩,hr,h⟩ := bindO_some h
           simp only at h
           split at h
           · rename_i hk
             obtain ⟨hk,hw,hby⟩ := hk
             obtain ⟨i,zv,g1,g2,g3,g4⟩ := zeroOf_spec E hE hz
             rw [hinf] at g1
             cases g1
             have hzs:zv.cells.size = inf.size := by
               have := segWidth_eq (ρ := fun _ => ⟨0,undef⟩) (g4 (fun _ => False) default (fun _ => ⟨0,undef⟩) 0)
               rw [g3] at this
               rw [← Nat.eq_of_beq_eq_true hw,← this]; simp
             have hmem:∀ x ∈ c.args.toList,x ∈ o.op.operands.toList := fun x hx => by simp [ho,Op.operands,Call.operands]; exact .inr (by simpa using hx)
             split at h
             · split at h
               · rename_i hb
                 exact ⟨_,_,h,fun _ => ⟨_,rfl⟩,fun F' hA => op_append_nil E ho hc hat' (hA.opds hmem ha) hT hinf g2 hzs hk (Nat.le_of_ble_eq_true hby) hr hb⟩
               · cases h
             · split at h
               · rename_i κ' xs e' ht
                 split at h
                 · rename_i he
                   subst he
                   split at h
                   · rename_i he
                     have he' := Nat.eq_of_beq_eq_true he.1
                     subst he'
                     split at h
                     · rename_i hb
                       exact ⟨_,_,h,fun hw => absurd hw (by simp only [isWr,ho,hc]; rw [notNil ha]; simp),fun F' hA => op_append_own E ho hc hat' (hA.opds hmem ha) hT hinf g2 hzs hk (Nat.le_of_ble_eq_true hby) ht hr hb⟩
                     · cases h
                   · cases h
                 · cases h
               · cases h
             · cases h
           · cases h
         · cases h
       · cases h
     · cases h
   · -- copy
     rename_i hc
     split at h
     · rename_i t t' ts x hat
       split at h
       · rename_i e hT
         obtain ⟨sz,hsz,h⟩ := bindO_some h
         split at h
         · rename_i κ xs e' ht
           obtain ⟨⟨ex,ys⟩,hr,h9⟩ := bindO_some h
           clear h
           simp only at h9
           by_cases hk:κ.sz = sz ∧ Nat.beq e' e = true
           · rw [if_pos hk] at h9
             obtain ⟨hk,he⟩ := hk
             have he := Nat.eq_of_beq_eq_true he
             subst he
             by_cases hl:xs.length = ys.length
             · rw [if_pos hl] at h9
               have hat':c.argTypes[0]? = some t := by rw [← Array.getElem?_toList,hat]; rfl
               have hmem:∀ x ∈ c.args.toList,x ∈ o.op.operands.toList := fun x hx => by simp [ho,Op.operands,Call.operands]; exact .inr (by simpa using hx)
               exact ⟨_,_,h9,fun hw => absurd hw (by simp [isWr,ho,hc]),fun F' hA => op_copy E ho hc hat' (hA.opds hmem ha) hT hsz hk ht hr hl⟩
             · rw [if_neg hl] at h9; cases h9
           · rw [if_neg hk] at h9; cases h9
         · cases h
       · cases h
     · cases h
   · rename_i hc
     split at h
     · rename_i x l
       obtain ⟨v,hv,h⟩ := bindO_some h
       refine ⟨_,_,h,fun _ => ⟨[],by simp⟩,fun F' hA => .val fun C ρ a w hF hR => ?_⟩
       obtain ⟨h3,h4⟩ := opds_spec hF (hA.opds (fun x hx => by simp [ho,Op.operands,Call.operands]; exact .inr (by simpa using hx)) ha)
       have := minS_spec E _ _ _ hv ρ C.R C.w1 H.length w h4.1
       refine ⟨?_,this.2⟩
       simp only [denL] at h3
       have h3':c.args.map a.eval = (den ρ x :: denL ρ l).toArray := Array.toList_inj.1 (by simpa using h3)
       simp only [execOp,ho,resolve,hc,Sem.run_bind,Sem.run_pure,Result.andThen_ok,invoke,builtin,Builtin.min_,h3',this.1]
     · cases h
   · rename_i hc
     split at h
     · rename_i x l
       obtain ⟨v,hv,h⟩ := bindO_some h
       refine ⟨_,_,h,fun _ => ⟨[],by simp⟩,fun F' hA => .val fun C ρ a w hF hR => ?_⟩
       obtain ⟨h3,h4⟩ := opds_spec hF (hA.opds (fun x hx => by simp [ho,Op.operands,Call.operands]; exact .inr (by simpa using hx)) ha)
       have := maxS_spec E _ _ _ hv ρ C.R C.w1 H.length w h4.1
       refine ⟨?_,this.2⟩
       simp only [denL] at h3
       have h3':c.args.map a.eval = (den ρ x :: denL ρ l).toArray := Array.toList_inj.1 (by simpa using h3)
       simp only [execOp,ho,resolve,hc,Sem.run_bind,Sem.run_pure,Result.andThen_ok,invoke,builtin,Builtin.max_,h3',this.1]
     · cases h
   · cases h
 · cases h
end
end
section
open Go Go.RowKit
mutual
theorem ren_spec {R:Nat → Prop} {w:World} {n n':Nat} {ρ ρ':Nat → Tk} {g:Nat → Nat}:∀ (v:SV),(∀ t,t ∈ v.toks → ρ' (g t) = ρ t ∧ g t < n') → v.ok R w ρ n → den ρ' (v.ren g) = den ρ v ∧ (v.ren g).ok R w ρ' n'
 | .ptr t _,h,_ => by have := h t (by simp [SV.toks]); simp only [SV.ren,den,SV.ok,this,and_self]
 | .aix t _ _ _ _,h,hv => by have := h t (by simp [SV.toks]); simp only [SV.ok] at hv; simp only [SV.ren,den,SV.ok,this,hv,and_self]
 | .pix t _ _ _,h,hv => by have := h t (by simp [SV.toks]); simp only [SV.ok] at hv; simp only [SV.ren,den,SV.ok,this.1]; exact ⟨trivial,this.2,hv.2⟩
 | .sl t,h,_ => by have := h t (by simp [SV.toks]); simp only [SV.ren,den,SV.ok,this,and_self]
 | .sub t _ _ _,h,hv => by have := h t (by simp [SV.toks]); simp only [SV.ok] at hv; simp only [SV.ren,den,SV.ok,this.1]; exact ⟨trivial,this.2,hv.2⟩
 | .clp t _ _,h,hv => by have := h t (by simp [SV.toks]); simp only [SV.ok] at hv; simp only [SV.ren,den,SV.ok,this.1]; exact ⟨trivial,this.2,hv.2⟩
 | .yld t,h,_ => by have := h t (by simp [SV.toks]); simp only [SV.ren,den,SV.ok,this,and_self]
 | .rix _ _ _ _ _,_,hv => by simp only [SV.ren,den,SV.ok] at hv ⊢; exact ⟨trivial,hv⟩
 | .ros _ _ _,_,hv => by simp only [SV.ren,den,SV.ok] at hv ⊢; exact ⟨trivial,hv⟩
 | .fn _ a b,h,hv => by
   simp only [SV.toks,List.mem_append] at h
   simp only [SV.ok] at hv
   obtain ⟨h1,h2,_⟩ := renL_spec a (fun t ht => h t (.inl ht)) hv.1
   obtain ⟨h3,h4,_⟩ := renL_spec b (fun t ht => h t (.inr ht)) hv.2
   simp only [SV.ren,den,SV.ok,h1,h2,h3,h4,and_self]
 | .raw _,_,hv => by simp only [SV.ren,den,SV.ok] at hv ⊢; exact ⟨trivial,hv⟩
 | .arr _ _ _,_,hv => by simp only [SV.ren,den,SV.ok] at hv ⊢; exact ⟨trivial,hv⟩
 | .agg l,h,hv => by
   simp only [SV.toks] at h
   simp only [SV.ok] at hv
   obtain ⟨_,h2,h3⟩ := renL_spec l h hv
   simp only [SV.ren,den,SV.ok,h2,h3,and_self]
 | .tup l,h,hv => by
   simp only [SV.toks] at h
   simp only [SV.ok] at hv
   obtain ⟨h1,h2,_⟩ := renL_spec l h hv
   simp only [SV.ren,den,SV.ok,h1,h2,and_self]
 | .int _ _,_,_ => by simp only [SV.ren,den,SV.ok,and_self]
 | .bool _,_,_ => by simp only [SV.ren,den,SV.ok,and_self]
theorem renL_spec {R:Nat → Prop} {w:World} {n n':Nat} {ρ ρ':Nat → Tk} {g:Nat → Nat}:∀ (l:List SV),(∀ t,t ∈ SV.toksL l → ρ' (g t) = ρ t ∧ g t < n') → SV.okL R w ρ n l → denL ρ' (SV.renL g l) = denL ρ l ∧ SV.okL R w ρ' n' (SV.renL g l) ∧ denC ρ' (SV.renL g l) = denC ρ l
 | [],_,_ => by simp only [SV.renL,denL,SV.okL,denC,and_self]
 | x :: l,h,hv => by
   simp only [SV.toksL,List.mem_append] at h
   simp only [SV.okL] at hv
   obtain ⟨h1,h2⟩ := ren_spec x (fun t ht => h t (.inl ht)) hv.1
   obtain ⟨h3,h4,h5⟩ := renL_spec l (fun t ht => h t (.inr ht)) hv.2
   simp only [SV.renL,denL,SV.okL,denC,h1,h2,h3,h4,h5,true_and,and_true]
   cases x <;> simp only [SV.ren,cell1]
end
mutual
theorem ok_of_toks {R:Nat → Prop} {w:World} {n n':Nat} {ρ:Nat → Tk}:∀ (v:SV),(∀ t,t ∈ v.toks → t < n') → v.ok R w ρ n → v.ok R w ρ n'
 | .ptr t _,h,_ => by have := h t (by simp [SV.toks]); simpa only [SV.ok] using this
 | .aix t _ _ _ _,h,hv => by have := h t (by simp [SV.toks]); simp only [SV.ok] at hv ⊢; exact ⟨this,hv.2⟩
 | .pix t _ _ _,h,hv => by have := h t (by simp [SV.toks]); simp only [SV.ok] at hv ⊢; exact ⟨this,hv.2⟩
 | .sl t,h,_ => by have := h t (by simp [SV.toks]); simpa only [SV.ok] using this
 | .sub t _ _ _,h,hv => by have := h t (by simp [SV.toks]); simp only [SV.ok] at hv ⊢; exact ⟨this,hv.2⟩
 | .clp t _ _,h,hv => by have := h t (by simp [SV.toks]); simp only [SV.ok] at hv ⊢; exact ⟨this,hv.2⟩
 | .yld t,h,_ => by have := h t (by simp [SV.toks]); simpa only [SV.ok] using this
 | .rix _ _ _ _ _,_,hv => by simp only [SV.ok] at hv ⊢; exact hv
 | .ros _ _ _,_,hv => by simp only [SV.ok] at hv ⊢; exact hv
 | .fn _ a b,h,hv => by
   simp only [SV.toks,List.mem_append] at h
   simp only [SV.ok] at hv ⊢
   exact ⟨okL_of_toks a (fun t ht => h t (.inl ht)) hv.1,okL_of_toks b (fun t ht => h t (.inr ht)) hv.2⟩
 | .raw _,_,hv => by simp only [SV.ok] at hv ⊢; exact hv
 | .arr _ _ _,_,hv => by simp only [SV.ok] at hv ⊢; exact hv
 | .agg l,h,hv => by simp only [SV.ok] at hv ⊢; exact okL_of_toks l (by simpa only [SV.toks] using h) hv
 | .tup l,h,hv => by simp only [SV.ok] at hv ⊢; exact okL_of_toks l (by simpa only [SV.toks] using h) hv
 | .int _ _,_,_ => by simp only [SV.ok]
 | .bool _,_,_ => by simp only [SV.ok]
theorem okL_of_toks {R:Nat → Prop} {w:World} {n n':Nat} {ρ:Nat → Tk}:∀ (l:List SV),(∀ t,t ∈ SV.toksL l → t < n') → SV.okL R w ρ n l → SV.okL R w ρ n' l
 | [],_,_ => by simp only [SV.okL]
 | x :: l,h,hv => by
   simp only [SV.toksL,List.mem_append] at h
   simp only [SV.okL] at hv ⊢
   exact ⟨ok_of_toks x (fun t ht => h t (.inl ht)) hv.1,okL_of_toks l (fun t ht => h t (.inr ht)) hv.2⟩
end
theorem ren_leaves (g:Nat → Nat):∀ (l:List SV),leavesB (SV.renL g l) = leavesB l
 | [] => rfl
 | x :: l => by
   simp only [SV.renL,leavesB,ren_leaves g l]
   cases x <;> rfl
theorem memN_iff {t:Nat}:∀ {l:List Nat},memN t l = true ↔ t ∈ l
 | [] => by simp [memN]
 | x :: l => by
   simp only [memN,Bool.or_eq_true,memN_iff (l := l),List.mem_cons]
   constructor
   · rintro (h | h)
     · exact .inl (Nat.eq_of_beq_eq_true h).symm
     · exact .inr h
   · rintro (h | h)
     · exact .inl (by rw [h]; exact Nat.beq_refl _)
     · exact .inr h
theorem allIn_iff {base:Nat} {τ:List Nat}:∀ {l:List Nat},allIn base τ l = true → ∀ t ∈ l,t < base ∨ t ∈ τ
 | [],_,t,ht => by simp at ht
 | x :: l,h,t,ht => by
   simp only [allIn,Bool.and_eq_true,Bool.or_eq_true] at h
   rcases List.mem_cons.1 ht with rfl | ht
   · exact h.1.imp (fun h => Nat.le_of_ble_eq_true h) memN_iff.1
   · exact allIn_iff h.2 t ht
theorem nodupN_spec:∀ {l:List Nat},nodupN l = true → l.Nodup
 | [],_ => List.nodup_nil
 | x :: l,h => by
   simp only [nodupN,Bool.and_eq_true,Bool.not_eq_true'] at h
   refine List.nodup_cons.2 ⟨fun hm => ?_,nodupN_spec h.2⟩
   rw [memN_iff.2 hm] at h
   simp at h
theorem allGe_spec {base:Nat}:∀ {l:List Nat},allGe base l = true → ∀ t ∈ l,base ≤ t
 | [],_,t,ht => by simp at ht
 | x :: l,h,t,ht => by
   simp only [allGe,Bool.and_eq_true] at h
   rcases List.mem_cons.1 ht with rfl | ht
   · exact Nat.le_of_ble_eq_true h.1
   · exact allGe_spec h.2 t ht
theorem idxOf_spec {t:Nat}:∀ {l:List Nat},t ∈ l → l[idxOf t l]? = some t
 | [],h => by simp at h
 | x :: l,h => by
   unfold idxOf
   split
   · rename_i hb; simp [Nat.eq_of_beq_eq_true hb]
   · rename_i hb
     rcases List.mem_cons.1 h with rfl | h
     · rw [Nat.beq_refl] at hb; exact absurd rfl hb
     · simpa using idxOf_spec h
theorem pickAll_get {H:Hp}:∀ {τ:List Nat} {objs:Hp},pickAll H τ = some objs → objs.length = τ.length ∧ ∀ (i t:Nat),τ[i]? = some t → objs[i]? = H[t]? ∧ t < H.length
 | [],objs,h => by simp only [pickAll,Option.some.injEq] at h; subst h; simp
 | x :: τ,objs,h => by
   simp only [pickAll] at h
   split at h
   · rename_i o r ho hr
     cases h
     obtain ⟨h1,h2⟩ := pickAll_get hr
     refine ⟨by simp [h1],fun i t hi => ?_⟩
     cases i with
     | zero => simp at hi; subst hi; exact ⟨by simp [ho],(List.getElem?_eq_some_iff.1 ho).1⟩
     | succ i => simp at hi; simpa using h2 i t hi
   · cases h
theorem mem_hpToks {t:Nat}:∀ {H:Hp} {i:Nat} {o:SObj},H[i]? = some o → t ∈ o.toks → t ∈ hpToks H
 | [],i,o,h,_ => by simp at h
 | x :: H,0,o,h,ht => by simp at h; subst h; simp [hpToks,ht]
 | x :: H,i + 1,o,h,ht => by simp at h; simp only [hpToks,List.mem_append]; exact .inr (mem_hpToks h ht)
theorem mem_frToks {t:Nat} {v:SV}:∀ {F:Fr} {i:Nat},F[i]? = some (some v) → t ∈ v.toks → t ∈ frToks F
 | [],i,h,_ => by simp at h
 | x :: F,0,h,ht => by simp at h; subst h; simp [frToks,ht]
 | none :: F,i + 1,h,ht => by simp at h; simp only [frToks]; exact mem_frToks h ht
 | some u :: F,i + 1,h,ht => by simp at h; simp only [frToks,List.mem_append]; exact .inr (mem_frToks h ht)
theorem frRen_get (g:Nat → Nat):∀ {F:Fr} {i:Nat} {v:SV},(frRen g F)[i]? = some (some v) → ∃ u,F[i]? = some (some u) ∧ v = u.ren g
 | [],i,v,h => by simp [frRen] at h
 | none :: F,0,v,h => by simp [frRen] at h
 | some u :: F,0,v,h => by simp [frRen] at h; exact ⟨u,rfl,h.symm⟩
 | none :: F,i + 1,v,h => by simp only [frRen,List.getElem?_cons_succ] at h; simpa using frRen_get g h
 | some u :: F,i + 1,v,h => by simp only [frRen,List.getElem?_cons_succ] at h; simpa using frRen_get g h
theorem frRen_length (g:Nat → Nat):∀ (F:Fr),(frRen g F).length = F.length
 | [] => rfl
 | none :: F => by simp [frRen,frRen_length g F]
 | some u :: F => by simp [frRen,frRen_length g F]
theorem SObj.ok_of_toks {R:Nat → Prop} {w:World} {n n':Nat} {ρ:Nat → Tk} {o:SObj} (h:∀ t,t ∈ o.toks → t < n') (ho:o.ok R w ρ n):o.ok R w ρ n' := by
 cases o with
 | cells l T => exact ⟨okL_of_toks l h ho.1,ho.2⟩
 | lp f p F st => exact fun i v hv => Sx.ok_of_toks v (fun t ht => h t (mem_frToks hv ht)) (ho i v hv)
 | _ => trivial
theorem gc_spec {H H':Hp} {base:Nat} {roots τ:List Nat} (h:gc H base roots = some (τ,H')):base ≤ H.length ∧ base ≤ H'.length ∧
   ∀ (C:Cx) (ρ:Nat → Tk) (w:World),Rel C ρ H w → ∃ ρ':Nat → Tk,(∀ t,t < base → ρ' t = ρ t) ∧ Rel C ρ' H' w ∧
     (τ = [] → ρ' = ρ ∧ ∀ t ∈ roots,t < H'.length) ∧ (τ ≠ [] → ∀ t ∈ roots,ρ' (gcMap base τ t) = ρ t ∧ gcMap base τ t < H'.length) := by
 unfold gc at h
 split at h
 · rename_i τ' hτ
   split at h
   · rename_i objs hobjs
     split at h
     · rename_i hc
       simp only [Bool.and_eq_true] at hc
       obtain ⟨⟨⟨⟨⟨c0,c1⟩,c2⟩,c3⟩,c4⟩,c5⟩ := hc
       have hb:base ≤ H.length := Nat.le_of_ble_eq_true c0
       have hnd := nodupN_spec c4
       have hge := allGe_spec c5
       obtain ⟨hol,hog⟩ := pickAll_get hobjs
       split at h
       · -- nothing is left above
         cases h
         have htl:(H.take base).length = base := by rw [List.length_take]; omega
         have hlt:∀ t ∈ roots,t < base := fun t ht => by rcases allIn_iff c2 t ht with h | h; exact h; simp at h
         refine ⟨hb,by omega,fun C ρ w hR => ⟨ρ,fun _ _ => rfl,?_,fun _ => ⟨rfl,fun t ht => by have := hlt t ht; omega⟩,fun h => absurd rfl h⟩⟩
         have hget : ∀ (t : Nat) (o : SObj), (H.take base)[t]? = some o → t < base ∧ H[t]? = some o := fun t o ho => by
           rw [List.getElem?_take] at ho
           split at ho
           · exact ⟨by assumption,ho⟩
           · cases ho
         have hblk : ∀ t b, blkOf ρ (H.take base) t = some b → blkOf ρ H t = some b := fun t b hb' => by
           obtain ⟨o,ho,h2⟩ := blkOf_get hb'
           rw [blkOf_eq (hget t o ho).2]; exact h2
         refine ⟨fun t o ho => hR.obj t o (hget t o ho).2,fun t t' b h1 h2 => hR.sep t t' b (hblk t b h1) (hblk t' b h2),fun t b h1 => hR.own t b (hblk t b h1),hR.hdr,hR.keep,hR.size,hR.os,hR.tape,hR.output,fun t o ho => ?_,hR.fit⟩
         refine SObj.ok_of_toks (fun s hs => ?_) (hR.ok t o (hget t o ho).2)
         rcases allIn_iff c1 s (mem_hpToks ho hs) with h | h
         · omega
         · simp at h
       · cases h
         have hne:τ ≠ [] := by assumption
         let orig:Nat → Nat := fun i => if i < base then i else (τ[i - base]?).getD 0
         have hg : ∀ t, (t < base ∨ t ∈ τ) → orig (gcMap base τ t) = t ∧ gcMap base τ t < base + τ.length := fun t ht => by
           by_cases hlt:t < base
           · have e : gcMap base τ t = t := by
               unfold gcMap; rw [if_pos (show Nat.blt t base = true from Nat.ble_eq_true_of_le hlt)]
             rw [e]; exact ⟨by simp [orig,hlt],by omega⟩
           · have hm : t ∈ τ := ht.resolve_left hlt
             have e:gcMap base τ t = base + idxOf t τ := by
               unfold gcMap; rw [if_neg (fun hb:Nat.blt t base = true => hlt (Nat.le_of_ble_eq_true hb))]
             have hi := idxOf_spec hm
             have hil := (List.getElem?_eq_some_iff.1 hi).1
             rw [e]
             refine ⟨?_,by omega⟩
             simp only [orig]
             rw [if_neg (by omega),show base + idxOf t τ - base = idxOf t τ by omega,hi]; rfl
         have hlen:(((H.take base) ++ objs).map (SObj.ren (gcMap base τ))).length = base + τ.length := by simp [hol]; omega
         have hget:∀ (i:Nat) (o':SObj),(((H.take base) ++ objs).map (SObj.ren (gcMap base τ)))[i]? = some o' → ∃ o,H[orig i]? = some o ∧ o' = o.ren (gcMap base τ) ∧ (∀ t ∈ o.toks,t < base ∨ t ∈ τ) := fun i o' ho => by
           rw [List.getElem?_map] at ho
           cases hq:(H.take base ++ objs)[i]? with
           | none => simp [hq] at ho
           | some o =>
             simp only [hq,Option.map_some,Option.some.injEq] at ho
             by_cases hi:i < base
             · have h1 : (H.take base)[i]? = some o := by rw [← hq, List.getElem?_append_left (by simp; omega)]
               refine ⟨o,?_,ho.symm,fun t ht => allIn_iff c1 t (mem_hpToks h1 ht)⟩
               rw [List.getElem?_take,if_pos hi] at h1
               simp only [orig,if_pos hi]; exact h1
             · have h1 : objs[i - base]? = some o := by
                 rw [← hq,List.getElem?_append_right (by simp; omega)]; congr 1; simp; omega
               have hil:i - base < τ.length := by rw [← hol]; exact (List.getElem?_eq_some_iff.1 h1).1
               have h2 := hog (i - base) τ[i - base] (List.getElem?_eq_getElem hil)
               refine ⟨o,?_,ho.symm,fun t ht => allIn_iff c3 t (mem_hpToks h1 ht)⟩
               simp only [orig,if_neg hi]
               rw [List.getElem?_eq_getElem hil,Option.getD_some,← h2.1]; exact h1
         have hinj : ∀ i j, i < base + τ.length → j < base + τ.length → orig i = orig j → i = j := fun i j hi hj e => by
           simp only [orig] at e
           by_cases h1:i < base <;> by_cases h2:j < base
           · rw [if_pos h1,if_pos h2] at e; exact e
           · rw [if_pos h1, if_neg h2, List.getElem?_eq_getElem (show j - base < τ.length by omega), Option.getD_some] at e
             have := hge _ (List.getElem_mem (show j - base < τ.length by omega)); omega
           · rw [if_neg h1, if_pos h2, List.getElem?_eq_getElem (show i - base < τ.length by omega), Option.getD_some] at e
             have := hge _ (List.getElem_mem (show i - base < τ.length by omega)); omega
           · rw [if_neg h1,if_neg h2,List.getElem?_eq_getElem (show i - base < τ.length by omega),List.getElem?_eq_getElem (show j - base < τ.length by omega),Option.getD_some,Option.getD_some] at e
             have := (List.getElem_inj hnd).1 e
             omega
         refine ⟨hb,by omega,fun C ρ w hR => ?_⟩
         have hρ:∀ t,(t < base ∨ t ∈ τ) → (fun i => ρ (orig i)) (gcMap base τ t) = ρ t ∧ gcMap base τ t < base + τ.length := fun t ht => ⟨by simp only [(hg t ht).1],(hg t ht).2⟩
         refine ⟨fun i => ρ (orig i),fun t ht => by simp only [orig,if_pos ht],?_,fun h => absurd h hne,fun _ t ht => by rw [hlen]; exact hρ t (allIn_iff c2 t ht)⟩
         have hobjblk:∀ (tk:Tk) (o:SObj),objBlk tk (o.ren (gcMap base τ)) = objBlk tk o := fun tk o => by cases o <;> rfl
         have hblk:∀ i b,blkOf (fun i => ρ (orig i)) (((H.take base) ++ objs).map (SObj.ren (gcMap base τ))) i = some b → i < base + τ.length ∧ blkOf ρ H (orig i) = some b := fun i b hb' => by
           have hl := blkOf_lt_len hb'
           rw [hlen] at hl
           obtain ⟨o',ho',h2⟩ := blkOf_get hb'
           obtain ⟨o,g1,g2,_⟩ := hget i o' ho'
           refine ⟨hl,?_⟩
           rw [blkOf_eq g1,← hobjblk,← g2]; exact h2
         refine ⟨fun i o' ho' => ?_,fun i j b h1 h2 => ?_,fun i b h1 => hR.own _ b (hblk i b h1).2,fun t => hR.hdr _,hR.keep,hR.size,hR.os,hR.tape,hR.output,fun i o' ho' => ?_,hR.fit⟩
         · obtain ⟨o, g1, g2, g3⟩ := hget i o' ho'
           have hob := hR.obj _ o g1
           have hok := hR.ok _ o g1
           subst g2
           cases o with
           | cells l T =>
             have := renL_spec (R := C.R) (w := C.w1) (ρ := ρ) (ρ' := fun i => ρ (orig i)) l (fun t ht => hρ t (g3 t ht)) hok.1
             simp only [SObj.ren,ObjRel] at hob ⊢
             rw [this.2.2]; exact hob
           | seq κ xs E => exact hob
           | dead => trivial
           | lp f p F st =>
             obtain ⟨tmps,fn,dfr,g,ps,a,c,h1,h2,h3,h4⟩ := hob
             refine ⟨tmps,fn,dfr,g,ps,a,c,h1,h2,by rw [frRen_length]; exact h3,fun j v hv => ?_⟩
             obtain ⟨u,k1,rfl⟩ := frRen_get _ hv
             rw [(ren_spec (R := C.R) (w := C.w1) (ρ := ρ) (ρ' := fun i => ρ (orig i)) u (fun t ht => hρ t (g3 t (mem_frToks k1 ht))) (hok j u k1)).1]; exact h4 j u k1
         · obtain ⟨l1, e1⟩ := hblk i b h1
           obtain ⟨l2,e2⟩ := hblk j b h2
           exact hinj i j l1 l2 (hR.sep _ _ b e1 e2)
         · obtain ⟨o, g1, g2, g3⟩ := hget i o' ho'
           have hok := hR.ok _ o g1
           subst g2
           rw [hlen]
           cases o with
           | cells l T =>
             have := renL_spec (R := C.R) (w := C.w1) (ρ := ρ) (ρ' := fun i => ρ (orig i)) l (fun t ht => hρ t (g3 t ht)) hok.1
             exact ⟨this.2.1,by rw [ren_leaves]; exact hok.2⟩
           | seq κ xs E => trivial
           | dead => trivial
           | lp f p F st =>
             intro j v hv
             obtain ⟨u,k1,rfl⟩ := frRen_get _ hv
             exact (ren_spec (R := C.R) (w := C.w1) (ρ := ρ) (ρ' := fun i => ρ (orig i)) u (fun t ht => hρ t (g3 t (mem_frToks k1 ht))) (hok j u k1)).2
     · cases h
   · cases h
 · cases h
end
end Go.Proofs.YtfkgmidgdpfnkaaGreat.Sx
