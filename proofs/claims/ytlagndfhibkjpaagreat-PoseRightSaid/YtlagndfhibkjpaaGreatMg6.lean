/- Texts of the walk, merged. -/
import Derived.Test.YtlagndfhibkjpaaGreatMg5
set_option linter.unusedVariables false
set_option linter.unusedSimpArgs false
namespace Go.Proofs.YtlagndfhibkjpaaGreat.Sx
section
open Go
set_option maxRecDepth 20000
noncomputable def M.lpick {α:Type} (c:Int) (n:Int) (k0:Int → Option α):Option α := if cLt c (0:Int) = true then if n = (0:Int) then none else k0 (Int.tmod (IntKind.wrap .i64 ((0:Int) - IntKind.wrap .i64 (c + (1:Int)))) n) else if n = (0:Int) then none else k0 (Int.tmod c n)
theorem lpick_eq {α:Type} (c:Int) (n:Int) (Q:SV → Hp → Option α):callI E look_core (exec E look_core noLps 400) 11 ([SV.int .i64 c,SV.int .i64 n]) ([]) Q = M.lpick c n (fun (x0:Int) => Q (SV.int .i64 x0) ([])) := by kernel_rfl
def lpick_sp:List AS := [.val (.int .i64 0),.val (.int .i64 0)]
noncomputable def _root_.Go.Proofs.YtlagndfhibkjpaaGreat.V.lpick_g (c:Int) (n:Int):Bool := if cLt c (0:Int) = true then if n = (0:Int) then false else true else if n = (0:Int) then false else true
noncomputable def _root_.Go.Proofs.YtlagndfhibkjpaaGreat.V.lpick_r0 (c:Int) (n:Int):Int := if cLt c (0:Int) = true then if n = (0:Int) then (0:Int) else Int.tmod (IntKind.wrap .i64 ((0:Int) - IntKind.wrap .i64 (c + (1:Int)))) n else if n = (0:Int) then (0:Int) else Int.tmod c n
theorem lpick_val {α:Type} (c:Int) (n:Int) (k0:Int → Option α):M.lpick c n k0 = if V.lpick_g c n = true then k0 (V.lpick_r0 c n) else none := by
 unfold M.lpick V.lpick_g V.lpick_r0
 repeat' first | rfl | (split <;> rename_i h <;> first | simp only [if_pos h] | simp only [if_neg h] | skip)
noncomputable def lpick_c {α:Type} (ds:List D) (Q:SV → Hp → Option α):Option α :=
 dI ds fun c ds => dI ds fun n ds => dE ds (if V.lpick_g c n = true then Q (SV.int .i64 (V.lpick_r0 c n)) ([]) else none)
theorem lpick_c_ok {α:Type}:FnOk E.P 11 (fEnt (α := α) lpick_sp lpick_c) :=
 fEnt_ok E (look_core_ok) (exec_sound E E_ok (look_core_ok) (noLps_ok _) 400) fun ds Q r h => by
   unfold lpick_c at h
   obtain ⟨c,ds,rfl,h1⟩ := dI_inv h
   obtain ⟨n,ds,rfl,h2⟩ := dI_inv h1
   obtain ⟨rfl,hE⟩ := dE_inv h2
   exact ⟨[SV.int .i64 c,SV.int .i64 n],[],fun vs => by kernel_rfl,(lpick_eq c n Q).trans ((lpick_val c n (fun (x0:Int) => Q (SV.int .i64 x0) ([]))).trans hE)⟩
noncomputable def look_lpick {α:Type}:LookF α := addFn 11 (fEnt lpick_sp lpick_c) look_core
theorem look_lpick_ok {α:Type}:LookOk E.P (look_lpick (α := α)) := addFn_ok lpick_c_ok (look_core_ok)
noncomputable def M.lpart {α:Type} (n:Int) (most:Int) (k0:Int → Option α):Option α := if V.lpick_g n (IntKind.wrap .i64 (IntKind.wrap .i64 ((2:Int) * most) + (1:Int))) = true then k0 (IntKind.wrap .i64 (V.lpick_r0 n (IntKind.wrap .i64 (IntKind.wrap .i64 ((2:Int) * most) + (1:Int))) - most)) else none
theorem lpart_eq {α:Type} (n:Int) (most:Int) (Q:SV → Hp → Option α):callI E look_lpick (exec E look_lpick noLps 400) 12 ([SV.int .i64 n,SV.int .i64 most]) ([]) Q = M.lpart n most (fun (x1:Int) => Q (SV.int .i64 x1) ([])) := by kernel_rfl
def lpart_sp:List AS := [.val (.int .i64 0),.val (.int .i64 0)]
noncomputable def _root_.Go.Proofs.YtlagndfhibkjpaaGreat.V.lpart_g (n:Int) (most:Int):Bool := if V.lpick_g n (IntKind.wrap .i64 (IntKind.wrap .i64 ((2:Int) * most) + (1:Int))) = true then true else false
noncomputable def _root_.Go.Proofs.YtlagndfhibkjpaaGreat.V.lpart_r0 (n:Int) (most:Int):Int := if V.lpick_g n (IntKind.wrap .i64 (IntKind.wrap .i64 ((2:Int) * most) + (1:Int))) = true then IntKind.wrap .i64 (V.lpick_r0 n (IntKind.wrap .i64 (IntKind.wrap .i64 ((2:Int) * most) + (1:Int))) - most) else (0:Int)
theorem lpart_val {α:Type} (n:Int) (most:Int) (k0:Int → Option α):M.lpart n most k0 = if V.lpart_g n most = true then k0 (V.lpart_r0 n most) else none := by
 unfold M.lpart V.lpart_g V.lpart_r0
 repeat' first | rfl | (split <;> rename_i h <;> first | simp only [if_pos h] | simp only [if_neg h] | skip)
noncomputable def lpart_c {α:Type} (ds:List D) (Q:SV → Hp → Option α):Option α :=
 dI ds fun n ds => dI ds fun most ds => dE ds (if V.lpart_g n most = true then Q (SV.int .i64 (V.lpart_r0 n most)) ([]) else none)
theorem lpart_c_ok {α:Type}:FnOk E.P 12 (fEnt (α := α) lpart_sp lpart_c) :=
 fEnt_ok E (look_lpick_ok) (exec_sound E E_ok (look_lpick_ok) (noLps_ok _) 400) fun ds Q r h => by
   unfold lpart_c at h
   obtain ⟨n,ds,rfl,h1⟩ := dI_inv h
   obtain ⟨most,ds,rfl,h2⟩ := dI_inv h1
   obtain ⟨rfl,hE⟩ := dE_inv h2
   exact ⟨[SV.int .i64 n,SV.int .i64 most],[],fun vs => by kernel_rfl,(lpart_eq n most Q).trans ((lpart_val n most (fun (x1:Int) => Q (SV.int .i64 x1) ([]))).trans hE)⟩
noncomputable def look_lpart {α:Type}:LookF α := addFn 12 (fEnt lpart_sp lpart_c) look_lpick
theorem look_lpart_ok {α:Type}:LookOk E.P (look_lpart (α := α)) := addFn_ok lpart_c_ok (look_lpick_ok)
noncomputable abbrev lpoints_S1 (y1:Value) (y2:L3) (y3:Value) (y4:L3) (y5:Int):St := St.mk (some (SV.ros y1 kP y2) :: some (SV.ros y3 kP y4) :: nn 3 (some (SV.int .i64 y5) :: nn 20 ([]))) []
noncomputable def M.lpoints_l0_step {α:Type} (x10 x12:L3) (kn:Int → Option α) (k0:Option α) (k2:Option α) (x13:Int):Option α := if cLt x13 (↑(List.length x10):Int) = true then if (0:Int) ≤ x13 ∧ x13 < (↑(List.length x10):Int) then if (0:Int) ≤ x13 ∧ x13 < (↑(List.length x12):Int) then if (!(cEq (Prod.fst (List.getD x10 (Int.toNat x13) ((0:Int),(0:Int),(0:Int)))) (Prod.fst (List.getD x12 (Int.toNat x13) ((0:Int),(0:Int),(0:Int)))) && (cEq (Prod.fst (Prod.snd (List.getD x10 (Int.toNat x13) ((0:Int),(0:Int),(0:Int))))) (Prod.fst (Prod.snd (List.getD x12 (Int.toNat x13) ((0:Int),(0:Int),(0:Int))))) && (cEq (Prod.snd (Prod.snd (List.getD x10 (Int.toNat x13) ((0:Int),(0:Int),(0:Int))))) (Prod.snd (Prod.snd (List.getD x12 (Int.toNat x13) ((0:Int),(0:Int),(0:Int))))) && true)))) = true then k0 else kn (IntKind.wrap .i64 (x13 + (1:Int))) else none else none else k2
noncomputable def M.lpoints_l0 {α:Type} (x10 x12:L3) (k0:Option α) (k2:Option α):Nat → Int → Option α
 | 0,_ => none
 | n + 1,x13 => M.lpoints_l0_step x10 x12 (M.lpoints_l0 x10 x12 k0 k2 n) k0 k2 x13
theorem lpoints_l0_step_eq {α:Type} (x9:Value) (x10:L3) (x11:Value) (x12:L3) (x13:Int) (Q:Ex → St → Option α):(loopStep E (exec E look_lpart noLps 400) 25 [false,true,false,true,true] 0 (codeAt E.P 25 [false,true,false,true,true])) (lpoints_S1 x9 x10 x11 x12 x13) Q = M.lpoints_l0_step x10 x12 (fun (x14:Int) => Q .normal (lpoints_S1 x9 x10 x11 x12 x14)) (Q .ret (St.mk (nn 4 (some (SV.bool false) :: nn 21 ([]))) [])) (Q (.exit 0) (St.mk (nn 26 ([])) [])) x13 := by kernel_rfl
theorem lpoints_l0_iter {α:Type} (x9:Value) (x10:L3) (x11:Value) (x12:L3) (Q:Ex → St → Option α):∀ (n:Nat) (x13:Int),iter (loopStep E (exec E look_lpart noLps 400) 25 [false,true,false,true,true] 0 (codeAt E.P 25 [false,true,false,true,true])) n (lpoints_S1 x9 x10 x11 x12 x13) Q = M.lpoints_l0 x10 x12 (Q .ret (St.mk (nn 4 (some (SV.bool false) :: nn 21 ([]))) [])) (Q (.exit 0) (St.mk (nn 26 ([])) [])) n x13
 | 0,_ => rfl
 | n + 1,x13 => (lpoints_l0_step_eq x9 x10 x11 x12 x13 (iterK (loopStep E (exec E look_lpart noLps 400) 25 [false,true,false,true,true] 0 (codeAt E.P 25 [false,true,false,true,true])) n Q)).trans (congrArg (fun kn => M.lpoints_l0_step x10 x12 kn (Q .ret (St.mk (nn 4 (some (SV.bool false) :: nn 21 ([]))) [])) (Q (.exit 0) (St.mk (nn 26 ([])) [])) x13) (funext fun x13 => lpoints_l0_iter x9 x10 x11 x12 Q n x13))
noncomputable def lpoints_l0_go {α:Type} (ds:List D) (Q:Ex → St → Option α):Option α :=
 dV ds fun x9 ds => dL kP ds fun x10 ds => dV ds fun x11 ds => dL kP ds fun x12 ds => dI ds fun x13 ds => dE ds (M.lpoints_l0 x10 x12 (Q .ret (St.mk (nn 4 (some (SV.bool false) :: nn 21 ([]))) [])) (Q (.exit 0) (St.mk (nn 26 ([])) [])) (100 + x10.length + x12.length) x13)
theorem lpoints_l0_ok {α:Type}:LoopOk E.P 25 [false,true,false,true,true] 0 (lEnt (α := α) (St.mk (some (SV.ros undef kP []) :: some (SV.ros undef kP []) :: nn 3 (some (SV.int .i64 (0:Int)) :: nn 20 ([]))) []) lpoints_l0_go) :=
 lEnt_ok E (exec_sound E E_ok (look_lpart_ok) (noLps_ok _) 400) fun ds Q r h S hS => by
   unfold lpoints_l0_go at h
   obtain ⟨x9,ds,rfl,h1⟩ := dV_inv h
   obtain ⟨x10,ds,rfl,h2⟩ := dL_inv h1
   obtain ⟨x11,ds,rfl,h3⟩ := dV_inv h2
   obtain ⟨x12,ds,rfl,h4⟩ := dL_inv h3
   obtain ⟨x13,ds,rfl,h5⟩ := dI_inv h4
   obtain ⟨rfl,hE⟩ := dE_inv h5
   have e:fillS (St.mk (some (SV.ros undef kP []) :: some (SV.ros undef kP []) :: nn 3 (some (SV.int .i64 (0:Int)) :: nn 20 ([]))) []) [.v x9,.l kP x10,.v x11,.l kP x12,.i x13] = some (lpoints_S1 x9 x10 x11 x12 x13) := by kernel_rfl
   rw [e] at hS
   cases hS
   exact ⟨_,(lpoints_l0_iter x9 x10 x11 x12 Q _ x13).trans hE⟩
noncomputable def lpoints_l0_lps {α:Type}:LookL α := addLp 25 [false,true,false,true,true] 0 (lEnt (St.mk (some (SV.ros undef kP []) :: some (SV.ros undef kP []) :: nn 3 (some (SV.int .i64 (0:Int)) :: nn 20 ([]))) []) lpoints_l0_go) noLps
theorem lpoints_l0_lps_ok {α:Type}:LoopsOk E.P (lpoints_l0_lps (α := α)) := addLp_ok lpoints_l0_ok (noLps_ok _)
noncomputable def M.lpoints {α:Type} (a:L3) (b:L3) (k0:Bool → Option α):Option α := if (!cEq (↑(List.length a):Int) (↑(List.length b):Int)) = true then k0 false else M.lpoints_l0 a b (k0 false) (k0 true) ((100:Nat) + List.length a + List.length b) (0:Int)
theorem lpoints_eq {α:Type} (a:L3) (b:L3) (v15:Value) (v16:Value) (Q:SV → Hp → Option α):callI E look_lpart (exec E look_lpart lpoints_l0_lps 400) 25 ([SV.ros v15 kP a,SV.ros v16 kP b]) ([]) Q = M.lpoints a b (fun (x17:Bool) => Q (SV.bool x17) ([])) := by kernel_rfl
def lpoints_sp:List AS := [.ro (.st (.i .i64) [.i .i64,.i .i64]),.ro (.st (.i .i64) [.i .i64,.i .i64])]
def _root_.Go.Proofs.YtlagndfhibkjpaaGreat.V.ptsEq (a b:List P3):Bool := decide (a = b)
theorem lpoints_l0_val {α:Type} (a b:List P3) (hl:a.length < 1099511627776) (he:a.length = b.length) (k0 k2:Option α):∀ (fuel i:Nat),i ≤ a.length → a.length - i < fuel →
   M.lpoints_l0 a b k0 k2 fuel (i:Int) = if a.drop i = b.drop i then k2 else k0
 | 0,i,h1,h2 => by omega
 | f + 1,i,h1,h2 => by
   unfold M.lpoints_l0 M.lpoints_l0_step
   rw [cLt_nat]
   by_cases hx:i < a.length
   · rw [w_next (by omega), lpoints_l0_val a b hl he k0 k2 f (i + 1) (by omega) (by omega)]
     have hb:((0:Int) ≤ (i:Int) ∧ (i:Int) < (b.length:Int)) = True := eq_true (by omega)
     simp only [hx,decide_true,if_true,inB hx,hb,toNat_nat,eq3]
     rw [drop_pt a i hx,drop_pt b i (by omega)]
     show (if (!decide (pt a i = pt b i)) = true then _ else _) = _
     by_cases hp:pt a i = pt b i
     · simp [hp]
     · simp [hp]
   · have : i = a.length := by omega
     subst this
     rw [if_neg (by simp),List.drop_eq_nil_of_le (Nat.le_refl _),List.drop_eq_nil_of_le (by omega),if_pos rfl]
theorem lpoints_v {α:Type} (a b:List P3) (hg:V.lenB a.length = true) (k0:Bool → Option α):M.lpoints a b k0 = k0 (V.ptsEq a b) := by
 unfold M.lpoints V.ptsEq
 rw [cEq_nat]
 by_cases h:a.length = b.length
 · simp only [h, decide_true, Bool.not_true, Bool.false_eq_true, if_false]
   refine (lpoints_l0_val a b (lenB_lt hg) h (k0 false) (k0 true) _ 0 (by omega) (by omega)).trans ?_
   rw [List.drop_zero,List.drop_zero]
   by_cases e:a = b <;> simp [e]
 · have : a ≠ b := fun e => h (by rw [e])
   simp [h,this]
noncomputable def lpoints_h {α:Type} (ds:List D) (Q:SV → Hp → Option α):Option α :=
 dL kP ds fun a ds => dL kP ds fun b ds => dE ds (if V.lenB a.length = true then Q (.bool (V.ptsEq a b)) ([]) else none)
theorem lpoints_h_ok {α:Type}:FnOk E.P 25 (fEnt (α := α) lpoints_sp lpoints_h) :=
 fEntR_ok E (look_lpart_ok) (exec_sound E E_ok (look_lpart_ok) (lpoints_l0_lps_ok) 400) fun ds Q r h => by
   unfold lpoints_h at h
   obtain ⟨a,ds,rfl,h1⟩ := dL_inv h
   obtain ⟨b,ds,rfl,h2⟩ := dL_inv h1
   obtain ⟨rfl,hE⟩ := dE_inv h2
   split at hE
   · rename_i hg
     exact ⟨_,_,hE,fun vs => ⟨_,_,by kernel_rfl,(lpoints_eq a b (vs.headD undef) (vs.tail.headD undef) _).trans (lpoints_v a b hg _)⟩⟩
   · cases hE
noncomputable def look_lpoints {α:Type}:LookF α := addFn 25 (fEnt lpoints_sp lpoints_h) look_lpart
theorem look_lpoints_ok {α:Type}:LookOk E.P (look_lpoints (α := α)) := addFn_ok lpoints_h_ok (look_lpart_ok)
theorem short_eq' (p:P3):V.pShort p = shortP p := hid_eq _
end
section
open Go
def negT (p:P3):P3 := (-p.1,-p.2.1,-p.2.2)
theorem gcd3_bare {p:P3} (h:p ≠ (0,0,0)):gcd3 (bareP p) = 1 := by
 have hp := gcd3_pos h
 have d1:gcd3 p ∣ p.1.natAbs := Nat.dvd_trans (Nat.gcd_dvd_left _ _) (Nat.gcd_dvd_left _ _)
 have d2:gcd3 p ∣ p.2.1.natAbs := Nat.dvd_trans (Nat.gcd_dvd_left _ _) (Nat.gcd_dvd_right _ _)
 have d3:gcd3 p ∣ p.2.2.natAbs := Nat.gcd_dvd_right _ _
 have e:∀ x:Int,(x.tdiv (gcd3 p:Int)).natAbs = x.natAbs / gcd3 p := fun x => by rw [Int.natAbs_tdiv]; rfl
 have h1:gcd3 (bareP p) = Nat.gcd (Nat.gcd (p.1.natAbs / gcd3 p) (p.2.1.natAbs / gcd3 p)) (p.2.2.natAbs / gcd3 p) := by
   show Nat.gcd (Nat.gcd (p.1.tdiv (gcd3 p:Int)).natAbs (p.2.1.tdiv (gcd3 p:Int)).natAbs) (p.2.2.tdiv (gcd3 p:Int)).natAbs = _
   rw [e,e,e]
 rw [h1,Nat.gcd_div d1 d2,Nat.gcd_div (Nat.dvd_gcd d1 d2) d3]
 exact Nat.div_self hp
theorem bareP_one {p:P3} (h:gcd3 p = 1):bareP p = p := by
 unfold bareP divP
 rw [h]
 simp
theorem shortP_zero:shortP (0,0,0) = (0,0,0) := by decide +kernel
theorem shortP_form (p:P3):shortP p = (0,0,0) ∨ (gcd3 (shortP p) = 1 ∧ bigP (shortP p) 1048576 = false ∧ p ≠ (0,0,0) ∧ bigP p 4398046511104 = false) := by
 unfold shortP
 split
 · exact .inl rfl
 · rename_i h
   have h':bigP p 4398046511104 = false := by simpa using h
   by_cases h0:p = (0,0,0)
   · subst h0
     exact .inl shortP_zero
   · have h1 := divP_ne h0
     have h2 := shrink_ne 64 _ h1
     refine .inr ⟨gcd3_bare h2,bigP_div _ ?_,h0,h'⟩
     refine shrink_small 64 64 _ ?_ (Nat.le_refl _)
     have h3 := bigP_false (bigP_div (gcd3 p) h')
     apply bigP_eq_false
     have e := lim_64
     unfold bareP
     omega
theorem big_mono {p:P3} {m n:Int} (h:bigP p m = false) (hmn:m ≤ n):bigP p n = false := by
 have := bigP_false h
 apply bigP_eq_false; omega
theorem shortP_stay {p:P3} (h1:gcd3 p = 1) (h2:bigP p 1048576 = false):shortP p = p := by
 unfold shortP
 rw [if_neg (by rw [big_mono h2 (by omega)]; decide),bareP_one h1,shrink_stop 64 h2,bareP_one h1]
theorem shortP_idem (p:P3):shortP (shortP p) = shortP p := by
 rcases shortP_form p with h | ⟨h1,h2,_⟩
 · rw [h,shortP_zero]
 · exact shortP_stay h1 h2
theorem shortP_small (p:P3):bigP (shortP p) 1048576 = false := by
 rcases shortP_form p with h | ⟨_,h2,_⟩
 · rw [h]; decide
 · exact h2
theorem kF_ind (Q:St2 → Prop) (l:List P3) (i j:Nat) (h:∀ k st,j < k → k < l.length → Q st → Q (trip l i j k st)):∀ (m k:Nat) (st:St2),j < k → k + m ≤ l.length → Q st → Q (kF l i j m k st)
 | 0,k,st,_,_,hq => hq
 | m + 1,k,st,hk,hm,hq => kF_ind Q l i j h m (k + 1) _ (by omega) (by omega) (h k st hk (by omega) hq)
theorem jF_ind (Q:St2 → Prop) (l:List P3) (i:Nat) (h:∀ j k st,i < j → j < k → k < l.length → Q st → Q (trip l i j k st)):∀ (m j:Nat) (st:St2),i < j → j + m ≤ l.length → Q st → Q (jF l i m j st)
 | 0,j,st,_,_,hq => hq
 | m + 1,j,st,hj,hm,hq => jF_ind Q l i h m (j + 1) _ (by omega) (by omega) (kF_ind Q l i j (fun k st hk hl hq => h j k st hj hk hl hq) _ _ _ (by omega) (by omega) hq)
theorem iF_ind (Q:St2 → Prop) (l:List P3) (h:∀ i j k st,i < j → j < k → k < l.length → Q st → Q (trip l i j k st)):∀ (m i:Nat) (st:St2),i + m ≤ l.length → Q st → Q (iF l m i st)
 | 0,i,st,_,hq => hq
 | m + 1,i,st,hm,hq => iF_ind Q l h m (i + 1) _ (by omega) (jF_ind Q l i (fun j k st hj hk hl hq => h i j k st hj hk hl hq) _ _ _ (by omega) (by omega) hq)
theorem facesP_ind (Q:St2 → Prop) (l:List P3) (h:∀ i j k st,i < j → j < k → k < l.length → Q st → Q (trip l i j k st)) (h0:Q ([],[])):Q (facesP l) :=
 iF_ind Q l h _ _ _ (by omega) h0
def Sup (l:List P3) (i j k:Nat):Prop := triN l i j k ≠ (0,0,0) ∧ triS l i j k ≠ 0
def Neat (p:P3):Prop := p ≠ (0,0,0) ∧ shortP p = p ∧ bigP p 1048576 = false
theorem short_neat {p:P3} (h0:p ≠ (0,0,0)) (hb:bigP p 4398046511104 = false):Neat (shortP p) := by
 refine ⟨?_,shortP_idem p,shortP_small p⟩
 unfold shortP
 rw [if_neg (by rw [hb]; decide)]
 exact divP_ne (shrink_ne 64 _ (divP_ne h0))
theorem Sm.big {p:P3} {n m:Int} (h:Sm p n) (hnm:n ≤ m):bigP p m = false := by
 unfold Sm at h; exact bigP_eq_false (by omega)
theorem Sm.mono {p:P3} {n m:Int} (h:Sm p n) (hnm:n ≤ m):Sm p m := by unfold Sm at *; omega
theorem sub3_ne {a b:P3} (h:a ≠ b):sub3 a b ≠ (0,0,0) := by
 intro e
 apply h
 simp only [zero3,sub3] at e
 obtain ⟨a1,a2,a3⟩ := a
 obtain ⟨b1,b2,b3⟩ := b
 simp only at e
 rw [show a1 = b1 by omega,show a2 = b2 by omega,show a3 = b3 by omega]
structure Pts (l:List P3):Prop where
 sm:∀ p ∈ l,Sm p 65536
 nd:l.Nodup
theorem pts_of {l:List P3} (h:V.apartP l = true):Pts l := by
 simp only [V.apartP,decide_eq_true_eq] at h
 exact ⟨fun p hp => sm_of (h.1 p hp),h.2⟩
theorem Pts.ne {l:List P3} (h:Pts l) {i j:Nat} (hij:i < j) (hj:j < l.length):pt l j ≠ pt l i := by
 rw [pt_eq l i (by omega),pt_eq l j hj]
 intro e
 have := (List.getElem_inj h.nd).1 e
 omega
theorem Pts.at {l:List P3} (h:Pts l) {i:Nat} (hi:i < l.length):Sm (pt l i) 65536 := h.sm _ (pt_mem l i hi)
theorem Pts.sub {l:List P3} (h:Pts l) {i j:Nat} (hi:i < l.length) (hj:j < l.length):V.pSub (pt l j) (pt l i) = sub3 (pt l j) (pt l i) ∧ Sm (sub3 (pt l j) (pt l i)) 131072 := sub_sm (h.at hj) (h.at hi)
theorem Pts.triN {l:List P3} (h:Pts l) {i j k:Nat} (hi:i < l.length) (hj:j < l.length) (hk:k < l.length) :
   triN l i j k = cr3 (sub3 (pt l j) (pt l i)) (sub3 (pt l k) (pt l i)) ∧ Sm (cr3 (sub3 (pt l j) (pt l i)) (sub3 (pt l k) (pt l i))) 34359738368 := by
 obtain ⟨e1,s1⟩ := h.sub hi hj
 obtain ⟨e2,s2⟩ := h.sub hi hk
 unfold Sx.triN
 rw [e1,e2]
 exact cr_sm s1 s2
theorem negP_eq {p:P3} (h:bigP p 1048576 = false):negP p = negT p := by
 have := bigP_false h
 unfold negP V.pSub negT
 simp only
 rw [IntWalk.i64_in _ (by omega),IntWalk.i64_in _ (by omega),IntWalk.i64_in _ (by omega)]
 simp
theorem sideP_cases (l:List P3) (n a:P3):V.sideP l n a = 1 ∨ V.sideP l n a = -1 ∨ V.sideP l n a = 0 := by
 unfold V.sideP
 split
 · exact .inl rfl
 · split
   · exact .inr (.inl rfl)
   · exact .inr (.inr rfl)
theorem mulP_one {n:P3} (h:Sm n 34359738368):mulP 1 n = n := by
 unfold Sm at h; unfold mulP
 simp only [Int.one_mul]
 rw [IntWalk.i64_in _ (by omega),IntWalk.i64_in _ (by omega),IntWalk.i64_in _ (by omega)]
theorem mulP_neg {n:P3} (h:Sm n 34359738368):mulP (-1) n = negT n := by
 unfold Sm at h; unfold mulP negT
 simp only [Int.neg_mul,Int.one_mul]
 rw [IntWalk.i64_in _ (by omega),IntWalk.i64_in _ (by omega),IntWalk.i64_in _ (by omega)]
theorem Sm.neg {p:P3} {n:Int} (h:Sm p n):Sm (negT p) n := by
 unfold Sm at *; simp only [negT]; omega
theorem negT_ne {p:P3} (h:p ≠ (0,0,0)):negT p ≠ (0,0,0) := by
 intro e; apply h
 rw [zero3] at e ⊢
 simp only [negT] at e
 omega
theorem triA_neat {l:List P3} (h:Pts l) {i j k:Nat} (hi:i < l.length) (hj:j < l.length) (hk:k < l.length) (hs:Sup l i j k):Neat (triA l i j k) := by
 obtain ⟨e,s⟩ := h.triN hi hj hk
 unfold triA
 rw [short_eq']
 rcases sideP_cases l (triN l i j k) (pt l i) with hc | hc | hc
 · rw [show triS l i j k = 1 from hc, mulP_one (by rw [e]; exact s)]
   exact short_neat hs.1 (by rw [e]; exact s.big (by omega))
 · rw [show triS l i j k = -1 from hc, mulP_neg (by rw [e]; exact s)]
   exact short_neat (negT_ne hs.1) (by rw [e]; exact s.neg.big (by omega))
 · exact absurd hc hs.2
theorem triE_neat {l:List P3} (h:Pts l) {i j k:Nat} (hij:i < j) (hjk:j < k) (hk:k < l.length):∀ e ∈ triE l i j k,Neat (V.pShort e) := by
 have key:∀ a b,a < b → b < l.length → Neat (V.pShort (V.pSub (pt l b) (pt l a))) := by
   intro a b hab hb
   obtain ⟨e1,s1⟩ := h.sub (i := a) (j := b) (by omega) hb
   rw [short_eq',e1]
   exact short_neat (sub3_ne (h.ne hab hb)) (s1.big (by omega))
 intro e he
 simp only [triE,List.mem_cons,List.not_mem_nil,or_false] at he
 rcases he with rfl | rfl | rfl
 · exact key i j hij (by omega)
 · exact key i k (by omega) hk
 · exact key j k hjk hk
theorem negT_negT (p:P3):negT (negT p) = p := by simp [negT]
theorem negT_self {p:P3} (h:p ≠ (0,0,0)):p ≠ negT p := by
 intro e
 apply h
 have := congrArg (fun q:P3 => q.1) e
 have h2 := congrArg (fun q:P3 => q.2.1) e
 have h3 := congrArg (fun q:P3 => q.2.2) e
 simp only [negT] at this h2 h3
 exact zero3.2 (by omega)
structure EOk (es:List P3):Prop where
 neat:∀ e ∈ es,Neat e
 nd:es.Nodup
 neg:∀ e ∈ es,negT e ∉ es
theorem EOk.add {es:List P3} (h:EOk es) {e:P3} (he:Neat (V.pShort e)):EOk (addE es e) := by
 unfold addE
 split
 · exact h
 · rename_i hc
   rw [not_or,negP_eq he.2.2] at hc
   generalize V.pShort e = d at *
   refine ⟨?_,?_,?_⟩
   · intro x hx
     rcases List.mem_append.1 hx with hx | hx
     · exact h.neat x hx
     · rw [List.mem_singleton.1 hx]; exact he
   · rw [List.nodup_append]
     exact ⟨h.nd,by simp,fun a ha b hb => by rw [List.mem_singleton.1 hb]; rintro rfl; exact hc.1 ha⟩
   · intro x hx hn
     rcases List.mem_append.1 hx with hx | hx <;> rcases List.mem_append.1 hn with hn | hn
     · exact h.neg x hx hn
     · have e1 := List.mem_singleton.1 hn
       apply hc.2
       rw [← e1,negT_negT]; exact hx
     · rw [List.mem_singleton.1 hx] at hn; exact hc.2 hn
     · rw [List.mem_singleton.1 hx] at hn
       exact negT_self he.1 (List.mem_singleton.1 hn).symm
theorem EOk.adds:∀ {l es:List P3},EOk es → (∀ e ∈ l,Neat (V.pShort e)) → EOk (l.foldl addE es)
 | [],es,h,_ => h
 | e :: l,es,h,hl => EOk.adds (l := l) (es := addE es e) (h.add (hl e (by simp))) (fun x hx => hl x (by simp [hx]))
theorem faces_tidy {l:List P3} (h:Pts l):(facesP l).1.Nodup ∧ (∀ a ∈ (facesP l).1,Neat a) ∧ EOk (facesP l).2 := by
 refine facesP_ind (fun st => st.1.Nodup ∧ (∀ a ∈ st.1,Neat a) ∧ EOk st.2) l ?_ ⟨by simp,by simp,⟨by simp,by simp,by simp⟩⟩
 rintro i j k st hij hjk hk ⟨h1,h2,h3⟩
 by_cases c1:triN l i j k = (0,0,0)
 · have e : trip l i j k st = st := by unfold trip; rw [if_pos c1]
   rw [e]; exact ⟨h1,h2,h3⟩
 by_cases c2:triS l i j k = 0
 · have e : trip l i j k st = st := by unfold trip; rw [if_neg c1, if_pos c2]
   rw [e]; exact ⟨h1,h2,h3⟩
 have e:trip l i j k st = (if triA l i j k ∈ st.1 then st.1 else st.1 ++ [triA l i j k],(triE l i j k).foldl addE st.2) := by unfold trip; rw [if_neg c1,if_neg c2]
 rw [e]
 have hn := triA_neat h (by omega) (by omega) hk ⟨c1,c2⟩
 refine ⟨?_,?_,h3.adds (triE_neat h hij hjk hk)⟩
 · simp only
   split
   · exact h1
   · rename_i hc
     rw [List.nodup_append]
     exact ⟨h1,by simp,fun a ha b hb => by rw [List.mem_singleton.1 hb]; rintro rfl; exact hc ha⟩
 · simp only
   split
   · exact h2
   · intro a ha
     rcases List.mem_append.1 ha with ha | ha
     · exact h2 a ha
     · rw [List.mem_singleton.1 ha]; exact hn
theorem one_neat:Neat (1,0,0) ∧ Neat (0,1,0) ∧ Neat (0,0,1) := by
 refine ⟨⟨by decide,by decide +kernel,by decide⟩,⟨by decide,by decide +kernel,by decide⟩,⟨by decide,by decide +kernel,by decide⟩⟩
theorem three_ok:EOk [(1,0,0),(0,1,0),(0,0,1)] := by
 obtain ⟨h1,h2,h3⟩ := one_neat
 refine ⟨?_,by decide,by decide⟩
 intro e he
 simp only [List.mem_cons,List.not_mem_nil,or_false] at he
 rcases he with rfl | rfl | rfl <;> assumption
theorem core_tidy {k r hx hy hz:Int} {l:List P3} (hc:chkP k r hx hy hz l = 0) :
   (corAP k l).Nodup ∧ (∀ a ∈ corAP k l,Neat a) ∧ EOk (corEP k l) := by
 unfold corAP corEP
 rcases chk_range hc with ⟨rfl,_⟩ | ⟨rfl,_⟩ | ⟨rfl,_⟩ | ⟨rfl,_,_,h3,_⟩
 · simp only [Int.reduceEq, if_false]
   exact ⟨by simp,by simp,⟨by simp,by simp,by simp⟩⟩
 · simp only [Int.reduceEq, if_false, if_true]
   refine ⟨by simp,by simp,⟨?_,by simp,by decide⟩⟩
   intro e he
   rw [List.mem_singleton.1 he]; exact one_neat.1
 · simp only [Int.reduceEq, if_false, if_true]
   exact ⟨three_ok.nd,three_ok.neat,three_ok⟩
 · simp only [Int.reduceEq, if_false, if_true]
   exact faces_tidy (pts_of h3)
end
end Go.Proofs.YtlagndfhibkjpaaGreat.Sx
section
namespace Go.Proofs.YtlagndfhibkjpaaGreat
open Go Go.Proofs.YtlagndfhibkjpaaGreat.Sx
abbrev V.T3 := Int × Int × Int
abbrev V.T4 := Int × Int × Int × Int
abbrev V.T9 := (Int × Int × Int) × (Int × Int × Int) × (Int × Int × Int)
def V.on {β:Type} (o:Option β) (bad:Bool):Bool := o.isNone || bad
def V.no (l:List (Option Int)):Bool := l.any Option.isNone
def V.q3 (o:Option V.T3):V.T3 := o.getD (0,0,0)
def V.q4 (o:Option V.T4):V.T4 := o.getD (0,0,0,0)
def V.q9 (o:Option V.T9):V.T9 := o.getD ((0,0,0),(0,0,0),(0,0,0))
def V.x3 (o:Option V.T3):Int := (V.q3 o).1
def V.y3 (o:Option V.T3):Int := (V.q3 o).2.1
def V.z3 (o:Option V.T3):Int := (V.q3 o).2.2
def V.w4 (o:Option V.T4):Int := (V.q4 o).1
def V.x4 (o:Option V.T4):Int := (V.q4 o).2.1
def V.y4 (o:Option V.T4):Int := (V.q4 o).2.2.1
def V.z4 (o:Option V.T4):Int := (V.q4 o).2.2.2
def V.m0 (o:Option V.T9):Int := (V.q9 o).1.1
def V.m1 (o:Option V.T9):Int := (V.q9 o).1.2.1
def V.m2 (o:Option V.T9):Int := (V.q9 o).1.2.2
def V.m3 (o:Option V.T9):Int := (V.q9 o).2.1.1
def V.m4 (o:Option V.T9):Int := (V.q9 o).2.1.2.1
def V.m5 (o:Option V.T9):Int := (V.q9 o).2.1.2.2
def V.m6 (o:Option V.T9):Int := (V.q9 o).2.2.1
def V.m7 (o:Option V.T9):Int := (V.q9 o).2.2.2.1
def V.m8 (o:Option V.T9):Int := (V.q9 o).2.2.2.2
noncomputable def V.t3 (a b c:Option Int):Option V.T3 := if V.no [a,b,c] = true then none else some (V.gv a,V.gv b,V.gv c)
noncomputable def V.tAdd (a b:V.T3):Option V.T3 := V.t3 (V.mAdd a.1 b.1) (V.mAdd a.2.1 b.2.1) (V.mAdd a.2.2 b.2.2)
noncomputable def V.tDot (a b:V.T3):Option Int := V.mDot [a.1,a.2.1,a.2.2] [b.1,b.2.1,b.2.2]
noncomputable def V.tTurn (m:V.T9) (a:V.T3):Option V.T3 := V.t3 (V.tDot m.1 a) (V.tDot m.2.1 a) (V.tDot m.2.2 a)
noncomputable def V.t4 (a b c d:Option Int):Option V.T4 := if V.no [a,b,c,d] = true then none else some (V.gv a,V.gv b,V.gv c,V.gv d)
noncomputable def V.tLen4 (q:V.T4):Option Int := V.mNorm [q.1,q.2.1,q.2.2.1,q.2.2.2]
noncomputable def V.tWhole (q:V.T4):Option V.T4 :=
 if V.gv (V.tLen4 q) < 2147483648 ∨ V.no [V.tLen4 q] = true then none else
 V.t4 (V.mDiv q.1 (V.gv (V.tLen4 q))) (V.mDiv q.2.1 (V.gv (V.tLen4 q))) (V.mDiv q.2.2.1 (V.gv (V.tLen4 q))) (V.mDiv q.2.2.2 (V.gv (V.tLen4 q)))
noncomputable def V.dbl (n:Int):Int := V.gv (V.mAdd n n)
noncomputable def V.neg (n:Int):Int := V.gv (V.mSub 0 n)
noncomputable def V.twoD (a b c d:Int):Option Int := V.mDot [a,b] [c,d]
noncomputable def V.tRows (q:V.T4):Option V.T9 :=
 let w := q.1; let x := q.2.1; let y := q.2.2.1; let z := q.2.2.2
 if V.no [V.mAdd w w,V.mAdd x x,V.mAdd y y,V.mAdd z z,V.mSub 0 x,V.mSub 0 y,V.mSub 0 z,V.twoD (V.dbl y) (V.dbl z) y z,V.twoD (V.dbl x) (V.dbl z) x z,V.twoD (V.dbl x) (V.dbl y) x y] = true then none else
 if V.no [V.mSub 4294967296 (V.gv (V.twoD (V.dbl y) (V.dbl z) y z)),V.twoD (V.dbl x) (V.dbl w) y (V.neg z),V.twoD (V.dbl x) (V.dbl w) z y,V.twoD (V.dbl x) (V.dbl w) y z,
   V.mSub 4294967296 (V.gv (V.twoD (V.dbl x) (V.dbl z) x z)),V.twoD (V.dbl y) (V.dbl w) z (V.neg x),V.twoD (V.dbl x) (V.dbl w) z (V.neg y),V.twoD (V.dbl y) (V.dbl w) z x,
   V.mSub 4294967296 (V.gv (V.twoD (V.dbl x) (V.dbl y) x y))] = true then none else
 some ((V.gv (V.mSub 4294967296 (V.gv (V.twoD (V.dbl y) (V.dbl z) y z))),V.gv (V.twoD (V.dbl x) (V.dbl w) y (V.neg z)),V.gv (V.twoD (V.dbl x) (V.dbl w) z y)),
   (V.gv (V.twoD (V.dbl x) (V.dbl w) y z),V.gv (V.mSub 4294967296 (V.gv (V.twoD (V.dbl x) (V.dbl z) x z))),V.gv (V.twoD (V.dbl y) (V.dbl w) z (V.neg x))),
   (V.gv (V.twoD (V.dbl x) (V.dbl w) z (V.neg y)),V.gv (V.twoD (V.dbl y) (V.dbl w) z x),V.gv (V.mSub 4294967296 (V.gv (V.twoD (V.dbl x) (V.dbl y) x y)))))
end Go.Proofs.YtlagndfhibkjpaaGreat
namespace Go.Proofs.YtlagndfhibkjpaaGreat.Sx
theorem if_flag {β:Type} {f g:Bool} (h:f = g) (a b:β):(if f = true then a else b) = if g = true then a else b := by rw [h]
theorem no_cons (o:Option Int) (l:List (Option Int)):V.no (o :: l) = (o.isNone || V.no l) := rfl
theorem no_nil:V.no [] = false := rfl
end Go.Proofs.YtlagndfhibkjpaaGreat.Sx
end
namespace Go.Proofs.YtlagndfhibkjpaaGreat.Sx
section
open Go
set_option maxRecDepth 20000
noncomputable def M.vadd {α:Type} (bad:Bool) (ax:Int) (ay:Int) (az:Int) (bx:Int) (b_y:Int) (bz:Int) (k0:Int → Int → Int → Bool → Option α):Option α := if V.gn (V.mAdd az bz) (V.gn (V.mAdd ay b_y) (V.gn (V.mAdd ax bx) false)) = true then k0 (0:Int) (0:Int) (0:Int) true else k0 (V.gv (V.mAdd ax bx)) (V.gv (V.mAdd ay b_y)) (V.gv (V.mAdd az bz)) bad
theorem vadd_eq {α:Type} (bad:Bool) (ax:Int) (ay:Int) (az:Int) (bx:Int) (b_y:Int) (bz:Int) (Q:SV → Hp → Option α):callI E look_dot (exec E look_dot noLps 400) 15 ([SV.ptr (nat_lit 0) (nat_lit 0),SV.agg [SV.int .i64 ax,SV.int .i64 ay,SV.int .i64 az],SV.agg [SV.int .i64 bx,SV.int .i64 b_y,SV.int .i64 bz]]) ([.cells [SV.bool bad] (nat_lit 50)]) Q = M.vadd bad ax ay az bx b_y bz (fun (x0 x1 x2:Int) (x3:Bool) => Q (SV.agg [SV.int .i64 x0,SV.int .i64 x1,SV.int .i64 x2]) ([.cells [SV.bool x3] (nat_lit 50)])) := by kernel_rfl
def vadd_sp:List AS := [.ptr 50 [.bool false],.val (.agg [.int .i64 0,.int .i64 0,.int .i64 0]),.val (.agg [.int .i64 0,.int .i64 0,.int .i64 0])]
theorem vadd_v {α:Type} (bad:Bool) (ax:Int) (ay:Int) (az:Int) (bx:Int) (b_y:Int) (bz:Int) (k0:Int → Int → Int → Bool → Option α):M.vadd bad ax ay az bx b_y bz k0 = k0 (V.x3 (V.tAdd (ax,ay,az) (bx,b_y,bz))) (V.y3 (V.tAdd (ax,ay,az) (bx,b_y,bz))) (V.z3 (V.tAdd (ax,ay,az) (bx,b_y,bz))) (V.on (V.tAdd (ax,ay,az) (bx,b_y,bz)) bad) := by
 unfold M.vadd V.tAdd V.t3
 generalize h0:V.mAdd ax bx = o0
 generalize h1:V.mAdd ay b_y = o1
 generalize h2:V.mAdd az bz = o2
 cases o0 <;> cases o1 <;> cases o2 <;> rfl
noncomputable def vadd_h {α:Type} (ds:List D) (Q:SV → Hp → Option α):Option α :=
 dB ds fun bad ds => dI ds fun ax ds => dI ds fun ay ds => dI ds fun az ds => dI ds fun bx ds => dI ds fun b_y ds => dI ds fun bz ds => dE ds (Q (.agg [.int .i64 (V.x3 (V.tAdd (ax,ay,az) (bx,b_y,bz))),.int .i64 (V.y3 (V.tAdd (ax,ay,az) (bx,b_y,bz))),.int .i64 (V.z3 (V.tAdd (ax,ay,az) (bx,b_y,bz)))]) ([.cells [.bool (V.on (V.tAdd (ax,ay,az) (bx,b_y,bz)) bad)] 50]))
theorem vadd_h_ok {α:Type}:FnOk E.P 15 (fEnt (α := α) vadd_sp vadd_h) :=
 fEnt_ok E (look_dot_ok) (exec_sound E E_ok (look_dot_ok) (noLps_ok _) 400) fun ds Q r h => by
   unfold vadd_h at h
   obtain ⟨bad,ds,rfl,h1⟩ := dB_inv h
   obtain ⟨ax,ds,rfl,h2⟩ := dI_inv h1
   obtain ⟨ay,ds,rfl,h3⟩ := dI_inv h2
   obtain ⟨az,ds,rfl,h4⟩ := dI_inv h3
   obtain ⟨bx,ds,rfl,h5⟩ := dI_inv h4
   obtain ⟨b_y,ds,rfl,h6⟩ := dI_inv h5
   obtain ⟨bz,ds,rfl,h7⟩ := dI_inv h6
   obtain ⟨rfl,hE⟩ := dE_inv h7
   exact ⟨[SV.ptr (nat_lit 0) (nat_lit 0),SV.agg [SV.int .i64 ax,SV.int .i64 ay,SV.int .i64 az],SV.agg [SV.int .i64 bx,SV.int .i64 b_y,SV.int .i64 bz]],[.cells [SV.bool bad] (nat_lit 50)],fun vs => by kernel_rfl,(vadd_eq bad ax ay az bx b_y bz Q).trans ((vadd_v bad ax ay az bx b_y bz _).trans hE)⟩
noncomputable def look_vadd {α:Type}:LookF α := addFn 15 (fEnt vadd_sp vadd_h) look_dot
theorem look_vadd_ok {α:Type}:LookOk E.P (look_vadd (α := α)) := addFn_ok vadd_h_ok (look_dot_ok)
noncomputable def M.vturn {α:Type} (bad:Bool) (m0:Int) (m1:Int) (m2:Int) (m3:Int) (m4:Int) (m5:Int) (m6:Int) (m7:Int) (m8:Int) (ax:Int) (ay:Int) (az:Int) (k0:Int → Int → Int → Bool → Option α):Option α := if V.gn (V.mDot [m6,m7,m8] [ax,ay,az]) (V.gn (V.mDot [m3,m4,m5] [ax,ay,az]) (V.gn (V.mDot [m0,m1,m2] [ax,ay,az]) false)) = true then k0 (0:Int) (0:Int) (0:Int) true else k0 (V.gv (V.mDot [m0,m1,m2] [ax,ay,az])) (V.gv (V.mDot [m3,m4,m5] [ax,ay,az])) (V.gv (V.mDot [m6,m7,m8] [ax,ay,az])) bad
theorem vturn_eq {α:Type} (bad:Bool) (m0:Int) (m1:Int) (m2:Int) (m3:Int) (m4:Int) (m5:Int) (m6:Int) (m7:Int) (m8:Int) (ax:Int) (ay:Int) (az:Int) (Q:SV → Hp → Option α):callI E look_vadd (exec E look_vadd noLps 400) 41 ([SV.ptr (nat_lit 0) (nat_lit 0),SV.agg [SV.int .i64 m0,SV.int .i64 m1,SV.int .i64 m2,SV.int .i64 m3,SV.int .i64 m4,SV.int .i64 m5,SV.int .i64 m6,SV.int .i64 m7,SV.int .i64 m8],SV.agg [SV.int .i64 ax,SV.int .i64 ay,SV.int .i64 az]]) ([.cells [SV.bool bad] (nat_lit 50)]) Q = M.vturn bad m0 m1 m2 m3 m4 m5 m6 m7 m8 ax ay az (fun (x4 x5 x6:Int) (x7:Bool) => Q (SV.agg [SV.int .i64 x4,SV.int .i64 x5,SV.int .i64 x6]) ([.cells [SV.bool x7] (nat_lit 50)])) := by kernel_rfl
def vturn_sp:List AS := [.ptr 50 [.bool false],.val (.agg [.int .i64 0,.int .i64 0,.int .i64 0,.int .i64 0,.int .i64 0,.int .i64 0,.int .i64 0,.int .i64 0,.int .i64 0]),.val (.agg [.int .i64 0,.int .i64 0,.int .i64 0])]
theorem vturn_v {α:Type} (bad:Bool) (m0:Int) (m1:Int) (m2:Int) (m3:Int) (m4:Int) (m5:Int) (m6:Int) (m7:Int) (m8:Int) (ax:Int) (ay:Int) (az:Int) (k0:Int → Int → Int → Bool → Option α):M.vturn bad m0 m1 m2 m3 m4 m5 m6 m7 m8 ax ay az k0 = k0 (V.x3 (V.tTurn ((m0,m1,m2),(m3,m4,m5),(m6,m7,m8)) (ax,ay,az))) (V.y3 (V.tTurn ((m0,m1,m2),(m3,m4,m5),(m6,m7,m8)) (ax,ay,az))) (V.z3 (V.tTurn ((m0,m1,m2),(m3,m4,m5),(m6,m7,m8)) (ax,ay,az))) (V.on (V.tTurn ((m0,m1,m2),(m3,m4,m5),(m6,m7,m8)) (ax,ay,az)) bad) := by
 unfold M.vturn V.tTurn V.t3 V.tDot
 generalize h0:V.mDot [m0,m1,m2] [ax,ay,az] = o0
 generalize h1:V.mDot [m3,m4,m5] [ax,ay,az] = o1
 generalize h2:V.mDot [m6,m7,m8] [ax,ay,az] = o2
 cases o0 <;> cases o1 <;> cases o2 <;> rfl
noncomputable def vturn_h {α:Type} (ds:List D) (Q:SV → Hp → Option α):Option α :=
 dB ds fun bad ds => dI ds fun m0 ds => dI ds fun m1 ds => dI ds fun m2 ds => dI ds fun m3 ds => dI ds fun m4 ds => dI ds fun m5 ds => dI ds fun m6 ds => dI ds fun m7 ds => dI ds fun m8 ds => dI ds fun ax ds => dI ds fun ay ds => dI ds fun az ds => dE ds (Q (.agg [.int .i64 (V.x3 (V.tTurn ((m0,m1,m2),(m3,m4,m5),(m6,m7,m8)) (ax,ay,az))),.int .i64 (V.y3 (V.tTurn ((m0,m1,m2),(m3,m4,m5),(m6,m7,m8)) (ax,ay,az))),.int .i64 (V.z3 (V.tTurn ((m0,m1,m2),(m3,m4,m5),(m6,m7,m8)) (ax,ay,az)))]) ([.cells [.bool (V.on (V.tTurn ((m0,m1,m2),(m3,m4,m5),(m6,m7,m8)) (ax,ay,az)) bad)] 50]))
theorem vturn_h_ok {α:Type}:FnOk E.P 41 (fEnt (α := α) vturn_sp vturn_h) :=
 fEnt_ok E (look_vadd_ok) (exec_sound E E_ok (look_vadd_ok) (noLps_ok _) 400) fun ds Q r h => by
   unfold vturn_h at h
   obtain ⟨bad,ds,rfl,h1⟩ := dB_inv h
   obtain ⟨m0,ds,rfl,h2⟩ := dI_inv h1
   obtain ⟨m1,ds,rfl,h3⟩ := dI_inv h2
   obtain ⟨m2,ds,rfl,h4⟩ := dI_inv h3
   obtain ⟨m3,ds,rfl,h5⟩ := dI_inv h4
   obtain ⟨m4,ds,rfl,h6⟩ := dI_inv h5
   obtain ⟨m5,ds,rfl,h7⟩ := dI_inv h6
   obtain ⟨m6,ds,rfl,h8⟩ := dI_inv h7
   obtain ⟨m7,ds,rfl,h9⟩ := dI_inv h8
   obtain ⟨m8,ds,rfl,h10⟩ := dI_inv h9
   obtain ⟨ax,ds,rfl,h11⟩ := dI_inv h10
   obtain ⟨ay,ds,rfl,h12⟩ := dI_inv h11
   obtain ⟨az,ds,rfl,h13⟩ := dI_inv h12
   obtain ⟨rfl,hE⟩ := dE_inv h13
   exact ⟨[SV.ptr (nat_lit 0) (nat_lit 0),SV.agg [SV.int .i64 m0,SV.int .i64 m1,SV.int .i64 m2,SV.int .i64 m3,SV.int .i64 m4,SV.int .i64 m5,SV.int .i64 m6,SV.int .i64 m7,SV.int .i64 m8],SV.agg [SV.int .i64 ax,SV.int .i64 ay,SV.int .i64 az]],[.cells [SV.bool bad] (nat_lit 50)],fun vs => by kernel_rfl,(vturn_eq bad m0 m1 m2 m3 m4 m5 m6 m7 m8 ax ay az Q).trans ((vturn_v bad m0 m1 m2 m3 m4 m5 m6 m7 m8 ax ay az _).trans hE)⟩
noncomputable def look_vturn {α:Type}:LookF α := addFn 41 (fEnt vturn_sp vturn_h) look_vadd
theorem look_vturn_ok {α:Type}:LookOk E.P (look_vturn (α := α)) := addFn_ok vturn_h_ok (look_vadd_ok)
end
section
open Go
set_option maxRecDepth 20000
noncomputable def M.vrows {α:Type} (bad:Bool) (qw:Int) (qx:Int) (qy:Int) (qz:Int) (k0:Int → Int → Int → Int → Int → Int → Int → Int → Int → Bool → Option α):Option α := if V.gn (V.mSub (4294967296:Int) (V.gv (V.mDot [V.gv (V.mAdd qx qx),V.gv (V.mAdd qy qy)] [qx,qy]))) (V.gn (V.mDot [V.gv (V.mAdd qx qx),V.gv (V.mAdd qy qy)] [qx,qy]) (V.gn (V.mDot [V.gv (V.mAdd qy qy),V.gv (V.mAdd qw qw)] [qz,qx]) (V.gn (V.mDot [V.gv (V.mAdd qx qx),V.gv (V.mAdd qw qw)] [qz,V.gv (V.mSub (0:Int) qy)]) (V.gn (V.mDot [V.gv (V.mAdd qy qy),V.gv (V.mAdd qw qw)] [qz,V.gv (V.mSub (0:Int) qx)]) (V.gn (V.mSub (4294967296:Int) (V.gv (V.mDot [V.gv (V.mAdd qx qx),V.gv (V.mAdd qz qz)] [qx,qz]))) (V.gn (V.mDot [V.gv (V.mAdd qx qx),V.gv (V.mAdd qz qz)] [qx,qz]) (V.gn (V.mDot [V.gv (V.mAdd qx qx),V.gv (V.mAdd qw qw)] [qy,qz]) (V.gn (V.mDot [V.gv (V.mAdd qx qx),V.gv (V.mAdd qw qw)] [qz,qy]) (V.gn (V.mDot [V.gv (V.mAdd qx qx),V.gv (V.mAdd qw qw)] [qy,V.gv (V.mSub (0:Int) qz)]) (V.gn (V.mSub (4294967296:Int) (V.gv (V.mDot [V.gv (V.mAdd qy qy),V.gv (V.mAdd qz qz)] [qy,qz]))) (V.gn (V.mDot [V.gv (V.mAdd qy qy),V.gv (V.mAdd qz qz)] [qy,qz]) (V.gn (V.mSub (0:Int) qz) (V.gn (V.mSub (0:Int) qy) (V.gn (V.mSub (0:Int) qx) (V.gn (V.mAdd qz qz) (V.gn (V.mAdd qy qy) (V.gn (V.mAdd qx qx) (V.gn (V.mAdd qw qw) false)))))))))))))))))) = true then k0 (0:Int) (0:Int) (0:Int) (0:Int) (0:Int) (0:Int) (0:Int) (0:Int) (0:Int) true else k0 (V.gv (V.mSub (4294967296:Int) (V.gv (V.mDot [V.gv (V.mAdd qy qy),V.gv (V.mAdd qz qz)] [qy,qz])))) (V.gv (V.mDot [V.gv (V.mAdd qx qx),V.gv (V.mAdd qw qw)] [qy,V.gv (V.mSub (0:Int) qz)])) (V.gv (V.mDot [V.gv (V.mAdd qx qx),V.gv (V.mAdd qw qw)] [qz,qy])) (V.gv (V.mDot [V.gv (V.mAdd qx qx),V.gv (V.mAdd qw qw)] [qy,qz])) (V.gv (V.mSub (4294967296:Int) (V.gv (V.mDot [V.gv (V.mAdd qx qx),V.gv (V.mAdd qz qz)] [qx,qz])))) (V.gv (V.mDot [V.gv (V.mAdd qy qy),V.gv (V.mAdd qw qw)] [qz,V.gv (V.mSub (0:Int) qx)])) (V.gv (V.mDot [V.gv (V.mAdd qx qx),V.gv (V.mAdd qw qw)] [qz,V.gv (V.mSub (0:Int) qy)])) (V.gv (V.mDot [V.gv (V.mAdd qy qy),V.gv (V.mAdd qw qw)] [qz,qx])) (V.gv (V.mSub (4294967296:Int) (V.gv (V.mDot [V.gv (V.mAdd qx qx),V.gv (V.mAdd qy qy)] [qx,qy])))) bad
theorem vrows_eq {α:Type} (bad:Bool) (qw:Int) (qx:Int) (qy:Int) (qz:Int) (Q:SV → Hp → Option α):callI E look_vturn (exec E look_vturn noLps 400) 13 ([SV.ptr (nat_lit 0) (nat_lit 0),SV.agg [SV.int .i64 qw,SV.int .i64 qx,SV.int .i64 qy,SV.int .i64 qz]]) ([.cells [SV.bool bad] (nat_lit 50)]) Q = M.vrows bad qw qx qy qz (fun (x0 x1 x2 x3 x4 x5 x6 x7 x8:Int) (x9:Bool) => Q (SV.agg [SV.int .i64 x0,SV.int .i64 x1,SV.int .i64 x2,SV.int .i64 x3,SV.int .i64 x4,SV.int .i64 x5,SV.int .i64 x6,SV.int .i64 x7,SV.int .i64 x8]) ([.cells [SV.bool x9] (nat_lit 50)])) := by kernel_rfl
def vrows_sp:List AS := [.ptr 50 [.bool false],.val (.agg [.int .i64 0,.int .i64 0,.int .i64 0,.int .i64 0])]
theorem vrows_v {α:Type} (bad:Bool) (qw:Int) (qx:Int) (qy:Int) (qz:Int) (k0:Int → Int → Int → Int → Int → Int → Int → Int → Int → Bool → Option α):M.vrows bad qw qx qy qz k0 = k0 (V.m0 (V.tRows (qw,qx,qy,qz))) (V.m1 (V.tRows (qw,qx,qy,qz))) (V.m2 (V.tRows (qw,qx,qy,qz))) (V.m3 (V.tRows (qw,qx,qy,qz))) (V.m4 (V.tRows (qw,qx,qy,qz))) (V.m5 (V.tRows (qw,qx,qy,qz))) (V.m6 (V.tRows (qw,qx,qy,qz))) (V.m7 (V.tRows (qw,qx,qy,qz))) (V.m8 (V.tRows (qw,qx,qy,qz))) (V.on (V.tRows (qw,qx,qy,qz)) bad) := by
 unfold M.vrows V.tRows
 refine (if_flag (g := V.no [V.mAdd qw qw,V.mAdd qx qx,V.mAdd qy qy,V.mAdd qz qz,V.mSub 0 qx,V.mSub 0 qy,V.mSub 0 qz,V.twoD (V.dbl qy) (V.dbl qz) qy qz,V.twoD (V.dbl qx) (V.dbl qz) qx qz,V.twoD (V.dbl qx) (V.dbl qy) qx qy] || V.no [V.mSub 4294967296 (V.gv (V.twoD (V.dbl qy) (V.dbl qz) qy qz)),V.twoD (V.dbl qx) (V.dbl qw) qy (V.neg qz),V.twoD (V.dbl qx) (V.dbl qw) qz qy,V.twoD (V.dbl qx) (V.dbl qw) qy qz,
   V.mSub 4294967296 (V.gv (V.twoD (V.dbl qx) (V.dbl qz) qx qz)),V.twoD (V.dbl qy) (V.dbl qw) qz (V.neg qx),V.twoD (V.dbl qx) (V.dbl qw) qz (V.neg qy),V.twoD (V.dbl qy) (V.dbl qw) qz qx,
   V.mSub 4294967296 (V.gv (V.twoD (V.dbl qx) (V.dbl qy) qx qy))]) ?_ _ _).trans ?_
 · simp only [V.gn, no_cons, no_nil, V.twoD, V.dbl, V.neg, Bool.or_false]
   ac_rfl
 · simp only []
   generalize V.no [V.mAdd qw qw,V.mAdd qx qx,V.mAdd qy qy,V.mAdd qz qz,V.mSub 0 qx,V.mSub 0 qy,V.mSub 0 qz,V.twoD (V.dbl qy) (V.dbl qz) qy qz,V.twoD (V.dbl qx) (V.dbl qz) qx qz,V.twoD (V.dbl qx) (V.dbl qy) qx qy] = f
   generalize V.no _ = g
   cases f <;> cases g <;> rfl
noncomputable def vrows_h {α:Type} (ds:List D) (Q:SV → Hp → Option α):Option α :=
 dB ds fun bad ds => dI ds fun qw ds => dI ds fun qx ds => dI ds fun qy ds => dI ds fun qz ds => dE ds (Q (.agg [.int .i64 (V.m0 (V.tRows (qw,qx,qy,qz))),.int .i64 (V.m1 (V.tRows (qw,qx,qy,qz))),.int .i64 (V.m2 (V.tRows (qw,qx,qy,qz))),.int .i64 (V.m3 (V.tRows (qw,qx,qy,qz))),.int .i64 (V.m4 (V.tRows (qw,qx,qy,qz))),.int .i64 (V.m5 (V.tRows (qw,qx,qy,qz))),.int .i64 (V.m6 (V.tRows (qw,qx,qy,qz))),.int .i64 (V.m7 (V.tRows (qw,qx,qy,qz))),.int .i64 (V.m8 (V.tRows (qw,qx,qy,qz)))]) ([.cells [.bool (V.on (V.tRows (qw,qx,qy,qz)) bad)] 50]))
theorem vrows_h_ok {α:Type}:FnOk E.P 13 (fEnt (α := α) vrows_sp vrows_h) :=
 fEnt_ok E (look_vturn_ok) (exec_sound E E_ok (look_vturn_ok) (noLps_ok _) 400) fun ds Q r h => by
   unfold vrows_h at h
   obtain ⟨bad,ds,rfl,h1⟩ := dB_inv h
   obtain ⟨qw,ds,rfl,h2⟩ := dI_inv h1
   obtain ⟨qx,ds,rfl,h3⟩ := dI_inv h2
   obtain ⟨qy,ds,rfl,h4⟩ := dI_inv h3
   obtain ⟨qz,ds,rfl,h5⟩ := dI_inv h4
   obtain ⟨rfl,hE⟩ := dE_inv h5
   exact ⟨[SV.ptr (nat_lit 0) (nat_lit 0),SV.agg [SV.int .i64 qw,SV.int .i64 qx,SV.int .i64 qy,SV.int .i64 qz]],[.cells [SV.bool bad] (nat_lit 50)],fun vs => by kernel_rfl,(vrows_eq bad qw qx qy qz Q).trans ((vrows_v bad qw qx qy qz _).trans hE)⟩
end
section
open Go
theorem on_some {β:Type} (n:β) (b:Bool):V.on (some n) b = b := rfl
theorem on_none {β:Type} (b:Bool):V.on (none:Option β) b = true := rfl
theorem no_false {l:List (Option Int)}:V.no l = false ↔ ∀ o ∈ l,∃ n,o = some n := by
 unfold V.no
 rw [List.any_eq_false]
 constructor
 · intro h o ho
   have := h o ho
   cases o with
   | none => simp at this
   | some n => exact ⟨n,rfl⟩
 · intro h o ho
   obtain ⟨n,rfl⟩ := h o ho
   simp
theorem guard_some' {β:Type} {c:Bool} {o:Option β} {m:β}:(if c = true then none else o) = some m ↔ c = false ∧ o = some m := by cases c <;> simp
theorem t3_some {a b c:Option Int} {t:V.T3}:V.t3 a b c = some t ↔ a = some t.1 ∧ b = some t.2.1 ∧ c = some t.2.2 := by
 unfold V.t3
 rw [guard_some',no_false]
 obtain ⟨x,y,z⟩ := t
 cases a <;> cases b <;> cases c <;> simp [V.gv]
theorem t4_some {a b c d:Option Int} {t:V.T4}:V.t4 a b c d = some t ↔ a = some t.1 ∧ b = some t.2.1 ∧ c = some t.2.2.1 ∧ d = some t.2.2.2 := by
 unfold V.t4
 rw [guard_some',no_false]
 obtain ⟨x,y,z,w⟩ := t
 cases a <;> cases b <;> cases c <;> cases d <;> simp [V.gv]
theorem tAdd_some {a b t:V.T3}:V.tAdd a b = some t ↔ V.mAdd a.1 b.1 = some t.1 ∧ V.mAdd a.2.1 b.2.1 = some t.2.1 ∧ V.mAdd a.2.2 b.2.2 = some t.2.2 := t3_some
theorem tWhole_some {q t:V.T4}:V.tWhole q = some t ↔ ∃ n,V.tLen4 q = some n ∧ 2147483648 ≤ n ∧ V.mDiv q.1 n = some t.1 ∧ V.mDiv q.2.1 n = some t.2.1 ∧ V.mDiv q.2.2.1 n = some t.2.2.1 ∧ V.mDiv q.2.2.2 n = some t.2.2.2 := by
 unfold V.tWhole
 by_cases hc:V.gv (V.tLen4 q) < 2147483648 ∨ V.no [V.tLen4 q] = true
 · rw [if_pos hc]
   constructor
   · intro h; cases h
   · rintro ⟨n, hn, h1, _⟩
     rw [hn] at hc
     rcases hc with hc | hc
     · rw [gv_some] at hc; omega
     · cases hc
 · rw [if_neg hc, t4_some]
   have h2:V.no [V.tLen4 q] = false := by cases h:V.no [V.tLen4 q] <;> simp_all
   obtain ⟨n,hn⟩ := no_false.1 h2 (V.tLen4 q) (by simp)
   rw [hn] at hc ⊢
   rw [gv_some] at hc ⊢
   constructor
   · intro h
     exact ⟨n,rfl,by omega,h⟩
   · rintro ⟨m, hm, _, h⟩
     cases hm
     exact h
theorem tTurn_some {m:V.T9} {a t:V.T3}:V.tTurn m a = some t ↔ V.tDot m.1 a = some t.1 ∧ V.tDot m.2.1 a = some t.2.1 ∧ V.tDot m.2.2 a = some t.2.2 := t3_some
end
section
open Go
set_option maxRecDepth 20000
noncomputable def look_PoA_vadd {α:Type}:LookF α := addFn 15 (fEnt vadd_sp vadd_h) look_lpoints
theorem look_PoA_vadd_ok {α:Type}:LookOk E.P (look_PoA_vadd (α := α)) := addFn_ok vadd_h_ok (look_lpoints_ok)
noncomputable def look_PoA_vturn {α:Type}:LookF α := addFn 41 (fEnt vturn_sp vturn_h) look_PoA_vadd
theorem look_PoA_vturn_ok {α:Type}:LookOk E.P (look_PoA_vturn (α := α)) := addFn_ok vturn_h_ok (look_PoA_vadd_ok)
noncomputable def look_PoA_vrows {α:Type}:LookF α := addFn 13 (fEnt vrows_sp vrows_h) look_PoA_vturn
theorem look_PoA_vrows_ok {α:Type}:LookOk E.P (look_PoA_vrows (α := α)) := addFn_ok vrows_h_ok (look_PoA_vturn_ok)
noncomputable def M.pwithin {α:Type} (x:Int) (y:Int) (z:Int) (n:Int) (k0:Bool → Option α):Option α := if cLe (if z > if y > x then y else x then z else if y > x then y else x) n = true then k0 (cLe (IntKind.wrap .i64 ((0:Int) - n)) (if z < if y < x then y else x then z else if y < x then y else x)) else k0 false
theorem pwithin_eq {α:Type} (x:Int) (y:Int) (z:Int) (n:Int) (Q:SV → Hp → Option α):callI E look_PoA_vrows (exec E look_PoA_vrows noLps 400) 16 ([SV.agg [SV.int .i64 x,SV.int .i64 y,SV.int .i64 z],SV.int .i64 n]) ([]) Q = M.pwithin x y z n (fun (x0:Bool) => Q (SV.bool x0) ([])) := by kernel_rfl
def pwithin_sp:List AS := [.val (.agg [.int .i64 0,.int .i64 0,.int .i64 0]),.val (.int .i64 0)]
noncomputable def _root_.Go.Proofs.YtlagndfhibkjpaaGreat.V.pwithin_r0 (x:Int) (y:Int) (z:Int) (n:Int):Bool := if cLe (if z > if y > x then y else x then z else if y > x then y else x) n = true then cLe (IntKind.wrap .i64 ((0:Int) - n)) (if z < if y < x then y else x then z else if y < x then y else x) else false
theorem pwithin_val {α:Type} (x:Int) (y:Int) (z:Int) (n:Int) (k0:Bool → Option α):M.pwithin x y z n k0 = k0 (V.pwithin_r0 x y z n) := by
 unfold M.pwithin V.pwithin_r0
 repeat' first | rfl | (split <;> rename_i h <;> first | simp only [if_pos h] | simp only [if_neg h] | skip)
noncomputable def pwithin_c {α:Type} (ds:List D) (Q:SV → Hp → Option α):Option α :=
 dI ds fun x ds => dI ds fun y ds => dI ds fun z ds => dI ds fun n ds => dE ds (Q (SV.bool (V.pwithin_r0 x y z n)) ([]))
theorem pwithin_c_ok {α:Type}:FnOk E.P 16 (fEnt (α := α) pwithin_sp pwithin_c) :=
 fEnt_ok E (look_PoA_vrows_ok) (exec_sound E E_ok (look_PoA_vrows_ok) (noLps_ok _) 400) fun ds Q r h => by
   unfold pwithin_c at h
   obtain ⟨x,ds,rfl,h1⟩ := dI_inv h
   obtain ⟨y,ds,rfl,h2⟩ := dI_inv h1
   obtain ⟨z,ds,rfl,h3⟩ := dI_inv h2
   obtain ⟨n,ds,rfl,h4⟩ := dI_inv h3
   obtain ⟨rfl,hE⟩ := dE_inv h4
   exact ⟨[SV.agg [SV.int .i64 x,SV.int .i64 y,SV.int .i64 z],SV.int .i64 n],[],fun vs => by kernel_rfl,(pwithin_eq x y z n Q).trans ((pwithin_val x y z n (fun (x0:Bool) => Q (SV.bool x0) ([]))).trans hE)⟩
noncomputable def look_pwithin {α:Type}:LookF α := addFn 16 (fEnt pwithin_sp pwithin_c) look_PoA_vrows
theorem look_pwithin_ok {α:Type}:LookOk E.P (look_pwithin (α := α)) := addFn_ok pwithin_c_ok (look_PoA_vrows_ok)
noncomputable def M.pgrown {α:Type} (a0:Int) (a1:Int) (a2:Int) (a3:Int) (a4:Int) (a5:Int) (n:Int) (k0:Int → Int → Int → Int → Int → Int → Option α):Option α := k0 (IntKind.wrap .i64 (a0 - n)) (IntKind.wrap .i64 (a1 - n)) (IntKind.wrap .i64 (a2 - n)) (IntKind.wrap .i64 (a3 + n)) (IntKind.wrap .i64 (a4 + n)) (IntKind.wrap .i64 (a5 + n))
theorem pgrown_eq {α:Type} (a0:Int) (a1:Int) (a2:Int) (a3:Int) (a4:Int) (a5:Int) (n:Int) (Q:SV → Hp → Option α):callI E look_pwithin (exec E look_pwithin noLps 400) 62 ([SV.agg [SV.int .i64 a0,SV.int .i64 a1,SV.int .i64 a2,SV.int .i64 a3,SV.int .i64 a4,SV.int .i64 a5],SV.int .i64 n]) ([]) Q = M.pgrown a0 a1 a2 a3 a4 a5 n (fun (x1 x2 x3 x4 x5 x6:Int) => Q (SV.agg [SV.int .i64 x1,SV.int .i64 x2,SV.int .i64 x3,SV.int .i64 x4,SV.int .i64 x5,SV.int .i64 x6]) ([])) := by kernel_rfl
def pgrown_sp:List AS := [.val (.agg [.int .i64 0,.int .i64 0,.int .i64 0,.int .i64 0,.int .i64 0,.int .i64 0]),.val (.int .i64 0)]
noncomputable def _root_.Go.Proofs.YtlagndfhibkjpaaGreat.V.pgrown_r0 (a0:Int) (a1:Int) (a2:Int) (a3:Int) (a4:Int) (a5:Int) (n:Int):Int := IntKind.wrap .i64 (a0 - n)
noncomputable def _root_.Go.Proofs.YtlagndfhibkjpaaGreat.V.pgrown_r1 (a0:Int) (a1:Int) (a2:Int) (a3:Int) (a4:Int) (a5:Int) (n:Int):Int := IntKind.wrap .i64 (a1 - n)
noncomputable def _root_.Go.Proofs.YtlagndfhibkjpaaGreat.V.pgrown_r2 (a0:Int) (a1:Int) (a2:Int) (a3:Int) (a4:Int) (a5:Int) (n:Int):Int := IntKind.wrap .i64 (a2 - n)
noncomputable def _root_.Go.Proofs.YtlagndfhibkjpaaGreat.V.pgrown_r3 (a0:Int) (a1:Int) (a2:Int) (a3:Int) (a4:Int) (a5:Int) (n:Int):Int := IntKind.wrap .i64 (a3 + n)
noncomputable def _root_.Go.Proofs.YtlagndfhibkjpaaGreat.V.pgrown_r4 (a0:Int) (a1:Int) (a2:Int) (a3:Int) (a4:Int) (a5:Int) (n:Int):Int := IntKind.wrap .i64 (a4 + n)
noncomputable def _root_.Go.Proofs.YtlagndfhibkjpaaGreat.V.pgrown_r5 (a0:Int) (a1:Int) (a2:Int) (a3:Int) (a4:Int) (a5:Int) (n:Int):Int := IntKind.wrap .i64 (a5 + n)
theorem pgrown_val {α:Type} (a0:Int) (a1:Int) (a2:Int) (a3:Int) (a4:Int) (a5:Int) (n:Int) (k0:Int → Int → Int → Int → Int → Int → Option α):M.pgrown a0 a1 a2 a3 a4 a5 n k0 = k0 (V.pgrown_r0 a0 a1 a2 a3 a4 a5 n) (V.pgrown_r1 a0 a1 a2 a3 a4 a5 n) (V.pgrown_r2 a0 a1 a2 a3 a4 a5 n) (V.pgrown_r3 a0 a1 a2 a3 a4 a5 n) (V.pgrown_r4 a0 a1 a2 a3 a4 a5 n) (V.pgrown_r5 a0 a1 a2 a3 a4 a5 n) := by
 unfold M.pgrown V.pgrown_r0 V.pgrown_r1 V.pgrown_r2 V.pgrown_r3 V.pgrown_r4 V.pgrown_r5
 repeat' first | rfl | (split <;> rename_i h <;> first | simp only [if_pos h] | simp only [if_neg h] | skip)
noncomputable def pgrown_c {α:Type} (ds:List D) (Q:SV → Hp → Option α):Option α :=
 dI ds fun a0 ds => dI ds fun a1 ds => dI ds fun a2 ds => dI ds fun a3 ds => dI ds fun a4 ds => dI ds fun a5 ds => dI ds fun n ds => dE ds (Q (SV.agg [SV.int .i64 (V.pgrown_r0 a0 a1 a2 a3 a4 a5 n),SV.int .i64 (V.pgrown_r1 a0 a1 a2 a3 a4 a5 n),SV.int .i64 (V.pgrown_r2 a0 a1 a2 a3 a4 a5 n),SV.int .i64 (V.pgrown_r3 a0 a1 a2 a3 a4 a5 n),SV.int .i64 (V.pgrown_r4 a0 a1 a2 a3 a4 a5 n),SV.int .i64 (V.pgrown_r5 a0 a1 a2 a3 a4 a5 n)]) ([]))
theorem pgrown_c_ok {α:Type}:FnOk E.P 62 (fEnt (α := α) pgrown_sp pgrown_c) :=
 fEnt_ok E (look_pwithin_ok) (exec_sound E E_ok (look_pwithin_ok) (noLps_ok _) 400) fun ds Q r h => by
   unfold pgrown_c at h
   obtain ⟨a0,ds,rfl,h1⟩ := dI_inv h
   obtain ⟨a1,ds,rfl,h2⟩ := dI_inv h1
   obtain ⟨a2,ds,rfl,h3⟩ := dI_inv h2
   obtain ⟨a3,ds,rfl,h4⟩ := dI_inv h3
   obtain ⟨a4,ds,rfl,h5⟩ := dI_inv h4
   obtain ⟨a5,ds,rfl,h6⟩ := dI_inv h5
   obtain ⟨n,ds,rfl,h7⟩ := dI_inv h6
   obtain ⟨rfl,hE⟩ := dE_inv h7
   exact ⟨[SV.agg [SV.int .i64 a0,SV.int .i64 a1,SV.int .i64 a2,SV.int .i64 a3,SV.int .i64 a4,SV.int .i64 a5],SV.int .i64 n],[],fun vs => by kernel_rfl,(pgrown_eq a0 a1 a2 a3 a4 a5 n Q).trans ((pgrown_val a0 a1 a2 a3 a4 a5 n (fun (x1 x2 x3 x4 x5 x6:Int) => Q (SV.agg [SV.int .i64 x1,SV.int .i64 x2,SV.int .i64 x3,SV.int .i64 x4,SV.int .i64 x5,SV.int .i64 x6]) ([]))).trans hE)⟩
noncomputable def look_pgrown {α:Type}:LookF α := addFn 62 (fEnt pgrown_sp pgrown_c) look_pwithin
theorem look_pgrown_ok {α:Type}:LookOk E.P (look_pgrown (α := α)) := addFn_ok pgrown_c_ok (look_pwithin_ok)
noncomputable def M.pjoin {α:Type} (a0:Int) (a1:Int) (a2:Int) (a3:Int) (a4:Int) (a5:Int) (b0:Int) (b1:Int) (b2:Int) (b3:Int) (b4:Int) (b5:Int) (k0:Int → Int → Int → Int → Int → Int → Option α):Option α := k0 (if b0 < a0 then b0 else a0) (if b1 < a1 then b1 else a1) (if b2 < a2 then b2 else a2) (if b3 > a3 then b3 else a3) (if b4 > a4 then b4 else a4) (if b5 > a5 then b5 else a5)
theorem pjoin_eq {α:Type} (a0:Int) (a1:Int) (a2:Int) (a3:Int) (a4:Int) (a5:Int) (b0:Int) (b1:Int) (b2:Int) (b3:Int) (b4:Int) (b5:Int) (Q:SV → Hp → Option α):callI E look_pgrown (exec E look_pgrown noLps 400) 61 ([SV.agg [SV.int .i64 a0,SV.int .i64 a1,SV.int .i64 a2,SV.int .i64 a3,SV.int .i64 a4,SV.int .i64 a5],SV.agg [SV.int .i64 b0,SV.int .i64 b1,SV.int .i64 b2,SV.int .i64 b3,SV.int .i64 b4,SV.int .i64 b5]]) ([]) Q = M.pjoin a0 a1 a2 a3 a4 a5 b0 b1 b2 b3 b4 b5 (fun (x7 x8 x9 x10 x11 x12:Int) => Q (SV.agg [SV.int .i64 x7,SV.int .i64 x8,SV.int .i64 x9,SV.int .i64 x10,SV.int .i64 x11,SV.int .i64 x12]) ([])) := by kernel_rfl
def pjoin_sp:List AS := [.val (.agg [.int .i64 0,.int .i64 0,.int .i64 0,.int .i64 0,.int .i64 0,.int .i64 0]),.val (.agg [.int .i64 0,.int .i64 0,.int .i64 0,.int .i64 0,.int .i64 0,.int .i64 0])]
noncomputable def _root_.Go.Proofs.YtlagndfhibkjpaaGreat.V.pjoin_r0 (a0:Int) (a1:Int) (a2:Int) (a3:Int) (a4:Int) (a5:Int) (b0:Int) (b1:Int) (b2:Int) (b3:Int) (b4:Int) (b5:Int):Int := if b0 < a0 then b0 else a0
noncomputable def _root_.Go.Proofs.YtlagndfhibkjpaaGreat.V.pjoin_r1 (a0:Int) (a1:Int) (a2:Int) (a3:Int) (a4:Int) (a5:Int) (b0:Int) (b1:Int) (b2:Int) (b3:Int) (b4:Int) (b5:Int):Int := if b1 < a1 then b1 else a1
noncomputable def _root_.Go.Proofs.YtlagndfhibkjpaaGreat.V.pjoin_r2 (a0:Int) (a1:Int) (a2:Int) (a3:Int) (a4:Int) (a5:Int) (b0:Int) (b1:Int) (b2:Int) (b3:Int) (b4:Int) (b5:Int):Int := if b2 < a2 then b2 else a2
noncomputable def _root_.Go.Proofs.YtlagndfhibkjpaaGreat.V.pjoin_r3 (a0:Int) (a1:Int) (a2:Int) (a3:Int) (a4:Int) (a5:Int) (b0:Int) (b1:Int) (b2:Int) (b3:Int) (b4:Int) (b5:Int):Int := if b3 > a3 then b3 else a3
noncomputable def _root_.Go.Proofs.YtlagndfhibkjpaaGreat.V.pjoin_r4 (a0:Int) (a1:Int) (a2:Int) (a3:Int) (a4:Int) (a5:Int) (b0:Int) (b1:Int) (b2:Int) (b3:Int) (b4:Int) (b5:Int):Int := if b4 > a4 then b4 else a4
noncomputable def _root_.Go.Proofs.YtlagndfhibkjpaaGreat.V.pjoin_r5 (a0:Int) (a1:Int) (a2:Int) (a3:Int) (a4:Int) (a5:Int) (b0:Int) (b1:Int) (b2:Int) (b3:Int) (b4:Int) (b5:Int):Int := if b5 > a5 then b5 else a5
theorem pjoin_val {α:Type} (a0:Int) (a1:Int) (a2:Int) (a3:Int) (a4:Int) (a5:Int) (b0:Int) (b1:Int) (b2:Int) (b3:Int) (b4:Int) (b5:Int) (k0:Int → Int → Int → Int → Int → Int → Option α):M.pjoin a0 a1 a2 a3 a4 a5 b0 b1 b2 b3 b4 b5 k0 = k0 (V.pjoin_r0 a0 a1 a2 a3 a4 a5 b0 b1 b2 b3 b4 b5) (V.pjoin_r1 a0 a1 a2 a3 a4 a5 b0 b1 b2 b3 b4 b5) (V.pjoin_r2 a0 a1 a2 a3 a4 a5 b0 b1 b2 b3 b4 b5) (V.pjoin_r3 a0 a1 a2 a3 a4 a5 b0 b1 b2 b3 b4 b5) (V.pjoin_r4 a0 a1 a2 a3 a4 a5 b0 b1 b2 b3 b4 b5) (V.pjoin_r5 a0 a1 a2 a3 a4 a5 b0 b1 b2 b3 b4 b5) := by
 unfold M.pjoin V.pjoin_r0 V.pjoin_r1 V.pjoin_r2 V.pjoin_r3 V.pjoin_r4 V.pjoin_r5
 repeat' first | rfl | (split <;> rename_i h <;> first | simp only [if_pos h] | simp only [if_neg h] | skip)
noncomputable def pjoin_c {α:Type} (ds:List D) (Q:SV → Hp → Option α):Option α :=
 dI ds fun a0 ds => dI ds fun a1 ds => dI ds fun a2 ds => dI ds fun a3 ds => dI ds fun a4 ds => dI ds fun a5 ds => dI ds fun b0 ds => dI ds fun b1 ds => dI ds fun b2 ds => dI ds fun b3 ds => dI ds fun b4 ds => dI ds fun b5 ds => dE ds (Q (SV.agg [SV.int .i64 (V.pjoin_r0 a0 a1 a2 a3 a4 a5 b0 b1 b2 b3 b4 b5),SV.int .i64 (V.pjoin_r1 a0 a1 a2 a3 a4 a5 b0 b1 b2 b3 b4 b5),SV.int .i64 (V.pjoin_r2 a0 a1 a2 a3 a4 a5 b0 b1 b2 b3 b4 b5),SV.int .i64 (V.pjoin_r3 a0 a1 a2 a3 a4 a5 b0 b1 b2 b3 b4 b5),SV.int .i64 (V.pjoin_r4 a0 a1 a2 a3 a4 a5 b0 b1 b2 b3 b4 b5),SV.int .i64 (V.pjoin_r5 a0 a1 a2 a3 a4 a5 b0 b1 b2 b3 b4 b5)]) ([]))
theorem pjoin_c_ok {α:Type}:FnOk E.P 61 (fEnt (α := α) pjoin_sp pjoin_c) :=
 fEnt_ok E (look_pgrown_ok) (exec_sound E E_ok (look_pgrown_ok) (noLps_ok _) 400) fun ds Q r h => by
   unfold pjoin_c at h
   obtain ⟨a0,ds,rfl,h1⟩ := dI_inv h
   obtain ⟨a1,ds,rfl,h2⟩ := dI_inv h1
   obtain ⟨a2,ds,rfl,h3⟩ := dI_inv h2
   obtain ⟨a3,ds,rfl,h4⟩ := dI_inv h3
   obtain ⟨a4,ds,rfl,h5⟩ := dI_inv h4
   obtain ⟨a5,ds,rfl,h6⟩ := dI_inv h5
   obtain ⟨b0,ds,rfl,h7⟩ := dI_inv h6
   obtain ⟨b1,ds,rfl,h8⟩ := dI_inv h7
   obtain ⟨b2,ds,rfl,h9⟩ := dI_inv h8
   obtain ⟨b3,ds,rfl,h10⟩ := dI_inv h9
   obtain ⟨b4,ds,rfl,h11⟩ := dI_inv h10
   obtain ⟨b5,ds,rfl,h12⟩ := dI_inv h11
   obtain ⟨rfl,hE⟩ := dE_inv h12
   exact ⟨[SV.agg [SV.int .i64 a0,SV.int .i64 a1,SV.int .i64 a2,SV.int .i64 a3,SV.int .i64 a4,SV.int .i64 a5],SV.agg [SV.int .i64 b0,SV.int .i64 b1,SV.int .i64 b2,SV.int .i64 b3,SV.int .i64 b4,SV.int .i64 b5]],[],fun vs => by kernel_rfl,(pjoin_eq a0 a1 a2 a3 a4 a5 b0 b1 b2 b3 b4 b5 Q).trans ((pjoin_val a0 a1 a2 a3 a4 a5 b0 b1 b2 b3 b4 b5 (fun (x7 x8 x9 x10 x11 x12:Int) => Q (SV.agg [SV.int .i64 x7,SV.int .i64 x8,SV.int .i64 x9,SV.int .i64 x10,SV.int .i64 x11,SV.int .i64 x12]) ([]))).trans hE)⟩
noncomputable def look_pjoin {α:Type}:LookF α := addFn 61 (fEnt pjoin_sp pjoin_c) look_pgrown
theorem look_pjoin_ok {α:Type}:LookOk E.P (look_pjoin (α := α)) := addFn_ok pjoin_c_ok (look_pgrown_ok)
noncomputable abbrev pspan_S1 (y1:Value) (y2:L3) (y3 y4:Int) (y5:Value) (y6:L3) (y7:Value) (y8:L3) (y9:Value) (y10:L3) (y11 y12 y13 y14 y15 y16 y17 y18 y19 y20 y21 y22 y23:Int):St := St.mk (none :: some (SV.ptr (nat_lit 0) (nat_lit 0)) :: some (SV.ptr (nat_lit 1) (nat_lit 0)) :: some (SV.ptr (nat_lit 2) (nat_lit 0)) :: nn 18 (some (SV.ros y1 kP y2) :: some (SV.int .i64 y3) :: some (SV.int .i64 y4) :: nn 13 ([]))) [.cells [SV.ros y5 kP y6,SV.ros y7 kP y8,SV.ros y9 kP y10,SV.int .i64 y11] (nat_lit 33),.cells [SV.int .i64 y12,SV.int .i64 y13,SV.int .i64 y14,SV.int .i64 y15,SV.int .i64 y16,SV.int .i64 y17] (nat_lit 71),.cells [SV.int .i64 y18,SV.int .i64 y19,SV.int .i64 y20,SV.int .i64 y21,SV.int .i64 y22,SV.int .i64 y23] (nat_lit 71)]
noncomputable abbrev pspan_S2 (y1:Value) (y2:L3) (y3:Value) (y4:L3) (y5:Value) (y6:L3) (y7 y8 y9 y10 y11 y12 y13 y14 y15 y16 y17 y18 y19:Int):St := St.mk (none :: some (SV.ptr (nat_lit 0) (nat_lit 0)) :: some (SV.ptr (nat_lit 1) (nat_lit 0)) :: some (SV.ptr (nat_lit 2) (nat_lit 0)) :: nn 34 ([])) [.cells [SV.ros y1 kP y2,SV.ros y3 kP y4,SV.ros y5 kP y6,SV.int .i64 y7] (nat_lit 33),.cells [SV.int .i64 y8,SV.int .i64 y9,SV.int .i64 y10,SV.int .i64 y11,SV.int .i64 y12,SV.int .i64 y13] (nat_lit 71),.cells [SV.int .i64 y14,SV.int .i64 y15,SV.int .i64 y16,SV.int .i64 y17,SV.int .i64 y18,SV.int .i64 y19] (nat_lit 71)]
noncomputable abbrev pspan_S3:St := St.mk (none :: some (SV.ptr (nat_lit 0) (nat_lit 0)) :: some (SV.ptr (nat_lit 1) (nat_lit 0)) :: some (SV.ptr (nat_lit 2) (nat_lit 0)) :: nn 18 (some (SV.ros undef kP []) :: some (SV.int .i64 (0:Int)) :: some (SV.int .i64 (0:Int)) :: nn 13 ([]))) [.cells [SV.ros undef kP [],SV.ros undef kP [],SV.ros undef kP [],SV.int .i64 (0:Int)] (nat_lit 33),.cells [SV.int .i64 (0:Int),SV.int .i64 (0:Int),SV.int .i64 (0:Int),SV.int .i64 (0:Int),SV.int .i64 (0:Int),SV.int .i64 (0:Int)] (nat_lit 71),.cells [SV.int .i64 (0:Int),SV.int .i64 (0:Int),SV.int .i64 (0:Int),SV.int .i64 (0:Int),SV.int .i64 (0:Int),SV.int .i64 (0:Int)] (nat_lit 71)]
abbrev pspan_P1:List Bool := [false,true,false,true,true,true]
noncomputable def M.pspan_l0_step {α:Type} (x40:L3) (x41:Int) (kn:Int → Int → Int → Int → Int → Int → Int → Option α) (k1:Int → Int → Int → Int → Int → Int → Option α) (x42 x56 x57 x58 x59 x60 x61:Int):Option α := if cLt x42 x41 = true then if (0:Int) ≤ x42 ∧ x42 < (↑(List.length x40):Int) then kn (IntKind.wrap .i64 (x42 + (1:Int))) (V.pjoin_r0 x56 x57 x58 x59 x60 x61 (Prod.fst (List.getD x40 (Int.toNat x42) ((0:Int),(0:Int),(0:Int)))) (Prod.fst (Prod.snd (List.getD x40 (Int.toNat x42) ((0:Int),(0:Int),(0:Int))))) (Prod.snd (Prod.snd (List.getD x40 (Int.toNat x42) ((0:Int),(0:Int),(0:Int))))) (Prod.fst (List.getD x40 (Int.toNat x42) ((0:Int),(0:Int),(0:Int)))) (Prod.fst (Prod.snd (List.getD x40 (Int.toNat x42) ((0:Int),(0:Int),(0:Int))))) (Prod.snd (Prod.snd (List.getD x40 (Int.toNat x42) ((0:Int),(0:Int),(0:Int)))))) (V.pjoin_r1 x56 x57 x58 x59 x60 x61 (Prod.fst (List.getD x40 (Int.toNat x42) ((0:Int),(0:Int),(0:Int)))) (Prod.fst (Prod.snd (List.getD x40 (Int.toNat x42) ((0:Int),(0:Int),(0:Int))))) (Prod.snd (Prod.snd (List.getD x40 (Int.toNat x42) ((0:Int),(0:Int),(0:Int))))) (Prod.fst (List.getD x40 (Int.toNat x42) ((0:Int),(0:Int),(0:Int)))) (Prod.fst (Prod.snd (List.getD x40 (Int.toNat x42) ((0:Int),(0:Int),(0:Int))))) (Prod.snd (Prod.snd (List.getD x40 (Int.toNat x42) ((0:Int),(0:Int),(0:Int)))))) (V.pjoin_r2 x56 x57 x58 x59 x60 x61 (Prod.fst (List.getD x40 (Int.toNat x42) ((0:Int),(0:Int),(0:Int)))) (Prod.fst (Prod.snd (List.getD x40 (Int.toNat x42) ((0:Int),(0:Int),(0:Int))))) (Prod.snd (Prod.snd (List.getD x40 (Int.toNat x42) ((0:Int),(0:Int),(0:Int))))) (Prod.fst (List.getD x40 (Int.toNat x42) ((0:Int),(0:Int),(0:Int)))) (Prod.fst (Prod.snd (List.getD x40 (Int.toNat x42) ((0:Int),(0:Int),(0:Int))))) (Prod.snd (Prod.snd (List.getD x40 (Int.toNat x42) ((0:Int),(0:Int),(0:Int)))))) (V.pjoin_r3 x56 x57 x58 x59 x60 x61 (Prod.fst (List.getD x40 (Int.toNat x42) ((0:Int),(0:Int),(0:Int)))) (Prod.fst (Prod.snd (List.getD x40 (Int.toNat x42) ((0:Int),(0:Int),(0:Int))))) (Prod.snd (Prod.snd (List.getD x40 (Int.toNat x42) ((0:Int),(0:Int),(0:Int))))) (Prod.fst (List.getD x40 (Int.toNat x42) ((0:Int),(0:Int),(0:Int)))) (Prod.fst (Prod.snd (List.getD x40 (Int.toNat x42) ((0:Int),(0:Int),(0:Int))))) (Prod.snd (Prod.snd (List.getD x40 (Int.toNat x42) ((0:Int),(0:Int),(0:Int)))))) (V.pjoin_r4 x56 x57 x58 x59 x60 x61 (Prod.fst (List.getD x40 (Int.toNat x42) ((0:Int),(0:Int),(0:Int)))) (Prod.fst (Prod.snd (List.getD x40 (Int.toNat x42) ((0:Int),(0:Int),(0:Int))))) (Prod.snd (Prod.snd (List.getD x40 (Int.toNat x42) ((0:Int),(0:Int),(0:Int))))) (Prod.fst (List.getD x40 (Int.toNat x42) ((0:Int),(0:Int),(0:Int)))) (Prod.fst (Prod.snd (List.getD x40 (Int.toNat x42) ((0:Int),(0:Int),(0:Int))))) (Prod.snd (Prod.snd (List.getD x40 (Int.toNat x42) ((0:Int),(0:Int),(0:Int)))))) (V.pjoin_r5 x56 x57 x58 x59 x60 x61 (Prod.fst (List.getD x40 (Int.toNat x42) ((0:Int),(0:Int),(0:Int)))) (Prod.fst (Prod.snd (List.getD x40 (Int.toNat x42) ((0:Int),(0:Int),(0:Int))))) (Prod.snd (Prod.snd (List.getD x40 (Int.toNat x42) ((0:Int),(0:Int),(0:Int))))) (Prod.fst (List.getD x40 (Int.toNat x42) ((0:Int),(0:Int),(0:Int)))) (Prod.fst (Prod.snd (List.getD x40 (Int.toNat x42) ((0:Int),(0:Int),(0:Int))))) (Prod.snd (Prod.snd (List.getD x40 (Int.toNat x42) ((0:Int),(0:Int),(0:Int)))))) else none else k1 x56 x57 x58 x59 x60 x61
noncomputable def M.pspan_l0 {α:Type} (x40:L3) (x41:Int) (k1:Int → Int → Int → Int → Int → Int → Option α):Nat → Int → Int → Int → Int → Int → Int → Int → Option α
 | 0,_,_,_,_,_,_,_ => none
 | n + 1,x42,x56,x57,x58,x59,x60,x61 => M.pspan_l0_step x40 x41 (M.pspan_l0 x40 x41 k1 n) k1 x42 x56 x57 x58 x59 x60 x61
theorem pspan_l0_step_eq {α:Type} (x39:Value) (x40:L3) (x41 x42:Int) (x43:Value) (x44:L3) (x45:Value) (x46:L3) (x47:Value) (x48:L3) (x49 x50 x51 x52 x53 x54 x55 x56 x57 x58 x59 x60 x61:Int) (Q:Ex → St → Option α):(loopStep E (exec E look_pjoin noLps 400) 26 pspan_P1 0 (codeAt E.P 26 pspan_P1)) (pspan_S1 x39 x40 x41 x42 x43 x44 x45 x46 x47 x48 x49 x50 x51 x52 x53 x54 x55 x56 x57 x58 x59 x60 x61) Q = M.pspan_l0_step x40 x41 (fun (x68 x69 x70 x71 x72 x73 x74:Int) => Q .normal (pspan_S1 x39 x40 x41 x68 x43 x44 x45 x46 x47 x48 x49 x50 x51 x52 x53 x54 x55 x69 x70 x71 x72 x73 x74)) (fun (x62 x63 x64 x65 x66 x67:Int) => Q (.exit 0) (pspan_S2 x43 x44 x45 x46 x47 x48 x49 x50 x51 x52 x53 x54 x55 x62 x63 x64 x65 x66 x67)) x42 x56 x57 x58 x59 x60 x61 := by kernel_rfl
theorem pspan_l0_iter {α:Type} (x39:Value) (x40:L3) (x41:Int) (x43:Value) (x44:L3) (x45:Value) (x46:L3) (x47:Value) (x48:L3) (x49 x50 x51 x52 x53 x54 x55:Int) (Q:Ex → St → Option α):∀ (n:Nat) (x42 x56 x57 x58 x59 x60 x61:Int),iter (loopStep E (exec E look_pjoin noLps 400) 26 pspan_P1 0 (codeAt E.P 26 pspan_P1)) n (pspan_S1 x39 x40 x41 x42 x43 x44 x45 x46 x47 x48 x49 x50 x51 x52 x53 x54 x55 x56 x57 x58 x59 x60 x61) Q = M.pspan_l0 x40 x41 (fun (x62 x63 x64 x65 x66 x67:Int) => Q (.exit 0) (pspan_S2 x43 x44 x45 x46 x47 x48 x49 x50 x51 x52 x53 x54 x55 x62 x63 x64 x65 x66 x67)) n x42 x56 x57 x58 x59 x60 x61
 | 0,_,_,_,_,_,_,_ => rfl
 | n + 1,x42,x56,x57,x58,x59,x60,x61 => (pspan_l0_step_eq x39 x40 x41 x42 x43 x44 x45 x46 x47 x48 x49 x50 x51 x52 x53 x54 x55 x56 x57 x58 x59 x60 x61 (iterK (loopStep E (exec E look_pjoin noLps 400) 26 pspan_P1 0 (codeAt E.P 26 pspan_P1)) n Q)).trans (congrArg (fun kn => M.pspan_l0_step x40 x41 kn (fun (x62 x63 x64 x65 x66 x67:Int) => Q (.exit 0) (pspan_S2 x43 x44 x45 x46 x47 x48 x49 x50 x51 x52 x53 x54 x55 x62 x63 x64 x65 x66 x67)) x42 x56 x57 x58 x59 x60 x61) (funext fun x42 => funext fun x56 => funext fun x57 => funext fun x58 => funext fun x59 => funext fun x60 => funext fun x61 => pspan_l0_iter x39 x40 x41 x43 x44 x45 x46 x47 x48 x49 x50 x51 x52 x53 x54 x55 Q n x42 x56 x57 x58 x59 x60 x61))
noncomputable def pspan_l0_go {α:Type} (ds:List D) (Q:Ex → St → Option α):Option α :=
 dV ds fun x39 ds => dL kP ds fun x40 ds => dI ds fun x41 ds => dI ds fun x42 ds => dV ds fun x43 ds => dL kP ds fun x44 ds => dV ds fun x45 ds => dL kP ds fun x46 ds => dV ds fun x47 ds => dL kP ds fun x48 ds => dI ds fun x49 ds => dI ds fun x50 ds => dI ds fun x51 ds => dI ds fun x52 ds => dI ds fun x53 ds => dI ds fun x54 ds => dI ds fun x55 ds => dI ds fun x56 ds => dI ds fun x57 ds => dI ds fun x58 ds => dI ds fun x59 ds => dI ds fun x60 ds => dI ds fun x61 ds => dE ds (M.pspan_l0 x40 x41 (fun (x62 x63 x64 x65 x66 x67:Int) => Q (.exit 0) (pspan_S2 x43 x44 x45 x46 x47 x48 x49 x50 x51 x52 x53 x54 x55 x62 x63 x64 x65 x66 x67)) (100 + x40.length + x44.length + x46.length + x48.length) x42 x56 x57 x58 x59 x60 x61)
theorem pspan_l0_ok {α:Type}:LoopOk E.P 26 pspan_P1 0 (lEnt (α := α) (pspan_S3) pspan_l0_go) :=
 lEnt_ok E (exec_sound E E_ok (look_pjoin_ok) (noLps_ok _) 400) fun ds Q r h S hS => by
   unfold pspan_l0_go at h
   obtain ⟨x39,ds,rfl,h1⟩ := dV_inv h
   obtain ⟨x40,ds,rfl,h2⟩ := dL_inv h1
   obtain ⟨x41,ds,rfl,h3⟩ := dI_inv h2
   obtain ⟨x42,ds,rfl,h4⟩ := dI_inv h3
   obtain ⟨x43,ds,rfl,h5⟩ := dV_inv h4
   obtain ⟨x44,ds,rfl,h6⟩ := dL_inv h5
   obtain ⟨x45,ds,rfl,h7⟩ := dV_inv h6
   obtain ⟨x46,ds,rfl,h8⟩ := dL_inv h7
   obtain ⟨x47,ds,rfl,h9⟩ := dV_inv h8
   obtain ⟨x48,ds,rfl,h10⟩ := dL_inv h9
   obtain ⟨x49,ds,rfl,h11⟩ := dI_inv h10
   obtain ⟨x50,ds,rfl,h12⟩ := dI_inv h11
   obtain ⟨x51,ds,rfl,h13⟩ := dI_inv h12
   obtain ⟨x52,ds,rfl,h14⟩ := dI_inv h13
   obtain ⟨x53,ds,rfl,h15⟩ := dI_inv h14
   obtain ⟨x54,ds,rfl,h16⟩ := dI_inv h15
   obtain ⟨x55,ds,rfl,h17⟩ := dI_inv h16
   obtain ⟨x56,ds,rfl,h18⟩ := dI_inv h17
   obtain ⟨x57,ds,rfl,h19⟩ := dI_inv h18
   obtain ⟨x58,ds,rfl,h20⟩ := dI_inv h19
   obtain ⟨x59,ds,rfl,h21⟩ := dI_inv h20
   obtain ⟨x60,ds,rfl,h22⟩ := dI_inv h21
   obtain ⟨x61,ds,rfl,h23⟩ := dI_inv h22
   obtain ⟨rfl,hE⟩ := dE_inv h23
   have e:fillS (pspan_S3) [.v x39,.l kP x40,.i x41,.i x42,.v x43,.l kP x44,.v x45,.l kP x46,.v x47,.l kP x48,.i x49,.i x50,.i x51,.i x52,.i x53,.i x54,.i x55,.i x56,.i x57,.i x58,.i x59,.i x60,.i x61] = some (pspan_S1 x39 x40 x41 x42 x43 x44 x45 x46 x47 x48 x49 x50 x51 x52 x53 x54 x55 x56 x57 x58 x59 x60 x61) := by kernel_rfl
   rw [e] at hS
   cases hS
   exact ⟨_,(pspan_l0_iter x39 x40 x41 x43 x44 x45 x46 x47 x48 x49 x50 x51 x52 x53 x54 x55 Q _ x42 x56 x57 x58 x59 x60 x61).trans hE⟩
noncomputable def pspan_l0_lps {α:Type}:LookL α := addLp 26 pspan_P1 0 (lEnt (pspan_S3) pspan_l0_go) noLps
theorem pspan_l0_lps_ok {α:Type}:LoopsOk E.P (pspan_l0_lps (α := α)) := addLp_ok pspan_l0_ok (noLps_ok _)
noncomputable def M.pspan {α:Type} (l:L3) (ax:L3) (ed:L3) (r:Int) (k0:Int → Int → Int → Int → Int → Int → Option α):Option α := if cEq (↑(List.length l):Int) (0:Int) = true then k0 (0:Int) (0:Int) (0:Int) (0:Int) (0:Int) (0:Int) else if (0:Int) ≤ (0:Int) ∧ (0:Int) < (↑(List.length l):Int) then if (0:Int) ≤ (0:Int) ∧ (0:Int) < (↑(List.length l):Int) then if (0:Int) ≤ (1:Int) ∧ (1:Int) ≤ (↑(List.length l):Int) ∧ (↑(List.length l):Int) ≤ (↑(List.length l):Int) then M.pspan_l0 (List.take (Int.toNat ((↑(List.length l):Int) - (1:Int))) (List.drop (1:Nat) l)) (↑(List.length (List.take (Int.toNat ((↑(List.length l):Int) - (1:Int))) (List.drop (1:Nat) l))):Int) (fun (x78 x79 x80 x81 x82 x83:Int) ↦ k0 (V.pgrown_r0 x78 x79 x80 x81 x82 x83 r) (V.pgrown_r1 x78 x79 x80 x81 x82 x83 r) (V.pgrown_r2 x78 x79 x80 x81 x82 x83 r) (V.pgrown_r3 x78 x79 x80 x81 x82 x83 r) (V.pgrown_r4 x78 x79 x80 x81 x82 x83 r) (V.pgrown_r5 x78 x79 x80 x81 x82 x83 r)) ((100:Nat) + List.length (List.take (Int.toNat ((↑(List.length l):Int) - (1:Int))) (List.drop (1:Nat) l)) + List.length l + List.length ax + List.length ed) (0:Int) (Prod.fst (List.getD l (0:Nat) ((0:Int),(0:Int),(0:Int)))) (Prod.fst (Prod.snd (List.getD l (0:Nat) ((0:Int),(0:Int),(0:Int))))) (Prod.snd (Prod.snd (List.getD l (0:Nat) ((0:Int),(0:Int),(0:Int))))) (Prod.fst (List.getD l (0:Nat) ((0:Int),(0:Int),(0:Int)))) (Prod.fst (Prod.snd (List.getD l (0:Nat) ((0:Int),(0:Int),(0:Int))))) (Prod.snd (Prod.snd (List.getD l (0:Nat) ((0:Int),(0:Int),(0:Int))))) else none else none else none
theorem pspan_eq {α:Type} (l:L3) (ax:L3) (ed:L3) (r:Int) (v75:Value) (v76:Value) (v77:Value) (Q:SV → Hp → Option α):callI E look_pjoin (exec E look_pjoin pspan_l0_lps 400) 26 ([SV.agg [SV.ros v75 kP l,SV.ros v76 kP ax,SV.ros v77 kP ed,SV.int .i64 r]]) ([]) Q = M.pspan l ax ed r (fun (x84 x85 x86 x87 x88 x89:Int) => Q (SV.agg [SV.int .i64 x84,SV.int .i64 x85,SV.int .i64 x86,SV.int .i64 x87,SV.int .i64 x88,SV.int .i64 x89]) ([])) := by kernel_rfl
def pspan_sp:List AS := [.st [.ro kP,.ro kP,.ro kP,.leaf (.int .i64 0)]]
abbrev P6 := Int × Int × Int × Int × Int × Int
noncomputable def spnP (l:List P3) (r:Int):P6 :=
 if l.length = 0 then (0,0,0,0,0,0) else
   (IntKind.wrap .i64 (loF (fun p => p.1) l (pt l 0).1 - r),IntKind.wrap .i64 (loF (fun p => p.2.1) l (pt l 0).2.1 - r),IntKind.wrap .i64 (loF (fun p => p.2.2) l (pt l 0).2.2 - r),
     IntKind.wrap .i64 (hiF (fun p => p.1) l (pt l 0).1 + r),IntKind.wrap .i64 (hiF (fun p => p.2.1) l (pt l 0).2.1 + r),IntKind.wrap .i64 (hiF (fun p => p.2.2) l (pt l 0).2.2 + r))
noncomputable def _root_.Go.Proofs.YtlagndfhibkjpaaGreat.V.spn (l:List P3) (r:Int):P6 := hid (spnP l r)
theorem loF_tail (f:P3 → Int) (l:List P3) (h:0 < l.length):loF f (l.drop 1) (f (pt l 0)) = loF f l (f (pt l 0)) := by
 cases l with
 | nil => simp at h
 | cons p l => simp [loF,pt]
theorem hiF_tail (f:P3 → Int) (l:List P3) (h:0 < l.length):hiF f (l.drop 1) (f (pt l 0)) = hiF f l (f (pt l 0)) := by
 cases l with
 | nil => simp at h
 | cons p l => simp [hiF,pt]
theorem pspan_l0_val {α:Type} (T:List P3) (hT:T.length < 1099511627776) (k1:Int → Int → Int → Int → Int → Int → Option α):∀ (fuel i:Nat) (a b c d e g:Int),i ≤ T.length → T.length - i < fuel →
   M.pspan_l0 T (T.length:Int) k1 fuel (i:Int) a b c d e g = k1 (loF (fun p => p.1) (T.drop i) a) (loF (fun p => p.2.1) (T.drop i) b) (loF (fun p => p.2.2) (T.drop i) c) (hiF (fun p => p.1) (T.drop i) d) (hiF (fun p => p.2.1) (T.drop i) e) (hiF (fun p => p.2.2) (T.drop i) g)
 | 0,i,a,b,c,d,e,g,h1,h2 => by omega
 | f + 1,i,a,b,c,d,e,g,h1,h2 => by
   unfold M.pspan_l0 M.pspan_l0_step
   rw [cLt_nat]
   by_cases hi:i < T.length
   · rw [if_pos (by simpa using hi),if_pos (by omega),w_next (by omega),pspan_l0_val T hT k1 f (i + 1) _ _ _ _ _ _ (by omega) (by omega),drop_pt T i hi]
     rfl
   · have : i = T.length := by omega
     subst this
     rw [if_neg (by simp)]
     simp [loF,hiF]
theorem pspan_v {α:Type} (l ax ed:List P3) (r:Int) (hg:V.lenB l.length = true) (k0:Int → Int → Int → Int → Int → Int → Option α) :
   M.pspan l ax ed r k0 = k0 (V.spn l r).1 (V.spn l r).2.1 (V.spn l r).2.2.1 (V.spn l r).2.2.2.1 (V.spn l r).2.2.2.2.1 (V.spn l r).2.2.2.2.2 := by
 have hl := lenB_lt hg
 unfold M.pspan V.spn
 rw [hid_eq,cEq_eq]
 unfold spnP
 by_cases h0:l.length = 0
 · rw [if_pos (by simpa using h0),if_pos h0]
 · rw [if_neg (by simpa using h0), if_neg h0, if_pos (by omega), if_pos (by omega), if_pos (by omega)]
   have hd:List.take (Int.toNat ((l.length:Int) - 1)) (List.drop 1 l) = l.drop 1 := List.take_of_length_le (by rw [List.length_drop]; omega)
   rw [hd]
   refine Eq.trans (pspan_l0_val (l.drop 1) (by rw [List.length_drop]; omega) _ _ 0 _ _ _ _ _ _ (by omega) (by omega)) ?_
   rw [List.drop_zero]
   have e1 := loF_tail (fun p => p.1) l (by omega)
   have e2 := loF_tail (fun p => p.2.1) l (by omega)
   have e3 := loF_tail (fun p => p.2.2) l (by omega)
   have e4 := hiF_tail (fun p => p.1) l (by omega)
   have e5 := hiF_tail (fun p => p.2.1) l (by omega)
   have e6 := hiF_tail (fun p => p.2.2) l (by omega)
   simp only [pt] at e1 e2 e3 e4 e5 e6 ⊢
   simp only [e1,e2,e3,e4,e5,e6]
   rfl
noncomputable def pspan_h {α:Type} (ds:List D) (Q:SV → Hp → Option α):Option α :=
 dL kP ds fun l ds => dL kP ds fun ax ds => dL kP ds fun ed ds => dI ds fun r ds => dE ds (if V.lenB l.length = true then Q (.agg [.int .i64 (V.spn l r).1,.int .i64 (V.spn l r).2.1,.int .i64 (V.spn l r).2.2.1,.int .i64 (V.spn l r).2.2.2.1,.int .i64 (V.spn l r).2.2.2.2.1,.int .i64 (V.spn l r).2.2.2.2.2]) ([]) else none)
theorem pspan_h_ok {α:Type}:FnOk E.P 26 (fEnt (α := α) pspan_sp pspan_h) :=
 fEntR_ok E (look_pjoin_ok) (exec_sound E E_ok (look_pjoin_ok) (pspan_l0_lps_ok) 400) fun ds Q r h => by
   unfold pspan_h at h
   obtain ⟨l,ds,rfl,h1⟩ := dL_inv h
   obtain ⟨ax,ds,rfl,h2⟩ := dL_inv h1
   obtain ⟨ed,ds,rfl,h3⟩ := dL_inv h2
   obtain ⟨r,ds,rfl,h4⟩ := dI_inv h3
   obtain ⟨rfl,hE⟩ := dE_inv h4
   split at hE
   · rename_i hg
     exact ⟨_,_,hE,fun vs => ⟨_,_,by kernel_rfl,(pspan_eq l ax ed r ((cellsV (vs.headD undef)).headD undef) ((cellsV (vs.headD undef)).tail.headD undef) ((cellsV (vs.headD undef)).tail.tail.headD undef) _).trans (pspan_v l ax ed r hg _)⟩⟩
   · cases hE
noncomputable def look_pspan {α:Type}:LookF α := addFn 26 (fEnt pspan_sp pspan_h) look_pjoin
theorem look_pspan_ok {α:Type}:LookOk E.P (look_pspan (α := α)) := addFn_ok pspan_h_ok (look_pjoin_ok)
noncomputable abbrev pmoved_S1 (y1:Value) (y2:L3) (y3 y4 y5 y6 y7 y8:Int) (y9 y10 y11:L3) (y12:Int) (y13 y14 y15:L3):St := St.mk (nn 3 (some (SV.ptr (nat_lit 0) (nat_lit 0)) :: some (SV.ptr (nat_lit 1) (nat_lit 0)) :: some (SV.ptr (nat_lit 5) (nat_lit 0)) :: nn 12 (some (SV.ros y1 kP y2) :: some (SV.int .i64 y3) :: some (SV.int .i64 y4) :: nn 26 ([])))) [.cells [SV.int .i64 y5,SV.int .i64 y6,SV.int .i64 y7] (nat_lit 23),.cells [SV.sl (nat_lit 2),SV.sl (nat_lit 3),SV.sl (nat_lit 4),SV.int .i64 y8] (nat_lit 33),.seq kP y9 (nat_lit 23),.seq kP y10 (nat_lit 23),.seq kP y11 (nat_lit 23),.cells [SV.sl (nat_lit 6),SV.sl (nat_lit 7),SV.sl (nat_lit 8),SV.int .i64 y12] (nat_lit 33),.seq kP y13 (nat_lit 23),.seq kP y14 (nat_lit 23),.seq kP y15 (nat_lit 23)]
noncomputable abbrev pmoved_S2 (y1:Int) (y2 y3 y4:L3) (y5:Int) (y6 y7 y8:L3):St := St.mk (nn 4 (some (SV.ptr (nat_lit 0) (nat_lit 0)) :: some (SV.ptr (nat_lit 4) (nat_lit 0)) :: nn 41 ([]))) [.cells [SV.sl (nat_lit 1),SV.sl (nat_lit 2),SV.sl (nat_lit 3),SV.int .i64 y1] (nat_lit 33),.seq kP y2 (nat_lit 23),.seq kP y3 (nat_lit 23),.seq kP y4 (nat_lit 23),.cells [SV.sl (nat_lit 5),SV.sl (nat_lit 6),SV.sl (nat_lit 7),SV.int .i64 y5] (nat_lit 33),.seq kP y6 (nat_lit 23),.seq kP y7 (nat_lit 23),.seq kP y8 (nat_lit 23)]
noncomputable abbrev pmoved_S3:St := St.mk (nn 3 (some (SV.ptr (nat_lit 0) (nat_lit 0)) :: some (SV.ptr (nat_lit 1) (nat_lit 0)) :: some (SV.ptr (nat_lit 5) (nat_lit 0)) :: nn 12 (some (SV.ros undef kP []) :: some (SV.int .i64 (0:Int)) :: some (SV.int .i64 (0:Int)) :: nn 26 ([])))) [.cells [SV.int .i64 (0:Int),SV.int .i64 (0:Int),SV.int .i64 (0:Int)] (nat_lit 23),.cells [SV.sl (nat_lit 2),SV.sl (nat_lit 3),SV.sl (nat_lit 4),SV.int .i64 (0:Int)] (nat_lit 33),.seq kP [] (nat_lit 23),.seq kP [] (nat_lit 23),.seq kP [] (nat_lit 23),.cells [SV.sl (nat_lit 6),SV.sl (nat_lit 7),SV.sl (nat_lit 8),SV.int .i64 (0:Int)] (nat_lit 33),.seq kP [] (nat_lit 23),.seq kP [] (nat_lit 23),.seq kP [] (nat_lit 23)]
noncomputable def M.pmoved_l0_step {α:Type} (x109:L3) (x110 x112 x113 x114:Int) (kn:Int → L3 → Option α) (k1:L3 → Option α) (x111:Int) (x120:L3):Option α := if cLt x111 x110 = true then if (0:Int) ≤ x111 ∧ x111 < (↑(List.length x109):Int) then if (List.length x120 + ((0:Nat) + (1:Nat))) * (24:Nat) ≤ (140737488355328:Nat) then kn (IntKind.wrap .i64 (x111 + (1:Int))) (x120 ++ [(IntKind.wrap .i64 (Prod.fst (List.getD x109 (Int.toNat x111) ((0:Int),(0:Int),(0:Int))) + x112),IntKind.wrap .i64 (Prod.fst (Prod.snd (List.getD x109 (Int.toNat x111) ((0:Int),(0:Int),(0:Int)))) + x113),IntKind.wrap .i64 (Prod.snd (Prod.snd (List.getD x109 (Int.toNat x111) ((0:Int),(0:Int),(0:Int)))) + x114))]) else none else none else k1 x120
noncomputable def M.pmoved_l0 {α:Type} (x109:L3) (x110 x112 x113 x114:Int) (k1:L3 → Option α):Nat → Int → L3 → Option α
 | 0,_,_ => none
 | n + 1,x111,x120 => M.pmoved_l0_step x109 x110 x112 x113 x114 (M.pmoved_l0 x109 x110 x112 x113 x114 k1 n) k1 x111 x120
theorem pmoved_l0_step_eq {α:Type} (x108:Value) (x109:L3) (x110 x111 x112 x113 x114 x115:Int) (x116 x117 x118:L3) (x119:Int) (x120 x121 x122:L3) (Q:Ex → St → Option α):(loopStep E (exec E look_pspan noLps 400) 22 [false,true,false,true,true] 0 (codeAt E.P 22 [false,true,false,true,true])) (pmoved_S1 x108 x109 x110 x111 x112 x113 x114 x115 x116 x117 x118 x119 x120 x121 x122) Q = M.pmoved_l0_step x109 x110 x112 x113 x114 (fun (x124:Int) (x125:L3) => Q .normal (pmoved_S1 x108 x109 x110 x124 x112 x113 x114 x115 x116 x117 x118 x119 x125 x121 x122)) (fun (x123:L3) => Q (.exit 0) (pmoved_S2 x115 x116 x117 x118 x119 x123 x121 x122)) x111 x120 := by kernel_rfl
theorem pmoved_l0_iter {α:Type} (x108:Value) (x109:L3) (x110 x112 x113 x114 x115:Int) (x116 x117 x118:L3) (x119:Int) (x121 x122:L3) (Q:Ex → St → Option α):∀ (n:Nat) (x111:Int) (x120:L3),iter (loopStep E (exec E look_pspan noLps 400) 22 [false,true,false,true,true] 0 (codeAt E.P 22 [false,true,false,true,true])) n (pmoved_S1 x108 x109 x110 x111 x112 x113 x114 x115 x116 x117 x118 x119 x120 x121 x122) Q = M.pmoved_l0 x109 x110 x112 x113 x114 (fun (x123:L3) => Q (.exit 0) (pmoved_S2 x115 x116 x117 x118 x119 x123 x121 x122)) n x111 x120
 | 0,_,_ => rfl
 | n + 1,x111,x120 => (pmoved_l0_step_eq x108 x109 x110 x111 x112 x113 x114 x115 x116 x117 x118 x119 x120 x121 x122 (iterK (loopStep E (exec E look_pspan noLps 400) 22 [false,true,false,true,true] 0 (codeAt E.P 22 [false,true,false,true,true])) n Q)).trans (congrArg (fun kn => M.pmoved_l0_step x109 x110 x112 x113 x114 kn (fun (x123:L3) => Q (.exit 0) (pmoved_S2 x115 x116 x117 x118 x119 x123 x121 x122)) x111 x120) (funext fun x111 => funext fun x120 => pmoved_l0_iter x108 x109 x110 x112 x113 x114 x115 x116 x117 x118 x119 x121 x122 Q n x111 x120))
noncomputable def pmoved_l0_go {α:Type} (ds:List D) (Q:Ex → St → Option α):Option α :=
 dV ds fun x108 ds => dL kP ds fun x109 ds => dI ds fun x110 ds => dI ds fun x111 ds => dI ds fun x112 ds => dI ds fun x113 ds => dI ds fun x114 ds => dI ds fun x115 ds => dL kP ds fun x116 ds => dL kP ds fun x117 ds => dL kP ds fun x118 ds => dI ds fun x119 ds => dL kP ds fun x120 ds => dL kP ds fun x121 ds => dL kP ds fun x122 ds => dE ds (M.pmoved_l0 x109 x110 x112 x113 x114 (fun (x123:L3) => Q (.exit 0) (pmoved_S2 x115 x116 x117 x118 x119 x123 x121 x122)) (100 + x109.length + x116.length + x117.length + x118.length + x120.length + x121.length + x122.length) x111 x120)
theorem pmoved_l0_ok {α:Type}:LoopOk E.P 22 [false,true,false,true,true] 0 (lEnt (α := α) (pmoved_S3) pmoved_l0_go) :=
 lEnt_ok E (exec_sound E E_ok (look_pspan_ok) (noLps_ok _) 400) fun ds Q r h S hS => by
   unfold pmoved_l0_go at h
   obtain ⟨x108,ds,rfl,h1⟩ := dV_inv h
   obtain ⟨x109,ds,rfl,h2⟩ := dL_inv h1
   obtain ⟨x110,ds,rfl,h3⟩ := dI_inv h2
   obtain ⟨x111,ds,rfl,h4⟩ := dI_inv h3
   obtain ⟨x112,ds,rfl,h5⟩ := dI_inv h4
   obtain ⟨x113,ds,rfl,h6⟩ := dI_inv h5
   obtain ⟨x114,ds,rfl,h7⟩ := dI_inv h6
   obtain ⟨x115,ds,rfl,h8⟩ := dI_inv h7
   obtain ⟨x116,ds,rfl,h9⟩ := dL_inv h8
   obtain ⟨x117,ds,rfl,h10⟩ := dL_inv h9
   obtain ⟨x118,ds,rfl,h11⟩ := dL_inv h10
   obtain ⟨x119,ds,rfl,h12⟩ := dI_inv h11
   obtain ⟨x120,ds,rfl,h13⟩ := dL_inv h12
   obtain ⟨x121,ds,rfl,h14⟩ := dL_inv h13
   obtain ⟨x122,ds,rfl,h15⟩ := dL_inv h14
   obtain ⟨rfl,hE⟩ := dE_inv h15
   have e:fillS (pmoved_S3) [.v x108,.l kP x109,.i x110,.i x111,.i x112,.i x113,.i x114,.i x115,.l kP x116,.l kP x117,.l kP x118,.i x119,.l kP x120,.l kP x121,.l kP x122] = some (pmoved_S1 x108 x109 x110 x111 x112 x113 x114 x115 x116 x117 x118 x119 x120 x121 x122) := by kernel_rfl
   rw [e] at hS
   cases hS
   exact ⟨_,(pmoved_l0_iter x108 x109 x110 x112 x113 x114 x115 x116 x117 x118 x119 x121 x122 Q _ x111 x120).trans hE⟩
noncomputable def pmoved_l0_lps {α:Type}:LookL α := addLp 22 [false,true,false,true,true] 0 (lEnt (pmoved_S3) pmoved_l0_go) noLps
theorem pmoved_l0_lps_ok {α:Type}:LoopsOk E.P (pmoved_l0_lps (α := α)) := addLp_ok pmoved_l0_ok (noLps_ok _)
noncomputable def M.pmoved {α:Type} (l:L3) (ax:L3) (ed:L3) (r:Int) (x:Int) (y:Int) (z:Int) (k0:Int → L3 → L3 → L3 → Option α):Option α := if V.lenB (List.length ax) = true then if V.lenB (List.length ed) = true then M.pmoved_l0 l (↑(List.length l):Int) x y z (fun (x129:L3) ↦ k0 r x129 ax ed) ((100:Nat) + List.length l + (0:Nat) + (0:Nat) + (0:Nat) + (0:Nat) + List.length ax + List.length ed) (0:Int) [] else none else none
theorem pmoved_eq {α:Type} (l:L3) (ax:L3) (ed:L3) (r:Int) (x:Int) (y:Int) (z:Int) (v126:Value) (v127:Value) (v128:Value) (Q:SV → Hp → Option α):callI E look_pspan (exec E look_pspan pmoved_l0_lps 400) 22 ([SV.agg [SV.ros v126 kP l,SV.ros v127 kP ax,SV.ros v128 kP ed,SV.int .i64 r],SV.agg [SV.int .i64 x,SV.int .i64 y,SV.int .i64 z]]) ([]) Q = M.pmoved l ax ed r x y z (fun (x130:Int) (x131 x132 x133:L3) => Q (SV.agg [SV.sl (nat_lit 0),SV.sl (nat_lit 1),SV.sl (nat_lit 2),SV.int .i64 x130]) ([.seq kP x131 (nat_lit 23),.seq kP x132 (nat_lit 23),.seq kP x133 (nat_lit 23)])) := by kernel_rfl
def pmoved_sp:List AS := [.st [.ro kP,.ro kP,.ro kP,.leaf (.int .i64 0)],.val (.agg [.int .i64 0,.int .i64 0,.int .i64 0])]
def movP (b:P3) (p:P3):P3 := (IntKind.wrap .i64 (p.1 + b.1),IntKind.wrap .i64 (p.2.1 + b.2.1),IntKind.wrap .i64 (p.2.2 + b.2.2))
noncomputable def _root_.Go.Proofs.YtlagndfhibkjpaaGreat.V.mvd (l:List P3) (b:P3):List P3 := hid (l.map (movP b))
theorem pmoved_l0_val {α:Type} (l:List P3) (hl:l.length < 1099511627776) (x y z:Int) (k1:List P3 → Option α):∀ (fuel i:Nat) (acc:List P3),i ≤ l.length → l.length - i < fuel → acc.length ≤ i →
   M.pmoved_l0 l (l.length:Int) x y z k1 fuel (i:Int) acc = k1 (acc ++ (l.drop i).map (movP (x,y,z)))
 | 0,i,acc,h1,h2,h3 => by omega
 | f + 1,i,acc,h1,h2,h3 => by
   unfold M.pmoved_l0 M.pmoved_l0_step
   rw [cLt_nat]
   by_cases hi:i < l.length
   · rw [if_pos (by simpa using hi),if_pos (by omega),if_pos (by omega),w_next (by omega),pmoved_l0_val l hl x y z k1 f (i + 1) _ (by omega) (by omega) (by rw [List.length_append,List.length_singleton]; omega),drop_pt l i hi,List.map_cons,List.append_assoc]
     rfl
   · have : i = l.length := by omega
     subst this
     rw [if_neg (by simp)]
     simp
theorem pmoved_v {α:Type} (l ax ed:List P3) (r x y z:Int) (h1:V.lenB l.length = true) (h2:V.lenB ax.length = true) (h3:V.lenB ed.length = true) (k0:Int → List P3 → List P3 → List P3 → Option α) :
   M.pmoved l ax ed r x y z k0 = k0 r (V.mvd l (x,y,z)) ax ed := by
 unfold M.pmoved V.mvd
 rw [if_pos h2,if_pos h3,hid_eq]
 refine Eq.trans (pmoved_l0_val l (lenB_lt h1) x y z _ _ 0 [] (by omega) (by omega) (by simp)) ?_
 simp
noncomputable def pmoved_h {α:Type} (ds:List D) (Q:SV → Hp → Option α):Option α :=
 dL kP ds fun l ds => dL kP ds fun ax ds => dL kP ds fun ed ds => dI ds fun r ds => dI ds fun x ds => dI ds fun y ds => dI ds fun z ds => dE ds (if V.lenB l.length = true ∧ V.lenB ax.length = true ∧ V.lenB ed.length = true then Q (.agg [.sl 0,.sl 1,.sl 2,.int .i64 r]) ([.seq (.st (.i .i64) [.i .i64,.i .i64]) (V.mvd l (x,y,z)) 23,.seq (.st (.i .i64) [.i .i64,.i .i64]) ax 23,.seq (.st (.i .i64) [.i .i64,.i .i64]) ed 23]) else none)
theorem pmoved_h_ok {α:Type}:FnOk E.P 22 (fEnt (α := α) pmoved_sp pmoved_h) :=
 fEntR_ok E (look_pspan_ok) (exec_sound E E_ok (look_pspan_ok) (pmoved_l0_lps_ok) 400) fun ds Q r h => by
   unfold pmoved_h at h
   obtain ⟨l,ds,rfl,h1⟩ := dL_inv h
   obtain ⟨ax,ds,rfl,h2⟩ := dL_inv h1
   obtain ⟨ed,ds,rfl,h3⟩ := dL_inv h2
   obtain ⟨r,ds,rfl,h4⟩ := dI_inv h3
   obtain ⟨x,ds,rfl,h5⟩ := dI_inv h4
   obtain ⟨y,ds,rfl,h6⟩ := dI_inv h5
   obtain ⟨z,ds,rfl,h7⟩ := dI_inv h6
   obtain ⟨rfl,hE⟩ := dE_inv h7
   split at hE
   · rename_i hg
     exact ⟨_,_,hE,fun vs => ⟨_,_,by kernel_rfl,(pmoved_eq l ax ed r x y z ((cellsV (vs.headD undef)).headD undef) ((cellsV (vs.headD undef)).tail.headD undef) ((cellsV (vs.headD undef)).tail.tail.headD undef) _).trans (pmoved_v l ax ed r x y z hg.1 hg.2.1 hg.2.2 _)⟩⟩
   · cases hE
noncomputable def look_pmoved {α:Type}:LookF α := addFn 22 (fEnt pmoved_sp pmoved_h) look_pspan
theorem look_pmoved_ok {α:Type}:LookOk E.P (look_pmoved (α := α)) := addFn_ok pmoved_h_ok (look_pspan_ok)
end
section
open Go
set_option maxRecDepth 20000
noncomputable abbrev pways_S1 (y1:Int) (y2:Value) (y3:L3) (y4 y5:Int) (y6:Bool) (y7 y8 y9 y10 y11 y12 y13 y14 y15:Int) (y16:L3) (y17:Bool) (y18 y19:L3) (y20 y21 y22:Int):St := St.mk (some (SV.ptr (nat_lit 0) (nat_lit 0)) :: nn 3 (some (SV.ptr (nat_lit 1) (nat_lit 0)) :: none :: some (SV.ptr (nat_lit 2) (nat_lit 0)) :: some (SV.ptr (nat_lit 4) (nat_lit 0)) :: some (SV.ptr (nat_lit 5) (nat_lit 0)) :: some (SV.sl (nat_lit 7)) :: some (SV.int .i64 y1) :: some (SV.ptr (nat_lit 8) (nat_lit 0)) :: nn 5 (some (SV.ros y2 kP y3) :: some (SV.int .i64 y4) :: some (SV.int .i64 y5) :: nn 54 ([])))) [.cells [SV.bool y6] (nat_lit 50),.cells [SV.int .i64 y7,SV.int .i64 y8,SV.int .i64 y9,SV.int .i64 y10,SV.int .i64 y11,SV.int .i64 y12,SV.int .i64 y13,SV.int .i64 y14,SV.int .i64 y15] (nat_lit 52),.cells [SV.sl (nat_lit 3)] (nat_lit 24),.seq kP y16 (nat_lit 23),.cells [SV.bool y17] (nat_lit 4),.cells [SV.sl (nat_lit 6)] (nat_lit 24),.seq kP y18 (nat_lit 23),.seq kP y19 (nat_lit 23),.cells [SV.int .i64 y20,SV.int .i64 y21,SV.int .i64 y22] (nat_lit 23)]
noncomputable abbrev pways_S2:St := St.mk (some (SV.ptr (nat_lit 0) (nat_lit 0)) :: nn 3 (some (SV.ptr (nat_lit 1) (nat_lit 0)) :: none :: some (SV.ptr (nat_lit 2) (nat_lit 0)) :: some (SV.ptr (nat_lit 4) (nat_lit 0)) :: some (SV.ptr (nat_lit 5) (nat_lit 0)) :: some (SV.sl (nat_lit 7)) :: some (SV.int .i64 (0:Int)) :: some (SV.ptr (nat_lit 8) (nat_lit 0)) :: nn 5 (some (SV.ros undef kP []) :: some (SV.int .i64 (0:Int)) :: some (SV.int .i64 (0:Int)) :: nn 54 ([])))) [.cells [SV.bool false] (nat_lit 50),.cells [SV.int .i64 (0:Int),SV.int .i64 (0:Int),SV.int .i64 (0:Int),SV.int .i64 (0:Int),SV.int .i64 (0:Int),SV.int .i64 (0:Int),SV.int .i64 (0:Int),SV.int .i64 (0:Int),SV.int .i64 (0:Int)] (nat_lit 52),.cells [SV.sl (nat_lit 3)] (nat_lit 24),.seq kP [] (nat_lit 23),.cells [SV.bool false] (nat_lit 4),.cells [SV.sl (nat_lit 6)] (nat_lit 24),.seq kP [] (nat_lit 23),.seq kP [] (nat_lit 23),.cells [SV.int .i64 (0:Int),SV.int .i64 (0:Int),SV.int .i64 (0:Int)] (nat_lit 23)]
noncomputable abbrev pways_S3 (y1:Value) (y2:L3) (y3 y4:Int) (y5:Bool) (y6 y7 y8 y9 y10 y11 y12 y13 y14:Int) (y15:L3) (y16:Bool) (y17 y18:L3):St := St.mk (some (SV.ptr (nat_lit 0) (nat_lit 0)) :: nn 3 (some (SV.ptr (nat_lit 1) (nat_lit 0)) :: none :: some (SV.ptr (nat_lit 2) (nat_lit 0)) :: some (SV.ptr (nat_lit 4) (nat_lit 0)) :: some (SV.ptr (nat_lit 5) (nat_lit 0)) :: some (SV.sl (nat_lit 7)) :: nn 7 (some (SV.ros y1 kP y2) :: some (SV.int .i64 y3) :: some (SV.int .i64 y4) :: nn 54 ([])))) [.cells [SV.bool y5] (nat_lit 50),.cells [SV.int .i64 y6,SV.int .i64 y7,SV.int .i64 y8,SV.int .i64 y9,SV.int .i64 y10,SV.int .i64 y11,SV.int .i64 y12,SV.int .i64 y13,SV.int .i64 y14] (nat_lit 52),.cells [SV.sl (nat_lit 3)] (nat_lit 24),.seq kP y15 (nat_lit 23),.cells [SV.bool y16] (nat_lit 4),.cells [SV.sl (nat_lit 6)] (nat_lit 24),.seq kP y17 (nat_lit 23),.seq kP y18 (nat_lit 23)]
noncomputable abbrev pways_S4 (y1:Bool) (y2 y3 y4 y5 y6 y7 y8 y9 y10:Int) (y11:L3) (y12:Bool) (y13 y14:L3):St := St.mk (some (SV.ptr (nat_lit 0) (nat_lit 0)) :: nn 3 (some (SV.ptr (nat_lit 1) (nat_lit 0)) :: none :: some (SV.ptr (nat_lit 2) (nat_lit 0)) :: some (SV.ptr (nat_lit 4) (nat_lit 0)) :: some (SV.ptr (nat_lit 5) (nat_lit 0)) :: some (SV.sl (nat_lit 7)) :: nn 64 ([]))) [.cells [SV.bool y1] (nat_lit 50),.cells [SV.int .i64 y2,SV.int .i64 y3,SV.int .i64 y4,SV.int .i64 y5,SV.int .i64 y6,SV.int .i64 y7,SV.int .i64 y8,SV.int .i64 y9,SV.int .i64 y10] (nat_lit 52),.cells [SV.sl (nat_lit 3)] (nat_lit 24),.seq kP y11 (nat_lit 23),.cells [SV.bool y12] (nat_lit 4),.cells [SV.sl (nat_lit 6)] (nat_lit 24),.seq kP y13 (nat_lit 23),.seq kP y14 (nat_lit 23)]
noncomputable abbrev pways_S5:St := St.mk (some (SV.ptr (nat_lit 0) (nat_lit 0)) :: nn 3 (some (SV.ptr (nat_lit 1) (nat_lit 0)) :: none :: some (SV.ptr (nat_lit 2) (nat_lit 0)) :: some (SV.ptr (nat_lit 4) (nat_lit 0)) :: some (SV.ptr (nat_lit 5) (nat_lit 0)) :: some (SV.sl (nat_lit 7)) :: nn 7 (some (SV.ros undef kP []) :: some (SV.int .i64 (0:Int)) :: some (SV.int .i64 (0:Int)) :: nn 54 ([])))) [.cells [SV.bool false] (nat_lit 50),.cells [SV.int .i64 (0:Int),SV.int .i64 (0:Int),SV.int .i64 (0:Int),SV.int .i64 (0:Int),SV.int .i64 (0:Int),SV.int .i64 (0:Int),SV.int .i64 (0:Int),SV.int .i64 (0:Int),SV.int .i64 (0:Int)] (nat_lit 52),.cells [SV.sl (nat_lit 3)] (nat_lit 24),.seq kP [] (nat_lit 23),.cells [SV.bool false] (nat_lit 4),.cells [SV.sl (nat_lit 6)] (nat_lit 24),.seq kP [] (nat_lit 23),.seq kP [] (nat_lit 23)]
noncomputable abbrev pways_S6 (y1 y2:Int) (y3 y4:Bool) (y5 y6 y7 y8 y9 y10 y11 y12 y13 y14:Int) (y15 y16 y17:L3):St := St.mk (some (SV.yld (nat_lit 11)) :: none :: some (SV.ptr (nat_lit 8) (nat_lit 0)) :: some (SV.ptr (nat_lit 9) (nat_lit 0)) :: some (SV.ptr (nat_lit 10) (nat_lit 0)) :: nn 3 (some (SV.sl (nat_lit 14)) :: some (SV.int .i64 y1) :: some (SV.int .i64 y2) :: nn 29 ([]))) [.cells [SV.bool y3] (nat_lit 50),.cells [SV.sl (nat_lit 12)] (nat_lit 24),SObj.dead,.cells [SV.bool y4] (nat_lit 4),.cells [SV.sl (nat_lit 13)] (nat_lit 24),SObj.dead,.cells [SV.sl (nat_lit 14)] (nat_lit 24),SObj.dead,.cells [SV.ptr (nat_lit 0) (nat_lit 0)] (nat_lit 54),.cells [SV.int .i64 y5,SV.int .i64 y6,SV.int .i64 y7,SV.int .i64 y8,SV.int .i64 y9,SV.int .i64 y10,SV.int .i64 y11,SV.int .i64 y12,SV.int .i64 y13] (nat_lit 52),.cells [SV.int .i64 y14] (nat_lit 3),SObj.lp (nat_lit 17) [false,true,false,true,true,true,true] [none,none,none,none,none,none,some (SV.ptr (nat_lit 1) (nat_lit 0)),some (SV.ptr (nat_lit 3) (nat_lit 0)),some (SV.ptr (nat_lit 4) (nat_lit 0)),none,none,none,none,none,none,none,none,none,none,none,none,none,none,none,none,none,none,none,none,none,none,none,none,none,none,none,none,none,none,none,none,none,none,none,none,none,none,none,none,some (SV.fn (nat_lit 40) [] [SV.ptr (nat_lit 6) (nat_lit 0),SV.ptr (nat_lit 8) (nat_lit 0),SV.ptr (nat_lit 9) (nat_lit 0),SV.ptr (nat_lit 10) (nat_lit 0)]),none,none,none,none,none,none,none,none,none,none,none,none,none,none,none,none,none,none,none,none,none,none,none,none] LSt.ready,.seq kP y15 (nat_lit 23),.seq kP y16 (nat_lit 23),.seq kP y17 (nat_lit 23)]
noncomputable abbrev pways_S7 (y1:Bool) (y2 y3 y4 y5 y6 y7 y8 y9 y10 y11:Int) (y12 y13:L3):St := St.mk (nn 40 ([])) [.cells [SV.bool y1] (nat_lit 50),.cells [SV.sl (nat_lit 12)] (nat_lit 24),SObj.dead,.cells [SV.bool false] (nat_lit 4),.cells [SV.sl (nat_lit 13)] (nat_lit 24),SObj.dead,.cells [SV.sl (nat_lit 14)] (nat_lit 24),SObj.dead,.cells [SV.ptr (nat_lit 0) (nat_lit 0)] (nat_lit 54),.cells [SV.int .i64 y2,SV.int .i64 y3,SV.int .i64 y4,SV.int .i64 y5,SV.int .i64 y6,SV.int .i64 y7,SV.int .i64 y8,SV.int .i64 y9,SV.int .i64 y10] (nat_lit 52),.cells [SV.int .i64 y11] (nat_lit 3),SObj.lp (nat_lit 17) [false,true,false,true,true,true,true] [none,none,none,none,none,none,some (SV.ptr (nat_lit 1) (nat_lit 0)),some (SV.ptr (nat_lit 3) (nat_lit 0)),some (SV.ptr (nat_lit 4) (nat_lit 0)),none,none,none,none,none,none,none,none,none,none,none,none,none,none,none,none,none,none,none,none,none,none,none,none,none,none,none,none,none,none,none,none,none,none,none,none,none,none,none,none,some (SV.fn (nat_lit 40) [] [SV.ptr (nat_lit 6) (nat_lit 0),SV.ptr (nat_lit 8) (nat_lit 0),SV.ptr (nat_lit 9) (nat_lit 0),SV.ptr (nat_lit 10) (nat_lit 0)]),none,none,none,none,none,none,none,none,none,none,none,none,none,none,none,none,none,none,none,none,none,none,none,none] (LSt.done Ex.ret),.seq kP [] (nat_lit 23),.seq kP y12 (nat_lit 23),.seq kP y13 (nat_lit 23)]
noncomputable abbrev pways_S8 (y1 y2:Bool) (y3 y4 y5 y6 y7 y8 y9 y10 y11 y12:Int) (y13 y14 y15:L3):St := St.mk (nn 40 ([])) [.cells [SV.bool y1] (nat_lit 50),.cells [SV.sl (nat_lit 12)] (nat_lit 24),SObj.dead,.cells [SV.bool y2] (nat_lit 4),.cells [SV.sl (nat_lit 13)] (nat_lit 24),SObj.dead,.cells [SV.sl (nat_lit 14)] (nat_lit 24),SObj.dead,.cells [SV.ptr (nat_lit 0) (nat_lit 0)] (nat_lit 54),.cells [SV.int .i64 y3,SV.int .i64 y4,SV.int .i64 y5,SV.int .i64 y6,SV.int .i64 y7,SV.int .i64 y8,SV.int .i64 y9,SV.int .i64 y10,SV.int .i64 y11] (nat_lit 52),.cells [SV.int .i64 y12] (nat_lit 3),SObj.lp (nat_lit 17) [false,true,false,true,true,true,true] [none,none,none,none,none,none,some (SV.ptr (nat_lit 1) (nat_lit 0)),some (SV.ptr (nat_lit 3) (nat_lit 0)),some (SV.ptr (nat_lit 4) (nat_lit 0)),none,none,none,none,none,none,none,none,none,none,none,none,none,none,none,none,none,none,none,none,none,none,none,none,none,none,none,none,none,none,none,none,none,none,none,none,none,none,none,none,some (SV.fn (nat_lit 40) [] [SV.ptr (nat_lit 6) (nat_lit 0),SV.ptr (nat_lit 8) (nat_lit 0),SV.ptr (nat_lit 9) (nat_lit 0),SV.ptr (nat_lit 10) (nat_lit 0)]),none,none,none,none,none,none,none,none,none,none,none,none,none,none,none,none,none,none,none,none,none,none,none,none] LSt.ready,.seq kP y13 (nat_lit 23),.seq kP y14 (nat_lit 23),.seq kP y15 (nat_lit 23)]
noncomputable abbrev pways_S9:St := St.mk (some (SV.yld (nat_lit 11)) :: none :: some (SV.ptr (nat_lit 8) (nat_lit 0)) :: some (SV.ptr (nat_lit 9) (nat_lit 0)) :: some (SV.ptr (nat_lit 10) (nat_lit 0)) :: nn 3 (some (SV.sl (nat_lit 14)) :: some (SV.int .i64 (0:Int)) :: some (SV.int .i64 (0:Int)) :: nn 29 ([]))) [.cells [SV.bool false] (nat_lit 50),.cells [SV.sl (nat_lit 12)] (nat_lit 24),SObj.dead,.cells [SV.bool false] (nat_lit 4),.cells [SV.sl (nat_lit 13)] (nat_lit 24),SObj.dead,.cells [SV.sl (nat_lit 14)] (nat_lit 24),SObj.dead,.cells [SV.ptr (nat_lit 0) (nat_lit 0)] (nat_lit 54),.cells [SV.int .i64 (0:Int),SV.int .i64 (0:Int),SV.int .i64 (0:Int),SV.int .i64 (0:Int),SV.int .i64 (0:Int),SV.int .i64 (0:Int),SV.int .i64 (0:Int),SV.int .i64 (0:Int),SV.int .i64 (0:Int)] (nat_lit 52),.cells [SV.int .i64 (0:Int)] (nat_lit 3),SObj.lp (nat_lit 17) [false,true,false,true,true,true,true] [none,none,none,none,none,none,some (SV.ptr (nat_lit 1) (nat_lit 0)),some (SV.ptr (nat_lit 3) (nat_lit 0)),some (SV.ptr (nat_lit 4) (nat_lit 0)),none,none,none,none,none,none,none,none,none,none,none,none,none,none,none,none,none,none,none,none,none,none,none,none,none,none,none,none,none,none,none,none,none,none,none,none,none,none,none,none,some (SV.fn (nat_lit 40) [] [SV.ptr (nat_lit 6) (nat_lit 0),SV.ptr (nat_lit 8) (nat_lit 0),SV.ptr (nat_lit 9) (nat_lit 0),SV.ptr (nat_lit 10) (nat_lit 0)]),none,none,none,none,none,none,none,none,none,none,none,none,none,none,none,none,none,none,none,none,none,none,none,none] LSt.ready,.seq kP [] (nat_lit 23),.seq kP [] (nat_lit 23),.seq kP [] (nat_lit 23)]
abbrev pways_P1:List Bool := [false,false,true,false,false,true,true,false,false,true,false,true,true,true]
abbrev pways_P2:List Bool := [false,true,false,true,true,true]
noncomputable def M.pways_l0_step {α:Type} (kn:Int → Int → Int → Option α) (k1:Int → Int → Int → Option α) (x78 x79 x80:Int):Option α := if (!(cEq x78 (0:Int) && (cEq x79 (0:Int) && (cEq x80 (0:Int) && true)))) = true then if V.pwithin_r0 x78 x79 x80 (524288:Int) = true then kn (IntKind.wrap .i64 ((2:Int) * x78)) (IntKind.wrap .i64 ((2:Int) * x79)) (IntKind.wrap .i64 ((2:Int) * x80)) else k1 x78 x79 x80 else k1 x78 x79 x80
noncomputable def M.pways_l0 {α:Type} (k1:Int → Int → Int → Option α):Nat → Int → Int → Int → Option α
 | 0,_,_,_ => none
 | n + 1,x78,x79,x80 => M.pways_l0_step (M.pways_l0 k1 n) k1 x78 x79 x80
theorem pways_l0_step_eq {α:Type} (x59:Int) (x60:Value) (x61:L3) (x62 x63:Int) (x64:Bool) (x65 x66 x67 x68 x69 x70 x71 x72 x73:Int) (x74:L3) (x75:Bool) (x76 x77:L3) (x78 x79 x80:Int) (Q:Ex → St → Option α):(loopStep E (exec E look_pmoved noLps 400) 17 pways_P1 1 (codeAt E.P 17 pways_P1)) (pways_S1 x59 x60 x61 x62 x63 x64 x65 x66 x67 x68 x69 x70 x71 x72 x73 x74 x75 x76 x77 x78 x79 x80) Q = M.pways_l0_step (fun (x84 x85 x86:Int) => Q .normal (pways_S1 x59 x60 x61 x62 x63 x64 x65 x66 x67 x68 x69 x70 x71 x72 x73 x74 x75 x76 x77 x84 x85 x86)) (fun (x81 x82 x83:Int) => Q (.exit 2) (pways_S1 x59 x60 x61 x62 x63 x64 x65 x66 x67 x68 x69 x70 x71 x72 x73 x74 x75 x76 x77 x81 x82 x83)) x78 x79 x80 := by kernel_rfl
theorem pways_l0_iter {α:Type} (x59:Int) (x60:Value) (x61:L3) (x62 x63:Int) (x64:Bool) (x65 x66 x67 x68 x69 x70 x71 x72 x73:Int) (x74:L3) (x75:Bool) (x76 x77:L3) (Q:Ex → St → Option α):∀ (n:Nat) (x78 x79 x80:Int),iter (loopStep E (exec E look_pmoved noLps 400) 17 pways_P1 1 (codeAt E.P 17 pways_P1)) n (pways_S1 x59 x60 x61 x62 x63 x64 x65 x66 x67 x68 x69 x70 x71 x72 x73 x74 x75 x76 x77 x78 x79 x80) Q = M.pways_l0 (fun (x81 x82 x83:Int) => Q (.exit 2) (pways_S1 x59 x60 x61 x62 x63 x64 x65 x66 x67 x68 x69 x70 x71 x72 x73 x74 x75 x76 x77 x81 x82 x83)) n x78 x79 x80
 | 0,_,_,_ => rfl
 | n + 1,x78,x79,x80 => (pways_l0_step_eq x59 x60 x61 x62 x63 x64 x65 x66 x67 x68 x69 x70 x71 x72 x73 x74 x75 x76 x77 x78 x79 x80 (iterK (loopStep E (exec E look_pmoved noLps 400) 17 pways_P1 1 (codeAt E.P 17 pways_P1)) n Q)).trans (congrArg (fun kn => M.pways_l0_step kn (fun (x81 x82 x83:Int) => Q (.exit 2) (pways_S1 x59 x60 x61 x62 x63 x64 x65 x66 x67 x68 x69 x70 x71 x72 x73 x74 x75 x76 x77 x81 x82 x83)) x78 x79 x80) (funext fun x78 => funext fun x79 => funext fun x80 => pways_l0_iter x59 x60 x61 x62 x63 x64 x65 x66 x67 x68 x69 x70 x71 x72 x73 x74 x75 x76 x77 Q n x78 x79 x80))
noncomputable def pways_l0_go {α:Type} (ds:List D) (Q:Ex → St → Option α):Option α :=
 dI ds fun x59 ds => dV ds fun x60 ds => dL kP ds fun x61 ds => dI ds fun x62 ds => dI ds fun x63 ds => dB ds fun x64 ds => dI ds fun x65 ds => dI ds fun x66 ds => dI ds fun x67 ds => dI ds fun x68 ds => dI ds fun x69 ds => dI ds fun x70 ds => dI ds fun x71 ds => dI ds fun x72 ds => dI ds fun x73 ds => dL kP ds fun x74 ds => dB ds fun x75 ds => dL kP ds fun x76 ds => dL kP ds fun x77 ds => dI ds fun x78 ds => dI ds fun x79 ds => dI ds fun x80 ds => dE ds (M.pways_l0 (fun (x81 x82 x83:Int) => Q (.exit 2) (pways_S1 x59 x60 x61 x62 x63 x64 x65 x66 x67 x68 x69 x70 x71 x72 x73 x74 x75 x76 x77 x81 x82 x83)) (100 + x61.length + x74.length + x76.length + x77.length) x78 x79 x80)
theorem pways_l0_ok {α:Type}:LoopOk E.P 17 pways_P1 1 (lEnt (α := α) (pways_S2) pways_l0_go) :=
 lEnt_ok E (exec_sound E E_ok (look_pmoved_ok) (noLps_ok _) 400) fun ds Q r h S hS => by
   unfold pways_l0_go at h
   obtain ⟨x59,ds,rfl,h1⟩ := dI_inv h
   obtain ⟨x60,ds,rfl,h2⟩ := dV_inv h1
   obtain ⟨x61,ds,rfl,h3⟩ := dL_inv h2
   obtain ⟨x62,ds,rfl,h4⟩ := dI_inv h3
   obtain ⟨x63,ds,rfl,h5⟩ := dI_inv h4
   obtain ⟨x64,ds,rfl,h6⟩ := dB_inv h5
   obtain ⟨x65,ds,rfl,h7⟩ := dI_inv h6
   obtain ⟨x66,ds,rfl,h8⟩ := dI_inv h7
   obtain ⟨x67,ds,rfl,h9⟩ := dI_inv h8
   obtain ⟨x68,ds,rfl,h10⟩ := dI_inv h9
   obtain ⟨x69,ds,rfl,h11⟩ := dI_inv h10
   obtain ⟨x70,ds,rfl,h12⟩ := dI_inv h11
   obtain ⟨x71,ds,rfl,h13⟩ := dI_inv h12
   obtain ⟨x72,ds,rfl,h14⟩ := dI_inv h13
   obtain ⟨x73,ds,rfl,h15⟩ := dI_inv h14
   obtain ⟨x74,ds,rfl,h16⟩ := dL_inv h15
   obtain ⟨x75,ds,rfl,h17⟩ := dB_inv h16
   obtain ⟨x76,ds,rfl,h18⟩ := dL_inv h17
   obtain ⟨x77,ds,rfl,h19⟩ := dL_inv h18
   obtain ⟨x78,ds,rfl,h20⟩ := dI_inv h19
   obtain ⟨x79,ds,rfl,h21⟩ := dI_inv h20
   obtain ⟨x80,ds,rfl,h22⟩ := dI_inv h21
   obtain ⟨rfl,hE⟩ := dE_inv h22
   have e:fillS (pways_S2) [.i x59,.v x60,.l kP x61,.i x62,.i x63,.b x64,.i x65,.i x66,.i x67,.i x68,.i x69,.i x70,.i x71,.i x72,.i x73,.l kP x74,.b x75,.l kP x76,.l kP x77,.i x78,.i x79,.i x80] = some (pways_S1 x59 x60 x61 x62 x63 x64 x65 x66 x67 x68 x69 x70 x71 x72 x73 x74 x75 x76 x77 x78 x79 x80) := by kernel_rfl
   rw [e] at hS
   cases hS
   exact ⟨_,(pways_l0_iter x59 x60 x61 x62 x63 x64 x65 x66 x67 x68 x69 x70 x71 x72 x73 x74 x75 x76 x77 Q _ x78 x79 x80).trans hE⟩
noncomputable def pways_l0_lps {α:Type}:LookL α := addLp 17 pways_P1 1 (lEnt (pways_S2) pways_l0_go) noLps
theorem pways_l0_lps_ok {α:Type}:LoopsOk E.P (pways_l0_lps (α := α)) := addLp_ok pways_l0_ok (noLps_ok _)
noncomputable def M.pways_l1_step {α:Type} (x88:L3) (x89:Int) (x101 x103:L3) (kn:Int → L3 → Option α) (k1:L3 → Option α) (x90:Int) (x104:L3):Option α := if cLt x90 x89 = true then if (0:Int) ≤ x90 ∧ x90 < (↑(List.length x88):Int) then M.pways_l0 (fun (x105 x106 x107:Int) ↦ if (0:Int) ≤ x90 ∧ x90 < (↑(List.length x104):Int) then kn (IntKind.wrap .i64 (x90 + (1:Int))) (List.set x104 (Int.toNat x90) (x105,x106,x107)) else none) ((100:Nat) + List.length x88 + List.length x101 + List.length x103 + List.length x104) (Prod.fst (List.getD x88 (Int.toNat x90) ((0:Int),(0:Int),(0:Int)))) (Prod.fst (Prod.snd (List.getD x88 (Int.toNat x90) ((0:Int),(0:Int),(0:Int))))) (Prod.snd (Prod.snd (List.getD x88 (Int.toNat x90) ((0:Int),(0:Int),(0:Int))))) else none else k1 x104
noncomputable def M.pways_l1 {α:Type} (x88:L3) (x89:Int) (x101 x103:L3) (k1:L3 → Option α):Nat → Int → L3 → Option α
 | 0,_,_ => none
 | n + 1,x90,x104 => M.pways_l1_step x88 x89 x101 x103 (M.pways_l1 x88 x89 x101 x103 k1 n) k1 x90 x104
theorem pways_l1_step_eq {α:Type} (x87:Value) (x88:L3) (x89 x90:Int) (x91:Bool) (x92 x93 x94 x95 x96 x97 x98 x99 x100:Int) (x101:L3) (x102:Bool) (x103 x104:L3) (Q:Ex → St → Option α):(loopStep E (exec E look_pmoved pways_l0_lps 400) 17 pways_P2 1 (codeAt E.P 17 pways_P2)) (pways_S3 x87 x88 x89 x90 x91 x92 x93 x94 x95 x96 x97 x98 x99 x100 x101 x102 x103 x104) Q = M.pways_l1_step x88 x89 x101 x103 (fun (x109:Int) (x110:L3) => Q .normal (pways_S3 x87 x88 x89 x109 x91 x92 x93 x94 x95 x96 x97 x98 x99 x100 x101 x102 x103 x110)) (fun (x108:L3) => Q (.exit 0) (pways_S4 x91 x92 x93 x94 x95 x96 x97 x98 x99 x100 x101 x102 x103 x108)) x90 x104 := by kernel_rfl
theorem pways_l1_iter {α:Type} (x87:Value) (x88:L3) (x89:Int) (x91:Bool) (x92 x93 x94 x95 x96 x97 x98 x99 x100:Int) (x101:L3) (x102:Bool) (x103:L3) (Q:Ex → St → Option α):∀ (n:Nat) (x90:Int) (x104:L3),iter (loopStep E (exec E look_pmoved pways_l0_lps 400) 17 pways_P2 1 (codeAt E.P 17 pways_P2)) n (pways_S3 x87 x88 x89 x90 x91 x92 x93 x94 x95 x96 x97 x98 x99 x100 x101 x102 x103 x104) Q = M.pways_l1 x88 x89 x101 x103 (fun (x108:L3) => Q (.exit 0) (pways_S4 x91 x92 x93 x94 x95 x96 x97 x98 x99 x100 x101 x102 x103 x108)) n x90 x104
 | 0,_,_ => rfl
 | n + 1,x90,x104 => (pways_l1_step_eq x87 x88 x89 x90 x91 x92 x93 x94 x95 x96 x97 x98 x99 x100 x101 x102 x103 x104 (iterK (loopStep E (exec E look_pmoved pways_l0_lps 400) 17 pways_P2 1 (codeAt E.P 17 pways_P2)) n Q)).trans (congrArg (fun kn => M.pways_l1_step x88 x89 x101 x103 kn (fun (x108:L3) => Q (.exit 0) (pways_S4 x91 x92 x93 x94 x95 x96 x97 x98 x99 x100 x101 x102 x103 x108)) x90 x104) (funext fun x90 => funext fun x104 => pways_l1_iter x87 x88 x89 x91 x92 x93 x94 x95 x96 x97 x98 x99 x100 x101 x102 x103 Q n x90 x104))
noncomputable def pways_l1_go {α:Type} (ds:List D) (Q:Ex → St → Option α):Option α :=
 dV ds fun x87 ds => dL kP ds fun x88 ds => dI ds fun x89 ds => dI ds fun x90 ds => dB ds fun x91 ds => dI ds fun x92 ds => dI ds fun x93 ds => dI ds fun x94 ds => dI ds fun x95 ds => dI ds fun x96 ds => dI ds fun x97 ds => dI ds fun x98 ds => dI ds fun x99 ds => dI ds fun x100 ds => dL kP ds fun x101 ds => dB ds fun x102 ds => dL kP ds fun x103 ds => dL kP ds fun x104 ds => dE ds (M.pways_l1 x88 x89 x101 x103 (fun (x108:L3) => Q (.exit 0) (pways_S4 x91 x92 x93 x94 x95 x96 x97 x98 x99 x100 x101 x102 x103 x108)) (100 + x88.length + x101.length + x103.length + x104.length) x90 x104)
theorem pways_l1_ok {α:Type}:LoopOk E.P 17 pways_P2 1 (lEnt (α := α) (pways_S5) pways_l1_go) :=
 lEnt_ok E (exec_sound E E_ok (look_pmoved_ok) (pways_l0_lps_ok) 400) fun ds Q r h S hS => by
   unfold pways_l1_go at h
   obtain ⟨x87,ds,rfl,h1⟩ := dV_inv h
   obtain ⟨x88,ds,rfl,h2⟩ := dL_inv h1
   obtain ⟨x89,ds,rfl,h3⟩ := dI_inv h2
   obtain ⟨x90,ds,rfl,h4⟩ := dI_inv h3
   obtain ⟨x91,ds,rfl,h5⟩ := dB_inv h4
   obtain ⟨x92,ds,rfl,h6⟩ := dI_inv h5
   obtain ⟨x93,ds,rfl,h7⟩ := dI_inv h6
   obtain ⟨x94,ds,rfl,h8⟩ := dI_inv h7
   obtain ⟨x95,ds,rfl,h9⟩ := dI_inv h8
   obtain ⟨x96,ds,rfl,h10⟩ := dI_inv h9
   obtain ⟨x97,ds,rfl,h11⟩ := dI_inv h10
   obtain ⟨x98,ds,rfl,h12⟩ := dI_inv h11
   obtain ⟨x99,ds,rfl,h13⟩ := dI_inv h12
   obtain ⟨x100,ds,rfl,h14⟩ := dI_inv h13
   obtain ⟨x101,ds,rfl,h15⟩ := dL_inv h14
   obtain ⟨x102,ds,rfl,h16⟩ := dB_inv h15
   obtain ⟨x103,ds,rfl,h17⟩ := dL_inv h16
   obtain ⟨x104,ds,rfl,h18⟩ := dL_inv h17
   obtain ⟨rfl,hE⟩ := dE_inv h18
   have e:fillS (pways_S5) [.v x87,.l kP x88,.i x89,.i x90,.b x91,.i x92,.i x93,.i x94,.i x95,.i x96,.i x97,.i x98,.i x99,.i x100,.l kP x101,.b x102,.l kP x103,.l kP x104] = some (pways_S3 x87 x88 x89 x90 x91 x92 x93 x94 x95 x96 x97 x98 x99 x100 x101 x102 x103 x104) := by kernel_rfl
   rw [e] at hS
   cases hS
   exact ⟨_,(pways_l1_iter x87 x88 x89 x91 x92 x93 x94 x95 x96 x97 x98 x99 x100 x101 x102 x103 Q _ x90 x104).trans hE⟩
noncomputable def pways_l1_lps {α:Type}:LookL α := addLp 17 pways_P2 1 (lEnt (pways_S5) pways_l1_go) pways_l0_lps
theorem pways_l1_lps_ok {α:Type}:LoopsOk E.P (pways_l1_lps (α := α)) := addLp_ok pways_l1_ok (pways_l0_lps_ok)
noncomputable def M.pways_l2_step {α:Type} (x130 x134 x135 x136 x137 x138 x139 x140 x141 x142 x143:Int) (x146:L3) (kn:Int → Bool → L3 → Option α) (k0:Bool → L3 → Option α) (k2:Bool → L3 → Option α) (x131:Int) (x132:Bool) (x145:L3):Option α := let s147:K.T kP := List.getD x146 (Int.toNat x131) ((0:Int),(0:Int),(0:Int)); let s148:LK.T (LK.i IntKind.i64) := Prod.fst s147; let s149:RT (LK.i IntKind.i64) [LK.i IntKind.i64] := Prod.snd s147; let s150:RT (LK.i IntKind.i64) [] := Prod.snd s149; let s151:LK.T (LK.i IntKind.i64) := Prod.fst s149; let s152:Option V.T3 := V.tTurn ((x134,x135,x136),(x137,x138,x139),x140,x141,x142) (IntKind.wrap .i64 (s148 * x143),IntKind.wrap .i64 (s151 * x143),IntKind.wrap .i64 (s150 * x143)); let s153:P3 := V.pShort (IntKind.wrap .i64 (Int.tdiv (V.x3 s152) (4096:Int)),IntKind.wrap .i64 (Int.tdiv (V.y3 s152) (4096:Int)),IntKind.wrap .i64 (Int.tdiv (V.z3 s152) (4096:Int))); let s154:Int × Int := Prod.snd s153; if cLt x131 x130 = true then if (0:Int) ≤ x131 ∧ x131 < (↑(List.length x146):Int) then if (!V.pwithin_r0 s148 s151 s150 (1048576:Int)) = true then k0 x132 x145 else if (!(cEq (Prod.fst s153) (0:Int) && (cEq (Prod.fst s154) (0:Int) && (cEq (Prod.snd s154) (0:Int) && true)))) = true then if (List.length x145 + ((0:Nat) + (1:Nat))) * (24:Nat) ≤ (140737488355328:Nat) then kn (IntKind.wrap .i64 (x131 + (1:Int))) (V.on s152 x132) (x145 ++ [s153]) else none else kn (IntKind.wrap .i64 (x131 + (1:Int))) (V.on s152 x132) x145 else none else k2 x132 x145
noncomputable def M.pways_l2 {α:Type} (x130 x134 x135 x136 x137 x138 x139 x140 x141 x142 x143:Int) (x146:L3) (k0:Bool → L3 → Option α) (k2:Bool → L3 → Option α):Nat → Int → Bool → L3 → Option α
 | 0,_,_,_ => none
 | n + 1,x131,x132,x145 => M.pways_l2_step x130 x134 x135 x136 x137 x138 x139 x140 x141 x142 x143 x146 (M.pways_l2 x130 x134 x135 x136 x137 x138 x139 x140 x141 x142 x143 x146 k0 k2 n) k0 k2 x131 x132 x145
theorem pways_l2_step_eq {α:Type} (x130 x131:Int) (x132 x133:Bool) (x134 x135 x136 x137 x138 x139 x140 x141 x142 x143:Int) (x144 x145 x146:L3) (Q:Ex → St → Option α):(loopStep E (exec E look_pmoved pways_l1_lps 400) 40 [false,true] 12 (codeAt E.P 40 [false,true])) (pways_S6 x130 x131 x132 x133 x134 x135 x136 x137 x138 x139 x140 x141 x142 x143 x144 x145 x146) Q = M.pways_l2_step x130 x134 x135 x136 x137 x138 x139 x140 x141 x142 x143 x146 (fun (x159:Int) (x160:Bool) (x161:L3) => Q .normal (pways_S6 x130 x159 x160 x133 x134 x135 x136 x137 x138 x139 x140 x141 x142 x143 x144 x161 x146)) (fun (x155:Bool) (x156:L3) => Q .ret (pways_S7 x155 x134 x135 x136 x137 x138 x139 x140 x141 x142 x143 x156 x146)) (fun (x157:Bool) (x158:L3) => Q (.exit 0) (pways_S8 x157 x133 x134 x135 x136 x137 x138 x139 x140 x141 x142 x143 x144 x158 x146)) x131 x132 x145 := by kernel_rfl
theorem pways_l2_iter {α:Type} (x130:Int) (x133:Bool) (x134 x135 x136 x137 x138 x139 x140 x141 x142 x143:Int) (x144 x146:L3) (Q:Ex → St → Option α):∀ (n:Nat) (x131:Int) (x132:Bool) (x145:L3),iter (loopStep E (exec E look_pmoved pways_l1_lps 400) 40 [false,true] 12 (codeAt E.P 40 [false,true])) n (pways_S6 x130 x131 x132 x133 x134 x135 x136 x137 x138 x139 x140 x141 x142 x143 x144 x145 x146) Q = M.pways_l2 x130 x134 x135 x136 x137 x138 x139 x140 x141 x142 x143 x146 (fun (x155:Bool) (x156:L3) => Q .ret (pways_S7 x155 x134 x135 x136 x137 x138 x139 x140 x141 x142 x143 x156 x146)) (fun (x157:Bool) (x158:L3) => Q (.exit 0) (pways_S8 x157 x133 x134 x135 x136 x137 x138 x139 x140 x141 x142 x143 x144 x158 x146)) n x131 x132 x145
 | 0,_,_,_ => rfl
 | n + 1,x131,x132,x145 => (pways_l2_step_eq x130 x131 x132 x133 x134 x135 x136 x137 x138 x139 x140 x141 x142 x143 x144 x145 x146 (iterK (loopStep E (exec E look_pmoved pways_l1_lps 400) 40 [false,true] 12 (codeAt E.P 40 [false,true])) n Q)).trans (congrArg (fun kn => M.pways_l2_step x130 x134 x135 x136 x137 x138 x139 x140 x141 x142 x143 x146 kn (fun (x155:Bool) (x156:L3) => Q .ret (pways_S7 x155 x134 x135 x136 x137 x138 x139 x140 x141 x142 x143 x156 x146)) (fun (x157:Bool) (x158:L3) => Q (.exit 0) (pways_S8 x157 x133 x134 x135 x136 x137 x138 x139 x140 x141 x142 x143 x144 x158 x146)) x131 x132 x145) (funext fun x131 => funext fun x132 => funext fun x145 => pways_l2_iter x130 x133 x134 x135 x136 x137 x138 x139 x140 x141 x142 x143 x144 x146 Q n x131 x132 x145))
noncomputable def pways_l2_go {α:Type} (ds:List D) (Q:Ex → St → Option α):Option α :=
 dI ds fun x130 ds => dI ds fun x131 ds => dB ds fun x132 ds => dB ds fun x133 ds => dI ds fun x134 ds => dI ds fun x135 ds => dI ds fun x136 ds => dI ds fun x137 ds => dI ds fun x138 ds => dI ds fun x139 ds => dI ds fun x140 ds => dI ds fun x141 ds => dI ds fun x142 ds => dI ds fun x143 ds => dL kP ds fun x144 ds => dL kP ds fun x145 ds => dL kP ds fun x146 ds => dE ds (M.pways_l2 x130 x134 x135 x136 x137 x138 x139 x140 x141 x142 x143 x146 (fun (x155:Bool) (x156:L3) => Q .ret (pways_S7 x155 x134 x135 x136 x137 x138 x139 x140 x141 x142 x143 x156 x146)) (fun (x157:Bool) (x158:L3) => Q (.exit 0) (pways_S8 x157 x133 x134 x135 x136 x137 x138 x139 x140 x141 x142 x143 x144 x158 x146)) (100 + x144.length + x145.length + x146.length) x131 x132 x145)
theorem pways_l2_ok {α:Type}:LoopOk E.P 40 [false,true] 12 (lEnt (α := α) (pways_S9) pways_l2_go) :=
 lEnt_ok E (exec_sound E E_ok (look_pmoved_ok) (pways_l1_lps_ok) 400) fun ds Q r h S hS => by
   unfold pways_l2_go at h
   obtain ⟨x130,ds,rfl,h1⟩ := dI_inv h
   obtain ⟨x131,ds,rfl,h2⟩ := dI_inv h1
   obtain ⟨x132,ds,rfl,h3⟩ := dB_inv h2
   obtain ⟨x133,ds,rfl,h4⟩ := dB_inv h3
   obtain ⟨x134,ds,rfl,h5⟩ := dI_inv h4
   obtain ⟨x135,ds,rfl,h6⟩ := dI_inv h5
   obtain ⟨x136,ds,rfl,h7⟩ := dI_inv h6
   obtain ⟨x137,ds,rfl,h8⟩ := dI_inv h7
   obtain ⟨x138,ds,rfl,h9⟩ := dI_inv h8
   obtain ⟨x139,ds,rfl,h10⟩ := dI_inv h9
   obtain ⟨x140,ds,rfl,h11⟩ := dI_inv h10
   obtain ⟨x141,ds,rfl,h12⟩ := dI_inv h11
   obtain ⟨x142,ds,rfl,h13⟩ := dI_inv h12
   obtain ⟨x143,ds,rfl,h14⟩ := dI_inv h13
   obtain ⟨x144,ds,rfl,h15⟩ := dL_inv h14
   obtain ⟨x145,ds,rfl,h16⟩ := dL_inv h15
   obtain ⟨x146,ds,rfl,h17⟩ := dL_inv h16
   obtain ⟨rfl,hE⟩ := dE_inv h17
   have e:fillS (pways_S9) [.i x130,.i x131,.b x132,.b x133,.i x134,.i x135,.i x136,.i x137,.i x138,.i x139,.i x140,.i x141,.i x142,.i x143,.l kP x144,.l kP x145,.l kP x146] = some (pways_S6 x130 x131 x132 x133 x134 x135 x136 x137 x138 x139 x140 x141 x142 x143 x144 x145 x146) := by kernel_rfl
   rw [e] at hS
   cases hS
   exact ⟨_,(pways_l2_iter x130 x133 x134 x135 x136 x137 x138 x139 x140 x141 x142 x143 x144 x146 Q _ x131 x132 x145).trans hE⟩
noncomputable def pways_l2_lps {α:Type}:LookL α := addLp 40 [false,true] 12 (lEnt (pways_S9) pways_l2_go) pways_l1_lps
theorem pways_l2_lps_ok {α:Type}:LoopsOk E.P (pways_l2_lps (α := α)) := addLp_ok pways_l2_ok (pways_l1_lps_ok)
noncomputable def M.pways {α:Type} (bad:Bool) (m0:Int) (m1:Int) (m2:Int) (m3:Int) (m4:Int) (m5:Int) (m6:Int) (m7:Int) (m8:Int) (l:L3) (k0:Bool → Option α) (k1:Nat → Bool → L3 → Option α):Option α := if V.lenB (List.length l) = true then M.pways_l1 l (↑(List.length l):Int) [] [] (fun (x163:L3) ↦ M.pways_l2 (↑(List.length x163):Int) m0 m1 m2 m3 m4 m5 m6 m7 m8 (4096:Int) x163 (fun (x164:Bool) (x165:L3) ↦ k0 x164) (fun (x166:Bool) (x167:L3) ↦ if (↑(List.length x167):Int) = (↑(List.length x167):Int) ∧ (↑(List.length x167):Int) = (↑(List.length x167):Int) then k1 (List.length x167) x166 x167 else none) ((100:Nat) + List.length x163) (0:Int) bad []) ((100:Nat) + List.length l + (0:Nat) + (0:Nat) + List.length l) (0:Int) l else none
theorem pways_eq {α:Type} (bad:Bool) (m0:Int) (m1:Int) (m2:Int) (m3:Int) (m4:Int) (m5:Int) (m6:Int) (m7:Int) (m8:Int) (l:L3) (v162:Value) (Q:SV → Hp → Option α):callI E look_pmoved (exec E look_pmoved pways_l2_lps 400) 17 ([SV.ptr (nat_lit 0) (nat_lit 0),SV.agg [SV.int .i64 m0,SV.int .i64 m1,SV.int .i64 m2,SV.int .i64 m3,SV.int .i64 m4,SV.int .i64 m5,SV.int .i64 m6,SV.int .i64 m7,SV.int .i64 m8],SV.ros v162 kP l]) ([.cells [SV.bool bad] (nat_lit 50)]) Q = M.pways bad m0 m1 m2 m3 m4 m5 m6 m7 m8 l (fun (x168:Bool) => Q (SV.tup [SV.sl (nat_lit 1),SV.bool false]) ([.cells [SV.bool x168] (nat_lit 50),.seq kP [] (nat_lit 23)])) (fun (x169:Nat) (x170:Bool) (x171:L3) => Q (SV.tup [SV.clp (nat_lit 1) kP x169,SV.bool true]) ([.cells [SV.bool x170] (nat_lit 50),.seq kP x171 (nat_lit 23)])) := by kernel_rfl
def pways_sp:List AS := [.ptr 50 [.bool false],.val (.agg [.int .i64 0,.int .i64 0,.int .i64 0,.int .i64 0,.int .i64 0,.int .i64 0,.int .i64 0,.int .i64 0,.int .i64 0]),.ro kP]
def dblP (p:P3):P3 := (IntKind.wrap .i64 (2 * p.1),IntKind.wrap .i64 (2 * p.2.1),IntKind.wrap .i64 (2 * p.2.2))
instance (p:P3) (n:Int):Decidable (Sm p n) := by unfold Sm; infer_instance
def growN:Nat → P3 → P3
 | 0,p => p
 | n + 1,p => if p = (0,0,0) then p else if Sm p 524288 then growN n (dblP p) else p
def growP (p:P3):P3 := growN 20 p
theorem mx_le (a b n:Int):(if b > a then b else a) ≤ n ↔ a ≤ n ∧ b ≤ n := by
 by_cases h:b > a
 · rw [if_pos h]; omega
 · rw [if_neg h]; omega
theorem le_mn (a b n:Int):n ≤ (if b < a then b else a) ↔ n ≤ a ∧ n ≤ b := by
 by_cases h:b < a
 · rw [if_pos h]; omega
 · rw [if_neg h]; omega
theorem within_dec (x y z n:Int) (hn:0 ≤ n ∧ n < 9223372036854775808):V.pwithin_r0 x y z n = decide (Sm (x,y,z) n) := by
 have h1 := (mx_le (if y > x then y else x) z n).trans (and_congr (mx_le x y n) Iff.rfl)
 have h2 := (le_mn (if y < x then y else x) z (0 - n)).trans (and_congr (le_mn x y (0 - n)) Iff.rfl)
 unfold V.pwithin_r0
 rw [IntWalk.i64_in (0 - n) (by omega),cLe_eq,cLe_eq]
 by_cases hs:Sm (x,y,z) n
 · have hs2 : (-n ≤ x ∧ x ≤ n) ∧ (-n ≤ y ∧ y ≤ n) ∧ (-n ≤ z ∧ z ≤ n) := hs
   rw [decide_eq_true hs,decide_eq_true (h1.mpr (by omega)),if_pos rfl,decide_eq_true (h2.mpr (by omega))]
 · rw [decide_eq_false hs]
   by_cases h:(if z > if y > x then y else x then z else if y > x then y else x) ≤ n
   · rw [decide_eq_true h, if_pos rfl]
     apply decide_eq_false
     intro h4
     apply hs
     have h5 := h1.mp h
     have h6 := h2.mp h4
     show (-n ≤ x ∧ x ≤ n) ∧ (-n ≤ y ∧ y ≤ n) ∧ (-n ≤ z ∧ z ≤ n)
     omega
   · rw [decide_eq_false h]; rfl
theorem grow_val {α:Type} (k1:Int → Int → Int → Option α):∀ (n fuel:Nat) (p:P3),(∃ c:Int,(c = p.1 ∨ c = p.2.1 ∨ c = p.2.2) ∧ (2 ^ (20 - n) ≤ c ∨ c ≤ -(2 ^ (20 - n)))) → n ≤ 20 → n < fuel →
   M.pways_l0 k1 fuel p.1 p.2.1 p.2.2 = k1 (growN n p).1 (growN n p).2.1 (growN n p).2.2
 | n,0,p,h,h1,h2 => by omega
 | n,f + 1,p,h,h1,h2 => by
   unfold M.pways_l0 M.pways_l0_step
   rw [within_dec _ _ _ _ (by omega),show (cEq p.1 (0:Int) && (cEq p.2.1 (0:Int) && (cEq p.2.2 (0:Int) && true))) = decide (p = (0,0,0)) from eq3 p.1 p.2.1 p.2.2 (0,0,0)]
   obtain ⟨c,hc,hb⟩ := h
   have hpos:(0:Int) < 2 ^ (20 - n) := Int.pow_pos (by omega)
   have hne:¬ p = (0,0,0) := by
     intro h; subst h
     simp only at hc
     rcases hc with rfl | rfl | rfl <;> omega
   rw [if_pos (by simpa using hne)]
   show (if decide (Sm p 524288) = true then _ else _) = _
   by_cases hs:Sm p 524288
   · rw [if_pos (by simpa using hs)]
     have hsm := hs
     unfold Sm at hsm
     cases n with
     | zero =>
       exfalso
       rw [show (2:Int) ^ (20 - 0) = 1048576 from by decide] at hb
       rcases hc with rfl | rfl | rfl <;> omega
     | succ n =>
       have ih := grow_val k1 n f (dblP p) (by
         have e:(2:Int) ^ (20 - n) = 2 * 2 ^ (20 - (n + 1)) := by
           rw [show 20 - n = (20 - (n + 1)) + 1 by omega,Int.pow_succ]; omega
         unfold dblP
         rw [IntWalk.i64_in (2 * p.1) (by omega),IntWalk.i64_in (2 * p.2.1) (by omega),IntWalk.i64_in (2 * p.2.2) (by omega)]
         refine ⟨2 * c,?_,?_⟩
         · rcases hc with rfl | rfl | rfl
           · exact .inl rfl
           · exact .inr (.inl rfl)
           · exact .inr (.inr rfl)
         · rw [e]; omega) (by omega) (by omega)
       have eg:growN (n + 1) p = growN n (dblP p) := by
         show (if p = (0,0,0) then p else if Sm p 524288 then growN n (dblP p) else p) = _
         rw [if_neg hne,if_pos hs]
       rw [eg]
       exact ih
   · rw [if_neg (by simpa using hs)]
     have eg:growN n p = p := by
       cases n with
       | zero => rfl
       | succ n =>
         show (if p = (0,0,0) then p else if Sm p 524288 then growN n (dblP p) else p) = _
         rw [if_neg hne,if_neg hs]
     rw [eg]
theorem grow_all {α:Type} (k1:Int → Int → Int → Option α) (fuel:Nat) (p:P3) (hf:20 < fuel):M.pways_l0 k1 fuel p.1 p.2.1 p.2.2 = k1 (growP p).1 (growP p).2.1 (growP p).2.2 := by
 by_cases h0:p = (0,0,0)
 · subst h0
   obtain ⟨f,rfl⟩:∃ f,fuel = f + 1 := ⟨fuel - 1,by omega⟩
   unfold M.pways_l0 M.pways_l0_step
   rw [if_neg (by simp [cEq_eq])]
   rfl
 · refine grow_val k1 20 fuel p ?_ (by omega) hf
   obtain ⟨a,b,c⟩ := p
   simp only [Nat.sub_self,Int.pow_zero]
   by_cases ha:a = 0
   · by_cases hb : b = 0
     · have hc : c ≠ 0 := fun hc => h0 (by rw [ha, hb, hc])
       exact ⟨c,.inr (.inr rfl),by omega⟩
     · exact ⟨b,.inr (.inl rfl),by omega⟩
   · exact ⟨a,.inl rfl,by omega⟩
theorem set_mid (A D:List P3) (d g:P3) (i:Nat) (h:A.length = i):(A ++ d :: D).set i g = A ++ g :: D := by
 subst h
 rw [List.set_append_right (h := Nat.le_refl _)]
 simp
theorem pways_l1_val {α:Type} (l:List P3) (hl:l.length < 1099511627776) (k1:List P3 → Option α):∀ (fuel i:Nat),i ≤ l.length → l.length - i < fuel →
   M.pways_l1 l (l.length:Int) [] [] k1 fuel (i:Int) ((l.take i).map growP ++ l.drop i) = k1 (l.map growP)
 | 0,i,h1,h2 => by omega
 | f + 1,i,h1,h2 => by
   unfold M.pways_l1 M.pways_l1_step
   rw [cLt_nat]
   by_cases hi:i < l.length
   · rw [if_pos (by simpa using hi), if_pos (by omega)]
     have hlen:((l.take i).map growP ++ l.drop i).length = l.length := by simp; omega
     refine Eq.trans (grow_all _ _ (List.getD l (Int.toNat (i:Int)) (0,0,0)) (by omega)) ?_
     rw [if_pos (by rw [hlen]; omega),w_next (by omega),toNat_nat]
     rw [drop_pt l i hi,set_mid _ _ _ _ i (by simp; omega)]
     have e:(l.take i).map growP ++ ((growP (l.getD i (0,0,0))).1,(growP (l.getD i (0,0,0))).2.1,(growP (l.getD i (0,0,0))).2.2) :: l.drop (i + 1) = (l.take (i + 1)).map growP ++ l.drop (i + 1) := by
       rw [List.take_add_one,List.map_append,List.append_assoc]
       simp [List.getD_eq_getElem?_getD,hi]
     rw [e]
     exact pways_l1_val l hl k1 f (i + 1) (by omega) (by omega)
   · have : i = l.length := by omega
     subst this
     rw [if_neg (by simp)]
     simp
def scP (p:P3) (n:Int):V.T3 := (IntKind.wrap .i64 (p.1 * n),IntKind.wrap .i64 (p.2.1 * n),IntKind.wrap .i64 (p.2.2 * n))
def tdP (v:V.T3) (n:Int):P3 := (IntKind.wrap .i64 (Int.tdiv v.1 n),IntKind.wrap .i64 (Int.tdiv v.2.1 n),IntKind.wrap .i64 (Int.tdiv v.2.2 n))
noncomputable def wayS (m:V.T9) (g:P3):P3 := V.pShort (tdP (V.q3 (V.tTurn m (scP g 4096))) 4096)
noncomputable def wayRun (m:V.T9):List P3 → Bool → List P3 → Bool × Bool × List P3
 | [],f,a => (true,f,a)
 | g :: G,f,a => if Sm g 1048576 then wayRun m G (V.on (V.tTurn m (scP g 4096)) f) (if wayS m g = (0,0,0) then a else a ++ [wayS m g]) else (false,f,a)
theorem pways_l2_val {α:Type} (m:V.T9) (G:List P3) (hG:G.length < 1099511627776) (k0 k2:Bool → List P3 → Option α):∀ (fuel i:Nat) (f:Bool) (a:List P3),i ≤ G.length → G.length - i < fuel → a.length ≤ i →
   M.pways_l2 (G.length:Int) m.1.1 m.1.2.1 m.1.2.2 m.2.1.1 m.2.1.2.1 m.2.1.2.2 m.2.2.1 m.2.2.2.1 m.2.2.2.2 4096 G k0 k2 fuel (i:Int) f a =
     if (wayRun m (G.drop i) f a).1 = true then k2 (wayRun m (G.drop i) f a).2.1 (wayRun m (G.drop i) f a).2.2 else k0 (wayRun m (G.drop i) f a).2.1 (wayRun m (G.drop i) f a).2.2
 | 0,i,f,a,h1,h2,h3 => by omega
 | n + 1,i,f,a,h1,h2,h3 => by
   unfold M.pways_l2 M.pways_l2_step
   simp only
   rw [cLt_nat]
   by_cases hi:i < G.length
   · rw [if_pos (by simpa using hi), if_pos (by omega), within_dec _ _ _ _ (by omega), drop_pt G i hi, toNat_nat]
     show (if (!decide (Sm (pt G i) 1048576)) = true then k0 f a else _) = _
     by_cases hs:Sm (pt G i) 1048576
     · rw [if_neg (by simpa using hs)]
       have ew:wayRun m (pt G i :: G.drop (i + 1)) f a = wayRun m (G.drop (i + 1)) (V.on (V.tTurn m (scP (pt G i) 4096)) f) (if wayS m (pt G i) = (0,0,0) then a else a ++ [wayS m (pt G i)]) := by
         show (if Sm (pt G i) 1048576 then _ else _) = _
         rw [if_pos hs]
       rw [ew]
       show (if (!(cEq (wayS m (pt G i)).1 (0:Int) && (cEq (wayS m (pt G i)).2.1 (0:Int) && (cEq (wayS m (pt G i)).2.2 (0:Int) && true)))) = true then _ else _) = _
       rw [show (cEq (wayS m (pt G i)).1 (0:Int) && (cEq (wayS m (pt G i)).2.1 (0:Int) && (cEq (wayS m (pt G i)).2.2 (0:Int) && true))) = decide (wayS m (pt G i) = (0,0,0)) from eq3 _ _ _ (0,0,0),w_next (by omega)]
       by_cases h0:wayS m (pt G i) = (0,0,0)
       · rw [if_neg (by simpa using h0), if_pos h0]
         exact pways_l2_val m G hG k0 k2 n (i + 1) _ _ (by omega) (by omega) (by omega)
       · rw [if_pos (by simpa using h0), if_neg h0, if_pos (by omega)]
         exact pways_l2_val m G hG k0 k2 n (i + 1) _ _ (by omega) (by omega) (by rw [List.length_append,List.length_singleton]; omega)
     · rw [if_pos (by simpa using hs)]
       have ew:wayRun m (pt G i :: G.drop (i + 1)) f a = (false,f,a) := by
         show (if Sm (pt G i) 1048576 then _ else _) = _
         rw [if_neg hs]
       rw [ew]; rfl
   · have : i = G.length := by omega
     subst this
     rw [if_neg (by simp)]
     simp [wayRun]
noncomputable def _root_.Go.Proofs.YtlagndfhibkjpaaGreat.V.wy (bad:Bool) (m:V.T9) (l:List P3):Bool × Bool × List P3 := hid (wayRun m (l.map growP) bad [])
theorem pways_v {α:Type} (bad:Bool) (m0 m1 m2 m3 m4 m5 m6 m7 m8:Int) (l:List P3) (hg:V.lenB l.length = true) (k0:Bool → Option α) (k1:Nat → Bool → List P3 → Option α) :
   M.pways bad m0 m1 m2 m3 m4 m5 m6 m7 m8 l k0 k1 = if (V.wy bad ((m0,m1,m2),(m3,m4,m5),(m6,m7,m8)) l).1 = true then k1 (V.wy bad ((m0,m1,m2),(m3,m4,m5),(m6,m7,m8)) l).2.2.length (V.wy bad ((m0,m1,m2),(m3,m4,m5),(m6,m7,m8)) l).2.1 (V.wy bad ((m0,m1,m2),(m3,m4,m5),(m6,m7,m8)) l).2.2 else k0 (V.wy bad ((m0,m1,m2),(m3,m4,m5),(m6,m7,m8)) l).2.1 := by
 have hl := lenB_lt hg
 unfold M.pways V.wy
 rw [if_pos hg,hid_eq]
 have h1 := pways_l1_val l hl (fun (x167:List P3) ↦ M.pways_l2 (↑(List.length x167):Int) m0 m1 m2 m3 m4 m5 m6 m7 m8 (4096:Int) x167 (fun (x168:Bool) (x169:List P3) ↦ k0 x168) (fun (x170:Bool) (x171:List P3) ↦ if (↑(List.length x171):Int) = (↑(List.length x171):Int) ∧ (↑(List.length x171):Int) = (↑(List.length x171):Int) then k1 (List.length x171) x170 x171 else none) ((100:Nat) + List.length x167) (0:Int) bad []) (100 + l.length + 0 + 0 + l.length) 0 (by omega) (by omega)
 refine Eq.trans h1 ?_
 have h2 := pways_l2_val ((m0,m1,m2),(m3,m4,m5),(m6,m7,m8)) (l.map growP) (by rw [List.length_map]; exact hl) (fun (x168:Bool) (x169:List P3) ↦ k0 x168) (fun (x170:Bool) (x171:List P3) ↦ if (↑(List.length x171):Int) = (↑(List.length x171):Int) ∧ (↑(List.length x171):Int) = (↑(List.length x171):Int) then k1 (List.length x171) x170 x171 else none) (100 + (l.map growP).length) 0 bad [] (by omega) (by omega) (by simp)
 refine Eq.trans h2 ?_
 simp only [List.drop_zero,and_self,if_true]
noncomputable def pways_h {α:Type} (ds:List D) (Q:SV → Hp → Option α):Option α :=
 dB ds fun bad ds => dI ds fun m0 ds => dI ds fun m1 ds => dI ds fun m2 ds => dI ds fun m3 ds => dI ds fun m4 ds => dI ds fun m5 ds => dI ds fun m6 ds => dI ds fun m7 ds => dI ds fun m8 ds => dL kP ds fun l ds => dE ds (if V.lenB l.length = true then if (V.wy bad ((m0,m1,m2),(m3,m4,m5),(m6,m7,m8)) l).1 = true then Q (.tup [.clp 1 (.st (.i .i64) [.i .i64,.i .i64]) (V.wy bad ((m0,m1,m2),(m3,m4,m5),(m6,m7,m8)) l).2.2.length,.bool true]) ([.cells [.bool (V.wy bad ((m0,m1,m2),(m3,m4,m5),(m6,m7,m8)) l).2.1] 50,.seq (.st (.i .i64) [.i .i64,.i .i64]) (V.wy bad ((m0,m1,m2),(m3,m4,m5),(m6,m7,m8)) l).2.2 23]) else Q (.tup [.sl 1,.bool false]) ([.cells [.bool (V.wy bad ((m0,m1,m2),(m3,m4,m5),(m6,m7,m8)) l).2.1] 50,.seq (.st (.i .i64) [.i .i64,.i .i64]) [] 23]) else none)
theorem pways_h_ok {α:Type}:FnOk E.P 17 (fEnt (α := α) pways_sp pways_h) :=
 fEntR_ok E (look_pmoved_ok) (exec_sound E E_ok (look_pmoved_ok) (pways_l2_lps_ok) 400) fun ds Q r h => by
   unfold pways_h at h
   obtain ⟨bad,ds,rfl,h1⟩ := dB_inv h
   obtain ⟨m0,ds,rfl,h2⟩ := dI_inv h1
   obtain ⟨m1,ds,rfl,h3⟩ := dI_inv h2
   obtain ⟨m2,ds,rfl,h4⟩ := dI_inv h3
   obtain ⟨m3,ds,rfl,h5⟩ := dI_inv h4
   obtain ⟨m4,ds,rfl,h6⟩ := dI_inv h5
   obtain ⟨m5,ds,rfl,h7⟩ := dI_inv h6
   obtain ⟨m6,ds,rfl,h8⟩ := dI_inv h7
   obtain ⟨m7,ds,rfl,h9⟩ := dI_inv h8
   obtain ⟨m8,ds,rfl,h10⟩ := dI_inv h9
   obtain ⟨l,ds,rfl,h11⟩ := dL_inv h10
   obtain ⟨rfl,hE⟩ := dE_inv h11
   split at hE
   · rename_i hg
     split at hE
     · rename_i hc
       exact ⟨_,_,hE,fun vs => ⟨_,_,by kernel_rfl,(pways_eq bad m0 m1 m2 m3 m4 m5 m6 m7 m8 l (vs.tail.tail.headD undef) _).trans ((pways_v bad m0 m1 m2 m3 m4 m5 m6 m7 m8 l hg _ _).trans (if_pos hc))⟩⟩
     · rename_i hc
       exact ⟨_,_,hE,fun vs => ⟨_,_,by kernel_rfl,(pways_eq bad m0 m1 m2 m3 m4 m5 m6 m7 m8 l (vs.tail.tail.headD undef) _).trans ((pways_v bad m0 m1 m2 m3 m4 m5 m6 m7 m8 l hg _ _).trans (if_neg hc))⟩⟩
   · cases hE
noncomputable def look_pways {α:Type}:LookF α := addFn 17 (fEnt pways_sp pways_h) look_pmoved
theorem look_pways_ok {α:Type}:LookOk E.P (look_pways (α := α)) := addFn_ok pways_h_ok (look_pmoved_ok)
end
section
open Go
set_option maxRecDepth 20000
noncomputable abbrev place_S1 (y1:Value) (y2:L3) (y3 y4:Int) (y5:Value) (y6:L3) (y7:Value) (y8:L3) (y9:Value) (y10:L3) (y11 y12 y13 y14 y15 y16 y17 y18 y19:Int) (y20 y21:Bool) (y22 y23 y24 y25 y26 y27 y28 y29 y30 y31:Int) (y32:Value) (y33:L3) (y34 y35 y36 y37 y38 y39 y40 y41 y42 y43:Int) (y44 y45 y46 y47 y48 y49:L3):St := St.mk (some (SV.yld (nat_lit 17)) :: none :: some (SV.ptr (nat_lit 14) (nat_lit 0)) :: some (SV.ptr (nat_lit 15) (nat_lit 0)) :: some (SV.ptr (nat_lit 16) (nat_lit 0)) :: nn 3 (some (SV.ros y1 kP y2) :: some (SV.int .i64 y3) :: some (SV.int .i64 y4) :: nn 29 ([]))) [.cells [SV.ros y5 kP y6,SV.ros y7 kP y8,SV.ros y9 kP y10,SV.int .i64 y11] (nat_lit 33),.cells [SV.int .i64 y12,SV.int .i64 y13,SV.int .i64 y14,SV.int .i64 y15,SV.int .i64 y16,SV.int .i64 y17,SV.int .i64 y18] (nat_lit 41),.cells [SV.sl (nat_lit 18),SV.sl (nat_lit 19),SV.sl (nat_lit 20),SV.int .i64 y19] (nat_lit 33),SObj.dead,SObj.dead,SObj.dead,.cells [SV.bool y20] (nat_lit 4),.cells [SV.bool y21] (nat_lit 50),.cells [SV.int .i64 y22,SV.int .i64 y23,SV.int .i64 y24,SV.int .i64 y25,SV.int .i64 y26,SV.int .i64 y27,SV.int .i64 y28,SV.int .i64 y29,SV.int .i64 y30] (nat_lit 52),.cells [SV.sl (nat_lit 21),SV.sl (nat_lit 22),SV.sl (nat_lit 23),SV.int .i64 y31] (nat_lit 33),SObj.dead,SObj.dead,SObj.dead,.cells [SV.ros y32 kP y33] (nat_lit 24),.cells [SV.ptr (nat_lit 7) (nat_lit 0)] (nat_lit 54),.cells [SV.int .i64 y34,SV.int .i64 y35,SV.int .i64 y36,SV.int .i64 y37,SV.int .i64 y38,SV.int .i64 y39,SV.int .i64 y40,SV.int .i64 y41,SV.int .i64 y42] (nat_lit 52),.cells [SV.int .i64 y43] (nat_lit 3),SObj.lp (nat_lit 6) [false,true,false,true,true,true,true] [none,none,some (SV.ptr (nat_lit 0) (nat_lit 0)),some (SV.ptr (nat_lit 1) (nat_lit 0)),some (SV.ptr (nat_lit 2) (nat_lit 0)),some (SV.ptr (nat_lit 6) (nat_lit 0)),some (SV.ptr (nat_lit 7) (nat_lit 0)),some (SV.ptr (nat_lit 8) (nat_lit 0)),some (SV.ptr (nat_lit 9) (nat_lit 0)),none,none,none,none,none,none,none,none,none,none,none,none,none,none,some (SV.fn (nat_lit 40) [] [SV.ptr (nat_lit 13) (nat_lit 0),SV.ptr (nat_lit 14) (nat_lit 0),SV.ptr (nat_lit 15) (nat_lit 0),SV.ptr (nat_lit 16) (nat_lit 0)]),none,none,none,none,none,none,none,none,none,none,none,none,none,none,none,none,none,none,none,none,none,none,none,none,none,none,none,none,none,none,none,none,none,none,none,none,none,none,none,none,none,none,none,none,none,none,none,none,none,none,none,none,none,none,none,none,none,none,none,none,none,none,none,none] LSt.ready,.seq kP y44 (nat_lit 23),.seq kP y45 (nat_lit 23),.seq kP y46 (nat_lit 23),.seq kP y47 (nat_lit 23),.seq kP y48 (nat_lit 23),.seq kP y49 (nat_lit 23)]
noncomputable abbrev place_S2 (y1:Value) (y2:L3) (y3:Value) (y4:L3) (y5:Value) (y6:L3) (y7 y8 y9 y10 y11 y12 y13 y14:Int) (y15:Bool) (y16 y17 y18 y19 y20 y21 y22 y23 y24 y25:Int) (y26:Value) (y27:L3) (y28 y29 y30 y31 y32 y33 y34 y35 y36 y37:Int) (y38 y39 y40:L3):St := St.mk (nn 40 ([])) [.cells [SV.ros y1 kP y2,SV.ros y3 kP y4,SV.ros y5 kP y6,SV.int .i64 y7] (nat_lit 33),.cells [SV.int .i64 y8,SV.int .i64 y9,SV.int .i64 y10,SV.int .i64 y11,SV.int .i64 y12,SV.int .i64 y13,SV.int .i64 y14] (nat_lit 41),.cells [SV.sl (nat_lit 18),SV.sl (nat_lit 19),SV.sl (nat_lit 20),SV.int .i64 (0:Int)] (nat_lit 33),SObj.dead,SObj.dead,SObj.dead,.cells [SV.bool false] (nat_lit 4),.cells [SV.bool y15] (nat_lit 50),.cells [SV.int .i64 y16,SV.int .i64 y17,SV.int .i64 y18,SV.int .i64 y19,SV.int .i64 y20,SV.int .i64 y21,SV.int .i64 y22,SV.int .i64 y23,SV.int .i64 y24] (nat_lit 52),.cells [SV.sl (nat_lit 21),SV.sl (nat_lit 22),SV.sl (nat_lit 23),SV.int .i64 y25] (nat_lit 33),SObj.dead,SObj.dead,SObj.dead,.cells [SV.ros y26 kP y27] (nat_lit 24),.cells [SV.ptr (nat_lit 7) (nat_lit 0)] (nat_lit 54),.cells [SV.int .i64 y28,SV.int .i64 y29,SV.int .i64 y30,SV.int .i64 y31,SV.int .i64 y32,SV.int .i64 y33,SV.int .i64 y34,SV.int .i64 y35,SV.int .i64 y36] (nat_lit 52),.cells [SV.int .i64 y37] (nat_lit 3),SObj.lp (nat_lit 6) [false,true,false,true,true,true,true] [none,none,some (SV.ptr (nat_lit 0) (nat_lit 0)),some (SV.ptr (nat_lit 1) (nat_lit 0)),some (SV.ptr (nat_lit 2) (nat_lit 0)),some (SV.ptr (nat_lit 6) (nat_lit 0)),some (SV.ptr (nat_lit 7) (nat_lit 0)),some (SV.ptr (nat_lit 8) (nat_lit 0)),some (SV.ptr (nat_lit 9) (nat_lit 0)),none,none,none,none,none,none,none,none,none,none,none,none,none,none,some (SV.fn (nat_lit 40) [] [SV.ptr (nat_lit 13) (nat_lit 0),SV.ptr (nat_lit 14) (nat_lit 0),SV.ptr (nat_lit 15) (nat_lit 0),SV.ptr (nat_lit 16) (nat_lit 0)]),none,none,none,none,none,none,none,none,none,none,none,none,none,none,none,none,none,none,none,none,none,none,none,none,none,none,none,none,none,none,none,none,none,none,none,none,none,none,none,none,none,none,none,none,none,none,none,none,none,none,none,none,none,none,none,none,none,none,none,none,none,none,none,none] (LSt.done Ex.ret),.seq kP [] (nat_lit 23),.seq kP [] (nat_lit 23),.seq kP [] (nat_lit 23),.seq kP y38 (nat_lit 23),.seq kP y39 (nat_lit 23),.seq kP y40 (nat_lit 23)]
noncomputable abbrev place_S3 (y1:Value) (y2:L3) (y3:Value) (y4:L3) (y5:Value) (y6:L3) (y7 y8 y9 y10 y11 y12 y13 y14 y15:Int) (y16 y17:Bool) (y18 y19 y20 y21 y22 y23 y24 y25 y26 y27:Int) (y28:Value) (y29:L3) (y30 y31 y32 y33 y34 y35 y36 y37 y38 y39:Int) (y40 y41 y42 y43 y44 y45:L3):St := St.mk (nn 40 ([])) [.cells [SV.ros y1 kP y2,SV.ros y3 kP y4,SV.ros y5 kP y6,SV.int .i64 y7] (nat_lit 33),.cells [SV.int .i64 y8,SV.int .i64 y9,SV.int .i64 y10,SV.int .i64 y11,SV.int .i64 y12,SV.int .i64 y13,SV.int .i64 y14] (nat_lit 41),.cells [SV.sl (nat_lit 18),SV.sl (nat_lit 19),SV.sl (nat_lit 20),SV.int .i64 y15] (nat_lit 33),SObj.dead,SObj.dead,SObj.dead,.cells [SV.bool y16] (nat_lit 4),.cells [SV.bool y17] (nat_lit 50),.cells [SV.int .i64 y18,SV.int .i64 y19,SV.int .i64 y20,SV.int .i64 y21,SV.int .i64 y22,SV.int .i64 y23,SV.int .i64 y24,SV.int .i64 y25,SV.int .i64 y26] (nat_lit 52),.cells [SV.sl (nat_lit 21),SV.sl (nat_lit 22),SV.sl (nat_lit 23),SV.int .i64 y27] (nat_lit 33),SObj.dead,SObj.dead,SObj.dead,.cells [SV.ros y28 kP y29] (nat_lit 24),.cells [SV.ptr (nat_lit 7) (nat_lit 0)] (nat_lit 54),.cells [SV.int .i64 y30,SV.int .i64 y31,SV.int .i64 y32,SV.int .i64 y33,SV.int .i64 y34,SV.int .i64 y35,SV.int .i64 y36,SV.int .i64 y37,SV.int .i64 y38] (nat_lit 52),.cells [SV.int .i64 y39] (nat_lit 3),SObj.lp (nat_lit 6) [false,true,false,true,true,true,true] [none,none,some (SV.ptr (nat_lit 0) (nat_lit 0)),some (SV.ptr (nat_lit 1) (nat_lit 0)),some (SV.ptr (nat_lit 2) (nat_lit 0)),some (SV.ptr (nat_lit 6) (nat_lit 0)),some (SV.ptr (nat_lit 7) (nat_lit 0)),some (SV.ptr (nat_lit 8) (nat_lit 0)),some (SV.ptr (nat_lit 9) (nat_lit 0)),none,none,none,none,none,none,none,none,none,none,none,none,none,none,some (SV.fn (nat_lit 40) [] [SV.ptr (nat_lit 13) (nat_lit 0),SV.ptr (nat_lit 14) (nat_lit 0),SV.ptr (nat_lit 15) (nat_lit 0),SV.ptr (nat_lit 16) (nat_lit 0)]),none,none,none,none,none,none,none,none,none,none,none,none,none,none,none,none,none,none,none,none,none,none,none,none,none,none,none,none,none,none,none,none,none,none,none,none,none,none,none,none,none,none,none,none,none,none,none,none,none,none,none,none,none,none,none,none,none,none,none,none,none,none,none,none] LSt.ready,.seq kP y40 (nat_lit 23),.seq kP y41 (nat_lit 23),.seq kP y42 (nat_lit 23),.seq kP y43 (nat_lit 23),.seq kP y44 (nat_lit 23),.seq kP y45 (nat_lit 23)]
noncomputable abbrev place_S4:St := St.mk (some (SV.yld (nat_lit 17)) :: none :: some (SV.ptr (nat_lit 14) (nat_lit 0)) :: some (SV.ptr (nat_lit 15) (nat_lit 0)) :: some (SV.ptr (nat_lit 16) (nat_lit 0)) :: nn 3 (some (SV.ros undef kP []) :: some (SV.int .i64 (0:Int)) :: some (SV.int .i64 (0:Int)) :: nn 29 ([]))) [.cells [SV.ros undef kP [],SV.ros undef kP [],SV.ros undef kP [],SV.int .i64 (0:Int)] (nat_lit 33),.cells [SV.int .i64 (0:Int),SV.int .i64 (0:Int),SV.int .i64 (0:Int),SV.int .i64 (0:Int),SV.int .i64 (0:Int),SV.int .i64 (0:Int),SV.int .i64 (0:Int)] (nat_lit 41),.cells [SV.sl (nat_lit 18),SV.sl (nat_lit 19),SV.sl (nat_lit 20),SV.int .i64 (0:Int)] (nat_lit 33),SObj.dead,SObj.dead,SObj.dead,.cells [SV.bool false] (nat_lit 4),.cells [SV.bool false] (nat_lit 50),.cells [SV.int .i64 (0:Int),SV.int .i64 (0:Int),SV.int .i64 (0:Int),SV.int .i64 (0:Int),SV.int .i64 (0:Int),SV.int .i64 (0:Int),SV.int .i64 (0:Int),SV.int .i64 (0:Int),SV.int .i64 (0:Int)] (nat_lit 52),.cells [SV.sl (nat_lit 21),SV.sl (nat_lit 22),SV.sl (nat_lit 23),SV.int .i64 (0:Int)] (nat_lit 33),SObj.dead,SObj.dead,SObj.dead,.cells [SV.ros undef kP []] (nat_lit 24),.cells [SV.ptr (nat_lit 7) (nat_lit 0)] (nat_lit 54),.cells [SV.int .i64 (0:Int),SV.int .i64 (0:Int),SV.int .i64 (0:Int),SV.int .i64 (0:Int),SV.int .i64 (0:Int),SV.int .i64 (0:Int),SV.int .i64 (0:Int),SV.int .i64 (0:Int),SV.int .i64 (0:Int)] (nat_lit 52),.cells [SV.int .i64 (0:Int)] (nat_lit 3),SObj.lp (nat_lit 6) [false,true,false,true,true,true,true] [none,none,some (SV.ptr (nat_lit 0) (nat_lit 0)),some (SV.ptr (nat_lit 1) (nat_lit 0)),some (SV.ptr (nat_lit 2) (nat_lit 0)),some (SV.ptr (nat_lit 6) (nat_lit 0)),some (SV.ptr (nat_lit 7) (nat_lit 0)),some (SV.ptr (nat_lit 8) (nat_lit 0)),some (SV.ptr (nat_lit 9) (nat_lit 0)),none,none,none,none,none,none,none,none,none,none,none,none,none,none,some (SV.fn (nat_lit 40) [] [SV.ptr (nat_lit 13) (nat_lit 0),SV.ptr (nat_lit 14) (nat_lit 0),SV.ptr (nat_lit 15) (nat_lit 0),SV.ptr (nat_lit 16) (nat_lit 0)]),none,none,none,none,none,none,none,none,none,none,none,none,none,none,none,none,none,none,none,none,none,none,none,none,none,none,none,none,none,none,none,none,none,none,none,none,none,none,none,none,none,none,none,none,none,none,none,none,none,none,none,none,none,none,none,none,none,none,none,none,none,none,none,none] LSt.ready,.seq kP [] (nat_lit 23),.seq kP [] (nat_lit 23),.seq kP [] (nat_lit 23),.seq kP [] (nat_lit 23),.seq kP [] (nat_lit 23),.seq kP [] (nat_lit 23)]
noncomputable def M.place_l0_step {α:Type} (x53:L3) (x54 x63 x64 x65 x85 x86 x87 x88 x89 x90 x91 x92 x93 x94:Int) (kn:Int → Bool → L3 → Option α) (k0:Bool → L3 → Option α) (k2:Bool → L3 → Option α) (x55:Int) (x72:Bool) (x98:L3):Option α := let s101:K.T kP := List.getD x53 (Int.toNat x55) ((0:Int),(0:Int),(0:Int)); let s102:LK.T (LK.i IntKind.i64) := Prod.fst s101; let s103:RT (LK.i IntKind.i64) [LK.i IntKind.i64] := Prod.snd s101; let s104:LK.T (LK.i IntKind.i64) := Prod.fst s103; let s105:RT (LK.i IntKind.i64) [] := Prod.snd s103; let s106:Option V.T3 := V.tTurn ((x85,x86,x87),(x88,x89,x90),x91,x92,x93) (IntKind.wrap .i64 (s102 * x94),IntKind.wrap .i64 (s104 * x94),IntKind.wrap .i64 (s105 * x94)); let s107:Option V.T3 := V.tAdd (V.q3 s106) (x63,x64,x65); let s108:Int := Int.fdiv (V.y3 s107) (1048576:Int); let s109:Int := Int.fdiv (V.x3 s107) (1048576:Int); let s110:Int := Int.fdiv (V.z3 s107) (1048576:Int); let s111:Bool := V.on s107 (V.on s106 x72); if cLt x55 x54 = true then if (0:Int) ≤ x55 ∧ x55 < (↑(List.length x53):Int) then if (!V.pwithin_r0 s102 s104 s105 (1048576:Int)) = true then k0 (V.on (V.tAdd ((0:Int),(0:Int),(0:Int)) (x63,x64,x65)) x72) x98 else if (!V.pwithin_r0 s109 s108 s110 (8388608:Int)) = true then k0 s111 x98 else if (List.length x98 + ((0:Nat) + (1:Nat))) * (24:Nat) ≤ (140737488355328:Nat) then kn (IntKind.wrap .i64 (x55 + (1:Int))) s111 (x98 ++ [(s109,s108,s110)]) else none else none else k2 x72 x98
noncomputable def M.place_l0 {α:Type} (x53:L3) (x54 x63 x64 x65 x85 x86 x87 x88 x89 x90 x91 x92 x93 x94:Int) (k0:Bool → L3 → Option α) (k2:Bool → L3 → Option α):Nat → Int → Bool → L3 → Option α
 | 0,_,_,_ => none
 | n + 1,x55,x72,x98 => M.place_l0_step x53 x54 x63 x64 x65 x85 x86 x87 x88 x89 x90 x91 x92 x93 x94 (M.place_l0 x53 x54 x63 x64 x65 x85 x86 x87 x88 x89 x90 x91 x92 x93 x94 k0 k2 n) k0 k2 x55 x72 x98
theorem place_l0_step_eq {α:Type} (x52:Value) (x53:L3) (x54 x55:Int) (x56:Value) (x57:L3) (x58:Value) (x59:L3) (x60:Value) (x61:L3) (x62 x63 x64 x65 x66 x67 x68 x69 x70:Int) (x71 x72:Bool) (x73 x74 x75 x76 x77 x78 x79 x80 x81 x82:Int) (x83:Value) (x84:L3) (x85 x86 x87 x88 x89 x90 x91 x92 x93 x94:Int) (x95 x96 x97 x98 x99 x100:L3) (Q:Ex → St → Option α):(loopStep E (exec E look_pways noLps 400) 40 [false,true] 18 (codeAt E.P 40 [false,true])) (place_S1 x52 x53 x54 x55 x56 x57 x58 x59 x60 x61 x62 x63 x64 x65 x66 x67 x68 x69 x70 x71 x72 x73 x74 x75 x76 x77 x78 x79 x80 x81 x82 x83 x84 x85 x86 x87 x88 x89 x90 x91 x92 x93 x94 x95 x96 x97 x98 x99 x100) Q = M.place_l0_step x53 x54 x63 x64 x65 x85 x86 x87 x88 x89 x90 x91 x92 x93 x94 (fun (x116:Int) (x117:Bool) (x118:L3) => Q .normal (place_S1 x52 x53 x54 x116 x56 x57 x58 x59 x60 x61 x62 x63 x64 x65 x66 x67 x68 x69 x70 x71 x117 x73 x74 x75 x76 x77 x78 x79 x80 x81 x82 x83 x84 x85 x86 x87 x88 x89 x90 x91 x92 x93 x94 x95 x96 x97 x118 x99 x100)) (fun (x112:Bool) (x113:L3) => Q .ret (place_S2 x56 x57 x58 x59 x60 x61 x62 x63 x64 x65 x66 x67 x68 x69 x112 x73 x74 x75 x76 x77 x78 x79 x80 x81 x82 x83 x84 x85 x86 x87 x88 x89 x90 x91 x92 x93 x94 x113 x99 x100)) (fun (x114:Bool) (x115:L3) => Q (.exit 0) (place_S3 x56 x57 x58 x59 x60 x61 x62 x63 x64 x65 x66 x67 x68 x69 x70 x71 x114 x73 x74 x75 x76 x77 x78 x79 x80 x81 x82 x83 x84 x85 x86 x87 x88 x89 x90 x91 x92 x93 x94 x95 x96 x97 x115 x99 x100)) x55 x72 x98 := by kernel_rfl
theorem place_l0_iter {α:Type} (x52:Value) (x53:L3) (x54:Int) (x56:Value) (x57:L3) (x58:Value) (x59:L3) (x60:Value) (x61:L3) (x62 x63 x64 x65 x66 x67 x68 x69 x70:Int) (x71:Bool) (x73 x74 x75 x76 x77 x78 x79 x80 x81 x82:Int) (x83:Value) (x84:L3) (x85 x86 x87 x88 x89 x90 x91 x92 x93 x94:Int) (x95 x96 x97 x99 x100:L3) (Q:Ex → St → Option α):∀ (n:Nat) (x55:Int) (x72:Bool) (x98:L3),iter (loopStep E (exec E look_pways noLps 400) 40 [false,true] 18 (codeAt E.P 40 [false,true])) n (place_S1 x52 x53 x54 x55 x56 x57 x58 x59 x60 x61 x62 x63 x64 x65 x66 x67 x68 x69 x70 x71 x72 x73 x74 x75 x76 x77 x78 x79 x80 x81 x82 x83 x84 x85 x86 x87 x88 x89 x90 x91 x92 x93 x94 x95 x96 x97 x98 x99 x100) Q = M.place_l0 x53 x54 x63 x64 x65 x85 x86 x87 x88 x89 x90 x91 x92 x93 x94 (fun (x112:Bool) (x113:L3) => Q .ret (place_S2 x56 x57 x58 x59 x60 x61 x62 x63 x64 x65 x66 x67 x68 x69 x112 x73 x74 x75 x76 x77 x78 x79 x80 x81 x82 x83 x84 x85 x86 x87 x88 x89 x90 x91 x92 x93 x94 x113 x99 x100)) (fun (x114:Bool) (x115:L3) => Q (.exit 0) (place_S3 x56 x57 x58 x59 x60 x61 x62 x63 x64 x65 x66 x67 x68 x69 x70 x71 x114 x73 x74 x75 x76 x77 x78 x79 x80 x81 x82 x83 x84 x85 x86 x87 x88 x89 x90 x91 x92 x93 x94 x95 x96 x97 x115 x99 x100)) n x55 x72 x98
 | 0,_,_,_ => rfl
 | n + 1,x55,x72,x98 => (place_l0_step_eq x52 x53 x54 x55 x56 x57 x58 x59 x60 x61 x62 x63 x64 x65 x66 x67 x68 x69 x70 x71 x72 x73 x74 x75 x76 x77 x78 x79 x80 x81 x82 x83 x84 x85 x86 x87 x88 x89 x90 x91 x92 x93 x94 x95 x96 x97 x98 x99 x100 (iterK (loopStep E (exec E look_pways noLps 400) 40 [false,true] 18 (codeAt E.P 40 [false,true])) n Q)).trans (congrArg (fun kn => M.place_l0_step x53 x54 x63 x64 x65 x85 x86 x87 x88 x89 x90 x91 x92 x93 x94 kn (fun (x112:Bool) (x113:L3) => Q .ret (place_S2 x56 x57 x58 x59 x60 x61 x62 x63 x64 x65 x66 x67 x68 x69 x112 x73 x74 x75 x76 x77 x78 x79 x80 x81 x82 x83 x84 x85 x86 x87 x88 x89 x90 x91 x92 x93 x94 x113 x99 x100)) (fun (x114:Bool) (x115:L3) => Q (.exit 0) (place_S3 x56 x57 x58 x59 x60 x61 x62 x63 x64 x65 x66 x67 x68 x69 x70 x71 x114 x73 x74 x75 x76 x77 x78 x79 x80 x81 x82 x83 x84 x85 x86 x87 x88 x89 x90 x91 x92 x93 x94 x95 x96 x97 x115 x99 x100)) x55 x72 x98) (funext fun x55 => funext fun x72 => funext fun x98 => place_l0_iter x52 x53 x54 x56 x57 x58 x59 x60 x61 x62 x63 x64 x65 x66 x67 x68 x69 x70 x71 x73 x74 x75 x76 x77 x78 x79 x80 x81 x82 x83 x84 x85 x86 x87 x88 x89 x90 x91 x92 x93 x94 x95 x96 x97 x99 x100 Q n x55 x72 x98))
noncomputable def place_l0_go {α:Type} (ds:List D) (Q:Ex → St → Option α):Option α :=
 dV ds fun x52 ds => dL kP ds fun x53 ds => dI ds fun x54 ds => dI ds fun x55 ds => dV ds fun x56 ds => dL kP ds fun x57 ds => dV ds fun x58 ds => dL kP ds fun x59 ds => dV ds fun x60 ds => dL kP ds fun x61 ds => dI ds fun x62 ds => dI ds fun x63 ds => dI ds fun x64 ds => dI ds fun x65 ds => dI ds fun x66 ds => dI ds fun x67 ds => dI ds fun x68 ds => dI ds fun x69 ds => dI ds fun x70 ds => dB ds fun x71 ds => dB ds fun x72 ds => dI ds fun x73 ds => dI ds fun x74 ds => dI ds fun x75 ds => dI ds fun x76 ds => dI ds fun x77 ds => dI ds fun x78 ds => dI ds fun x79 ds => dI ds fun x80 ds => dI ds fun x81 ds => dI ds fun x82 ds => dV ds fun x83 ds => dL kP ds fun x84 ds => dI ds fun x85 ds => dI ds fun x86 ds => dI ds fun x87 ds => dI ds fun x88 ds => dI ds fun x89 ds => dI ds fun x90 ds => dI ds fun x91 ds => dI ds fun x92 ds => dI ds fun x93 ds => dI ds fun x94 ds => dL kP ds fun x95 ds => dL kP ds fun x96 ds => dL kP ds fun x97 ds => dL kP ds fun x98 ds => dL kP ds fun x99 ds => dL kP ds fun x100 ds => dE ds (M.place_l0 x53 x54 x63 x64 x65 x85 x86 x87 x88 x89 x90 x91 x92 x93 x94 (fun (x112:Bool) (x113:L3) => Q .ret (place_S2 x56 x57 x58 x59 x60 x61 x62 x63 x64 x65 x66 x67 x68 x69 x112 x73 x74 x75 x76 x77 x78 x79 x80 x81 x82 x83 x84 x85 x86 x87 x88 x89 x90 x91 x92 x93 x94 x113 x99 x100)) (fun (x114:Bool) (x115:L3) => Q (.exit 0) (place_S3 x56 x57 x58 x59 x60 x61 x62 x63 x64 x65 x66 x67 x68 x69 x70 x71 x114 x73 x74 x75 x76 x77 x78 x79 x80 x81 x82 x83 x84 x85 x86 x87 x88 x89 x90 x91 x92 x93 x94 x95 x96 x97 x115 x99 x100)) (100 + x53.length + x57.length + x59.length + x61.length + x84.length + x95.length + x96.length + x97.length + x98.length + x99.length + x100.length) x55 x72 x98)
theorem place_l0_ok {α:Type}:LoopOk E.P 40 [false,true] 18 (lEnt (α := α) (place_S4) place_l0_go) :=
 lEnt_ok E (exec_sound E E_ok (look_pways_ok) (noLps_ok _) 400) fun ds Q r h S hS => by
   unfold place_l0_go at h
   obtain ⟨x52,ds,rfl,h1⟩ := dV_inv h
   obtain ⟨x53,ds,rfl,h2⟩ := dL_inv h1
   obtain ⟨x54,ds,rfl,h3⟩ := dI_inv h2
   obtain ⟨x55,ds,rfl,h4⟩ := dI_inv h3
   obtain ⟨x56,ds,rfl,h5⟩ := dV_inv h4
   obtain ⟨x57,ds,rfl,h6⟩ := dL_inv h5
   obtain ⟨x58,ds,rfl,h7⟩ := dV_inv h6
   obtain ⟨x59,ds,rfl,h8⟩ := dL_inv h7
   obtain ⟨x60,ds,rfl,h9⟩ := dV_inv h8
   obtain ⟨x61,ds,rfl,h10⟩ := dL_inv h9
   obtain ⟨x62,ds,rfl,h11⟩ := dI_inv h10
   obtain ⟨x63,ds,rfl,h12⟩ := dI_inv h11
   obtain ⟨x64,ds,rfl,h13⟩ := dI_inv h12
   obtain ⟨x65,ds,rfl,h14⟩ := dI_inv h13
   obtain ⟨x66,ds,rfl,h15⟩ := dI_inv h14
   obtain ⟨x67,ds,rfl,h16⟩ := dI_inv h15
   obtain ⟨x68,ds,rfl,h17⟩ := dI_inv h16
   obtain ⟨x69,ds,rfl,h18⟩ := dI_inv h17
   obtain ⟨x70,ds,rfl,h19⟩ := dI_inv h18
   obtain ⟨x71,ds,rfl,h20⟩ := dB_inv h19
   obtain ⟨x72,ds,rfl,h21⟩ := dB_inv h20
   obtain ⟨x73,ds,rfl,h22⟩ := dI_inv h21
   obtain ⟨x74,ds,rfl,h23⟩ := dI_inv h22
   obtain ⟨x75,ds,rfl,h24⟩ := dI_inv h23
   obtain ⟨x76,ds,rfl,h25⟩ := dI_inv h24
   obtain ⟨x77,ds,rfl,h26⟩ := dI_inv h25
   obtain ⟨x78,ds,rfl,h27⟩ := dI_inv h26
   obtain ⟨x79,ds,rfl,h28⟩ := dI_inv h27
   obtain ⟨x80,ds,rfl,h29⟩ := dI_inv h28
   obtain ⟨x81,ds,rfl,h30⟩ := dI_inv h29
   obtain ⟨x82,ds,rfl,h31⟩ := dI_inv h30
   obtain ⟨x83,ds,rfl,h32⟩ := dV_inv h31
   obtain ⟨x84,ds,rfl,h33⟩ := dL_inv h32
   obtain ⟨x85,ds,rfl,h34⟩ := dI_inv h33
   obtain ⟨x86,ds,rfl,h35⟩ := dI_inv h34
   obtain ⟨x87,ds,rfl,h36⟩ := dI_inv h35
   obtain ⟨x88,ds,rfl,h37⟩ := dI_inv h36
   obtain ⟨x89,ds,rfl,h38⟩ := dI_inv h37
   obtain ⟨x90,ds,rfl,h39⟩ := dI_inv h38
   obtain ⟨x91,ds,rfl,h40⟩ := dI_inv h39
   obtain ⟨x92,ds,rfl,h41⟩ := dI_inv h40
   obtain ⟨x93,ds,rfl,h42⟩ := dI_inv h41
   obtain ⟨x94,ds,rfl,h43⟩ := dI_inv h42
   obtain ⟨x95,ds,rfl,h44⟩ := dL_inv h43
   obtain ⟨x96,ds,rfl,h45⟩ := dL_inv h44
   obtain ⟨x97,ds,rfl,h46⟩ := dL_inv h45
   obtain ⟨x98,ds,rfl,h47⟩ := dL_inv h46
   obtain ⟨x99,ds,rfl,h48⟩ := dL_inv h47
   obtain ⟨x100,ds,rfl,h49⟩ := dL_inv h48
   obtain ⟨rfl,hE⟩ := dE_inv h49
   have e:fillS (place_S4) [.v x52,.l kP x53,.i x54,.i x55,.v x56,.l kP x57,.v x58,.l kP x59,.v x60,.l kP x61,.i x62,.i x63,.i x64,.i x65,.i x66,.i x67,.i x68,.i x69,.i x70,.b x71,.b x72,.i x73,.i x74,.i x75,.i x76,.i x77,.i x78,.i x79,.i x80,.i x81,.i x82,.v x83,.l kP x84,.i x85,.i x86,.i x87,.i x88,.i x89,.i x90,.i x91,.i x92,.i x93,.i x94,.l kP x95,.l kP x96,.l kP x97,.l kP x98,.l kP x99,.l kP x100] = some (place_S1 x52 x53 x54 x55 x56 x57 x58 x59 x60 x61 x62 x63 x64 x65 x66 x67 x68 x69 x70 x71 x72 x73 x74 x75 x76 x77 x78 x79 x80 x81 x82 x83 x84 x85 x86 x87 x88 x89 x90 x91 x92 x93 x94 x95 x96 x97 x98 x99 x100) := by kernel_rfl
   rw [e] at hS
   cases hS
   exact ⟨_,(place_l0_iter x52 x53 x54 x56 x57 x58 x59 x60 x61 x62 x63 x64 x65 x66 x67 x68 x69 x70 x71 x73 x74 x75 x76 x77 x78 x79 x80 x81 x82 x83 x84 x85 x86 x87 x88 x89 x90 x91 x92 x93 x94 x95 x96 x97 x99 x100 Q _ x55 x72 x98).trans hE⟩
noncomputable def place_l0_lps {α:Type}:LookL α := addLp 40 [false,true] 18 (lEnt (place_S4) place_l0_go) noLps
theorem place_l0_lps_ok {α:Type}:LoopsOk E.P (place_l0_lps (α := α)) := addLp_ok place_l0_ok (noLps_ok _)
noncomputable def M.place {α:Type} (l:L3) (ax:L3) (ed:L3) (r:Int) (px:Int) (p_y:Int) (pz:Int) (tw:Int) (tx:Int) (ty:Int) (tz:Int) (k0:Option α) (k1:Nat → Nat → Int → L3 → L3 → L3 → Option α):Option α := M.place_l0 l (↑(List.length l):Int) px p_y pz (V.m0 (V.tRows (tw,tx,ty,tz))) (V.m1 (V.tRows (tw,tx,ty,tz))) (V.m2 (V.tRows (tw,tx,ty,tz))) (V.m3 (V.tRows (tw,tx,ty,tz))) (V.m4 (V.tRows (tw,tx,ty,tz))) (V.m5 (V.tRows (tw,tx,ty,tz))) (V.m6 (V.tRows (tw,tx,ty,tz))) (V.m7 (V.tRows (tw,tx,ty,tz))) (V.m8 (V.tRows (tw,tx,ty,tz))) (1048576:Int) (fun (x122:Bool) (x123:L3) ↦ k0) (fun (x124:Bool) (x125:L3) ↦ if V.lenB (List.length ax) = true then if Prod.fst (V.wy x124 (V.q9 (V.tRows (tw,tx,ty,tz))) ax) = true then if V.lenB (List.length ed) = true then if Prod.fst (V.wy (Prod.fst (Prod.snd (V.wy x124 (V.q9 (V.tRows (tw,tx,ty,tz))) ax))) (V.q9 (V.tRows (tw,tx,ty,tz))) ed) = true then if Prod.fst (Prod.snd (V.wy (Prod.fst (Prod.snd (V.wy x124 (V.q9 (V.tRows (tw,tx,ty,tz))) ax))) (V.q9 (V.tRows (tw,tx,ty,tz))) ed)) = true then k0 else if cEq (↑(List.length x125):Int) (0:Int) = true then k0 else k1 (List.length (Prod.snd (Prod.snd (V.wy x124 (V.q9 (V.tRows (tw,tx,ty,tz))) ax)))) (List.length (Prod.snd (Prod.snd (V.wy (Prod.fst (Prod.snd (V.wy x124 (V.q9 (V.tRows (tw,tx,ty,tz))) ax))) (V.q9 (V.tRows (tw,tx,ty,tz))) ed)))) r x125 (Prod.snd (Prod.snd (V.wy x124 (V.q9 (V.tRows (tw,tx,ty,tz))) ax))) (Prod.snd (Prod.snd (V.wy (Prod.fst (Prod.snd (V.wy x124 (V.q9 (V.tRows (tw,tx,ty,tz))) ax))) (V.q9 (V.tRows (tw,tx,ty,tz))) ed))) else if Prod.fst (Prod.snd (V.wy (Prod.fst (Prod.snd (V.wy x124 (V.q9 (V.tRows (tw,tx,ty,tz))) ax))) (V.q9 (V.tRows (tw,tx,ty,tz))) ed)) = true then k0 else k0 else none else if V.lenB (List.length ed) = true then if Prod.fst (V.wy (Prod.fst (Prod.snd (V.wy x124 (V.q9 (V.tRows (tw,tx,ty,tz))) ax))) (V.q9 (V.tRows (tw,tx,ty,tz))) ed) = true then if Prod.fst (Prod.snd (V.wy (Prod.fst (Prod.snd (V.wy x124 (V.q9 (V.tRows (tw,tx,ty,tz))) ax))) (V.q9 (V.tRows (tw,tx,ty,tz))) ed)) = true then k0 else k0 else if Prod.fst (Prod.snd (V.wy (Prod.fst (Prod.snd (V.wy x124 (V.q9 (V.tRows (tw,tx,ty,tz))) ax))) (V.q9 (V.tRows (tw,tx,ty,tz))) ed)) = true then k0 else k0 else none else none) ((100:Nat) + List.length l + List.length l + List.length ax + List.length ed + List.length l + (0:Nat) + (0:Nat) + (0:Nat) + (0:Nat) + (0:Nat) + (0:Nat)) (0:Int) (V.on (V.tRows (tw,tx,ty,tz)) false) []
theorem place_eq {α:Type} (l:L3) (ax:L3) (ed:L3) (r:Int) (px:Int) (p_y:Int) (pz:Int) (tw:Int) (tx:Int) (ty:Int) (tz:Int) (v119:Value) (v120:Value) (v121:Value) (Q:SV → Hp → Option α):callI E look_pways (exec E look_pways place_l0_lps 400) 6 ([SV.agg [SV.ros v119 kP l,SV.ros v120 kP ax,SV.ros v121 kP ed,SV.int .i64 r],SV.agg [SV.int .i64 px,SV.int .i64 p_y,SV.int .i64 pz,SV.int .i64 tw,SV.int .i64 tx,SV.int .i64 ty,SV.int .i64 tz]]) ([]) Q = M.place l ax ed r px p_y pz tw tx ty tz (Q (SV.tup [SV.agg [SV.sl (nat_lit 0),SV.sl (nat_lit 1),SV.sl (nat_lit 2),SV.int .i64 (0:Int)],SV.bool false]) ([.seq kP [] (nat_lit 23),.seq kP [] (nat_lit 23),.seq kP [] (nat_lit 23)])) (fun (x126 x127:Nat) (x128:Int) (x129 x130 x131:L3) => Q (SV.tup [SV.agg [SV.sl (nat_lit 0),SV.clp (nat_lit 1) kP x126,SV.clp (nat_lit 2) kP x127,SV.int .i64 x128],SV.bool true]) ([.seq kP x129 (nat_lit 23),.seq kP x130 (nat_lit 23),.seq kP x131 (nat_lit 23)])) := by kernel_rfl
def place_sp:List AS := [.st [.ro kP,.ro kP,.ro kP,.leaf (.int .i64 0)],.val (.agg [.int .i64 0,.int .i64 0,.int .i64 0,.int .i64 0,.int .i64 0,.int .i64 0,.int .i64 0])]
noncomputable def atT (m:V.T9) (p:P3):Option V.T3 := V.tTurn m (scP p 1048576)
noncomputable def atA (m:V.T9) (t:V.T3) (p:P3):Option V.T3 := V.tAdd (V.q3 (atT m p)) t
noncomputable def atQ (m:V.T9) (t:V.T3) (p:P3):P3 := (Int.fdiv (V.x3 (atA m t p)) 1048576,Int.fdiv (V.y3 (atA m t p)) 1048576,Int.fdiv (V.z3 (atA m t p)) 1048576)
noncomputable def placeRun (m:V.T9) (t:V.T3):List P3 → Bool → List P3 → Option (Bool × List P3)
 | [],f,a => some (f,a)
 | p :: l,f,a => if Sm p 1048576 then (if Sm (atQ m t p) 8388608 then placeRun m t l (V.on (atA m t p) (V.on (atT m p) f)) (a ++ [atQ m t p]) else none) else none
theorem place_l0_val {α:Type} (l:List P3) (hl:l.length < 1099511627776) (m:V.T9) (t:V.T3) (k0:Option α) (k2:Bool → List P3 → Option α):∀ (fuel i:Nat) (f:Bool) (a:List P3),i ≤ l.length → l.length - i < fuel → a.length ≤ i →
   M.place_l0 l (l.length:Int) t.1 t.2.1 t.2.2 m.1.1 m.1.2.1 m.1.2.2 m.2.1.1 m.2.1.2.1 m.2.1.2.2 m.2.2.1 m.2.2.2.1 m.2.2.2.2 1048576 (fun _ _ => k0) k2 fuel (i:Int) f a = (placeRun m t (l.drop i) f a).elim k0 (fun r => k2 r.1 r.2)
 | 0,i,f,a,h1,h2,h3 => by omega
 | n + 1,i,f,a,h1,h2,h3 => by
   unfold M.place_l0 M.place_l0_step
   simp only
   rw [cLt_nat]
   by_cases hi:i < l.length
   · rw [if_pos (by simpa using hi), if_pos (by omega), within_dec _ _ _ _ (by omega), within_dec _ _ _ _ (by omega), drop_pt l i hi, toNat_nat]
     show (if (!decide (Sm (pt l i) 1048576)) = true then k0 else if (!decide (Sm (atQ m t (pt l i)) 8388608)) = true then k0 else _) = _
     by_cases hs:Sm (pt l i) 1048576
     · rw [if_neg (by simpa using hs)]
       by_cases hq:Sm (atQ m t (pt l i)) 8388608
       · rw [if_neg (by simpa using hq), if_pos (by omega), w_next (by omega)]
         have ew:placeRun m t (pt l i :: l.drop (i + 1)) f a = placeRun m t (l.drop (i + 1)) (V.on (atA m t (pt l i)) (V.on (atT m (pt l i)) f)) (a ++ [atQ m t (pt l i)]) := by
           show (if Sm (pt l i) 1048576 then _ else _) = _
           rw [if_pos hs,if_pos hq]
         rw [ew]
         exact place_l0_val l hl m t k0 k2 n (i + 1) _ _ (by omega) (by omega) (by rw [List.length_append,List.length_singleton]; omega)
       · rw [if_pos (by simpa using hq)]
         have ew:placeRun m t (pt l i :: l.drop (i + 1)) f a = none := by
           show (if Sm (pt l i) 1048576 then _ else _) = _
           rw [if_pos hs,if_neg hq]
         rw [ew]; rfl
     · rw [if_pos (by simpa using hs)]
       have ew:placeRun m t (pt l i :: l.drop (i + 1)) f a = none := by
         show (if Sm (pt l i) 1048576 then _ else _) = _
         rw [if_neg hs]
       rw [ew]; rfl
   · have : i = l.length := by omega
     subst this
     rw [if_neg (by simp)]
     simp [placeRun]
noncomputable def plcK (m:V.T9) (ax ed:List P3) (f:Bool) (a:List P3):Option (List P3 × List P3 × List P3) :=
 if (V.wy f m ax).1 = true ∧ (V.wy (V.wy f m ax).2.1 m ed).1 = true ∧ (V.wy (V.wy f m ax).2.1 m ed).2.1 = false ∧ a.length ≠ 0 then some (a,(V.wy f m ax).2.2,(V.wy (V.wy f m ax).2.1 m ed).2.2) else none
noncomputable def plcP (l ax ed:List P3) (t:V.T3) (q:V.T4):Option (List P3 × List P3 × List P3) :=
 (placeRun (V.q9 (V.tRows q)) t l (V.on (V.tRows q) false) []).elim none (fun r => plcK (V.q9 (V.tRows q)) ax ed r.1 r.2)
noncomputable def _root_.Go.Proofs.YtlagndfhibkjpaaGreat.V.plc (l ax ed:List P3) (t:V.T3) (q:V.T4):Option (List P3 × List P3 × List P3) := hid (plcP l ax ed t q)
noncomputable def _root_.Go.Proofs.YtlagndfhibkjpaaGreat.V.plG (o:Option (List P3 × List P3 × List P3)):Bool := hid o.isSome
noncomputable def _root_.Go.Proofs.YtlagndfhibkjpaaGreat.V.plP (o:Option (List P3 × List P3 × List P3)):List P3 := hid (o.getD ([],[],[])).1
noncomputable def _root_.Go.Proofs.YtlagndfhibkjpaaGreat.V.plA (o:Option (List P3 × List P3 × List P3)):List P3 := hid (o.getD ([],[],[])).2.1
noncomputable def _root_.Go.Proofs.YtlagndfhibkjpaaGreat.V.plE (o:Option (List P3 × List P3 × List P3)):List P3 := hid (o.getD ([],[],[])).2.2
theorem plK_if {α:Type} (m:V.T9) (ax ed:List P3) (f:Bool) (a:List P3) (k0:Option α) (k1:List P3 → List P3 → List P3 → Option α) :
   (if Prod.fst (V.wy f m ax) = true then
       (if Prod.fst (V.wy (Prod.fst (Prod.snd (V.wy f m ax))) m ed) = true then
           (if Prod.fst (Prod.snd (V.wy (Prod.fst (Prod.snd (V.wy f m ax))) m ed)) = true then k0
           else
             if cEq (↑(List.length a):Int) (0:Int) = true then k0
             else k1 a (V.wy f m ax).2.2 (V.wy (V.wy f m ax).2.1 m ed).2.2)
         else if Prod.fst (Prod.snd (V.wy (Prod.fst (Prod.snd (V.wy f m ax))) m ed)) = true then k0 else k0)
     else
         if Prod.fst (V.wy (Prod.fst (Prod.snd (V.wy f m ax))) m ed) = true then if Prod.fst (Prod.snd (V.wy (Prod.fst (Prod.snd (V.wy f m ax))) m ed)) = true then k0 else k0 else if Prod.fst (Prod.snd (V.wy (Prod.fst (Prod.snd (V.wy f m ax))) m ed)) = true then k0 else k0) =
   if V.plG (plcK m ax ed f a) = true then k1 (V.plP (plcK m ax ed f a)) (V.plA (plcK m ax ed f a)) (V.plE (plcK m ax ed f a)) else k0 := by
 unfold V.plG V.plP V.plA V.plE
 simp only [hid_eq]
 rw [cEq_eq]
 by_cases h1:(V.wy f m ax).1 = true
 · by_cases h2 : (V.wy (V.wy f m ax).2.1 m ed).1 = true
   · by_cases h3 : (V.wy (V.wy f m ax).2.1 m ed).2.1 = true
     · have e : plcK m ax ed f a = none := by unfold plcK; rw [if_neg (by rw [h3]; simp)]
       rw [e,if_pos h1,if_pos h2,if_pos h3]; rfl
     · by_cases h4 : a.length = 0
       · have e : plcK m ax ed f a = none := by unfold plcK; rw [if_neg (by rw [h4]; simp)]
         rw [e,if_pos h1,if_pos h2,if_neg h3,if_pos (by rw [h4]; rfl)]; rfl
       · have e : plcK m ax ed f a = some (a, (V.wy f m ax).2.2, (V.wy (V.wy f m ax).2.1 m ed).2.2) := by
           unfold plcK; rw [if_pos ⟨h1,h2,by simpa using h3,h4⟩]
         rw [e,if_pos h1,if_pos h2,if_neg h3,if_neg (by simpa using h4)]; rfl
   · have e : plcK m ax ed f a = none := by unfold plcK; rw [if_neg (fun h => h2 h.2.1)]
     rw [e,if_pos h1,if_neg h2,ite_self]; rfl
 · have e : plcK m ax ed f a = none := by unfold plcK; rw [if_neg (fun h => h1 h.1)]
   rw [e,if_neg h1,ite_self,ite_self]; rfl
theorem place_v {α:Type} (l ax ed:List P3) (r px p_y pz tw tx ty tz:Int) (h1:V.lenB l.length = true) (h2:V.lenB ax.length = true) (h3:V.lenB ed.length = true) (k0:Option α) (k1:Nat → Nat → Int → List P3 → List P3 → List P3 → Option α) :
   M.place l ax ed r px p_y pz tw tx ty tz k0 k1 = if V.plG (V.plc l ax ed (px,p_y,pz) (tw,tx,ty,tz)) = true then k1 (V.plA (V.plc l ax ed (px,p_y,pz) (tw,tx,ty,tz))).length (V.plE (V.plc l ax ed (px,p_y,pz) (tw,tx,ty,tz))).length r (V.plP (V.plc l ax ed (px,p_y,pz) (tw,tx,ty,tz))) (V.plA (V.plc l ax ed (px,p_y,pz) (tw,tx,ty,tz))) (V.plE (V.plc l ax ed (px,p_y,pz) (tw,tx,ty,tz))) else k0 := by
 unfold M.place
 simp only [if_pos h2,if_pos h3]
 refine Eq.trans (place_l0_val l (lenB_lt h1) (V.q9 (V.tRows (tw,tx,ty,tz))) (px,p_y,pz) _ _ _ 0 _ [] (by omega) (by omega) (by simp)) ?_
 rw [List.drop_zero]
 have e:V.plc l ax ed (px,p_y,pz) (tw,tx,ty,tz) = plcP l ax ed (px,p_y,pz) (tw,tx,ty,tz) := by unfold V.plc; rw [hid_eq]
 rw [e]
 unfold plcP
 cases placeRun (V.q9 (V.tRows (tw,tx,ty,tz))) (px,p_y,pz) l (V.on (V.tRows (tw,tx,ty,tz)) false) [] with
 | none => unfold V.plG; simp only [hid_eq]; rfl
 | some p => exact plK_if (V.q9 (V.tRows (tw,tx,ty,tz))) ax ed p.1 p.2 k0 (fun a b c => k1 b.length c.length r a b c)
noncomputable def place_h {α:Type} (ds:List D) (Q:SV → Hp → Option α):Option α :=
 dL kP ds fun l ds => dL kP ds fun ax ds => dL kP ds fun ed ds => dI ds fun r ds => dI ds fun px ds => dI ds fun p_y ds => dI ds fun pz ds => dI ds fun tw ds => dI ds fun tx ds => dI ds fun ty ds => dI ds fun tz ds => dE ds (if V.lenB l.length = true ∧ V.lenB ax.length = true ∧ V.lenB ed.length = true then if V.plG (V.plc l ax ed (px,p_y,pz) (tw,tx,ty,tz)) = true then Q (.tup [.agg [.sl 0,.clp 1 (.st (.i .i64) [.i .i64,.i .i64]) (V.plA (V.plc l ax ed (px,p_y,pz) (tw,tx,ty,tz))).length,.clp 2 (.st (.i .i64) [.i .i64,.i .i64]) (V.plE (V.plc l ax ed (px,p_y,pz) (tw,tx,ty,tz))).length,.int .i64 r],.bool true]) ([.seq (.st (.i .i64) [.i .i64,.i .i64]) (V.plP (V.plc l ax ed (px,p_y,pz) (tw,tx,ty,tz))) 23,.seq (.st (.i .i64) [.i .i64,.i .i64]) (V.plA (V.plc l ax ed (px,p_y,pz) (tw,tx,ty,tz))) 23,.seq (.st (.i .i64) [.i .i64,.i .i64]) (V.plE (V.plc l ax ed (px,p_y,pz) (tw,tx,ty,tz))) 23]) else Q (.tup [.agg [.sl 0,.sl 1,.sl 2,.int .i64 0],.bool false]) ([.seq (.st (.i .i64) [.i .i64,.i .i64]) [] 23,.seq (.st (.i .i64) [.i .i64,.i .i64]) [] 23,.seq (.st (.i .i64) [.i .i64,.i .i64]) [] 23]) else none)
theorem place_h_ok {α:Type}:FnOk E.P 6 (fEnt (α := α) place_sp place_h) :=
 fEntR_ok E (look_pways_ok) (exec_sound E E_ok (look_pways_ok) (place_l0_lps_ok) 400) fun ds Q r h => by
   unfold place_h at h
   obtain ⟨l,ds,rfl,h1⟩ := dL_inv h
   obtain ⟨ax,ds,rfl,h2⟩ := dL_inv h1
   obtain ⟨ed,ds,rfl,h3⟩ := dL_inv h2
   obtain ⟨r,ds,rfl,h4⟩ := dI_inv h3
   obtain ⟨px,ds,rfl,h5⟩ := dI_inv h4
   obtain ⟨p_y,ds,rfl,h6⟩ := dI_inv h5
   obtain ⟨pz,ds,rfl,h7⟩ := dI_inv h6
   obtain ⟨tw,ds,rfl,h8⟩ := dI_inv h7
   obtain ⟨tx,ds,rfl,h9⟩ := dI_inv h8
   obtain ⟨ty,ds,rfl,h10⟩ := dI_inv h9
   obtain ⟨tz,ds,rfl,h11⟩ := dI_inv h10
   obtain ⟨rfl,hE⟩ := dE_inv h11
   split at hE
   · rename_i hg
     split at hE
     · rename_i hc
       exact ⟨_,_,hE,fun vs => ⟨_,_,by kernel_rfl,(place_eq l ax ed r px p_y pz tw tx ty tz ((cellsV (vs.headD undef)).headD undef) ((cellsV (vs.headD undef)).tail.headD undef) ((cellsV (vs.headD undef)).tail.tail.headD undef) _).trans ((place_v l ax ed r px p_y pz tw tx ty tz hg.1 hg.2.1 hg.2.2 _ _).trans (if_pos hc))⟩⟩
     · rename_i hc
       exact ⟨_,_,hE,fun vs => ⟨_,_,by kernel_rfl,(place_eq l ax ed r px p_y pz tw tx ty tz ((cellsV (vs.headD undef)).headD undef) ((cellsV (vs.headD undef)).tail.headD undef) ((cellsV (vs.headD undef)).tail.tail.headD undef) _).trans ((place_v l ax ed r px p_y pz tw tx ty tz hg.1 hg.2.1 hg.2.2 _ _).trans (if_neg hc))⟩⟩
   · cases hE
noncomputable def look_place {α:Type}:LookF α := addFn 6 (fEnt place_sp place_h) look_pways
theorem look_place_ok {α:Type}:LookOk E.P (look_place (α := α)) := addFn_ok place_h_ok (look_pways_ok)
end
section
open Go
set_option maxRecDepth 20000
noncomputable def M.dsize {α:Type} (n:Int) (k0:Int → Option α):Option α := if cLt n (0:Int) = true then k0 (IntKind.wrap .i64 ((0:Int) - n)) else k0 n
theorem dsize_eq {α:Type} (n:Int) (Q:SV → Hp → Option α):callI E look_lpoints (exec E look_lpoints noLps 400) 70 ([SV.int .i64 n]) ([]) Q = M.dsize n (fun (x0:Int) => Q (SV.int .i64 x0) ([])) := by kernel_rfl
def dsize_sp:List AS := [.val (.int .i64 0)]
noncomputable def _root_.Go.Proofs.YtlagndfhibkjpaaGreat.V.dsize_r0 (n:Int):Int := if cLt n (0:Int) = true then IntKind.wrap .i64 ((0:Int) - n) else n
theorem dsize_val {α:Type} (n:Int) (k0:Int → Option α):M.dsize n k0 = k0 (V.dsize_r0 n) := by
 unfold M.dsize V.dsize_r0
 repeat' first | rfl | (split <;> rename_i h <;> first | simp only [if_pos h] | simp only [if_neg h] | skip)
noncomputable def dsize_c {α:Type} (ds:List D) (Q:SV → Hp → Option α):Option α :=
 dI ds fun n ds => dE ds (Q (SV.int .i64 (V.dsize_r0 n)) ([]))
theorem dsize_c_ok {α:Type}:FnOk E.P 70 (fEnt (α := α) dsize_sp dsize_c) :=
 fEnt_ok E (look_lpoints_ok) (exec_sound E E_ok (look_lpoints_ok) (noLps_ok _) 400) fun ds Q r h => by
   unfold dsize_c at h
   obtain ⟨n,ds,rfl,h1⟩ := dI_inv h
   obtain ⟨rfl,hE⟩ := dE_inv h1
   exact ⟨[SV.int .i64 n],[],fun vs => by kernel_rfl,(dsize_eq n Q).trans ((dsize_val n (fun (x0:Int) => Q (SV.int .i64 x0) ([]))).trans hE)⟩
noncomputable def look_dsize {α:Type}:LookF α := addFn 70 (fEnt dsize_sp dsize_c) look_lpoints
theorem look_dsize_ok {α:Type}:LookOk E.P (look_dsize (α := α)) := addFn_ok dsize_c_ok (look_lpoints_ok)
noncomputable def M.din {α:Type} (n:Int) (lo:Int) (hi:Int) (k0:Bool → Option α):Option α := if cLe lo n = true then k0 (cLe n hi) else k0 false
theorem din_eq {α:Type} (n:Int) (lo:Int) (hi:Int) (Q:SV → Hp → Option α):callI E look_dsize (exec E look_dsize noLps 400) 65 ([SV.int .i64 n,SV.int .i64 lo,SV.int .i64 hi]) ([]) Q = M.din n lo hi (fun (x1:Bool) => Q (SV.bool x1) ([])) := by kernel_rfl
def din_sp:List AS := [.val (.int .i64 0),.val (.int .i64 0),.val (.int .i64 0)]
theorem din_v {α:Type} (n lo hi:Int) (k0:Bool → Option α):M.din n lo hi k0 = k0 (V.shwithin_r0 n lo hi) := by
 unfold M.din V.shwithin_r0
 repeat' first | rfl | split
noncomputable def din_h {α:Type} (ds:List D) (Q:SV → Hp → Option α):Option α :=
 dI ds fun n ds => dI ds fun lo ds => dI ds fun hi ds => dE ds (Q (.bool (V.shwithin_r0 n lo hi)) ([]))
theorem din_h_ok {α:Type}:FnOk E.P 65 (fEnt (α := α) din_sp din_h) :=
 fEnt_ok E (look_dsize_ok) (exec_sound E E_ok (look_dsize_ok) (noLps_ok _) 400) fun ds Q r h => by
   unfold din_h at h
   obtain ⟨n,ds,rfl,h1⟩ := dI_inv h
   obtain ⟨lo,ds,rfl,h2⟩ := dI_inv h1
   obtain ⟨hi,ds,rfl,h3⟩ := dI_inv h2
   obtain ⟨rfl,hE⟩ := dE_inv h3
   exact ⟨[SV.int .i64 n,SV.int .i64 lo,SV.int .i64 hi],[],fun vs => by kernel_rfl,(din_eq n lo hi Q).trans ((din_v n lo hi _).trans hE)⟩
noncomputable def look_din {α:Type}:LookF α := addFn 65 (fEnt din_sp din_h) look_dsize
theorem look_din_ok {α:Type}:LookOk E.P (look_din (α := α)) := addFn_ok din_h_ok (look_dsize_ok)
noncomputable def M.dminus {α:Type} (ax:Int) (ay:Int) (az:Int) (bx:Int) (b_y:Int) (bz:Int) (k0:Int → Int → Int → Option α):Option α := k0 (IntKind.wrap .i64 (ax - bx)) (IntKind.wrap .i64 (ay - b_y)) (IntKind.wrap .i64 (az - bz))
theorem dminus_eq {α:Type} (ax:Int) (ay:Int) (az:Int) (bx:Int) (b_y:Int) (bz:Int) (Q:SV → Hp → Option α):callI E look_din (exec E look_din noLps 400) 34 ([SV.agg [SV.int .i64 ax,SV.int .i64 ay,SV.int .i64 az],SV.agg [SV.int .i64 bx,SV.int .i64 b_y,SV.int .i64 bz]]) ([]) Q = M.dminus ax ay az bx b_y bz (fun (x2 x3 x4:Int) => Q (SV.agg [SV.int .i64 x2,SV.int .i64 x3,SV.int .i64 x4]) ([])) := by kernel_rfl
def dminus_sp:List AS := [.val (.agg [.int .i64 0,.int .i64 0,.int .i64 0]),.val (.agg [.int .i64 0,.int .i64 0,.int .i64 0])]
noncomputable def dminus_h {α:Type} (ds:List D) (Q:SV → Hp → Option α):Option α :=
 dI ds fun ax ds => dI ds fun ay ds => dI ds fun az ds => dI ds fun bx ds => dI ds fun b_y ds => dI ds fun bz ds => dE ds (Q (.agg [.int .i64 (V.pSub (ax,ay,az) (bx,b_y,bz)).1,.int .i64 (V.pSub (ax,ay,az) (bx,b_y,bz)).2.1,.int .i64 (V.pSub (ax,ay,az) (bx,b_y,bz)).2.2]) ([]))
theorem dminus_h_ok {α:Type}:FnOk E.P 34 (fEnt (α := α) dminus_sp dminus_h) :=
 fEnt_ok E (look_din_ok) (exec_sound E E_ok (look_din_ok) (noLps_ok _) 400) fun ds Q r h => by
   unfold dminus_h at h
   obtain ⟨ax,ds,rfl,h1⟩ := dI_inv h
   obtain ⟨ay,ds,rfl,h2⟩ := dI_inv h1
   obtain ⟨az,ds,rfl,h3⟩ := dI_inv h2
   obtain ⟨bx,ds,rfl,h4⟩ := dI_inv h3
   obtain ⟨b_y,ds,rfl,h5⟩ := dI_inv h4
   obtain ⟨bz,ds,rfl,h6⟩ := dI_inv h5
   obtain ⟨rfl,hE⟩ := dE_inv h6
   exact ⟨[SV.agg [SV.int .i64 ax,SV.int .i64 ay,SV.int .i64 az],SV.agg [SV.int .i64 bx,SV.int .i64 b_y,SV.int .i64 bz]],[],fun vs => by kernel_rfl,(dminus_eq ax ay az bx b_y bz Q).trans ((rfl).trans hE)⟩
noncomputable def look_dminus {α:Type}:LookF α := addFn 34 (fEnt dminus_sp dminus_h) look_din
theorem look_dminus_ok {α:Type}:LookOk E.P (look_dminus (α := α)) := addFn_ok dminus_h_ok (look_din_ok)
noncomputable def M.dcross {α:Type} (ax:Int) (ay:Int) (az:Int) (bx:Int) (b_y:Int) (bz:Int) (k0:Int → Int → Int → Option α):Option α := k0 (IntKind.wrap .i64 (IntKind.wrap .i64 (ay * bz) - IntKind.wrap .i64 (az * b_y))) (IntKind.wrap .i64 (IntKind.wrap .i64 (az * bx) - IntKind.wrap .i64 (ax * bz))) (IntKind.wrap .i64 (IntKind.wrap .i64 (ax * b_y) - IntKind.wrap .i64 (ay * bx)))
theorem dcross_eq {α:Type} (ax:Int) (ay:Int) (az:Int) (bx:Int) (b_y:Int) (bz:Int) (Q:SV → Hp → Option α):callI E look_dminus (exec E look_dminus noLps 400) 68 ([SV.agg [SV.int .i64 ax,SV.int .i64 ay,SV.int .i64 az],SV.agg [SV.int .i64 bx,SV.int .i64 b_y,SV.int .i64 bz]]) ([]) Q = M.dcross ax ay az bx b_y bz (fun (x5 x6 x7:Int) => Q (SV.agg [SV.int .i64 x5,SV.int .i64 x6,SV.int .i64 x7]) ([])) := by kernel_rfl
def dcross_sp:List AS := [.val (.agg [.int .i64 0,.int .i64 0,.int .i64 0]),.val (.agg [.int .i64 0,.int .i64 0,.int .i64 0])]
noncomputable def dcross_h {α:Type} (ds:List D) (Q:SV → Hp → Option α):Option α :=
 dI ds fun ax ds => dI ds fun ay ds => dI ds fun az ds => dI ds fun bx ds => dI ds fun b_y ds => dI ds fun bz ds => dE ds (Q (.agg [.int .i64 (V.pCross (ax,ay,az) (bx,b_y,bz)).1,.int .i64 (V.pCross (ax,ay,az) (bx,b_y,bz)).2.1,.int .i64 (V.pCross (ax,ay,az) (bx,b_y,bz)).2.2]) ([]))
theorem dcross_h_ok {α:Type}:FnOk E.P 68 (fEnt (α := α) dcross_sp dcross_h) :=
 fEnt_ok E (look_dminus_ok) (exec_sound E E_ok (look_dminus_ok) (noLps_ok _) 400) fun ds Q r h => by
   unfold dcross_h at h
   obtain ⟨ax,ds,rfl,h1⟩ := dI_inv h
   obtain ⟨ay,ds,rfl,h2⟩ := dI_inv h1
   obtain ⟨az,ds,rfl,h3⟩ := dI_inv h2
   obtain ⟨bx,ds,rfl,h4⟩ := dI_inv h3
   obtain ⟨b_y,ds,rfl,h5⟩ := dI_inv h4
   obtain ⟨bz,ds,rfl,h6⟩ := dI_inv h5
   obtain ⟨rfl,hE⟩ := dE_inv h6
   exact ⟨[SV.agg [SV.int .i64 ax,SV.int .i64 ay,SV.int .i64 az],SV.agg [SV.int .i64 bx,SV.int .i64 b_y,SV.int .i64 bz]],[],fun vs => by kernel_rfl,(dcross_eq ax ay az bx b_y bz Q).trans ((rfl).trans hE)⟩
noncomputable def look_dcross {α:Type}:LookF α := addFn 68 (fEnt dcross_sp dcross_h) look_dminus
theorem look_dcross_ok {α:Type}:LookOk E.P (look_dcross (α := α)) := addFn_ok dcross_h_ok (look_dminus_ok)
noncomputable def M.ddot {α:Type} (ax:Int) (ay:Int) (az:Int) (bx:Int) (b_y:Int) (bz:Int) (k0:Int → Option α):Option α := k0 (IntKind.wrap .i64 (IntKind.wrap .i64 (IntKind.wrap .i64 (ax * bx) + IntKind.wrap .i64 (ay * b_y)) + IntKind.wrap .i64 (az * bz)))
theorem ddot_eq {α:Type} (ax:Int) (ay:Int) (az:Int) (bx:Int) (b_y:Int) (bz:Int) (Q:SV → Hp → Option α):callI E look_dcross (exec E look_dcross noLps 400) 67 ([SV.agg [SV.int .i64 ax,SV.int .i64 ay,SV.int .i64 az],SV.agg [SV.int .i64 bx,SV.int .i64 b_y,SV.int .i64 bz]]) ([]) Q = M.ddot ax ay az bx b_y bz (fun (x8:Int) => Q (SV.int .i64 x8) ([])) := by kernel_rfl
def ddot_sp:List AS := [.val (.agg [.int .i64 0,.int .i64 0,.int .i64 0]),.val (.agg [.int .i64 0,.int .i64 0,.int .i64 0])]
noncomputable def ddot_h {α:Type} (ds:List D) (Q:SV → Hp → Option α):Option α :=
 dI ds fun ax ds => dI ds fun ay ds => dI ds fun az ds => dI ds fun bx ds => dI ds fun b_y ds => dI ds fun bz ds => dE ds (Q (.int .i64 (V.pDot (ax,ay,az) (bx,b_y,bz))) ([]))
theorem ddot_h_ok {α:Type}:FnOk E.P 67 (fEnt (α := α) ddot_sp ddot_h) :=
 fEnt_ok E (look_dcross_ok) (exec_sound E E_ok (look_dcross_ok) (noLps_ok _) 400) fun ds Q r h => by
   unfold ddot_h at h
   obtain ⟨ax,ds,rfl,h1⟩ := dI_inv h
   obtain ⟨ay,ds,rfl,h2⟩ := dI_inv h1
   obtain ⟨az,ds,rfl,h3⟩ := dI_inv h2
   obtain ⟨bx,ds,rfl,h4⟩ := dI_inv h3
   obtain ⟨b_y,ds,rfl,h5⟩ := dI_inv h4
   obtain ⟨bz,ds,rfl,h6⟩ := dI_inv h5
   obtain ⟨rfl,hE⟩ := dE_inv h6
   exact ⟨[SV.agg [SV.int .i64 ax,SV.int .i64 ay,SV.int .i64 az],SV.agg [SV.int .i64 bx,SV.int .i64 b_y,SV.int .i64 bz]],[],fun vs => by kernel_rfl,(ddot_eq ax ay az bx b_y bz Q).trans ((rfl).trans hE)⟩
noncomputable def look_ddot {α:Type}:LookF α := addFn 67 (fEnt ddot_sp ddot_h) look_dcross
theorem look_ddot_ok {α:Type}:LookOk E.P (look_ddot (α := α)) := addFn_ok ddot_h_ok (look_dcross_ok)
noncomputable abbrev dbare_S1 (y1 y2 y3 y4 y5 y6 y7 y8 y9:Int) (y10:List Int):St := St.mk (none :: some (SV.ptr (nat_lit 0) (nat_lit 0)) :: some (SV.ptr (nat_lit 1) (nat_lit 0)) :: none :: some (SV.sl (nat_lit 2)) :: some (SV.int .i64 y1) :: some (SV.int .i64 y2) :: some (SV.int .i64 y3) :: nn 44 ([])) [.cells [SV.int .i64 y4,SV.int .i64 y5,SV.int .i64 y6] (nat_lit 23),.cells [SV.int .i64 y7,SV.int .i64 y8,SV.int .i64 y9] (nat_lit 23),.seq (K.int IntKind.i64) y10 (nat_lit 3)]
noncomputable abbrev dbare_S2 (y1 y2 y3 y4 y5 y6 y7 y8:Int) (y9:List Int):St := St.mk (none :: some (SV.ptr (nat_lit 0) (nat_lit 0)) :: some (SV.ptr (nat_lit 1) (nat_lit 0)) :: none :: some (SV.sl (nat_lit 2)) :: some (SV.int .i64 y1) :: some (SV.int .i64 y2) :: nn 45 ([])) [.cells [SV.int .i64 y3,SV.int .i64 y4,SV.int .i64 y5] (nat_lit 23),.cells [SV.int .i64 y6,SV.int .i64 y7,SV.int .i64 y8] (nat_lit 23),.seq (K.int IntKind.i64) y9 (nat_lit 3)]
noncomputable abbrev dbare_S3:St := St.mk (none :: some (SV.ptr (nat_lit 0) (nat_lit 0)) :: some (SV.ptr (nat_lit 1) (nat_lit 0)) :: none :: some (SV.sl (nat_lit 2)) :: some (SV.int .i64 (0:Int)) :: some (SV.int .i64 (0:Int)) :: some (SV.int .i64 (0:Int)) :: nn 44 ([])) [.cells [SV.int .i64 (0:Int),SV.int .i64 (0:Int),SV.int .i64 (0:Int)] (nat_lit 23),.cells [SV.int .i64 (0:Int),SV.int .i64 (0:Int),SV.int .i64 (0:Int)] (nat_lit 23),.seq (K.int IntKind.i64) [] (nat_lit 3)]
noncomputable abbrev dbare_S4 (y1 y2 y3 y4 y5 y6 y7 y8:Int) (y9:List Int):St := St.mk (none :: some (SV.ptr (nat_lit 0) (nat_lit 0)) :: some (SV.ptr (nat_lit 1) (nat_lit 0)) :: some (SV.int .i64 y1) :: some (SV.sl (nat_lit 2)) :: some (SV.int .i64 y2) :: nn 46 ([])) [.cells [SV.int .i64 y3,SV.int .i64 y4,SV.int .i64 y5] (nat_lit 23),.cells [SV.int .i64 y6,SV.int .i64 y7,SV.int .i64 y8] (nat_lit 23),.seq (K.int IntKind.i64) y9 (nat_lit 3)]
noncomputable abbrev dbare_S5 (y1 y2 y3 y4 y5 y6 y7:Int):St := St.mk (none :: some (SV.ptr (nat_lit 0) (nat_lit 0)) :: some (SV.ptr (nat_lit 1) (nat_lit 0)) :: some (SV.int .i64 y1) :: nn 48 ([])) [.cells [SV.int .i64 y2,SV.int .i64 y3,SV.int .i64 y4] (nat_lit 23),.cells [SV.int .i64 y5,SV.int .i64 y6,SV.int .i64 y7] (nat_lit 23)]
noncomputable abbrev dbare_S6:St := St.mk (none :: some (SV.ptr (nat_lit 0) (nat_lit 0)) :: some (SV.ptr (nat_lit 1) (nat_lit 0)) :: some (SV.int .i64 (0:Int)) :: some (SV.sl (nat_lit 2)) :: some (SV.int .i64 (0:Int)) :: nn 46 ([])) [.cells [SV.int .i64 (0:Int),SV.int .i64 (0:Int),SV.int .i64 (0:Int)] (nat_lit 23),.cells [SV.int .i64 (0:Int),SV.int .i64 (0:Int),SV.int .i64 (0:Int)] (nat_lit 23),.seq (K.int IntKind.i64) [] (nat_lit 3)]
abbrev dbare_P1:List Bool := [false,false,true,true,false,false,true,false,false,true,false,true,true,true]
abbrev dbare_P2:List Bool := [false,true,false,true,true,true]
noncomputable def M.dbare_l0_step {α:Type} (kn:Int → Int → Option α) (k1:Int → Option α) (x38 x39:Int):Option α := if (!cEq x39 (0:Int)) = true then if x39 = (0:Int) then none else kn x39 (Int.tmod x38 x39) else k1 x38
noncomputable def M.dbare_l0 {α:Type} (k1:Int → Option α):Nat → Int → Int → Option α
 | 0,_,_ => none
 | n + 1,x38,x39 => M.dbare_l0_step (M.dbare_l0 k1 n) k1 x38 x39
theorem dbare_l0_step_eq {α:Type} (x37 x38 x39 x40 x41 x42 x43 x44 x45:Int) (x46:List Int) (Q:Ex → St → Option α):(loopStep E (exec E look_ddot noLps 400) 69 dbare_P1 0 (codeAt E.P 69 dbare_P1)) (dbare_S1 x37 x38 x39 x40 x41 x42 x43 x44 x45 x46) Q = M.dbare_l0_step (fun (x48 x49:Int) => Q .normal (dbare_S1 x37 x48 x49 x40 x41 x42 x43 x44 x45 x46)) (fun (x47:Int) => Q (.exit 2) (dbare_S2 x37 x47 x40 x41 x42 x43 x44 x45 x46)) x38 x39 := by kernel_rfl
theorem dbare_l0_iter {α:Type} (x37 x40 x41 x42 x43 x44 x45:Int) (x46:List Int) (Q:Ex → St → Option α):∀ (n:Nat) (x38 x39:Int),iter (loopStep E (exec E look_ddot noLps 400) 69 dbare_P1 0 (codeAt E.P 69 dbare_P1)) n (dbare_S1 x37 x38 x39 x40 x41 x42 x43 x44 x45 x46) Q = M.dbare_l0 (fun (x47:Int) => Q (.exit 2) (dbare_S2 x37 x47 x40 x41 x42 x43 x44 x45 x46)) n x38 x39
 | 0,_,_ => rfl
 | n + 1,x38,x39 => (dbare_l0_step_eq x37 x38 x39 x40 x41 x42 x43 x44 x45 x46 (iterK (loopStep E (exec E look_ddot noLps 400) 69 dbare_P1 0 (codeAt E.P 69 dbare_P1)) n Q)).trans (congrArg (fun kn => M.dbare_l0_step kn (fun (x47:Int) => Q (.exit 2) (dbare_S2 x37 x47 x40 x41 x42 x43 x44 x45 x46)) x38 x39) (funext fun x38 => funext fun x39 => dbare_l0_iter x37 x40 x41 x42 x43 x44 x45 x46 Q n x38 x39))
noncomputable def dbare_l0_go {α:Type} (ds:List D) (Q:Ex → St → Option α):Option α :=
 dI ds fun x37 ds => dI ds fun x38 ds => dI ds fun x39 ds => dI ds fun x40 ds => dI ds fun x41 ds => dI ds fun x42 ds => dI ds fun x43 ds => dI ds fun x44 ds => dI ds fun x45 ds => dL (K.int IntKind.i64) ds fun x46 ds => dE ds (M.dbare_l0 (fun (x47:Int) => Q (.exit 2) (dbare_S2 x37 x47 x40 x41 x42 x43 x44 x45 x46)) (100 + x46.length) x38 x39)
theorem dbare_l0_ok {α:Type}:LoopOk E.P 69 dbare_P1 0 (lEnt (α := α) (dbare_S3) dbare_l0_go) :=
 lEnt_ok E (exec_sound E E_ok (look_ddot_ok) (noLps_ok _) 400) fun ds Q r h S hS => by
   unfold dbare_l0_go at h
   obtain ⟨x37,ds,rfl,h1⟩ := dI_inv h
   obtain ⟨x38,ds,rfl,h2⟩ := dI_inv h1
   obtain ⟨x39,ds,rfl,h3⟩ := dI_inv h2
   obtain ⟨x40,ds,rfl,h4⟩ := dI_inv h3
   obtain ⟨x41,ds,rfl,h5⟩ := dI_inv h4
   obtain ⟨x42,ds,rfl,h6⟩ := dI_inv h5
   obtain ⟨x43,ds,rfl,h7⟩ := dI_inv h6
   obtain ⟨x44,ds,rfl,h8⟩ := dI_inv h7
   obtain ⟨x45,ds,rfl,h9⟩ := dI_inv h8
   obtain ⟨x46,ds,rfl,h10⟩ := dL_inv h9
   obtain ⟨rfl,hE⟩ := dE_inv h10
   have e:fillS (dbare_S3) [.i x37,.i x38,.i x39,.i x40,.i x41,.i x42,.i x43,.i x44,.i x45,.l (K.int IntKind.i64) x46] = some (dbare_S1 x37 x38 x39 x40 x41 x42 x43 x44 x45 x46) := by kernel_rfl
   rw [e] at hS
   cases hS
   exact ⟨_,(dbare_l0_iter x37 x40 x41 x42 x43 x44 x45 x46 Q _ x38 x39).trans hE⟩
noncomputable def dbare_l0_lps {α:Type}:LookL α := addLp 69 dbare_P1 0 (lEnt (dbare_S3) dbare_l0_go) noLps
theorem dbare_l0_lps_ok {α:Type}:LoopsOk E.P (dbare_l0_lps (α := α)) := addLp_ok dbare_l0_ok (noLps_ok _)
noncomputable def M.dbare_l1_step {α:Type} (x58:List Int) (kn:Int → Int → Option α) (k1:Int → Option α) (x50 x51:Int):Option α := if cLt x51 (3:Int) = true then if (0:Int) ≤ x51 ∧ x51 < (↑(List.length x58):Int) then M.dbare_l0 (fun (x59:Int) ↦ kn x59 (IntKind.wrap .i64 (x51 + (1:Int)))) ((100:Nat) + List.length x58) x50 (List.getD x58 (Int.toNat x51) (0:Int)) else none else k1 x50
noncomputable def M.dbare_l1 {α:Type} (x58:List Int) (k1:Int → Option α):Nat → Int → Int → Option α
 | 0,_,_ => none
 | n + 1,x50,x51 => M.dbare_l1_step x58 (M.dbare_l1 x58 k1 n) k1 x50 x51
theorem dbare_l1_step_eq {α:Type} (x50 x51 x52 x53 x54 x55 x56 x57:Int) (x58:List Int) (Q:Ex → St → Option α):(loopStep E (exec E look_ddot dbare_l0_lps 400) 69 dbare_P2 0 (codeAt E.P 69 dbare_P2)) (dbare_S4 x50 x51 x52 x53 x54 x55 x56 x57 x58) Q = M.dbare_l1_step x58 (fun (x61 x62:Int) => Q .normal (dbare_S4 x61 x62 x52 x53 x54 x55 x56 x57 x58)) (fun (x60:Int) => Q (.exit 0) (dbare_S5 x60 x52 x53 x54 x55 x56 x57)) x50 x51 := by kernel_rfl
theorem dbare_l1_iter {α:Type} (x52 x53 x54 x55 x56 x57:Int) (x58:List Int) (Q:Ex → St → Option α):∀ (n:Nat) (x50 x51:Int),iter (loopStep E (exec E look_ddot dbare_l0_lps 400) 69 dbare_P2 0 (codeAt E.P 69 dbare_P2)) n (dbare_S4 x50 x51 x52 x53 x54 x55 x56 x57 x58) Q = M.dbare_l1 x58 (fun (x60:Int) => Q (.exit 0) (dbare_S5 x60 x52 x53 x54 x55 x56 x57)) n x50 x51
 | 0,_,_ => rfl
 | n + 1,x50,x51 => (dbare_l1_step_eq x50 x51 x52 x53 x54 x55 x56 x57 x58 (iterK (loopStep E (exec E look_ddot dbare_l0_lps 400) 69 dbare_P2 0 (codeAt E.P 69 dbare_P2)) n Q)).trans (congrArg (fun kn => M.dbare_l1_step x58 kn (fun (x60:Int) => Q (.exit 0) (dbare_S5 x60 x52 x53 x54 x55 x56 x57)) x50 x51) (funext fun x50 => funext fun x51 => dbare_l1_iter x52 x53 x54 x55 x56 x57 x58 Q n x50 x51))
noncomputable def dbare_l1_go {α:Type} (ds:List D) (Q:Ex → St → Option α):Option α :=
 dI ds fun x50 ds => dI ds fun x51 ds => dI ds fun x52 ds => dI ds fun x53 ds => dI ds fun x54 ds => dI ds fun x55 ds => dI ds fun x56 ds => dI ds fun x57 ds => dL (K.int IntKind.i64) ds fun x58 ds => dE ds (M.dbare_l1 x58 (fun (x60:Int) => Q (.exit 0) (dbare_S5 x60 x52 x53 x54 x55 x56 x57)) (100 + x58.length) x50 x51)
theorem dbare_l1_ok {α:Type}:LoopOk E.P 69 dbare_P2 0 (lEnt (α := α) (dbare_S6) dbare_l1_go) :=
 lEnt_ok E (exec_sound E E_ok (look_ddot_ok) (dbare_l0_lps_ok) 400) fun ds Q r h S hS => by
   unfold dbare_l1_go at h
   obtain ⟨x50,ds,rfl,h1⟩ := dI_inv h
   obtain ⟨x51,ds,rfl,h2⟩ := dI_inv h1
   obtain ⟨x52,ds,rfl,h3⟩ := dI_inv h2
   obtain ⟨x53,ds,rfl,h4⟩ := dI_inv h3
   obtain ⟨x54,ds,rfl,h5⟩ := dI_inv h4
   obtain ⟨x55,ds,rfl,h6⟩ := dI_inv h5
   obtain ⟨x56,ds,rfl,h7⟩ := dI_inv h6
   obtain ⟨x57,ds,rfl,h8⟩ := dI_inv h7
   obtain ⟨x58,ds,rfl,h9⟩ := dL_inv h8
   obtain ⟨rfl,hE⟩ := dE_inv h9
   have e:fillS (dbare_S6) [.i x50,.i x51,.i x52,.i x53,.i x54,.i x55,.i x56,.i x57,.l (K.int IntKind.i64) x58] = some (dbare_S4 x50 x51 x52 x53 x54 x55 x56 x57 x58) := by kernel_rfl
   rw [e] at hS
   cases hS
   exact ⟨_,(dbare_l1_iter x52 x53 x54 x55 x56 x57 x58 Q _ x50 x51).trans hE⟩
noncomputable def dbare_l1_lps {α:Type}:LookL α := addLp 69 dbare_P2 0 (lEnt (dbare_S6) dbare_l1_go) dbare_l0_lps
theorem dbare_l1_lps_ok {α:Type}:LoopsOk E.P (dbare_l1_lps (α := α)) := addLp_ok dbare_l1_ok (dbare_l0_lps_ok)
noncomputable def M.dbare {α:Type} (ax:Int) (ay:Int) (az:Int) (k0:Int → Int → Int → Option α):Option α := M.dbare_l1 [V.dsize_r0 ax,V.dsize_r0 ay,V.dsize_r0 az] (fun (x63:Int) ↦ if cEq x63 (0:Int) = true then k0 ax ay az else if x63 = (0:Int) then none else if x63 = (0:Int) then none else if x63 = (0:Int) then none else k0 (IntKind.wrap .i64 (Int.tdiv ax x63)) (IntKind.wrap .i64 (Int.tdiv ay x63)) (IntKind.wrap .i64 (Int.tdiv az x63))) ((100:Nat) + ((2:Nat) + (1:Nat))) (0:Int) (0:Int)
theorem dbare_eq {α:Type} (ax:Int) (ay:Int) (az:Int) (Q:SV → Hp → Option α):callI E look_ddot (exec E look_ddot dbare_l1_lps 400) 69 ([SV.agg [SV.int .i64 ax,SV.int .i64 ay,SV.int .i64 az]]) ([]) Q = M.dbare ax ay az (fun (x64 x65 x66:Int) => Q (SV.agg [SV.int .i64 x64,SV.int .i64 x65,SV.int .i64 x66]) ([])) := by kernel_rfl
def dbare_sp:List AS := [.val (.agg [.int .i64 0,.int .i64 0,.int .i64 0])]
theorem dgcd_val {α:Type} (k1:Int → Option α):∀ (k f a b:Nat),b < 2 ^ k → 2 * k + 1 ≤ f → M.dbare_l0 k1 f (a:Int) (b:Int) = k1 ((Nat.gcd a b:Nat):Int) := by
 intro k
 induction k with
 | zero =>
   intro f a b hb hf
   obtain ⟨f,rfl⟩:∃ g,f = g + 1 := ⟨f - 1,by omega⟩
   have h0:b = 0 := by simp at hb; exact hb
   subst h0
   simp [M.dbare_l0,M.dbare_l0_step,cEq_eq]
 | succ k ih =>
   intro f a b hb hf
   obtain ⟨f,rfl⟩:∃ g,f = g + 2 := ⟨f - 2,by omega⟩
   by_cases h0:b = 0
   · subst h0
     simp [M.dbare_l0,M.dbare_l0_step,cEq_eq]
   · have hbi : (b : Int) ≠ 0 := by omega
     have t1:Int.tmod (a:Int) (b:Int) = ((a % b:Nat):Int) := rfl
     by_cases h1:a % b = 0
     · have e : Nat.gcd a b = b := by rw [Nat.gcd_comm, Nat.gcd_rec, h1, Nat.gcd_zero_left]
       simp [M.dbare_l0,M.dbare_l0_step,cEq_eq,hbi,t1,h1,e,h0]
     · have h1i : ((a % b : Nat) : Int) ≠ 0 := by omega
       have t2:Int.tmod (b:Int) ((a % b:Nat):Int) = ((b % (a % b):Nat):Int) := rfl
       have hh := mod_half (Nat.pos_of_ne_zero h1) (Nat.mod_lt a (Nat.pos_of_ne_zero h0))
       have e:Nat.gcd (a % b) (b % (a % b)) = Nat.gcd a b := by rw [Nat.gcd_comm (a % b),← Nat.gcd_rec,← Nat.gcd_rec,Nat.gcd_comm]
       have hi := ih f (a % b) (b % (a % b)) (by rw [Nat.pow_succ] at hb; omega) (by omega)
       rw [e] at hi
       rw [← hi]
       show M.dbare_l0_step _ k1 _ _ = _
       unfold M.dbare_l0_step
       rw [cEq_eq,if_pos (by simpa using h0),if_neg hbi,t1]
       show M.dbare_l0_step _ k1 _ _ = _
       unfold M.dbare_l0_step
       rw [cEq_eq,if_pos (by simp only [Bool.not_eq_true',beq_eq_false_iff_ne,ne_eq]; exact h1i),if_neg h1i,t2]
theorem dsz_abs {n:Int} (h:-9223372036854775807 ≤ n ∧ n ≤ 9223372036854775807):V.dsize_r0 n = (n.natAbs:Int) := by
 unfold V.dsize_r0
 rw [cLt_eq,IntWalk.i64_in _ (by omega)]
 by_cases hn:n < 0
 · rw [if_pos (by simpa using hn)]; omega
 · rw [if_neg (by simpa using hn)]; omega
noncomputable def _root_.Go.Proofs.YtlagndfhibkjpaaGreat.V.brB (p:P3):Bool := hid (!bigP p 4398046511104)
noncomputable def _root_.Go.Proofs.YtlagndfhibkjpaaGreat.V.pBare (p:P3):P3 := hid (bareP p)
theorem brB_iff {p:P3}:V.brB p = true ↔ bigP p 4398046511104 = false := by unfold V.brB; rw [hid_eq]; simp
theorem dbare_v {α:Type} (ax ay az:Int) (hg:V.brB (ax,ay,az) = true) (k0:Int → Int → Int → Option α):M.dbare ax ay az k0 = k0 (V.pBare (ax,ay,az)).1 (V.pBare (ax,ay,az)).2.1 (V.pBare (ax,ay,az)).2.2 := by
 have hb := brB_iff.1 hg
 obtain ⟨h1,h2,h3⟩ := bigP_false hb
 simp only at h1 h2 h3
 unfold M.dbare V.pBare
 rw [hid_eq,dsz_abs (by omega),dsz_abs (by omega),dsz_abs (by omega)]
 have w0:IntKind.wrap .i64 (0 + 1) = 1 := by decide
 have w1:IntKind.wrap .i64 (1 + 1) = 2 := by decide
 have w2:IntKind.wrap .i64 (2 + 1) = 3 := by decide
 have l0:cLt (0:Int) 3 = true := by rw [cLt_eq]; decide
 have l1:cLt (1:Int) 3 = true := by rw [cLt_eq]; decide
 have l2:cLt (2:Int) 3 = true := by rw [cLt_eq]; decide
 have l3:¬ cLt (3:Int) 3 = true := by rw [cLt_eq]; decide
 have c0:(0:Int) ≤ 0 ∧ (0:Int) < ((List.length [(ax.natAbs:Int),(ay.natAbs:Int),(az.natAbs:Int)]:Nat):Int) := by simp
 have c1:(0:Int) ≤ 1 ∧ (1:Int) < ((List.length [(ax.natAbs:Int),(ay.natAbs:Int),(az.natAbs:Int)]:Nat):Int) := by simp
 have c2:(0:Int) ≤ 2 ∧ (2:Int) < ((List.length [(ax.natAbs:Int),(ay.natAbs:Int),(az.natAbs:Int)]:Nat):Int) := by simp
 rw [show (100:Nat) + (2 + 1) = 99 + 4 from rfl]
 unfold M.dbare_l1 M.dbare_l1_step
 rw [if_pos l0,if_pos c0]
 refine Eq.trans (dgcd_val _ 49 _ 0 ax.natAbs (by omega) (by simp)) ?_
 rw [w0]
 unfold M.dbare_l1 M.dbare_l1_step
 rw [if_pos l1,if_pos c1]
 refine Eq.trans (dgcd_val _ 49 _ _ ay.natAbs (by omega) (by simp)) ?_
 rw [w1]
 unfold M.dbare_l1 M.dbare_l1_step
 rw [if_pos l2,if_pos c2]
 refine Eq.trans (dgcd_val _ 49 _ _ az.natAbs (by omega) (by simp)) ?_
 rw [w2]
 unfold M.dbare_l1 M.dbare_l1_step
 have hgd:Nat.gcd (Nat.gcd ax.natAbs ay.natAbs) az.natAbs = gcd3 (ax,ay,az) := rfl
 rw [if_neg l3,Nat.gcd_zero_left,hgd]
 show (if cEq ((gcd3 (ax,ay,az):Nat):Int) 0 = true then k0 ax ay az else if ((gcd3 (ax,ay,az):Nat):Int) = 0 then none else if ((gcd3 (ax,ay,az):Nat):Int) = 0 then none else if ((gcd3 (ax,ay,az):Nat):Int) = 0 then none else k0 (IntKind.wrap .i64 (Int.tdiv ax (gcd3 (ax,ay,az)))) (IntKind.wrap .i64 (Int.tdiv ay (gcd3 (ax,ay,az)))) (IntKind.wrap .i64 (Int.tdiv az (gcd3 (ax,ay,az))))) = _
 by_cases h0:(ax,ay,az) = ((0,0,0):P3)
 · cases h0
   rw [if_pos (by rw [cEq_eq]; decide)]
   rfl
 · have hp := gcd3_pos h0
   have hq:(gcd3 (ax,ay,az):Int) ≠ 0 := by omega
   rw [if_neg (by rw [cEq_eq]; simpa using hq)]
   have hd := bigP_false (bigP_div (gcd3 (ax,ay,az)) hb)
   simp only [divP] at hd
   rw [if_neg hq,if_neg hq,if_neg hq]
   rw [IntWalk.i64_in _ (by omega),IntWalk.i64_in _ (by omega),IntWalk.i64_in _ (by omega)]
   rfl
noncomputable def dbare_h {α:Type} (ds:List D) (Q:SV → Hp → Option α):Option α :=
 dI ds fun ax ds => dI ds fun ay ds => dI ds fun az ds => dE ds (if V.brB (ax,ay,az) = true then Q (.agg [.int .i64 (V.pBare (ax,ay,az)).1,.int .i64 (V.pBare (ax,ay,az)).2.1,.int .i64 (V.pBare (ax,ay,az)).2.2]) ([]) else none)
theorem dbare_h_ok {α:Type}:FnOk E.P 69 (fEnt (α := α) dbare_sp dbare_h) :=
 fEnt_ok E (look_ddot_ok) (exec_sound E E_ok (look_ddot_ok) (dbare_l1_lps_ok) 400) fun ds Q r h => by
   unfold dbare_h at h
   obtain ⟨ax,ds,rfl,h1⟩ := dI_inv h
   obtain ⟨ay,ds,rfl,h2⟩ := dI_inv h1
   obtain ⟨az,ds,rfl,h3⟩ := dI_inv h2
   obtain ⟨rfl,hE⟩ := dE_inv h3
   split at hE
   · rename_i hg
     exact ⟨[SV.agg [SV.int .i64 ax,SV.int .i64 ay,SV.int .i64 az]],[],fun vs => by kernel_rfl,(dbare_eq ax ay az Q).trans ((dbare_v ax ay az hg _).trans hE)⟩
   · cases hE
noncomputable def look_dbare {α:Type}:LookF α := addFn 69 (fEnt dbare_sp dbare_h) look_ddot
theorem look_dbare_ok {α:Type}:LookOk E.P (look_dbare (α := α)) := addFn_ok dbare_h_ok (look_ddot_ok)
end
section
open Go
set_option maxRecDepth 20000
noncomputable abbrev dshort_S1 (y1 y2 y3 y4 y5 y6:Int):St := St.mk (none :: none :: some (SV.ptr (nat_lit 0) (nat_lit 0)) :: some (SV.ptr (nat_lit 1) (nat_lit 0)) :: nn 47 ([])) [.cells [SV.int .i64 y1,SV.int .i64 y2,SV.int .i64 y3] (nat_lit 23),.cells [SV.int .i64 y4,SV.int .i64 y5,SV.int .i64 y6] (nat_lit 23)]
noncomputable abbrev dshort_S2:St := St.mk (none :: none :: some (SV.ptr (nat_lit 0) (nat_lit 0)) :: some (SV.ptr (nat_lit 1) (nat_lit 0)) :: nn 47 ([])) [.cells [SV.int .i64 (0:Int),SV.int .i64 (0:Int),SV.int .i64 (0:Int)] (nat_lit 23),.cells [SV.int .i64 (0:Int),SV.int .i64 (0:Int),SV.int .i64 (0:Int)] (nat_lit 23)]
noncomputable def M.dshort_l0_step {α:Type} (kn:Int → Int → Int → Option α) (k1:Int → Int → Int → Option α) (x9 x10 x11:Int):Option α := if cLt (1048576:Int) (V.dsize_r0 x9) = true then kn (IntKind.wrap .i64 (Int.tdiv x9 (2:Int))) (IntKind.wrap .i64 (Int.tdiv x10 (2:Int))) (IntKind.wrap .i64 (Int.tdiv x11 (2:Int))) else if cLt (1048576:Int) (V.dsize_r0 x10) = true then kn (IntKind.wrap .i64 (Int.tdiv x9 (2:Int))) (IntKind.wrap .i64 (Int.tdiv x10 (2:Int))) (IntKind.wrap .i64 (Int.tdiv x11 (2:Int))) else if cLt (1048576:Int) (V.dsize_r0 x11) = true then kn (IntKind.wrap .i64 (Int.tdiv x9 (2:Int))) (IntKind.wrap .i64 (Int.tdiv x10 (2:Int))) (IntKind.wrap .i64 (Int.tdiv x11 (2:Int))) else k1 x9 x10 x11
noncomputable def M.dshort_l0 {α:Type} (k1:Int → Int → Int → Option α):Nat → Int → Int → Int → Option α
 | 0,_,_,_ => none
 | n + 1,x9,x10,x11 => M.dshort_l0_step (M.dshort_l0 k1 n) k1 x9 x10 x11
theorem dshort_l0_step_eq {α:Type} (x6 x7 x8 x9 x10 x11:Int) (Q:Ex → St → Option α):(loopStep E (exec E look_dbare noLps 400) 32 [false,false,true,true,true] 0 (codeAt E.P 32 [false,false,true,true,true])) (dshort_S1 x6 x7 x8 x9 x10 x11) Q = M.dshort_l0_step (fun (x15 x16 x17:Int) => Q .normal (dshort_S1 x6 x7 x8 x15 x16 x17)) (fun (x12 x13 x14:Int) => Q (.exit 0) (dshort_S1 x6 x7 x8 x12 x13 x14)) x9 x10 x11 := by kernel_rfl
theorem dshort_l0_iter {α:Type} (x6 x7 x8:Int) (Q:Ex → St → Option α):∀ (n:Nat) (x9 x10 x11:Int),iter (loopStep E (exec E look_dbare noLps 400) 32 [false,false,true,true,true] 0 (codeAt E.P 32 [false,false,true,true,true])) n (dshort_S1 x6 x7 x8 x9 x10 x11) Q = M.dshort_l0 (fun (x12 x13 x14:Int) => Q (.exit 0) (dshort_S1 x6 x7 x8 x12 x13 x14)) n x9 x10 x11
 | 0,_,_,_ => rfl
 | n + 1,x9,x10,x11 => (dshort_l0_step_eq x6 x7 x8 x9 x10 x11 (iterK (loopStep E (exec E look_dbare noLps 400) 32 [false,false,true,true,true] 0 (codeAt E.P 32 [false,false,true,true,true])) n Q)).trans (congrArg (fun kn => M.dshort_l0_step kn (fun (x12 x13 x14:Int) => Q (.exit 0) (dshort_S1 x6 x7 x8 x12 x13 x14)) x9 x10 x11) (funext fun x9 => funext fun x10 => funext fun x11 => dshort_l0_iter x6 x7 x8 Q n x9 x10 x11))
noncomputable def dshort_l0_go {α:Type} (ds:List D) (Q:Ex → St → Option α):Option α :=
 dI ds fun x6 ds => dI ds fun x7 ds => dI ds fun x8 ds => dI ds fun x9 ds => dI ds fun x10 ds => dI ds fun x11 ds => dE ds (M.dshort_l0 (fun (x12 x13 x14:Int) => Q (.exit 0) (dshort_S1 x6 x7 x8 x12 x13 x14)) (100) x9 x10 x11)
theorem dshort_l0_ok {α:Type}:LoopOk E.P 32 [false,false,true,true,true] 0 (lEnt (α := α) (dshort_S2) dshort_l0_go) :=
 lEnt_ok E (exec_sound E E_ok (look_dbare_ok) (noLps_ok _) 400) fun ds Q r h S hS => by
   unfold dshort_l0_go at h
   obtain ⟨x6,ds,rfl,h1⟩ := dI_inv h
   obtain ⟨x7,ds,rfl,h2⟩ := dI_inv h1
   obtain ⟨x8,ds,rfl,h3⟩ := dI_inv h2
   obtain ⟨x9,ds,rfl,h4⟩ := dI_inv h3
   obtain ⟨x10,ds,rfl,h5⟩ := dI_inv h4
   obtain ⟨x11,ds,rfl,h6⟩ := dI_inv h5
   obtain ⟨rfl,hE⟩ := dE_inv h6
   have e:fillS (dshort_S2) [.i x6,.i x7,.i x8,.i x9,.i x10,.i x11] = some (dshort_S1 x6 x7 x8 x9 x10 x11) := by kernel_rfl
   rw [e] at hS
   cases hS
   exact ⟨_,(dshort_l0_iter x6 x7 x8 Q _ x9 x10 x11).trans hE⟩
noncomputable def dshort_l0_lps {α:Type}:LookL α := addLp 32 [false,false,true,true,true] 0 (lEnt (dshort_S2) dshort_l0_go) noLps
theorem dshort_l0_lps_ok {α:Type}:LoopsOk E.P (dshort_l0_lps (α := α)) := addLp_ok dshort_l0_ok (noLps_ok _)
noncomputable def M.dshort {α:Type} (ax:Int) (ay:Int) (az:Int) (k0:Int → Int → Int → Option α):Option α := if (!V.shwithin_r0 ax (-4398046511104:Int) (4398046511104:Int)) = true then k0 (0:Int) (0:Int) (0:Int) else if (!V.shwithin_r0 ay (-4398046511104:Int) (4398046511104:Int)) = true then k0 (0:Int) (0:Int) (0:Int) else if (!V.shwithin_r0 az (-4398046511104:Int) (4398046511104:Int)) = true then k0 (0:Int) (0:Int) (0:Int) else if V.brB (ax,ay,az) = true then M.dshort_l0 (fun (x18 x19 x20:Int) ↦ if V.brB (x18,x19,x20) = true then k0 (Prod.fst (V.pBare (x18,x19,x20))) (Prod.fst (Prod.snd (V.pBare (x18,x19,x20)))) (Prod.snd (Prod.snd (V.pBare (x18,x19,x20)))) else none) (100:Nat) (Prod.fst (V.pBare (ax,ay,az))) (Prod.fst (Prod.snd (V.pBare (ax,ay,az)))) (Prod.snd (Prod.snd (V.pBare (ax,ay,az)))) else none
theorem dshort_eq {α:Type} (ax:Int) (ay:Int) (az:Int) (Q:SV → Hp → Option α):callI E look_dbare (exec E look_dbare dshort_l0_lps 400) 32 ([SV.agg [SV.int .i64 ax,SV.int .i64 ay,SV.int .i64 az]]) ([]) Q = M.dshort ax ay az (fun (x21 x22 x23:Int) => Q (SV.agg [SV.int .i64 x21,SV.int .i64 x22,SV.int .i64 x23]) ([])) := by kernel_rfl
def dshort_sp:List AS := [.val (.agg [.int .i64 0,.int .i64 0,.int .i64 0])]
theorem bigP_abs (p:P3) (n:Nat):bigP p (n:Int) = (decide ((n:Int) < (p.1.natAbs:Int)) || (decide ((n:Int) < (p.2.1.natAbs:Int)) || decide ((n:Int) < (p.2.2.natAbs:Int)))) := by
 rw [Bool.eq_iff_iff]
 simp only [bigP,Bool.or_eq_true,decide_eq_true_eq]
 omega
theorem dshort_l0_val {α:Type} (k1:Int → Int → Int → Option α):∀ (k fuel:Nat) (p:P3),bigP p (lim k) = false → bigP p 4398046511104 = false → k < fuel →
   M.dshort_l0 k1 fuel p.1 p.2.1 p.2.2 = k1 (shrinkP k p).1 (shrinkP k p).2.1 (shrinkP k p).2.2
 | k,0,p,h,h2,h3 => by omega
 | k,f + 1,p,h,h2,h3 => by
   unfold M.dshort_l0 M.dshort_l0_step
   have h4 := bigP_false h2
   have h5 := bigP_false (bigP_div 2 h2)
   simp only [divP] at h5
   rw [dsz_abs (by omega),dsz_abs (by omega),dsz_abs (by omega),IntWalk.i64_in _ (by omega:-9223372036854775808 ≤ Int.tdiv p.1 2 ∧ _),IntWalk.i64_in _ (by omega:-9223372036854775808 ≤ Int.tdiv p.2.1 2 ∧ _),IntWalk.i64_in _ (by omega:-9223372036854775808 ≤ Int.tdiv p.2.2 2 ∧ _)]
   simp only [cLt_eq]
   have hb := bigP_abs p 1048576
   simp only [Int.cast_ofNat_Int] at hb
   have step:∀ (X Y:Option α),(if decide ((1048576:Int) < (p.1.natAbs:Int)) = true then X else if decide ((1048576:Int) < (p.2.1.natAbs:Int)) = true then X else if decide ((1048576:Int) < (p.2.2.natAbs:Int)) = true then X else Y) = if bigP p 1048576 = true then X else Y := by
     intro X Y
     rw [show bigP p 1048576 = (decide ((1048576:Int) < (p.1.natAbs:Int)) || (decide ((1048576:Int) < (p.2.1.natAbs:Int)) || decide ((1048576:Int) < (p.2.2.natAbs:Int)))) from hb]
     cases decide ((1048576:Int) < (p.1.natAbs:Int)) <;> cases decide ((1048576:Int) < (p.2.1.natAbs:Int)) <;> cases decide ((1048576:Int) < (p.2.2.natAbs:Int)) <;> rfl
   rw [step]
   by_cases hb:bigP p 1048576 = true
   · rw [if_pos hb]
     cases k with
     | zero => exact absurd hb (by rw [← lim_zero,h]; decide)
     | succ k =>
       have ih := dshort_l0_val k1 k f (divP p 2) (halved h) (bigP_div 2 h2) (by omega)
       have e:shrinkP (k + 1) p = shrinkP k (divP p 2) := by simp [shrinkP,hb]
       rw [e,← ih]
       rfl
   · rw [if_neg hb,shrink_stop k (by simpa using hb)]
theorem dshort_v {α:Type} (ax ay az:Int) (k0:Int → Int → Int → Option α):M.dshort ax ay az k0 = k0 (V.pShort (ax,ay,az)).1 (V.pShort (ax,ay,az)).2.1 (V.pShort (ax,ay,az)).2.2 := by
 unfold M.dshort V.pShort
 rw [hid_eq]
 simp only [within_eq]
 unfold shortP
 by_cases h1:bigP (ax,ay,az) 4398046511104 = true
 · rw [if_pos h1]
   have:¬ (inZ ax (-4398046511104) 4398046511104 = true ∧ inZ ay (-4398046511104) 4398046511104 = true ∧ inZ az (-4398046511104) 4398046511104 = true) := by
     simp [bigP] at h1; simp [inZ]; omega
   cases a:inZ ax (-4398046511104) 4398046511104 <;> cases b:inZ ay (-4398046511104) 4398046511104 <;> cases c:inZ az (-4398046511104) 4398046511104 <;> simp_all
 · have h1' : bigP (ax, ay, az) 4398046511104 = false := by simpa using h1
   have hf := bigP_false h1'
   simp only at hf
   have a:inZ ax (-4398046511104) 4398046511104 = true := by simp [inZ]; omega
   have b:inZ ay (-4398046511104) 4398046511104 = true := by simp [inZ]; omega
   have c:inZ az (-4398046511104) 4398046511104 = true := by simp [inZ]; omega
   rw [a,b,c,if_neg (by decide),if_neg (by decide),if_neg (by decide),if_neg h1,if_pos (brB_iff.2 h1')]
   have hs:bigP (bareP (ax,ay,az)) 4398046511104 = false := bigP_div _ h1'
   have e0:V.pBare (ax,ay,az) = bareP (ax,ay,az) := hid_eq _
   rw [e0]
   have hl := dshort_l0_val (fun (x21 x22 x23:Int) => if V.brB (x21,x22,x23) = true then k0 (V.pBare (x21,x22,x23)).1 (V.pBare (x21,x22,x23)).2.1 (V.pBare (x21,x22,x23)).2.2 else none) 64 100 (bareP (ax,ay,az)) (by
     have := bigP_false hs
     apply bigP_eq_false
     have e := lim_64
     omega) hs (by omega)
   refine Eq.trans hl ?_
   have e1:V.pBare (shrinkP 64 (bareP (ax,ay,az))) = bareP (shrinkP 64 (bareP (ax,ay,az))) := hid_eq _
   show (if V.brB (shrinkP 64 (bareP (ax,ay,az))) = true then k0 (V.pBare (shrinkP 64 (bareP (ax,ay,az)))).1 (V.pBare (shrinkP 64 (bareP (ax,ay,az)))).2.1 (V.pBare (shrinkP 64 (bareP (ax,ay,az)))).2.2 else none) = _
   rw [if_pos (brB_iff.2 (shrink_big _ _ _ hs)),e1]
noncomputable def dshort_h {α:Type} (ds:List D) (Q:SV → Hp → Option α):Option α :=
 dI ds fun ax ds => dI ds fun ay ds => dI ds fun az ds => dE ds (Q (.agg [.int .i64 (V.pShort (ax,ay,az)).1,.int .i64 (V.pShort (ax,ay,az)).2.1,.int .i64 (V.pShort (ax,ay,az)).2.2]) ([]))
theorem dshort_h_ok {α:Type}:FnOk E.P 32 (fEnt (α := α) dshort_sp dshort_h) :=
 fEnt_ok E (look_dbare_ok) (exec_sound E E_ok (look_dbare_ok) (dshort_l0_lps_ok) 400) fun ds Q r h => by
   unfold dshort_h at h
   obtain ⟨ax,ds,rfl,h1⟩ := dI_inv h
   obtain ⟨ay,ds,rfl,h2⟩ := dI_inv h1
   obtain ⟨az,ds,rfl,h3⟩ := dI_inv h2
   obtain ⟨rfl,hE⟩ := dE_inv h3
   exact ⟨[SV.agg [SV.int .i64 ax,SV.int .i64 ay,SV.int .i64 az]],[],fun vs => by kernel_rfl,(dshort_eq ax ay az Q).trans ((dshort_v ax ay az _).trans hE)⟩
noncomputable def look_dshort {α:Type}:LookF α := addFn 32 (fEnt dshort_sp dshort_h) look_dbare
theorem look_dshort_ok {α:Type}:LookOk E.P (look_dshort (α := α)) := addFn_ok dshort_h_ok (look_dbare_ok)
end
section
open Go
set_option maxRecDepth 20000
def val:List Int → Int
 | [] => 0
 | d :: ds => d + 16777216 * val ds
def okD:List Int → Bool
 | [] => true
 | d :: ds => (decide (0 ≤ d) && decide (d < 16777216)) && okD ds
def _root_.Go.Proofs.YtlagndfhibkjpaaGreat.V.ok8 (D:List Int):Bool := D.length == 8 && okD D
theorem okD_cons {d:Int} {ds:List Int}:okD (d :: ds) = true ↔ (0 ≤ d ∧ d < 16777216) ∧ okD ds = true := by simp [okD]
theorem okD_append {l m:List Int}:okD (l ++ m) = true ↔ okD l = true ∧ okD m = true := by
 induction l with
 | nil => simp [okD]
 | cons d l ih => rw [List.cons_append,okD_cons,okD_cons,ih]; exact ⟨fun ⟨a,b,c⟩ => ⟨⟨a,b⟩,c⟩,fun ⟨⟨a,b⟩,c⟩ => ⟨a,b,c⟩⟩
theorem pB (n:Nat):(0:Int) < 16777216 ^ n := Int.pow_pos (by decide)
theorem pB1 (n:Nat):(16777216:Int) ^ (n + 1) = 16777216 * 16777216 ^ n := by rw [Int.pow_succ,Int.mul_comm]
theorem val_bound:∀ {D:List Int},okD D = true → 0 ≤ val D ∧ val D < 16777216 ^ D.length
 | [],_ => by simp [val]
 | d :: ds,h => by
   rw [okD_cons] at h
   have := val_bound h.2
   rw [List.length_cons,pB1]
   unfold val
   omega
theorem val_append:∀ (l m:List Int),val (l ++ m) = val l + 16777216 ^ l.length * val m
 | [],m => by simp [val]
 | d :: l,m => by
   rw [List.cons_append,val,val,val_append l m,List.length_cons,pB1]; grind
theorem okD_take {D:List Int} (h:okD D = true) (n:Nat):okD (D.take n) = true := by
 rw [← List.take_append_drop n D,okD_append] at h; exact h.1
theorem okD_drop {D:List Int} (h:okD D = true) (n:Nat):okD (D.drop n) = true := by
 rw [← List.take_append_drop n D,okD_append] at h; exact h.2
theorem okD_get:∀ {D:List Int},okD D = true → ∀ i,0 ≤ D.getD i 0 ∧ D.getD i 0 < 16777216
 | [],_,i => by simp
 | d :: ds,h,0 => by rw [okD_cons] at h; simpa using h.1
 | d :: ds,h,i + 1 => by rw [okD_cons] at h; simpa using okD_get h.2 i
theorem mod_split (a b M:Int) (hM:0 < M):(a + 16777216 * b) % (16777216 * M) = a % 16777216 + 16777216 * ((b + a / 16777216) % M) := by
 have e1:a + 16777216 * b = (a % 16777216 + 16777216 * ((b + a / 16777216) % M)) + 16777216 * M * ((b + a / 16777216) / M) := by
   have h1:16777216 * (a / 16777216) + a % 16777216 = a := Int.mul_ediv_add_emod a 16777216
   have h2:M * ((b + a / 16777216) / M) + (b + a / 16777216) % M = b + a / 16777216 := Int.mul_ediv_add_emod _ M
   grind
 rw [e1,Int.add_mul_emod_self_left]
 apply Int.emod_eq_of_lt
 · have := Int.emod_nonneg (b + a / 16777216) (show M ≠ 0 by omega)
   omega
 · have := Int.emod_lt_of_pos (b + a / 16777216) hM
   have h3:16777216 * ((b + a / 16777216) % M + 1) ≤ 16777216 * M := by omega
   omega
theorem take_set_succ {o:List Int} {i:Nat} (x:Int) (h:i < o.length):(o.set i x).take (i + 1) = o.take i ++ [x] := by
 rw [List.take_add_one]
 simp [h,List.take_set_of_le]
theorem drop_set_succ {o:List Int} {i:Nat} (x:Int):(o.set i x).drop (i + 1) = o.drop (i + 1) := by
 rw [List.drop_set_of_lt (by omega)]
noncomputable abbrev of_S1 (y1 y2:Int) (y3:Bool) (y4:List Int) (y5:Bool) (y6:List Int):St := St.mk (none :: none :: some (SV.ptr (nat_lit 0) (nat_lit 0)) :: some (SV.ptr (nat_lit 1) (nat_lit 0)) :: some (SV.int IntKind.u64 y1) :: some (SV.int .i64 y2) :: nn 22 ([])) [.cells [SV.bool y3,SV.arr (K.int IntKind.i64) y4 (nat_lit 8)] (nat_lit 115),.cells [SV.bool y5,SV.arr (K.int IntKind.i64) y6 (nat_lit 8)] (nat_lit 115)]
noncomputable abbrev of_S2 (y1:Bool) (y2:List Int) (y3:Bool) (y4:List Int):St := St.mk (none :: none :: some (SV.ptr (nat_lit 0) (nat_lit 0)) :: some (SV.ptr (nat_lit 1) (nat_lit 0)) :: nn 24 ([])) [.cells [SV.bool y1,SV.arr (K.int IntKind.i64) y2 (nat_lit 8)] (nat_lit 115),.cells [SV.bool y3,SV.arr (K.int IntKind.i64) y4 (nat_lit 8)] (nat_lit 115)]
noncomputable abbrev of_S3:St := St.mk (none :: none :: some (SV.ptr (nat_lit 0) (nat_lit 0)) :: some (SV.ptr (nat_lit 1) (nat_lit 0)) :: some (SV.int IntKind.u64 (0:Int)) :: some (SV.int .i64 (0:Int)) :: nn 22 ([])) [.cells [SV.bool false,SV.arr (K.int IntKind.i64) [] (nat_lit 8)] (nat_lit 115),.cells [SV.bool false,SV.arr (K.int IntKind.i64) [] (nat_lit 8)] (nat_lit 115)]
abbrev of_P1:List Bool := [false,true,false,true,true,true,true,true]
noncomputable def M.of_l0_step {α:Type} (kn:Int → Int → List Int → Option α) (k1:List Int → Option α) (x6 x7:Int) (x11:List Int):Option α := if cLt x7 (8:Int) = true then if (0:Int) ≤ x7 ∧ x7 < (8:Int) then kn (IntKind.wrap IntKind.u64 (Int.tdiv x6 (16777216:Int))) (IntKind.wrap .i64 (x7 + (1:Int))) (List.set x11 (Int.toNat x7) (IntKind.wrap .i64 (Int.tmod x6 (16777216:Int)))) else none else k1 x11
noncomputable def M.of_l0 {α:Type} (k1:List Int → Option α):Nat → Int → Int → List Int → Option α
 | 0,_,_,_ => none
 | n + 1,x6,x7,x11 => M.of_l0_step (M.of_l0 k1 n) k1 x6 x7 x11
theorem of_l0_step_eq {α:Type} (x6 x7:Int) (x8:Bool) (x9:List Int) (x10:Bool) (x11:List Int) (Q:Ex → St → Option α):(loopStep E (exec E look_rgreat noLps 400) 95 of_P1 0 (codeAt E.P 95 of_P1)) (of_S1 x6 x7 x8 x9 x10 x11) Q = M.of_l0_step (fun (x13 x14:Int) (x15:List Int) => Q .normal (of_S1 x13 x14 x8 x9 x10 x15)) (fun (x12:List Int) => Q (.exit 0) (of_S2 x8 x9 x10 x12)) x6 x7 x11 := by kernel_rfl
theorem of_l0_iter {α:Type} (x8:Bool) (x9:List Int) (x10:Bool) (Q:Ex → St → Option α):∀ (n:Nat) (x6 x7:Int) (x11:List Int),iter (loopStep E (exec E look_rgreat noLps 400) 95 of_P1 0 (codeAt E.P 95 of_P1)) n (of_S1 x6 x7 x8 x9 x10 x11) Q = M.of_l0 (fun (x12:List Int) => Q (.exit 0) (of_S2 x8 x9 x10 x12)) n x6 x7 x11
 | 0,_,_,_ => rfl
 | n + 1,x6,x7,x11 => (of_l0_step_eq x6 x7 x8 x9 x10 x11 (iterK (loopStep E (exec E look_rgreat noLps 400) 95 of_P1 0 (codeAt E.P 95 of_P1)) n Q)).trans (congrArg (fun kn => M.of_l0_step kn (fun (x12:List Int) => Q (.exit 0) (of_S2 x8 x9 x10 x12)) x6 x7 x11) (funext fun x6 => funext fun x7 => funext fun x11 => of_l0_iter x8 x9 x10 Q n x6 x7 x11))
noncomputable def of_l0_go {α:Type} (ds:List D) (Q:Ex → St → Option α):Option α :=
 dI ds fun x6 ds => dI ds fun x7 ds => dB ds fun x8 ds => dL (K.int IntKind.i64) ds fun x9 ds => dB ds fun x10 ds => dL (K.int IntKind.i64) ds fun x11 ds => dE ds (M.of_l0 (fun (x12:List Int) => Q (.exit 0) (of_S2 x8 x9 x10 x12)) (100 + x9.length + x11.length) x6 x7 x11)
theorem of_l0_ok {α:Type}:LoopOk E.P 95 of_P1 0 (lEnt (α := α) (of_S3) of_l0_go) :=
 lEnt_ok E (exec_sound E E_ok (look_rgreat_ok) (noLps_ok _) 400) fun ds Q r h S hS => by
   unfold of_l0_go at h
   obtain ⟨x6,ds,rfl,h1⟩ := dI_inv h
   obtain ⟨x7,ds,rfl,h2⟩ := dI_inv h1
   obtain ⟨x8,ds,rfl,h3⟩ := dB_inv h2
   obtain ⟨x9,ds,rfl,h4⟩ := dL_inv h3
   obtain ⟨x10,ds,rfl,h5⟩ := dB_inv h4
   obtain ⟨x11,ds,rfl,h6⟩ := dL_inv h5
   obtain ⟨rfl,hE⟩ := dE_inv h6
   have e:fillS (of_S3) [.i x6,.i x7,.b x8,.l (K.int IntKind.i64) x9,.b x10,.l (K.int IntKind.i64) x11] = some (of_S1 x6 x7 x8 x9 x10 x11) := by kernel_rfl
   rw [e] at hS
   cases hS
   exact ⟨_,(of_l0_iter x8 x9 x10 Q _ x6 x7 x11).trans hE⟩
noncomputable def of_l0_lps {α:Type}:LookL α := addLp 95 of_P1 0 (lEnt (of_S3) of_l0_go) noLps
theorem of_l0_lps_ok {α:Type}:LoopsOk E.P (of_l0_lps (α := α)) := addLp_ok of_l0_ok (noLps_ok _)
noncomputable def M.of {α:Type} (n:Int) (k0:Bool → List Int → Option α):Option α := if cLt n (0:Int) = true then M.of_l0 (fun (x16:List Int) ↦ k0 (cLt n (0:Int)) x16) (116:Nat) (IntKind.wrap IntKind.u64 ((0:Int) - IntKind.wrap IntKind.u64 n)) (0:Int) (List.replicate (8:Nat) (0:Int)) else M.of_l0 (fun (x17:List Int) ↦ k0 (cLt n (0:Int)) x17) (116:Nat) (IntKind.wrap IntKind.u64 n) (0:Int) (List.replicate (8:Nat) (0:Int))
theorem of_eq {α:Type} (n:Int) (Q:SV → Hp → Option α):callI E look_rgreat (exec E look_rgreat of_l0_lps 400) 95 ([SV.int .i64 n]) ([]) Q = M.of n (fun (x18:Bool) (x19:List Int) => Q (SV.agg [SV.bool x18,SV.arr (K.int IntKind.i64) x19 (nat_lit 8)]) ([])) := by kernel_rfl
def of_sp:List AS := [.val (.int .i64 0)]
def ofD:Nat → Int → List Int
 | 0,_ => []
 | k + 1,u => u % 16777216 :: ofD k (u / 16777216)
theorem ofD_len:∀ (k:Nat) (u:Int),(ofD k u).length = k
 | 0,_ => rfl
 | k + 1,u => by simp [ofD,ofD_len k]
theorem ofD_ok:∀ (k:Nat) (u:Int),okD (ofD k u) = true
 | 0,_ => rfl
 | k + 1,u => by rw [ofD,okD_cons]; exact ⟨by omega,ofD_ok k _⟩
theorem ofD_val:∀ (k:Nat) (u:Int),val (ofD k u) = u % 16777216 ^ k
 | 0,u => by simp [ofD,val]
 | k + 1,u => by
   rw [ofD,val,ofD_val k,pB1]
   have := mod_split u 0 (16777216 ^ k) (pB k)
   simp only [Int.mul_zero,Int.add_zero,Int.zero_add] at this
   rw [this]
theorem of_l0_val {α:Type} (k1:List Int → Option α):∀ (fuel i:Nat) (u:Int) (o:List Int),i ≤ 8 → 8 - i < fuel → o.length = 8 → 0 ≤ u → u < 18446744073709551616 →
   M.of_l0 k1 fuel u (i:Int) o = k1 (o.take i ++ ofD (8 - i) u)
 | 0,i,u,o,h1,h2,_,_,_ => by omega
 | n + 1,i,u,o,h1,h2,ho,hu0,hu1 => by
   unfold M.of_l0 M.of_l0_step
   rw [cLt_eq]
   by_cases hi:i < 8
   · have c1 : (i : Int) < 8 := by omega
     have c2:(0:Int) ≤ (i:Int) := by omega
     simp only [c1,c2,decide_true,if_true,and_self]
     rw [Int.tdiv_eq_ediv_of_nonneg hu0,Int.tmod_eq_emod_of_nonneg hu0,u64_in' (by omega) (by omega),IntWalk.i64_in ((i:Int) + 1) (by omega),IntWalk.i64_in (u % 16777216) (by omega)]
     have := of_l0_val k1 n (i + 1) (u / 16777216) (o.set i (u % 16777216)) (by omega) (by omega) (by simpa using ho) (by omega) (by omega)
     push_cast at this
     rw [Int.toNat_natCast,this,take_set_succ _ (by omega)]
     rw [show 8 - i = (7 - i) + 1 by omega,ofD,List.append_assoc,List.singleton_append]
   · have : i = 8 := by omega
     subst this
     have e:¬ ((8:Nat):Int) < 8 := by omega
     simp only [e,decide_false,Bool.false_eq_true,if_false,Nat.sub_self,ofD,List.append_nil]
     rw [List.take_of_length_le (by omega)]
def _root_.Go.Proofs.YtlagndfhibkjpaaGreat.V.ofN (n:Int):List Int := ofD 8 (if n < 0 then -n else n)
theorem of_v {α:Type} (n:Int) (h:-9223372036854775808 ≤ n ∧ n < 9223372036854775808) (k0:Bool → List Int → Option α):M.of n k0 = k0 (decide (n < 0)) (V.ofN n) := by
 unfold M.of V.ofN
 rw [cLt_eq]
 have len:(List.replicate 8 (0:Int)).length = 8 := rfl
 by_cases hn:n < 0
 · have e : IntKind.wrap .u64 (0 - IntKind.wrap .u64 n) = -n := by simp only [IntKind.wrap_u64]; omega
   simp only [hn,decide_true,if_true]
   have := of_l0_val (fun x => k0 true x) 116 0 (-n) (List.replicate 8 0) (by omega) (by omega) len (by omega) (by omega)
   rw [Int.natCast_zero] at this
   rw [e,this]; rfl
 · have e : IntKind.wrap .u64 n = n := u64_in' (by omega) (by omega)
   simp only [hn,decide_false,Bool.false_eq_true,if_false]
   have := of_l0_val (fun x => k0 false x) 116 0 n (List.replicate 8 0) (by omega) (by omega) len (by omega) (by omega)
   rw [Int.natCast_zero] at this
   rw [e,this]; rfl
theorem ofN_ok (n:Int):V.ok8 (V.ofN n) = true := by unfold V.ok8 V.ofN; rw [ofD_len,ofD_ok]; rfl
theorem ofN_val {n:Int} (h:-9223372036854775808 ≤ n ∧ n < 9223372036854775808):val (V.ofN n) = if n < 0 then -n else n := by
 unfold V.ofN
 rw [ofD_val]
 have e:(16777216:Int) ^ 8 = 6277101735386680763835789423207666416102355444464034512896 := by kernel_rfl
 rw [e]
 split <;> omega
noncomputable def of_h {α:Type} (ds:List D) (Q:SV → Hp → Option α):Option α :=
 dI ds fun n ds => dE ds (if -9223372036854775808 ≤ n ∧ n < 9223372036854775808 then Q (.agg [.bool (decide (n < 0)),.arr (.int .i64) (V.ofN n) 8]) ([]) else none)
theorem of_h_ok {α:Type}:FnOk E.P 95 (fEnt (α := α) of_sp of_h) :=
 fEnt_ok E (look_rgreat_ok) (exec_sound E E_ok (look_rgreat_ok) (of_l0_lps_ok) 400) fun ds Q r h => by
   unfold of_h at h
   obtain ⟨n,ds,rfl,h1⟩ := dI_inv h
   obtain ⟨rfl,hE⟩ := dE_inv h1
   split at hE
   · rename_i hg
     exact ⟨[SV.int .i64 n],[],fun vs => by kernel_rfl,(of_eq n Q).trans ((of_v n hg _).trans hE)⟩
   · cases hE
noncomputable def look_of {α:Type}:LookF α := addFn 95 (fEnt of_sp of_h) look_rgreat
theorem look_of_ok {α:Type}:LookOk E.P (look_of (α := α)) := addFn_ok of_h_ok (look_rgreat_ok)
noncomputable abbrev rsize_S1 (y1:Int) (y2:Bool) (y3:List Int) (y4:Bool) (y5:List Int):St := St.mk (none :: none :: some (SV.ptr (nat_lit 0) (nat_lit 0)) :: some (SV.ptr (nat_lit 1) (nat_lit 0)) :: none :: some (SV.int .i64 y1) :: nn 22 ([])) [.cells [SV.bool y2,SV.arr (K.int IntKind.i64) y3 (nat_lit 8)] (nat_lit 115),.cells [SV.bool y4,SV.arr (K.int IntKind.i64) y5 (nat_lit 8)] (nat_lit 115)]
noncomputable abbrev rsize_S2:St := St.mk (none :: none :: some (SV.ptr (nat_lit 0) (nat_lit 0)) :: some (SV.ptr (nat_lit 1) (nat_lit 0)) :: none :: some (SV.int .i64 (0:Int)) :: nn 22 ([])) [.cells [SV.bool false,SV.arr (K.int IntKind.i64) [] (nat_lit 8)] (nat_lit 115),.cells [SV.bool false,SV.arr (K.int IntKind.i64) [] (nat_lit 8)] (nat_lit 115)]
noncomputable def M.rsize_l0_step {α:Type} (x27:List Int) (x29:List Int) (kn:Int → Option α) (k0:Int → Option α) (k2:Option α) (x25:Int):Option α := if cLe (0:Int) x25 = true then if (0:Int) ≤ x25 ∧ x25 < (8:Int) then if (0:Int) ≤ x25 ∧ x25 < (8:Int) then if cLt (List.getD x27 (Int.toNat x25) (0:Int)) (List.getD x29 (Int.toNat x25) (0:Int)) = true then k0 (-1:Int) else if (0:Int) ≤ x25 ∧ x25 < (8:Int) then if (0:Int) ≤ x25 ∧ x25 < (8:Int) then if cLt (List.getD x29 (Int.toNat x25) (0:Int)) (List.getD x27 (Int.toNat x25) (0:Int)) = true then k0 (1:Int) else kn (IntKind.wrap .i64 (x25 - (1:Int))) else none else none else none else none else k2
noncomputable def M.rsize_l0 {α:Type} (x27:List Int) (x29:List Int) (k0:Int → Option α) (k2:Option α):Nat → Int → Option α
 | 0,_ => none
 | n + 1,x25 => M.rsize_l0_step x27 x29 (M.rsize_l0 x27 x29 k0 k2 n) k0 k2 x25
theorem rsize_l0_step_eq {α:Type} (x25:Int) (x26:Bool) (x27:List Int) (x28:Bool) (x29:List Int) (Q:Ex → St → Option α):(loopStep E (exec E look_of noLps 400) 109 [false,true,false,true] 0 (codeAt E.P 109 [false,true,false,true])) (rsize_S1 x25 x26 x27 x28 x29) Q = M.rsize_l0_step x27 x29 (fun (x31:Int) => Q .normal (rsize_S1 x31 x26 x27 x28 x29)) (fun (x30:Int) => Q .ret (St.mk (nn 4 (some (SV.int .i64 x30) :: nn 23 ([]))) [])) (Q (.exit 0) (St.mk (nn 28 ([])) [])) x25 := by kernel_rfl
theorem rsize_l0_iter {α:Type} (x26:Bool) (x27:List Int) (x28:Bool) (x29:List Int) (Q:Ex → St → Option α):∀ (n:Nat) (x25:Int),iter (loopStep E (exec E look_of noLps 400) 109 [false,true,false,true] 0 (codeAt E.P 109 [false,true,false,true])) n (rsize_S1 x25 x26 x27 x28 x29) Q = M.rsize_l0 x27 x29 (fun (x30:Int) => Q .ret (St.mk (nn 4 (some (SV.int .i64 x30) :: nn 23 ([]))) [])) (Q (.exit 0) (St.mk (nn 28 ([])) [])) n x25
 | 0,_ => rfl
 | n + 1,x25 => (rsize_l0_step_eq x25 x26 x27 x28 x29 (iterK (loopStep E (exec E look_of noLps 400) 109 [false,true,false,true] 0 (codeAt E.P 109 [false,true,false,true])) n Q)).trans (congrArg (fun kn => M.rsize_l0_step x27 x29 kn (fun (x30:Int) => Q .ret (St.mk (nn 4 (some (SV.int .i64 x30) :: nn 23 ([]))) [])) (Q (.exit 0) (St.mk (nn 28 ([])) [])) x25) (funext fun x25 => rsize_l0_iter x26 x27 x28 x29 Q n x25))
noncomputable def rsize_l0_go {α:Type} (ds:List D) (Q:Ex → St → Option α):Option α :=
 dI ds fun x25 ds => dB ds fun x26 ds => dL (K.int IntKind.i64) ds fun x27 ds => dB ds fun x28 ds => dL (K.int IntKind.i64) ds fun x29 ds => dE ds (M.rsize_l0 x27 x29 (fun (x30:Int) => Q .ret (St.mk (nn 4 (some (SV.int .i64 x30) :: nn 23 ([]))) [])) (Q (.exit 0) (St.mk (nn 28 ([])) [])) (100 + x27.length + x29.length) x25)
theorem rsize_l0_ok {α:Type}:LoopOk E.P 109 [false,true,false,true] 0 (lEnt (α := α) (rsize_S2) rsize_l0_go) :=
 lEnt_ok E (exec_sound E E_ok (look_of_ok) (noLps_ok _) 400) fun ds Q r h S hS => by
   unfold rsize_l0_go at h
   obtain ⟨x25,ds,rfl,h1⟩ := dI_inv h
   obtain ⟨x26,ds,rfl,h2⟩ := dB_inv h1
   obtain ⟨x27,ds,rfl,h3⟩ := dL_inv h2
   obtain ⟨x28,ds,rfl,h4⟩ := dB_inv h3
   obtain ⟨x29,ds,rfl,h5⟩ := dL_inv h4
   obtain ⟨rfl,hE⟩ := dE_inv h5
   have e:fillS (rsize_S2) [.i x25,.b x26,.l (K.int IntKind.i64) x27,.b x28,.l (K.int IntKind.i64) x29] = some (rsize_S1 x25 x26 x27 x28 x29) := by kernel_rfl
   rw [e] at hS
   cases hS
   exact ⟨_,(rsize_l0_iter x26 x27 x28 x29 Q _ x25).trans hE⟩
noncomputable def rsize_l0_lps {α:Type}:LookL α := addLp 109 [false,true,false,true] 0 (lEnt (rsize_S2) rsize_l0_go) noLps
theorem rsize_l0_lps_ok {α:Type}:LoopsOk E.P (rsize_l0_lps (α := α)) := addLp_ok rsize_l0_ok (noLps_ok _)
noncomputable def M.rsize {α:Type} (an:Bool) (ad:List Int) (bn:Bool) (bd:List Int) (k0:Int → Option α):Option α := M.rsize_l0 ad bd (fun (x32:Int) ↦ k0 x32) (k0 (0:Int)) ((100:Nat) + List.length ad + List.length bd) (7:Int)
theorem rsize_eq {α:Type} (an:Bool) (ad:List Int) (bn:Bool) (bd:List Int) (Q:SV → Hp → Option α):callI E look_of (exec E look_of rsize_l0_lps 400) 109 ([SV.agg [SV.bool an,SV.arr (K.int IntKind.i64) ad (nat_lit 8)],SV.agg [SV.bool bn,SV.arr (K.int IntKind.i64) bd (nat_lit 8)]]) ([]) Q = M.rsize an ad bn bd (fun (x33:Int) => Q (SV.int .i64 x33) ([])) := by kernel_rfl
def rsize_sp:List AS := [.val (.agg [.bool false,.arr (.int .i64) [] 8]),.val (.agg [.bool false,.arr (.int .i64) [] 8])]
theorem val_take_succ {D:List Int} {m:Nat} (h:m < D.length):val (D.take (m + 1)) = val (D.take m) + 16777216 ^ m * D.getD m 0 := by
 rw [List.take_add_one,val_append]
 simp [h,val,List.length_take,Nat.min_eq_left (Nat.le_of_lt h),List.getD_eq_getElem?_getD]
theorem rsize_l0_val {α:Type} (a b:List Int) (ha:okD a = true) (hb:okD b = true) (la:a.length = 8) (lb:b.length = 8) (k0:Int → Option α) (k2:Option α):∀ (fuel m:Nat),m ≤ 8 → m < fuel →
   M.rsize_l0 a b k0 k2 fuel ((m:Int) - 1) = if val (a.take m) < val (b.take m) then k0 (-1) else if val (b.take m) < val (a.take m) then k0 1 else k2
 | 0,m,h1,h2 => by omega
 | n + 1,0,h1,h2 => by
   unfold M.rsize_l0 M.rsize_l0_step
   have e:¬ (0:Int) ≤ ((0:Nat):Int) - 1 := by omega
   rw [cLe_eq]
   simp only [e,decide_false,Bool.false_eq_true,if_false,List.take_zero,Int.lt_irrefl]
 | n + 1,m + 1,h1,h2 => by
   unfold M.rsize_l0 M.rsize_l0_step
   have e0:(((m + 1:Nat):Int) - 1) = (m:Int) := by omega
   rw [e0]
   have c1:(0:Int) ≤ (m:Int) := by omega
   have c2:(m:Int) < 8 := by omega
   simp only [cLe_eq,cLt_eq,c1,c2,decide_true,if_true,and_self,Int.toNat_natCast]
   rw [IntWalk.i64_in _ (by omega),rsize_l0_val a b ha hb la lb k0 k2 n m (by omega) (by omega)]
   rw [val_take_succ (by omega:m < a.length),val_take_succ (by omega:m < b.length)]
   have ba := val_bound (okD_take ha m)
   have bb := val_bound (okD_take hb m)
   rw [List.length_take,Nat.min_eq_left (by omega)] at ba bb
   have P := pB m
   have cmp:∀ x y u v:Int,x < y → 0 ≤ v → u < 16777216 ^ m → u + 16777216 ^ m * x < v + 16777216 ^ m * y := by
     intro x y u v hxy hv hu
     have:16777216 ^ m * (x + 1) ≤ 16777216 ^ m * y := Int.mul_le_mul_of_nonneg_left (by omega) (by omega)
     rw [Int.mul_add,Int.mul_one] at this
     omega
   generalize a.getD m 0 = p at *
   generalize b.getD m 0 = q at *
   rcases Int.lt_trichotomy p q with h | h | h
   · have := cmp _ _ (val (a.take m)) (val (b.take m)) h bb.1 ba.2
     simp [h,this]
   · rw [h]
     simp only [Int.lt_irrefl,decide_false,Bool.false_eq_true,if_false,Int.add_lt_add_iff_right]
   · have := cmp _ _ (val (b.take m)) (val (a.take m)) h ba.1 bb.2
     have n1:¬ p < q := by omega
     have n2:¬ val (a.take m) + 16777216 ^ m * p < val (b.take m) + 16777216 ^ m * q := by omega
     simp [h,this,n1,n2]
def _root_.Go.Proofs.YtlagndfhibkjpaaGreat.V.cmp (x y:Int):Int := if x < y then -1 else if y < x then 1 else 0
noncomputable def _root_.Go.Proofs.YtlagndfhibkjpaaGreat.V.szD (a b:List Int):Int := V.cmp (val a) (val b)
theorem ok8_iff {D:List Int}:V.ok8 D = true ↔ D.length = 8 ∧ okD D = true := by simp [V.ok8]
theorem rsize_v {α:Type} (an:Bool) (a:List Int) (bn:Bool) (b:List Int) (ha:V.ok8 a = true) (hb:V.ok8 b = true) (k0:Int → Option α):M.rsize an a bn b k0 = k0 (V.szD a b) := by
 rw [ok8_iff] at ha hb
 unfold M.rsize V.szD V.cmp
 have := rsize_l0_val a b ha.2 hb.2 ha.1 hb.1 (fun x => k0 x) (k0 0) (100 + a.length + b.length) 8 (by omega) (by omega)
 rw [List.take_of_length_le (by omega),List.take_of_length_le (by omega)] at this
 rw [show (7:Int) = ((8:Nat):Int) - 1 by rfl,this]
 split
 · rfl
 · split <;> rfl
noncomputable def rsize_h {α:Type} (ds:List D) (Q:SV → Hp → Option α):Option α :=
 dB ds fun an ds => dL (K.int IntKind.i64) ds fun ad ds => dB ds fun bn ds => dL (K.int IntKind.i64) ds fun bd ds => dE ds (if V.ok8 ad = true ∧ V.ok8 bd = true then Q (.int .i64 (V.szD ad bd)) ([]) else none)
theorem rsize_h_ok {α:Type}:FnOk E.P 109 (fEnt (α := α) rsize_sp rsize_h) :=
 fEnt_ok E (look_of_ok) (exec_sound E E_ok (look_of_ok) (rsize_l0_lps_ok) 400) fun ds Q r h => by
   unfold rsize_h at h
   obtain ⟨an,ds,rfl,h1⟩ := dB_inv h
   obtain ⟨ad,ds,rfl,h2⟩ := dL_inv h1
   obtain ⟨bn,ds,rfl,h3⟩ := dB_inv h2
   obtain ⟨bd,ds,rfl,h4⟩ := dL_inv h3
   obtain ⟨rfl,hE⟩ := dE_inv h4
   split at hE
   · rename_i hg
     exact ⟨[SV.agg [SV.bool an,SV.arr (K.int IntKind.i64) ad (nat_lit 8)],SV.agg [SV.bool bn,SV.arr (K.int IntKind.i64) bd (nat_lit 8)]],[],fun vs => by kernel_rfl,(rsize_eq an ad bn bd Q).trans ((rsize_v an ad bn bd hg.1 hg.2 _).trans hE)⟩
   · cases hE
noncomputable def look_rsize {α:Type}:LookF α := addFn 109 (fEnt rsize_sp rsize_h) look_of
theorem look_rsize_ok {α:Type}:LookOk E.P (look_rsize (α := α)) := addFn_ok rsize_h_ok (look_of_ok)
end
section
open Go
set_option maxRecDepth 20000
noncomputable abbrev plus_S1 (y1 y2:Int) (y3:Bool) (y4:List Int) (y5:Bool) (y6:List Int) (y7:Bool) (y8:List Int) (y9:Bool) (y10:List Int):St := St.mk (none :: none :: some (SV.ptr (nat_lit 0) (nat_lit 0)) :: some (SV.ptr (nat_lit 1) (nat_lit 0)) :: some (SV.ptr (nat_lit 2) (nat_lit 0)) :: some (SV.int .i64 y1) :: some (SV.ptr (nat_lit 3) (nat_lit 0)) :: some (SV.int .i64 y2) :: nn 67 ([])) [.cells [SV.bool y3,SV.arr (K.int IntKind.i64) y4 (nat_lit 8)] (nat_lit 115),.cells [SV.bool y5,SV.arr (K.int IntKind.i64) y6 (nat_lit 8)] (nat_lit 115),.cells [SV.bool y7,SV.arr (K.int IntKind.i64) y8 (nat_lit 8)] (nat_lit 115),.cells [SV.bool y9,SV.arr (K.int IntKind.i64) y10 (nat_lit 8)] (nat_lit 115)]
noncomputable abbrev plus_S2 (y1:Bool) (y2:List Int) (y3:Bool) (y4:List Int):St := St.mk (nn 4 (some (SV.ptr (nat_lit 0) (nat_lit 0)) :: none :: some (SV.ptr (nat_lit 1) (nat_lit 0)) :: nn 68 ([]))) [.cells [SV.bool y1,SV.arr (K.int IntKind.i64) y2 (nat_lit 8)] (nat_lit 115),.cells [SV.bool y3,SV.arr (K.int IntKind.i64) y4 (nat_lit 8)] (nat_lit 115)]
noncomputable abbrev plus_S3:St := St.mk (none :: none :: some (SV.ptr (nat_lit 0) (nat_lit 0)) :: some (SV.ptr (nat_lit 1) (nat_lit 0)) :: some (SV.ptr (nat_lit 2) (nat_lit 0)) :: some (SV.int .i64 (0:Int)) :: some (SV.ptr (nat_lit 3) (nat_lit 0)) :: some (SV.int .i64 (0:Int)) :: nn 67 ([])) [.cells [SV.bool false,SV.arr (K.int IntKind.i64) [] (nat_lit 8)] (nat_lit 115),.cells [SV.bool false,SV.arr (K.int IntKind.i64) [] (nat_lit 8)] (nat_lit 115),.cells [SV.bool false,SV.arr (K.int IntKind.i64) [] (nat_lit 8)] (nat_lit 115),.cells [SV.bool false,SV.arr (K.int IntKind.i64) [] (nat_lit 8)] (nat_lit 115)]
noncomputable abbrev plus_S4 (y1 y2:Int) (y3:Bool) (y4:List Int) (y5:Bool) (y6:List Int) (y7:Bool) (y8:List Int) (y9:Bool) (y10:List Int):St := St.mk (none :: none :: some (SV.ptr (nat_lit 0) (nat_lit 0)) :: some (SV.ptr (nat_lit 1) (nat_lit 0)) :: some (SV.ptr (nat_lit 2) (nat_lit 0)) :: nn 5 (some (SV.ptr (nat_lit 3) (nat_lit 0)) :: some (SV.int .i64 y1) :: some (SV.int .i64 y2) :: nn 62 ([]))) [.cells [SV.bool y3,SV.arr (K.int IntKind.i64) y4 (nat_lit 8)] (nat_lit 115),.cells [SV.bool y5,SV.arr (K.int IntKind.i64) y6 (nat_lit 8)] (nat_lit 115),.cells [SV.bool y7,SV.arr (K.int IntKind.i64) y8 (nat_lit 8)] (nat_lit 115),.cells [SV.bool y9,SV.arr (K.int IntKind.i64) y10 (nat_lit 8)] (nat_lit 115)]
noncomputable abbrev plus_S5 (y1:Bool) (y2:List Int) (y3:Bool) (y4:List Int):St := St.mk (nn 4 (some (SV.ptr (nat_lit 0) (nat_lit 0)) :: nn 5 (some (SV.ptr (nat_lit 1) (nat_lit 0)) :: nn 64 ([])))) [.cells [SV.bool y1,SV.arr (K.int IntKind.i64) y2 (nat_lit 8)] (nat_lit 115),.cells [SV.bool y3,SV.arr (K.int IntKind.i64) y4 (nat_lit 8)] (nat_lit 115)]
noncomputable abbrev plus_S6:St := St.mk (none :: none :: some (SV.ptr (nat_lit 0) (nat_lit 0)) :: some (SV.ptr (nat_lit 1) (nat_lit 0)) :: some (SV.ptr (nat_lit 2) (nat_lit 0)) :: nn 5 (some (SV.ptr (nat_lit 3) (nat_lit 0)) :: some (SV.int .i64 (0:Int)) :: some (SV.int .i64 (0:Int)) :: nn 62 ([]))) [.cells [SV.bool false,SV.arr (K.int IntKind.i64) [] (nat_lit 8)] (nat_lit 115),.cells [SV.bool false,SV.arr (K.int IntKind.i64) [] (nat_lit 8)] (nat_lit 115),.cells [SV.bool false,SV.arr (K.int IntKind.i64) [] (nat_lit 8)] (nat_lit 115),.cells [SV.bool false,SV.arr (K.int IntKind.i64) [] (nat_lit 8)] (nat_lit 115)]
abbrev plus_P1:List Bool := [false,true,false,true,true,false,true,false,true]
abbrev plus_P2:List Bool := [false,true,false,true,true,true,true,true]
noncomputable def M.plus_l0_step {α:Type} (x13:List Int) (x15:List Int) (kn:Int → Int → List Int → Option α) (k1:List Int → Option α) (x10 x11:Int) (x19:List Int):Option α := if cLt x11 (8:Int) = true then if (0:Int) ≤ x11 ∧ x11 < (8:Int) then if (0:Int) ≤ x11 ∧ x11 < (8:Int) then if (0:Int) ≤ x11 ∧ x11 < (8:Int) then kn (IntKind.wrap .i64 (Int.tdiv (IntKind.wrap .i64 (IntKind.wrap .i64 (List.getD x13 (Int.toNat x11) (0:Int) + List.getD x15 (Int.toNat x11) (0:Int)) + x10)) (16777216:Int))) (IntKind.wrap .i64 (x11 + (1:Int))) (List.set x19 (Int.toNat x11) (Int.tmod (IntKind.wrap .i64 (IntKind.wrap .i64 (List.getD x13 (Int.toNat x11) (0:Int) + List.getD x15 (Int.toNat x11) (0:Int)) + x10)) (16777216:Int))) else none else none else none else k1 x19
noncomputable def M.plus_l0 {α:Type} (x13:List Int) (x15:List Int) (k1:List Int → Option α):Nat → Int → Int → List Int → Option α
 | 0,_,_,_ => none
 | n + 1,x10,x11,x19 => M.plus_l0_step x13 x15 (M.plus_l0 x13 x15 k1 n) k1 x10 x11 x19
theorem plus_l0_step_eq {α:Type} (x10 x11:Int) (x12:Bool) (x13:List Int) (x14:Bool) (x15:List Int) (x16:Bool) (x17:List Int) (x18:Bool) (x19:List Int) (Q:Ex → St → Option α):(loopStep E (exec E look_rsize noLps 400) 97 plus_P1 0 (codeAt E.P 97 plus_P1)) (plus_S1 x10 x11 x12 x13 x14 x15 x16 x17 x18 x19) Q = M.plus_l0_step x13 x15 (fun (x21 x22:Int) (x23:List Int) => Q .normal (plus_S1 x21 x22 x12 x13 x14 x15 x16 x17 x18 x23)) (fun (x20:List Int) => Q (.exit 0) (plus_S2 x16 x17 x18 x20)) x10 x11 x19 := by kernel_rfl
theorem plus_l0_iter {α:Type} (x12:Bool) (x13:List Int) (x14:Bool) (x15:List Int) (x16:Bool) (x17:List Int) (x18:Bool) (Q:Ex → St → Option α):∀ (n:Nat) (x10 x11:Int) (x19:List Int),iter (loopStep E (exec E look_rsize noLps 400) 97 plus_P1 0 (codeAt E.P 97 plus_P1)) n (plus_S1 x10 x11 x12 x13 x14 x15 x16 x17 x18 x19) Q = M.plus_l0 x13 x15 (fun (x20:List Int) => Q (.exit 0) (plus_S2 x16 x17 x18 x20)) n x10 x11 x19
 | 0,_,_,_ => rfl
 | n + 1,x10,x11,x19 => (plus_l0_step_eq x10 x11 x12 x13 x14 x15 x16 x17 x18 x19 (iterK (loopStep E (exec E look_rsize noLps 400) 97 plus_P1 0 (codeAt E.P 97 plus_P1)) n Q)).trans (congrArg (fun kn => M.plus_l0_step x13 x15 kn (fun (x20:List Int) => Q (.exit 0) (plus_S2 x16 x17 x18 x20)) x10 x11 x19) (funext fun x10 => funext fun x11 => funext fun x19 => plus_l0_iter x12 x13 x14 x15 x16 x17 x18 Q n x10 x11 x19))
noncomputable def plus_l0_go {α:Type} (ds:List D) (Q:Ex → St → Option α):Option α :=
 dI ds fun x10 ds => dI ds fun x11 ds => dB ds fun x12 ds => dL (K.int IntKind.i64) ds fun x13 ds => dB ds fun x14 ds => dL (K.int IntKind.i64) ds fun x15 ds => dB ds fun x16 ds => dL (K.int IntKind.i64) ds fun x17 ds => dB ds fun x18 ds => dL (K.int IntKind.i64) ds fun x19 ds => dE ds (M.plus_l0 x13 x15 (fun (x20:List Int) => Q (.exit 0) (plus_S2 x16 x17 x18 x20)) (100 + x13.length + x15.length + x17.length + x19.length) x10 x11 x19)
theorem plus_l0_ok {α:Type}:LoopOk E.P 97 plus_P1 0 (lEnt (α := α) (plus_S3) plus_l0_go) :=
 lEnt_ok E (exec_sound E E_ok (look_rsize_ok) (noLps_ok _) 400) fun ds Q r h S hS => by
   unfold plus_l0_go at h
   obtain ⟨x10,ds,rfl,h1⟩ := dI_inv h
   obtain ⟨x11,ds,rfl,h2⟩ := dI_inv h1
   obtain ⟨x12,ds,rfl,h3⟩ := dB_inv h2
   obtain ⟨x13,ds,rfl,h4⟩ := dL_inv h3
   obtain ⟨x14,ds,rfl,h5⟩ := dB_inv h4
   obtain ⟨x15,ds,rfl,h6⟩ := dL_inv h5
   obtain ⟨x16,ds,rfl,h7⟩ := dB_inv h6
   obtain ⟨x17,ds,rfl,h8⟩ := dL_inv h7
   obtain ⟨x18,ds,rfl,h9⟩ := dB_inv h8
   obtain ⟨x19,ds,rfl,h10⟩ := dL_inv h9
   obtain ⟨rfl,hE⟩ := dE_inv h10
   have e:fillS (plus_S3) [.i x10,.i x11,.b x12,.l (K.int IntKind.i64) x13,.b x14,.l (K.int IntKind.i64) x15,.b x16,.l (K.int IntKind.i64) x17,.b x18,.l (K.int IntKind.i64) x19] = some (plus_S1 x10 x11 x12 x13 x14 x15 x16 x17 x18 x19) := by kernel_rfl
   rw [e] at hS
   cases hS
   exact ⟨_,(plus_l0_iter x12 x13 x14 x15 x16 x17 x18 Q _ x10 x11 x19).trans hE⟩
noncomputable def plus_l0_lps {α:Type}:LookL α := addLp 97 plus_P1 0 (lEnt (plus_S3) plus_l0_go) noLps
theorem plus_l0_lps_ok {α:Type}:LoopsOk E.P (plus_l0_lps (α := α)) := addLp_ok plus_l0_ok (noLps_ok _)
noncomputable def M.plus_l1_step {α:Type} (x38:List Int) (x40:List Int) (kn:Int → Int → List Int → Option α) (k1:List Int → Option α) (x35 x36:Int) (x44:List Int):Option α := if cLt x36 (8:Int) = true then if (0:Int) ≤ x36 ∧ x36 < (8:Int) then if (0:Int) ≤ x36 ∧ x36 < (8:Int) then if cLt (IntKind.wrap .i64 (IntKind.wrap .i64 (List.getD x38 (Int.toNat x36) (0:Int) - List.getD x40 (Int.toNat x36) (0:Int)) - x35)) (0:Int) = true then if (0:Int) ≤ x36 ∧ x36 < (8:Int) then kn (1:Int) (IntKind.wrap .i64 (x36 + (1:Int))) (List.set x44 (Int.toNat x36) (IntKind.wrap .i64 (IntKind.wrap .i64 (IntKind.wrap .i64 (List.getD x38 (Int.toNat x36) (0:Int) - List.getD x40 (Int.toNat x36) (0:Int)) - x35) + (16777216:Int)))) else none else if (0:Int) ≤ x36 ∧ x36 < (8:Int) then kn (0:Int) (IntKind.wrap .i64 (x36 + (1:Int))) (List.set x44 (Int.toNat x36) (IntKind.wrap .i64 (IntKind.wrap .i64 (List.getD x38 (Int.toNat x36) (0:Int) - List.getD x40 (Int.toNat x36) (0:Int)) - x35))) else none else none else none else k1 x44
noncomputable def M.plus_l1 {α:Type} (x38:List Int) (x40:List Int) (k1:List Int → Option α):Nat → Int → Int → List Int → Option α
 | 0,_,_,_ => none
 | n + 1,x35,x36,x44 => M.plus_l1_step x38 x40 (M.plus_l1 x38 x40 k1 n) k1 x35 x36 x44
theorem plus_l1_step_eq {α:Type} (x35 x36:Int) (x37:Bool) (x38:List Int) (x39:Bool) (x40:List Int) (x41:Bool) (x42:List Int) (x43:Bool) (x44:List Int) (Q:Ex → St → Option α):(loopStep E (exec E look_rsize plus_l0_lps 400) 97 plus_P2 0 (codeAt E.P 97 plus_P2)) (plus_S4 x35 x36 x37 x38 x39 x40 x41 x42 x43 x44) Q = M.plus_l1_step x38 x40 (fun (x46 x47:Int) (x48:List Int) => Q .normal (plus_S4 x46 x47 x37 x38 x39 x40 x41 x42 x43 x48)) (fun (x45:List Int) => Q (.exit 2) (plus_S5 x41 x42 x43 x45)) x35 x36 x44 := by kernel_rfl
theorem plus_l1_iter {α:Type} (x37:Bool) (x38:List Int) (x39:Bool) (x40:List Int) (x41:Bool) (x42:List Int) (x43:Bool) (Q:Ex → St → Option α):∀ (n:Nat) (x35 x36:Int) (x44:List Int),iter (loopStep E (exec E look_rsize plus_l0_lps 400) 97 plus_P2 0 (codeAt E.P 97 plus_P2)) n (plus_S4 x35 x36 x37 x38 x39 x40 x41 x42 x43 x44) Q = M.plus_l1 x38 x40 (fun (x45:List Int) => Q (.exit 2) (plus_S5 x41 x42 x43 x45)) n x35 x36 x44
 | 0,_,_,_ => rfl
 | n + 1,x35,x36,x44 => (plus_l1_step_eq x35 x36 x37 x38 x39 x40 x41 x42 x43 x44 (iterK (loopStep E (exec E look_rsize plus_l0_lps 400) 97 plus_P2 0 (codeAt E.P 97 plus_P2)) n Q)).trans (congrArg (fun kn => M.plus_l1_step x38 x40 kn (fun (x45:List Int) => Q (.exit 2) (plus_S5 x41 x42 x43 x45)) x35 x36 x44) (funext fun x35 => funext fun x36 => funext fun x44 => plus_l1_iter x37 x38 x39 x40 x41 x42 x43 Q n x35 x36 x44))
noncomputable def plus_l1_go {α:Type} (ds:List D) (Q:Ex → St → Option α):Option α :=
 dI ds fun x35 ds => dI ds fun x36 ds => dB ds fun x37 ds => dL (K.int IntKind.i64) ds fun x38 ds => dB ds fun x39 ds => dL (K.int IntKind.i64) ds fun x40 ds => dB ds fun x41 ds => dL (K.int IntKind.i64) ds fun x42 ds => dB ds fun x43 ds => dL (K.int IntKind.i64) ds fun x44 ds => dE ds (M.plus_l1 x38 x40 (fun (x45:List Int) => Q (.exit 2) (plus_S5 x41 x42 x43 x45)) (100 + x38.length + x40.length + x42.length + x44.length) x35 x36 x44)
theorem plus_l1_ok {α:Type}:LoopOk E.P 97 plus_P2 0 (lEnt (α := α) (plus_S6) plus_l1_go) :=
 lEnt_ok E (exec_sound E E_ok (look_rsize_ok) (plus_l0_lps_ok) 400) fun ds Q r h S hS => by
   unfold plus_l1_go at h
   obtain ⟨x35,ds,rfl,h1⟩ := dI_inv h
   obtain ⟨x36,ds,rfl,h2⟩ := dI_inv h1
   obtain ⟨x37,ds,rfl,h3⟩ := dB_inv h2
   obtain ⟨x38,ds,rfl,h4⟩ := dL_inv h3
   obtain ⟨x39,ds,rfl,h5⟩ := dB_inv h4
   obtain ⟨x40,ds,rfl,h6⟩ := dL_inv h5
   obtain ⟨x41,ds,rfl,h7⟩ := dB_inv h6
   obtain ⟨x42,ds,rfl,h8⟩ := dL_inv h7
   obtain ⟨x43,ds,rfl,h9⟩ := dB_inv h8
   obtain ⟨x44,ds,rfl,h10⟩ := dL_inv h9
   obtain ⟨rfl,hE⟩ := dE_inv h10
   have e:fillS (plus_S6) [.i x35,.i x36,.b x37,.l (K.int IntKind.i64) x38,.b x39,.l (K.int IntKind.i64) x40,.b x41,.l (K.int IntKind.i64) x42,.b x43,.l (K.int IntKind.i64) x44] = some (plus_S4 x35 x36 x37 x38 x39 x40 x41 x42 x43 x44) := by kernel_rfl
   rw [e] at hS
   cases hS
   exact ⟨_,(plus_l1_iter x37 x38 x39 x40 x41 x42 x43 Q _ x35 x36 x44).trans hE⟩
noncomputable def plus_l1_lps {α:Type}:LookL α := addLp 97 plus_P2 0 (lEnt (plus_S6) plus_l1_go) plus_l0_lps
theorem plus_l1_lps_ok {α:Type}:LoopsOk E.P (plus_l1_lps (α := α)) := addLp_ok plus_l1_ok (plus_l0_lps_ok)
noncomputable def M.plus {α:Type} (an:Bool) (ad:List Int) (bn:Bool) (bd:List Int) (k0:Bool → List Int → Option α):Option α := if (an == bn) = true then M.plus_l0 ad bd (fun (x49:List Int) ↦ k0 an x49) ((100:Nat) + List.length ad + List.length bd + (8:Nat) + List.length ad) (0:Int) (0:Int) ad else if V.ok8 ad = true ∧ V.ok8 bd = true then if cLt (V.szD ad bd) (0:Int) = true then M.plus_l1 bd ad (fun (x50:List Int) ↦ k0 bn x50) ((100:Nat) + List.length bd + List.length ad + (8:Nat) + List.length bd) (0:Int) (0:Int) bd else M.plus_l1 ad bd (fun (x51:List Int) ↦ k0 an x51) ((100:Nat) + List.length ad + List.length bd + (8:Nat) + List.length ad) (0:Int) (0:Int) ad else none
theorem plus_eq {α:Type} (an:Bool) (ad:List Int) (bn:Bool) (bd:List Int) (Q:SV → Hp → Option α):callI E look_rsize (exec E look_rsize plus_l1_lps 400) 97 ([SV.agg [SV.bool an,SV.arr (K.int IntKind.i64) ad (nat_lit 8)],SV.agg [SV.bool bn,SV.arr (K.int IntKind.i64) bd (nat_lit 8)]]) ([]) Q = M.plus an ad bn bd (fun (x52:Bool) (x53:List Int) => Q (SV.agg [SV.bool x52,SV.arr (K.int IntKind.i64) x53 (nat_lit 8)]) ([])) := by kernel_rfl
def plus_sp:List AS := [.val (.agg [.bool false,.arr (.int .i64) [] 8]),.val (.agg [.bool false,.arr (.int .i64) [] 8])]
def linL (m:Int):List Int → List Int → Int → List Int
 | x :: xs,y :: ys,c => (x + m * y + c) % 16777216 :: linL m xs ys ((x + m * y + c) / 16777216)
 | _,_,_ => []
theorem linL_len (m:Int):∀ (xs ys:List Int) (c:Int),xs.length ≤ ys.length → (linL m xs ys c).length = xs.length
 | [],ys,c,_ => by simp [linL]
 | x :: xs,[],c,h => by simp at h
 | x :: xs,y :: ys,c,h => by simp only [linL,List.length_cons]; rw [linL_len m xs ys _ (by simpa using h)]
theorem linL_ok (m:Int):∀ (xs ys:List Int) (c:Int),okD (linL m xs ys c) = true
 | [],ys,c => by simp [linL,okD]
 | x :: xs,[],c => by simp [linL,okD]
 | x :: xs,y :: ys,c => by rw [linL,okD_cons]; exact ⟨by omega,linL_ok m xs ys _⟩
theorem linL_val (m:Int):∀ (xs ys:List Int) (c:Int),xs.length ≤ ys.length → val (linL m xs ys c) = (val xs + m * val ys + c) % 16777216 ^ xs.length
 | [],ys,c,_ => by simp [linL,val,Int.emod_one]
 | x :: xs,[],c,h => by simp at h
 | x :: xs,y :: ys,c,h => by
   rw [linL,val,linL_val m xs ys _ (by simpa using h),List.length_cons,pB1,← mod_split _ _ _ (pB _)]
   congr 1
   simp only [val]
   grind
theorem drop_getD {a:List Int} {i:Nat} (h:i < a.length):a.drop i = a.getD i 0 :: a.drop (i + 1) := by
 rw [List.drop_eq_getElem_cons h]; simp [List.getD_eq_getElem?_getD,h]
theorem linL_drop (m:Int) {a b:List Int} {i:Nat} (h1:i < a.length) (h2:i < b.length) (c:Int) :
   linL m (a.drop i) (b.drop i) c = (a.getD i 0 + m * b.getD i 0 + c) % 16777216 :: linL m (a.drop (i + 1)) (b.drop (i + 1)) ((a.getD i 0 + m * b.getD i 0 + c) / 16777216) := by
 rw [drop_getD h1,drop_getD h2,linL]
theorem plus_l0_val {α:Type} (a b:List Int) (ha:okD a = true) (hb:okD b = true) (la:a.length = 8) (lb:b.length = 8) (k1:List Int → Option α):∀ (fuel i:Nat) (c:Int) (o:List Int),i ≤ 8 → 8 - i < fuel → o.length = 8 → 0 ≤ c → c ≤ 1 →
   M.plus_l0 a b k1 fuel c (i:Int) o = k1 (o.take i ++ linL 1 (a.drop i) (b.drop i) c)
 | 0,i,c,o,h1,h2,_,_,_ => by omega
 | n + 1,i,c,o,h1,h2,ho,hc0,hc1 => by
   unfold M.plus_l0 M.plus_l0_step
   rw [cLt_eq]
   by_cases hi:i < 8
   · have c1 : (i : Int) < 8 := by omega
     have c2:(0:Int) ≤ (i:Int) := by omega
     have da := okD_get ha i
     have db := okD_get hb i
     simp only [c1,c2,decide_true,if_true,and_self,Int.toNat_natCast]
     rw [linL_drop 1 (by omega) (by omega),Int.one_mul]
     generalize a.getD i 0 = x at *
     generalize b.getD i 0 = y at *
     rw [IntWalk.i64_in (x + y) (by omega),IntWalk.i64_in (x + y + c) (by omega),Int.tdiv_eq_ediv_of_nonneg (by omega),Int.tmod_eq_emod_of_nonneg (by omega),IntWalk.i64_in ((x + y + c) / 16777216) (by omega),IntWalk.i64_in ((i:Int) + 1) (by omega)]
     have := plus_l0_val a b ha hb la lb k1 n (i + 1) ((x + y + c) / 16777216) (o.set i ((x + y + c) % 16777216)) (by omega) (by omega) (by simpa using ho) (by omega) (by omega)
     push_cast at this
     rw [this,take_set_succ _ (by omega),List.append_assoc,List.singleton_append]
   · have : i = 8 := by omega
     subst this
     have e:¬ ((8:Nat):Int) < 8 := by omega
     simp only [e,decide_false,Bool.false_eq_true,if_false]
     rw [List.take_of_length_le (by omega),List.drop_of_length_le (by omega:a.length ≤ 8),linL,List.append_nil]
     · intro _ _ _ _ _; simp_all
theorem plus_l1_val {α:Type} (a b:List Int) (ha:okD a = true) (hb:okD b = true) (la:a.length = 8) (lb:b.length = 8) (k1:List Int → Option α):∀ (fuel i:Nat) (c:Int) (o:List Int),i ≤ 8 → 8 - i < fuel → o.length = 8 → 0 ≤ c → c ≤ 1 →
   M.plus_l1 a b k1 fuel c (i:Int) o = k1 (o.take i ++ linL (-1) (a.drop i) (b.drop i) (-c))
 | 0,i,c,o,h1,h2,_,_,_ => by omega
 | n + 1,i,c,o,h1,h2,ho,hc0,hc1 => by
   unfold M.plus_l1 M.plus_l1_step
   rw [cLt_eq]
   by_cases hi:i < 8
   · have c1 : (i : Int) < 8 := by omega
     have c2:(0:Int) ≤ (i:Int) := by omega
     have da := okD_get ha i
     have db := okD_get hb i
     simp only [c1,c2,decide_true,if_true,and_self,Int.toNat_natCast]
     rw [linL_drop (-1) (by omega) (by omega)]
     generalize a.getD i 0 = x at *
     generalize b.getD i 0 = y at *
     rw [IntWalk.i64_in (x - y) (by omega),IntWalk.i64_in (x - y - c) (by omega),cLt_eq,IntWalk.i64_in ((i:Int) + 1) (by omega),show x + -1 * y + -c = x - y - c by omega]
     by_cases hn:x - y - c < 0
     · simp only [hn, decide_true, if_true]
       rw [IntWalk.i64_in (x - y - c + 16777216) (by omega)]
       have := plus_l1_val a b ha hb la lb k1 n (i + 1) 1 (o.set i (x - y - c + 16777216)) (by omega) (by omega) (by simpa using ho) (by omega) (by omega)
       push_cast at this
       rw [this,take_set_succ _ (by omega),List.append_assoc,List.singleton_append,show (x - y - c) % 16777216 = x - y - c + 16777216 by omega,show (x - y - c) / 16777216 = -1 by omega]
     · simp only [hn, decide_false, Bool.false_eq_true, if_false]
       have := plus_l1_val a b ha hb la lb k1 n (i + 1) 0 (o.set i (x - y - c)) (by omega) (by omega) (by simpa using ho) (by omega) (by omega)
       push_cast at this
       rw [this,take_set_succ _ (by omega),List.append_assoc,List.singleton_append,show (x - y - c) % 16777216 = x - y - c by omega,show (x - y - c) / 16777216 = 0 by omega]
       rfl
   · have : i = 8 := by omega
     subst this
     have e:¬ ((8:Nat):Int) < 8 := by omega
     simp only [e,decide_false,Bool.false_eq_true,if_false]
     rw [List.take_of_length_le (by omega),List.drop_of_length_le (by omega:a.length ≤ 8),linL,List.append_nil]
     · intro _ _ _ _ _; simp_all
noncomputable def _root_.Go.Proofs.YtlagndfhibkjpaaGreat.V.plN (an:Bool) (a:List Int) (bn:Bool) (b:List Int):Bool := if an == bn then an else if val a < val b then bn else an
noncomputable def _root_.Go.Proofs.YtlagndfhibkjpaaGreat.V.plD (an:Bool) (a:List Int) (bn:Bool) (b:List Int):List Int := if an == bn then linL 1 a b 0 else if val a < val b then linL (-1) b a 0 else linL (-1) a b 0
theorem plus_v {α:Type} (an:Bool) (a:List Int) (bn:Bool) (b:List Int) (ha:V.ok8 a = true) (hb:V.ok8 b = true) (k0:Bool → List Int → Option α):M.plus an a bn b k0 = k0 (V.plN an a bn b) (V.plD an a bn b) := by
 unfold M.plus V.plN V.plD
 have hab := And.intro ha hb
 rw [ok8_iff] at ha hb
 cases hs:(an == bn) with
 | true =>
   simp only [if_true]
   have := plus_l0_val a b ha.2 hb.2 ha.1 hb.1 (fun x => k0 an x) (100 + a.length + b.length + 8 + a.length) 0 0 a (by omega) (by omega) ha.1 (by omega) (by omega)
   simp only [List.drop_zero,List.take_zero,List.nil_append,Int.natCast_zero] at this
   exact this
 | false =>
   simp only [Bool.false_eq_true,if_false,cLt_eq]
   rw [if_pos hab]
   unfold V.szD V.cmp
   by_cases h:val a < val b
   · simp only [h, if_true]
     rw [show decide ((-1:Int) < 0) = true by decide]
     simp only [if_true]
     have := plus_l1_val b a hb.2 ha.2 hb.1 ha.1 (fun x => k0 bn x) (100 + b.length + a.length + 8 + b.length) 0 0 b (by omega) (by omega) hb.1 (by omega) (by omega)
     simp only [List.drop_zero,List.take_zero,List.nil_append,Int.natCast_zero,Int.neg_zero] at this
     exact this
   · have hc : decide ((if val a < val b then (-1 : Int) else if val b < val a then 1 else 0) < 0) = false := by
       simp only [h,if_false]; split <;> decide
     rw [hc]
     simp only [h,Bool.false_eq_true,if_false]
     have := plus_l1_val a b ha.2 hb.2 ha.1 hb.1 (fun x => k0 an x) (100 + a.length + b.length + 8 + a.length) 0 0 a (by omega) (by omega) ha.1 (by omega) (by omega)
     simp only [List.drop_zero,List.take_zero,List.nil_append,Int.natCast_zero,Int.neg_zero] at this
     exact this
noncomputable def plus_h {α:Type} (ds:List D) (Q:SV → Hp → Option α):Option α :=
 dB ds fun an ds => dL (K.int IntKind.i64) ds fun ad ds => dB ds fun bn ds => dL (K.int IntKind.i64) ds fun bd ds => dE ds (if V.ok8 ad = true ∧ V.ok8 bd = true then Q (.agg [.bool (V.plN an ad bn bd),.arr (.int .i64) (V.plD an ad bn bd) 8]) ([]) else none)
theorem plus_h_ok {α:Type}:FnOk E.P 97 (fEnt (α := α) plus_sp plus_h) :=
 fEnt_ok E (look_rsize_ok) (exec_sound E E_ok (look_rsize_ok) (plus_l1_lps_ok) 400) fun ds Q r h => by
   unfold plus_h at h
   obtain ⟨an,ds,rfl,h1⟩ := dB_inv h
   obtain ⟨ad,ds,rfl,h2⟩ := dL_inv h1
   obtain ⟨bn,ds,rfl,h3⟩ := dB_inv h2
   obtain ⟨bd,ds,rfl,h4⟩ := dL_inv h3
   obtain ⟨rfl,hE⟩ := dE_inv h4
   split at hE
   · rename_i hg
     exact ⟨[SV.agg [SV.bool an,SV.arr (K.int IntKind.i64) ad (nat_lit 8)],SV.agg [SV.bool bn,SV.arr (K.int IntKind.i64) bd (nat_lit 8)]],[],fun vs => by kernel_rfl,(plus_eq an ad bn bd Q).trans ((plus_v an ad bn bd hg.1 hg.2 _).trans hE)⟩
   · cases hE
noncomputable def look_plus {α:Type}:LookF α := addFn 97 (fEnt plus_sp plus_h) look_rsize
theorem look_plus_ok {α:Type}:LookOk E.P (look_plus (α := α)) := addFn_ok plus_h_ok (look_rsize_ok)
def wv (n:Bool) (D:List Int):Int := if n then -val D else val D
theorem plD_ok (an:Bool) {a:List Int} (bn:Bool) {b:List Int} (ha:V.ok8 a = true) (hb:V.ok8 b = true):V.ok8 (V.plD an a bn b) = true := by
 rw [ok8_iff] at ha hb ⊢
 unfold V.plD
 split
 · exact ⟨by rw [linL_len _ _ _ _ (by omega)]; exact ha.1,linL_ok _ _ _ _⟩
 · split
   · exact ⟨by rw [linL_len _ _ _ _ (by omega)]; exact hb.1,linL_ok _ _ _ _⟩
   · exact ⟨by rw [linL_len _ _ _ _ (by omega)]; exact ha.1,linL_ok _ _ _ _⟩
theorem p8:(16777216:Int) ^ 8 = 6277101735386680763835789423207666416102355444464034512896 := by kernel_rfl
theorem pl_val (an:Bool) {a:List Int} (bn:Bool) {b:List Int} (ha:V.ok8 a = true) (hb:V.ok8 b = true) (h1:val a + val b < 6277101735386680763835789423207666416102355444464034512896) :
   wv (V.plN an a bn b) (V.plD an a bn b) = wv an a + wv bn b ∧ val (V.plD an a bn b) ≤ val a + val b := by
 rw [ok8_iff] at ha hb
 have va := val_bound ha.2
 have vb := val_bound hb.2
 unfold V.plN V.plD wv
 cases hs:(an == bn) with
 | true =>
   have:an = bn := by simpa using hs
   subst this
   simp only [if_true]
   rw [linL_val 1 a b 0 (by omega),ha.1,p8,Int.one_mul,Int.add_zero,Int.emod_eq_of_lt (by omega) h1]
   cases an <;> simp <;> omega
 | false =>
   have hne:an = !bn := by cases an <;> cases bn <;> simp_all
   subst hne
   simp only [Bool.false_eq_true,if_false]
   by_cases h:val a < val b
   · simp only [h, if_true]
     rw [linL_val (-1) b a 0 (by omega),hb.1,p8,Int.emod_eq_of_lt (by omega) (by omega)]
     cases bn <;> simp <;> omega
   · simp only [h, if_false]
     rw [linL_val (-1) a b 0 (by omega),ha.1,p8,Int.emod_eq_of_lt (by omega) (by omega)]
     cases bn <;> simp <;> omega
end
end Go.Proofs.YtlagndfhibkjpaaGreat.Sx
