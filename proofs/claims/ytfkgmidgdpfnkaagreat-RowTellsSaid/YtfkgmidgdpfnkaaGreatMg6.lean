/- Texts of the walk, merged. -/
import Derived.Test.YtfkgmidgdpfnkaaGreatMg5
set_option linter.unusedVariables false
set_option linter.unusedSimpArgs false
namespace Go.Proofs.YtfkgmidgdpfnkaaGreat.Sx
section
open Go
set_option maxRecDepth 20000
noncomputable def M.rwweight {α:Type} (bad:Bool) (ra:Int) (rb:Int) (wx:Int) (wy:Int) (wz:Int) (aax:Int) (aay:Int) (aaz:Int) (abx:Int) (aby:Int) (abz:Int) (rt:Bool) (goal:Int) (low:Int) (high:Int) (rof:Int) (rub:Int) (rsum:Int) (l:List L31) (k0:Int → Bool → Option α):Option α :=
 let s1 := V.gn (V.mAdd (0:Int) (0:Int)) bad;
let s2 := V.tCross (abx,aby,abz) (wx,wy,wz);
let s3 := V.tCross (aax,aay,aaz) (wx,wy,wz);
let s4 := V.y3 s3;
let s5 := V.y3 s2;
let s6 := V.z3 s2;
let s7 := V.z3 s3;
let s8 := V.x3 s2;
let s9 := V.x3 s3;
let s10 := (↑(List.length l):Int);
let s11 := List.getD l (Int.toNat rb) zBy;
let s12 := List.getD l (Int.toNat ra) zBy;
let s13 := Prod.fst s12;
let s14 := Prod.fst s11;
let s15 := Prod.snd (Prod.snd (Prod.snd (Prod.snd s11)));
let s16 := Prod.snd (Prod.snd (Prod.snd (Prod.snd s12)));
let s17 := Prod.fst s15;
let s18 := Prod.snd s16;
let s19 := Prod.fst s16;
let s20 := Prod.snd s15;
let s21 := Prod.snd s20;
let s22 := Prod.snd s18;
let s23 := Prod.fst s18;
let s24 := Prod.fst s20;
let s25 := Prod.snd s21;
let s26 := Prod.fst s22;
let s27 := Prod.snd s22;
let s28 := Prod.fst s21;
let s29 := Prod.fst s27;
let s30 := Prod.fst s25;
let s31 := Prod.snd (Prod.snd (Prod.snd (Prod.snd (Prod.snd (Prod.snd (Prod.snd s25))))));
let s32 := Prod.snd (Prod.snd (Prod.snd (Prod.snd (Prod.snd (Prod.snd (Prod.snd s27))))));
let s33 := Prod.snd s31;
let s34 := Prod.snd s32;
let s35 := V.mDiv (4294967296:Int) (Prod.fst s32);
let s36 := V.mDiv (4294967296:Int) (Prod.fst s31);
let s37 := Prod.fst s33;
let s38 := Prod.snd s34;
let s39 := Prod.snd s33;
let s40 := Prod.fst s34;
let s41 := Prod.fst s39;
let s42 := Prod.fst s38;
let s43 := Prod.fst (Prod.snd s38);
let s44 := Prod.fst (Prod.snd s39);
let s45 := V.tDot (wx,wy,wz) (V.bYld s14 s17 s24 s28 s30 s37 s41 s44 wx wy wz);
let s46 := V.tDot (wx,wy,wz) (V.bYld s13 s19 s23 s26 s29 s40 s42 s43 wx wy wz);
let s47 := V.gv s45;
let s48 := V.mAdd (0:Int) (V.gv s46);
let s49 := V.mAdd (V.gv (V.mAdd (0:Int) (0:Int))) s47;
let s50 := V.mAdd (V.gv s48) (0:Int);
let s51 := V.tDot (V.q3 s3) (V.bYld s13 s19 s23 s26 s29 s40 s42 s43 s9 s4 s7);
let s52 := V.tDot (V.q3 s2) (V.bYld s14 s17 s24 s28 s30 s37 s41 s44 s8 s5 s6);
let s53 := V.mAdd (V.gv s36) (V.gv s52);
let s54 := V.mAdd (V.gv s35) (V.gv s51);
let s55 := V.gv s53;
let s56 := V.mAdd (0:Int) (V.gv s54);
let s57 := V.mAdd (V.gv s56) (0:Int);
let s58 := V.mAdd (V.gv (V.mAdd (0:Int) (0:Int))) s55;
let s59 := V.mAdd (V.gv s48) s47;
let s60 := V.mAdd (V.gv s48) s55;
let s61 := V.mAdd (V.gv s56) s47;
let s62 := V.mAdd (V.gv s56) s55;
let s63 := V.gn s48 (V.gn s46 (V.bYldB s13 s19 s23 s26 s29 s40 s42 s43 wx wy wz bad));
let s64 := V.gn s56 (V.gn s54 (V.gn s51 (V.bYldB s13 s19 s23 s26 s29 s40 s42 s43 s9 s4 s7 (V.gn s35 (V.on s3 bad)))));
if cLt ra (0:Int) = true then
 if cLt rb (0:Int) = true then k0 (V.gv (V.mAdd (V.gv (V.mAdd (0:Int) (0:Int))) (0:Int))) (V.gn (V.mAdd (V.gv (V.mAdd (0:Int) (0:Int))) (0:Int)) s1)
 else
   if cLe s10 rb = true then k0 (V.gv (V.mAdd (V.gv (V.mAdd (0:Int) (0:Int))) (0:Int))) (V.gn (V.mAdd (V.gv (V.mAdd (0:Int) (0:Int))) (0:Int)) s1)
   else if (0:Int) ≤ rb ∧ rb < s10 then if (!cEq s14 (2:Int)) = true then k0 (V.gv (V.mAdd (V.gv (V.mAdd (0:Int) (0:Int))) (0:Int))) (V.gn (V.mAdd (V.gv (V.mAdd (0:Int) (0:Int))) (0:Int)) s1) else if rt = true then k0 (V.gv s49) (V.gn s49 (V.gn s45 (V.bYldB s14 s17 s24 s28 s30 s37 s41 s44 wx wy wz s1))) else k0 (V.gv s58) (V.gn s58 (V.gn s53 (V.gn s52 (V.bYldB s14 s17 s24 s28 s30 s37 s41 s44 s8 s5 s6 (V.gn s36 (V.on s2 s1)))))) else none
else
 if cLe s10 ra = true then
   if cLt rb (0:Int) = true then k0 (V.gv (V.mAdd (V.gv (V.mAdd (0:Int) (0:Int))) (0:Int))) (V.gn (V.mAdd (V.gv (V.mAdd (0:Int) (0:Int))) (0:Int)) s1)
   else
     if cLe s10 rb = true then k0 (V.gv (V.mAdd (V.gv (V.mAdd (0:Int) (0:Int))) (0:Int))) (V.gn (V.mAdd (V.gv (V.mAdd (0:Int) (0:Int))) (0:Int)) s1)
     else if (0:Int) ≤ rb ∧ rb < s10 then if (!cEq s14 (2:Int)) = true then k0 (V.gv (V.mAdd (V.gv (V.mAdd (0:Int) (0:Int))) (0:Int))) (V.gn (V.mAdd (V.gv (V.mAdd (0:Int) (0:Int))) (0:Int)) s1) else if rt = true then k0 (V.gv s49) (V.gn s49 (V.gn s45 (V.bYldB s14 s17 s24 s28 s30 s37 s41 s44 wx wy wz s1))) else k0 (V.gv s58) (V.gn s58 (V.gn s53 (V.gn s52 (V.bYldB s14 s17 s24 s28 s30 s37 s41 s44 s8 s5 s6 (V.gn s36 (V.on s2 s1)))))) else none
 else
   if (0:Int) ≤ ra ∧ ra < s10 then
     if cLt rb (0:Int) = true then if (!cEq s13 (2:Int)) = true then k0 (V.gv (V.mAdd (V.gv (V.mAdd (0:Int) (0:Int))) (0:Int))) (V.gn (V.mAdd (V.gv (V.mAdd (0:Int) (0:Int))) (0:Int)) s1) else if rt = true then k0 (V.gv s50) (V.gn s50 s63) else k0 (V.gv s57) (V.gn s57 s64)
     else
       if cLe s10 rb = true then if (!cEq s13 (2:Int)) = true then k0 (V.gv (V.mAdd (V.gv (V.mAdd (0:Int) (0:Int))) (0:Int))) (V.gn (V.mAdd (V.gv (V.mAdd (0:Int) (0:Int))) (0:Int)) s1) else if rt = true then k0 (V.gv s50) (V.gn s50 s63) else k0 (V.gv s57) (V.gn s57 s64)
       else
         if (0:Int) ≤ rb ∧ rb < s10 then
           if (!cEq s13 (2:Int)) = true then if (!cEq s14 (2:Int)) = true then k0 (V.gv (V.mAdd (V.gv (V.mAdd (0:Int) (0:Int))) (0:Int))) (V.gn (V.mAdd (V.gv (V.mAdd (0:Int) (0:Int))) (0:Int)) s1) else if rt = true then k0 (V.gv s49) (V.gn s49 (V.gn s45 (V.bYldB s14 s17 s24 s28 s30 s37 s41 s44 wx wy wz s1))) else k0 (V.gv s58) (V.gn s58 (V.gn s53 (V.gn s52 (V.bYldB s14 s17 s24 s28 s30 s37 s41 s44 s8 s5 s6 (V.gn s36 (V.on s2 s1))))))
           else
             if rt = true then if (!cEq s14 (2:Int)) = true then k0 (V.gv s50) (V.gn s50 s63) else if rt = true then k0 (V.gv s59) (V.gn s59 (V.gn s45 (V.bYldB s14 s17 s24 s28 s30 s37 s41 s44 wx wy wz s63))) else k0 (V.gv s60) (V.gn s60 (V.gn s53 (V.gn s52 (V.bYldB s14 s17 s24 s28 s30 s37 s41 s44 s8 s5 s6 (V.gn s36 (V.on s2 s63))))))
             else if (!cEq s14 (2:Int)) = true then k0 (V.gv s57) (V.gn s57 s64) else if rt = true then k0 (V.gv s61) (V.gn s61 (V.gn s45 (V.bYldB s14 s17 s24 s28 s30 s37 s41 s44 wx wy wz s64))) else k0 (V.gv s62) (V.gn s62 (V.gn s53 (V.gn s52 (V.bYldB s14 s17 s24 s28 s30 s37 s41 s44 s8 s5 s6 (V.gn s36 (V.on s2 s64))))))
         else none
   else none
theorem rwweight_eq {α:Type} (bad:Bool) (ra:Int) (rb:Int) (wx:Int) (wy:Int) (wz:Int) (aax:Int) (aay:Int) (aaz:Int) (abx:Int) (aby:Int) (abz:Int) (rt:Bool) (goal:Int) (low:Int) (high:Int) (rof:Int) (rub:Int) (rsum:Int) (l:List L31) (v0:Value) (Q:SV → Hp → Option α):callI E look_bdspin (exec E look_bdspin noLps 400) 11 ([SV.ptr (nat_lit 0) (nat_lit 0),SV.agg [SV.int .i64 ra,SV.int .i64 rb,SV.int .i64 wx,SV.int .i64 wy,SV.int .i64 wz,SV.int .i64 aax,SV.int .i64 aay,SV.int .i64 aaz,SV.int .i64 abx,SV.int .i64 aby,SV.int .i64 abz,SV.bool rt,SV.int .i64 goal,SV.int .i64 low,SV.int .i64 high,SV.int .i64 rof,SV.int .i64 rub,SV.int .i64 rsum],
 SV.ros v0
   kBy
   l]) ([.cells [SV.bool bad] (nat_lit 27)]) Q = M.rwweight bad ra rb wx wy wz aax aay aaz abx aby abz rt goal low high rof rub rsum l (fun (x65:Int) (x66:Bool) => Q (SV.int .i64 x65) ([.cells [SV.bool x66] (nat_lit 27)])) := by kernel_rfl
def rwweight_sp:List AS := [.ptr 27 [.bool false],.val (.agg [.int .i64 0,.int .i64 0,.int .i64 0,.int .i64 0,.int .i64 0,.int .i64 0,.int .i64 0,.int .i64 0,.int .i64 0,.int .i64 0,.int .i64 0,.bool false,.int .i64 0,.int .i64 0,.int .i64 0,.int .i64 0,.int .i64 0,.int .i64 0]),.ro (.st (.i .i64) [.i .i64,.i .i64,.i .i64,.i .i64,.i .i64,.i .i64,.i .i64,.i .i64,.i .i64,.i .i64,.i .i64,.i .i64,.i .i64,.i .i64,.i .i64,.i .i64,.i .i64,.i .i64,.i .i64,.i .i64,.i .i64,.i .i64,.p,.i .i64,.i .i64,.i .i64,.b,.i .i64,.b,.b])]
theorem rwweight_v {α:Type} (bad:Bool) (ra:Int) (rb:Int) (wx:Int) (wy:Int) (wz:Int) (aax:Int) (aay:Int) (aaz:Int) (abx:Int) (aby:Int) (abz:Int) (rt:Bool) (goal:Int) (low:Int) (high:Int) (rof:Int) (rub:Int) (rsum:Int) (l:List L31) (k0:Int → Bool → Option α):M.rwweight bad ra rb wx wy wz aax aay aaz abx aby abz rt goal low high rof rub rsum l k0 = k0 (V.wgt (wx,wy,wz) rt (aax,aay,aaz) (abx,aby,abz) (V.bAt l ra) (V.bAt l rb)) (V.wgtB (wx,wy,wz) rt (aax,aay,aaz) (abx,aby,abz) (V.bAt l ra) (V.bAt l rb) bad) := by
 have ca:∀ r:Int,(cLt r 0 = true ∧ True ∧ True) ∨ (cLt r 0 = false ∧ cLe (l.length:Int) r = true ∧ True) ∨ (cLt r 0 = false ∧ cLe (l.length:Int) r = false ∧ (0 ≤ r ∧ r < (l.length:Int))) := fun r => by
   simp only [cLt_eq,cLe_eq,decide_eq_true_eq,decide_eq_false_iff_not,and_true]; omega
 unfold M.rwweight V.wgt V.wgtB V.bAt V.ePt V.ePtB V.byl V.bylB
 rcases ca ra with ⟨a1,a2,a3⟩ | ⟨a1,a2,a3⟩ | ⟨a1,a2,a3⟩ <;> rcases ca rb with ⟨b1,b2,b3⟩ | ⟨b1,b2,b3⟩ | ⟨b1,b2,b3⟩ <;> cases rt
 all_goals
   simp only [a1,a2,a3,b1,b2,b3,and_self,if_true,Bool.false_eq_true,if_false] <;> first
     | rfl
     | (cases cEq (List.getD l ra.toNat zBy).1 2 <;> first | rfl | (cases cEq (List.getD l rb.toNat zBy).1 2 <;> rfl))
     | (cases cEq (List.getD l rb.toNat zBy).1 2 <;> rfl)
noncomputable def rwweight_h {α:Type} (ds:List D) (Q:SV → Hp → Option α):Option α :=
 dB ds fun bad ds => dI ds fun ra ds => dI ds fun rb ds => dI ds fun wx ds => dI ds fun wy ds => dI ds fun wz ds => dI ds fun aax ds => dI ds fun aay ds => dI ds fun aaz ds => dI ds fun abx ds => dI ds fun aby ds => dI ds fun abz ds => dB ds fun rt ds => dI ds fun goal ds => dI ds fun low ds => dI ds fun high ds => dI ds fun rof ds => dI ds fun rub ds => dI ds fun rsum ds => dL kBy ds fun l ds => dE ds (Q (.int .i64 (V.wgt (wx,wy,wz) rt (aax,aay,aaz) (abx,aby,abz) (V.bAt l ra) (V.bAt l rb))) ([.cells [.bool (V.wgtB (wx,wy,wz) rt (aax,aay,aaz) (abx,aby,abz) (V.bAt l ra) (V.bAt l rb) bad)] 27]))
theorem rwweight_h_ok {α:Type}:FnOk E.P 11 (fEnt (α := α) rwweight_sp rwweight_h) :=
 fEntR_ok E (look_bdspin_ok) (exec_sound E E_ok (look_bdspin_ok) (noLps_ok _) 400) fun ds Q r h => by
   unfold rwweight_h at h
   obtain ⟨bad,ds,rfl,h1⟩ := dB_inv h
   obtain ⟨ra,ds,rfl,h2⟩ := dI_inv h1
   obtain ⟨rb,ds,rfl,h3⟩ := dI_inv h2
   obtain ⟨wx,ds,rfl,h4⟩ := dI_inv h3
   obtain ⟨wy,ds,rfl,h5⟩ := dI_inv h4
   obtain ⟨wz,ds,rfl,h6⟩ := dI_inv h5
   obtain ⟨aax,ds,rfl,h7⟩ := dI_inv h6
   obtain ⟨aay,ds,rfl,h8⟩ := dI_inv h7
   obtain ⟨aaz,ds,rfl,h9⟩ := dI_inv h8
   obtain ⟨abx,ds,rfl,h10⟩ := dI_inv h9
   obtain ⟨aby,ds,rfl,h11⟩ := dI_inv h10
   obtain ⟨abz,ds,rfl,h12⟩ := dI_inv h11
   obtain ⟨rt,ds,rfl,h13⟩ := dB_inv h12
   obtain ⟨goal,ds,rfl,h14⟩ := dI_inv h13
   obtain ⟨low,ds,rfl,h15⟩ := dI_inv h14
   obtain ⟨high,ds,rfl,h16⟩ := dI_inv h15
   obtain ⟨rof,ds,rfl,h17⟩ := dI_inv h16
   obtain ⟨rub,ds,rfl,h18⟩ := dI_inv h17
   obtain ⟨rsum,ds,rfl,h19⟩ := dI_inv h18
   obtain ⟨l,ds,rfl,h20⟩ := dL_inv h19
   obtain ⟨rfl,hE⟩ := dE_inv h20
   exact ⟨_,_,hE,fun vs => ⟨_,_,by kernel_rfl,(rwweight_eq bad ra rb wx wy wz aax aay aaz abx aby abz rt goal low high rof rub rsum l (vs.tail.tail.headD undef) _).trans (rwweight_v bad ra rb wx wy wz aax aay aaz abx aby abz rt goal low high rof rub rsum l _)⟩⟩
end
section
open Go
set_option maxRecDepth 20000
noncomputable def look_RwC_rwweight {α:Type}:LookF α := addFn 11 (fEnt rwweight_sp rwweight_h) look_rwrate
theorem look_RwC_rwweight_ok {α:Type}:LookOk E.P (look_RwC_rwweight (α := α)) := addFn_ok rwweight_h_ok (look_rwrate_ok)
noncomputable def M.rwends {α:Type} (bad:Bool) (rows:List L18) (n:Int) (k0:Int → Int → Bool → Option α):Option α := let s1 := (↑(List.length rows):Int); let s2 := Prod.snd (Prod.snd (Prod.snd (Prod.snd (Prod.snd (Prod.snd (Prod.snd (Prod.snd (Prod.snd (Prod.snd (Prod.snd (Prod.snd (Prod.snd (List.getD rows (Int.toNat n) zRw))))))))))))); let s3 := Prod.fst s2; let s4 := Prod.snd s2; let s5 := Prod.fst s4; let s6 := Prod.snd s4; let s7 := Prod.fst s6; let s8 := V.mMul (Prod.fst (Prod.snd s6)) (Prod.snd (Prod.snd (Prod.snd (Prod.snd (Prod.snd (Prod.snd (Prod.snd (Prod.snd (Prod.snd (Prod.snd (Prod.snd (Prod.snd (Prod.snd (Prod.snd (Prod.snd (Prod.snd (Prod.snd (List.getD rows (Int.toNat s7) zRw)))))))))))))))))); let s9 := V.gv s8; let s10 := if (0:Int) > s9 then (0:Int) else s9; if cLt n (0:Int) = true then k0 (0:Int) (0:Int) bad else if cLe s1 n = true then k0 (0:Int) (0:Int) bad else if (0:Int) ≤ n ∧ n < s1 then if cLe (0:Int) s7 = true then if cLt s7 n = true then if (0:Int) ≤ s7 ∧ s7 < s1 then k0 (IntKind.wrap .i64 ((0:Int) - s10)) s10 (V.gn s8 bad) else none else k0 s3 (if s5 > s3 then s5 else s3) bad else k0 s3 (if s5 > s3 then s5 else s3) bad else none
theorem rwends_eq {α:Type} (bad:Bool) (rows:List L18) (n:Int) (v0:Value) (Q:SV → Hp → Option α):callI E look_RwC_rwweight (exec E look_RwC_rwweight noLps 400) 13 ([SV.ptr (nat_lit 0) (nat_lit 0),SV.ros v0 kRw rows,SV.int .i64 n]) ([.cells [SV.bool bad] (nat_lit 27)]) Q = M.rwends bad rows n (fun (x11 x12:Int) (x13:Bool) => Q (SV.tup [SV.int .i64 x11,SV.int .i64 x12]) ([.cells [SV.bool x13] (nat_lit 27)])) := by kernel_rfl
def rwends_sp:List AS := [.ptr 27 [.bool false],.ro (.st (.i .i64) [.i .i64,.i .i64,.i .i64,.i .i64,.i .i64,.i .i64,.i .i64,.i .i64,.i .i64,.i .i64,.b,.i .i64,.i .i64,.i .i64,.i .i64,.i .i64,.i .i64]),.val (.int .i64 0)]
theorem rwends_v {α:Type} (bad:Bool) (rows:List L18) (n:Int) (k0:Int → Int → Bool → Option α):M.rwends bad rows n k0 = k0 (V.eLow rows n) (V.eHigh rows n) (V.eB rows n bad) := by
 have ca:(cLt n 0 = true ∧ True ∧ True) ∨ (cLt n 0 = false ∧ cLe (rows.length:Int) n = true ∧ True) ∨ (cLt n 0 = false ∧ cLe (rows.length:Int) n = false ∧ (0 ≤ n ∧ n < (rows.length:Int))) := by
   simp only [cLt_eq,cLe_eq,decide_eq_true_eq,decide_eq_false_iff_not,and_true]; omega
 have ib:∀ o:Int,cLe 0 o = true → cLt o n = true → cLe (rows.length:Int) n = false → (0 ≤ o ∧ o < (rows.length:Int)) := fun o h1 h2 h3 => by rw [cLe_eq] at h1 h3; rw [cLt_eq] at h2; simp at h1 h2 h3; omega
 unfold M.rwends V.eLow V.eHigh V.eB V.eM
 rcases ca with ⟨a1,a2,a3⟩ | ⟨a1,a2,a3⟩ | ⟨a1,a2,a3⟩
 · simp only [a1,and_self,if_true,Bool.false_eq_true,if_false]
 · simp only [a1,a2,and_self,if_true,Bool.false_eq_true,if_false]
 · rcases Bool.eq_false_or_eq_true (cLe 0 (List.getD rows n.toNat zRw).2.2.2.2.2.2.2.2.2.2.2.2.2.2.2.1) with h3 | h3
   · rcases Bool.eq_false_or_eq_true (cLt (List.getD rows n.toNat zRw).2.2.2.2.2.2.2.2.2.2.2.2.2.2.2.1 n) with h4 | h4
     · have h5 := ib _ h3 h4 a2
       simp only [a1,a2,a3,h3,h4,h5,and_self,if_true,Bool.false_eq_true,if_false] <;> rfl
     · simp only [a1,a2,a3,h3,h4,and_self,if_true,Bool.false_eq_true,if_false] <;> rfl
   · simp only [a1,a2,a3,h3,and_self,if_true,Bool.false_eq_true,if_false] <;> rfl
noncomputable def rwends_h {α:Type} (ds:List D) (Q:SV → Hp → Option α):Option α :=
 dB ds fun bad ds => dL kRw ds fun rows ds => dI ds fun n ds => dE ds (Q (.tup [.int .i64 (V.eLow rows n),.int .i64 (V.eHigh rows n)]) ([.cells [.bool (V.eB rows n bad)] 27]))
theorem rwends_h_ok {α:Type}:FnOk E.P 13 (fEnt (α := α) rwends_sp rwends_h) :=
 fEntR_ok E (look_RwC_rwweight_ok) (exec_sound E E_ok (look_RwC_rwweight_ok) (noLps_ok _) 400) fun ds Q r h => by
   unfold rwends_h at h
   obtain ⟨bad,ds,rfl,h1⟩ := dB_inv h
   obtain ⟨rows,ds,rfl,h2⟩ := dL_inv h1
   obtain ⟨n,ds,rfl,h3⟩ := dI_inv h2
   obtain ⟨rfl,hE⟩ := dE_inv h3
   exact ⟨_,_,hE,fun vs => ⟨_,_,by kernel_rfl,(rwends_eq bad rows n (vs.tail.headD undef) _).trans (rwends_v bad rows n _)⟩⟩
noncomputable def look_rwends {α:Type}:LookF α := addFn 13 (fEnt rwends_sp rwends_h) look_RwC_rwweight
theorem look_rwends_ok {α:Type}:LookOk E.P (look_rwends (α := α)) := addFn_ok rwends_h_ok (look_RwC_rwweight_ok)
noncomputable def M.rwwish {α:Type} (bad:Bool) (rows:List L18) (n:Int) (l:List L31) (k0:Int → Bool → Option α):Option α := let s16 := (↑(List.length rows):Int); let s17 := List.getD rows (Int.toNat n) zRw; let s18 := Prod.snd s17; let s19 := V.bAt l (Prod.fst s17); let s20 := Prod.snd s18; let s21 := V.bAt l (Prod.fst s18); let s22 := Prod.snd s20; let s23 := Prod.snd s22; let s24 := Prod.snd s23; let s25 := Prod.snd s24; let s26 := Prod.snd s25; let s27 := Prod.snd s26; let s28 := Prod.snd s27; let s29 := Prod.snd s28; let s30 := Prod.snd s29; let s31 := Prod.snd s30; let s32 := Prod.fst s30; let s33 := Prod.snd (Prod.snd (Prod.snd (Prod.snd (Prod.snd s31)))); let s34 := (Prod.fst s20,Prod.fst s22,Prod.fst s23); let s35 := (Prod.fst s24,Prod.fst s25,Prod.fst s26); let s36 := (Prod.fst s27,Prod.fst s28,Prod.fst s29); let s37 := V.wgt s34 s32 s35 s36 s19 s21; let s38 := V.wgtB s34 s32 s35 s36 s19 s21 bad; let s39 := V.mSub (Prod.fst s31) (V.rate s34 s32 s35 s36 s19 s21); let s40 := V.mDiv (V.gv s39) s37; let s41 := V.mAdd s33 (V.gv s40); let s42 := V.gv s41; let s43 := if V.eLow rows n > s42 then V.eLow rows n else s42; if cLt n (0:Int) = true then k0 (0:Int) bad else if cLe s16 n = true then k0 (0:Int) bad else if (0:Int) ≤ n ∧ n < s16 then if cLt s37 (64:Int) = true then k0 s33 s38 else k0 (if V.eHigh rows n < s43 then V.eHigh rows n else s43) (V.eB rows n (V.gn s41 (V.gn s40 (V.gn s39 (V.rateB s34 s32 s35 s36 s19 s21 s38))))) else none
theorem rwwish_eq {α:Type} (bad:Bool) (rows:List L18) (n:Int) (l:List L31) (v14:Value) (v15:Value) (Q:SV → Hp → Option α):callI E look_rwends (exec E look_rwends noLps 400) 15 ([SV.ptr (nat_lit 0) (nat_lit 0),SV.ros v14 kRw rows,SV.int .i64 n,
 SV.ros v15
   kBy
   l]) ([.cells [SV.bool bad] (nat_lit 27)]) Q = M.rwwish bad rows n l (fun (x44:Int) (x45:Bool) => Q (SV.int .i64 x44) ([.cells [SV.bool x45] (nat_lit 27)])) := by kernel_rfl
def rwwish_sp:List AS := [.ptr 27 [.bool false],.ro (.st (.i .i64) [.i .i64,.i .i64,.i .i64,.i .i64,.i .i64,.i .i64,.i .i64,.i .i64,.i .i64,.i .i64,.b,.i .i64,.i .i64,.i .i64,.i .i64,.i .i64,.i .i64]),.val (.int .i64 0),.ro (.st (.i .i64) [.i .i64,.i .i64,.i .i64,.i .i64,.i .i64,.i .i64,.i .i64,.i .i64,.i .i64,.i .i64,.i .i64,.i .i64,.i .i64,.i .i64,.i .i64,.i .i64,.i .i64,.i .i64,.i .i64,.i .i64,.i .i64,.i .i64,.p,.i .i64,.i .i64,.i .i64,.b,.i .i64,.b,.b])]
theorem rwwish_v {α:Type} (bad:Bool) (rows:List L18) (n:Int) (l:List L31) (k0:Int → Bool → Option α):M.rwwish bad rows n l k0 = k0 (V.wsh rows n l) (V.wshB rows n l bad) := by
 have ca:(cLt n 0 = true ∧ True ∧ True) ∨ (cLt n 0 = false ∧ cLe (rows.length:Int) n = true ∧ True) ∨ (cLt n 0 = false ∧ cLe (rows.length:Int) n = false ∧ (0 ≤ n ∧ n < (rows.length:Int))) := by
   simp only [cLt_eq,cLe_eq,decide_eq_true_eq,decide_eq_false_iff_not,and_true]; omega
 unfold M.rwwish V.wsh V.wshB V.wS V.wW V.wR
 rcases ca with ⟨a1,a2,a3⟩ | ⟨a1,a2,a3⟩ | ⟨a1,a2,a3⟩
 · simp only [a1,and_self,if_true,Bool.false_eq_true,if_false]
 · simp only [a1,a2,and_self,if_true,Bool.false_eq_true,if_false]
 · rcases Bool.eq_false_or_eq_true (cLt (V.wgt ((List.getD rows n.toNat zRw).2.2.1,(List.getD rows n.toNat zRw).2.2.2.1,(List.getD rows n.toNat zRw).2.2.2.2.1) (List.getD rows n.toNat zRw).2.2.2.2.2.2.2.2.2.2.2.1 ((List.getD rows n.toNat zRw).2.2.2.2.2.1,(List.getD rows n.toNat zRw).2.2.2.2.2.2.1,(List.getD rows n.toNat zRw).2.2.2.2.2.2.2.1) ((List.getD rows n.toNat zRw).2.2.2.2.2.2.2.2.1,(List.getD rows n.toNat zRw).2.2.2.2.2.2.2.2.2.1,(List.getD rows n.toNat zRw).2.2.2.2.2.2.2.2.2.2.1) (V.bAt l (List.getD rows n.toNat zRw).1) (V.bAt l (List.getD rows n.toNat zRw).2.1)) 64) with h3 | h3 <;> simp only [a1,a2,a3,h3,and_self,if_true,Bool.false_eq_true,if_false] <;> rfl
noncomputable def rwwish_h {α:Type} (ds:List D) (Q:SV → Hp → Option α):Option α :=
 dB ds fun bad ds => dL kRw ds fun rows ds => dI ds fun n ds => dL kBy ds fun l ds => dE ds (Q (.int .i64 (V.wsh rows n l)) ([.cells [.bool (V.wshB rows n l bad)] 27]))
theorem rwwish_h_ok {α:Type}:FnOk E.P 15 (fEnt (α := α) rwwish_sp rwwish_h) :=
 fEntR_ok E (look_rwends_ok) (exec_sound E E_ok (look_rwends_ok) (noLps_ok _) 400) fun ds Q r h => by
   unfold rwwish_h at h
   obtain ⟨bad,ds,rfl,h1⟩ := dB_inv h
   obtain ⟨rows,ds,rfl,h2⟩ := dL_inv h1
   obtain ⟨n,ds,rfl,h3⟩ := dI_inv h2
   obtain ⟨l,ds,rfl,h4⟩ := dL_inv h3
   obtain ⟨rfl,hE⟩ := dE_inv h4
   exact ⟨_,_,hE,fun vs => ⟨_,_,by kernel_rfl,(rwwish_eq bad rows n l (vs.tail.headD undef) (vs.tail.tail.tail.headD undef) _).trans (rwwish_v bad rows n l _)⟩⟩
noncomputable def look_rwwish {α:Type}:LookF α := addFn 15 (fEnt rwwish_sp rwwish_h) look_rwends
theorem look_rwwish_ok {α:Type}:LookOk E.P (look_rwwish (α := α)) := addFn_ok rwwish_h_ok (look_rwends_ok)
end
end Go.Proofs.YtfkgmidgdpfnkaaGreat.Sx
