/- Texts of the walk, merged. -/
import Derived.Test.YtfkgmidgdpfnkaaGreatMg5
import Derived.Test.YtfkgmidgdpfnkaaGreatMg8
import Derived.Test.YtfkgmidgdpfnkaaGreatMg7
set_option linter.unusedVariables false
set_option linter.unusedSimpArgs false
namespace Go.Proofs.YtfkgmidgdpfnkaaGreat.Sx
section
open Go
set_option maxRecDepth 20000
noncomputable def M.rrweight {α:Type} (bad:Bool) (ra:Int) (rb:Int) (wx:Int) (wy:Int) (wz:Int) (aax:Int) (aay:Int) (aaz:Int) (abx:Int) (aby:Int) (abz:Int) (rt:Bool) (goal:Int) (low:Int) (high:Int) (rof:Int) (rub:Int) (rsum:Int) (l:List L31) (k0:Int → Bool → Option α):Option α :=
 let s1 := V.gn (V.mAdd (0:Int) (0:Int)) bad;
let s2 := V.tCross (abx,aby,abz) (wx,wy,wz);
let s3 := V.tCross (aax,aay,aaz) (wx,wy,wz);
let s4 := V.y3 s3;
let s5 := V.y3 s2;
let s6 := V.z3 s2;
let s7 := V.z3 s3;
let s8 := V.x3 s2;
let s9 := V.x3 s3;
let s10 := (↑(List.length l):Int);
let s11 := List.getD l (Int.toNat rb) zBy;
let s12 := List.getD l (Int.toNat ra) zBy;
let s13 := Prod.fst s12;
let s14 := Prod.fst s11;
let s15 := Prod.snd (Prod.snd (Prod.snd (Prod.snd s11)));
let s16 := Prod.snd (Prod.snd (Prod.snd (Prod.snd s12)));
let s17 := Prod.fst s15;
let s18 := Prod.snd s16;
let s19 := Prod.fst s16;
let s20 := Prod.snd s15;
let s21 := Prod.snd s20;
let s22 := Prod.snd s18;
let s23 := Prod.fst s18;
let s24 := Prod.fst s20;
let s25 := Prod.snd s21;
let s26 := Prod.fst s22;
let s27 := Prod.snd s22;
let s28 := Prod.fst s21;
let s29 := Prod.fst s27;
let s30 := Prod.fst s25;
let s31 := Prod.snd (Prod.snd (Prod.snd (Prod.snd (Prod.snd (Prod.snd (Prod.snd s25))))));
let s32 := Prod.snd (Prod.snd (Prod.snd (Prod.snd (Prod.snd (Prod.snd (Prod.snd s27))))));
let s33 := Prod.snd s31;
let s34 := Prod.snd s32;
let s35 := V.mDiv (4294967296:Int) (Prod.fst s32);
let s36 := V.mDiv (4294967296:Int) (Prod.fst s31);
let s37 := Prod.fst s33;
let s38 := Prod.snd s34;
let s39 := Prod.snd s33;
let s40 := Prod.fst s34;
let s41 := Prod.fst s39;
let s42 := Prod.fst s38;
let s43 := Prod.fst (Prod.snd s38);
let s44 := Prod.fst (Prod.snd s39);
let s45 := V.tDot (wx,wy,wz) (V.bYld s14 s17 s24 s28 s30 s37 s41 s44 wx wy wz);
let s46 := V.tDot (wx,wy,wz) (V.bYld s13 s19 s23 s26 s29 s40 s42 s43 wx wy wz);
let s47 := V.gv s45;
let s48 := V.mAdd (0:Int) (V.gv s46);
let s49 := V.mAdd (V.gv (V.mAdd (0:Int) (0:Int))) s47;
let s50 := V.mAdd (V.gv s48) (0:Int);
let s51 := V.tDot (V.q3 s3) (V.bYld s13 s19 s23 s26 s29 s40 s42 s43 s9 s4 s7);
let s52 := V.tDot (V.q3 s2) (V.bYld s14 s17 s24 s28 s30 s37 s41 s44 s8 s5 s6);
let s53 := V.mAdd (V.gv s36) (V.gv s52);
let s54 := V.mAdd (V.gv s35) (V.gv s51);
let s55 := V.gv s53;
let s56 := V.mAdd (0:Int) (V.gv s54);
let s57 := V.mAdd (V.gv s56) (0:Int);
let s58 := V.mAdd (V.gv (V.mAdd (0:Int) (0:Int))) s55;
let s59 := V.mAdd (V.gv s48) s47;
let s60 := V.mAdd (V.gv s48) s55;
let s61 := V.mAdd (V.gv s56) s47;
let s62 := V.mAdd (V.gv s56) s55;
let s63 := V.gn s48 (V.gn s46 (V.bYldB s13 s19 s23 s26 s29 s40 s42 s43 wx wy wz bad));
let s64 := V.gn s56 (V.gn s54 (V.gn s51 (V.bYldB s13 s19 s23 s26 s29 s40 s42 s43 s9 s4 s7 (V.gn s35 (V.on s3 bad)))));
if cLt ra (0:Int) = true then
 if cLt rb (0:Int) = true then k0 (V.gv (V.mAdd (V.gv (V.mAdd (0:Int) (0:Int))) (0:Int))) (V.gn (V.mAdd (V.gv (V.mAdd (0:Int) (0:Int))) (0:Int)) s1)
 else
   if cLe s10 rb = true then k0 (V.gv (V.mAdd (V.gv (V.mAdd (0:Int) (0:Int))) (0:Int))) (V.gn (V.mAdd (V.gv (V.mAdd (0:Int) (0:Int))) (0:Int)) s1)
   else if (0:Int) ≤ rb ∧ rb < s10 then if (!cEq s14 (2:Int)) = true then k0 (V.gv (V.mAdd (V.gv (V.mAdd (0:Int) (0:Int))) (0:Int))) (V.gn (V.mAdd (V.gv (V.mAdd (0:Int) (0:Int))) (0:Int)) s1) else if rt = true then k0 (V.gv s49) (V.gn s49 (V.gn s45 (V.bYldB s14 s17 s24 s28 s30 s37 s41 s44 wx wy wz s1))) else k0 (V.gv s58) (V.gn s58 (V.gn s53 (V.gn s52 (V.bYldB s14 s17 s24 s28 s30 s37 s41 s44 s8 s5 s6 (V.gn s36 (V.on s2 s1)))))) else none
else
 if cLe s10 ra = true then
   if cLt rb (0:Int) = true then k0 (V.gv (V.mAdd (V.gv (V.mAdd (0:Int) (0:Int))) (0:Int))) (V.gn (V.mAdd (V.gv (V.mAdd (0:Int) (0:Int))) (0:Int)) s1)
   else
     if cLe s10 rb = true then k0 (V.gv (V.mAdd (V.gv (V.mAdd (0:Int) (0:Int))) (0:Int))) (V.gn (V.mAdd (V.gv (V.mAdd (0:Int) (0:Int))) (0:Int)) s1)
     else if (0:Int) ≤ rb ∧ rb < s10 then if (!cEq s14 (2:Int)) = true then k0 (V.gv (V.mAdd (V.gv (V.mAdd (0:Int) (0:Int))) (0:Int))) (V.gn (V.mAdd (V.gv (V.mAdd (0:Int) (0:Int))) (0:Int)) s1) else if rt = true then k0 (V.gv s49) (V.gn s49 (V.gn s45 (V.bYldB s14 s17 s24 s28 s30 s37 s41 s44 wx wy wz s1))) else k0 (V.gv s58) (V.gn s58 (V.gn s53 (V.gn s52 (V.bYldB s14 s17 s24 s28 s30 s37 s41 s44 s8 s5 s6 (V.gn s36 (V.on s2 s1)))))) else none
 else
   if (0:Int) ≤ ra ∧ ra < s10 then
     if cLt rb (0:Int) = true then if (!cEq s13 (2:Int)) = true then k0 (V.gv (V.mAdd (V.gv (V.mAdd (0:Int) (0:Int))) (0:Int))) (V.gn (V.mAdd (V.gv (V.mAdd (0:Int) (0:Int))) (0:Int)) s1) else if rt = true then k0 (V.gv s50) (V.gn s50 s63) else k0 (V.gv s57) (V.gn s57 s64)
     else
       if cLe s10 rb = true then if (!cEq s13 (2:Int)) = true then k0 (V.gv (V.mAdd (V.gv (V.mAdd (0:Int) (0:Int))) (0:Int))) (V.gn (V.mAdd (V.gv (V.mAdd (0:Int) (0:Int))) (0:Int)) s1) else if rt = true then k0 (V.gv s50) (V.gn s50 s63) else k0 (V.gv s57) (V.gn s57 s64)
       else
         if (0:Int) ≤ rb ∧ rb < s10 then
           if (!cEq s13 (2:Int)) = true then if (!cEq s14 (2:Int)) = true then k0 (V.gv (V.mAdd (V.gv (V.mAdd (0:Int) (0:Int))) (0:Int))) (V.gn (V.mAdd (V.gv (V.mAdd (0:Int) (0:Int))) (0:Int)) s1) else if rt = true then k0 (V.gv s49) (V.gn s49 (V.gn s45 (V.bYldB s14 s17 s24 s28 s30 s37 s41 s44 wx wy wz s1))) else k0 (V.gv s58) (V.gn s58 (V.gn s53 (V.gn s52 (V.bYldB s14 s17 s24 s28 s30 s37 s41 s44 s8 s5 s6 (V.gn s36 (V.on s2 s1))))))
           else
             if rt = true then if (!cEq s14 (2:Int)) = true then k0 (V.gv s50) (V.gn s50 s63) else if rt = true then k0 (V.gv s59) (V.gn s59 (V.gn s45 (V.bYldB s14 s17 s24 s28 s30 s37 s41 s44 wx wy wz s63))) else k0 (V.gv s60) (V.gn s60 (V.gn s53 (V.gn s52 (V.bYldB s14 s17 s24 s28 s30 s37 s41 s44 s8 s5 s6 (V.gn s36 (V.on s2 s63))))))
             else if (!cEq s14 (2:Int)) = true then k0 (V.gv s57) (V.gn s57 s64) else if rt = true then k0 (V.gv s61) (V.gn s61 (V.gn s45 (V.bYldB s14 s17 s24 s28 s30 s37 s41 s44 wx wy wz s64))) else k0 (V.gv s62) (V.gn s62 (V.gn s53 (V.gn s52 (V.bYldB s14 s17 s24 s28 s30 s37 s41 s44 s8 s5 s6 (V.gn s36 (V.on s2 s64))))))
         else none
   else none
theorem rrweight_eq {α:Type} (bad:Bool) (ra:Int) (rb:Int) (wx:Int) (wy:Int) (wz:Int) (aax:Int) (aay:Int) (aaz:Int) (abx:Int) (aby:Int) (abz:Int) (rt:Bool) (goal:Int) (low:Int) (high:Int) (rof:Int) (rub:Int) (rsum:Int) (l:List L31) (v0:Value) (Q:SV → Hp → Option α):callI E look_rbspin (exec E look_rbspin noLps 400) 12 ([SV.ptr (nat_lit 0) (nat_lit 0),SV.agg [SV.int .i64 ra,SV.int .i64 rb,SV.int .i64 wx,SV.int .i64 wy,SV.int .i64 wz,SV.int .i64 aax,SV.int .i64 aay,SV.int .i64 aaz,SV.int .i64 abx,SV.int .i64 aby,SV.int .i64 abz,SV.bool rt,SV.int .i64 goal,SV.int .i64 low,SV.int .i64 high,SV.int .i64 rof,SV.int .i64 rub,SV.int .i64 rsum],
 SV.ros v0
   kBy
   l]) ([.cells [SV.bool bad] (nat_lit 29)]) Q = M.rrweight bad ra rb wx wy wz aax aay aaz abx aby abz rt goal low high rof rub rsum l (fun (x65:Int) (x66:Bool) => Q (SV.int .i64 x65) ([.cells [SV.bool x66] (nat_lit 29)])) := by kernel_rfl
def rrweight_sp:List AS := [.ptr 29 [.bool false],.val (.agg [.int .i64 0,.int .i64 0,.int .i64 0,.int .i64 0,.int .i64 0,.int .i64 0,.int .i64 0,.int .i64 0,.int .i64 0,.int .i64 0,.int .i64 0,.bool false,.int .i64 0,.int .i64 0,.int .i64 0,.int .i64 0,.int .i64 0,.int .i64 0]),.ro (.st (.i .i64) [.i .i64,.i .i64,.i .i64,.i .i64,.i .i64,.i .i64,.i .i64,.i .i64,.i .i64,.i .i64,.i .i64,.i .i64,.i .i64,.i .i64,.i .i64,.i .i64,.i .i64,.i .i64,.i .i64,.i .i64,.i .i64,.i .i64,.p,.i .i64,.i .i64,.i .i64,.b,.i .i64,.b,.b])]
theorem rrweight_v {α:Type} (bad:Bool) (ra:Int) (rb:Int) (wx:Int) (wy:Int) (wz:Int) (aax:Int) (aay:Int) (aaz:Int) (abx:Int) (aby:Int) (abz:Int) (rt:Bool) (goal:Int) (low:Int) (high:Int) (rof:Int) (rub:Int) (rsum:Int) (l:List L31) (k0:Int → Bool → Option α):M.rrweight bad ra rb wx wy wz aax aay aaz abx aby abz rt goal low high rof rub rsum l k0 = k0 (V.wgt (wx,wy,wz) rt (aax,aay,aaz) (abx,aby,abz) (V.bAt l ra) (V.bAt l rb)) (V.wgtB (wx,wy,wz) rt (aax,aay,aaz) (abx,aby,abz) (V.bAt l ra) (V.bAt l rb) bad) := by
 have ca:∀ r:Int,(cLt r 0 = true ∧ True ∧ True) ∨ (cLt r 0 = false ∧ cLe (l.length:Int) r = true ∧ True) ∨ (cLt r 0 = false ∧ cLe (l.length:Int) r = false ∧ (0 ≤ r ∧ r < (l.length:Int))) := fun r => by
   simp only [cLt_eq,cLe_eq,decide_eq_true_eq,decide_eq_false_iff_not,and_true]; omega
 unfold M.rrweight V.wgt V.wgtB V.bAt V.ePt V.ePtB V.byl V.bylB
 rcases ca ra with ⟨a1,a2,a3⟩ | ⟨a1,a2,a3⟩ | ⟨a1,a2,a3⟩ <;> rcases ca rb with ⟨b1,b2,b3⟩ | ⟨b1,b2,b3⟩ | ⟨b1,b2,b3⟩ <;> cases rt
 all_goals
   simp only [a1,a2,a3,b1,b2,b3,and_self,if_true,Bool.false_eq_true,if_false] <;> first
     | rfl
     | (cases cEq (List.getD l ra.toNat zBy).1 2 <;> first | rfl | (cases cEq (List.getD l rb.toNat zBy).1 2 <;> rfl))
     | (cases cEq (List.getD l rb.toNat zBy).1 2 <;> rfl)
noncomputable def rrweight_h {α:Type} (ds:List D) (Q:SV → Hp → Option α):Option α :=
 dB ds fun bad ds => dI ds fun ra ds => dI ds fun rb ds => dI ds fun wx ds => dI ds fun wy ds => dI ds fun wz ds => dI ds fun aax ds => dI ds fun aay ds => dI ds fun aaz ds => dI ds fun abx ds => dI ds fun aby ds => dI ds fun abz ds => dB ds fun rt ds => dI ds fun goal ds => dI ds fun low ds => dI ds fun high ds => dI ds fun rof ds => dI ds fun rub ds => dI ds fun rsum ds => dL kBy ds fun l ds => dE ds (Q (.int .i64 (V.wgt (wx,wy,wz) rt (aax,aay,aaz) (abx,aby,abz) (V.bAt l ra) (V.bAt l rb))) ([.cells [.bool (V.wgtB (wx,wy,wz) rt (aax,aay,aaz) (abx,aby,abz) (V.bAt l ra) (V.bAt l rb) bad)] 29]))
theorem rrweight_h_ok {α:Type}:FnOk E.P 12 (fEnt (α := α) rrweight_sp rrweight_h) :=
 fEntR_ok E (look_rbspin_ok) (exec_sound E E_ok (look_rbspin_ok) (noLps_ok _) 400) fun ds Q r h => by
   unfold rrweight_h at h
   obtain ⟨bad,ds,rfl,h1⟩ := dB_inv h
   obtain ⟨ra,ds,rfl,h2⟩ := dI_inv h1
   obtain ⟨rb,ds,rfl,h3⟩ := dI_inv h2
   obtain ⟨wx,ds,rfl,h4⟩ := dI_inv h3
   obtain ⟨wy,ds,rfl,h5⟩ := dI_inv h4
   obtain ⟨wz,ds,rfl,h6⟩ := dI_inv h5
   obtain ⟨aax,ds,rfl,h7⟩ := dI_inv h6
   obtain ⟨aay,ds,rfl,h8⟩ := dI_inv h7
   obtain ⟨aaz,ds,rfl,h9⟩ := dI_inv h8
   obtain ⟨abx,ds,rfl,h10⟩ := dI_inv h9
   obtain ⟨aby,ds,rfl,h11⟩ := dI_inv h10
   obtain ⟨abz,ds,rfl,h12⟩ := dI_inv h11
   obtain ⟨rt,ds,rfl,h13⟩ := dB_inv h12
   obtain ⟨goal,ds,rfl,h14⟩ := dI_inv h13
   obtain ⟨low,ds,rfl,h15⟩ := dI_inv h14
   obtain ⟨high,ds,rfl,h16⟩ := dI_inv h15
   obtain ⟨rof,ds,rfl,h17⟩ := dI_inv h16
   obtain ⟨rub,ds,rfl,h18⟩ := dI_inv h17
   obtain ⟨rsum,ds,rfl,h19⟩ := dI_inv h18
   obtain ⟨l,ds,rfl,h20⟩ := dL_inv h19
   obtain ⟨rfl,hE⟩ := dE_inv h20
   exact ⟨_,_,hE,fun vs => ⟨_,_,by kernel_rfl,(rrweight_eq bad ra rb wx wy wz aax aay aaz abx aby abz rt goal low high rof rub rsum l (vs.tail.tail.headD undef) _).trans (rrweight_v bad ra rb wx wy wz aax aay aaz abx aby abz rt goal low high rof rub rsum l _)⟩⟩
end
section
open Go
set_option maxRecDepth 20000
noncomputable def look_RwRC_rrweight {α:Type}:LookF α := addFn 12 (fEnt rrweight_sp rrweight_h) look_rrrate
theorem look_RwRC_rrweight_ok {α:Type}:LookOk E.P (look_RwRC_rrweight (α := α)) := addFn_ok rrweight_h_ok (look_rrrate_ok)
noncomputable def M.rrends {α:Type} (bad:Bool) (rows:List L18) (n:Int) (k0:Int → Int → Bool → Option α):Option α := let s1 := (↑(List.length rows):Int); let s2 := Prod.snd (Prod.snd (Prod.snd (Prod.snd (Prod.snd (Prod.snd (Prod.snd (Prod.snd (Prod.snd (Prod.snd (Prod.snd (Prod.snd (Prod.snd (List.getD rows (Int.toNat n) zRw))))))))))))); let s3 := Prod.fst s2; let s4 := Prod.snd s2; let s5 := Prod.fst s4; let s6 := Prod.snd s4; let s7 := Prod.fst s6; let s8 := V.mMul (Prod.fst (Prod.snd s6)) (Prod.snd (Prod.snd (Prod.snd (Prod.snd (Prod.snd (Prod.snd (Prod.snd (Prod.snd (Prod.snd (Prod.snd (Prod.snd (Prod.snd (Prod.snd (Prod.snd (Prod.snd (Prod.snd (Prod.snd (List.getD rows (Int.toNat s7) zRw)))))))))))))))))); let s9 := V.gv s8; let s10 := if (0:Int) > s9 then (0:Int) else s9; if cLt n (0:Int) = true then k0 (0:Int) (0:Int) bad else if cLe s1 n = true then k0 (0:Int) (0:Int) bad else if (0:Int) ≤ n ∧ n < s1 then if cLe (0:Int) s7 = true then if cLt s7 n = true then if (0:Int) ≤ s7 ∧ s7 < s1 then k0 (IntKind.wrap .i64 ((0:Int) - s10)) s10 (V.gn s8 bad) else none else k0 s3 (if s5 > s3 then s5 else s3) bad else k0 s3 (if s5 > s3 then s5 else s3) bad else none
theorem rrends_eq {α:Type} (bad:Bool) (rows:List L18) (n:Int) (v0:Value) (Q:SV → Hp → Option α):callI E look_RwRC_rrweight (exec E look_RwRC_rrweight noLps 400) 14 ([SV.ptr (nat_lit 0) (nat_lit 0),SV.ros v0 kRw rows,SV.int .i64 n]) ([.cells [SV.bool bad] (nat_lit 29)]) Q = M.rrends bad rows n (fun (x11 x12:Int) (x13:Bool) => Q (SV.tup [SV.int .i64 x11,SV.int .i64 x12]) ([.cells [SV.bool x13] (nat_lit 29)])) := by kernel_rfl
def rrends_sp:List AS := [.ptr 29 [.bool false],.ro (.st (.i .i64) [.i .i64,.i .i64,.i .i64,.i .i64,.i .i64,.i .i64,.i .i64,.i .i64,.i .i64,.i .i64,.b,.i .i64,.i .i64,.i .i64,.i .i64,.i .i64,.i .i64]),.val (.int .i64 0)]
theorem rrends_v {α:Type} (bad:Bool) (rows:List L18) (n:Int) (k0:Int → Int → Bool → Option α):M.rrends bad rows n k0 = k0 (V.eLow rows n) (V.eHigh rows n) (V.eB rows n bad) := by
 have ca:(cLt n 0 = true ∧ True ∧ True) ∨ (cLt n 0 = false ∧ cLe (rows.length:Int) n = true ∧ True) ∨ (cLt n 0 = false ∧ cLe (rows.length:Int) n = false ∧ (0 ≤ n ∧ n < (rows.length:Int))) := by
   simp only [cLt_eq,cLe_eq,decide_eq_true_eq,decide_eq_false_iff_not,and_true]; omega
 have ib:∀ o:Int,cLe 0 o = true → cLt o n = true → cLe (rows.length:Int) n = false → (0 ≤ o ∧ o < (rows.length:Int)) := fun o h1 h2 h3 => by rw [cLe_eq] at h1 h3; rw [cLt_eq] at h2; simp at h1 h2 h3; omega
 unfold M.rrends V.eLow V.eHigh V.eB V.eM
 rcases ca with ⟨a1,a2,a3⟩ | ⟨a1,a2,a3⟩ | ⟨a1,a2,a3⟩
 · simp only [a1,and_self,if_true,Bool.false_eq_true,if_false]
 · simp only [a1,a2,and_self,if_true,Bool.false_eq_true,if_false]
 · rcases Bool.eq_false_or_eq_true (cLe 0 (List.getD rows n.toNat zRw).2.2.2.2.2.2.2.2.2.2.2.2.2.2.2.1) with h3 | h3
   · rcases Bool.eq_false_or_eq_true (cLt (List.getD rows n.toNat zRw).2.2.2.2.2.2.2.2.2.2.2.2.2.2.2.1 n) with h4 | h4
     · have h5 := ib _ h3 h4 a2
       simp only [a1,a2,a3,h3,h4,h5,and_self,if_true,Bool.false_eq_true,if_false] <;> rfl
     · simp only [a1,a2,a3,h3,h4,and_self,if_true,Bool.false_eq_true,if_false] <;> rfl
   · simp only [a1,a2,a3,h3,and_self,if_true,Bool.false_eq_true,if_false] <;> rfl
noncomputable def rrends_h {α:Type} (ds:List D) (Q:SV → Hp → Option α):Option α :=
 dB ds fun bad ds => dL kRw ds fun rows ds => dI ds fun n ds => dE ds (Q (.tup [.int .i64 (V.eLow rows n),.int .i64 (V.eHigh rows n)]) ([.cells [.bool (V.eB rows n bad)] 29]))
theorem rrends_h_ok {α:Type}:FnOk E.P 14 (fEnt (α := α) rrends_sp rrends_h) :=
 fEntR_ok E (look_RwRC_rrweight_ok) (exec_sound E E_ok (look_RwRC_rrweight_ok) (noLps_ok _) 400) fun ds Q r h => by
   unfold rrends_h at h
   obtain ⟨bad,ds,rfl,h1⟩ := dB_inv h
   obtain ⟨rows,ds,rfl,h2⟩ := dL_inv h1
   obtain ⟨n,ds,rfl,h3⟩ := dI_inv h2
   obtain ⟨rfl,hE⟩ := dE_inv h3
   exact ⟨_,_,hE,fun vs => ⟨_,_,by kernel_rfl,(rrends_eq bad rows n (vs.tail.headD undef) _).trans (rrends_v bad rows n _)⟩⟩
noncomputable def look_rrends {α:Type}:LookF α := addFn 14 (fEnt rrends_sp rrends_h) look_RwRC_rrweight
theorem look_rrends_ok {α:Type}:LookOk E.P (look_rrends (α := α)) := addFn_ok rrends_h_ok (look_RwRC_rrweight_ok)
noncomputable def M.rrwish {α:Type} (bad:Bool) (rows:List L18) (n:Int) (l:List L31) (k0:Int → Bool → Option α):Option α := let s16 := (↑(List.length rows):Int); let s17 := List.getD rows (Int.toNat n) zRw; let s18 := Prod.snd s17; let s19 := V.bAt l (Prod.fst s17); let s20 := Prod.snd s18; let s21 := V.bAt l (Prod.fst s18); let s22 := Prod.snd s20; let s23 := Prod.snd s22; let s24 := Prod.snd s23; let s25 := Prod.snd s24; let s26 := Prod.snd s25; let s27 := Prod.snd s26; let s28 := Prod.snd s27; let s29 := Prod.snd s28; let s30 := Prod.snd s29; let s31 := Prod.snd s30; let s32 := Prod.fst s30; let s33 := Prod.snd (Prod.snd (Prod.snd (Prod.snd (Prod.snd s31)))); let s34 := (Prod.fst s20,Prod.fst s22,Prod.fst s23); let s35 := (Prod.fst s24,Prod.fst s25,Prod.fst s26); let s36 := (Prod.fst s27,Prod.fst s28,Prod.fst s29); let s37 := V.wgt s34 s32 s35 s36 s19 s21; let s38 := V.wgtB s34 s32 s35 s36 s19 s21 bad; let s39 := V.mSub (Prod.fst s31) (V.rate s34 s32 s35 s36 s19 s21); let s40 := V.mDiv (V.gv s39) s37; let s41 := V.mAdd s33 (V.gv s40); let s42 := V.gv s41; let s43 := if V.eLow rows n > s42 then V.eLow rows n else s42; if cLt n (0:Int) = true then k0 (0:Int) bad else if cLe s16 n = true then k0 (0:Int) bad else if (0:Int) ≤ n ∧ n < s16 then if cLt s37 (64:Int) = true then k0 s33 s38 else k0 (if V.eHigh rows n < s43 then V.eHigh rows n else s43) (V.eB rows n (V.gn s41 (V.gn s40 (V.gn s39 (V.rateB s34 s32 s35 s36 s19 s21 s38))))) else none
theorem rrwish_eq {α:Type} (bad:Bool) (rows:List L18) (n:Int) (l:List L31) (v14:Value) (v15:Value) (Q:SV → Hp → Option α):callI E look_rrends (exec E look_rrends noLps 400) 16 ([SV.ptr (nat_lit 0) (nat_lit 0),SV.ros v14 kRw rows,SV.int .i64 n,
 SV.ros v15
   kBy
   l]) ([.cells [SV.bool bad] (nat_lit 29)]) Q = M.rrwish bad rows n l (fun (x44:Int) (x45:Bool) => Q (SV.int .i64 x44) ([.cells [SV.bool x45] (nat_lit 29)])) := by kernel_rfl
def rrwish_sp:List AS := [.ptr 29 [.bool false],.ro (.st (.i .i64) [.i .i64,.i .i64,.i .i64,.i .i64,.i .i64,.i .i64,.i .i64,.i .i64,.i .i64,.i .i64,.b,.i .i64,.i .i64,.i .i64,.i .i64,.i .i64,.i .i64]),.val (.int .i64 0),.ro (.st (.i .i64) [.i .i64,.i .i64,.i .i64,.i .i64,.i .i64,.i .i64,.i .i64,.i .i64,.i .i64,.i .i64,.i .i64,.i .i64,.i .i64,.i .i64,.i .i64,.i .i64,.i .i64,.i .i64,.i .i64,.i .i64,.i .i64,.i .i64,.p,.i .i64,.i .i64,.i .i64,.b,.i .i64,.b,.b])]
theorem rrwish_v {α:Type} (bad:Bool) (rows:List L18) (n:Int) (l:List L31) (k0:Int → Bool → Option α):M.rrwish bad rows n l k0 = k0 (V.wsh rows n l) (V.wshB rows n l bad) := by
 have ca:(cLt n 0 = true ∧ True ∧ True) ∨ (cLt n 0 = false ∧ cLe (rows.length:Int) n = true ∧ True) ∨ (cLt n 0 = false ∧ cLe (rows.length:Int) n = false ∧ (0 ≤ n ∧ n < (rows.length:Int))) := by
   simp only [cLt_eq,cLe_eq,decide_eq_true_eq,decide_eq_false_iff_not,and_true]; omega
 unfold M.rrwish V.wsh V.wshB V.wS V.wW V.wR
 rcases ca with ⟨a1,a2,a3⟩ | ⟨a1,a2,a3⟩ | ⟨a1,a2,a3⟩
 · simp only [a1,and_self,if_true,Bool.false_eq_true,if_false]
 · simp only [a1,a2,and_self,if_true,Bool.false_eq_true,if_false]
 · rcases Bool.eq_false_or_eq_true (cLt (V.wgt ((List.getD rows n.toNat zRw).2.2.1,(List.getD rows n.toNat zRw).2.2.2.1,(List.getD rows n.toNat zRw).2.2.2.2.1) (List.getD rows n.toNat zRw).2.2.2.2.2.2.2.2.2.2.2.1 ((List.getD rows n.toNat zRw).2.2.2.2.2.1,(List.getD rows n.toNat zRw).2.2.2.2.2.2.1,(List.getD rows n.toNat zRw).2.2.2.2.2.2.2.1) ((List.getD rows n.toNat zRw).2.2.2.2.2.2.2.2.1,(List.getD rows n.toNat zRw).2.2.2.2.2.2.2.2.2.1,(List.getD rows n.toNat zRw).2.2.2.2.2.2.2.2.2.2.1) (V.bAt l (List.getD rows n.toNat zRw).1) (V.bAt l (List.getD rows n.toNat zRw).2.1)) 64) with h3 | h3 <;> simp only [a1,a2,a3,h3,and_self,if_true,Bool.false_eq_true,if_false] <;> rfl
noncomputable def rrwish_h {α:Type} (ds:List D) (Q:SV → Hp → Option α):Option α :=
 dB ds fun bad ds => dL kRw ds fun rows ds => dI ds fun n ds => dL kBy ds fun l ds => dE ds (Q (.int .i64 (V.wsh rows n l)) ([.cells [.bool (V.wshB rows n l bad)] 29]))
theorem rrwish_h_ok {α:Type}:FnOk E.P 16 (fEnt (α := α) rrwish_sp rrwish_h) :=
 fEntR_ok E (look_rrends_ok) (exec_sound E E_ok (look_rrends_ok) (noLps_ok _) 400) fun ds Q r h => by
   unfold rrwish_h at h
   obtain ⟨bad,ds,rfl,h1⟩ := dB_inv h
   obtain ⟨rows,ds,rfl,h2⟩ := dL_inv h1
   obtain ⟨n,ds,rfl,h3⟩ := dI_inv h2
   obtain ⟨l,ds,rfl,h4⟩ := dL_inv h3
   obtain ⟨rfl,hE⟩ := dE_inv h4
   exact ⟨_,_,hE,fun vs => ⟨_,_,by kernel_rfl,(rrwish_eq bad rows n l (vs.tail.headD undef) (vs.tail.tail.tail.headD undef) _).trans (rrwish_v bad rows n l _)⟩⟩
noncomputable def look_rrwish {α:Type}:LookF α := addFn 16 (fEnt rrwish_sp rrwish_h) look_rrends
theorem look_rrwish_ok {α:Type}:LookOk E.P (look_rrwish (α := α)) := addFn_ok rrwish_h_ok (look_rrends_ok)
end
section
open Go
set_option maxRecDepth 20000
noncomputable def M.rrsolve {α:Type} (bad:Bool) (rows:List L18) (n:Int) (l:List L31) (k0:Bool → List L18 → List L31 → Option α):Option α := let s0 := (↑(List.length rows):Int); let s1 := List.length l; let s2 := (↑s1:Int); let s3 := List.getD rows (Int.toNat n) zRw; let s4 := Prod.snd s3; let s5 := Prod.fst s3; let s6 := Int.toNat s5; let s7 := Prod.fst s4; let s8 := Prod.snd s4; let s9 := Int.toNat s7; let s10 := Prod.fst s8; let s11 := Prod.snd s8; let s12 := Prod.fst s11; let s13 := Prod.snd s11; let s14 := Prod.fst s13; let s15 := Prod.snd s13; let s16 := Prod.snd s15; let s17 := Prod.fst s15; let s18 := Prod.snd s16; let s19 := Prod.fst s16; let s20 := Prod.snd s18; let s21 := Prod.fst s18; let s22 := Prod.fst s20; let s23 := Prod.snd s20; let s24 := Prod.snd s23; let s25 := Prod.fst s23; let s26 := Prod.fst s24; let s27 := Prod.snd s24; let s28 := Prod.snd s27; let s29 := Prod.fst s27; let s30 := Prod.snd s28; let s31 := Prod.snd s30; let s32 := Prod.snd s31; let s33 := Prod.snd s32; let s34 := V.mSub (V.wsh rows n l) (Prod.snd s33); let s35 := List.getD l s6 zBy; let s36 := List.getD l s9 zBy; let s37 := Prod.fst s35; let s38 := Prod.snd s35; let s39 := Prod.fst s36; let s40 := Prod.snd s36; let s41 := Prod.snd s38; let s42 := Prod.snd s40; let s43 := Prod.snd s41; let s44 := Prod.snd s42; let s45 := Prod.snd s43; let s46 := Prod.snd s44; let s47 := Prod.snd s45; let s48 := Prod.snd s46; let s49 := Prod.snd s47; let s50 := Prod.snd s48; let s51 := Prod.snd s49; let s52 := Prod.snd s50; let s53 := Prod.snd s51; let s54 := Prod.snd s52; let s55 := Prod.fst s53; let s56 := Prod.snd s53; let s57 := Prod.fst s54; let s58 := Prod.snd s54; let s59 := Prod.fst s56; let s60 := Prod.snd s56; let s61 := Prod.fst s58; let s62 := Prod.snd s58; let s63 := Prod.fst s60; let s64 := Prod.snd s60; let s65 := Prod.snd s62; let s66 := Prod.fst s62; let s67 := Prod.fst s64; let s68 := Prod.snd s64; let s69 := Prod.snd s65; let s70 := Prod.fst s65; let s71 := Prod.fst s68; let s72 := Prod.snd s68; let s73 := Prod.snd s69; let s74 := Prod.fst s69; let s75 := Prod.fst s72; let s76 := Prod.snd s72; let s77 := Prod.snd s76; let s78 := Prod.snd s73; let s79 := Prod.fst s73; let s80 := Prod.snd s77; let s81 := Prod.snd s78; let s82 := Prod.snd s80; let s83 := Prod.snd s81; let s84 := Prod.snd s82; let s85 := Prod.snd s83; let s86 := Prod.snd s84; let s87 := Prod.snd s85; let s88 := Prod.snd s86; let s89 := Prod.snd s87; let s90 := Prod.snd s88; let s91 := Prod.snd s89; let s92 := Prod.snd s90; let s93 := Prod.snd s91; let s94 := Prod.snd s92; let s95 := V.tScale (s10,s12,s14) (V.gv s34); let s96 := V.tSub ((0:Int),(0:Int),(0:Int)) (V.q3 s95); let s97 := Prod.fst s94; let s98 := Prod.snd s93; let s99 := Prod.snd s98; let s100 := Prod.fst s99; let s101 := V.tCross (s17,s19,s21) (V.q3 s96); let s102 := V.tCross (s22,s25,s26) (V.q3 s95); let s103 := V.on s96 (V.on s95 (V.gn s34 (V.wshB rows n l false))); let s104 := V.tAdd (s55,s59,s63) (V.q3 s96); let s105 := V.tAdd (s57,s61,s66) (V.q3 s95); let s106 := V.tAdd (s67,s71,s75) (V.q3 s96); let s107 := V.tAdd (s70,s74,s79) (V.q3 s95); let s108 := V.tAdd (s67,s71,s75) (V.q3 s101); let s109 := V.tAdd (s70,s74,s79) (V.q3 s102); let s110 := V.on s107 s103; let s111 := (Prod.fst s76,Prod.fst s77,Prod.fst s80,Prod.fst s82,Prod.fst s84,Prod.fst s86,Prod.fst s88,Prod.fst s90,Prod.fst s92,(slV (Prod.fst s97),Prod.snd s97),Prod.snd s94); let s112 := (Prod.fst s78,Prod.fst s81,Prod.fst s83,Prod.fst s85,Prod.fst s87,Prod.fst s89,Prod.fst s91,Prod.fst s93,Prod.fst s98,(slV (Prod.fst s100),Prod.snd s100),Prod.snd s99); let s113 := V.on s109 (V.on s102 (V.on s105 s103)); let s114 := List.set l s6 (s37,Prod.fst s38,Prod.fst s41,Prod.fst s43,Prod.fst s45,Prod.fst s47,Prod.fst s49,Prod.fst s51,s55,s59,s63,s67,s71,s75,s111); let s115 := List.set l s9 (s39,Prod.fst s40,Prod.fst s42,Prod.fst s44,Prod.fst s46,Prod.fst s48,Prod.fst s50,Prod.fst s52,s57,s61,s66,s70,s74,s79,s112); let s116 := List.length s115; let s117 := (↑s116:Int); let s118 := List.getD s115 s6 zBy; let s119 := Prod.fst s118; let s120 := Prod.snd s118; let s121 := Prod.snd s120; let s122 := Prod.snd s121; let s123 := Prod.snd s122; let s124 := Prod.snd s123; let s125 := Prod.snd s124; let s126 := Prod.snd s125; let s127 := Prod.snd s126; let s128 := Prod.fst s127; let s129 := Prod.snd s127; let s130 := Prod.snd s129; let s131 := Prod.fst s129; let s132 := Prod.fst s130; let s133 := Prod.snd s130; let s134 := Prod.fst s133; let s135 := Prod.snd s133; let s136 := Prod.fst s135; let s137 := Prod.snd s135; let s138 := Prod.snd s137; let s139 := Prod.fst s137; let s140 := Prod.snd s138; let s141 := Prod.snd s140; let s142 := Prod.snd s141; let s143 := Prod.snd s142; let s144 := Prod.snd s143; let s145 := Prod.snd s144; let s146 := Prod.snd s145; let s147 := Prod.snd s146; let s148 := Prod.snd s147; let s149 := Prod.fst s148; let s150 := List.set l s6 (s37,Prod.fst s38,Prod.fst s41,Prod.fst s43,Prod.fst s45,Prod.fst s47,Prod.fst s49,Prod.fst s51,s55,s59,s63,V.x3 s106,V.y3 s106,V.z3 s106,s111); let s151 := List.set l s9 (s39,Prod.fst s40,Prod.fst s42,Prod.fst s44,Prod.fst s46,Prod.fst s48,Prod.fst s50,Prod.fst s52,s57,s61,s66,V.x3 s107,V.y3 s107,V.z3 s107,s112); let s152 := List.length s151; let s153 := (↑s152:Int); let s154 := List.getD s151 s6 zBy; let s155 := Prod.fst s154; let s156 := Prod.snd s154; let s157 := Prod.snd s156; let s158 := Prod.snd s157; let s159 := Prod.snd s158; let s160 := Prod.snd s159; let s161 := Prod.snd s160; let s162 := Prod.snd s161; let s163 := Prod.snd s162; let s164 := Prod.snd s163; let s165 := Prod.fst s163; let s166 := Prod.snd s164; let s167 := Prod.fst s164; let s168 := Prod.snd s166; let s169 := Prod.fst s166; let s170 := Prod.snd s168; let s171 := Prod.fst s168; let s172 := Prod.fst s170; let s173 := Prod.snd s170; let s174 := Prod.fst s173; let s175 := Prod.snd s173; let s176 := Prod.snd s175; let s177 := Prod.snd s176; let s178 := Prod.snd s177; let s179 := Prod.snd s178; let s180 := Prod.snd s179; let s181 := Prod.snd s180; let s182 := Prod.snd s181; let s183 := Prod.snd s182; let s184 := Prod.snd s183; let s185 := Prod.fst s184; let s186 := List.set l s6 (s37,Prod.fst s38,Prod.fst s41,Prod.fst s43,Prod.fst s45,Prod.fst s47,Prod.fst s49,Prod.fst s51,V.x3 s104,V.y3 s104,V.z3 s104,V.x3 s108,V.y3 s108,V.z3 s108,s111); let s187 := List.set l s9 (s39,Prod.fst s40,Prod.fst s42,Prod.fst s44,Prod.fst s46,Prod.fst s48,Prod.fst s50,Prod.fst s52,V.x3 s105,V.y3 s105,V.z3 s105,V.x3 s109,V.y3 s109,V.z3 s109,s112); let s188 := List.length s187; let s189 := (↑s188:Int); let s190 := List.getD s187 s6 zBy; let s191 := Prod.fst s190; let s192 := Prod.snd s190; let s193 := Prod.snd s192; let s194 := Prod.snd s193; let s195 := Prod.snd s194; let s196 := Prod.snd s195; let s197 := Prod.snd s196; let s198 := Prod.snd s197; let s199 := Prod.snd s198; let s200 := Prod.snd s199; let s201 := Prod.fst s199; let s202 := Prod.fst s200; let s203 := Prod.snd s200; let s204 := Prod.snd s203; let s205 := Prod.fst s203; let s206 := Prod.fst s204; let s207 := Prod.snd s204; let s208 := Prod.fst s207; let s209 := Prod.snd s207; let s210 := Prod.fst s209; let s211 := Prod.snd s209; let s212 := Prod.snd s211; let s213 := Prod.snd s212; let s214 := Prod.snd s213; let s215 := Prod.snd s214; let s216 := Prod.snd s215; let s217 := Prod.snd s216; let s218 := Prod.snd s217; let s219 := Prod.snd s218; let s220 := Prod.snd s219; let s221 := Prod.fst s220; let s222 := V.tAdd (s128,s131,s132) (V.q3 s96); let s223 := V.tAdd (s134,s136,s139) (V.q3 s96); let s224 := V.tAdd (s134,s136,s139) (V.q3 s101); let s225 := V.tAdd (s165,s167,s169) (V.q3 s96); let s226 := V.tAdd (s171,s172,s174) (V.q3 s96); let s227 := V.tAdd (s171,s172,s174) (V.q3 s101); let s228 := V.tAdd (s201,s202,s205) (V.q3 s96); let s229 := V.tAdd (s206,s208,s210) (V.q3 s96); let s230 := V.tAdd (s206,s208,s210) (V.q3 s101); let s231 := (Prod.fst s138,Prod.fst s140,Prod.fst s141,Prod.fst s142,Prod.fst s143,Prod.fst s144,Prod.fst s145,Prod.fst s146,Prod.fst s147,(slV (Prod.fst s149),Prod.snd s149),Prod.snd s148); let s232 := (Prod.fst s175,Prod.fst s176,Prod.fst s177,Prod.fst s178,Prod.fst s179,Prod.fst s180,Prod.fst s181,Prod.fst s182,Prod.fst s183,(slV (Prod.fst s185),Prod.snd s185),Prod.snd s184); let s233 := (Prod.fst s211,Prod.fst s212,Prod.fst s213,Prod.fst s214,Prod.fst s215,Prod.fst s216,Prod.fst s217,Prod.fst s218,Prod.fst s219,(slV (Prod.fst s221),Prod.snd s221),Prod.snd s220); let s234 := List.set s115 s6 (s119,Prod.fst s120,Prod.fst s121,Prod.fst s122,Prod.fst s123,Prod.fst s124,Prod.fst s125,Prod.fst s126,s128,s131,s132,s134,s136,s139,s231); let s235 := List.set s115 s6 (s119,Prod.fst s120,Prod.fst s121,Prod.fst s122,Prod.fst s123,Prod.fst s124,Prod.fst s125,Prod.fst s126,s128,s131,s132,V.x3 s223,V.y3 s223,V.z3 s223,s231); let s236 := List.set s151 s6 (s155,Prod.fst s156,Prod.fst s157,Prod.fst s158,Prod.fst s159,Prod.fst s160,Prod.fst s161,Prod.fst s162,s165,s167,s169,s171,s172,s174,s232); let s237 := List.set s115 s6 (s119,Prod.fst s120,Prod.fst s121,Prod.fst s122,Prod.fst s123,Prod.fst s124,Prod.fst s125,Prod.fst s126,V.x3 s222,V.y3 s222,V.z3 s222,V.x3 s224,V.y3 s224,V.z3 s224,s231); let s238 := List.set s151 s6 (s155,Prod.fst s156,Prod.fst s157,Prod.fst s158,Prod.fst s159,Prod.fst s160,Prod.fst s161,Prod.fst s162,s165,s167,s169,V.x3 s226,V.y3 s226,V.z3 s226,s232); let s239 := List.set s187 s6 (s191,Prod.fst s192,Prod.fst s193,Prod.fst s194,Prod.fst s195,Prod.fst s196,Prod.fst s197,Prod.fst s198,s201,s202,s205,s206,s208,s210,s233); let s240 := List.set s151 s6 (s155,Prod.fst s156,Prod.fst s157,Prod.fst s158,Prod.fst s159,Prod.fst s160,Prod.fst s161,Prod.fst s162,V.x3 s225,V.y3 s225,V.z3 s225,V.x3 s227,V.y3 s227,V.z3 s227,s232); let s241 := List.set s187 s6 (s191,Prod.fst s192,Prod.fst s193,Prod.fst s194,Prod.fst s195,Prod.fst s196,Prod.fst s197,Prod.fst s198,s201,s202,s205,V.x3 s229,V.y3 s229,V.z3 s229,s233); let s242 := List.set s187 s6 (s191,Prod.fst s192,Prod.fst s193,Prod.fst s194,Prod.fst s195,Prod.fst s196,Prod.fst s197,Prod.fst s198,V.x3 s228,V.y3 s228,V.z3 s228,V.x3 s230,V.y3 s230,V.z3 s230,s233); if cLt n (0:Int) = true then k0 bad rows l else if cLe s0 n = true then k0 bad rows l else if (0:Int) ≤ n ∧ n < s0 then if s1 * (256:Nat) ≤ (140737488355328:Nat) then if cLe (0:Int) s7 = true then if cLt s7 s2 = true then if s29 = true then if (0:Int) ≤ s7 ∧ s7 < s2 then if (!cEq s39 (2:Int)) = true then if (0:Int) ≤ s7 ∧ s7 < s2 then if cLe (0:Int) s5 = true then if cLt s5 s117 = true then if s29 = true then if (0:Int) ≤ s5 ∧ s5 < s117 then if (!cEq s119 (2:Int)) = true then if (0:Int) ≤ s5 ∧ s5 < s117 then if s103 = true then k0 true rows l else if s1 = List.length s234 then if (0:Int) ≤ n ∧ n < s0 then k0 bad (List.set rows (Int.toNat n) (s5,s7,s10,s12,s14,s17,s19,s21,s22,s25,s26,s29,Prod.fst s28,Prod.fst s30,Prod.fst s31,Prod.fst s32,Prod.fst s33,V.wsh rows n l)) s234 else none else none else none else if (0:Int) ≤ s5 ∧ s5 < s117 then if V.on s223 s103 = true then k0 true rows l else if s1 = List.length s235 then if (0:Int) ≤ n ∧ n < s0 then k0 bad (List.set rows (Int.toNat n) (s5,s7,s10,s12,s14,s17,s19,s21,s22,s25,s26,s29,Prod.fst s28,Prod.fst s30,Prod.fst s31,Prod.fst s32,Prod.fst s33,V.wsh rows n l)) s235 else none else none else none else none else if (0:Int) ≤ s5 ∧ s5 < s117 then if (!cEq s119 (2:Int)) = true then if (0:Int) ≤ s5 ∧ s5 < s117 then if s103 = true then k0 true rows l else if s1 = List.length s234 then if (0:Int) ≤ n ∧ n < s0 then k0 bad (List.set rows (Int.toNat n) (s5,s7,s10,s12,s14,s17,s19,s21,s22,s25,s26,s29,Prod.fst s28,Prod.fst s30,Prod.fst s31,Prod.fst s32,Prod.fst s33,V.wsh rows n l)) s234 else none else none else none else if (0:Int) ≤ s5 ∧ s5 < s117 then if V.on s224 (V.on s101 (V.on s222 s103)) = true then k0 true rows l else if s1 = List.length s237 then if (0:Int) ≤ n ∧ n < s0 then k0 bad (List.set rows (Int.toNat n) (s5,s7,s10,s12,s14,s17,s19,s21,s22,s25,s26,s29,Prod.fst s28,Prod.fst s30,Prod.fst s31,Prod.fst s32,Prod.fst s33,V.wsh rows n l)) s237 else none else none else none else none else if s103 = true then k0 true rows l else if s1 = s116 then if (0:Int) ≤ n ∧ n < s0 then k0 bad (List.set rows (Int.toNat n) (s5,s7,s10,s12,s14,s17,s19,s21,s22,s25,s26,s29,Prod.fst s28,Prod.fst s30,Prod.fst s31,Prod.fst s32,Prod.fst s33,V.wsh rows n l)) s115 else none else none else if s103 = true then k0 true rows l else if s1 = s116 then if (0:Int) ≤ n ∧ n < s0 then k0 bad (List.set rows (Int.toNat n) (s5,s7,s10,s12,s14,s17,s19,s21,s22,s25,s26,s29,Prod.fst s28,Prod.fst s30,Prod.fst s31,Prod.fst s32,Prod.fst s33,V.wsh rows n l)) s115 else none else none else none else if (0:Int) ≤ s7 ∧ s7 < s2 then if cLe (0:Int) s5 = true then if cLt s5 s153 = true then if s29 = true then if (0:Int) ≤ s5 ∧ s5 < s153 then if (!cEq s155 (2:Int)) = true then if (0:Int) ≤ s5 ∧ s5 < s153 then if s110 = true then k0 true rows l else if s1 = List.length s236 then if (0:Int) ≤ n ∧ n < s0 then k0 bad (List.set rows (Int.toNat n) (s5,s7,s10,s12,s14,s17,s19,s21,s22,s25,s26,s29,Prod.fst s28,Prod.fst s30,Prod.fst s31,Prod.fst s32,Prod.fst s33,V.wsh rows n l)) s236 else none else none else none else if (0:Int) ≤ s5 ∧ s5 < s153 then if V.on s226 s110 = true then k0 true rows l else if s1 = List.length s238 then if (0:Int) ≤ n ∧ n < s0 then k0 bad (List.set rows (Int.toNat n) (s5,s7,s10,s12,s14,s17,s19,s21,s22,s25,s26,s29,Prod.fst s28,Prod.fst s30,Prod.fst s31,Prod.fst s32,Prod.fst s33,V.wsh rows n l)) s238 else none else none else none else none else if (0:Int) ≤ s5 ∧ s5 < s153 then if (!cEq s155 (2:Int)) = true then if (0:Int) ≤ s5 ∧ s5 < s153 then if s110 = true then k0 true rows l else if s1 = List.length s236 then if (0:Int) ≤ n ∧ n < s0 then k0 bad (List.set rows (Int.toNat n) (s5,s7,s10,s12,s14,s17,s19,s21,s22,s25,s26,s29,Prod.fst s28,Prod.fst s30,Prod.fst s31,Prod.fst s32,Prod.fst s33,V.wsh rows n l)) s236 else none else none else none else if (0:Int) ≤ s5 ∧ s5 < s153 then if V.on s227 (V.on s101 (V.on s225 s110)) = true then k0 true rows l else if s1 = List.length s240 then if (0:Int) ≤ n ∧ n < s0 then k0 bad (List.set rows (Int.toNat n) (s5,s7,s10,s12,s14,s17,s19,s21,s22,s25,s26,s29,Prod.fst s28,Prod.fst s30,Prod.fst s31,Prod.fst s32,Prod.fst s33,V.wsh rows n l)) s240 else none else none else none else none else if s110 = true then k0 true rows l else if s1 = s152 then if (0:Int) ≤ n ∧ n < s0 then k0 bad (List.set rows (Int.toNat n) (s5,s7,s10,s12,s14,s17,s19,s21,s22,s25,s26,s29,Prod.fst s28,Prod.fst s30,Prod.fst s31,Prod.fst s32,Prod.fst s33,V.wsh rows n l)) s151 else none else none else if s110 = true then k0 true rows l else if s1 = s152 then if (0:Int) ≤ n ∧ n < s0 then k0 bad (List.set rows (Int.toNat n) (s5,s7,s10,s12,s14,s17,s19,s21,s22,s25,s26,s29,Prod.fst s28,Prod.fst s30,Prod.fst s31,Prod.fst s32,Prod.fst s33,V.wsh rows n l)) s151 else none else none else none else none else if (0:Int) ≤ s7 ∧ s7 < s2 then if (!cEq s39 (2:Int)) = true then if (0:Int) ≤ s7 ∧ s7 < s2 then if cLe (0:Int) s5 = true then if cLt s5 s117 = true then if s29 = true then if (0:Int) ≤ s5 ∧ s5 < s117 then if (!cEq s119 (2:Int)) = true then if (0:Int) ≤ s5 ∧ s5 < s117 then if s103 = true then k0 true rows l else if s1 = List.length s234 then if (0:Int) ≤ n ∧ n < s0 then k0 bad (List.set rows (Int.toNat n) (s5,s7,s10,s12,s14,s17,s19,s21,s22,s25,s26,s29,Prod.fst s28,Prod.fst s30,Prod.fst s31,Prod.fst s32,Prod.fst s33,V.wsh rows n l)) s234 else none else none else none else if (0:Int) ≤ s5 ∧ s5 < s117 then if V.on s223 s103 = true then k0 true rows l else if s1 = List.length s235 then if (0:Int) ≤ n ∧ n < s0 then k0 bad (List.set rows (Int.toNat n) (s5,s7,s10,s12,s14,s17,s19,s21,s22,s25,s26,s29,Prod.fst s28,Prod.fst s30,Prod.fst s31,Prod.fst s32,Prod.fst s33,V.wsh rows n l)) s235 else none else none else none else none else if (0:Int) ≤ s5 ∧ s5 < s117 then if (!cEq s119 (2:Int)) = true then if (0:Int) ≤ s5 ∧ s5 < s117 then if s103 = true then k0 true rows l else if s1 = List.length s234 then if (0:Int) ≤ n ∧ n < s0 then k0 bad (List.set rows (Int.toNat n) (s5,s7,s10,s12,s14,s17,s19,s21,s22,s25,s26,s29,Prod.fst s28,Prod.fst s30,Prod.fst s31,Prod.fst s32,Prod.fst s33,V.wsh rows n l)) s234 else none else none else none else if (0:Int) ≤ s5 ∧ s5 < s117 then if V.on s224 (V.on s101 (V.on s222 s103)) = true then k0 true rows l else if s1 = List.length s237 then if (0:Int) ≤ n ∧ n < s0 then k0 bad (List.set rows (Int.toNat n) (s5,s7,s10,s12,s14,s17,s19,s21,s22,s25,s26,s29,Prod.fst s28,Prod.fst s30,Prod.fst s31,Prod.fst s32,Prod.fst s33,V.wsh rows n l)) s237 else none else none else none else none else if s103 = true then k0 true rows l else if s1 = s116 then if (0:Int) ≤ n ∧ n < s0 then k0 bad (List.set rows (Int.toNat n) (s5,s7,s10,s12,s14,s17,s19,s21,s22,s25,s26,s29,Prod.fst s28,Prod.fst s30,Prod.fst s31,Prod.fst s32,Prod.fst s33,V.wsh rows n l)) s115 else none else none else if s103 = true then k0 true rows l else if s1 = s116 then if (0:Int) ≤ n ∧ n < s0 then k0 bad (List.set rows (Int.toNat n) (s5,s7,s10,s12,s14,s17,s19,s21,s22,s25,s26,s29,Prod.fst s28,Prod.fst s30,Prod.fst s31,Prod.fst s32,Prod.fst s33,V.wsh rows n l)) s115 else none else none else none else if (0:Int) ≤ s7 ∧ s7 < s2 then if cLe (0:Int) s5 = true then if cLt s5 s189 = true then if s29 = true then if (0:Int) ≤ s5 ∧ s5 < s189 then if (!cEq s191 (2:Int)) = true then if (0:Int) ≤ s5 ∧ s5 < s189 then if s113 = true then k0 true rows l else if s1 = List.length s239 then if (0:Int) ≤ n ∧ n < s0 then k0 bad (List.set rows (Int.toNat n) (s5,s7,s10,s12,s14,s17,s19,s21,s22,s25,s26,s29,Prod.fst s28,Prod.fst s30,Prod.fst s31,Prod.fst s32,Prod.fst s33,V.wsh rows n l)) s239 else none else none else none else if (0:Int) ≤ s5 ∧ s5 < s189 then if V.on s229 s113 = true then k0 true rows l else if s1 = List.length s241 then if (0:Int) ≤ n ∧ n < s0 then k0 bad (List.set rows (Int.toNat n) (s5,s7,s10,s12,s14,s17,s19,s21,s22,s25,s26,s29,Prod.fst s28,Prod.fst s30,Prod.fst s31,Prod.fst s32,Prod.fst s33,V.wsh rows n l)) s241 else none else none else none else none else if (0:Int) ≤ s5 ∧ s5 < s189 then if (!cEq s191 (2:Int)) = true then if (0:Int) ≤ s5 ∧ s5 < s189 then if s113 = true then k0 true rows l else if s1 = List.length s239 then if (0:Int) ≤ n ∧ n < s0 then k0 bad (List.set rows (Int.toNat n) (s5,s7,s10,s12,s14,s17,s19,s21,s22,s25,s26,s29,Prod.fst s28,Prod.fst s30,Prod.fst s31,Prod.fst s32,Prod.fst s33,V.wsh rows n l)) s239 else none else none else none else if (0:Int) ≤ s5 ∧ s5 < s189 then if V.on s230 (V.on s101 (V.on s228 s113)) = true then k0 true rows l else if s1 = List.length s242 then if (0:Int) ≤ n ∧ n < s0 then k0 bad (List.set rows (Int.toNat n) (s5,s7,s10,s12,s14,s17,s19,s21,s22,s25,s26,s29,Prod.fst s28,Prod.fst s30,Prod.fst s31,Prod.fst s32,Prod.fst s33,V.wsh rows n l)) s242 else none else none else none else none else if s113 = true then k0 true rows l else if s1 = s188 then if (0:Int) ≤ n ∧ n < s0 then k0 bad (List.set rows (Int.toNat n) (s5,s7,s10,s12,s14,s17,s19,s21,s22,s25,s26,s29,Prod.fst s28,Prod.fst s30,Prod.fst s31,Prod.fst s32,Prod.fst s33,V.wsh rows n l)) s187 else none else none else if s113 = true then k0 true rows l else if s1 = s188 then if (0:Int) ≤ n ∧ n < s0 then k0 bad (List.set rows (Int.toNat n) (s5,s7,s10,s12,s14,s17,s19,s21,s22,s25,s26,s29,Prod.fst s28,Prod.fst s30,Prod.fst s31,Prod.fst s32,Prod.fst s33,V.wsh rows n l)) s187 else none else none else none else none else if cLe (0:Int) s5 = true then if cLt s5 s2 = true then if s29 = true then if (0:Int) ≤ s5 ∧ s5 < s2 then if (!cEq s37 (2:Int)) = true then if (0:Int) ≤ s5 ∧ s5 < s2 then if s103 = true then k0 true rows l else if s1 = List.length s114 then if (0:Int) ≤ n ∧ n < s0 then k0 bad (List.set rows (Int.toNat n) (s5,s7,s10,s12,s14,s17,s19,s21,s22,s25,s26,s29,Prod.fst s28,Prod.fst s30,Prod.fst s31,Prod.fst s32,Prod.fst s33,V.wsh rows n l)) s114 else none else none else none else if (0:Int) ≤ s5 ∧ s5 < s2 then if V.on s106 s103 = true then k0 true rows l else if s1 = List.length s150 then if (0:Int) ≤ n ∧ n < s0 then k0 bad (List.set rows (Int.toNat n) (s5,s7,s10,s12,s14,s17,s19,s21,s22,s25,s26,s29,Prod.fst s28,Prod.fst s30,Prod.fst s31,Prod.fst s32,Prod.fst s33,V.wsh rows n l)) s150 else none else none else none else none else if (0:Int) ≤ s5 ∧ s5 < s2 then if (!cEq s37 (2:Int)) = true then if (0:Int) ≤ s5 ∧ s5 < s2 then if s103 = true then k0 true rows l else if s1 = List.length s114 then if (0:Int) ≤ n ∧ n < s0 then k0 bad (List.set rows (Int.toNat n) (s5,s7,s10,s12,s14,s17,s19,s21,s22,s25,s26,s29,Prod.fst s28,Prod.fst s30,Prod.fst s31,Prod.fst s32,Prod.fst s33,V.wsh rows n l)) s114 else none else none else none else if (0:Int) ≤ s5 ∧ s5 < s2 then if V.on s108 (V.on s101 (V.on s104 s103)) = true then k0 true rows l else if s1 = List.length s186 then if (0:Int) ≤ n ∧ n < s0 then k0 bad (List.set rows (Int.toNat n) (s5,s7,s10,s12,s14,s17,s19,s21,s22,s25,s26,s29,Prod.fst s28,Prod.fst s30,Prod.fst s31,Prod.fst s32,Prod.fst s33,V.wsh rows n l)) s186 else none else none else none else none else if s103 = true then k0 true rows l else if s1 = s1 then if (0:Int) ≤ n ∧ n < s0 then k0 bad (List.set rows (Int.toNat n) (s5,s7,s10,s12,s14,s17,s19,s21,s22,s25,s26,s29,Prod.fst s28,Prod.fst s30,Prod.fst s31,Prod.fst s32,Prod.fst s33,V.wsh rows n l)) l else none else none else if s103 = true then k0 true rows l else if s1 = s1 then if (0:Int) ≤ n ∧ n < s0 then k0 bad (List.set rows (Int.toNat n) (s5,s7,s10,s12,s14,s17,s19,s21,s22,s25,s26,s29,Prod.fst s28,Prod.fst s30,Prod.fst s31,Prod.fst s32,Prod.fst s33,V.wsh rows n l)) l else none else none else if cLe (0:Int) s5 = true then if cLt s5 s2 = true then if s29 = true then if (0:Int) ≤ s5 ∧ s5 < s2 then if (!cEq s37 (2:Int)) = true then if (0:Int) ≤ s5 ∧ s5 < s2 then if s103 = true then k0 true rows l else if s1 = List.length s114 then if (0:Int) ≤ n ∧ n < s0 then k0 bad (List.set rows (Int.toNat n) (s5,s7,s10,s12,s14,s17,s19,s21,s22,s25,s26,s29,Prod.fst s28,Prod.fst s30,Prod.fst s31,Prod.fst s32,Prod.fst s33,V.wsh rows n l)) s114 else none else none else none else if (0:Int) ≤ s5 ∧ s5 < s2 then if V.on s106 s103 = true then k0 true rows l else if s1 = List.length s150 then if (0:Int) ≤ n ∧ n < s0 then k0 bad (List.set rows (Int.toNat n) (s5,s7,s10,s12,s14,s17,s19,s21,s22,s25,s26,s29,Prod.fst s28,Prod.fst s30,Prod.fst s31,Prod.fst s32,Prod.fst s33,V.wsh rows n l)) s150 else none else none else none else none else if (0:Int) ≤ s5 ∧ s5 < s2 then if (!cEq s37 (2:Int)) = true then if (0:Int) ≤ s5 ∧ s5 < s2 then if s103 = true then k0 true rows l else if s1 = List.length s114 then if (0:Int) ≤ n ∧ n < s0 then k0 bad (List.set rows (Int.toNat n) (s5,s7,s10,s12,s14,s17,s19,s21,s22,s25,s26,s29,Prod.fst s28,Prod.fst s30,Prod.fst s31,Prod.fst s32,Prod.fst s33,V.wsh rows n l)) s114 else none else none else none else if (0:Int) ≤ s5 ∧ s5 < s2 then if V.on s108 (V.on s101 (V.on s104 s103)) = true then k0 true rows l else if s1 = List.length s186 then if (0:Int) ≤ n ∧ n < s0 then k0 bad (List.set rows (Int.toNat n) (s5,s7,s10,s12,s14,s17,s19,s21,s22,s25,s26,s29,Prod.fst s28,Prod.fst s30,Prod.fst s31,Prod.fst s32,Prod.fst s33,V.wsh rows n l)) s186 else none else none else none else none else if s103 = true then k0 true rows l else if s1 = s1 then if (0:Int) ≤ n ∧ n < s0 then k0 bad (List.set rows (Int.toNat n) (s5,s7,s10,s12,s14,s17,s19,s21,s22,s25,s26,s29,Prod.fst s28,Prod.fst s30,Prod.fst s31,Prod.fst s32,Prod.fst s33,V.wsh rows n l)) l else none else none else if s103 = true then k0 true rows l else if s1 = s1 then if (0:Int) ≤ n ∧ n < s0 then k0 bad (List.set rows (Int.toNat n) (s5,s7,s10,s12,s14,s17,s19,s21,s22,s25,s26,s29,Prod.fst s28,Prod.fst s30,Prod.fst s31,Prod.fst s32,Prod.fst s33,V.wsh rows n l)) l else none else none else none else none
theorem rrsolve_eq {α:Type} (bad:Bool) (rows:List L18) (n:Int) (l:List L31) (Q:SV → Hp → Option α):callI E look_rrwish (exec E look_rrwish noLps 400) 18 ([SV.ptr (nat_lit 0) (nat_lit 0),SV.sl (nat_lit 1),SV.int .i64 n,SV.sl (nat_lit 2)]) ([.cells [SV.bool bad] (nat_lit 29),.seq kRw rows (nat_lit 34),
 SObj.seq
   kBy
   l (nat_lit 67)]) Q = M.rrsolve bad rows n l (fun (x243:Bool) (x244:List L18) (x245:List L31) => Q (SV.tup []) ([.cells [SV.bool x243] (nat_lit 29),.seq kRw x244 (nat_lit 34),
 SObj.seq
   kBy
   x245 (nat_lit 67)])) := by kernel_rfl
def rrsolve_sp:List AS := [.ptr 29 [.bool false],.sl (.st (.i .i64) [.i .i64,.i .i64,.i .i64,.i .i64,.i .i64,.i .i64,.i .i64,.i .i64,.i .i64,.i .i64,.b,.i .i64,.i .i64,.i .i64,.i .i64,.i .i64,.i .i64]) 34,.val (.int .i64 0),.sl (.st (.i .i64) [.i .i64,.i .i64,.i .i64,.i .i64,.i .i64,.i .i64,.i .i64,.i .i64,.i .i64,.i .i64,.i .i64,.i .i64,.i .i64,.i .i64,.i .i64,.i .i64,.i .i64,.i .i64,.i .i64,.i .i64,.i .i64,.i .i64,.p,.i .i64,.i .i64,.i .i64,.b,.i .i64,.b,.b]) 67]
theorem rrsolve_w {α:Type} (bad:Bool) (rows:List L18) (n:Int) (l:List L31) (k0:Bool → List L18 → List L31 → Option α):M.rrsolve bad rows n l k0 =
   (if cLt n 0 = true then k0 bad rows l else if cLe (rows.length:Int) n = true then k0 bad rows l else if 0 ≤ n ∧ n < (rows.length:Int) then (if l.length * 256 ≤ 140737488355328 then stepD (rows.getD n.toNat zRw).2.2.2.2.2.2.2.2.2.2.2.1 ((rows.getD n.toNat zRw).2.2.2.2.2.2.2.2.1,(rows.getD n.toNat zRw).2.2.2.2.2.2.2.2.2.1,(rows.getD n.toNat zRw).2.2.2.2.2.2.2.2.2.2.1) (V.q3 (V.slJ rows n l)) (rows.getD n.toNat zRw).2.1 l (V.sl0 rows n l) fun l1 b1 => stepD (rows.getD n.toNat zRw).2.2.2.2.2.2.2.2.2.2.2.1 ((rows.getD n.toNat zRw).2.2.2.2.2.1,(rows.getD n.toNat zRw).2.2.2.2.2.2.1,(rows.getD n.toNat zRw).2.2.2.2.2.2.2.1) (V.q3 (V.slK rows n l)) (rows.getD n.toNat zRw).1 l1 b1 fun l2 b2 => if b2 = true then k0 true rows l else if l.length = l2.length then (if 0 ≤ n ∧ n < (rows.length:Int) then k0 bad (rows.set n.toNat ((rows.getD n.toNat zRw).1,(rows.getD n.toNat zRw).2.1,(rows.getD n.toNat zRw).2.2.1,(rows.getD n.toNat zRw).2.2.2.1,(rows.getD n.toNat zRw).2.2.2.2.1,(rows.getD n.toNat zRw).2.2.2.2.2.1,(rows.getD n.toNat zRw).2.2.2.2.2.2.1,(rows.getD n.toNat zRw).2.2.2.2.2.2.2.1,(rows.getD n.toNat zRw).2.2.2.2.2.2.2.2.1,(rows.getD n.toNat zRw).2.2.2.2.2.2.2.2.2.1,(rows.getD n.toNat zRw).2.2.2.2.2.2.2.2.2.2.1,(rows.getD n.toNat zRw).2.2.2.2.2.2.2.2.2.2.2.1,(rows.getD n.toNat zRw).2.2.2.2.2.2.2.2.2.2.2.2.1,(rows.getD n.toNat zRw).2.2.2.2.2.2.2.2.2.2.2.2.2.1,(rows.getD n.toNat zRw).2.2.2.2.2.2.2.2.2.2.2.2.2.2.1,(rows.getD n.toNat zRw).2.2.2.2.2.2.2.2.2.2.2.2.2.2.2.1,(rows.getD n.toNat zRw).2.2.2.2.2.2.2.2.2.2.2.2.2.2.2.2.1,V.wsh rows n l)) l2 else none) else none else none) else none) := by kernel_rfl
theorem rrsolve_v {α:Type} (bad:Bool) (rows:List L18) (n:Int) (l:List L31) (hg:V.lenQ l.length = true) (k0:Bool → List L18 → List L31 → Option α):M.rrsolve bad rows n l k0 = k0 (V.slvB rows n l bad) (V.slvR rows n l) (V.slvL rows n l) := by
 rw [rrsolve_w]
 have hl := lenQ_lt hg
 unfold V.slvB V.slvR V.slvL
 by_cases hn:0 ≤ n ∧ n < (rows.length:Int)
 · have h1 : ¬ cLt n 0 = true := by rw [cLt_eq]; simp; omega
   have h2:¬ cLe (rows.length:Int) n = true := by rw [cLe_eq]; simp; omega
   rw [if_neg h1,if_neg h2]
   simp only [if_pos hn]
   rw [if_pos (show l.length * 256 ≤ 140737488355328 by omega),stepD_val,stepD_val,stp_len,stp_len,if_pos rfl]
   show (if V.slX rows n l = true then k0 true rows l else k0 bad _ (V.sl2 rows n l)) = _
   cases V.slX rows n l <;> rfl
 · simp only [if_neg hn]
   by_cases h1:cLt n 0 = true
   · rw [if_pos h1]
   · have h2 : cLe (rows.length : Int) n = true := by
       rw [cLt_eq] at h1; rw [cLe_eq]; simp at h1 ⊢; omega
     rw [if_neg h1,if_pos h2]
noncomputable def rrsolve_h {α:Type} (ds:List D) (Q:SV → Hp → Option α):Option α :=
 dB ds fun bad ds => dL kRw ds fun rows ds => dI ds fun n ds => dL kBy ds fun l ds => dE ds (if V.lenQ l.length = true then Q (.tup []) ([.cells [.bool (V.slvB rows n l bad)] 29,.seq kRw (V.slvR rows n l) 34,.seq kBy (V.slvL rows n l) 67]) else none)
theorem rrsolve_h_ok {α:Type}:FnOk E.P 18 (fEnt (α := α) rrsolve_sp rrsolve_h) :=
 fEnt_ok E (look_rrwish_ok) (exec_sound E E_ok (look_rrwish_ok) (noLps_ok _) 400) fun ds Q r h => by
   unfold rrsolve_h at h
   obtain ⟨bad,ds,rfl,h1⟩ := dB_inv h
   obtain ⟨rows,ds,rfl,h2⟩ := dL_inv h1
   obtain ⟨n,ds,rfl,h3⟩ := dI_inv h2
   obtain ⟨l,ds,rfl,h4⟩ := dL_inv h3
   obtain ⟨rfl,hE⟩ := dE_inv h4
   split at hE
   · rename_i hg
     exact ⟨[SV.ptr (nat_lit 0) (nat_lit 0),SV.sl (nat_lit 1),SV.int .i64 n,SV.sl (nat_lit 2)],[.cells [SV.bool bad] (nat_lit 29),.seq kRw rows (nat_lit 34),
 SObj.seq
   kBy
   l (nat_lit 67)],fun vs => by kernel_rfl,(rrsolve_eq bad rows n l Q).trans ((rrsolve_v bad rows n l hg _).trans hE)⟩
   · cases hE
end
section
open Go
set_option maxRecDepth 20000
noncomputable def look_RwL_rsame2 {α:Type}:LookF α := addFn 19 (fEnt rsame2_sp rsame2_h) look_rawake
theorem look_RwL_rsame2_ok {α:Type}:LookOk E.P (look_RwL_rsame2 (α := α)) := addFn_ok rsame2_h_ok (look_rawake_ok)
noncomputable def look_RwL_rrrate {α:Type}:LookF α := addFn 10 (fEnt rrrate_sp rrrate_h) look_RwL_rsame2
theorem look_RwL_rrrate_ok {α:Type}:LookOk E.P (look_RwL_rrrate (α := α)) := addFn_ok rrrate_h_ok (look_RwL_rsame2_ok)
noncomputable def look_RwL_rrweight {α:Type}:LookF α := addFn 12 (fEnt rrweight_sp rrweight_h) look_RwL_rrrate
theorem look_RwL_rrweight_ok {α:Type}:LookOk E.P (look_RwL_rrweight (α := α)) := addFn_ok rrweight_h_ok (look_RwL_rrrate_ok)
noncomputable def look_RwL_rrends {α:Type}:LookF α := addFn 14 (fEnt rrends_sp rrends_h) look_RwL_rrweight
theorem look_RwL_rrends_ok {α:Type}:LookOk E.P (look_RwL_rrends (α := α)) := addFn_ok rrends_h_ok (look_RwL_rrweight_ok)
noncomputable def look_RwL_rrwish {α:Type}:LookF α := addFn 16 (fEnt rrwish_sp rrwish_h) look_RwL_rrends
theorem look_RwL_rrwish_ok {α:Type}:LookOk E.P (look_RwL_rrwish (α := α)) := addFn_ok rrwish_h_ok (look_RwL_rrends_ok)
noncomputable def look_RwL_rrsolve {α:Type}:LookF α := addFn 18 (fEnt rrsolve_sp rrsolve_h) look_RwL_rrwish
theorem look_RwL_rrsolve_ok {α:Type}:LookOk E.P (look_RwL_rrsolve (α := α)) := addFn_ok rrsolve_h_ok (look_RwL_rrwish_ok)
noncomputable abbrev rtells_S1 (y1:Value) (y2:List L18) (y3:Int) (y4:Bool) (y5:Int) (y6 y7:List L31) (y8 y9:List L18):St := St.mk (none :: some (SV.ros y1 kRw y2) :: some (SV.int .i64 y3) :: nn 4 (some (SV.bool y4) :: some (SV.sl (nat_lit 0)) :: some (SV.sl (nat_lit 1)) :: some (SV.sl (nat_lit 2)) :: some (SV.sl (nat_lit 3)) :: some (SV.int .i64 y5) :: nn 194 ([]))) [SObj.seq kBy y6 (nat_lit 67),SObj.seq kBy y7 (nat_lit 67),.seq kRw y8 (nat_lit 34),.seq kRw y9 (nat_lit 34)]
noncomputable abbrev rtells_S2 (y1:Value) (y2:List L18) (y3:Int) (y4:Bool) (y5 y6:List L31) (y7 y8:List L18):St := St.mk (none :: some (SV.ros y1 kRw y2) :: some (SV.int .i64 y3) :: nn 3 (some (SV.bool false) :: some (SV.bool y4) :: some (SV.sl (nat_lit 0)) :: some (SV.sl (nat_lit 1)) :: some (SV.sl (nat_lit 2)) :: some (SV.sl (nat_lit 3)) :: nn 195 ([]))) [SObj.seq kBy y5 (nat_lit 67),SObj.seq kBy y6 (nat_lit 67),.seq kRw y7 (nat_lit 34),.seq kRw y8 (nat_lit 34)]
noncomputable abbrev rtells_S3 (y1:Value) (y2:List L18) (y3:Int) (y4:Bool) (y5 y6:List L31) (y7 y8:List L18):St := St.mk (none :: some (SV.ros y1 kRw y2) :: some (SV.int .i64 y3) :: nn 4 (some (SV.bool y4) :: some (SV.sl (nat_lit 0)) :: some (SV.sl (nat_lit 1)) :: some (SV.sl (nat_lit 2)) :: some (SV.sl (nat_lit 3)) :: nn 195 ([]))) [SObj.seq kBy y5 (nat_lit 67),SObj.seq kBy y6 (nat_lit 67),.seq kRw y7 (nat_lit 34),.seq kRw y8 (nat_lit 34)]
noncomputable abbrev rtells_S4:St := St.mk (none :: some (SV.ros undef kRw []) :: some (SV.int .i64 (0:Int)) :: nn 4 (some (SV.bool false) :: some (SV.sl (nat_lit 0)) :: some (SV.sl (nat_lit 1)) :: some (SV.sl (nat_lit 2)) :: some (SV.sl (nat_lit 3)) :: some (SV.int .i64 (0:Int)) :: nn 194 ([]))) [SObj.seq kBy [] (nat_lit 67),SObj.seq kBy [] (nat_lit 67),.seq kRw [] (nat_lit 34),.seq kRw [] (nat_lit 34)]
noncomputable abbrev rtells_S5 (y1:Value) (y2:List L18) (y3:Int) (y4:Bool) (y5:Int) (y6 y7:List L31) (y8 y9:List L18):St := St.mk (none :: some (SV.ros y1 kRw y2) :: some (SV.int .i64 y3) :: nn 4 (some (SV.bool y4) :: some (SV.sl (nat_lit 0)) :: some (SV.sl (nat_lit 1)) :: some (SV.sl (nat_lit 2)) :: some (SV.sl (nat_lit 3)) :: nn 13 (some (SV.int .i64 y5) :: nn 181 ([])))) [SObj.seq kBy y6 (nat_lit 67),SObj.seq kBy y7 (nat_lit 67),.seq kRw y8 (nat_lit 34),.seq kRw y9 (nat_lit 34)]
noncomputable abbrev rtells_S6:St := St.mk (none :: some (SV.ros undef kRw []) :: some (SV.int .i64 (0:Int)) :: nn 4 (some (SV.bool false) :: some (SV.sl (nat_lit 0)) :: some (SV.sl (nat_lit 1)) :: some (SV.sl (nat_lit 2)) :: some (SV.sl (nat_lit 3)) :: nn 13 (some (SV.int .i64 (0:Int)) :: nn 181 ([])))) [SObj.seq kBy [] (nat_lit 67),SObj.seq kBy [] (nat_lit 67),.seq kRw [] (nat_lit 34),.seq kRw [] (nat_lit 34)]
abbrev rtells_P1:List Bool := [false,true,false,true,true,true,true,true,true,true,true,true]
abbrev rtells_P2:List Bool := [false,true,false,true,true,true,true,true,true,true,true]
noncomputable def M.rtells_l0_step {α:Type} (x12:List L18) (x16:List L31) (x17:List L31) (x18:List L18) (x19:List L18) (kn:Int → Option α) (k0:Option α) (k2:Option α) (x15:Int):Option α := let s20 := (↑(List.length x12):Int); let s21 := List.getD x19 (Int.toNat x15) zRw; let s22 := List.getD x18 (Int.toNat x15) zRw; let s23 := Prod.snd s21; let s24 := Prod.snd s22; let s25 := V.bAt x16 (Prod.fst s22); let s26 := V.bAt x17 (Prod.fst s21); let s27 := Prod.snd s23; let s28 := Prod.snd s24; let s29 := V.bAt x17 (Prod.fst s23); let s30 := V.bAt x16 (Prod.fst s24); let s31 := Prod.snd s28; let s32 := Prod.snd s27; let s33 := Prod.snd s32; let s34 := Prod.snd s31; let s35 := Prod.snd s33; let s36 := Prod.snd s34; let s37 := Prod.snd s36; let s38 := Prod.snd s35; let s39 := Prod.snd s37; let s40 := Prod.snd s38; let s41 := Prod.snd s40; let s42 := Prod.snd s39; let s43 := Prod.snd s42; let s44 := Prod.snd s41; let s45 := Prod.snd s44; let s46 := Prod.snd s43; let s47 := Prod.fst (Prod.snd s46); let s48 := Prod.fst (Prod.snd s45); let s49 := (Prod.fst s27,Prod.fst s32,Prod.fst s33); let s50 := (Prod.fst s28,Prod.fst s31,Prod.fst s34); let s51 := (Prod.fst s35,Prod.fst s38,Prod.fst s40); let s52 := (Prod.fst s36,Prod.fst s37,Prod.fst s39); let s53 := (Prod.fst s41,Prod.fst s44,Prod.fst s45); let s54 := (Prod.fst s42,Prod.fst s43,Prod.fst s46); let s55 := V.wgtB s50 s47 s52 s54 s25 s30 (V.rateB s50 s47 s52 s54 s25 s30 false); let s56 := V.wgtB s49 s48 s51 s53 s26 s29 (V.rateB s49 s48 s51 s53 s26 s29 false); if cLe x15 s20 = true then if cLe (0:Int) x15 = true then if cLt x15 s20 = true then if (0:Int) ≤ x15 ∧ x15 < (↑(List.length x18):Int) then if (0:Int) ≤ x15 ∧ x15 < (↑(List.length x19):Int) then if (0:Int) ≤ x15 ∧ x15 < (↑(List.length x18):Int) then if (0:Int) ≤ x15 ∧ x15 < (↑(List.length x19):Int) then if (!cEq (V.rate s50 s47 s52 s54 s25 s30) (V.rate s49 s48 s51 s53 s26 s29)) = true then k0 else if (!cEq (V.wgt s50 s47 s52 s54 s25 s30) (V.wgt s49 s48 s51 s53 s26 s29)) = true then k0 else if (!s55 == s56) = true then k0 else if (!cEq (V.eLow x18 x15) (V.eLow x19 x15)) = true then k0 else if (!cEq (V.eHigh x18 x15) (V.eHigh x19 x15)) = true then k0 else if (!cEq (V.wsh x18 x15 x16) (V.wsh x19 x15 x17)) = true then k0 else if (!V.wshB x18 x15 x16 (V.eB x18 x15 s55) == V.wshB x19 x15 x17 (V.eB x19 x15 s56)) = true then k0 else kn (IntKind.wrap .i64 (x15 + (1:Int))) else none else none else none else none else if (!cEq (V.eLow x18 x15) (V.eLow x19 x15)) = true then k0 else if (!cEq (V.eHigh x18 x15) (V.eHigh x19 x15)) = true then k0 else if (!cEq (V.wsh x18 x15 x16) (V.wsh x19 x15 x17)) = true then k0 else if (!V.wshB x18 x15 x16 (V.eB x18 x15 false) == V.wshB x19 x15 x17 (V.eB x19 x15 false)) = true then k0 else kn (IntKind.wrap .i64 (x15 + (1:Int))) else if (!cEq (V.eLow x18 x15) (V.eLow x19 x15)) = true then k0 else if (!cEq (V.eHigh x18 x15) (V.eHigh x19 x15)) = true then k0 else if (!cEq (V.wsh x18 x15 x16) (V.wsh x19 x15 x17)) = true then k0 else if (!V.wshB x18 x15 x16 (V.eB x18 x15 false) == V.wshB x19 x15 x17 (V.eB x19 x15 false)) = true then k0 else kn (IntKind.wrap .i64 (x15 + (1:Int))) else k2
noncomputable def M.rtells_l0 {α:Type} (x12:List L18) (x16:List L31) (x17:List L31) (x18:List L18) (x19:List L18) (k0:Option α) (k2:Option α):Nat → Int → Option α
 | 0,_ => none
 | n + 1,x15 => M.rtells_l0_step x12 x16 x17 x18 x19 (M.rtells_l0 x12 x16 x17 x18 x19 k0 k2 n) k0 k2 x15
theorem rtells_l0_step_eq {α:Type} (x11:Value) (x12:List L18) (x13:Int) (x14:Bool) (x15:Int) (x16:List L31) (x17:List L31) (x18:List L18) (x19:List L18) (Q:Ex → St → Option α):(loopStep E (exec E look_RwL_rrsolve noLps 400) 3 rtells_P2 0 (codeAt E.P 3 rtells_P2)) (rtells_S1 x11 x12 x13 x14 x15 x16 x17 x18 x19) Q = M.rtells_l0_step x12 x16 x17 x18 x19 (fun (x57:Int) => Q .normal (rtells_S1 x11 x12 x13 x14 x57 x16 x17 x18 x19)) (Q .ret (rtells_S2 x11 x12 x13 x14 x16 x17 x18 x19)) (Q (.exit 0) (rtells_S3 x11 x12 x13 x14 x16 x17 x18 x19)) x15 := by kernel_rfl
theorem rtells_l0_iter {α:Type} (x11:Value) (x12:List L18) (x13:Int) (x14:Bool) (x16:List L31) (x17:List L31) (x18:List L18) (x19:List L18) (Q:Ex → St → Option α):∀ (n:Nat) (x15:Int),iter (loopStep E (exec E look_RwL_rrsolve noLps 400) 3 rtells_P2 0 (codeAt E.P 3 rtells_P2)) n (rtells_S1 x11 x12 x13 x14 x15 x16 x17 x18 x19) Q = M.rtells_l0 x12 x16 x17 x18 x19 (Q .ret (rtells_S2 x11 x12 x13 x14 x16 x17 x18 x19)) (Q (.exit 0) (rtells_S3 x11 x12 x13 x14 x16 x17 x18 x19)) n x15
 | 0,_ => rfl
 | n + 1,x15 => (rtells_l0_step_eq x11 x12 x13 x14 x15 x16 x17 x18 x19 (iterK (loopStep E (exec E look_RwL_rrsolve noLps 400) 3 rtells_P2 0 (codeAt E.P 3 rtells_P2)) n Q)).trans (congrArg (fun kn => M.rtells_l0_step x12 x16 x17 x18 x19 kn (Q .ret (rtells_S2 x11 x12 x13 x14 x16 x17 x18 x19)) (Q (.exit 0) (rtells_S3 x11 x12 x13 x14 x16 x17 x18 x19)) x15) (funext fun x15 => rtells_l0_iter x11 x12 x13 x14 x16 x17 x18 x19 Q n x15))
noncomputable def rtells_l0_go {α:Type} (ds:List D) (Q:Ex → St → Option α):Option α :=
 dV ds fun x11 ds => dL kRw ds fun x12 ds => dI ds fun x13 ds => dB ds fun x14 ds => dI ds fun x15 ds => dL kBy ds fun x16 ds => dL kBy ds fun x17 ds => dL kRw ds fun x18 ds => dL kRw ds fun x19 ds => dE ds (M.rtells_l0 x12 x16 x17 x18 x19 (Q .ret (rtells_S2 x11 x12 x13 x14 x16 x17 x18 x19)) (Q (.exit 0) (rtells_S3 x11 x12 x13 x14 x16 x17 x18 x19)) (100 + x12.length + x16.length + x17.length + x18.length + x19.length) x15)
theorem rtells_l0_ok {α:Type}:LoopOk E.P 3 rtells_P2 0 (lEnt (α := α) (rtells_S4) rtells_l0_go) :=
 lEnt_ok E (exec_sound E E_ok (look_RwL_rrsolve_ok) (noLps_ok _) 400) fun ds Q r h S hS => by
   unfold rtells_l0_go at h
   obtain ⟨x11,ds,rfl,h1⟩ := dV_inv h
   obtain ⟨x12,ds,rfl,h2⟩ := dL_inv h1
   obtain ⟨x13,ds,rfl,h3⟩ := dI_inv h2
   obtain ⟨x14,ds,rfl,h4⟩ := dB_inv h3
   obtain ⟨x15,ds,rfl,h5⟩ := dI_inv h4
   obtain ⟨x16,ds,rfl,h6⟩ := dL_inv h5
   obtain ⟨x17,ds,rfl,h7⟩ := dL_inv h6
   obtain ⟨x18,ds,rfl,h8⟩ := dL_inv h7
   obtain ⟨x19,ds,rfl,h9⟩ := dL_inv h8
   obtain ⟨rfl,hE⟩ := dE_inv h9
   have e:fillS (rtells_S4) [.v x11,.l kRw x12,.i x13,.b x14,.i x15,.l kBy x16,.l kBy x17,.l kRw x18,.l kRw x19] = some (rtells_S1 x11 x12 x13 x14 x15 x16 x17 x18 x19) := by kernel_rfl
   rw [e] at hS
   cases hS
   exact ⟨_,(rtells_l0_iter x11 x12 x13 x14 x16 x17 x18 x19 Q _ x15).trans hE⟩
noncomputable def rtells_l0_lps {α:Type}:LookL α := addLp 3 rtells_P2 0 (lEnt (rtells_S4) rtells_l0_go) noLps
theorem rtells_l0_lps_ok {α:Type}:LoopsOk E.P (rtells_l0_lps (α := α)) := addLp_ok rtells_l0_ok (noLps_ok _)
noncomputable def M.rtells_l1_step {α:Type} (x70:List L18) (x71:Int) (kn:Int → List L31 → List L31 → List L18 → List L18 → Option α) (k0:Option α) (k2:Option α) (x73:Int) (x74:List L31) (x75:List L31) (x76:List L18) (x77:List L18):Option α := let s78 := (↑(List.length x70):Int); let s79 := Int.tmod x73 s78; let s80 := V.slvL x77 s79 x75; let s81 := V.slvR x76 s79 x74; let s82 := V.slvR x77 s79 x75; let s83 := V.slvL x76 s79 x74; if cLt x73 (IntKind.wrap .i64 ((2:Int) * s78)) = true then if s78 = (0:Int) then none else if cEq x73 (0:Int) = true then if V.nrB x74 = true then if V.lenQ (List.length x75) = true then if (!V.slvB x76 x71 x74 false == V.slvB x77 x71 x75 false) = true then k0 else if (V.lenM (List.length (V.slvL x76 x71 x74)) && (V.lenM (List.length (V.slvR x76 x71 x74)) && V.bsM (V.slvL x76 x71 x74))) = true then if (!V.same2 (V.slvL x76 x71 x74) (V.slvL x77 x71 x75) (V.slvR x76 x71 x74) (V.slvR x77 x71 x75)) = true then k0 else kn (IntKind.wrap .i64 (x73 + (1:Int))) (V.slvL x76 x71 x74) (V.slvL x77 x71 x75) (V.slvR x76 x71 x74) (V.slvR x77 x71 x75) else none else none else none else if V.nrB x74 = true then if V.lenQ (List.length x75) = true then if (!V.slvB x76 s79 x74 false == V.slvB x77 s79 x75 false) = true then k0 else if (V.lenM (List.length s83) && (V.lenM (List.length s81) && V.bsM s83)) = true then if (!V.same2 s83 s80 s81 s82) = true then k0 else kn (IntKind.wrap .i64 (x73 + (1:Int))) s83 s80 s81 s82 else none else none else none else k2
noncomputable def M.rtells_l1 {α:Type} (x70:List L18) (x71:Int) (k0:Option α) (k2:Option α):Nat → Int → List L31 → List L31 → List L18 → List L18 → Option α
 | 0,_,_,_,_,_ => none
 | n + 1,x73,x74,x75,x76,x77 => M.rtells_l1_step x70 x71 (M.rtells_l1 x70 x71 k0 k2 n) k0 k2 x73 x74 x75 x76 x77
theorem rtells_l1_step_eq {α:Type} (x69:Value) (x70:List L18) (x71:Int) (x72:Bool) (x73:Int) (x74:List L31) (x75:List L31) (x76:List L18) (x77:List L18) (Q:Ex → St → Option α):(loopStep E (exec E look_RwL_rrsolve rtells_l0_lps 400) 3 rtells_P1 0 (codeAt E.P 3 rtells_P1)) (rtells_S5 x69 x70 x71 x72 x73 x74 x75 x76 x77) Q = M.rtells_l1_step x70 x71 (fun (x84:Int) (x85:List L31) (x86:List L31) (x87:List L18) (x88:List L18) => Q .normal (rtells_S5 x69 x70 x71 x72 x84 x85 x86 x87 x88)) (Q .ret (St.mk (nn 6 (some (SV.bool false) :: some (SV.bool x72) :: nn 199 ([])))
 [])) (Q (.exit 2) (St.mk (nn 7 (some (SV.bool x72) :: nn 199 ([])))
 [])) x73 x74 x75 x76 x77 := by kernel_rfl
theorem rtells_l1_iter {α:Type} (x69:Value) (x70:List L18) (x71:Int) (x72:Bool) (Q:Ex → St → Option α):∀ (n:Nat) (x73:Int) (x74:List L31) (x75:List L31) (x76:List L18) (x77:List L18),iter (loopStep E (exec E look_RwL_rrsolve rtells_l0_lps 400) 3 rtells_P1 0 (codeAt E.P 3 rtells_P1)) n (rtells_S5 x69 x70 x71 x72 x73 x74 x75 x76 x77) Q = M.rtells_l1 x70 x71 (Q .ret (St.mk (nn 6 (some (SV.bool false) :: some (SV.bool x72) :: nn 199 ([])))
 [])) (Q (.exit 2) (St.mk (nn 7 (some (SV.bool x72) :: nn 199 ([])))
 [])) n x73 x74 x75 x76 x77
 | 0,_,_,_,_,_ => rfl
 | n + 1,x73,x74,x75,x76,x77 => (rtells_l1_step_eq x69 x70 x71 x72 x73 x74 x75 x76 x77 (iterK (loopStep E (exec E look_RwL_rrsolve rtells_l0_lps 400) 3 rtells_P1 0 (codeAt E.P 3 rtells_P1)) n Q)).trans (congrArg (fun kn => M.rtells_l1_step x70 x71 kn (Q .ret (St.mk (nn 6 (some (SV.bool false) :: some (SV.bool x72) :: nn 199 ([])))
 [])) (Q (.exit 2) (St.mk (nn 7 (some (SV.bool x72) :: nn 199 ([])))
 [])) x73 x74 x75 x76 x77) (funext fun x73 => funext fun x74 => funext fun x75 => funext fun x76 => funext fun x77 => rtells_l1_iter x69 x70 x71 x72 Q n x73 x74 x75 x76 x77))
noncomputable def rtells_l1_go {α:Type} (ds:List D) (Q:Ex → St → Option α):Option α :=
 dV ds fun x69 ds => dL kRw ds fun x70 ds => dI ds fun x71 ds => dB ds fun x72 ds => dI ds fun x73 ds => dL kBy ds fun x74 ds => dL kBy ds fun x75 ds => dL kRw ds fun x76 ds => dL kRw ds fun x77 ds => dE ds (M.rtells_l1 x70 x71 (Q .ret (St.mk (nn 6 (some (SV.bool false) :: some (SV.bool x72) :: nn 199 ([])))
 [])) (Q (.exit 2) (St.mk (nn 7 (some (SV.bool x72) :: nn 199 ([])))
 [])) (100 + x70.length + x74.length + x75.length + x76.length + x77.length) x73 x74 x75 x76 x77)
theorem rtells_l1_ok {α:Type}:LoopOk E.P 3 rtells_P1 0 (lEnt (α := α) (rtells_S6) rtells_l1_go) :=
 lEnt_ok E (exec_sound E E_ok (look_RwL_rrsolve_ok) (rtells_l0_lps_ok) 400) fun ds Q r h S hS => by
   unfold rtells_l1_go at h
   obtain ⟨x69,ds,rfl,h1⟩ := dV_inv h
   obtain ⟨x70,ds,rfl,h2⟩ := dL_inv h1
   obtain ⟨x71,ds,rfl,h3⟩ := dI_inv h2
   obtain ⟨x72,ds,rfl,h4⟩ := dB_inv h3
   obtain ⟨x73,ds,rfl,h5⟩ := dI_inv h4
   obtain ⟨x74,ds,rfl,h6⟩ := dL_inv h5
   obtain ⟨x75,ds,rfl,h7⟩ := dL_inv h6
   obtain ⟨x76,ds,rfl,h8⟩ := dL_inv h7
   obtain ⟨x77,ds,rfl,h9⟩ := dL_inv h8
   obtain ⟨rfl,hE⟩ := dE_inv h9
   have e:fillS (rtells_S6) [.v x69,.l kRw x70,.i x71,.b x72,.i x73,.l kBy x74,.l kBy x75,.l kRw x76,.l kRw x77] = some (rtells_S5 x69 x70 x71 x72 x73 x74 x75 x76 x77) := by kernel_rfl
   rw [e] at hS
   cases hS
   exact ⟨_,(rtells_l1_iter x69 x70 x71 x72 Q _ x73 x74 x75 x76 x77).trans hE⟩
noncomputable def rtells_l1_lps {α:Type}:LookL α := addLp 3 rtells_P1 0 (lEnt (rtells_S6) rtells_l1_go) rtells_l0_lps
theorem rtells_l1_lps_ok {α:Type}:LoopsOk E.P (rtells_l1_lps (α := α)) := addLp_ok rtells_l1_ok (rtells_l0_lps_ok)
noncomputable def M.rtells {α:Type} (l:List L31) (rows:List L18) (n:Int) (k0:Bool → Option α):Option α := let s91 := (↑(List.length rows):Int); let s92 := (↑(List.length l):Int); let s93 := if (20:Int) < s91 then (20:Int) else s91; let s94 := if (8:Int) < s92 then (8:Int) else s92; let s95 := List.take (Int.toNat (s93 - (0:Int))) (List.drop (0:Nat) rows); let s96 := List.length s95; let s97 := List.take (Int.toNat (s94 - (0:Int))) (List.drop (0:Nat) l); let s98 := List.length s97; let s99 := (100:Nat) + s96 + s98 + s98 + s96 + s96; if (0:Int) ≤ (0:Int) ∧ (0:Int) ≤ s94 ∧ s94 ≤ s92 then if (0:Int) ≤ (0:Int) ∧ (0:Int) ≤ s93 ∧ s93 ≤ s91 then if s98 * (256:Nat) ≤ (140737488355328:Nat) then if s98 * (256:Nat) ≤ (140737488355328:Nat) then if s96 * (144:Nat) ≤ (140737488355328:Nat) then if s96 * (144:Nat) ≤ (140737488355328:Nat) then M.rtells_l0 s95 s97 s97 s95 s95 (k0 false) (M.rtells_l1 s95 n (k0 false) (k0 true) s99 (0:Int) s97 s97 s95 s95) s99 (-1:Int) else none else none else none else none else none else none
theorem rtells_eq {α:Type} (l:List L31) (rows:List L18) (n:Int) (v89:Value) (v90:Value) (Q:SV → Hp → Option α):callI E look_RwL_rrsolve (exec E look_RwL_rrsolve rtells_l1_lps 400) 3 ([SV.ros v89
   kBy
   l,
 SV.ros v90 kRw rows,SV.int .i64 n]) ([]) Q = M.rtells l rows n (fun (x100:Bool) => Q (SV.bool x100) ([])) := by kernel_rfl
def rtells_sp:List AS := [.ro (.st (.i .i64) [.i .i64,.i .i64,.i .i64,.i .i64,.i .i64,.i .i64,.i .i64,.i .i64,.i .i64,.i .i64,.i .i64,.i .i64,.i .i64,.i .i64,.i .i64,.i .i64,.i .i64,.i .i64,.i .i64,.i .i64,.i .i64,.i .i64,.p,.i .i64,.i .i64,.i .i64,.b,.i .i64,.b,.b]),.ro (.st (.i .i64) [.i .i64,.i .i64,.i .i64,.i .i64,.i .i64,.i .i64,.i .i64,.i .i64,.i .i64,.i .i64,.b,.i .i64,.i .i64,.i .i64,.i .i64,.i .i64,.i .i64]),.val (.int .i64 0)]
theorem rtells_l0_val {α:Type} (A:List L31) (R:List L18) (hR:R.length ≤ 20) (k0 k2:Option α):∀ (fuel:Nat) (i:Int),-1 ≤ i → i ≤ (R.length:Int) + 1 → ((R.length:Int) + 1 - i).toNat < fuel → M.rtells_l0 R A A R R k0 k2 fuel i = k2
 | 0,i,h1,h2,h3 => by omega
 | f + 1,i,h1,h2,h3 => by
   unfold M.rtells_l0 M.rtells_l0_step
   simp only [ceq_refl,beqR,Bool.not_true,Bool.false_eq_true,if_false]
   by_cases hc:i ≤ (R.length:Int)
   · rw [IntWalk.i64_in (i + 1) (by omega), rtells_l0_val A R hR k0 k2 f (i + 1) (by omega) (by omega) (by omega)]
     rw [if_pos (show cLe i (R.length:Int) = true by rw [cLe_eq]; simpa using hc)]
     by_cases h0:0 ≤ i
     · rw [if_pos (show cLe 0 i = true by rw [cLe_eq]; simpa using h0)]
       by_cases h5:i < (R.length:Int)
       · rw [if_pos (show cLt i (R.length : Int) = true by rw [cLt_eq]; simpa using h5)]
         simp only [if_pos (show 0 ≤ i ∧ i < (R.length:Int) from ⟨h0,h5⟩)]
       · rw [if_neg (show ¬ cLt i (R.length:Int) = true by rw [cLt_eq]; simpa using h5)]
     · rw [if_neg (show ¬ cLe 0 i = true by rw [cLe_eq]; simpa using h0)]
   · rw [if_neg (show ¬ cLe i (R.length:Int) = true by rw [cLe_eq]; simpa using hc)]
theorem rtells_l1_val {α:Type} (R:List L18) (n:Int) (hR:R.length ≤ 20) (k0 k2:Option α):∀ (fuel:Nat) (i:Nat) (a:List L31) (r:List L18),i ≤ 2 * R.length → 2 * R.length - i < fuel → a.length ≤ 8 → r.length = R.length → (∀ x ∈ a,BGood x) → M.rtells_l1 R n k0 k2 fuel (i:Int) a a r r = k2
 | 0,i,a,r,h1,h2,h3,h4,h5 => by omega
 | f + 1,i,a,r,h1,h2,h3,h4,h5 => by
   have key:∀ q:Int,(if V.nrB a = true then if V.lenQ a.length = true then if (!V.slvB r q a false == V.slvB r q a false) = true then k0 else if (V.lenM (V.slvL r q a).length && (V.lenM (V.slvR r q a).length && V.bsM (V.slvL r q a))) = true then if (!V.same2 (V.slvL r q a) (V.slvL r q a) (V.slvR r q a) (V.slvR r q a)) = true then k0 else M.rtells_l1 R n k0 k2 f (IntKind.wrap .i64 ((i:Int) + 1)) (V.slvL r q a) (V.slvL r q a) (V.slvR r q a) (V.slvR r q a) else none else none else none) = if i < 2 * R.length then k2 else M.rtells_l1 R n k0 k2 f (IntKind.wrap .i64 ((i:Int) + 1)) (V.slvL r q a) (V.slvL r q a) (V.slvR r q a) (V.slvR r q a) := by
     intro q
     have e1:V.lenM (V.slvL r q a).length = true := lenM_of (by rw [slvL_len]; omega)
     have e2:V.lenM (V.slvR r q a).length = true := lenM_of (by rw [slvR_len]; omega)
     have e3:V.bsM (V.slvL r q a) = true := bsM_good (slvL_good r q h5)
     rw [if_pos (nrB_good h5),if_pos (lenQ_of (by omega)),if_neg (by rw [beqR]; decide),if_pos (by rw [e1,e2,e3]; rfl),if_neg (by rw [same2_refl]; decide)]
     split
     · rename_i hi
       have := rtells_l1_val R n hR k0 k2 f (i + 1) (V.slvL r q a) (V.slvR r q a) (by omega) (by omega) (by rw [slvL_len]; exact h3) (by rw [slvR_len]; exact h4) (slvL_good r q h5)
       rw [w_nextR (by omega)]; exact this
     · rfl
   show M.rtells_l1_step R n (M.rtells_l1 R n k0 k2 f) k0 k2 (i:Int) a a r r = k2
   unfold M.rtells_l1_step
   try simp only
   rw [IntWalk.i64_in (2 * (R.length:Int)) (by omega)]
   by_cases hi:i < 2 * R.length
   · rw [if_pos (show cLt (i:Int) (2 * (R.length:Int)) = true by rw [cLt_eq]; simp; omega),if_neg (show ¬ (R.length:Int) = 0 by omega),key,key,if_pos hi,if_pos hi,ite_self]
   · rw [if_neg (show ¬ cLt (i:Int) (2 * (R.length:Int)) = true by rw [cLt_eq]; simp; omega)]
theorem rtells_v {α:Type} (l:List L31) (rows:List L18) (n:Int) (hg:(l.length < 9223372036854775808 ∧ ∀ x ∈ l,BGood x) ∧ (rows.length < 9223372036854775808 ∧ ∀ x ∈ rows,(RT.good (.i .i64) [.i .i64,.i .i64,.i .i64,.i .i64,.i .i64,.i .i64,.i .i64,.i .i64,.i .i64,.i .i64,.b,.i .i64,.i .i64,.i .i64,.i .i64,.i .i64,.i .i64]) x) ∧ (-9223372036854775808 ≤ n ∧ n < 9223372036854775808)) (k0:Bool → Option α):M.rtells l rows n k0 = k0 true := by
 obtain ⟨⟨l1,l2⟩,⟨r1,r2⟩,_⟩ := hg
 unfold M.rtells
 try simp only
 generalize hA:List.take (Int.toNat ((if (8:Int) < (l.length:Int) then (8:Int) else (l.length:Int)) - 0)) (List.drop 0 l) = A
 generalize hB:List.take (Int.toNat ((if (20:Int) < (rows.length:Int) then (20:Int) else (rows.length:Int)) - 0)) (List.drop 0 rows) = R
 have a1:A.length ≤ 8 := by
   rw [← hA,List.length_take]; split <;> omega
 have b1:R.length ≤ 20 := by
   rw [← hB,List.length_take]; split <;> omega
 have a2:∀ x ∈ A,BGood x := by
   rw [← hA]; intro x hx; exact l2 x (List.mem_of_mem_drop (List.mem_of_mem_take hx))
 rw [if_pos (by split <;> omega),if_pos (by split <;> omega),if_pos (by omega),if_pos (by omega),if_pos (by omega),if_pos (by omega)]
 rw [rtells_l0_val A R b1 (k0 false) _ _ (-1) (by omega) (by omega) (by omega)]
 have := rtells_l1_val R n b1 (k0 false) (k0 true) (100 + R.length + A.length + A.length + R.length + R.length) 0 A R (by omega) (by omega) a1 rfl a2
 rw [Int.natCast_zero] at this
 exact this
noncomputable def rtells_h {α:Type} (ds:List D) (Q:SV → Hp → Option α):Option α :=
 dL kBy ds fun l ds => dL kRw ds fun rows ds => dI ds fun n ds => dE ds (if V.gB ((l.length < 9223372036854775808 ∧ ∀ x ∈ l,BGood x) ∧ (rows.length < 9223372036854775808 ∧ ∀ x ∈ rows,(RT.good (.i .i64) [.i .i64,.i .i64,.i .i64,.i .i64,.i .i64,.i .i64,.i .i64,.i .i64,.i .i64,.i .i64,.b,.i .i64,.i .i64,.i .i64,.i .i64,.i .i64,.i .i64]) x) ∧ (-9223372036854775808 ≤ n ∧ n < 9223372036854775808)) = true then Q (.bool true) ([]) else none)
theorem rtells_h_ok {α:Type}:FnOk E.P 3 (fEnt (α := α) rtells_sp rtells_h) :=
 fEntR_ok E (look_RwL_rrsolve_ok) (exec_sound E E_ok (look_RwL_rrsolve_ok) (rtells_l1_lps_ok) 400) fun ds Q r h => by
   unfold rtells_h at h
   obtain ⟨l,ds,rfl,h1⟩ := dL_inv h
   obtain ⟨rows,ds,rfl,h2⟩ := dL_inv h1
   obtain ⟨n,ds,rfl,h3⟩ := dI_inv h2
   obtain ⟨rfl,hE⟩ := dE_inv h3
   split at hE
   · rename_i hg
     exact ⟨_,_,hE,fun vs => ⟨_,_,by kernel_rfl,(rtells_eq l rows n (vs.headD undef) (vs.tail.headD undef) _).trans (rtells_v l rows n (gB_iff hg) _)⟩⟩
   · cases hE
end
end Go.Proofs.YtfkgmidgdpfnkaaGreat.Sx
