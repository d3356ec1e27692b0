/- Texts of the walk, merged. -/
import Derived.Test.YtlagndfhibkjpaaMg6
section
/- pose: cores that are placed. -/
namespace Go.Proofs.Ytlagndfhibkjpaa.Sx
open Go
set_option maxRecDepth 20000
set_option linter.unusedVariables false
set_option linter.unusedSimpArgs false
noncomputable abbrev place_S1 (y1:Value) (y2:L3) (y3 y4:Int) (y5:Value) (y6:L3) (y7:Value) (y8:L3) (y9:Value) (y10:L3) (y11 y12 y13 y14 y15 y16 y17 y18 y19:Int) (y20 y21:Bool) (y22 y23 y24 y25 y26 y27 y28 y29 y30 y31:Int) (y32:Value) (y33:L3) (y34 y35 y36 y37 y38 y39 y40 y41 y42 y43:Int) (y44 y45 y46 y47 y48 y49:L3):St := St.mk (some (SV.yld (nat_lit 17)) :: none :: some (SV.ptr (nat_lit 14) (nat_lit 0)) :: some (SV.ptr (nat_lit 15) (nat_lit 0)) :: some (SV.ptr (nat_lit 16) (nat_lit 0)) :: nn 3 (some (SV.ros y1 kP y2) :: some (SV.int .i64 y3) :: some (SV.int .i64 y4) :: nn 29 ([]))) [.cells [SV.ros y5 kP y6,SV.ros y7 kP y8,SV.ros y9 kP y10,SV.int .i64 y11] (nat_lit 29),.cells [SV.int .i64 y12,SV.int .i64 y13,SV.int .i64 y14,SV.int .i64 y15,SV.int .i64 y16,SV.int .i64 y17,SV.int .i64 y18] (nat_lit 43),.cells [SV.sl (nat_lit 18),SV.sl (nat_lit 19),SV.sl (nat_lit 20),SV.int .i64 y19] (nat_lit 29),SObj.dead,SObj.dead,SObj.dead,.cells [SV.bool y20] (nat_lit 4),.cells [SV.bool y21] (nat_lit 66),.cells [SV.int .i64 y22,SV.int .i64 y23,SV.int .i64 y24,SV.int .i64 y25,SV.int .i64 y26,SV.int .i64 y27,SV.int .i64 y28,SV.int .i64 y29,SV.int .i64 y30] (nat_lit 68),.cells [SV.sl (nat_lit 21),SV.sl (nat_lit 22),SV.sl (nat_lit 23),SV.int .i64 y31] (nat_lit 29),SObj.dead,SObj.dead,SObj.dead,.cells [SV.ros y32 kP y33] (nat_lit 24),.cells [SV.ptr (nat_lit 7) (nat_lit 0)] (nat_lit 70),.cells [SV.int .i64 y34,SV.int .i64 y35,SV.int .i64 y36,SV.int .i64 y37,SV.int .i64 y38,SV.int .i64 y39,SV.int .i64 y40,SV.int .i64 y41,SV.int .i64 y42] (nat_lit 68),.cells [SV.int .i64 y43] (nat_lit 3),SObj.lp (nat_lit 12) [false,true,false,true,true,true,true] [none,none,some (SV.ptr (nat_lit 0) (nat_lit 0)),some (SV.ptr (nat_lit 1) (nat_lit 0)),some (SV.ptr (nat_lit 2) (nat_lit 0)),some (SV.ptr (nat_lit 6) (nat_lit 0)),some (SV.ptr (nat_lit 7) (nat_lit 0)),some (SV.ptr (nat_lit 8) (nat_lit 0)),some (SV.ptr (nat_lit 9) (nat_lit 0)),none,none,none,none,none,none,none,none,none,none,none,none,none,none,some (SV.fn (nat_lit 63) [] [SV.ptr (nat_lit 13) (nat_lit 0),SV.ptr (nat_lit 14) (nat_lit 0),SV.ptr (nat_lit 15) (nat_lit 0),SV.ptr (nat_lit 16) (nat_lit 0)]),none,none,none,none,none,none,none,none,none,none,none,none,none,none,none,none,none,none,none,none,none,none,none,none,none,none,none,none,none,none,none,none,none,none,none,none,none,none,none,none,none,none,none,none,none,none,none,none,none,none,none,none,none,none,none,none,none,none,none,none,none,none,none,none] LSt.ready,.seq kP y44 (nat_lit 23),.seq kP y45 (nat_lit 23),.seq kP y46 (nat_lit 23),.seq kP y47 (nat_lit 23),.seq kP y48 (nat_lit 23),.seq kP y49 (nat_lit 23)]
noncomputable abbrev place_S2 (y1:Value) (y2:L3) (y3:Value) (y4:L3) (y5:Value) (y6:L3) (y7 y8 y9 y10 y11 y12 y13 y14:Int) (y15:Bool) (y16 y17 y18 y19 y20 y21 y22 y23 y24 y25:Int) (y26:Value) (y27:L3) (y28 y29 y30 y31 y32 y33 y34 y35 y36 y37:Int) (y38 y39 y40:L3):St := St.mk (nn 40 ([])) [.cells [SV.ros y1 kP y2,SV.ros y3 kP y4,SV.ros y5 kP y6,SV.int .i64 y7] (nat_lit 29),.cells [SV.int .i64 y8,SV.int .i64 y9,SV.int .i64 y10,SV.int .i64 y11,SV.int .i64 y12,SV.int .i64 y13,SV.int .i64 y14] (nat_lit 43),.cells [SV.sl (nat_lit 18),SV.sl (nat_lit 19),SV.sl (nat_lit 20),SV.int .i64 (0:Int)] (nat_lit 29),SObj.dead,SObj.dead,SObj.dead,.cells [SV.bool false] (nat_lit 4),.cells [SV.bool y15] (nat_lit 66),.cells [SV.int .i64 y16,SV.int .i64 y17,SV.int .i64 y18,SV.int .i64 y19,SV.int .i64 y20,SV.int .i64 y21,SV.int .i64 y22,SV.int .i64 y23,SV.int .i64 y24] (nat_lit 68),.cells [SV.sl (nat_lit 21),SV.sl (nat_lit 22),SV.sl (nat_lit 23),SV.int .i64 y25] (nat_lit 29),SObj.dead,SObj.dead,SObj.dead,.cells [SV.ros y26 kP y27] (nat_lit 24),.cells [SV.ptr (nat_lit 7) (nat_lit 0)] (nat_lit 70),.cells [SV.int .i64 y28,SV.int .i64 y29,SV.int .i64 y30,SV.int .i64 y31,SV.int .i64 y32,SV.int .i64 y33,SV.int .i64 y34,SV.int .i64 y35,SV.int .i64 y36] (nat_lit 68),.cells [SV.int .i64 y37] (nat_lit 3),SObj.lp (nat_lit 12) [false,true,false,true,true,true,true] [none,none,some (SV.ptr (nat_lit 0) (nat_lit 0)),some (SV.ptr (nat_lit 1) (nat_lit 0)),some (SV.ptr (nat_lit 2) (nat_lit 0)),some (SV.ptr (nat_lit 6) (nat_lit 0)),some (SV.ptr (nat_lit 7) (nat_lit 0)),some (SV.ptr (nat_lit 8) (nat_lit 0)),some (SV.ptr (nat_lit 9) (nat_lit 0)),none,none,none,none,none,none,none,none,none,none,none,none,none,none,some (SV.fn (nat_lit 63) [] [SV.ptr (nat_lit 13) (nat_lit 0),SV.ptr (nat_lit 14) (nat_lit 0),SV.ptr (nat_lit 15) (nat_lit 0),SV.ptr (nat_lit 16) (nat_lit 0)]),none,none,none,none,none,none,none,none,none,none,none,none,none,none,none,none,none,none,none,none,none,none,none,none,none,none,none,none,none,none,none,none,none,none,none,none,none,none,none,none,none,none,none,none,none,none,none,none,none,none,none,none,none,none,none,none,none,none,none,none,none,none,none,none] (LSt.done Ex.ret),.seq kP [] (nat_lit 23),.seq kP [] (nat_lit 23),.seq kP [] (nat_lit 23),.seq kP y38 (nat_lit 23),.seq kP y39 (nat_lit 23),.seq kP y40 (nat_lit 23)]
noncomputable abbrev place_S3 (y1:Value) (y2:L3) (y3:Value) (y4:L3) (y5:Value) (y6:L3) (y7 y8 y9 y10 y11 y12 y13 y14 y15:Int) (y16 y17:Bool) (y18 y19 y20 y21 y22 y23 y24 y25 y26 y27:Int) (y28:Value) (y29:L3) (y30 y31 y32 y33 y34 y35 y36 y37 y38 y39:Int) (y40 y41 y42 y43 y44 y45:L3):St := St.mk (nn 40 ([])) [.cells [SV.ros y1 kP y2,SV.ros y3 kP y4,SV.ros y5 kP y6,SV.int .i64 y7] (nat_lit 29),.cells [SV.int .i64 y8,SV.int .i64 y9,SV.int .i64 y10,SV.int .i64 y11,SV.int .i64 y12,SV.int .i64 y13,SV.int .i64 y14] (nat_lit 43),.cells [SV.sl (nat_lit 18),SV.sl (nat_lit 19),SV.sl (nat_lit 20),SV.int .i64 y15] (nat_lit 29),SObj.dead,SObj.dead,SObj.dead,.cells [SV.bool y16] (nat_lit 4),.cells [SV.bool y17] (nat_lit 66),.cells [SV.int .i64 y18,SV.int .i64 y19,SV.int .i64 y20,SV.int .i64 y21,SV.int .i64 y22,SV.int .i64 y23,SV.int .i64 y24,SV.int .i64 y25,SV.int .i64 y26] (nat_lit 68),.cells [SV.sl (nat_lit 21),SV.sl (nat_lit 22),SV.sl (nat_lit 23),SV.int .i64 y27] (nat_lit 29),SObj.dead,SObj.dead,SObj.dead,.cells [SV.ros y28 kP y29] (nat_lit 24),.cells [SV.ptr (nat_lit 7) (nat_lit 0)] (nat_lit 70),.cells [SV.int .i64 y30,SV.int .i64 y31,SV.int .i64 y32,SV.int .i64 y33,SV.int .i64 y34,SV.int .i64 y35,SV.int .i64 y36,SV.int .i64 y37,SV.int .i64 y38] (nat_lit 68),.cells [SV.int .i64 y39] (nat_lit 3),SObj.lp (nat_lit 12) [false,true,false,true,true,true,true] [none,none,some (SV.ptr (nat_lit 0) (nat_lit 0)),some (SV.ptr (nat_lit 1) (nat_lit 0)),some (SV.ptr (nat_lit 2) (nat_lit 0)),some (SV.ptr (nat_lit 6) (nat_lit 0)),some (SV.ptr (nat_lit 7) (nat_lit 0)),some (SV.ptr (nat_lit 8) (nat_lit 0)),some (SV.ptr (nat_lit 9) (nat_lit 0)),none,none,none,none,none,none,none,none,none,none,none,none,none,none,some (SV.fn (nat_lit 63) [] [SV.ptr (nat_lit 13) (nat_lit 0),SV.ptr (nat_lit 14) (nat_lit 0),SV.ptr (nat_lit 15) (nat_lit 0),SV.ptr (nat_lit 16) (nat_lit 0)]),none,none,none,none,none,none,none,none,none,none,none,none,none,none,none,none,none,none,none,none,none,none,none,none,none,none,none,none,none,none,none,none,none,none,none,none,none,none,none,none,none,none,none,none,none,none,none,none,none,none,none,none,none,none,none,none,none,none,none,none,none,none,none,none] LSt.ready,.seq kP y40 (nat_lit 23),.seq kP y41 (nat_lit 23),.seq kP y42 (nat_lit 23),.seq kP y43 (nat_lit 23),.seq kP y44 (nat_lit 23),.seq kP y45 (nat_lit 23)]
noncomputable abbrev place_S4:St := St.mk (some (SV.yld (nat_lit 17)) :: none :: some (SV.ptr (nat_lit 14) (nat_lit 0)) :: some (SV.ptr (nat_lit 15) (nat_lit 0)) :: some (SV.ptr (nat_lit 16) (nat_lit 0)) :: nn 3 (some (SV.ros undef kP []) :: some (SV.int .i64 (0:Int)) :: some (SV.int .i64 (0:Int)) :: nn 29 ([]))) [.cells [SV.ros undef kP [],SV.ros undef kP [],SV.ros undef kP [],SV.int .i64 (0:Int)] (nat_lit 29),.cells [SV.int .i64 (0:Int),SV.int .i64 (0:Int),SV.int .i64 (0:Int),SV.int .i64 (0:Int),SV.int .i64 (0:Int),SV.int .i64 (0:Int),SV.int .i64 (0:Int)] (nat_lit 43),.cells [SV.sl (nat_lit 18),SV.sl (nat_lit 19),SV.sl (nat_lit 20),SV.int .i64 (0:Int)] (nat_lit 29),SObj.dead,SObj.dead,SObj.dead,.cells [SV.bool false] (nat_lit 4),.cells [SV.bool false] (nat_lit 66),.cells [SV.int .i64 (0:Int),SV.int .i64 (0:Int),SV.int .i64 (0:Int),SV.int .i64 (0:Int),SV.int .i64 (0:Int),SV.int .i64 (0:Int),SV.int .i64 (0:Int),SV.int .i64 (0:Int),SV.int .i64 (0:Int)] (nat_lit 68),.cells [SV.sl (nat_lit 21),SV.sl (nat_lit 22),SV.sl (nat_lit 23),SV.int .i64 (0:Int)] (nat_lit 29),SObj.dead,SObj.dead,SObj.dead,.cells [SV.ros undef kP []] (nat_lit 24),.cells [SV.ptr (nat_lit 7) (nat_lit 0)] (nat_lit 70),.cells [SV.int .i64 (0:Int),SV.int .i64 (0:Int),SV.int .i64 (0:Int),SV.int .i64 (0:Int),SV.int .i64 (0:Int),SV.int .i64 (0:Int),SV.int .i64 (0:Int),SV.int .i64 (0:Int),SV.int .i64 (0:Int)] (nat_lit 68),.cells [SV.int .i64 (0:Int)] (nat_lit 3),SObj.lp (nat_lit 12) [false,true,false,true,true,true,true] [none,none,some (SV.ptr (nat_lit 0) (nat_lit 0)),some (SV.ptr (nat_lit 1) (nat_lit 0)),some (SV.ptr (nat_lit 2) (nat_lit 0)),some (SV.ptr (nat_lit 6) (nat_lit 0)),some (SV.ptr (nat_lit 7) (nat_lit 0)),some (SV.ptr (nat_lit 8) (nat_lit 0)),some (SV.ptr (nat_lit 9) (nat_lit 0)),none,none,none,none,none,none,none,none,none,none,none,none,none,none,some (SV.fn (nat_lit 63) [] [SV.ptr (nat_lit 13) (nat_lit 0),SV.ptr (nat_lit 14) (nat_lit 0),SV.ptr (nat_lit 15) (nat_lit 0),SV.ptr (nat_lit 16) (nat_lit 0)]),none,none,none,none,none,none,none,none,none,none,none,none,none,none,none,none,none,none,none,none,none,none,none,none,none,none,none,none,none,none,none,none,none,none,none,none,none,none,none,none,none,none,none,none,none,none,none,none,none,none,none,none,none,none,none,none,none,none,none,none,none,none,none,none] LSt.ready,.seq kP [] (nat_lit 23),.seq kP [] (nat_lit 23),.seq kP [] (nat_lit 23),.seq kP [] (nat_lit 23),.seq kP [] (nat_lit 23),.seq kP [] (nat_lit 23)]
noncomputable def _root_.Go.Proofs.Ytlagndfhibkjpaa.M.place_l0_step {α:Type} (x53:L3) (x54 x63 x64 x65 x85 x86 x87 x88 x89 x90 x91 x92 x93 x94:Int) (kn:Int → Bool → L3 → Option α) (k0:Bool → L3 → Option α) (k2:Bool → L3 → Option α) (x55:Int) (x72:Bool) (x98:L3):Option α := let s101:K.T kP := List.getD x53 (Int.toNat x55) ((0:Int),(0:Int),(0:Int)); let s102:RT (LK.i IntKind.i64) [LK.i IntKind.i64] := Prod.snd s101; let s103:LK.T (LK.i IntKind.i64) := Prod.fst s101; let s104:RT (LK.i IntKind.i64) [] := Prod.snd s102; let s105:LK.T (LK.i IntKind.i64) := Prod.fst s102; let s106:Option V.T3 := V.tTurn ((x85,x86,x87),(x88,x89,x90),x91,x92,x93) (IntKind.wrap .i64 (s103 * x94),IntKind.wrap .i64 (s105 * x94),IntKind.wrap .i64 (s104 * x94)); let s107:Option V.T3 := V.tAdd (V.q3 s106) (x63,x64,x65); let s108:Int := Int.fdiv (V.x3 s107) (1048576:Int); let s109:Int := Int.fdiv (V.y3 s107) (1048576:Int); let s110:Int := Int.fdiv (V.z3 s107) (1048576:Int); let s111:Bool := V.on s107 (V.on s106 x72); if cLt x55 x54 = true then if (0:Int) ≤ x55 ∧ x55 < (↑(List.length x53):Int) then if (!V.pwithin_r0 s103 s105 s104 (1048576:Int)) = true then k0 (V.on (V.tAdd ((0:Int),(0:Int),(0:Int)) (x63,x64,x65)) x72) x98 else if (!V.pwithin_r0 s108 s109 s110 (8388608:Int)) = true then k0 s111 x98 else if (List.length x98 + ((0:Nat) + (1:Nat))) * (24:Nat) ≤ (140737488355328:Nat) then kn (IntKind.wrap .i64 (x55 + (1:Int))) s111 (x98 ++ [(s108,s109,s110)]) else none else none else k2 x72 x98
noncomputable def _root_.Go.Proofs.Ytlagndfhibkjpaa.M.place_l0 {α:Type} (x53:L3) (x54 x63 x64 x65 x85 x86 x87 x88 x89 x90 x91 x92 x93 x94:Int) (k0:Bool → L3 → Option α) (k2:Bool → L3 → Option α):Nat → Int → Bool → L3 → Option α
  | 0,_,_,_ => none
  | n + 1,x55,x72,x98 => M.place_l0_step x53 x54 x63 x64 x65 x85 x86 x87 x88 x89 x90 x91 x92 x93 x94 (M.place_l0 x53 x54 x63 x64 x65 x85 x86 x87 x88 x89 x90 x91 x92 x93 x94 k0 k2 n) k0 k2 x55 x72 x98
theorem place_l0_step_eq {α:Type} (x52:Value) (x53:L3) (x54 x55:Int) (x56:Value) (x57:L3) (x58:Value) (x59:L3) (x60:Value) (x61:L3) (x62 x63 x64 x65 x66 x67 x68 x69 x70:Int) (x71 x72:Bool) (x73 x74 x75 x76 x77 x78 x79 x80 x81 x82:Int) (x83:Value) (x84:L3) (x85 x86 x87 x88 x89 x90 x91 x92 x93 x94:Int) (x95 x96 x97 x98 x99 x100:L3) (Q:Ex → St → Option α):(loopStep E (exec E look_pways noLps 400) 63 [false,true] 18 (codeAt E.P 63 [false,true])) (place_S1 x52 x53 x54 x55 x56 x57 x58 x59 x60 x61 x62 x63 x64 x65 x66 x67 x68 x69 x70 x71 x72 x73 x74 x75 x76 x77 x78 x79 x80 x81 x82 x83 x84 x85 x86 x87 x88 x89 x90 x91 x92 x93 x94 x95 x96 x97 x98 x99 x100) Q = M.place_l0_step x53 x54 x63 x64 x65 x85 x86 x87 x88 x89 x90 x91 x92 x93 x94 (fun (x116:Int) (x117:Bool) (x118:L3) => Q .normal (place_S1 x52 x53 x54 x116 x56 x57 x58 x59 x60 x61 x62 x63 x64 x65 x66 x67 x68 x69 x70 x71 x117 x73 x74 x75 x76 x77 x78 x79 x80 x81 x82 x83 x84 x85 x86 x87 x88 x89 x90 x91 x92 x93 x94 x95 x96 x97 x118 x99 x100)) (fun (x112:Bool) (x113:L3) => Q .ret (place_S2 x56 x57 x58 x59 x60 x61 x62 x63 x64 x65 x66 x67 x68 x69 x112 x73 x74 x75 x76 x77 x78 x79 x80 x81 x82 x83 x84 x85 x86 x87 x88 x89 x90 x91 x92 x93 x94 x113 x99 x100)) (fun (x114:Bool) (x115:L3) => Q (.exit 0) (place_S3 x56 x57 x58 x59 x60 x61 x62 x63 x64 x65 x66 x67 x68 x69 x70 x71 x114 x73 x74 x75 x76 x77 x78 x79 x80 x81 x82 x83 x84 x85 x86 x87 x88 x89 x90 x91 x92 x93 x94 x95 x96 x97 x115 x99 x100)) x55 x72 x98 := by kernel_rfl
theorem place_l0_iter {α:Type} (x52:Value) (x53:L3) (x54:Int) (x56:Value) (x57:L3) (x58:Value) (x59:L3) (x60:Value) (x61:L3) (x62 x63 x64 x65 x66 x67 x68 x69 x70:Int) (x71:Bool) (x73 x74 x75 x76 x77 x78 x79 x80 x81 x82:Int) (x83:Value) (x84:L3) (x85 x86 x87 x88 x89 x90 x91 x92 x93 x94:Int) (x95 x96 x97 x99 x100:L3) (Q:Ex → St → Option α):∀ (n:Nat) (x55:Int) (x72:Bool) (x98:L3),iter (loopStep E (exec E look_pways noLps 400) 63 [false,true] 18 (codeAt E.P 63 [false,true])) n (place_S1 x52 x53 x54 x55 x56 x57 x58 x59 x60 x61 x62 x63 x64 x65 x66 x67 x68 x69 x70 x71 x72 x73 x74 x75 x76 x77 x78 x79 x80 x81 x82 x83 x84 x85 x86 x87 x88 x89 x90 x91 x92 x93 x94 x95 x96 x97 x98 x99 x100) Q = M.place_l0 x53 x54 x63 x64 x65 x85 x86 x87 x88 x89 x90 x91 x92 x93 x94 (fun (x112:Bool) (x113:L3) => Q .ret (place_S2 x56 x57 x58 x59 x60 x61 x62 x63 x64 x65 x66 x67 x68 x69 x112 x73 x74 x75 x76 x77 x78 x79 x80 x81 x82 x83 x84 x85 x86 x87 x88 x89 x90 x91 x92 x93 x94 x113 x99 x100)) (fun (x114:Bool) (x115:L3) => Q (.exit 0) (place_S3 x56 x57 x58 x59 x60 x61 x62 x63 x64 x65 x66 x67 x68 x69 x70 x71 x114 x73 x74 x75 x76 x77 x78 x79 x80 x81 x82 x83 x84 x85 x86 x87 x88 x89 x90 x91 x92 x93 x94 x95 x96 x97 x115 x99 x100)) n x55 x72 x98
  | 0,_,_,_ => rfl
  | n + 1,x55,x72,x98 => (place_l0_step_eq x52 x53 x54 x55 x56 x57 x58 x59 x60 x61 x62 x63 x64 x65 x66 x67 x68 x69 x70 x71 x72 x73 x74 x75 x76 x77 x78 x79 x80 x81 x82 x83 x84 x85 x86 x87 x88 x89 x90 x91 x92 x93 x94 x95 x96 x97 x98 x99 x100 (iterK (loopStep E (exec E look_pways noLps 400) 63 [false,true] 18 (codeAt E.P 63 [false,true])) n Q)).trans (congrArg (fun kn => M.place_l0_step x53 x54 x63 x64 x65 x85 x86 x87 x88 x89 x90 x91 x92 x93 x94 kn (fun (x112:Bool) (x113:L3) => Q .ret (place_S2 x56 x57 x58 x59 x60 x61 x62 x63 x64 x65 x66 x67 x68 x69 x112 x73 x74 x75 x76 x77 x78 x79 x80 x81 x82 x83 x84 x85 x86 x87 x88 x89 x90 x91 x92 x93 x94 x113 x99 x100)) (fun (x114:Bool) (x115:L3) => Q (.exit 0) (place_S3 x56 x57 x58 x59 x60 x61 x62 x63 x64 x65 x66 x67 x68 x69 x70 x71 x114 x73 x74 x75 x76 x77 x78 x79 x80 x81 x82 x83 x84 x85 x86 x87 x88 x89 x90 x91 x92 x93 x94 x95 x96 x97 x115 x99 x100)) x55 x72 x98) (funext fun x55 => funext fun x72 => funext fun x98 => place_l0_iter x52 x53 x54 x56 x57 x58 x59 x60 x61 x62 x63 x64 x65 x66 x67 x68 x69 x70 x71 x73 x74 x75 x76 x77 x78 x79 x80 x81 x82 x83 x84 x85 x86 x87 x88 x89 x90 x91 x92 x93 x94 x95 x96 x97 x99 x100 Q n x55 x72 x98))
noncomputable def place_l0_go {α:Type} (ds:List D) (Q:Ex → St → Option α):Option α :=
  dV ds fun x52 ds => dL kP ds fun x53 ds => dI ds fun x54 ds => dI ds fun x55 ds => dV ds fun x56 ds => dL kP ds fun x57 ds => dV ds fun x58 ds => dL kP ds fun x59 ds => dV ds fun x60 ds => dL kP ds fun x61 ds => dI ds fun x62 ds => dI ds fun x63 ds => dI ds fun x64 ds => dI ds fun x65 ds => dI ds fun x66 ds => dI ds fun x67 ds => dI ds fun x68 ds => dI ds fun x69 ds => dI ds fun x70 ds => dB ds fun x71 ds => dB ds fun x72 ds => dI ds fun x73 ds => dI ds fun x74 ds => dI ds fun x75 ds => dI ds fun x76 ds => dI ds fun x77 ds => dI ds fun x78 ds => dI ds fun x79 ds => dI ds fun x80 ds => dI ds fun x81 ds => dI ds fun x82 ds => dV ds fun x83 ds => dL kP ds fun x84 ds => dI ds fun x85 ds => dI ds fun x86 ds => dI ds fun x87 ds => dI ds fun x88 ds => dI ds fun x89 ds => dI ds fun x90 ds => dI ds fun x91 ds => dI ds fun x92 ds => dI ds fun x93 ds => dI ds fun x94 ds => dL kP ds fun x95 ds => dL kP ds fun x96 ds => dL kP ds fun x97 ds => dL kP ds fun x98 ds => dL kP ds fun x99 ds => dL kP ds fun x100 ds => dE ds (M.place_l0 x53 x54 x63 x64 x65 x85 x86 x87 x88 x89 x90 x91 x92 x93 x94 (fun (x112:Bool) (x113:L3) => Q .ret (place_S2 x56 x57 x58 x59 x60 x61 x62 x63 x64 x65 x66 x67 x68 x69 x112 x73 x74 x75 x76 x77 x78 x79 x80 x81 x82 x83 x84 x85 x86 x87 x88 x89 x90 x91 x92 x93 x94 x113 x99 x100)) (fun (x114:Bool) (x115:L3) => Q (.exit 0) (place_S3 x56 x57 x58 x59 x60 x61 x62 x63 x64 x65 x66 x67 x68 x69 x70 x71 x114 x73 x74 x75 x76 x77 x78 x79 x80 x81 x82 x83 x84 x85 x86 x87 x88 x89 x90 x91 x92 x93 x94 x95 x96 x97 x115 x99 x100)) (100 + x53.length + x57.length + x59.length + x61.length + x84.length + x95.length + x96.length + x97.length + x98.length + x99.length + x100.length) x55 x72 x98)
theorem place_l0_ok {α:Type}:LoopOk E.P 63 [false,true] 18 (lEnt (α := α) (place_S4) place_l0_go) :=
  lEnt_ok E (exec_sound E E_ok (look_pways_ok) (noLps_ok _) 400) fun ds Q r h S hS => by
    unfold place_l0_go at h
    obtain ⟨x52,ds,rfl,h1⟩ := dV_inv h
    obtain ⟨x53,ds,rfl,h2⟩ := dL_inv h1
    obtain ⟨x54,ds,rfl,h3⟩ := dI_inv h2
    obtain ⟨x55,ds,rfl,h4⟩ := dI_inv h3
    obtain ⟨x56,ds,rfl,h5⟩ := dV_inv h4
    obtain ⟨x57,ds,rfl,h6⟩ := dL_inv h5
    obtain ⟨x58,ds,rfl,h7⟩ := dV_inv h6
    obtain ⟨x59,ds,rfl,h8⟩ := dL_inv h7
    obtain ⟨x60,ds,rfl,h9⟩ := dV_inv h8
    obtain ⟨x61,ds,rfl,h10⟩ := dL_inv h9
    obtain ⟨x62,ds,rfl,h11⟩ := dI_inv h10
    obtain ⟨x63,ds,rfl,h12⟩ := dI_inv h11
    obtain ⟨x64,ds,rfl,h13⟩ := dI_inv h12
    obtain ⟨x65,ds,rfl,h14⟩ := dI_inv h13
    obtain ⟨x66,ds,rfl,h15⟩ := dI_inv h14
    obtain ⟨x67,ds,rfl,h16⟩ := dI_inv h15
    obtain ⟨x68,ds,rfl,h17⟩ := dI_inv h16
    obtain ⟨x69,ds,rfl,h18⟩ := dI_inv h17
    obtain ⟨x70,ds,rfl,h19⟩ := dI_inv h18
    obtain ⟨x71,ds,rfl,h20⟩ := dB_inv h19
    obtain ⟨x72,ds,rfl,h21⟩ := dB_inv h20
    obtain ⟨x73,ds,rfl,h22⟩ := dI_inv h21
    obtain ⟨x74,ds,rfl,h23⟩ := dI_inv h22
    obtain ⟨x75,ds,rfl,h24⟩ := dI_inv h23
    obtain ⟨x76,ds,rfl,h25⟩ := dI_inv h24
    obtain ⟨x77,ds,rfl,h26⟩ := dI_inv h25
    obtain ⟨x78,ds,rfl,h27⟩ := dI_inv h26
    obtain ⟨x79,ds,rfl,h28⟩ := dI_inv h27
    obtain ⟨x80,ds,rfl,h29⟩ := dI_inv h28
    obtain ⟨x81,ds,rfl,h30⟩ := dI_inv h29
    obtain ⟨x82,ds,rfl,h31⟩ := dI_inv h30
    obtain ⟨x83,ds,rfl,h32⟩ := dV_inv h31
    obtain ⟨x84,ds,rfl,h33⟩ := dL_inv h32
    obtain ⟨x85,ds,rfl,h34⟩ := dI_inv h33
    obtain ⟨x86,ds,rfl,h35⟩ := dI_inv h34
    obtain ⟨x87,ds,rfl,h36⟩ := dI_inv h35
    obtain ⟨x88,ds,rfl,h37⟩ := dI_inv h36
    obtain ⟨x89,ds,rfl,h38⟩ := dI_inv h37
    obtain ⟨x90,ds,rfl,h39⟩ := dI_inv h38
    obtain ⟨x91,ds,rfl,h40⟩ := dI_inv h39
    obtain ⟨x92,ds,rfl,h41⟩ := dI_inv h40
    obtain ⟨x93,ds,rfl,h42⟩ := dI_inv h41
    obtain ⟨x94,ds,rfl,h43⟩ := dI_inv h42
    obtain ⟨x95,ds,rfl,h44⟩ := dL_inv h43
    obtain ⟨x96,ds,rfl,h45⟩ := dL_inv h44
    obtain ⟨x97,ds,rfl,h46⟩ := dL_inv h45
    obtain ⟨x98,ds,rfl,h47⟩ := dL_inv h46
    obtain ⟨x99,ds,rfl,h48⟩ := dL_inv h47
    obtain ⟨x100,ds,rfl,h49⟩ := dL_inv h48
    obtain ⟨rfl,hE⟩ := dE_inv h49
    have e:fillS (place_S4) [.v x52,.l kP x53,.i x54,.i x55,.v x56,.l kP x57,.v x58,.l kP x59,.v x60,.l kP x61,.i x62,.i x63,.i x64,.i x65,.i x66,.i x67,.i x68,.i x69,.i x70,.b x71,.b x72,.i x73,.i x74,.i x75,.i x76,.i x77,.i x78,.i x79,.i x80,.i x81,.i x82,.v x83,.l kP x84,.i x85,.i x86,.i x87,.i x88,.i x89,.i x90,.i x91,.i x92,.i x93,.i x94,.l kP x95,.l kP x96,.l kP x97,.l kP x98,.l kP x99,.l kP x100] = some (place_S1 x52 x53 x54 x55 x56 x57 x58 x59 x60 x61 x62 x63 x64 x65 x66 x67 x68 x69 x70 x71 x72 x73 x74 x75 x76 x77 x78 x79 x80 x81 x82 x83 x84 x85 x86 x87 x88 x89 x90 x91 x92 x93 x94 x95 x96 x97 x98 x99 x100) := by kernel_rfl
    rw [e] at hS
    cases hS
    exact ⟨_,(place_l0_iter x52 x53 x54 x56 x57 x58 x59 x60 x61 x62 x63 x64 x65 x66 x67 x68 x69 x70 x71 x73 x74 x75 x76 x77 x78 x79 x80 x81 x82 x83 x84 x85 x86 x87 x88 x89 x90 x91 x92 x93 x94 x95 x96 x97 x99 x100 Q _ x55 x72 x98).trans hE⟩
noncomputable def place_l0_lps {α:Type}:LookL α := addLp 63 [false,true] 18 (lEnt (place_S4) place_l0_go) noLps
theorem place_l0_lps_ok {α:Type}:LoopsOk E.P (place_l0_lps (α := α)) := addLp_ok place_l0_ok (noLps_ok _)

noncomputable def _root_.Go.Proofs.Ytlagndfhibkjpaa.M.place {α:Type} (l:L3) (ax:L3) (ed:L3) (r:Int) (px:Int) (p_y:Int) (pz:Int) (tw:Int) (tx:Int) (ty:Int) (tz:Int) (k0:Option α) (k1:Nat → Nat → Int → L3 → L3 → L3 → Option α):Option α := M.place_l0 l (↑(List.length l):Int) px p_y pz (V.m0 (V.tRows (tw,tx,ty,tz))) (V.m1 (V.tRows (tw,tx,ty,tz))) (V.m2 (V.tRows (tw,tx,ty,tz))) (V.m3 (V.tRows (tw,tx,ty,tz))) (V.m4 (V.tRows (tw,tx,ty,tz))) (V.m5 (V.tRows (tw,tx,ty,tz))) (V.m6 (V.tRows (tw,tx,ty,tz))) (V.m7 (V.tRows (tw,tx,ty,tz))) (V.m8 (V.tRows (tw,tx,ty,tz))) (1048576:Int) (fun (x122:Bool) (x123:L3) ↦ k0) (fun (x124:Bool) (x125:L3) ↦ if V.lenB (List.length ax) = true then if Prod.fst (V.wy x124 (V.q9 (V.tRows (tw,tx,ty,tz))) ax) = true then if V.lenB (List.length ed) = true then if Prod.fst (V.wy (Prod.fst (Prod.snd (V.wy x124 (V.q9 (V.tRows (tw,tx,ty,tz))) ax))) (V.q9 (V.tRows (tw,tx,ty,tz))) ed) = true then if Prod.fst (Prod.snd (V.wy (Prod.fst (Prod.snd (V.wy x124 (V.q9 (V.tRows (tw,tx,ty,tz))) ax))) (V.q9 (V.tRows (tw,tx,ty,tz))) ed)) = true then k0 else if cEq (↑(List.length x125):Int) (0:Int) = true then k0 else k1 (List.length (Prod.snd (Prod.snd (V.wy x124 (V.q9 (V.tRows (tw,tx,ty,tz))) ax)))) (List.length (Prod.snd (Prod.snd (V.wy (Prod.fst (Prod.snd (V.wy x124 (V.q9 (V.tRows (tw,tx,ty,tz))) ax))) (V.q9 (V.tRows (tw,tx,ty,tz))) ed)))) r x125 (Prod.snd (Prod.snd (V.wy x124 (V.q9 (V.tRows (tw,tx,ty,tz))) ax))) (Prod.snd (Prod.snd (V.wy (Prod.fst (Prod.snd (V.wy x124 (V.q9 (V.tRows (tw,tx,ty,tz))) ax))) (V.q9 (V.tRows (tw,tx,ty,tz))) ed))) else if Prod.fst (Prod.snd (V.wy (Prod.fst (Prod.snd (V.wy x124 (V.q9 (V.tRows (tw,tx,ty,tz))) ax))) (V.q9 (V.tRows (tw,tx,ty,tz))) ed)) = true then k0 else k0 else none else if V.lenB (List.length ed) = true then if Prod.fst (V.wy (Prod.fst (Prod.snd (V.wy x124 (V.q9 (V.tRows (tw,tx,ty,tz))) ax))) (V.q9 (V.tRows (tw,tx,ty,tz))) ed) = true then if Prod.fst (Prod.snd (V.wy (Prod.fst (Prod.snd (V.wy x124 (V.q9 (V.tRows (tw,tx,ty,tz))) ax))) (V.q9 (V.tRows (tw,tx,ty,tz))) ed)) = true then k0 else k0 else if Prod.fst (Prod.snd (V.wy (Prod.fst (Prod.snd (V.wy x124 (V.q9 (V.tRows (tw,tx,ty,tz))) ax))) (V.q9 (V.tRows (tw,tx,ty,tz))) ed)) = true then k0 else k0 else none else none) ((100:Nat) + List.length l + List.length l + List.length ax + List.length ed + List.length l + (0:Nat) + (0:Nat) + (0:Nat) + (0:Nat) + (0:Nat) + (0:Nat)) (0:Int) (V.on (V.tRows (tw,tx,ty,tz)) false) []
theorem place_eq {α:Type} (l:L3) (ax:L3) (ed:L3) (r:Int) (px:Int) (p_y:Int) (pz:Int) (tw:Int) (tx:Int) (ty:Int) (tz:Int) (v119:Value) (v120:Value) (v121:Value) (Q:SV → Hp → Option α):callI E look_pways (exec E look_pways place_l0_lps 400) 12 ([SV.agg [SV.ros v119 kP l,SV.ros v120 kP ax,SV.ros v121 kP ed,SV.int .i64 r],SV.agg [SV.int .i64 px,SV.int .i64 p_y,SV.int .i64 pz,SV.int .i64 tw,SV.int .i64 tx,SV.int .i64 ty,SV.int .i64 tz]]) ([]) Q = M.place l ax ed r px p_y pz tw tx ty tz (Q (SV.tup [SV.agg [SV.sl (nat_lit 0),SV.sl (nat_lit 1),SV.sl (nat_lit 2),SV.int .i64 (0:Int)],SV.bool false]) ([.seq kP [] (nat_lit 23),.seq kP [] (nat_lit 23),.seq kP [] (nat_lit 23)])) (fun (x126 x127:Nat) (x128:Int) (x129 x130 x131:L3) => Q (SV.tup [SV.agg [SV.sl (nat_lit 0),SV.clp (nat_lit 1) kP x126,SV.clp (nat_lit 2) kP x127,SV.int .i64 x128],SV.bool true]) ([.seq kP x129 (nat_lit 23),.seq kP x130 (nat_lit 23),.seq kP x131 (nat_lit 23)])) := by kernel_rfl
def place_sp:List AS := [.st [.ro kP,.ro kP,.ro kP,.leaf (.int .i64 0)],.val (.agg [.int .i64 0,.int .i64 0,.int .i64 0,.int .i64 0,.int .i64 0,.int .i64 0,.int .i64 0])]
noncomputable def atT (m:V.T9) (p:P3):Option V.T3 := V.tTurn m (scP p 1048576)
noncomputable def atA (m:V.T9) (t:V.T3) (p:P3):Option V.T3 := V.tAdd (V.q3 (atT m p)) t
noncomputable def atQ (m:V.T9) (t:V.T3) (p:P3):P3 := (Int.fdiv (V.x3 (atA m t p)) 1048576,Int.fdiv (V.y3 (atA m t p)) 1048576,Int.fdiv (V.z3 (atA m t p)) 1048576)
/-- Points that are placed: the flag, and where they come. -/
noncomputable def placeRun (m:V.T9) (t:V.T3):List P3 → Bool → List P3 → Option (Bool × List P3)
  | [],f,a => some (f,a)
  | p :: l,f,a => if Sm p 1048576 then (if Sm (atQ m t p) 8388608 then placeRun m t l (V.on (atA m t p) (V.on (atT m p) f)) (a ++ [atQ m t p]) else none) else none
theorem place_l0_val {α:Type} (l:List P3) (hl:l.length < 1099511627776) (m:V.T9) (t:V.T3) (k0:Option α) (k2:Bool → List P3 → Option α):∀ (fuel i:Nat) (f:Bool) (a:List P3),i ≤ l.length → l.length - i < fuel → a.length ≤ i →
    M.place_l0 l (l.length:Int) t.1 t.2.1 t.2.2 m.1.1 m.1.2.1 m.1.2.2 m.2.1.1 m.2.1.2.1 m.2.1.2.2 m.2.2.1 m.2.2.2.1 m.2.2.2.2 1048576 (fun _ _ => k0) k2 fuel (i:Int) f a = (placeRun m t (l.drop i) f a).elim k0 (fun r => k2 r.1 r.2)
  | 0,i,f,a,h1,h2,h3 => by omega
  | n + 1,i,f,a,h1,h2,h3 => by
    unfold M.place_l0 M.place_l0_step
    simp only
    rw [cLt_nat]
    by_cases hi:i < l.length
    · rw [if_pos (by simpa using hi), if_pos (by omega), within_dec _ _ _ _ (by omega), within_dec _ _ _ _ (by omega), drop_pt l i hi, toNat_nat]
      show (if (!decide (Sm (pt l i) 1048576)) = true then k0 else if (!decide (Sm (atQ m t (pt l i)) 8388608)) = true then k0 else _) = _
      by_cases hs:Sm (pt l i) 1048576
      · rw [if_neg (by simpa using hs)]
        by_cases hq:Sm (atQ m t (pt l i)) 8388608
        · rw [if_neg (by simpa using hq), if_pos (by omega), w_next (by omega)]
          have ew:placeRun m t (pt l i :: l.drop (i + 1)) f a = placeRun m t (l.drop (i + 1)) (V.on (atA m t (pt l i)) (V.on (atT m (pt l i)) f)) (a ++ [atQ m t (pt l i)]) := by
            show (if Sm (pt l i) 1048576 then _ else _) = _
            rw [if_pos hs,if_pos hq]
          rw [ew]
          exact place_l0_val l hl m t k0 k2 n (i + 1) _ _ (by omega) (by omega) (by rw [List.length_append,List.length_singleton]; omega)
        · rw [if_pos (by simpa using hq)]
          have ew:placeRun m t (pt l i :: l.drop (i + 1)) f a = none := by
            show (if Sm (pt l i) 1048576 then _ else _) = _
            rw [if_pos hs,if_neg hq]
          rw [ew]; rfl
      · rw [if_pos (by simpa using hs)]
        have ew:placeRun m t (pt l i :: l.drop (i + 1)) f a = none := by
          show (if Sm (pt l i) 1048576 then _ else _) = _
          rw [if_neg hs]
        rw [ew]; rfl
    · have : i = l.length := by omega
      subst this
      rw [if_neg (by simp)]
      simp [placeRun]
/-- What comes behind the points: the ways, the flag. -/
noncomputable def plcK (m:V.T9) (ax ed:List P3) (f:Bool) (a:List P3):Option (List P3 × List P3 × List P3) :=
  if (V.wy f m ax).1 = true ∧ (V.wy (V.wy f m ax).2.1 m ed).1 = true ∧ (V.wy (V.wy f m ax).2.1 m ed).2.1 = false ∧ a.length ≠ 0 then some (a,(V.wy f m ax).2.2,(V.wy (V.wy f m ax).2.1 m ed).2.2) else none
noncomputable def plcP (l ax ed:List P3) (t:V.T3) (q:V.T4):Option (List P3 × List P3 × List P3) :=
  (placeRun (V.q9 (V.tRows q)) t l (V.on (V.tRows q) false) []).elim none (fun r => plcK (V.q9 (V.tRows q)) ax ed r.1 r.2)
noncomputable def _root_.Go.Proofs.Ytlagndfhibkjpaa.V.plc (l ax ed:List P3) (t:V.T3) (q:V.T4):Option (List P3 × List P3 × List P3) := hid (plcP l ax ed t q)
noncomputable def _root_.Go.Proofs.Ytlagndfhibkjpaa.V.plG (o:Option (List P3 × List P3 × List P3)):Bool := hid o.isSome
noncomputable def _root_.Go.Proofs.Ytlagndfhibkjpaa.V.plP (o:Option (List P3 × List P3 × List P3)):List P3 := hid (o.getD ([],[],[])).1
noncomputable def _root_.Go.Proofs.Ytlagndfhibkjpaa.V.plA (o:Option (List P3 × List P3 × List P3)):List P3 := hid (o.getD ([],[],[])).2.1
noncomputable def _root_.Go.Proofs.Ytlagndfhibkjpaa.V.plE (o:Option (List P3 × List P3 × List P3)):List P3 := hid (o.getD ([],[],[])).2.2
theorem plK_if {α:Type} (m:V.T9) (ax ed:List P3) (f:Bool) (a:List P3) (k0:Option α) (k1:List P3 → List P3 → List P3 → Option α) :
    (if Prod.fst (V.wy f m ax) = true then
        (if Prod.fst (V.wy (Prod.fst (Prod.snd (V.wy f m ax))) m ed) = true then
            (if Prod.fst (Prod.snd (V.wy (Prod.fst (Prod.snd (V.wy f m ax))) m ed)) = true then k0
            else
              if cEq (↑(List.length a):Int) (0:Int) = true then k0
              else k1 a (V.wy f m ax).2.2 (V.wy (V.wy f m ax).2.1 m ed).2.2)
          else if Prod.fst (Prod.snd (V.wy (Prod.fst (Prod.snd (V.wy f m ax))) m ed)) = true then k0 else k0)
      else
          if Prod.fst (V.wy (Prod.fst (Prod.snd (V.wy f m ax))) m ed) = true then if Prod.fst (Prod.snd (V.wy (Prod.fst (Prod.snd (V.wy f m ax))) m ed)) = true then k0 else k0 else if Prod.fst (Prod.snd (V.wy (Prod.fst (Prod.snd (V.wy f m ax))) m ed)) = true then k0 else k0) =
    if V.plG (plcK m ax ed f a) = true then k1 (V.plP (plcK m ax ed f a)) (V.plA (plcK m ax ed f a)) (V.plE (plcK m ax ed f a)) else k0 := by
  unfold V.plG V.plP V.plA V.plE
  simp only [hid_eq]
  rw [cEq_eq]
  by_cases h1:(V.wy f m ax).1 = true
  · by_cases h2 : (V.wy (V.wy f m ax).2.1 m ed).1 = true
    · by_cases h3 : (V.wy (V.wy f m ax).2.1 m ed).2.1 = true
      · have e : plcK m ax ed f a = none := by unfold plcK; rw [if_neg (by rw [h3]; simp)]
        rw [e,if_pos h1,if_pos h2,if_pos h3]; rfl
      · by_cases h4 : a.length = 0
        · have e : plcK m ax ed f a = none := by unfold plcK; rw [if_neg (by rw [h4]; simp)]
          rw [e,if_pos h1,if_pos h2,if_neg h3,if_pos (by rw [h4]; rfl)]; rfl
        · have e : plcK m ax ed f a = some (a, (V.wy f m ax).2.2, (V.wy (V.wy f m ax).2.1 m ed).2.2) := by
            unfold plcK; rw [if_pos ⟨h1,h2,by simpa using h3,h4⟩]
          rw [e,if_pos h1,if_pos h2,if_neg h3,if_neg (by simpa using h4)]; rfl
    · have e : plcK m ax ed f a = none := by unfold plcK; rw [if_neg (fun h => h2 h.2.1)]
      rw [e,if_pos h1,if_neg h2,ite_self]; rfl
  · have e : plcK m ax ed f a = none := by unfold plcK; rw [if_neg (fun h => h1 h.1)]
    rw [e,if_neg h1,ite_self,ite_self]; rfl
theorem place_v {α:Type} (l ax ed:List P3) (r px p_y pz tw tx ty tz:Int) (h1:V.lenB l.length = true) (h2:V.lenB ax.length = true) (h3:V.lenB ed.length = true) (k0:Option α) (k1:Nat → Nat → Int → List P3 → List P3 → List P3 → Option α) :
    M.place l ax ed r px p_y pz tw tx ty tz k0 k1 = if V.plG (V.plc l ax ed (px,p_y,pz) (tw,tx,ty,tz)) = true then k1 (V.plA (V.plc l ax ed (px,p_y,pz) (tw,tx,ty,tz))).length (V.plE (V.plc l ax ed (px,p_y,pz) (tw,tx,ty,tz))).length r (V.plP (V.plc l ax ed (px,p_y,pz) (tw,tx,ty,tz))) (V.plA (V.plc l ax ed (px,p_y,pz) (tw,tx,ty,tz))) (V.plE (V.plc l ax ed (px,p_y,pz) (tw,tx,ty,tz))) else k0 := by
  unfold M.place
  simp only [if_pos h2,if_pos h3]
  refine Eq.trans (place_l0_val l (lenB_lt h1) (V.q9 (V.tRows (tw,tx,ty,tz))) (px,p_y,pz) _ _ _ 0 _ [] (by omega) (by omega) (by simp)) ?_
  rw [List.drop_zero]
  have e:V.plc l ax ed (px,p_y,pz) (tw,tx,ty,tz) = plcP l ax ed (px,p_y,pz) (tw,tx,ty,tz) := by unfold V.plc; rw [hid_eq]
  rw [e]
  unfold plcP
  cases placeRun (V.q9 (V.tRows (tw,tx,ty,tz))) (px,p_y,pz) l (V.on (V.tRows (tw,tx,ty,tz)) false) [] with
  | none => unfold V.plG; simp only [hid_eq]; rfl
  | some p => exact plK_if (V.q9 (V.tRows (tw,tx,ty,tz))) ax ed p.1 p.2 k0 (fun a b c => k1 b.length c.length r a b c)
noncomputable def place_h {α:Type} (ds:List D) (Q:SV → Hp → Option α):Option α :=
  dL kP ds fun l ds => dL kP ds fun ax ds => dL kP ds fun ed ds => dI ds fun r ds => dI ds fun px ds => dI ds fun p_y ds => dI ds fun pz ds => dI ds fun tw ds => dI ds fun tx ds => dI ds fun ty ds => dI ds fun tz ds => dE ds (if V.lenB l.length = true ∧ V.lenB ax.length = true ∧ V.lenB ed.length = true then if V.plG (V.plc l ax ed (px,p_y,pz) (tw,tx,ty,tz)) = true then Q (.tup [.agg [.sl 0,.clp 1 (.st (.i .i64) [.i .i64,.i .i64]) (V.plA (V.plc l ax ed (px,p_y,pz) (tw,tx,ty,tz))).length,.clp 2 (.st (.i .i64) [.i .i64,.i .i64]) (V.plE (V.plc l ax ed (px,p_y,pz) (tw,tx,ty,tz))).length,.int .i64 r],.bool true]) ([.seq (.st (.i .i64) [.i .i64,.i .i64]) (V.plP (V.plc l ax ed (px,p_y,pz) (tw,tx,ty,tz))) 23,.seq (.st (.i .i64) [.i .i64,.i .i64]) (V.plA (V.plc l ax ed (px,p_y,pz) (tw,tx,ty,tz))) 23,.seq (.st (.i .i64) [.i .i64,.i .i64]) (V.plE (V.plc l ax ed (px,p_y,pz) (tw,tx,ty,tz))) 23]) else Q (.tup [.agg [.sl 0,.sl 1,.sl 2,.int .i64 0],.bool false]) ([.seq (.st (.i .i64) [.i .i64,.i .i64]) [] 23,.seq (.st (.i .i64) [.i .i64,.i .i64]) [] 23,.seq (.st (.i .i64) [.i .i64,.i .i64]) [] 23]) else none)
theorem place_h_ok {α:Type}:FnOk E.P 12 (fEnt (α := α) place_sp place_h) :=
  fEntR_ok E (look_pways_ok) (exec_sound E E_ok (look_pways_ok) (place_l0_lps_ok) 400) fun ds Q r h => by
    unfold place_h at h
    obtain ⟨l,ds,rfl,h1⟩ := dL_inv h
    obtain ⟨ax,ds,rfl,h2⟩ := dL_inv h1
    obtain ⟨ed,ds,rfl,h3⟩ := dL_inv h2
    obtain ⟨r,ds,rfl,h4⟩ := dI_inv h3
    obtain ⟨px,ds,rfl,h5⟩ := dI_inv h4
    obtain ⟨p_y,ds,rfl,h6⟩ := dI_inv h5
    obtain ⟨pz,ds,rfl,h7⟩ := dI_inv h6
    obtain ⟨tw,ds,rfl,h8⟩ := dI_inv h7
    obtain ⟨tx,ds,rfl,h9⟩ := dI_inv h8
    obtain ⟨ty,ds,rfl,h10⟩ := dI_inv h9
    obtain ⟨tz,ds,rfl,h11⟩ := dI_inv h10
    obtain ⟨rfl,hE⟩ := dE_inv h11
    split at hE
    · rename_i hg
      split at hE
      · rename_i hc
        exact ⟨_,_,hE,fun vs => ⟨_,_,by kernel_rfl,(place_eq l ax ed r px p_y pz tw tx ty tz ((cellsV (vs.headD undef)).headD undef) ((cellsV (vs.headD undef)).tail.headD undef) ((cellsV (vs.headD undef)).tail.tail.headD undef) _).trans ((place_v l ax ed r px p_y pz tw tx ty tz hg.1 hg.2.1 hg.2.2 _ _).trans (if_pos hc))⟩⟩
      · rename_i hc
        exact ⟨_,_,hE,fun vs => ⟨_,_,by kernel_rfl,(place_eq l ax ed r px p_y pz tw tx ty tz ((cellsV (vs.headD undef)).headD undef) ((cellsV (vs.headD undef)).tail.headD undef) ((cellsV (vs.headD undef)).tail.tail.headD undef) _).trans ((place_v l ax ed r px p_y pz tw tx ty tz hg.1 hg.2.1 hg.2.2 _ _).trans (if_neg hc))⟩⟩
    · cases hE
noncomputable def look_place {α:Type}:LookF α := addFn 12 (fEnt place_sp place_h) look_pways
theorem look_place_ok {α:Type}:LookOk E.P (look_place (α := α)) := addFn_ok place_h_ok (look_pways_ok)
end Go.Proofs.Ytlagndfhibkjpaa.Sx
end

section
/- pose: exact turns, plainly. -/
namespace Go.Proofs.Ytlagndfhibkjpaa.Sx
open Go
set_option linter.unusedVariables false
set_option linter.unusedSimpArgs false
theorem turn_sgn {s0 s1 s2 a b c:Int} (h0:s0 = 1 ∨ s0 = -1) (h1:s1 = 1 ∨ s1 = -1) (h2:s2 = 1 ∨ s2 = -1) (ga:Gd a) (gb:Gd b) (gc:Gd c) :
    V.tTurn ((4294967296 * s0,0,0),(0,4294967296 * s1,0),(0,0,4294967296 * s2)) (a,b,c) = some (s0 * a,s1 * b,s2 * c) := by
  have z:Gd 0 := by decide
  unfold Gd at ga gb gc
  rw [tTurn_some]
  refine ⟨mDot3_some.2 ⟨?_,z,z,ga,gb,gc,?_,?_⟩,mDot3_some.2 ⟨z,?_,z,ga,gb,gc,?_,?_⟩,mDot3_some.2 ⟨z,z,?_,ga,gb,gc,?_,?_⟩⟩ <;>
    rcases h0 with rfl | rfl <;> rcases h1 with rfl | rfl <;> rcases h2 with rfl | rfl <;> first | decide | (simp only [Gd]; omega) | (simp only []; omega)
def sg (s p:P3):P3 := (s.1 * p.1,s.2.1 * p.2.1,s.2.2 * p.2.2)
structure Sgn (s:P3):Prop where
  a:s.1 = 1 ∨ s.1 = -1
  b:s.2.1 = 1 ∨ s.2.1 = -1
  c:s.2.2 = 1 ∨ s.2.2 = -1
theorem un_abs {s:Int} (h:s = 1 ∨ s = -1) (x:Int):(s * x).natAbs = x.natAbs := by rcases h with rfl | rfl <;> simp
theorem un_tdiv {s:Int} (h:s = 1 ∨ s = -1) (x n:Int):(s * x).tdiv n = s * x.tdiv n := by rcases h with rfl | rfl <;> simp [Int.neg_tdiv]
theorem un_un {s:Int} (h:s = 1 ∨ s = -1) (x:Int):s * (s * x) = x := by rcases h with rfl | rfl <;> simp
theorem un_in {s:Int} (h:s = 1 ∨ s = -1) (x n:Int):(-n ≤ s * x ∧ s * x ≤ n) ↔ (-n ≤ x ∧ x ≤ n) := by rcases h with rfl | rfl <;> omega
theorem gcd3_sg {s:P3} (hs:Sgn s) (p:P3):gcd3 (sg s p) = gcd3 p := by
  show Nat.gcd (Nat.gcd (s.1 * p.1).natAbs (s.2.1 * p.2.1).natAbs) (s.2.2 * p.2.2).natAbs = _
  rw [un_abs hs.a,un_abs hs.b,un_abs hs.c]; rfl
theorem divP_sg {s:P3} (hs:Sgn s) (p:P3) (n:Int):divP (sg s p) n = sg s (divP p n) := by
  show ((s.1 * p.1).tdiv n,(s.2.1 * p.2.1).tdiv n,(s.2.2 * p.2.2).tdiv n) = _
  rw [un_tdiv hs.a,un_tdiv hs.b,un_tdiv hs.c]; rfl
theorem bareP_sg {s:P3} (hs:Sgn s) (p:P3):bareP (sg s p) = sg s (bareP p) := by unfold bareP; rw [gcd3_sg hs,divP_sg hs]
theorem sm_sg {s:P3} (hs:Sgn s) (p:P3) (n:Int):Sm (sg s p) n ↔ Sm p n := by
  show ((-n ≤ s.1 * p.1 ∧ s.1 * p.1 ≤ n) ∧ (-n ≤ s.2.1 * p.2.1 ∧ s.2.1 * p.2.1 ≤ n) ∧ (-n ≤ s.2.2 * p.2.2 ∧ s.2.2 * p.2.2 ≤ n)) ↔ _
  rw [un_in hs.a,un_in hs.b,un_in hs.c]; rfl
theorem bigP_sm (p:P3) (n:Int):bigP p n = false ↔ Sm p n := ⟨fun h => bigP_false h,fun h => bigP_eq_false h⟩
theorem bigP_sg {s:P3} (hs:Sgn s) (p:P3) (n:Int):bigP (sg s p) n = bigP p n := by
  have h := (bigP_sm (sg s p) n).trans ((sm_sg hs p n).trans (bigP_sm p n).symm)
  cases h1:bigP (sg s p) n <;> cases h2:bigP p n <;> simp_all
theorem shrinkP_sg {s:P3} (hs:Sgn s):∀ (n:Nat) (p:P3),shrinkP n (sg s p) = sg s (shrinkP n p)
  | 0,p => rfl
  | n + 1,p => by
    simp only [shrinkP,bigP_sg hs]
    split
    · rw [divP_sg hs,shrinkP_sg hs n]
    · rfl
theorem sg_zero (s:P3):sg s (0,0,0) = (0,0,0) := by simp [sg]
theorem shortP_sg {s:P3} (hs:Sgn s) (p:P3):shortP (sg s p) = sg s (shortP p) := by
  unfold shortP
  rw [bigP_sg hs]
  split
  · exact (sg_zero s).symm
  · rw [bareP_sg hs,shrinkP_sg hs,bareP_sg hs]
theorem sg_sg {s:P3} (hs:Sgn s) (p:P3):sg s (sg s p) = p := by
  show (s.1 * (s.1 * p.1),s.2.1 * (s.2.1 * p.2.1),s.2.2 * (s.2.2 * p.2.2)) = p
  rw [un_un hs.a,un_un hs.b,un_un hs.c]
theorem sg_ne {s:P3} (hs:Sgn s) {p:P3} (h:p ≠ (0,0,0)):sg s p ≠ (0,0,0) := by
  intro h2; apply h; rw [← sg_sg hs p,h2,sg_zero]
theorem neat_sg {s:P3} (hs:Sgn s) {p:P3} (h:Neat p):Neat (sg s p) :=
  ⟨sg_ne hs h.1,by rw [shortP_sg hs,h.2.1],by rw [bigP_sg hs]; exact h.2.2⟩
theorem neat_one {p:P3} (h:Neat p):gcd3 p = 1 := by
  rcases shortP_form p with h1 | ⟨h1,_⟩
  · rw [h.2.1] at h1; exact absurd h1 h.1
  · rwa [h.2.1] at h1
def mlt (c:Int) (p:P3):P3 := (c * p.1,c * p.2.1,c * p.2.2)
theorem grow_form:∀ (n:Nat) (p:P3),Sm p 1048576 → p ≠ (0,0,0) → ∃ k:Nat,growN n p = mlt ((2 ^ k:Nat):Int) p ∧ Sm (growN n p) 1048576
  | 0,p,h,h0 => ⟨0,by simp [growN,mlt],h⟩
  | n + 1,p,h,h0 => by
    show ∃ k:Nat,(if p = (0,0,0) then p else if Sm p 524288 then growN n (dblP p) else p) = _ ∧ Sm (if p = (0,0,0) then p else if Sm p 524288 then growN n (dblP p) else p) 1048576
    rw [if_neg h0]
    by_cases hs:Sm p 524288
    · rw [if_pos hs]
      have hsm := hs
      unfold Sm at hsm
      have d:dblP p = (2 * p.1,2 * p.2.1,2 * p.2.2) := by
        unfold dblP
        rw [IntWalk.i64_in (2 * p.1) (by omega),IntWalk.i64_in (2 * p.2.1) (by omega),IntWalk.i64_in (2 * p.2.2) (by omega)]
      obtain ⟨k,e1,e2⟩ := grow_form n (dblP p) (by rw [d]; show (-1048576 ≤ 2 * p.1 ∧ 2 * p.1 ≤ 1048576) ∧ (-1048576 ≤ 2 * p.2.1 ∧ 2 * p.2.1 ≤ 1048576) ∧ (-1048576 ≤ 2 * p.2.2 ∧ 2 * p.2.2 ≤ 1048576); omega) (by
        intro hz; apply h0
        rw [d] at hz
        simp only [Prod.mk.injEq] at hz
        obtain ⟨x,y,z⟩ := p
        simp only at hz
        rw [show x = 0 by omega,show y = 0 by omega,show z = 0 by omega])
      refine ⟨k + 1,?_,e2⟩
      rw [e1,d]
      have e:∀ x:Int,((2 ^ k:Nat):Int) * (2 * x) = ((2 ^ (k + 1):Nat):Int) * x := by
        intro x; rw [← Int.mul_assoc,Nat.pow_succ]; push_cast; rfl
      unfold mlt
      simp only [e]
    · rw [if_neg hs]
      exact ⟨0,by simp [mlt],h⟩
theorem gcd3_mlt (c:Nat) (p:P3):gcd3 (mlt c p) = c * gcd3 p := by
  show Nat.gcd (Nat.gcd ((c:Int) * p.1).natAbs ((c:Int) * p.2.1).natAbs) ((c:Int) * p.2.2).natAbs = _
  rw [Int.natAbs_mul,Int.natAbs_mul,Int.natAbs_mul,Int.natAbs_natCast,Nat.gcd_mul_left,Nat.gcd_mul_left]; rfl
theorem short_mlt {c:Nat} (hc:0 < c) {p:P3} (h:Neat p) (hb:bigP (mlt c p) 1048576 = false):shortP (mlt c p) = p := by
  have hb2:bigP (mlt c p) 4398046511104 = false := big_mono hb (by omega)
  have h1:bareP (mlt c p) = p := by
    unfold bareP
    rw [gcd3_mlt,neat_one h,Nat.mul_one]
    show (((c:Int) * p.1).tdiv c,((c:Int) * p.2.1).tdiv c,((c:Int) * p.2.2).tdiv c) = p
    rw [Int.mul_tdiv_cancel_left _ (by omega),Int.mul_tdiv_cancel_left _ (by omega),Int.mul_tdiv_cancel_left _ (by omega)]
  unfold shortP
  rw [if_neg (by rw [hb2]; decide),h1,shrink_stop 64 h.2.2,bareP_one (neat_one h)]
def mS (s:P3):V.T9 := ((4294967296 * s.1,0,0),(0,4294967296 * s.2.1,0),(0,0,4294967296 * s.2.2))
theorem sc_in {p:P3} {n:Int} (h:Sm p 1048576) (hn:0 ≤ n ∧ n ≤ 1048576):scP p n = (p.1 * n,p.2.1 * n,p.2.2 * n) ∧ Gd (p.1 * n) ∧ Gd (p.2.1 * n) ∧ Gd (p.2.2 * n) := by
  have e:∀ x:Int,(-1048576 ≤ x ∧ x ≤ 1048576) → -1099511627776 ≤ x * n ∧ x * n ≤ 1099511627776 := by
    intro x hx
    have a1:x * n ≤ 1048576 * 1048576 := Int.le_trans (Int.mul_le_mul_of_nonneg_right hx.2 hn.1) (Int.mul_le_mul_of_nonneg_left hn.2 (by omega))
    have a2:(-1048576) * n ≤ x * n := Int.mul_le_mul_of_nonneg_right hx.1 hn.1
    omega
  have e1 := e p.1 h.1
  have e2 := e p.2.1 h.2.1
  have e3 := e p.2.2 h.2.2
  unfold scP Gd
  rw [IntWalk.i64_in (p.1 * n) (by omega),IntWalk.i64_in (p.2.1 * n) (by omega),IntWalk.i64_in (p.2.2 * n) (by omega)]
  refine ⟨rfl,?_,?_,?_⟩ <;> omega
theorem turn_sc {s:P3} (hs:Sgn s) {p:P3} {n:Int} (h:Sm p 1048576) (hn:0 ≤ n ∧ n ≤ 1048576):V.tTurn (mS s) (scP p n) = some (s.1 * (p.1 * n),s.2.1 * (p.2.1 * n),s.2.2 * (p.2.2 * n)) := by
  obtain ⟨e,g1,g2,g3⟩ := sc_in h hn
  rw [e]
  exact turn_sgn hs.a hs.b hs.c g1 g2 g3
theorem way_sg {s:P3} (hs:Sgn s) {p:P3} (h:Neat p):Sm (growP p) 1048576 ∧ (∃ t,V.tTurn (mS s) (scP (growP p) 4096) = some t) ∧ wayS (mS s) (growP p) = sg s p := by
  obtain ⟨k,e1,e2⟩ := grow_form 20 p ((bigP_sm p _).1 h.2.2) h.1
  have ht := turn_sc hs e2 (n := 4096) (by omega)
  refine ⟨e2,⟨_,ht⟩,?_⟩
  unfold wayS
  rw [show growP p = growN 20 p from rfl,ht]
  have ed:∀ (u x:Int),(u = 1 ∨ u = -1) → (-1048576 ≤ x ∧ x ≤ 1048576) → IntKind.wrap .i64 (Int.tdiv (u * (x * 4096)) 4096) = u * x := by
    intro u x hu hx
    rw [un_tdiv hu,Int.mul_tdiv_cancel _ (by omega)]
    exact IntWalk.i64_in _ (by rcases hu with rfl | rfl <;> omega)
  have e3:tdP (V.q3 (some (s.1 * ((growN 20 p).1 * 4096),s.2.1 * ((growN 20 p).2.1 * 4096),s.2.2 * ((growN 20 p).2.2 * 4096)))) 4096 = sg s (growN 20 p) := by
    show (IntKind.wrap .i64 (Int.tdiv (s.1 * ((growN 20 p).1 * 4096)) 4096),IntKind.wrap .i64 (Int.tdiv (s.2.1 * ((growN 20 p).2.1 * 4096)) 4096),IntKind.wrap .i64 (Int.tdiv (s.2.2 * ((growN 20 p).2.2 * 4096)) 4096)) = _
    rw [ed _ _ hs.a e2.1,ed _ _ hs.b e2.2.1,ed _ _ hs.c e2.2.2]; rfl
  rw [e3]
  show hid (shortP (sg s (growN 20 p))) = _
  rw [hid_eq,shortP_sg hs,e1,short_mlt (Nat.pow_pos (by omega)) h (by rw [← e1]; exact (bigP_sm _ _).2 e2)]
theorem wayRun_sg {s:P3} (hs:Sgn s):∀ (E:List P3) (f:Bool) (a:List P3),(∀ e ∈ E,Neat e) → wayRun (mS s) (E.map growP) f a = (true,f,a ++ E.map (sg s))
  | [],f,a,h => by simp [wayRun]
  | e :: E,f,a,h => by
    have hn := h e (by simp)
    obtain ⟨h1,⟨t,h2⟩,h3⟩ := way_sg hs hn
    show (if Sm (growP e) 1048576 then wayRun (mS s) (E.map growP) (V.on (V.tTurn (mS s) (scP (growP e) 4096)) f) (if wayS (mS s) (growP e) = (0,0,0) then a else a ++ [wayS (mS s) (growP e)]) else (false,f,a)) = _
    rw [if_pos h1,h2,h3,if_neg (sg_ne hs hn.1),on_some,wayRun_sg hs E f _ (fun e he => h e (by simp [he]))]
    simp
theorem at_sg {s:P3} (hs:Sgn s) {p:P3} (h:Sm p 1048576):(∃ t,atT (mS s) p = some t) ∧ (∃ t,atA (mS s) (0,0,0) p = some t) ∧ atQ (mS s) (0,0,0) p = sg s p := by
  have ht := turn_sc hs h (n := 1048576) (by omega)
  have hA:atA (mS s) (0,0,0) p = some (s.1 * (p.1 * 1048576),s.2.1 * (p.2.1 * 1048576),s.2.2 * (p.2.2 * 1048576)) := by
    unfold atA atT
    rw [ht]
    obtain ⟨_,g1,g2,g3⟩ := sc_in h (n := 1048576) (by omega)
    have gz:Gd 0 := by decide
    have gs:∀ u x:Int,(u = 1 ∨ u = -1) → Gd x → Gd (u * x) := by
      intro u x hu hx; unfold Gd at *; rcases hu with rfl | rfl <;> omega
    exact tAdd_some.2 ⟨mAdd_some.2 ⟨gs _ _ hs.a g1,gz,gs _ _ hs.a g1,(Int.add_zero _).symm⟩,mAdd_some.2 ⟨gs _ _ hs.b g2,gz,gs _ _ hs.b g2,(Int.add_zero _).symm⟩,mAdd_some.2 ⟨gs _ _ hs.c g3,gz,gs _ _ hs.c g3,(Int.add_zero _).symm⟩⟩
  refine ⟨⟨_,ht⟩,⟨_,hA⟩,?_⟩
  have ef:∀ u x:Int,Int.fdiv (u * (x * 1048576)) 1048576 = u * x := by
    intro u x
    rw [← Int.mul_assoc,Int.fdiv_eq_ediv_of_nonneg _ (by omega),Int.mul_ediv_cancel _ (by omega)]
  unfold atQ
  rw [hA]
  show (Int.fdiv (s.1 * (p.1 * 1048576)) 1048576,Int.fdiv (s.2.1 * (p.2.1 * 1048576)) 1048576,Int.fdiv (s.2.2 * (p.2.2 * 1048576)) 1048576) = _
  rw [ef,ef,ef]; rfl
theorem placeRun_sg {s:P3} (hs:Sgn s):∀ (l:List P3) (f:Bool) (a:List P3),(∀ p ∈ l,Sm p 1048576) → placeRun (mS s) (0,0,0) l f a = some (f,a ++ l.map (sg s))
  | [],f,a,h => by simp [placeRun]
  | p :: l,f,a,h => by
    have hp := h p (by simp)
    obtain ⟨⟨t1,h1⟩,⟨t2,h2⟩,h3⟩ := at_sg hs hp
    show (if Sm p 1048576 then (if Sm (atQ (mS s) (0,0,0) p) 8388608 then placeRun (mS s) (0,0,0) l (V.on (atA (mS s) (0,0,0) p) (V.on (atT (mS s) p) f)) (a ++ [atQ (mS s) (0,0,0) p]) else none) else none) = _
    rw [if_pos hp,h1,h2,h3,if_pos (((sm_sg hs p _).2 hp).mono (by omega)),on_some,on_some,placeRun_sg hs l f _ (fun q hq => h q (by simp [hq]))]
    simp
theorem wy_sg {s:P3} (hs:Sgn s) (f:Bool) (E:List P3) (h:∀ e ∈ E,Neat e):V.wy f (mS s) E = (true,f,E.map (sg s)) := by
  unfold V.wy
  rw [hid_eq,wayRun_sg hs E f [] h]; simp
/-- Exact turns around the world's middle. -/
theorem plc_sg {s:P3} (hs:Sgn s) {q:V.T4} (hq:V.tRows q = some (mS s)) {l A E:List P3} (h0:l.length ≠ 0) (hl:∀ p ∈ l,Sm p 1048576) (hA:∀ e ∈ A,Neat e) (hE:∀ e ∈ E,Neat e) :
    V.plc l A E (0,0,0) q = some (l.map (sg s),A.map (sg s),E.map (sg s)) := by
  unfold V.plc
  rw [hid_eq]
  unfold plcP
  rw [hq]
  show (placeRun (mS s) (0,0,0) l (V.on (some (mS s)) false) []).elim none (fun r => plcK (mS s) A E r.1 r.2) = _
  rw [on_some,placeRun_sg hs l false [] hl]
  show plcK (mS s) A E false ([] ++ l.map (sg s)) = _
  unfold plcK
  rw [wy_sg hs false A hA,wy_sg hs false E hE,if_pos ⟨rfl,rfl,rfl,by simpa using h0⟩]
  rfl
end Go.Proofs.Ytlagndfhibkjpaa.Sx
end

section
/- pose: what is right can be placed. -/
namespace Go.Proofs.Ytlagndfhibkjpaa.Sx
open Go
set_option linter.unusedVariables false
set_option linter.unusedSimpArgs false
def In (x n:Int):Prop := -n ≤ x ∧ x ≤ n
theorem in_mul {x y m n:Int} (hx:In x m) (hy:In y n) (hm:0 ≤ m) (hn:0 ≤ n):In (x * y) (m * n) := by
  have h:(x * y).natAbs ≤ (m * n).natAbs := by
    rw [Int.natAbs_mul,Int.natAbs_mul]
    exact Nat.mul_le_mul (by unfold In at hx; omega) (by unfold In at hy; omega)
  have h2:0 ≤ m * n := Int.mul_nonneg hm hn
  unfold In; omega
theorem part_le {a:Int} (h:a * a ≤ 18446744108069289992):In a 4294967299 := by
  have e:((a.natAbs * a.natAbs:Nat):Int) = a * a := Int.natAbs_mul_self
  by_cases h1:a.natAbs ≤ 4294967299
  · unfold In; omega
  · have h2 : 4294967300 * 4294967300 ≤ a.natAbs * a.natAbs := Nat.mul_le_mul (by omega) (by omega)
    generalize a.natAbs * a.natAbs = n at e h2
    generalize a * a = b at e h
    omega
theorem dbl_in {a:Int} (h:In a 4294967299):V.mAdd a a = some (2 * a) ∧ V.dbl a = 2 * a := by
  have e:V.mAdd a a = some (2 * a) := by rw [mAdd_some]; unfold In Gd at *; omega
  exact ⟨e,by unfold V.dbl; rw [e]; rfl⟩
theorem neg_in {a:Int} (h:In a 4294967299):V.mSub 0 a = some (-a) ∧ V.neg a = -a := by
  have e:V.mSub 0 a = some (-a) := by rw [mSub_some]; unfold In Gd at *; omega
  exact ⟨e,by unfold V.neg; rw [e]; rfl⟩
theorem two_in {a b c d:Int} (ha:In a 4294967299) (hb:In b 4294967299) (hc:In c 4294967299) (hd:In d 4294967299):∃ n,V.twoD (V.dbl a) (V.dbl b) c d = some n ∧ In n 17179869212 := by
  rw [(dbl_in ha).2,(dbl_in hb).2]
  have h1 := in_mul (x := 2 * a) (m := 8589934598) (by unfold In at *; omega) hc (by omega) (by omega)
  have h2 := in_mul (x := 2 * b) (m := 8589934598) (by unfold In at *; omega) hd (by omega) (by omega)
  have hb1:In ((2 * a * c + 2 * b * d) / 4294967296) 17179869212 := by
    unfold In at *
    omega
  refine ⟨(2 * a * c + 2 * b * d) / 4294967296,?_,hb1⟩
  unfold V.twoD
  rw [mDot2_some]
  unfold In Gd at *
  refine ⟨by omega,by omega,by omega,by omega,by omega,rfl⟩
theorem one_sub {n:Int} (h:In n 17179869212):V.mSub 4294967296 n = some (4294967296 - n) ∧ In (4294967296 - n) 21474836508 := by
  refine ⟨by rw [mSub_some]; unfold In Gd at *; omega,by unfold In at *; omega⟩
structure MOk (m:V.T9):Prop where
  a0:In m.1.1 21474836508
  a1:In m.1.2.1 21474836508
  a2:In m.1.2.2 21474836508
  b0:In m.2.1.1 21474836508
  b1:In m.2.1.2.1 21474836508
  b2:In m.2.1.2.2 21474836508
  c0:In m.2.2.1 21474836508
  c1:In m.2.2.2.1 21474836508
  c2:In m.2.2.2.2 21474836508
theorem In.mono {x m n:Int} (h:In x m) (hmn:m ≤ n):In x n := by unfold In at *; omega
theorem In.neg {x m:Int} (h:In x m):In (-x) m := by unfold In at *; omega
theorem rows_in {w x y z:Int} (hw:In w 4294967299) (hx:In x 4294967299) (hy:In y 4294967299) (hz:In z 4294967299):∃ m,V.tRows (w,x,y,z) = some m ∧ MOk m := by
  obtain ⟨n1,e1,i1⟩ := two_in hy hz hy hz
  obtain ⟨n2,e2,i2⟩ := two_in hx hz hx hz
  obtain ⟨n3,e3,i3⟩ := two_in hx hy hx hy
  obtain ⟨m1,f1,j1⟩ := two_in hx hw hy hz.neg
  obtain ⟨m2,f2,j2⟩ := two_in hx hw hz hy
  obtain ⟨m3,f3,j3⟩ := two_in hx hw hy hz
  obtain ⟨m4,f4,j4⟩ := two_in hy hw hz hx.neg
  obtain ⟨m5,f5,j5⟩ := two_in hx hw hz hy.neg
  obtain ⟨m6,f6,j6⟩ := two_in hy hw hz hx
  have gv:∀ n:Int,V.gv (some n) = n := fun _ => rfl
  refine ⟨((4294967296 - n1,m1,m2),(m3,4294967296 - n2,m4),(m5,m6,4294967296 - n3)),?_,?_⟩
  · unfold V.tRows
    simp only
    rw [(neg_in hx).2,(neg_in hy).2,(neg_in hz).2,(dbl_in hw).1,(dbl_in hx).1,(dbl_in hy).1,(dbl_in hz).1,(neg_in hx).1,(neg_in hy).1,(neg_in hz).1,e1,e2,e3,f1,f2,f3,f4,f5,f6,gv,gv,gv,gv,gv,gv,gv,gv,gv,(one_sub i1).1,(one_sub i2).1,(one_sub i3).1,gv,gv,gv]
    rfl
  · exact ⟨(one_sub i1).2,j1.mono (by omega),j2.mono (by omega),j3.mono (by omega),(one_sub i2).2,j4.mono (by omega),j5.mono (by omega),j6.mono (by omega),(one_sub i3).2⟩
/-- A row times a vector. -/
theorem dot_in {a b c x y z n:Int} (ha:In a 21474836508) (hb:In b 21474836508) (hc:In c 21474836508) (hx:In x n) (hy:In y n) (hz:In z n) (hn:0 ≤ n ∧ n ≤ 68719476736):∃ t,V.mDot [a,b,c] [x,y,z] = some t ∧ In t (16 * n) := by
  have h1 := in_mul ha hx (by omega) hn.1
  have h2 := in_mul hb hy (by omega) hn.1
  have h3 := in_mul hc hz (by omega) hn.1
  have hb1:In ((a * x + (b * y + c * z)) / 4294967296) (16 * n) := by
    unfold In at *
    omega
  refine ⟨(a * x + (b * y + c * z)) / 4294967296,?_,hb1⟩
  rw [mDot3_some]
  unfold In Gd at *
  refine ⟨by omega,by omega,by omega,by omega,by omega,by omega,by omega,rfl⟩
theorem turn_in {m:V.T9} (hm:MOk m) {v:V.T3} {n:Int} (h1:In v.1 n) (h2:In v.2.1 n) (h3:In v.2.2 n) (hn:0 ≤ n ∧ n ≤ 68719476736):∃ t,V.tTurn m v = some t ∧ In t.1 (16 * n) ∧ In t.2.1 (16 * n) ∧ In t.2.2 (16 * n) := by
  obtain ⟨t1,e1,i1⟩ := dot_in hm.a0 hm.a1 hm.a2 h1 h2 h3 hn
  obtain ⟨t2,e2,i2⟩ := dot_in hm.b0 hm.b1 hm.b2 h1 h2 h3 hn
  obtain ⟨t3,e3,i3⟩ := dot_in hm.c0 hm.c1 hm.c2 h1 h2 h3 hn
  exact ⟨(t1,t2,t3),tTurn_some.2 ⟨e1,e2,e3⟩,i1,i2,i3⟩
theorem way_ok {m:V.T9} (hm:MOk m) {p:P3} (h:Neat p):Sm (growP p) 1048576 ∧ ∃ t,V.tTurn m (scP (growP p) 4096) = some t := by
  obtain ⟨k,e1,e2⟩ := grow_form 20 p ((bigP_sm p _).1 h.2.2) h.1
  obtain ⟨e3,_⟩ := sc_in e2 (n := 4096) (by omega)
  obtain ⟨t,ht,_⟩ := turn_in hm (v := scP (growN 20 p) 4096) (n := 4294967296) (by rw [e3]; have := e2.1; unfold In; simp only; omega) (by rw [e3]; have := e2.2.1; unfold In; simp only; omega) (by rw [e3]; have := e2.2.2; unfold In; simp only; omega) (by omega)
  exact ⟨e2,t,ht⟩
theorem wayRun_ok {m:V.T9} (hm:MOk m):∀ (E:List P3) (f:Bool) (a:List P3),(∀ e ∈ E,Neat e) → (wayRun m (E.map growP) f a).1 = true ∧ (wayRun m (E.map growP) f a).2.1 = f
  | [],f,a,h => ⟨rfl,rfl⟩
  | e :: E,f,a,h => by
    obtain ⟨h1,t,h2⟩ := way_ok hm (h e (by simp))
    have ew:wayRun m ((e :: E).map growP) f a = wayRun m (E.map growP) f (if wayS m (growP e) = (0,0,0) then a else a ++ [wayS m (growP e)]) := by
      show (if Sm (growP e) 1048576 then wayRun m (E.map growP) (V.on (V.tTurn m (scP (growP e) 4096)) f) (if wayS m (growP e) = (0,0,0) then a else a ++ [wayS m (growP e)]) else (false,f,a)) = _
      rw [if_pos h1,h2,on_some]
    rw [ew]
    exact wayRun_ok hm E f _ (fun e he => h e (by simp [he]))
theorem wy_ok {m:V.T9} (hm:MOk m) (f:Bool) (E:List P3) (h:∀ e ∈ E,Neat e):(V.wy f m E).1 = true ∧ (V.wy f m E).2.1 = f := by
  unfold V.wy
  rw [hid_eq]
  exact wayRun_ok hm E f [] h
theorem at_ok {m:V.T9} (hm:MOk m) {t:V.T3} (h1:In t.1 5497558138880) (h2:In t.2.1 5497558138880) (h3:In t.2.2 5497558138880) {p:P3} (hp:Sm p 65536):(∃ v,atT m p = some v) ∧ (∃ v,atA m t p = some v) ∧ Sm (atQ m t p) 8388608 := by
  obtain ⟨e3,_⟩ := sc_in (hp.mono (by omega:(65536:Int) ≤ 1048576)) (n := 1048576) (by omega)
  obtain ⟨v,hv,i1,i2,i3⟩ := turn_in hm (v := scP p 1048576) (n := 68719476736) (by rw [e3]; have := hp.1; unfold In; simp only; omega) (by rw [e3]; have := hp.2.1; unfold In; simp only; omega) (by rw [e3]; have := hp.2.2; unfold In; simp only; omega) (by omega)
  have hA:atA m t p = some (v.1 + t.1,v.2.1 + t.2.1,v.2.2 + t.2.2) := by
    unfold atA atT
    rw [hv]
    have g:∀ x y:Int,In x 1099511627776 → In y 5497558138880 → V.mAdd x y = some (x + y) := by
      intro x y hx hy; rw [mAdd_some]; unfold In Gd at *; omega
    exact tAdd_some.2 ⟨g _ _ (i1.mono (by omega)) h1,g _ _ (i2.mono (by omega)) h2,g _ _ (i3.mono (by omega)) h3⟩
  refine ⟨⟨v,hv⟩,⟨_,hA⟩,?_⟩
  unfold atQ
  rw [hA]
  show (-8388608 ≤ Int.fdiv (v.1 + t.1) 1048576 ∧ Int.fdiv (v.1 + t.1) 1048576 ≤ 8388608) ∧ (-8388608 ≤ Int.fdiv (v.2.1 + t.2.1) 1048576 ∧ Int.fdiv (v.2.1 + t.2.1) 1048576 ≤ 8388608) ∧ (-8388608 ≤ Int.fdiv (v.2.2 + t.2.2) 1048576 ∧ Int.fdiv (v.2.2 + t.2.2) 1048576 ≤ 8388608)
  rw [Int.fdiv_eq_ediv_of_nonneg _ (by omega),Int.fdiv_eq_ediv_of_nonneg _ (by omega),Int.fdiv_eq_ediv_of_nonneg _ (by omega)]
  unfold In at *
  omega
/-- To be farther off by whole grains. -/
def far (t b:V.T3):V.T3 := (t.1 + b.1 * 1048576,t.2.1 + b.2.1 * 1048576,t.2.2 + b.2.2 * 1048576)
theorem atQ_far {m:V.T9} (hm:MOk m) {t b:V.T3} (h1:In t.1 4398046511104) (h2:In t.2.1 4398046511104) (h3:In t.2.2 4398046511104) (g1:In b.1 1048576) (g2:In b.2.1 1048576) (g3:In b.2.2 1048576) {p:P3} (hp:Sm p 65536) :
    atQ m (far t b) p = movP b (atQ m t p) := by
  obtain ⟨e3,_⟩ := sc_in (hp.mono (by omega:(65536:Int) ≤ 1048576)) (n := 1048576) (by omega)
  obtain ⟨v,hv,i1,i2,i3⟩ := turn_in hm (v := scP p 1048576) (n := 68719476736) (by rw [e3]; have := hp.1; unfold In; simp only; omega) (by rw [e3]; have := hp.2.1; unfold In; simp only; omega) (by rw [e3]; have := hp.2.2; unfold In; simp only; omega) (by omega)
  have g:∀ x y:Int,In x 1099511627776 → In y 5497558138880 → V.mAdd x y = some (x + y) := by
    intro x y hx hy; rw [mAdd_some]; unfold In Gd at *; omega
  have hA:∀ u:V.T3,In u.1 5497558138880 → In u.2.1 5497558138880 → In u.2.2 5497558138880 → atA m u p = some (v.1 + u.1,v.2.1 + u.2.1,v.2.2 + u.2.2) := by
    intro u u1 u2 u3
    unfold atA atT
    rw [hv]
    exact tAdd_some.2 ⟨g _ _ (i1.mono (by omega)) u1,g _ _ (i2.mono (by omega)) u2,g _ _ (i3.mono (by omega)) u3⟩
  have f:∀ x y c:Int,In x (16 * 68719476736) → In y 4398046511104 → In c 1048576 → Int.fdiv (x + (y + c * 1048576)) 1048576 = IntKind.wrap .i64 (Int.fdiv (x + y) 1048576 + c) := by
    intro x y c hx hy hc
    rw [Int.fdiv_eq_ediv_of_nonneg _ (by omega),Int.fdiv_eq_ediv_of_nonneg _ (by omega),IntWalk.i64_in _ (by unfold In at *; omega)]
    omega
  unfold atQ
  rw [hA (far t b) (by unfold far In at *; simp only; omega) (by unfold far In at *; simp only; omega) (by unfold far In at *; simp only; omega),hA t (h1.mono (by omega)) (h2.mono (by omega)) (h3.mono (by omega))]
  show (Int.fdiv (v.1 + (t.1 + b.1 * 1048576)) 1048576,Int.fdiv (v.2.1 + (t.2.1 + b.2.1 * 1048576)) 1048576,Int.fdiv (v.2.2 + (t.2.2 + b.2.2 * 1048576)) 1048576) = _
  rw [f _ _ _ i1 h1 g1,f _ _ _ i2 h2 g2,f _ _ _ i3 h3 g3]
  rfl
theorem mvd_far {m:V.T9} (hm:MOk m) {t b:V.T3} (h1:In t.1 4398046511104) (h2:In t.2.1 4398046511104) (h3:In t.2.2 4398046511104) (g1:In b.1 1048576) (g2:In b.2.1 1048576) (g3:In b.2.2 1048576) {l:List P3} (hl:∀ p ∈ l,Sm p 65536) :
    V.mvd (l.map (atQ m t)) b = l.map (atQ m (far t b)) := by
  unfold V.mvd
  rw [hid_eq,List.map_map]
  exact List.map_congr_left (fun p hp => (atQ_far hm h1 h2 h3 g1 g2 g3 (hl p hp)).symm)
theorem placeRun_ok {m:V.T9} (hm:MOk m) {t:V.T3} (h1:In t.1 5497558138880) (h2:In t.2.1 5497558138880) (h3:In t.2.2 5497558138880):∀ (l:List P3) (f:Bool) (a:List P3),(∀ p ∈ l,Sm p 65536) → placeRun m t l f a = some (f,a ++ l.map (atQ m t))
  | [],f,a,h => by simp [placeRun]
  | p :: l,f,a,h => by
    have hp := h p (by simp)
    obtain ⟨⟨t1,e1⟩,⟨t2,e2⟩,e3⟩ := at_ok hm h1 h2 h3 hp
    show (if Sm p 1048576 then (if Sm (atQ m t p) 8388608 then placeRun m t l (V.on (atA m t p) (V.on (atT m p) f)) (a ++ [atQ m t p]) else none) else none) = _
    rw [if_pos (hp.mono (by omega)),e1,e2,if_pos e3,on_some,on_some,placeRun_ok hm h1 h2 h3 l f _ (fun q hq => h q (by simp [hq]))]
    simp
/-- What is right can be placed. -/
theorem plc_ok {q:V.T4} {m:V.T9} (hq:V.tRows q = some m) (hm:MOk m) {t:V.T3} (h1:In t.1 5497558138880) (h2:In t.2.1 5497558138880) (h3:In t.2.2 5497558138880) {l A E:List P3} (h0:l.length ≠ 0) (hl:∀ p ∈ l,Sm p 65536) (hA:∀ e ∈ A,Neat e) (hE:∀ e ∈ E,Neat e) :
    V.plc l A E t q = some (l.map (atQ m t),(V.wy false m A).2.2,(V.wy false m E).2.2) := by
  unfold V.plc
  rw [hid_eq]
  unfold plcP
  rw [hq]
  show (placeRun m t l (V.on (some m) false) []).elim none (fun r => plcK m A E r.1 r.2) = _
  rw [on_some,placeRun_ok hm h1 h2 h3 l false [] hl]
  show plcK m A E false ([] ++ l.map (atQ m t)) = _
  obtain ⟨a1,a2⟩ := wy_ok hm false A hA
  obtain ⟨b1,b2⟩ := wy_ok hm false E hE
  unfold plcK
  rw [a2,if_pos ⟨a1,b1,b2,by simpa using h0⟩]
  rfl
end Go.Proofs.Ytlagndfhibkjpaa.Sx
end

section
/- pose: the laws' examples. -/
namespace Go.Proofs.Ytlagndfhibkjpaa.Sx
open Go
set_option maxRecDepth 20000
set_option linter.unusedVariables false
set_option linter.unusedSimpArgs false
noncomputable def _root_.Go.Proofs.Ytlagndfhibkjpaa.M.pawake {α:Type} (k0:Bool → Option α):Option α := if V.lenB (List.length (V.corP (1:Int) (5:Int) (0:Int) (0:Int) (0:Int) [])) = true ∧ V.lenB (List.length (V.corA (1:Int) (5:Int) (0:Int) (0:Int) (0:Int) [])) = true ∧ V.lenB (List.length (V.corE (1:Int) (5:Int) (0:Int) (0:Int) (0:Int) [])) = true then if V.plG (V.plc (V.corP (1:Int) (5:Int) (0:Int) (0:Int) (0:Int) []) (V.corA (1:Int) (5:Int) (0:Int) (0:Int) (0:Int) []) (V.corE (1:Int) (5:Int) (0:Int) (0:Int) (0:Int) []) ((4294967296:Int),(0:Int),(-1:Int)) ((4294967296:Int),(0:Int),(0:Int),(0:Int))) = true then if V.lenB (List.length (V.plP (V.plc (V.corP (1:Int) (5:Int) (0:Int) (0:Int) (0:Int) []) (V.corA (1:Int) (5:Int) (0:Int) (0:Int) (0:Int) []) (V.corE (1:Int) (5:Int) (0:Int) (0:Int) (0:Int) []) ((4294967296:Int),(0:Int),(-1:Int)) ((4294967296:Int),(0:Int),(0:Int),(0:Int))))) = true then if cEq (V.chk (1:Int) (5:Int) (0:Int) (0:Int) (0:Int) []) (0:Int) = true then if cEq (↑(List.length (V.plP (V.plc (V.corP (1:Int) (5:Int) (0:Int) (0:Int) (0:Int) []) (V.corA (1:Int) (5:Int) (0:Int) (0:Int) (0:Int) []) (V.corE (1:Int) (5:Int) (0:Int) (0:Int) (0:Int) []) ((4294967296:Int),(0:Int),(-1:Int)) ((4294967296:Int),(0:Int),(0:Int),(0:Int))))):Int) (1:Int) = true then if (0:Int) ≤ (0:Int) ∧ (0:Int) < (↑(List.length (V.plP (V.plc (V.corP (1:Int) (5:Int) (0:Int) (0:Int) (0:Int) []) (V.corA (1:Int) (5:Int) (0:Int) (0:Int) (0:Int) []) (V.corE (1:Int) (5:Int) (0:Int) (0:Int) (0:Int) []) ((4294967296:Int),(0:Int),(-1:Int)) ((4294967296:Int),(0:Int),(0:Int),(0:Int))))):Int) then if (cEq (Prod.fst (List.getD (V.plP (V.plc (V.corP (1:Int) (5:Int) (0:Int) (0:Int) (0:Int) []) (V.corA (1:Int) (5:Int) (0:Int) (0:Int) (0:Int) []) (V.corE (1:Int) (5:Int) (0:Int) (0:Int) (0:Int) []) ((4294967296:Int),(0:Int),(-1:Int)) ((4294967296:Int),(0:Int),(0:Int),(0:Int)))) (0:Nat) ((0:Int),(0:Int),(0:Int)))) (4096:Int) && (cEq (Prod.fst (Prod.snd (List.getD (V.plP (V.plc (V.corP (1:Int) (5:Int) (0:Int) (0:Int) (0:Int) []) (V.corA (1:Int) (5:Int) (0:Int) (0:Int) (0:Int) []) (V.corE (1:Int) (5:Int) (0:Int) (0:Int) (0:Int) []) ((4294967296:Int),(0:Int),(-1:Int)) ((4294967296:Int),(0:Int),(0:Int),(0:Int)))) (0:Nat) ((0:Int),(0:Int),(0:Int))))) (0:Int) && (cEq (Prod.snd (Prod.snd (List.getD (V.plP (V.plc (V.corP (1:Int) (5:Int) (0:Int) (0:Int) (0:Int) []) (V.corA (1:Int) (5:Int) (0:Int) (0:Int) (0:Int) []) (V.corE (1:Int) (5:Int) (0:Int) (0:Int) (0:Int) []) ((4294967296:Int),(0:Int),(-1:Int)) ((4294967296:Int),(0:Int),(0:Int),(0:Int)))) (0:Nat) ((0:Int),(0:Int),(0:Int))))) (-1:Int) && true))) = true then k0 (cEq (Prod.fst (V.spn (V.plP (V.plc (V.corP (1:Int) (5:Int) (0:Int) (0:Int) (0:Int) []) (V.corA (1:Int) (5:Int) (0:Int) (0:Int) (0:Int) []) (V.corE (1:Int) (5:Int) (0:Int) (0:Int) (0:Int) []) ((4294967296:Int),(0:Int),(-1:Int)) ((4294967296:Int),(0:Int),(0:Int),(0:Int)))) (V.corR (1:Int) (5:Int) (0:Int) (0:Int) (0:Int) []))) (4091:Int) && (cEq (Prod.fst (Prod.snd (V.spn (V.plP (V.plc (V.corP (1:Int) (5:Int) (0:Int) (0:Int) (0:Int) []) (V.corA (1:Int) (5:Int) (0:Int) (0:Int) (0:Int) []) (V.corE (1:Int) (5:Int) (0:Int) (0:Int) (0:Int) []) ((4294967296:Int),(0:Int),(-1:Int)) ((4294967296:Int),(0:Int),(0:Int),(0:Int)))) (V.corR (1:Int) (5:Int) (0:Int) (0:Int) (0:Int) [])))) (-5:Int) && (cEq (Prod.fst (Prod.snd (Prod.snd (V.spn (V.plP (V.plc (V.corP (1:Int) (5:Int) (0:Int) (0:Int) (0:Int) []) (V.corA (1:Int) (5:Int) (0:Int) (0:Int) (0:Int) []) (V.corE (1:Int) (5:Int) (0:Int) (0:Int) (0:Int) []) ((4294967296:Int),(0:Int),(-1:Int)) ((4294967296:Int),(0:Int),(0:Int),(0:Int)))) (V.corR (1:Int) (5:Int) (0:Int) (0:Int) (0:Int) []))))) (-6:Int) && true)) && (cEq (Prod.fst (Prod.snd (Prod.snd (Prod.snd (V.spn (V.plP (V.plc (V.corP (1:Int) (5:Int) (0:Int) (0:Int) (0:Int) []) (V.corA (1:Int) (5:Int) (0:Int) (0:Int) (0:Int) []) (V.corE (1:Int) (5:Int) (0:Int) (0:Int) (0:Int) []) ((4294967296:Int),(0:Int),(-1:Int)) ((4294967296:Int),(0:Int),(0:Int),(0:Int)))) (V.corR (1:Int) (5:Int) (0:Int) (0:Int) (0:Int) [])))))) (4101:Int) && (cEq (Prod.fst (Prod.snd (Prod.snd (Prod.snd (Prod.snd (V.spn (V.plP (V.plc (V.corP (1:Int) (5:Int) (0:Int) (0:Int) (0:Int) []) (V.corA (1:Int) (5:Int) (0:Int) (0:Int) (0:Int) []) (V.corE (1:Int) (5:Int) (0:Int) (0:Int) (0:Int) []) ((4294967296:Int),(0:Int),(-1:Int)) ((4294967296:Int),(0:Int),(0:Int),(0:Int)))) (V.corR (1:Int) (5:Int) (0:Int) (0:Int) (0:Int) []))))))) (5:Int) && (cEq (Prod.snd (Prod.snd (Prod.snd (Prod.snd (Prod.snd (V.spn (V.plP (V.plc (V.corP (1:Int) (5:Int) (0:Int) (0:Int) (0:Int) []) (V.corA (1:Int) (5:Int) (0:Int) (0:Int) (0:Int) []) (V.corE (1:Int) (5:Int) (0:Int) (0:Int) (0:Int) []) ((4294967296:Int),(0:Int),(-1:Int)) ((4294967296:Int),(0:Int),(0:Int),(0:Int)))) (V.corR (1:Int) (5:Int) (0:Int) (0:Int) (0:Int) []))))))) (4:Int) && true)) && true)) else k0 false else none else k0 false else k0 false else none else if V.lenB (0:Nat) = true then if cEq (V.chk (1:Int) (5:Int) (0:Int) (0:Int) (0:Int) []) (0:Int) = true then k0 false else k0 false else none else none
theorem pawake_eq {α:Type} (Q:SV → Hp → Option α):callI E look_place (exec E look_place noLps 400) 8 ([]) ([]) Q = M.pawake (fun (x0:Bool) => Q (SV.bool x0) ([])) := by kernel_rfl
def pawake_sp:List AS := []
noncomputable def pawake_go {α:Type} (ds:List D) (Q:SV → Hp → Option α):Option α :=
  dE ds (M.pawake (fun (x0:Bool) => Q (SV.bool x0) ([])))
theorem pawake_ok {α:Type}:FnOk E.P 8 (fEnt (α := α) pawake_sp pawake_go) :=
  fEnt_ok E (look_place_ok) (exec_sound E E_ok (look_place_ok) (noLps_ok _) 400) fun ds Q r h => by
    unfold pawake_go at h
    obtain ⟨rfl,hE⟩ := dE_inv h
    exact ⟨[],[],fun vs => by kernel_rfl,(pawake_eq Q).trans hE⟩
theorem plG_some (t:List P3 × List P3 × List P3):V.plG (some t) = true := hid_eq _
theorem plP_some (t:List P3 × List P3 × List P3):V.plP (some t) = t.1 := hid_eq _
theorem plA_some (t:List P3 × List P3 × List P3):V.plA (some t) = t.2.1 := hid_eq _
theorem plE_some (t:List P3 × List P3 × List P3):V.plE (some t) = t.2.2 := hid_eq _
def idM:V.T9 := ((4294967296,0,0),(0,4294967296,0),(0,0,4294967296))
theorem id_rows:V.tRows (4294967296,0,0,0) = some idM := by decide +kernel
theorem wy_nil (f:Bool) (m:V.T9):V.wy f m [] = (true,f,[]) := hid_eq _
theorem aw_plc:V.plc [(0,0,0)] [] [] (4294967296,0,-1) (4294967296,0,0,0) = some ([(4096,0,-1)],[],[]) := by
  unfold V.plc
  rw [hid_eq]
  unfold plcP
  rw [id_rows]
  have hA:atT idM (0,0,0) = some (0,0,0) := by decide +kernel
  have hB:atA idM (4294967296,0,-1) (0,0,0) = some (4294967296,0,-1) := by decide +kernel
  have hQ:atQ idM (4294967296,0,-1) (0,0,0) = (4096,0,-1) := by decide +kernel
  have hr:placeRun (V.q9 (some idM)) (4294967296,0,-1) [(0,0,0)] (V.on (some idM) false) [] = some (false,[(4096,0,-1)]) := by
    show (if Sm (0,0,0) 1048576 then (if Sm (atQ idM (4294967296,0,-1) (0,0,0)) 8388608 then some (V.on (atA idM (4294967296,0,-1) (0,0,0)) (V.on (atT idM (0,0,0)) false),[] ++ [atQ idM (4294967296,0,-1) (0,0,0)]) else none) else none) = _
    rw [hA,hB,hQ,if_pos (by decide),if_pos (by decide)]
    rfl
  rw [hr]
  show plcK (V.q9 (some idM)) [] [] false [(4096,0,-1)] = _
  unfold plcK
  rw [wy_nil,wy_nil]
  rfl
theorem pawake_v {α:Type} (k0:Bool → Option α):M.pawake k0 = k0 true := by
  have h0:chkP 1 5 0 0 0 [] = 0 := by unfold chkP; rw [if_pos rfl,if_pos (by decide)]
  have c0:V.chk 1 5 0 0 0 [] = 0 := (hid_eq _).trans h0
  have cP:V.corP 1 5 0 0 0 [] = [(0,0,0)] := by unfold V.corP; rw [hid_eq,if_pos h0]; rfl
  have cA:V.corA 1 5 0 0 0 [] = [] := by unfold V.corA; rw [hid_eq,if_pos h0]; rfl
  have cE:V.corE 1 5 0 0 0 [] = [] := by unfold V.corE; rw [hid_eq,if_pos h0]; rfl
  have cR:V.corR 1 5 0 0 0 [] = 5 := by unfold V.corR; rw [hid_eq,if_pos h0]
  have cS:V.spn [(4096,0,-1)] 5 = (4091,-5,-6,4101,5,4) := by unfold V.spn; rw [hid_eq]; decide +kernel
  unfold M.pawake
  rw [c0,cP,cA,cE,cR,aw_plc,plG_some,plP_some]
  show (if _ then if true = true then if V.lenB (List.length ([(4096,0,-1)]:List P3)) = true then _ else _ else _ else _) = _
  rw [if_pos ⟨lenB_of (by decide),lenB_of (by decide),lenB_of (by decide)⟩,if_pos rfl,if_pos (lenB_of (by decide)),cS]
  simp [cEq_eq]
noncomputable def pawake_h {α:Type} (ds:List D) (Q:SV → Hp → Option α):Option α :=
  dE ds (Q (.bool true) ([]))
theorem pawake_h_ok {α:Type}:FnOk E.P 8 (fEnt (α := α) pawake_sp pawake_h) :=
  fEnt_ok E (look_place_ok) (exec_sound E E_ok (look_place_ok) (noLps_ok _) 400) fun ds Q r h => by
    unfold pawake_h at h
    obtain ⟨rfl,hE⟩ := dE_inv h
    exact ⟨[],[],fun vs => by kernel_rfl,(pawake_eq Q).trans ((pawake_v _).trans hE)⟩
noncomputable def look_pawake {α:Type}:LookF α := addFn 8 (fEnt pawake_sp pawake_h) look_place
theorem look_pawake_ok {α:Type}:LookOk E.P (look_pawake (α := α)) := addFn_ok pawake_h_ok (look_place_ok)
end Go.Proofs.Ytlagndfhibkjpaa.Sx
end

section
/- the document's shape: small words, short directions. -/
namespace Go.Proofs.Ytlagndfhibkjpaa.Sx
open Go
set_option maxRecDepth 20000
set_option linter.unusedVariables false
set_option linter.unusedSimpArgs false
noncomputable def _root_.Go.Proofs.Ytlagndfhibkjpaa.M.dsize {α:Type} (n:Int) (k0:Int → Option α):Option α := if cLt n (0:Int) = true then k0 (IntKind.wrap .i64 ((0:Int) - n)) else k0 n
theorem dsize_eq {α:Type} (n:Int) (Q:SV → Hp → Option α):callI E look_lpoints (exec E look_lpoints noLps 400) 102 ([SV.int .i64 n]) ([]) Q = M.dsize n (fun (x0:Int) => Q (SV.int .i64 x0) ([])) := by kernel_rfl
def dsize_sp:List AS := [.val (.int .i64 0)]
noncomputable def _root_.Go.Proofs.Ytlagndfhibkjpaa.V.dsize_r0 (n:Int):Int := if cLt n (0:Int) = true then IntKind.wrap .i64 ((0:Int) - n) else n
theorem dsize_val {α:Type} (n:Int) (k0:Int → Option α):M.dsize n k0 = k0 (V.dsize_r0 n) := by
  unfold M.dsize V.dsize_r0
  repeat' first | rfl | (split <;> rename_i h <;> first | simp only [if_pos h] | simp only [if_neg h] | skip)
noncomputable def dsize_c {α:Type} (ds:List D) (Q:SV → Hp → Option α):Option α :=
  dI ds fun n ds => dE ds (Q (SV.int .i64 (V.dsize_r0 n)) ([]))
theorem dsize_c_ok {α:Type}:FnOk E.P 102 (fEnt (α := α) dsize_sp dsize_c) :=
  fEnt_ok E (look_lpoints_ok) (exec_sound E E_ok (look_lpoints_ok) (noLps_ok _) 400) fun ds Q r h => by
    unfold dsize_c at h
    obtain ⟨n,ds,rfl,h1⟩ := dI_inv h
    obtain ⟨rfl,hE⟩ := dE_inv h1
    exact ⟨[SV.int .i64 n],[],fun vs => by kernel_rfl,(dsize_eq n Q).trans ((dsize_val n (fun (x0:Int) => Q (SV.int .i64 x0) ([]))).trans hE)⟩
noncomputable def dsize_go {α:Type} (ds:List D) (Q:SV → Hp → Option α):Option α :=
  dI ds fun n ds => dE ds (M.dsize n (fun (x0:Int) => Q (SV.int .i64 x0) ([])))
theorem dsize_ok {α:Type}:FnOk E.P 102 (fEnt (α := α) dsize_sp dsize_go) :=
  fEnt_ok E (look_lpoints_ok) (exec_sound E E_ok (look_lpoints_ok) (noLps_ok _) 400) fun ds Q r h => by
    unfold dsize_go at h
    obtain ⟨n,ds,rfl,h1⟩ := dI_inv h
    obtain ⟨rfl,hE⟩ := dE_inv h1
    exact ⟨[SV.int .i64 n],[],fun vs => by kernel_rfl,(dsize_eq n Q).trans hE⟩
noncomputable def look_dsize {α:Type}:LookF α := addFn 102 (fEnt dsize_sp dsize_c) look_lpoints
theorem look_dsize_ok {α:Type}:LookOk E.P (look_dsize (α := α)) := addFn_ok dsize_c_ok (look_lpoints_ok)
noncomputable def _root_.Go.Proofs.Ytlagndfhibkjpaa.M.din {α:Type} (n:Int) (lo:Int) (hi:Int) (k0:Bool → Option α):Option α := if cLe lo n = true then k0 (cLe n hi) else k0 false
theorem din_eq {α:Type} (n:Int) (lo:Int) (hi:Int) (Q:SV → Hp → Option α):callI E look_dsize (exec E look_dsize noLps 400) 84 ([SV.int .i64 n,SV.int .i64 lo,SV.int .i64 hi]) ([]) Q = M.din n lo hi (fun (x1:Bool) => Q (SV.bool x1) ([])) := by kernel_rfl
def din_sp:List AS := [.val (.int .i64 0),.val (.int .i64 0),.val (.int .i64 0)]
noncomputable def din_go {α:Type} (ds:List D) (Q:SV → Hp → Option α):Option α :=
  dI ds fun n ds => dI ds fun lo ds => dI ds fun hi ds => dE ds (M.din n lo hi (fun (x1:Bool) => Q (SV.bool x1) ([])))
theorem din_ok {α:Type}:FnOk E.P 84 (fEnt (α := α) din_sp din_go) :=
  fEnt_ok E (look_dsize_ok) (exec_sound E E_ok (look_dsize_ok) (noLps_ok _) 400) fun ds Q r h => by
    unfold din_go at h
    obtain ⟨n,ds,rfl,h1⟩ := dI_inv h
    obtain ⟨lo,ds,rfl,h2⟩ := dI_inv h1
    obtain ⟨hi,ds,rfl,h3⟩ := dI_inv h2
    obtain ⟨rfl,hE⟩ := dE_inv h3
    exact ⟨[SV.int .i64 n,SV.int .i64 lo,SV.int .i64 hi],[],fun vs => by kernel_rfl,(din_eq n lo hi Q).trans hE⟩
theorem din_v {α:Type} (n lo hi:Int) (k0:Bool → Option α):M.din n lo hi k0 = k0 (V.shwithin_r0 n lo hi) := by
  unfold M.din V.shwithin_r0
  repeat' first | rfl | split
noncomputable def din_h {α:Type} (ds:List D) (Q:SV → Hp → Option α):Option α :=
  dI ds fun n ds => dI ds fun lo ds => dI ds fun hi ds => dE ds (Q (.bool (V.shwithin_r0 n lo hi)) ([]))
theorem din_h_ok {α:Type}:FnOk E.P 84 (fEnt (α := α) din_sp din_h) :=
  fEnt_ok E (look_dsize_ok) (exec_sound E E_ok (look_dsize_ok) (noLps_ok _) 400) fun ds Q r h => by
    unfold din_h at h
    obtain ⟨n,ds,rfl,h1⟩ := dI_inv h
    obtain ⟨lo,ds,rfl,h2⟩ := dI_inv h1
    obtain ⟨hi,ds,rfl,h3⟩ := dI_inv h2
    obtain ⟨rfl,hE⟩ := dE_inv h3
    exact ⟨[SV.int .i64 n,SV.int .i64 lo,SV.int .i64 hi],[],fun vs => by kernel_rfl,(din_eq n lo hi Q).trans ((din_v n lo hi _).trans hE)⟩
noncomputable def look_din {α:Type}:LookF α := addFn 84 (fEnt din_sp din_h) look_dsize
theorem look_din_ok {α:Type}:LookOk E.P (look_din (α := α)) := addFn_ok din_h_ok (look_dsize_ok)
noncomputable def _root_.Go.Proofs.Ytlagndfhibkjpaa.M.dminus {α:Type} (ax:Int) (ay:Int) (az:Int) (bx:Int) (b_y:Int) (bz:Int) (k0:Int → Int → Int → Option α):Option α := k0 (IntKind.wrap .i64 (ax - bx)) (IntKind.wrap .i64 (ay - b_y)) (IntKind.wrap .i64 (az - bz))
theorem dminus_eq {α:Type} (ax:Int) (ay:Int) (az:Int) (bx:Int) (b_y:Int) (bz:Int) (Q:SV → Hp → Option α):callI E look_din (exec E look_din noLps 400) 88 ([SV.agg [SV.int .i64 ax,SV.int .i64 ay,SV.int .i64 az],SV.agg [SV.int .i64 bx,SV.int .i64 b_y,SV.int .i64 bz]]) ([]) Q = M.dminus ax ay az bx b_y bz (fun (x2 x3 x4:Int) => Q (SV.agg [SV.int .i64 x2,SV.int .i64 x3,SV.int .i64 x4]) ([])) := by kernel_rfl
def dminus_sp:List AS := [.val (.agg [.int .i64 0,.int .i64 0,.int .i64 0]),.val (.agg [.int .i64 0,.int .i64 0,.int .i64 0])]
noncomputable def dminus_go {α:Type} (ds:List D) (Q:SV → Hp → Option α):Option α :=
  dI ds fun ax ds => dI ds fun ay ds => dI ds fun az ds => dI ds fun bx ds => dI ds fun b_y ds => dI ds fun bz ds => dE ds (M.dminus ax ay az bx b_y bz (fun (x2 x3 x4:Int) => Q (SV.agg [SV.int .i64 x2,SV.int .i64 x3,SV.int .i64 x4]) ([])))
theorem dminus_ok {α:Type}:FnOk E.P 88 (fEnt (α := α) dminus_sp dminus_go) :=
  fEnt_ok E (look_din_ok) (exec_sound E E_ok (look_din_ok) (noLps_ok _) 400) fun ds Q r h => by
    unfold dminus_go at h
    obtain ⟨ax,ds,rfl,h1⟩ := dI_inv h
    obtain ⟨ay,ds,rfl,h2⟩ := dI_inv h1
    obtain ⟨az,ds,rfl,h3⟩ := dI_inv h2
    obtain ⟨bx,ds,rfl,h4⟩ := dI_inv h3
    obtain ⟨b_y,ds,rfl,h5⟩ := dI_inv h4
    obtain ⟨bz,ds,rfl,h6⟩ := dI_inv h5
    obtain ⟨rfl,hE⟩ := dE_inv h6
    exact ⟨[SV.agg [SV.int .i64 ax,SV.int .i64 ay,SV.int .i64 az],SV.agg [SV.int .i64 bx,SV.int .i64 b_y,SV.int .i64 bz]],[],fun vs => by kernel_rfl,(dminus_eq ax ay az bx b_y bz Q).trans hE⟩
noncomputable def dminus_h {α:Type} (ds:List D) (Q:SV → Hp → Option α):Option α :=
  dI ds fun ax ds => dI ds fun ay ds => dI ds fun az ds => dI ds fun bx ds => dI ds fun b_y ds => dI ds fun bz ds => dE ds (Q (.agg [.int .i64 (V.pSub (ax,ay,az) (bx,b_y,bz)).1,.int .i64 (V.pSub (ax,ay,az) (bx,b_y,bz)).2.1,.int .i64 (V.pSub (ax,ay,az) (bx,b_y,bz)).2.2]) ([]))
theorem dminus_h_ok {α:Type}:FnOk E.P 88 (fEnt (α := α) dminus_sp dminus_h) :=
  fEnt_ok E (look_din_ok) (exec_sound E E_ok (look_din_ok) (noLps_ok _) 400) fun ds Q r h => by
    unfold dminus_h at h
    obtain ⟨ax,ds,rfl,h1⟩ := dI_inv h
    obtain ⟨ay,ds,rfl,h2⟩ := dI_inv h1
    obtain ⟨az,ds,rfl,h3⟩ := dI_inv h2
    obtain ⟨bx,ds,rfl,h4⟩ := dI_inv h3
    obtain ⟨b_y,ds,rfl,h5⟩ := dI_inv h4
    obtain ⟨bz,ds,rfl,h6⟩ := dI_inv h5
    obtain ⟨rfl,hE⟩ := dE_inv h6
    exact ⟨[SV.agg [SV.int .i64 ax,SV.int .i64 ay,SV.int .i64 az],SV.agg [SV.int .i64 bx,SV.int .i64 b_y,SV.int .i64 bz]],[],fun vs => by kernel_rfl,(dminus_eq ax ay az bx b_y bz Q).trans ((rfl).trans hE)⟩
noncomputable def look_dminus {α:Type}:LookF α := addFn 88 (fEnt dminus_sp dminus_h) look_din
theorem look_dminus_ok {α:Type}:LookOk E.P (look_dminus (α := α)) := addFn_ok dminus_h_ok (look_din_ok)
noncomputable def _root_.Go.Proofs.Ytlagndfhibkjpaa.M.dcross {α:Type} (ax:Int) (ay:Int) (az:Int) (bx:Int) (b_y:Int) (bz:Int) (k0:Int → Int → Int → Option α):Option α := k0 (IntKind.wrap .i64 (IntKind.wrap .i64 (ay * bz) - IntKind.wrap .i64 (az * b_y))) (IntKind.wrap .i64 (IntKind.wrap .i64 (az * bx) - IntKind.wrap .i64 (ax * bz))) (IntKind.wrap .i64 (IntKind.wrap .i64 (ax * b_y) - IntKind.wrap .i64 (ay * bx)))
theorem dcross_eq {α:Type} (ax:Int) (ay:Int) (az:Int) (bx:Int) (b_y:Int) (bz:Int) (Q:SV → Hp → Option α):callI E look_dminus (exec E look_dminus noLps 400) 105 ([SV.agg [SV.int .i64 ax,SV.int .i64 ay,SV.int .i64 az],SV.agg [SV.int .i64 bx,SV.int .i64 b_y,SV.int .i64 bz]]) ([]) Q = M.dcross ax ay az bx b_y bz (fun (x5 x6 x7:Int) => Q (SV.agg [SV.int .i64 x5,SV.int .i64 x6,SV.int .i64 x7]) ([])) := by kernel_rfl
def dcross_sp:List AS := [.val (.agg [.int .i64 0,.int .i64 0,.int .i64 0]),.val (.agg [.int .i64 0,.int .i64 0,.int .i64 0])]
noncomputable def dcross_go {α:Type} (ds:List D) (Q:SV → Hp → Option α):Option α :=
  dI ds fun ax ds => dI ds fun ay ds => dI ds fun az ds => dI ds fun bx ds => dI ds fun b_y ds => dI ds fun bz ds => dE ds (M.dcross ax ay az bx b_y bz (fun (x5 x6 x7:Int) => Q (SV.agg [SV.int .i64 x5,SV.int .i64 x6,SV.int .i64 x7]) ([])))
theorem dcross_ok {α:Type}:FnOk E.P 105 (fEnt (α := α) dcross_sp dcross_go) :=
  fEnt_ok E (look_dminus_ok) (exec_sound E E_ok (look_dminus_ok) (noLps_ok _) 400) fun ds Q r h => by
    unfold dcross_go at h
    obtain ⟨ax,ds,rfl,h1⟩ := dI_inv h
    obtain ⟨ay,ds,rfl,h2⟩ := dI_inv h1
    obtain ⟨az,ds,rfl,h3⟩ := dI_inv h2
    obtain ⟨bx,ds,rfl,h4⟩ := dI_inv h3
    obtain ⟨b_y,ds,rfl,h5⟩ := dI_inv h4
    obtain ⟨bz,ds,rfl,h6⟩ := dI_inv h5
    obtain ⟨rfl,hE⟩ := dE_inv h6
    exact ⟨[SV.agg [SV.int .i64 ax,SV.int .i64 ay,SV.int .i64 az],SV.agg [SV.int .i64 bx,SV.int .i64 b_y,SV.int .i64 bz]],[],fun vs => by kernel_rfl,(dcross_eq ax ay az bx b_y bz Q).trans hE⟩
noncomputable def dcross_h {α:Type} (ds:List D) (Q:SV → Hp → Option α):Option α :=
  dI ds fun ax ds => dI ds fun ay ds => dI ds fun az ds => dI ds fun bx ds => dI ds fun b_y ds => dI ds fun bz ds => dE ds (Q (.agg [.int .i64 (V.pCross (ax,ay,az) (bx,b_y,bz)).1,.int .i64 (V.pCross (ax,ay,az) (bx,b_y,bz)).2.1,.int .i64 (V.pCross (ax,ay,az) (bx,b_y,bz)).2.2]) ([]))
theorem dcross_h_ok {α:Type}:FnOk E.P 105 (fEnt (α := α) dcross_sp dcross_h) :=
  fEnt_ok E (look_dminus_ok) (exec_sound E E_ok (look_dminus_ok) (noLps_ok _) 400) fun ds Q r h => by
    unfold dcross_h at h
    obtain ⟨ax,ds,rfl,h1⟩ := dI_inv h
    obtain ⟨ay,ds,rfl,h2⟩ := dI_inv h1
    obtain ⟨az,ds,rfl,h3⟩ := dI_inv h2
    obtain ⟨bx,ds,rfl,h4⟩ := dI_inv h3
    obtain ⟨b_y,ds,rfl,h5⟩ := dI_inv h4
    obtain ⟨bz,ds,rfl,h6⟩ := dI_inv h5
    obtain ⟨rfl,hE⟩ := dE_inv h6
    exact ⟨[SV.agg [SV.int .i64 ax,SV.int .i64 ay,SV.int .i64 az],SV.agg [SV.int .i64 bx,SV.int .i64 b_y,SV.int .i64 bz]],[],fun vs => by kernel_rfl,(dcross_eq ax ay az bx b_y bz Q).trans ((rfl).trans hE)⟩
noncomputable def look_dcross {α:Type}:LookF α := addFn 105 (fEnt dcross_sp dcross_h) look_dminus
theorem look_dcross_ok {α:Type}:LookOk E.P (look_dcross (α := α)) := addFn_ok dcross_h_ok (look_dminus_ok)
noncomputable def _root_.Go.Proofs.Ytlagndfhibkjpaa.M.ddot {α:Type} (ax:Int) (ay:Int) (az:Int) (bx:Int) (b_y:Int) (bz:Int) (k0:Int → Option α):Option α := k0 (IntKind.wrap .i64 (IntKind.wrap .i64 (IntKind.wrap .i64 (ax * bx) + IntKind.wrap .i64 (ay * b_y)) + IntKind.wrap .i64 (az * bz)))
theorem ddot_eq {α:Type} (ax:Int) (ay:Int) (az:Int) (bx:Int) (b_y:Int) (bz:Int) (Q:SV → Hp → Option α):callI E look_dcross (exec E look_dcross noLps 400) 87 ([SV.agg [SV.int .i64 ax,SV.int .i64 ay,SV.int .i64 az],SV.agg [SV.int .i64 bx,SV.int .i64 b_y,SV.int .i64 bz]]) ([]) Q = M.ddot ax ay az bx b_y bz (fun (x8:Int) => Q (SV.int .i64 x8) ([])) := by kernel_rfl
def ddot_sp:List AS := [.val (.agg [.int .i64 0,.int .i64 0,.int .i64 0]),.val (.agg [.int .i64 0,.int .i64 0,.int .i64 0])]
noncomputable def ddot_go {α:Type} (ds:List D) (Q:SV → Hp → Option α):Option α :=
  dI ds fun ax ds => dI ds fun ay ds => dI ds fun az ds => dI ds fun bx ds => dI ds fun b_y ds => dI ds fun bz ds => dE ds (M.ddot ax ay az bx b_y bz (fun (x8:Int) => Q (SV.int .i64 x8) ([])))
theorem ddot_ok {α:Type}:FnOk E.P 87 (fEnt (α := α) ddot_sp ddot_go) :=
  fEnt_ok E (look_dcross_ok) (exec_sound E E_ok (look_dcross_ok) (noLps_ok _) 400) fun ds Q r h => by
    unfold ddot_go at h
    obtain ⟨ax,ds,rfl,h1⟩ := dI_inv h
    obtain ⟨ay,ds,rfl,h2⟩ := dI_inv h1
    obtain ⟨az,ds,rfl,h3⟩ := dI_inv h2
    obtain ⟨bx,ds,rfl,h4⟩ := dI_inv h3
    obtain ⟨b_y,ds,rfl,h5⟩ := dI_inv h4
    obtain ⟨bz,ds,rfl,h6⟩ := dI_inv h5
    obtain ⟨rfl,hE⟩ := dE_inv h6
    exact ⟨[SV.agg [SV.int .i64 ax,SV.int .i64 ay,SV.int .i64 az],SV.agg [SV.int .i64 bx,SV.int .i64 b_y,SV.int .i64 bz]],[],fun vs => by kernel_rfl,(ddot_eq ax ay az bx b_y bz Q).trans hE⟩
noncomputable def ddot_h {α:Type} (ds:List D) (Q:SV → Hp → Option α):Option α :=
  dI ds fun ax ds => dI ds fun ay ds => dI ds fun az ds => dI ds fun bx ds => dI ds fun b_y ds => dI ds fun bz ds => dE ds (Q (.int .i64 (V.pDot (ax,ay,az) (bx,b_y,bz))) ([]))
theorem ddot_h_ok {α:Type}:FnOk E.P 87 (fEnt (α := α) ddot_sp ddot_h) :=
  fEnt_ok E (look_dcross_ok) (exec_sound E E_ok (look_dcross_ok) (noLps_ok _) 400) fun ds Q r h => by
    unfold ddot_h at h
    obtain ⟨ax,ds,rfl,h1⟩ := dI_inv h
    obtain ⟨ay,ds,rfl,h2⟩ := dI_inv h1
    obtain ⟨az,ds,rfl,h3⟩ := dI_inv h2
    obtain ⟨bx,ds,rfl,h4⟩ := dI_inv h3
    obtain ⟨b_y,ds,rfl,h5⟩ := dI_inv h4
    obtain ⟨bz,ds,rfl,h6⟩ := dI_inv h5
    obtain ⟨rfl,hE⟩ := dE_inv h6
    exact ⟨[SV.agg [SV.int .i64 ax,SV.int .i64 ay,SV.int .i64 az],SV.agg [SV.int .i64 bx,SV.int .i64 b_y,SV.int .i64 bz]],[],fun vs => by kernel_rfl,(ddot_eq ax ay az bx b_y bz Q).trans ((rfl).trans hE)⟩
noncomputable def look_ddot {α:Type}:LookF α := addFn 87 (fEnt ddot_sp ddot_h) look_dcross
theorem look_ddot_ok {α:Type}:LookOk E.P (look_ddot (α := α)) := addFn_ok ddot_h_ok (look_dcross_ok)
noncomputable abbrev dbare_S1 (y1 y2 y3 y4 y5 y6 y7 y8 y9:Int) (y10:List Int):St := St.mk (none :: some (SV.ptr (nat_lit 0) (nat_lit 0)) :: some (SV.ptr (nat_lit 1) (nat_lit 0)) :: none :: some (SV.sl (nat_lit 2)) :: some (SV.int .i64 y1) :: some (SV.int .i64 y2) :: some (SV.int .i64 y3) :: nn 44 ([])) [.cells [SV.int .i64 y4,SV.int .i64 y5,SV.int .i64 y6] (nat_lit 23),.cells [SV.int .i64 y7,SV.int .i64 y8,SV.int .i64 y9] (nat_lit 23),.seq (K.int IntKind.i64) y10 (nat_lit 3)]
noncomputable abbrev dbare_S2 (y1 y2 y3 y4 y5 y6 y7 y8:Int) (y9:List Int):St := St.mk (none :: some (SV.ptr (nat_lit 0) (nat_lit 0)) :: some (SV.ptr (nat_lit 1) (nat_lit 0)) :: none :: some (SV.sl (nat_lit 2)) :: some (SV.int .i64 y1) :: some (SV.int .i64 y2) :: nn 45 ([])) [.cells [SV.int .i64 y3,SV.int .i64 y4,SV.int .i64 y5] (nat_lit 23),.cells [SV.int .i64 y6,SV.int .i64 y7,SV.int .i64 y8] (nat_lit 23),.seq (K.int IntKind.i64) y9 (nat_lit 3)]
noncomputable abbrev dbare_S3:St := St.mk (none :: some (SV.ptr (nat_lit 0) (nat_lit 0)) :: some (SV.ptr (nat_lit 1) (nat_lit 0)) :: none :: some (SV.sl (nat_lit 2)) :: some (SV.int .i64 (0:Int)) :: some (SV.int .i64 (0:Int)) :: some (SV.int .i64 (0:Int)) :: nn 44 ([])) [.cells [SV.int .i64 (0:Int),SV.int .i64 (0:Int),SV.int .i64 (0:Int)] (nat_lit 23),.cells [SV.int .i64 (0:Int),SV.int .i64 (0:Int),SV.int .i64 (0:Int)] (nat_lit 23),.seq (K.int IntKind.i64) [] (nat_lit 3)]
noncomputable abbrev dbare_S4 (y1 y2 y3 y4 y5 y6 y7 y8:Int) (y9:List Int):St := St.mk (none :: some (SV.ptr (nat_lit 0) (nat_lit 0)) :: some (SV.ptr (nat_lit 1) (nat_lit 0)) :: some (SV.int .i64 y1) :: some (SV.sl (nat_lit 2)) :: some (SV.int .i64 y2) :: nn 46 ([])) [.cells [SV.int .i64 y3,SV.int .i64 y4,SV.int .i64 y5] (nat_lit 23),.cells [SV.int .i64 y6,SV.int .i64 y7,SV.int .i64 y8] (nat_lit 23),.seq (K.int IntKind.i64) y9 (nat_lit 3)]
noncomputable abbrev dbare_S5 (y1 y2 y3 y4 y5 y6 y7:Int):St := St.mk (none :: some (SV.ptr (nat_lit 0) (nat_lit 0)) :: some (SV.ptr (nat_lit 1) (nat_lit 0)) :: some (SV.int .i64 y1) :: nn 48 ([])) [.cells [SV.int .i64 y2,SV.int .i64 y3,SV.int .i64 y4] (nat_lit 23),.cells [SV.int .i64 y5,SV.int .i64 y6,SV.int .i64 y7] (nat_lit 23)]
noncomputable abbrev dbare_S6:St := St.mk (none :: some (SV.ptr (nat_lit 0) (nat_lit 0)) :: some (SV.ptr (nat_lit 1) (nat_lit 0)) :: some (SV.int .i64 (0:Int)) :: some (SV.sl (nat_lit 2)) :: some (SV.int .i64 (0:Int)) :: nn 46 ([])) [.cells [SV.int .i64 (0:Int),SV.int .i64 (0:Int),SV.int .i64 (0:Int)] (nat_lit 23),.cells [SV.int .i64 (0:Int),SV.int .i64 (0:Int),SV.int .i64 (0:Int)] (nat_lit 23),.seq (K.int IntKind.i64) [] (nat_lit 3)]
abbrev dbare_P1:List Bool := [false,false,true,true,false,false,true,false,false,true,false,true,true,true]
abbrev dbare_P2:List Bool := [false,true,false,true,true,true]
noncomputable def _root_.Go.Proofs.Ytlagndfhibkjpaa.M.dbare_l0_step {α:Type} (kn:Int → Int → Option α) (k1:Int → Option α) (x38 x39:Int):Option α := if (!cEq x39 (0:Int)) = true then if x39 = (0:Int) then none else kn x39 (Int.tmod x38 x39) else k1 x38
noncomputable def _root_.Go.Proofs.Ytlagndfhibkjpaa.M.dbare_l0 {α:Type} (k1:Int → Option α):Nat → Int → Int → Option α
  | 0,_,_ => none
  | n + 1,x38,x39 => M.dbare_l0_step (M.dbare_l0 k1 n) k1 x38 x39
theorem dbare_l0_step_eq {α:Type} (x37 x38 x39 x40 x41 x42 x43 x44 x45:Int) (x46:List Int) (Q:Ex → St → Option α):(loopStep E (exec E look_ddot noLps 400) 101 dbare_P1 0 (codeAt E.P 101 dbare_P1)) (dbare_S1 x37 x38 x39 x40 x41 x42 x43 x44 x45 x46) Q = M.dbare_l0_step (fun (x48 x49:Int) => Q .normal (dbare_S1 x37 x48 x49 x40 x41 x42 x43 x44 x45 x46)) (fun (x47:Int) => Q (.exit 2) (dbare_S2 x37 x47 x40 x41 x42 x43 x44 x45 x46)) x38 x39 := by kernel_rfl
theorem dbare_l0_iter {α:Type} (x37 x40 x41 x42 x43 x44 x45:Int) (x46:List Int) (Q:Ex → St → Option α):∀ (n:Nat) (x38 x39:Int),iter (loopStep E (exec E look_ddot noLps 400) 101 dbare_P1 0 (codeAt E.P 101 dbare_P1)) n (dbare_S1 x37 x38 x39 x40 x41 x42 x43 x44 x45 x46) Q = M.dbare_l0 (fun (x47:Int) => Q (.exit 2) (dbare_S2 x37 x47 x40 x41 x42 x43 x44 x45 x46)) n x38 x39
  | 0,_,_ => rfl
  | n + 1,x38,x39 => (dbare_l0_step_eq x37 x38 x39 x40 x41 x42 x43 x44 x45 x46 (iterK (loopStep E (exec E look_ddot noLps 400) 101 dbare_P1 0 (codeAt E.P 101 dbare_P1)) n Q)).trans (congrArg (fun kn => M.dbare_l0_step kn (fun (x47:Int) => Q (.exit 2) (dbare_S2 x37 x47 x40 x41 x42 x43 x44 x45 x46)) x38 x39) (funext fun x38 => funext fun x39 => dbare_l0_iter x37 x40 x41 x42 x43 x44 x45 x46 Q n x38 x39))
noncomputable def dbare_l0_go {α:Type} (ds:List D) (Q:Ex → St → Option α):Option α :=
  dI ds fun x37 ds => dI ds fun x38 ds => dI ds fun x39 ds => dI ds fun x40 ds => dI ds fun x41 ds => dI ds fun x42 ds => dI ds fun x43 ds => dI ds fun x44 ds => dI ds fun x45 ds => dL (K.int IntKind.i64) ds fun x46 ds => dE ds (M.dbare_l0 (fun (x47:Int) => Q (.exit 2) (dbare_S2 x37 x47 x40 x41 x42 x43 x44 x45 x46)) (100 + x46.length) x38 x39)
theorem dbare_l0_ok {α:Type}:LoopOk E.P 101 dbare_P1 0 (lEnt (α := α) (dbare_S3) dbare_l0_go) :=
  lEnt_ok E (exec_sound E E_ok (look_ddot_ok) (noLps_ok _) 400) fun ds Q r h S hS => by
    unfold dbare_l0_go at h
    obtain ⟨x37,ds,rfl,h1⟩ := dI_inv h
    obtain ⟨x38,ds,rfl,h2⟩ := dI_inv h1
    obtain ⟨x39,ds,rfl,h3⟩ := dI_inv h2
    obtain ⟨x40,ds,rfl,h4⟩ := dI_inv h3
    obtain ⟨x41,ds,rfl,h5⟩ := dI_inv h4
    obtain ⟨x42,ds,rfl,h6⟩ := dI_inv h5
    obtain ⟨x43,ds,rfl,h7⟩ := dI_inv h6
    obtain ⟨x44,ds,rfl,h8⟩ := dI_inv h7
    obtain ⟨x45,ds,rfl,h9⟩ := dI_inv h8
    obtain ⟨x46,ds,rfl,h10⟩ := dL_inv h9
    obtain ⟨rfl,hE⟩ := dE_inv h10
    have e:fillS (dbare_S3) [.i x37,.i x38,.i x39,.i x40,.i x41,.i x42,.i x43,.i x44,.i x45,.l (K.int IntKind.i64) x46] = some (dbare_S1 x37 x38 x39 x40 x41 x42 x43 x44 x45 x46) := by kernel_rfl
    rw [e] at hS
    cases hS
    exact ⟨_,(dbare_l0_iter x37 x40 x41 x42 x43 x44 x45 x46 Q _ x38 x39).trans hE⟩
noncomputable def dbare_l0_lps {α:Type}:LookL α := addLp 101 dbare_P1 0 (lEnt (dbare_S3) dbare_l0_go) noLps
theorem dbare_l0_lps_ok {α:Type}:LoopsOk E.P (dbare_l0_lps (α := α)) := addLp_ok dbare_l0_ok (noLps_ok _)

noncomputable def _root_.Go.Proofs.Ytlagndfhibkjpaa.M.dbare_l1_step {α:Type} (x58:List Int) (kn:Int → Int → Option α) (k1:Int → Option α) (x50 x51:Int):Option α := if cLt x51 (3:Int) = true then if (0:Int) ≤ x51 ∧ x51 < (↑(List.length x58):Int) then M.dbare_l0 (fun (x59:Int) ↦ kn x59 (IntKind.wrap .i64 (x51 + (1:Int)))) ((100:Nat) + List.length x58) x50 (List.getD x58 (Int.toNat x51) (0:Int)) else none else k1 x50
noncomputable def _root_.Go.Proofs.Ytlagndfhibkjpaa.M.dbare_l1 {α:Type} (x58:List Int) (k1:Int → Option α):Nat → Int → Int → Option α
  | 0,_,_ => none
  | n + 1,x50,x51 => M.dbare_l1_step x58 (M.dbare_l1 x58 k1 n) k1 x50 x51
theorem dbare_l1_step_eq {α:Type} (x50 x51 x52 x53 x54 x55 x56 x57:Int) (x58:List Int) (Q:Ex → St → Option α):(loopStep E (exec E look_ddot dbare_l0_lps 400) 101 dbare_P2 0 (codeAt E.P 101 dbare_P2)) (dbare_S4 x50 x51 x52 x53 x54 x55 x56 x57 x58) Q = M.dbare_l1_step x58 (fun (x61 x62:Int) => Q .normal (dbare_S4 x61 x62 x52 x53 x54 x55 x56 x57 x58)) (fun (x60:Int) => Q (.exit 0) (dbare_S5 x60 x52 x53 x54 x55 x56 x57)) x50 x51 := by kernel_rfl
theorem dbare_l1_iter {α:Type} (x52 x53 x54 x55 x56 x57:Int) (x58:List Int) (Q:Ex → St → Option α):∀ (n:Nat) (x50 x51:Int),iter (loopStep E (exec E look_ddot dbare_l0_lps 400) 101 dbare_P2 0 (codeAt E.P 101 dbare_P2)) n (dbare_S4 x50 x51 x52 x53 x54 x55 x56 x57 x58) Q = M.dbare_l1 x58 (fun (x60:Int) => Q (.exit 0) (dbare_S5 x60 x52 x53 x54 x55 x56 x57)) n x50 x51
  | 0,_,_ => rfl
  | n + 1,x50,x51 => (dbare_l1_step_eq x50 x51 x52 x53 x54 x55 x56 x57 x58 (iterK (loopStep E (exec E look_ddot dbare_l0_lps 400) 101 dbare_P2 0 (codeAt E.P 101 dbare_P2)) n Q)).trans (congrArg (fun kn => M.dbare_l1_step x58 kn (fun (x60:Int) => Q (.exit 0) (dbare_S5 x60 x52 x53 x54 x55 x56 x57)) x50 x51) (funext fun x50 => funext fun x51 => dbare_l1_iter x52 x53 x54 x55 x56 x57 x58 Q n x50 x51))
noncomputable def dbare_l1_go {α:Type} (ds:List D) (Q:Ex → St → Option α):Option α :=
  dI ds fun x50 ds => dI ds fun x51 ds => dI ds fun x52 ds => dI ds fun x53 ds => dI ds fun x54 ds => dI ds fun x55 ds => dI ds fun x56 ds => dI ds fun x57 ds => dL (K.int IntKind.i64) ds fun x58 ds => dE ds (M.dbare_l1 x58 (fun (x60:Int) => Q (.exit 0) (dbare_S5 x60 x52 x53 x54 x55 x56 x57)) (100 + x58.length) x50 x51)
theorem dbare_l1_ok {α:Type}:LoopOk E.P 101 dbare_P2 0 (lEnt (α := α) (dbare_S6) dbare_l1_go) :=
  lEnt_ok E (exec_sound E E_ok (look_ddot_ok) (dbare_l0_lps_ok) 400) fun ds Q r h S hS => by
    unfold dbare_l1_go at h
    obtain ⟨x50,ds,rfl,h1⟩ := dI_inv h
    obtain ⟨x51,ds,rfl,h2⟩ := dI_inv h1
    obtain ⟨x52,ds,rfl,h3⟩ := dI_inv h2
    obtain ⟨x53,ds,rfl,h4⟩ := dI_inv h3
    obtain ⟨x54,ds,rfl,h5⟩ := dI_inv h4
    obtain ⟨x55,ds,rfl,h6⟩ := dI_inv h5
    obtain ⟨x56,ds,rfl,h7⟩ := dI_inv h6
    obtain ⟨x57,ds,rfl,h8⟩ := dI_inv h7
    obtain ⟨x58,ds,rfl,h9⟩ := dL_inv h8
    obtain ⟨rfl,hE⟩ := dE_inv h9
    have e:fillS (dbare_S6) [.i x50,.i x51,.i x52,.i x53,.i x54,.i x55,.i x56,.i x57,.l (K.int IntKind.i64) x58] = some (dbare_S4 x50 x51 x52 x53 x54 x55 x56 x57 x58) := by kernel_rfl
    rw [e] at hS
    cases hS
    exact ⟨_,(dbare_l1_iter x52 x53 x54 x55 x56 x57 x58 Q _ x50 x51).trans hE⟩
noncomputable def dbare_l1_lps {α:Type}:LookL α := addLp 101 dbare_P2 0 (lEnt (dbare_S6) dbare_l1_go) dbare_l0_lps
theorem dbare_l1_lps_ok {α:Type}:LoopsOk E.P (dbare_l1_lps (α := α)) := addLp_ok dbare_l1_ok (dbare_l0_lps_ok)

noncomputable def _root_.Go.Proofs.Ytlagndfhibkjpaa.M.dbare {α:Type} (ax:Int) (ay:Int) (az:Int) (k0:Int → Int → Int → Option α):Option α := M.dbare_l1 [V.dsize_r0 ax,V.dsize_r0 ay,V.dsize_r0 az] (fun (x63:Int) ↦ if cEq x63 (0:Int) = true then k0 ax ay az else if x63 = (0:Int) then none else if x63 = (0:Int) then none else if x63 = (0:Int) then none else k0 (IntKind.wrap .i64 (Int.tdiv ax x63)) (IntKind.wrap .i64 (Int.tdiv ay x63)) (IntKind.wrap .i64 (Int.tdiv az x63))) ((100:Nat) + ((2:Nat) + (1:Nat))) (0:Int) (0:Int)
theorem dbare_eq {α:Type} (ax:Int) (ay:Int) (az:Int) (Q:SV → Hp → Option α):callI E look_ddot (exec E look_ddot dbare_l1_lps 400) 101 ([SV.agg [SV.int .i64 ax,SV.int .i64 ay,SV.int .i64 az]]) ([]) Q = M.dbare ax ay az (fun (x64 x65 x66:Int) => Q (SV.agg [SV.int .i64 x64,SV.int .i64 x65,SV.int .i64 x66]) ([])) := by kernel_rfl
def dbare_sp:List AS := [.val (.agg [.int .i64 0,.int .i64 0,.int .i64 0])]
noncomputable def dbare_go {α:Type} (ds:List D) (Q:SV → Hp → Option α):Option α :=
  dI ds fun ax ds => dI ds fun ay ds => dI ds fun az ds => dE ds (M.dbare ax ay az (fun (x64 x65 x66:Int) => Q (SV.agg [SV.int .i64 x64,SV.int .i64 x65,SV.int .i64 x66]) ([])))
theorem dbare_ok {α:Type}:FnOk E.P 101 (fEnt (α := α) dbare_sp dbare_go) :=
  fEnt_ok E (look_ddot_ok) (exec_sound E E_ok (look_ddot_ok) (dbare_l1_lps_ok) 400) fun ds Q r h => by
    unfold dbare_go at h
    obtain ⟨ax,ds,rfl,h1⟩ := dI_inv h
    obtain ⟨ay,ds,rfl,h2⟩ := dI_inv h1
    obtain ⟨az,ds,rfl,h3⟩ := dI_inv h2
    obtain ⟨rfl,hE⟩ := dE_inv h3
    exact ⟨[SV.agg [SV.int .i64 ax,SV.int .i64 ay,SV.int .i64 az]],[],fun vs => by kernel_rfl,(dbare_eq ax ay az Q).trans hE⟩
theorem dgcd_val {α:Type} (k1:Int → Option α):∀ (k f a b:Nat),b < 2 ^ k → 2 * k + 1 ≤ f → M.dbare_l0 k1 f (a:Int) (b:Int) = k1 ((Nat.gcd a b:Nat):Int) := by
  intro k
  induction k with
  | zero =>
    intro f a b hb hf
    obtain ⟨f,rfl⟩:∃ g,f = g + 1 := ⟨f - 1,by omega⟩
    have h0:b = 0 := by simp at hb; exact hb
    subst h0
    simp [M.dbare_l0,M.dbare_l0_step,cEq_eq]
  | succ k ih =>
    intro f a b hb hf
    obtain ⟨f,rfl⟩:∃ g,f = g + 2 := ⟨f - 2,by omega⟩
    by_cases h0:b = 0
    · subst h0
      simp [M.dbare_l0,M.dbare_l0_step,cEq_eq]
    · have hbi : (b : Int) ≠ 0 := by omega
      have t1:Int.tmod (a:Int) (b:Int) = ((a % b:Nat):Int) := rfl
      by_cases h1:a % b = 0
      · have e : Nat.gcd a b = b := by rw [Nat.gcd_comm, Nat.gcd_rec, h1, Nat.gcd_zero_left]
        simp [M.dbare_l0,M.dbare_l0_step,cEq_eq,hbi,t1,h1,e,h0]
      · have h1i : ((a % b : Nat) : Int) ≠ 0 := by omega
        have t2:Int.tmod (b:Int) ((a % b:Nat):Int) = ((b % (a % b):Nat):Int) := rfl
        have hh := mod_half (Nat.pos_of_ne_zero h1) (Nat.mod_lt a (Nat.pos_of_ne_zero h0))
        have e:Nat.gcd (a % b) (b % (a % b)) = Nat.gcd a b := by rw [Nat.gcd_comm (a % b),← Nat.gcd_rec,← Nat.gcd_rec,Nat.gcd_comm]
        have hi := ih f (a % b) (b % (a % b)) (by rw [Nat.pow_succ] at hb; omega) (by omega)
        rw [e] at hi
        rw [← hi]
        show M.dbare_l0_step _ k1 _ _ = _
        unfold M.dbare_l0_step
        rw [cEq_eq,if_pos (by simpa using h0),if_neg hbi,t1]
        show M.dbare_l0_step _ k1 _ _ = _
        unfold M.dbare_l0_step
        rw [cEq_eq,if_pos (by simp only [Bool.not_eq_true',beq_eq_false_iff_ne,ne_eq]; exact h1i),if_neg h1i,t2]
theorem dsz_abs {n:Int} (h:-9223372036854775807 ≤ n ∧ n ≤ 9223372036854775807):V.dsize_r0 n = (n.natAbs:Int) := by
  unfold V.dsize_r0
  rw [cLt_eq,IntWalk.i64_in _ (by omega)]
  by_cases hn:n < 0
  · rw [if_pos (by simpa using hn)]; omega
  · rw [if_neg (by simpa using hn)]; omega
noncomputable def _root_.Go.Proofs.Ytlagndfhibkjpaa.V.brB (p:P3):Bool := hid (!bigP p 4398046511104)
noncomputable def _root_.Go.Proofs.Ytlagndfhibkjpaa.V.pBare (p:P3):P3 := hid (bareP p)
theorem brB_iff {p:P3}:V.brB p = true ↔ bigP p 4398046511104 = false := by unfold V.brB; rw [hid_eq]; simp
theorem dbare_v {α:Type} (ax ay az:Int) (hg:V.brB (ax,ay,az) = true) (k0:Int → Int → Int → Option α):M.dbare ax ay az k0 = k0 (V.pBare (ax,ay,az)).1 (V.pBare (ax,ay,az)).2.1 (V.pBare (ax,ay,az)).2.2 := by
  have hb := brB_iff.1 hg
  obtain ⟨h1,h2,h3⟩ := bigP_false hb
  simp only at h1 h2 h3
  unfold M.dbare V.pBare
  rw [hid_eq,dsz_abs (by omega),dsz_abs (by omega),dsz_abs (by omega)]
  have w0:IntKind.wrap .i64 (0 + 1) = 1 := by decide
  have w1:IntKind.wrap .i64 (1 + 1) = 2 := by decide
  have w2:IntKind.wrap .i64 (2 + 1) = 3 := by decide
  have l0:cLt (0:Int) 3 = true := by rw [cLt_eq]; decide
  have l1:cLt (1:Int) 3 = true := by rw [cLt_eq]; decide
  have l2:cLt (2:Int) 3 = true := by rw [cLt_eq]; decide
  have l3:¬ cLt (3:Int) 3 = true := by rw [cLt_eq]; decide
  have c0:(0:Int) ≤ 0 ∧ (0:Int) < ((List.length [(ax.natAbs:Int),(ay.natAbs:Int),(az.natAbs:Int)]:Nat):Int) := by simp
  have c1:(0:Int) ≤ 1 ∧ (1:Int) < ((List.length [(ax.natAbs:Int),(ay.natAbs:Int),(az.natAbs:Int)]:Nat):Int) := by simp
  have c2:(0:Int) ≤ 2 ∧ (2:Int) < ((List.length [(ax.natAbs:Int),(ay.natAbs:Int),(az.natAbs:Int)]:Nat):Int) := by simp
  rw [show (100:Nat) + (2 + 1) = 99 + 4 from rfl]
  unfold M.dbare_l1 M.dbare_l1_step
  rw [if_pos l0,if_pos c0]
  refine Eq.trans (dgcd_val _ 49 _ 0 ax.natAbs (by omega) (by simp)) ?_
  rw [w0]
  unfold M.dbare_l1 M.dbare_l1_step
  rw [if_pos l1,if_pos c1]
  refine Eq.trans (dgcd_val _ 49 _ _ ay.natAbs (by omega) (by simp)) ?_
  rw [w1]
  unfold M.dbare_l1 M.dbare_l1_step
  rw [if_pos l2,if_pos c2]
  refine Eq.trans (dgcd_val _ 49 _ _ az.natAbs (by omega) (by simp)) ?_
  rw [w2]
  unfold M.dbare_l1 M.dbare_l1_step
  have hgd:Nat.gcd (Nat.gcd ax.natAbs ay.natAbs) az.natAbs = gcd3 (ax,ay,az) := rfl
  rw [if_neg l3,Nat.gcd_zero_left,hgd]
  show (if cEq ((gcd3 (ax,ay,az):Nat):Int) 0 = true then k0 ax ay az else if ((gcd3 (ax,ay,az):Nat):Int) = 0 then none else if ((gcd3 (ax,ay,az):Nat):Int) = 0 then none else if ((gcd3 (ax,ay,az):Nat):Int) = 0 then none else k0 (IntKind.wrap .i64 (Int.tdiv ax (gcd3 (ax,ay,az)))) (IntKind.wrap .i64 (Int.tdiv ay (gcd3 (ax,ay,az)))) (IntKind.wrap .i64 (Int.tdiv az (gcd3 (ax,ay,az))))) = _
  by_cases h0:(ax,ay,az) = ((0,0,0):P3)
  · cases h0
    rw [if_pos (by rw [cEq_eq]; decide)]
    rfl
  · have hp := gcd3_pos h0
    have hq:(gcd3 (ax,ay,az):Int) ≠ 0 := by omega
    rw [if_neg (by rw [cEq_eq]; simpa using hq)]
    have hd := bigP_false (bigP_div (gcd3 (ax,ay,az)) hb)
    simp only [divP] at hd
    rw [if_neg hq,if_neg hq,if_neg hq]
    rw [IntWalk.i64_in _ (by omega),IntWalk.i64_in _ (by omega),IntWalk.i64_in _ (by omega)]
    rfl
noncomputable def dbare_h {α:Type} (ds:List D) (Q:SV → Hp → Option α):Option α :=
  dI ds fun ax ds => dI ds fun ay ds => dI ds fun az ds => dE ds (if V.brB (ax,ay,az) = true then Q (.agg [.int .i64 (V.pBare (ax,ay,az)).1,.int .i64 (V.pBare (ax,ay,az)).2.1,.int .i64 (V.pBare (ax,ay,az)).2.2]) ([]) else none)
theorem dbare_h_ok {α:Type}:FnOk E.P 101 (fEnt (α := α) dbare_sp dbare_h) :=
  fEnt_ok E (look_ddot_ok) (exec_sound E E_ok (look_ddot_ok) (dbare_l1_lps_ok) 400) fun ds Q r h => by
    unfold dbare_h at h
    obtain ⟨ax,ds,rfl,h1⟩ := dI_inv h
    obtain ⟨ay,ds,rfl,h2⟩ := dI_inv h1
    obtain ⟨az,ds,rfl,h3⟩ := dI_inv h2
    obtain ⟨rfl,hE⟩ := dE_inv h3
    split at hE
    · rename_i hg
      exact ⟨[SV.agg [SV.int .i64 ax,SV.int .i64 ay,SV.int .i64 az]],[],fun vs => by kernel_rfl,(dbare_eq ax ay az Q).trans ((dbare_v ax ay az hg _).trans hE)⟩
    · cases hE
noncomputable def look_dbare {α:Type}:LookF α := addFn 101 (fEnt dbare_sp dbare_h) look_ddot
theorem look_dbare_ok {α:Type}:LookOk E.P (look_dbare (α := α)) := addFn_ok dbare_h_ok (look_ddot_ok)
end Go.Proofs.Ytlagndfhibkjpaa.Sx
end

section
/- the document's short directions. -/
namespace Go.Proofs.Ytlagndfhibkjpaa.Sx
open Go
set_option maxRecDepth 20000
set_option linter.unusedVariables false
set_option linter.unusedSimpArgs false
noncomputable abbrev dshort_S1 (y1 y2 y3 y4 y5 y6:Int):St := St.mk (none :: none :: some (SV.ptr (nat_lit 0) (nat_lit 0)) :: some (SV.ptr (nat_lit 1) (nat_lit 0)) :: nn 47 ([])) [.cells [SV.int .i64 y1,SV.int .i64 y2,SV.int .i64 y3] (nat_lit 23),.cells [SV.int .i64 y4,SV.int .i64 y5,SV.int .i64 y6] (nat_lit 23)]
noncomputable abbrev dshort_S2:St := St.mk (none :: none :: some (SV.ptr (nat_lit 0) (nat_lit 0)) :: some (SV.ptr (nat_lit 1) (nat_lit 0)) :: nn 47 ([])) [.cells [SV.int .i64 (0:Int),SV.int .i64 (0:Int),SV.int .i64 (0:Int)] (nat_lit 23),.cells [SV.int .i64 (0:Int),SV.int .i64 (0:Int),SV.int .i64 (0:Int)] (nat_lit 23)]
noncomputable def _root_.Go.Proofs.Ytlagndfhibkjpaa.M.dshort_l0_step {α:Type} (kn:Int → Int → Int → Option α) (k1:Int → Int → Int → Option α) (x9 x10 x11:Int):Option α := if cLt (1048576:Int) (V.dsize_r0 x9) = true then kn (IntKind.wrap .i64 (Int.tdiv x9 (2:Int))) (IntKind.wrap .i64 (Int.tdiv x10 (2:Int))) (IntKind.wrap .i64 (Int.tdiv x11 (2:Int))) else if cLt (1048576:Int) (V.dsize_r0 x10) = true then kn (IntKind.wrap .i64 (Int.tdiv x9 (2:Int))) (IntKind.wrap .i64 (Int.tdiv x10 (2:Int))) (IntKind.wrap .i64 (Int.tdiv x11 (2:Int))) else if cLt (1048576:Int) (V.dsize_r0 x11) = true then kn (IntKind.wrap .i64 (Int.tdiv x9 (2:Int))) (IntKind.wrap .i64 (Int.tdiv x10 (2:Int))) (IntKind.wrap .i64 (Int.tdiv x11 (2:Int))) else k1 x9 x10 x11
noncomputable def _root_.Go.Proofs.Ytlagndfhibkjpaa.M.dshort_l0 {α:Type} (k1:Int → Int → Int → Option α):Nat → Int → Int → Int → Option α
  | 0,_,_,_ => none
  | n + 1,x9,x10,x11 => M.dshort_l0_step (M.dshort_l0 k1 n) k1 x9 x10 x11
theorem dshort_l0_step_eq {α:Type} (x6 x7 x8 x9 x10 x11:Int) (Q:Ex → St → Option α):(loopStep E (exec E look_dbare noLps 400) 77 [false,false,true,true,true] 0 (codeAt E.P 77 [false,false,true,true,true])) (dshort_S1 x6 x7 x8 x9 x10 x11) Q = M.dshort_l0_step (fun (x15 x16 x17:Int) => Q .normal (dshort_S1 x6 x7 x8 x15 x16 x17)) (fun (x12 x13 x14:Int) => Q (.exit 0) (dshort_S1 x6 x7 x8 x12 x13 x14)) x9 x10 x11 := by kernel_rfl
theorem dshort_l0_iter {α:Type} (x6 x7 x8:Int) (Q:Ex → St → Option α):∀ (n:Nat) (x9 x10 x11:Int),iter (loopStep E (exec E look_dbare noLps 400) 77 [false,false,true,true,true] 0 (codeAt E.P 77 [false,false,true,true,true])) n (dshort_S1 x6 x7 x8 x9 x10 x11) Q = M.dshort_l0 (fun (x12 x13 x14:Int) => Q (.exit 0) (dshort_S1 x6 x7 x8 x12 x13 x14)) n x9 x10 x11
  | 0,_,_,_ => rfl
  | n + 1,x9,x10,x11 => (dshort_l0_step_eq x6 x7 x8 x9 x10 x11 (iterK (loopStep E (exec E look_dbare noLps 400) 77 [false,false,true,true,true] 0 (codeAt E.P 77 [false,false,true,true,true])) n Q)).trans (congrArg (fun kn => M.dshort_l0_step kn (fun (x12 x13 x14:Int) => Q (.exit 0) (dshort_S1 x6 x7 x8 x12 x13 x14)) x9 x10 x11) (funext fun x9 => funext fun x10 => funext fun x11 => dshort_l0_iter x6 x7 x8 Q n x9 x10 x11))
noncomputable def dshort_l0_go {α:Type} (ds:List D) (Q:Ex → St → Option α):Option α :=
  dI ds fun x6 ds => dI ds fun x7 ds => dI ds fun x8 ds => dI ds fun x9 ds => dI ds fun x10 ds => dI ds fun x11 ds => dE ds (M.dshort_l0 (fun (x12 x13 x14:Int) => Q (.exit 0) (dshort_S1 x6 x7 x8 x12 x13 x14)) (100) x9 x10 x11)
theorem dshort_l0_ok {α:Type}:LoopOk E.P 77 [false,false,true,true,true] 0 (lEnt (α := α) (dshort_S2) dshort_l0_go) :=
  lEnt_ok E (exec_sound E E_ok (look_dbare_ok) (noLps_ok _) 400) fun ds Q r h S hS => by
    unfold dshort_l0_go at h
    obtain ⟨x6,ds,rfl,h1⟩ := dI_inv h
    obtain ⟨x7,ds,rfl,h2⟩ := dI_inv h1
    obtain ⟨x8,ds,rfl,h3⟩ := dI_inv h2
    obtain ⟨x9,ds,rfl,h4⟩ := dI_inv h3
    obtain ⟨x10,ds,rfl,h5⟩ := dI_inv h4
    obtain ⟨x11,ds,rfl,h6⟩ := dI_inv h5
    obtain ⟨rfl,hE⟩ := dE_inv h6
    have e:fillS (dshort_S2) [.i x6,.i x7,.i x8,.i x9,.i x10,.i x11] = some (dshort_S1 x6 x7 x8 x9 x10 x11) := by kernel_rfl
    rw [e] at hS
    cases hS
    exact ⟨_,(dshort_l0_iter x6 x7 x8 Q _ x9 x10 x11).trans hE⟩
noncomputable def dshort_l0_lps {α:Type}:LookL α := addLp 77 [false,false,true,true,true] 0 (lEnt (dshort_S2) dshort_l0_go) noLps
theorem dshort_l0_lps_ok {α:Type}:LoopsOk E.P (dshort_l0_lps (α := α)) := addLp_ok dshort_l0_ok (noLps_ok _)

noncomputable def _root_.Go.Proofs.Ytlagndfhibkjpaa.M.dshort {α:Type} (ax:Int) (ay:Int) (az:Int) (k0:Int → Int → Int → Option α):Option α := if (!V.shwithin_r0 ax (-4398046511104:Int) (4398046511104:Int)) = true then k0 (0:Int) (0:Int) (0:Int) else if (!V.shwithin_r0 ay (-4398046511104:Int) (4398046511104:Int)) = true then k0 (0:Int) (0:Int) (0:Int) else if (!V.shwithin_r0 az (-4398046511104:Int) (4398046511104:Int)) = true then k0 (0:Int) (0:Int) (0:Int) else if V.brB (ax,ay,az) = true then M.dshort_l0 (fun (x18 x19 x20:Int) ↦ if V.brB (x18,x19,x20) = true then k0 (Prod.fst (V.pBare (x18,x19,x20))) (Prod.fst (Prod.snd (V.pBare (x18,x19,x20)))) (Prod.snd (Prod.snd (V.pBare (x18,x19,x20)))) else none) (100:Nat) (Prod.fst (V.pBare (ax,ay,az))) (Prod.fst (Prod.snd (V.pBare (ax,ay,az)))) (Prod.snd (Prod.snd (V.pBare (ax,ay,az)))) else none
theorem dshort_eq {α:Type} (ax:Int) (ay:Int) (az:Int) (Q:SV → Hp → Option α):callI E look_dbare (exec E look_dbare dshort_l0_lps 400) 77 ([SV.agg [SV.int .i64 ax,SV.int .i64 ay,SV.int .i64 az]]) ([]) Q = M.dshort ax ay az (fun (x21 x22 x23:Int) => Q (SV.agg [SV.int .i64 x21,SV.int .i64 x22,SV.int .i64 x23]) ([])) := by kernel_rfl
def dshort_sp:List AS := [.val (.agg [.int .i64 0,.int .i64 0,.int .i64 0])]
noncomputable def dshort_go {α:Type} (ds:List D) (Q:SV → Hp → Option α):Option α :=
  dI ds fun ax ds => dI ds fun ay ds => dI ds fun az ds => dE ds (M.dshort ax ay az (fun (x21 x22 x23:Int) => Q (SV.agg [SV.int .i64 x21,SV.int .i64 x22,SV.int .i64 x23]) ([])))
theorem dshort_ok {α:Type}:FnOk E.P 77 (fEnt (α := α) dshort_sp dshort_go) :=
  fEnt_ok E (look_dbare_ok) (exec_sound E E_ok (look_dbare_ok) (dshort_l0_lps_ok) 400) fun ds Q r h => by
    unfold dshort_go at h
    obtain ⟨ax,ds,rfl,h1⟩ := dI_inv h
    obtain ⟨ay,ds,rfl,h2⟩ := dI_inv h1
    obtain ⟨az,ds,rfl,h3⟩ := dI_inv h2
    obtain ⟨rfl,hE⟩ := dE_inv h3
    exact ⟨[SV.agg [SV.int .i64 ax,SV.int .i64 ay,SV.int .i64 az]],[],fun vs => by kernel_rfl,(dshort_eq ax ay az Q).trans hE⟩
theorem bigP_abs (p:P3) (n:Nat):bigP p (n:Int) = (decide ((n:Int) < (p.1.natAbs:Int)) || (decide ((n:Int) < (p.2.1.natAbs:Int)) || decide ((n:Int) < (p.2.2.natAbs:Int)))) := by
  rw [Bool.eq_iff_iff]
  simp only [bigP,Bool.or_eq_true,decide_eq_true_eq]
  omega
theorem dshort_l0_val {α:Type} (k1:Int → Int → Int → Option α):∀ (k fuel:Nat) (p:P3),bigP p (lim k) = false → bigP p 4398046511104 = false → k < fuel →
    M.dshort_l0 k1 fuel p.1 p.2.1 p.2.2 = k1 (shrinkP k p).1 (shrinkP k p).2.1 (shrinkP k p).2.2
  | k,0,p,h,h2,h3 => by omega
  | k,f + 1,p,h,h2,h3 => by
    unfold M.dshort_l0 M.dshort_l0_step
    have h4 := bigP_false h2
    have h5 := bigP_false (bigP_div 2 h2)
    simp only [divP] at h5
    rw [dsz_abs (by omega),dsz_abs (by omega),dsz_abs (by omega),IntWalk.i64_in _ (by omega:-9223372036854775808 ≤ Int.tdiv p.1 2 ∧ _),IntWalk.i64_in _ (by omega:-9223372036854775808 ≤ Int.tdiv p.2.1 2 ∧ _),IntWalk.i64_in _ (by omega:-9223372036854775808 ≤ Int.tdiv p.2.2 2 ∧ _)]
    simp only [cLt_eq]
    have hb := bigP_abs p 1048576
    simp only [Int.cast_ofNat_Int] at hb
    have step:∀ (X Y:Option α),(if decide ((1048576:Int) < (p.1.natAbs:Int)) = true then X else if decide ((1048576:Int) < (p.2.1.natAbs:Int)) = true then X else if decide ((1048576:Int) < (p.2.2.natAbs:Int)) = true then X else Y) = if bigP p 1048576 = true then X else Y := by
      intro X Y
      rw [show bigP p 1048576 = (decide ((1048576:Int) < (p.1.natAbs:Int)) || (decide ((1048576:Int) < (p.2.1.natAbs:Int)) || decide ((1048576:Int) < (p.2.2.natAbs:Int)))) from hb]
      cases decide ((1048576:Int) < (p.1.natAbs:Int)) <;> cases decide ((1048576:Int) < (p.2.1.natAbs:Int)) <;> cases decide ((1048576:Int) < (p.2.2.natAbs:Int)) <;> rfl
    rw [step]
    by_cases hb:bigP p 1048576 = true
    · rw [if_pos hb]
      cases k with
      | zero => exact absurd hb (by rw [← lim_zero,h]; decide)
      | succ k =>
        have ih := dshort_l0_val k1 k f (divP p 2) (halved h) (bigP_div 2 h2) (by omega)
        have e:shrinkP (k + 1) p = shrinkP k (divP p 2) := by simp [shrinkP,hb]
        rw [e,← ih]
        rfl
    · rw [if_neg hb,shrink_stop k (by simpa using hb)]
theorem dshort_v {α:Type} (ax ay az:Int) (k0:Int → Int → Int → Option α):M.dshort ax ay az k0 = k0 (V.pShort (ax,ay,az)).1 (V.pShort (ax,ay,az)).2.1 (V.pShort (ax,ay,az)).2.2 := by
  unfold M.dshort V.pShort
  rw [hid_eq]
  simp only [within_eq]
  unfold shortP
  by_cases h1:bigP (ax,ay,az) 4398046511104 = true
  · rw [if_pos h1]
    have:¬ (inZ ax (-4398046511104) 4398046511104 = true ∧ inZ ay (-4398046511104) 4398046511104 = true ∧ inZ az (-4398046511104) 4398046511104 = true) := by
      simp [bigP] at h1; simp [inZ]; omega
    cases a:inZ ax (-4398046511104) 4398046511104 <;> cases b:inZ ay (-4398046511104) 4398046511104 <;> cases c:inZ az (-4398046511104) 4398046511104 <;> simp_all
  · have h1' : bigP (ax, ay, az) 4398046511104 = false := by simpa using h1
    have hf := bigP_false h1'
    simp only at hf
    have a:inZ ax (-4398046511104) 4398046511104 = true := by simp [inZ]; omega
    have b:inZ ay (-4398046511104) 4398046511104 = true := by simp [inZ]; omega
    have c:inZ az (-4398046511104) 4398046511104 = true := by simp [inZ]; omega
    rw [a,b,c,if_neg (by decide),if_neg (by decide),if_neg (by decide),if_neg h1,if_pos (brB_iff.2 h1')]
    have hs:bigP (bareP (ax,ay,az)) 4398046511104 = false := bigP_div _ h1'
    have e0:V.pBare (ax,ay,az) = bareP (ax,ay,az) := hid_eq _
    rw [e0]
    have hl := dshort_l0_val (fun (x21 x22 x23:Int) => if V.brB (x21,x22,x23) = true then k0 (V.pBare (x21,x22,x23)).1 (V.pBare (x21,x22,x23)).2.1 (V.pBare (x21,x22,x23)).2.2 else none) 64 100 (bareP (ax,ay,az)) (by
      have := bigP_false hs
      apply bigP_eq_false
      have e := lim_64
      omega) hs (by omega)
    refine Eq.trans hl ?_
    have e1:V.pBare (shrinkP 64 (bareP (ax,ay,az))) = bareP (shrinkP 64 (bareP (ax,ay,az))) := hid_eq _
    show (if V.brB (shrinkP 64 (bareP (ax,ay,az))) = true then k0 (V.pBare (shrinkP 64 (bareP (ax,ay,az)))).1 (V.pBare (shrinkP 64 (bareP (ax,ay,az)))).2.1 (V.pBare (shrinkP 64 (bareP (ax,ay,az)))).2.2 else none) = _
    rw [if_pos (brB_iff.2 (shrink_big _ _ _ hs)),e1]
noncomputable def dshort_h {α:Type} (ds:List D) (Q:SV → Hp → Option α):Option α :=
  dI ds fun ax ds => dI ds fun ay ds => dI ds fun az ds => dE ds (Q (.agg [.int .i64 (V.pShort (ax,ay,az)).1,.int .i64 (V.pShort (ax,ay,az)).2.1,.int .i64 (V.pShort (ax,ay,az)).2.2]) ([]))
theorem dshort_h_ok {α:Type}:FnOk E.P 77 (fEnt (α := α) dshort_sp dshort_h) :=
  fEnt_ok E (look_dbare_ok) (exec_sound E E_ok (look_dbare_ok) (dshort_l0_lps_ok) 400) fun ds Q r h => by
    unfold dshort_h at h
    obtain ⟨ax,ds,rfl,h1⟩ := dI_inv h
    obtain ⟨ay,ds,rfl,h2⟩ := dI_inv h1
    obtain ⟨az,ds,rfl,h3⟩ := dI_inv h2
    obtain ⟨rfl,hE⟩ := dE_inv h3
    exact ⟨[SV.agg [SV.int .i64 ax,SV.int .i64 ay,SV.int .i64 az]],[],fun vs => by kernel_rfl,(dshort_eq ax ay az Q).trans ((dshort_v ax ay az _).trans hE)⟩
noncomputable def look_dshort {α:Type}:LookF α := addFn 77 (fEnt dshort_sp dshort_h) look_dbare
theorem look_dshort_ok {α:Type}:LookOk E.P (look_dshort (α := α)) := addFn_ok dshort_h_ok (look_dbare_ok)
end Go.Proofs.Ytlagndfhibkjpaa.Sx
end

section
/- shape, plainly: the axes of a hull. -/
namespace Go.Proofs.Ytlagndfhibkjpaa.Sx
open Go
set_option linter.unusedVariables false
set_option linter.unusedSimpArgs false
/-! The axes of a hull, whatever the order of its points. -/
def nrm (A B C:P3):P3 := cr3 (sub3 B A) (sub3 C A)
def AxOf (l:List P3) (A B C a:P3):Prop := nrm A B C ≠ (0,0,0) ∧ V.sideP l (nrm A B C) A ≠ 0 ∧ a = shortP (mulP (V.sideP l (nrm A B C) A) (nrm A B C))
theorem nrm_sm {A B C:P3} (ha:Sm A 65536) (hb:Sm B 65536) (hc:Sm C 65536):Sm (nrm A B C) 34359738368 := (cr_sm (sub_sm hb ha).2 (sub_sm hc ha).2).2
theorem ahead_eq {n a p:P3} (hn:Sm n 34359738368) (ha:Sm a 65536) (hp:Sm p 65536):ahead n a p = dt3 n (sub3 p a) := by
  unfold ahead
  rw [(sub_sm hp ha).1]
  exact dt_sm hn (sub_sm hp ha).2
/-- Points not in one plane. -/
theorem not_all {l:List P3} (hs:∀ p ∈ l,Sm p 65536) (hn:¬ Copl l) {n a:P3} (h0:n ≠ (0,0,0)) (h:∀ p ∈ l,dt3 n (sub3 p a) = 0):False := by
  apply hn
  have h':∀ p ∈ l,∀ r ∈ l,dt3 n (sub3 p r) = 0 := by
    intro p hp r hr
    rw [sub_sub p r a,dt_sub,h p hp,h r hr]; rfl
  intro x hx y hy z hz w hw
  exact det_perp h0 (h' y hy x hx) (h' z hz x hx) (h' w hw x hx)
theorem dt_neg (n v:P3):dt3 (negT n) v = - dt3 n v := by unfold dt3 negT; simp only; grind
theorem side_one {l:List P3} (hs:∀ p ∈ l,Sm p 65536) {n a:P3} (hn:Sm n 34359738368) (ha:a ∈ l):V.sideP l n a = if ∀ p ∈ l,dt3 n (sub3 p a) ≤ 0 then 1 else if ∀ p ∈ l,0 ≤ dt3 n (sub3 p a) then -1 else 0 := by
  have e1:(∀ p ∈ l,ahead n a p ≤ 0) ↔ ∀ p ∈ l,dt3 n (sub3 p a) ≤ 0 := by
    constructor <;> intro h p hp
    · rw [← ahead_eq hn (hs a ha) (hs p hp)]; exact h p hp
    · rw [ahead_eq hn (hs a ha) (hs p hp)]; exact h p hp
  have e2:(∀ p ∈ l,0 ≤ ahead n a p) ↔ ∀ p ∈ l,0 ≤ dt3 n (sub3 p a) := by
    constructor <;> intro h p hp
    · rw [← ahead_eq hn (hs a ha) (hs p hp)]; exact h p hp
    · rw [ahead_eq hn (hs a ha) (hs p hp)]; exact h p hp
  unfold V.sideP
  simp only [e1,e2]
theorem side_neg {l:List P3} (hs:∀ p ∈ l,Sm p 65536) (hc:¬ Copl l) {n a b:P3} (hn:Sm n 34359738368) (h0:n ≠ (0,0,0)) (ha:a ∈ l) (hb:b ∈ l) (hab:dt3 n (sub3 b a) = 0) :
    V.sideP l (negT n) b = - V.sideP l n a := by
  have e:∀ p,dt3 (negT n) (sub3 p b) = - dt3 n (sub3 p a) := by
    intro p
    rw [dt_neg,sub_sub p b a,dt_sub,hab,Int.sub_zero]
  rw [side_one hs hn ha,side_one hs hn.neg hb]
  simp only [e]
  by_cases h1:∀ p ∈ l,dt3 n (sub3 p a) ≤ 0
  · by_cases h2 : ∀ p ∈ l, 0 ≤ dt3 n (sub3 p a)
    · exact (not_all hs hc h0 (a := a) fun p hp => by have := h1 p hp; have := h2 p hp; omega).elim
    · rw [if_pos h1,if_neg (fun h => h2 fun p hp => by have := h p hp; omega),if_pos (fun p hp => by have := h1 p hp; omega)]
  · by_cases h2 : ∀ p ∈ l, 0 ≤ dt3 n (sub3 p a)
    · rw [if_neg h1,if_pos h2,if_pos (fun p hp => by have := h2 p hp; omega)]; rfl
    · rw [if_neg h1,if_neg h2,if_neg (fun h => h2 fun p hp => by have := h p hp; omega),if_neg (fun h => h1 fun p hp => by have := h p hp; omega)]; rfl
theorem mulP_negneg {s:Int} {n:P3} (hs:s = 1 ∨ s = -1 ∨ s = 0) (h0:s ≠ 0) (hn:Sm n 34359738368):mulP (-s) (negT n) = mulP s n := by
  rcases hs with rfl | rfl | rfl
  · rw [mulP_one hn,mulP_neg hn.neg,negT_negT]
  · rw [show -(-1:Int) = 1 by decide,mulP_one hn.neg,mulP_neg hn]
  · exact absurd rfl h0
theorem nrm_swap23 (A B C:P3):nrm A C B = negT (nrm A B C) := by
  unfold nrm cr3 negT; ext <;> simp only <;> grind
theorem nrm_swap12 (A B C:P3):nrm B A C = negT (nrm A B C) := by
  unfold nrm cr3 negT sub3; ext <;> simp only <;> grind
theorem nrm_dt (A B C:P3):dt3 (nrm A B C) (sub3 B A) = 0 := by
  unfold nrm cr3 dt3; simp only; grind
theorem AxOf.swap {l:List P3} (hs:∀ p ∈ l,Sm p 65536) (hc:¬ Copl l) {A B C A' B' C' a:P3} (ha:A ∈ l) (hb:B ∈ l) (hcm:C ∈ l) (ha':A' ∈ l) (he:nrm A' B' C' = negT (nrm A B C)) (hd:dt3 (nrm A B C) (sub3 A' A) = 0) (h:AxOf l A B C a):AxOf l A' B' C' a := by
  obtain ⟨h1,h2,h3⟩ := h
  have hn := nrm_sm (hs A ha) (hs B hb) (hs C hcm)
  have hsd := side_neg hs hc hn h1 ha ha' hd
  unfold AxOf
  rw [he,hsd]
  refine ⟨negT_ne h1,by omega,?_⟩
  rw [mulP_negneg (sideP_cases _ _ _) h2 hn]
  exact h3
theorem AxOf.swap23 {l:List P3} (hs:∀ p ∈ l,Sm p 65536) (hc:¬ Copl l) {A B C a:P3} (ha:A ∈ l) (hb:B ∈ l) (hcm:C ∈ l) (h:AxOf l A B C a):AxOf l A C B a :=
  AxOf.swap hs hc ha hb hcm ha (nrm_swap23 A B C) (by unfold dt3 sub3; simp) h
theorem AxOf.swap12 {l:List P3} (hs:∀ p ∈ l,Sm p 65536) (hc:¬ Copl l) {A B C a:P3} (ha:A ∈ l) (hb:B ∈ l) (hcm:C ∈ l) (h:AxOf l A B C a):AxOf l B A C a :=
  AxOf.swap hs hc ha hb hcm hb (nrm_swap12 A B C) (nrm_dt A B C) h
theorem axOf_tri {l:List P3} (h:Pts l) {i j k:Nat} (hi:i < l.length) (hj:j < l.length) (hk:k < l.length) (a:P3):AxOf l (pt l i) (pt l j) (pt l k) a ↔ Sup l i j k ∧ a = triA l i j k := by
  obtain ⟨e,s⟩ := h.triN hi hj hk
  have e':triN l i j k = nrm (pt l i) (pt l j) (pt l k) := e
  unfold AxOf Sup triA triS
  rw [e',short_eq',and_assoc]
theorem pt_of_mem {l:List P3} {p:P3} (h:p ∈ l):∃ i,i < l.length ∧ pt l i = p := by
  obtain ⟨i,hi,rfl⟩ := List.mem_iff_getElem.1 h
  exact ⟨i,hi,pt_eq l i hi⟩
theorem nrm_ne12 {A B C:P3} (h:nrm A B C ≠ (0,0,0)):A ≠ B ∧ A ≠ C ∧ B ≠ C := by
  refine ⟨?_,?_,?_⟩ <;> rintro rfl <;> apply h <;> (unfold nrm cr3 sub3; ext <;> simp only <;> grind)
theorem faces_ax {l:List P3} (h:Pts l) (hc:¬ Copl l) (a:P3):a ∈ (facesP l).1 ↔ ∃ A ∈ l,∃ B ∈ l,∃ C ∈ l,AxOf l A B C a := by
  rw [facesP_mem]
  constructor
  · rintro ⟨i, j, k, hij, hjk, hk, h1⟩
    exact ⟨_,pt_mem l i (by omega),_,pt_mem l j (by omega),_,pt_mem l k hk,(axOf_tri h (by omega) (by omega) hk a).2 h1⟩
  · rintro ⟨A, hA, B, hB, C, hC, hx⟩
    obtain ⟨n1,n2,n3⟩ := nrm_ne12 hx.1
    obtain ⟨i,hi,rfl⟩ := pt_of_mem hA
    obtain ⟨j,hj,rfl⟩ := pt_of_mem hB
    obtain ⟨k,hk,rfl⟩ := pt_of_mem hC
    have m1:i ≠ j := fun e => n1 (by rw [e])
    have m2:i ≠ k := fun e => n2 (by rw [e])
    have m3:j ≠ k := fun e => n3 (by rw [e])
    have fin:∀ i j k,i < j → j < k → k < l.length → AxOf l (pt l i) (pt l j) (pt l k) a → ∃ i j k,i < j ∧ j < k ∧ k < l.length ∧ Sup l i j k ∧ a = triA l i j k := by
      intro i j k h1 h2 h3 h4
      exact ⟨i,j,k,h1,h2,h3,(axOf_tri h (by omega) (by omega) h3 a).1 h4⟩
    rcases Nat.lt_or_gt_of_ne m1 with c1 | c1 <;> rcases Nat.lt_or_gt_of_ne m2 with c2 | c2 <;> rcases Nat.lt_or_gt_of_ne m3 with c3 | c3
    · exact fin i j k c1 c3 hk hx
    · exact fin i k j c2 c3 hj (hx.swap23 h.sm hc hA hB hC)
    · omega
    · exact fin k i j c2 c1 hj ((hx.swap23 h.sm hc hA hB hC).swap12 h.sm hc hA hC hB)
    · exact fin j i k c1 c2 hk (hx.swap12 h.sm hc hA hB hC)
    · omega
    · exact fin j k i c3 c2 hi ((hx.swap12 h.sm hc hA hB hC).swap23 h.sm hc hB hA hC)
    · exact fin k j i c3 c1 hi (((hx.swap12 h.sm hc hA hB hC).swap23 h.sm hc hB hA hC).swap12 h.sm hc hB hC hA)
theorem axOf_mem {l t:List P3} (h:∀ p,p ∈ l ↔ p ∈ t) (A B C a:P3):AxOf l A B C a ↔ AxOf t A B C a := by
  have e:∀ n b,V.sideP l n b = V.sideP t n b := by
    intro n b
    unfold V.sideP
    simp only [h]
  unfold AxOf
  simp only [e]
theorem faces_mem {l t:List P3} (hl:Pts l) (ht:Pts t) (h:∀ p,p ∈ l ↔ p ∈ t) (hc:¬ Copl l) (a:P3):a ∈ (facesP l).1 ↔ a ∈ (facesP t).1 := by
  have hc':¬ Copl t := fun h' => hc ((copl_mem h).2 h')
  rw [faces_ax hl hc,faces_ax ht hc']
  simp only [h,axOf_mem h]
/-! A hull has faces to all sides. -/
theorem least_ratio:∀ (L:List (Int × Int)),L ≠ [] → (∀ x ∈ L,0 ≤ x.1 ∧ 0 < x.2) → ∃ x ∈ L,∀ y ∈ L,x.1 * y.2 ≤ y.1 * x.2
  | [],h,_ => absurd rfl h
  | [x],_,_ => ⟨x,by simp,by simp⟩
  | x :: y :: L,_,hp => by
    obtain ⟨z,hz,hm⟩ := least_ratio (y :: L) (by simp) (fun u hu => hp u (by simp only [List.mem_cons] at hu ⊢; exact .inr hu))
    have px := hp x (by simp)
    have pz := hp z (by simp only [List.mem_cons] at hz ⊢; exact .inr hz)
    by_cases h:x.1 * z.2 ≤ z.1 * x.2
    · refine ⟨x, by simp, fun u hu => ?_⟩
      rcases List.mem_cons.1 hu with rfl | hu
      · exact Int.le_refl _
      · have h1 := hm u hu
        have pu := hp u (by simp only [List.mem_cons] at hu ⊢; exact .inr hu)
        -- x1 u2 ≤ u1 x2
        have a1:x.1 * z.2 * u.2 ≤ z.1 * x.2 * u.2 := Int.mul_le_mul_of_nonneg_right h (by omega)
        have a2:z.1 * u.2 * x.2 ≤ u.1 * z.2 * x.2 := Int.mul_le_mul_of_nonneg_right h1 (by omega)
        have a3:(x.1 * u.2) * z.2 ≤ (u.1 * x.2) * z.2 := by
          have e1:(x.1 * u.2) * z.2 = x.1 * z.2 * u.2 := by grind
          have e2:(u.1 * x.2) * z.2 = u.1 * z.2 * x.2 := by grind
          have e3:z.1 * x.2 * u.2 = z.1 * u.2 * x.2 := by grind
          omega
        exact Int.le_of_mul_le_mul_right a3 pz.2
    · refine ⟨z, by simp only [List.mem_cons] at hz ⊢; exact .inr hz, fun u hu => ?_⟩
      rcases List.mem_cons.1 hu with rfl | hu
      · omega
      · exact hm u hu
def lin (a:Int) (m:P3) (b:Int) (h:P3):P3 := (a * m.1 - b * h.1,a * m.2.1 - b * h.2.1,a * m.2.2 - b * h.2.2)
theorem dt_lin (a b:Int) (m h v:P3):dt3 (lin a m b h) v = a * dt3 m v - b * dt3 h v := by unfold lin dt3; simp only; grind
/-- Turns a plane until it touches one more. -/
theorem rotate {l:List P3} {A m h:P3} (hm:∀ p ∈ l,dt3 m (sub3 p A) ≤ 0) (hh:∃ p ∈ l,0 < dt3 h (sub3 p A)) :
    ∃ B ∈ l,0 < dt3 h (sub3 B A) ∧ ∃ m',(∀ p ∈ l,dt3 m' (sub3 p A) ≤ 0) ∧ dt3 m' (sub3 B A) = 0 ∧ ∀ u,dt3 h u = 0 → dt3 m' u = dt3 h (sub3 B A) * dt3 m u := by
  let L := (l.filter fun p => decide (0 < dt3 h (sub3 p A))).map fun p => (- dt3 m (sub3 p A),dt3 h (sub3 p A))
  have hL:L ≠ [] := by
    obtain ⟨p,hp,h1⟩ := hh
    intro e
    have:(- dt3 m (sub3 p A),dt3 h (sub3 p A)) ∈ L := List.mem_map.2 ⟨p,List.mem_filter.2 ⟨hp,by simpa using h1⟩,rfl⟩
    rw [e] at this; simp at this
  have hpos:∀ x ∈ L,0 ≤ x.1 ∧ 0 < x.2 := by
    intro x hx
    obtain ⟨p,hp,rfl⟩ := List.mem_map.1 hx
    obtain ⟨hp1,hp2⟩ := List.mem_filter.1 hp
    have := hm p hp1
    exact ⟨by simp only; omega,by simpa using hp2⟩
  obtain ⟨x,hx,hmin⟩ := least_ratio L hL hpos
  obtain ⟨B,hB,rfl⟩ := List.mem_map.1 hx
  obtain ⟨hB1,hB2⟩ := List.mem_filter.1 hB
  have hb:0 < dt3 h (sub3 B A) := by simpa using hB2
  refine ⟨B,hB1,hb,lin (dt3 h (sub3 B A)) m (dt3 m (sub3 B A)) h,?_,?_,?_⟩
  · intro p hp
    rw [dt_lin]
    have h1 := hm p hp
    have h2 := hm B hB1
    by_cases hc:0 < dt3 h (sub3 p A)
    · have := hmin _ (List.mem_map.2 ⟨p, List.mem_filter.2 ⟨hp, by simpa using hc⟩, rfl⟩)
      simp only at this
      have e1:- dt3 m (sub3 B A) * dt3 h (sub3 p A) = -(dt3 m (sub3 B A) * dt3 h (sub3 p A)) := Int.neg_mul _ _
      have e2:- dt3 m (sub3 p A) * dt3 h (sub3 B A) = -(dt3 h (sub3 B A) * dt3 m (sub3 p A)) := by rw [Int.neg_mul,Int.mul_comm]
      omega
    · have a1 : 0 ≤ dt3 h (sub3 B A) * -dt3 m (sub3 p A) := Int.mul_nonneg (by omega) (by omega)
      have a2:0 ≤ (-dt3 m (sub3 B A)) * (-dt3 h (sub3 p A)) := Int.mul_nonneg (by omega) (by omega)
      rw [Int.mul_neg] at a1
      rw [Int.neg_mul_neg] at a2
      omega
  · rw [dt_lin,Int.mul_comm (dt3 m (sub3 B A))]; omega
  · intro u hu
    rw [dt_lin,hu,Int.mul_zero,Int.sub_zero]
theorem cr_dt (v d u:P3):dt3 (cr3 v d) u = - dt3 (cr3 v u) d := by unfold cr3 dt3; simp only; grind
theorem dt_self (v d:P3):dt3 (cr3 v d) v = 0 ∧ dt3 (cr3 v d) d = 0 := by unfold cr3 dt3; simp only; grind
/-- To each of six sides. -/
theorem facet {l:List P3} (hp:Pts l) (hc:¬ Copl l) (hl:0 < l.length) (d h1:P3) (hd:dt3 d d = 1) (h10:h1 ≠ (0,0,0)) (h1d:dt3 h1 d = 0) :
    ∃ M,M ≠ (0,0,0) ∧ Sm M 34359738368 ∧ dt3 M d < 0 ∧ shortP M ∈ (facesP l).1 := by
  -- the point farthest back
  obtain ⟨x,hx,hmin⟩:∃ A ∈ l,∀ p ∈ l,dt3 d A ≤ dt3 d p := by
    have:∀ (l:List P3),0 < l.length → ∃ A ∈ l,∀ p ∈ l,dt3 d A ≤ dt3 d p := by
      intro l
      induction l with
      | nil => intro h; simp at h
      | cons q l ih =>
        intro _
        cases l with
        | nil => exact ⟨q,by simp,by simp⟩
        | cons r l =>
          obtain ⟨A,hA,hm⟩ := ih (by simp)
          by_cases c:dt3 d q ≤ dt3 d A
          · refine ⟨q, by simp, fun p hp => ?_⟩
            rcases List.mem_cons.1 hp with rfl | hp
            · exact Int.le_refl _
            · exact Int.le_trans c (hm p hp)
          · refine ⟨A, by simp only [List.mem_cons] at hA ⊢; exact .inr hA, fun p hp => ?_⟩
            rcases List.mem_cons.1 hp with rfl | hp
            · omega
            · exact hm p hp
    exact this l hl
  have hm0:∀ p ∈ l,dt3 (negT d) (sub3 p x) ≤ 0 := by
    intro p hp
    have := hmin p hp
    rw [dt_neg,dt_sub]; omega
  -- one of two opposite ways has somebody ahead
  have pos:∀ h:P3,h ≠ (0,0,0) → ∃ g:P3,(g = h ∨ g = negT h) ∧ ∃ p ∈ l,0 < dt3 g (sub3 p x) := by
    intro h h0
    by_cases c:∃ p ∈ l,0 < dt3 h (sub3 p x)
    · exact ⟨h,.inl rfl,c⟩
    · by_cases c2 : ∃ p ∈ l, 0 < dt3 (negT h) (sub3 p x)
      · exact ⟨negT h,.inr rfl,c2⟩
      · refine (not_all hp.sm hc h0 (a := x) fun p hp => ?_).elim
        have q1:¬ 0 < dt3 h (sub3 p x) := fun q => c ⟨p,hp,q⟩
        have q2:¬ 0 < dt3 (negT h) (sub3 p x) := fun q => c2 ⟨p,hp,q⟩
        rw [dt_neg] at q2
        omega
  have perp:∀ {g h u:P3},(g = h ∨ g = negT h) → dt3 h u = 0 → dt3 g u = 0 := by
    rintro g h u (rfl | rfl) hu
    · exact hu
    · rw [dt_neg,hu]; rfl
  obtain ⟨g1,hg1,hq1⟩ := pos h1 h10
  obtain ⟨B,hB,hb,m1,a1,a2,a3⟩ := rotate hm0 hq1
  have hd1:dt3 m1 d < 0 := by
    rw [a3 d (perp hg1 h1d),dt_neg,hd]
    omega
  have hBx:sub3 B x ≠ (0,0,0) := by
    intro e
    rw [e] at hb
    simp [dt3] at hb
  have h20:cr3 (sub3 B x) d ≠ (0,0,0) := by
    intro e
    -- then d is along B - x, and m1 would not see d
    have e1:∀ c:P3,cr3 (sub3 B x) d = (0,0,0) → dt3 m1 d * (sub3 B x).1 = dt3 m1 (sub3 B x) * d.1 ∧ dt3 m1 d * (sub3 B x).2.1 = dt3 m1 (sub3 B x) * d.2.1 ∧ dt3 m1 d * (sub3 B x).2.2 = dt3 m1 (sub3 B x) * d.2.2 := by
      intro _ e
      generalize sub3 B x = v at *
      rw [zero3] at e
      simp only [cr3] at e
      obtain ⟨f1,f2,f3⟩ := e
      unfold dt3
      refine ⟨?_,?_,?_⟩ <;> grind
    obtain ⟨f1,f2,f3⟩ := e1 d e
    rw [a2,Int.zero_mul] at f1 f2 f3
    apply hBx
    rw [zero3]
    refine ⟨(Int.mul_eq_zero.1 f1).resolve_left (by omega),(Int.mul_eq_zero.1 f2).resolve_left (by omega),(Int.mul_eq_zero.1 f3).resolve_left (by omega)⟩
  obtain ⟨g2,hg2,hq2⟩ := pos _ h20
  obtain ⟨C,hC,hcc,m2,b1,b2,b3⟩ := rotate a1 hq2
  have hd2:dt3 m2 d < 0 := by
    rw [b3 d (perp hg2 (dt_self _ _).2)]
    exact Int.mul_neg_of_pos_of_neg hcc hd1
  have hB2:dt3 m2 (sub3 B x) = 0 := by
    rw [b3 _ (perp hg2 (dt_self _ _).1),a2,Int.mul_zero]
  have hN:nrm x B C ≠ (0,0,0) := by
    intro e
    have e0:dt3 (cr3 (sub3 B x) d) (sub3 C x) = 0 := by
      rw [cr_dt,show cr3 (sub3 B x) (sub3 C x) = (0,0,0) from e]
      simp [dt3]
    have := perp hg2 e0
    omega
  -- m2 is along the triangle's way
  have along:∀ v:P3,dt3 m2 d * dt3 (nrm x B C) v = dt3 (nrm x B C) d * dt3 m2 v := by
    intro v
    unfold nrm
    generalize sub3 B x = p at *
    generalize sub3 C x = q at *
    unfold dt3 cr3 at *
    simp only at *
    grind
  have hsm := nrm_sm (hp.sm x hx) (hp.sm B hB) (hp.sm C hC)
  have hNd:dt3 (nrm x B C) d ≠ 0 := by
    intro e
    apply hN
    have key:∀ v,dt3 (nrm x B C) v = 0 := by
      intro v
      have := along v
      rw [e,Int.zero_mul] at this
      exact (Int.mul_eq_zero.1 this).resolve_left (by omega)
    have k1 := key (1,0,0)
    have k2 := key (0,1,0)
    have k3 := key (0,0,1)
    simp only [dt3,Int.mul_one,Int.mul_zero,Int.add_zero,Int.zero_add] at k1 k2 k3
    exact zero3.2 ⟨k1,k2,k3⟩
  rcases Int.lt_or_gt_of_ne hNd with hlt | hgt
  · -- outward as it stands
    have hside:V.sideP l (nrm x B C) x = 1 := by
      rw [side_one hp.sm hsm hx,if_pos]
      intro p hpm
      have h1 := along (sub3 p x)
      have h2 := b1 p hpm
      have h3:0 ≤ dt3 (nrm x B C) d * dt3 m2 (sub3 p x) := by
        have := Int.mul_nonneg (a := -dt3 (nrm x B C) d) (b := -dt3 m2 (sub3 p x)) (by omega) (by omega)
        rwa [Int.neg_mul_neg] at this
      rw [← h1] at h3
      apply Classical.byContradiction
      intro hn
      have := Int.mul_neg_of_neg_of_pos hd2 (show 0 < dt3 (nrm x B C) (sub3 p x) by omega)
      omega
    refine ⟨nrm x B C,hN,hsm,hlt,?_⟩
    rw [faces_ax hp hc]
    refine ⟨x,hx,B,hB,C,hC,hN,by rw [hside]; decide,?_⟩
    rw [hside,mulP_one hsm]
  · have hall : ∀ p ∈ l, 0 ≤ dt3 (nrm x B C) (sub3 p x) := by
      intro p hpm
      have h1 := along (sub3 p x)
      have h2 := b1 p hpm
      have h3:0 ≤ dt3 (nrm x B C) d * -dt3 m2 (sub3 p x) := Int.mul_nonneg (by omega) (by omega)
      rw [Int.mul_neg,← h1] at h3
      apply Classical.byContradiction
      intro hn
      have := Int.mul_pos_of_neg_of_neg hd2 (show dt3 (nrm x B C) (sub3 p x) < 0 by omega)
      omega
    have hside:V.sideP l (nrm x B C) x = -1 := by
      rw [side_one hp.sm hsm hx,if_neg,if_pos hall]
      intro h
      exact not_all hp.sm hc hN (a := x) fun p hp => by have := h p hp; have := hall p hp; omega
    refine ⟨negT (nrm x B C),negT_ne hN,hsm.neg,by rw [dt_neg]; omega,?_⟩
    rw [faces_ax hp hc]
    refine ⟨x,hx,B,hB,C,hC,hN,by rw [hside]; decide,?_⟩
    rw [hside,mulP_neg hsm]
def SgnLe (p q:P3):Prop := ((p.1 ≤ 0 → q.1 ≤ 0) ∧ (0 ≤ p.1 → 0 ≤ q.1)) ∧ ((p.2.1 ≤ 0 → q.2.1 ≤ 0) ∧ (0 ≤ p.2.1 → 0 ≤ q.2.1)) ∧ ((p.2.2 ≤ 0 → q.2.2 ≤ 0) ∧ (0 ≤ p.2.2 → 0 ≤ q.2.2))
theorem SgnLe.trans {p q r:P3} (h1:SgnLe p q) (h2:SgnLe q r):SgnLe p r := by
  obtain ⟨⟨a1,a2⟩,⟨a3,a4⟩,a5,a6⟩ := h1
  obtain ⟨⟨b1,b2⟩,⟨b3,b4⟩,b5,b6⟩ := h2
  exact ⟨⟨fun h => b1 (a1 h),fun h => b2 (a2 h)⟩,⟨fun h => b3 (a3 h),fun h => b4 (a4 h)⟩,fun h => b5 (a5 h),fun h => b6 (a6 h)⟩
theorem SgnLe.refl (p:P3):SgnLe p p := ⟨⟨id,id⟩,⟨id,id⟩,id,id⟩
theorem tdiv_sgn (x:Int) {n:Int} (hn:0 ≤ n):(x ≤ 0 → x.tdiv n ≤ 0) ∧ (0 ≤ x → 0 ≤ x.tdiv n) := by
  refine ⟨fun h => ?_,fun h => Int.tdiv_nonneg h hn⟩
  have h1 := Int.tdiv_nonneg (a := -x) (b := n) (by omega) hn
  rw [Int.neg_tdiv] at h1
  omega
theorem divP_sgn (p:P3) {n:Int} (hn:0 ≤ n):SgnLe p (divP p n) := ⟨tdiv_sgn _ hn,tdiv_sgn _ hn,tdiv_sgn _ hn⟩
theorem shrink_sgn:∀ (n:Nat) (p:P3),SgnLe p (shrinkP n p)
  | 0,p => SgnLe.refl p
  | n + 1,p => by
    simp only [shrinkP]
    split
    · exact (divP_sgn p (by omega)).trans (shrink_sgn n _)
    · exact SgnLe.refl p
theorem short_sgn (p:P3):SgnLe p (shortP p) := by
  unfold shortP
  split
  · exact ⟨⟨fun _ => Int.le_refl _,fun _ => Int.le_refl _⟩,⟨fun _ => Int.le_refl _,fun _ => Int.le_refl _⟩,fun _ => Int.le_refl _,fun _ => Int.le_refl _⟩
  · exact ((divP_sgn p (Int.natCast_nonneg _)).trans (shrink_sgn 64 _)).trans (divP_sgn _ (Int.natCast_nonneg _))
theorem two_axes {l:List P3} (hp:Pts l) (hc:¬ Copl l) (hl:0 < l.length):2 ≤ (facesP l).1.length := by
  obtain ⟨M1,_,_,d1,f1⟩ := facet hp hc hl (1,0,0) (0,1,0) (by decide) (by decide) (by decide)
  obtain ⟨M2,_,_,d2,f2⟩ := facet hp hc hl (-1,0,0) (0,1,0) (by decide) (by decide) (by decide)
  obtain ⟨M3,_,_,d3,f3⟩ := facet hp hc hl (0,1,0) (0,0,1) (by decide) (by decide) (by decide)
  obtain ⟨M4,_,_,d4,f4⟩ := facet hp hc hl (0,-1,0) (0,0,1) (by decide) (by decide) (by decide)
  obtain ⟨M5,_,_,d5,f5⟩ := facet hp hc hl (0,0,1) (1,0,0) (by decide) (by decide) (by decide)
  obtain ⟨M6,_,_,d6,f6⟩ := facet hp hc hl (0,0,-1) (1,0,0) (by decide) (by decide) (by decide)
  apply Classical.byContradiction
  intro hlen
  obtain ⟨a,ha⟩:∃ a,(facesP l).1 = [a] := by
    match h:(facesP l).1 with
    | [] => rw [h] at f1; simp at f1
    | [a] => exact ⟨a,rfl⟩
    | _ :: _ :: _ => rw [h] at hlen; simp at hlen
  have hne := ((faces_tidy hp).2.1 a (by rw [ha]; simp)).1
  rw [ha] at f1 f2 f3 f4 f5 f6
  simp only [List.mem_singleton] at f1 f2 f3 f4 f5 f6
  have s1 := (short_sgn M1).1.1
  have s2 := (short_sgn M2).1.2
  have s3 := (short_sgn M3).2.1.1
  have s4 := (short_sgn M4).2.1.2
  have s5 := (short_sgn M5).2.2.1
  have s6 := (short_sgn M6).2.2.2
  rw [f1] at s1; rw [f2] at s2; rw [f3] at s3; rw [f4] at s4; rw [f5] at s5; rw [f6] at s6
  simp only [dt3,Int.mul_one,Int.mul_zero,Int.add_zero,Int.zero_add,Int.mul_neg] at d1 d2 d3 d4 d5 d6
  apply hne
  rw [zero3]
  exact ⟨by have := s1 (by omega); have := s2 (by omega); omega,by have := s3 (by omega); have := s4 (by omega); omega,by have := s5 (by omega); have := s6 (by omega); omega⟩
end Go.Proofs.Ytlagndfhibkjpaa.Sx
end

section
/- the document's shapes: whether they may be. -/
namespace Go.Proofs.Ytlagndfhibkjpaa.Sx
open Go
set_option maxRecDepth 20000
set_option linter.unusedVariables false
set_option linter.unusedSimpArgs false
/-! Loops that look for something. -/
noncomputable def exB (p:Prop):Bool := @decide p (Classical.propDecidable p)
theorem exB_iff {p:Prop}:exB p = true ↔ p := by unfold exB; exact @decide_eq_true_iff p (Classical.propDecidable p)
theorem exB_true {p:Prop} (h:p):exB p = true := exB_iff.2 h
theorem exB_false {p:Prop} (h:¬ p):exB p = false := by rw [Bool.eq_false_iff]; exact fun h' => h (exB_iff.1 h')
theorem if_exB {c p:Prop} [Decidable c] (h:c ↔ p) {τ:Type} (a b:τ):(if c then a else b) = if exB p = true then a else b := by
  by_cases hc:c
  · rw [if_pos hc,if_pos (exB_true (h.1 hc))]
  · rw [if_neg hc,if_neg (by rw [exB_false fun hp => hc (h.2 hp)]; decide)]
theorem scan {α:Type} (F:Nat → Int → Option α) (n:Nat) (bad:Nat → Prop) (k0 k2:Option α)
    (hstep:∀ f i,i < n → F (f + 1) (i:Int) = if exB (bad i) = true then k0 else F f ((i + 1:Nat):Int)) (hend:∀ f,F (f + 1) (n:Int) = k2) :
    ∀ fuel i,i ≤ n → n - i < fuel → F fuel (i:Int) = if exB (∃ j,i ≤ j ∧ j < n ∧ bad j) = true then k0 else k2
  | 0,i,h1,h2 => by omega
  | f + 1,i,h1,h2 => by
    by_cases hi:i < n
    · rw [hstep f i hi]
      by_cases hb:bad i
      · rw [if_pos (exB_true hb),if_pos (exB_true ⟨i,Nat.le_refl _,hi,hb⟩)]
      · rw [if_neg (by rw [exB_false hb]; decide), scan F n bad k0 k2 hstep hend f (i + 1) (by omega) (by omega)]
        have e:exB (∃ j,i + 1 ≤ j ∧ j < n ∧ bad j) = exB (∃ j,i ≤ j ∧ j < n ∧ bad j) := by
          congr 1
          apply propext
          constructor
          · rintro ⟨j,a,b,c⟩; exact ⟨j,by omega,b,c⟩
          · rintro ⟨j, a, b, c⟩
            by_cases e:j = i
            · subst e; exact absurd c hb
            · exact ⟨j,by omega,b,c⟩
        rw [e]
    · have : i = n := by omega
      subst this
      rw [hend f,if_neg]
      rw [exB_false]
      · decide
      · rintro ⟨j,a,b,_⟩; omega
noncomputable def _root_.Go.Proofs.Ytlagndfhibkjpaa.M.dwithin {α:Type} (ax:Int) (ay:Int) (az:Int) (lo:Int) (hi:Int) (k0:Bool → Option α):Option α := if V.shwithin_r0 ax lo hi = true then if V.shwithin_r0 ay lo hi = true then k0 (V.shwithin_r0 az lo hi) else k0 false else k0 false
theorem dwithin_eq {α:Type} (ax:Int) (ay:Int) (az:Int) (lo:Int) (hi:Int) (Q:SV → Hp → Option α):callI E look_dshort (exec E look_dshort noLps 400) 85 ([SV.agg [SV.int .i64 ax,SV.int .i64 ay,SV.int .i64 az],SV.int .i64 lo,SV.int .i64 hi]) ([]) Q = M.dwithin ax ay az lo hi (fun (x0:Bool) => Q (SV.bool x0) ([])) := by kernel_rfl
def dwithin_sp:List AS := [.val (.agg [.int .i64 0,.int .i64 0,.int .i64 0]),.val (.int .i64 0),.val (.int .i64 0)]
noncomputable def _root_.Go.Proofs.Ytlagndfhibkjpaa.V.dwithin_r0 (ax:Int) (ay:Int) (az:Int) (lo:Int) (hi:Int):Bool := if V.shwithin_r0 ax lo hi = true then if V.shwithin_r0 ay lo hi = true then V.shwithin_r0 az lo hi else false else false
theorem dwithin_val {α:Type} (ax:Int) (ay:Int) (az:Int) (lo:Int) (hi:Int) (k0:Bool → Option α):M.dwithin ax ay az lo hi k0 = k0 (V.dwithin_r0 ax ay az lo hi) := by
  unfold M.dwithin V.dwithin_r0
  repeat' first | rfl | (split <;> rename_i h <;> first | simp only [if_pos h] | simp only [if_neg h] | skip)
noncomputable def dwithin_c {α:Type} (ds:List D) (Q:SV → Hp → Option α):Option α :=
  dI ds fun ax ds => dI ds fun ay ds => dI ds fun az ds => dI ds fun lo ds => dI ds fun hi ds => dE ds (Q (SV.bool (V.dwithin_r0 ax ay az lo hi)) ([]))
theorem dwithin_c_ok {α:Type}:FnOk E.P 85 (fEnt (α := α) dwithin_sp dwithin_c) :=
  fEnt_ok E (look_dshort_ok) (exec_sound E E_ok (look_dshort_ok) (noLps_ok _) 400) fun ds Q r h => by
    unfold dwithin_c at h
    obtain ⟨ax,ds,rfl,h1⟩ := dI_inv h
    obtain ⟨ay,ds,rfl,h2⟩ := dI_inv h1
    obtain ⟨az,ds,rfl,h3⟩ := dI_inv h2
    obtain ⟨lo,ds,rfl,h4⟩ := dI_inv h3
    obtain ⟨hi,ds,rfl,h5⟩ := dI_inv h4
    obtain ⟨rfl,hE⟩ := dE_inv h5
    exact ⟨[SV.agg [SV.int .i64 ax,SV.int .i64 ay,SV.int .i64 az],SV.int .i64 lo,SV.int .i64 hi],[],fun vs => by kernel_rfl,(dwithin_eq ax ay az lo hi Q).trans ((dwithin_val ax ay az lo hi (fun (x0:Bool) => Q (SV.bool x0) ([]))).trans hE)⟩
noncomputable def dwithin_go {α:Type} (ds:List D) (Q:SV → Hp → Option α):Option α :=
  dI ds fun ax ds => dI ds fun ay ds => dI ds fun az ds => dI ds fun lo ds => dI ds fun hi ds => dE ds (M.dwithin ax ay az lo hi (fun (x0:Bool) => Q (SV.bool x0) ([])))
theorem dwithin_ok {α:Type}:FnOk E.P 85 (fEnt (α := α) dwithin_sp dwithin_go) :=
  fEnt_ok E (look_dshort_ok) (exec_sound E E_ok (look_dshort_ok) (noLps_ok _) 400) fun ds Q r h => by
    unfold dwithin_go at h
    obtain ⟨ax,ds,rfl,h1⟩ := dI_inv h
    obtain ⟨ay,ds,rfl,h2⟩ := dI_inv h1
    obtain ⟨az,ds,rfl,h3⟩ := dI_inv h2
    obtain ⟨lo,ds,rfl,h4⟩ := dI_inv h3
    obtain ⟨hi,ds,rfl,h5⟩ := dI_inv h4
    obtain ⟨rfl,hE⟩ := dE_inv h5
    exact ⟨[SV.agg [SV.int .i64 ax,SV.int .i64 ay,SV.int .i64 az],SV.int .i64 lo,SV.int .i64 hi],[],fun vs => by kernel_rfl,(dwithin_eq ax ay az lo hi Q).trans hE⟩
noncomputable def look_dwithin {α:Type}:LookF α := addFn 85 (fEnt dwithin_sp dwithin_c) look_dshort
theorem look_dwithin_ok {α:Type}:LookOk E.P (look_dwithin (α := α)) := addFn_ok dwithin_c_ok (look_dshort_ok)
noncomputable abbrev dform_S1 (y1 y2 y3 y4 y5 y6 y7:Int) (y8:Value) (y9:L3):St := St.mk (none :: some (SV.ptr (nat_lit 0) (nat_lit 0)) :: none :: none :: some (SV.int .i64 y1) :: none :: some (SV.int .i64 y2) :: nn 73 ([])) [.cells [SV.int .i64 y3,SV.int .i64 y4,SV.int .i64 y5,SV.int .i64 y6,SV.int .i64 y7,SV.ros y8 kP y9] (nat_lit 33)]
noncomputable abbrev dform_S2 (y1 y2 y3 y4 y5 y6:Int) (y7:Value) (y8:L3):St := St.mk (none :: some (SV.ptr (nat_lit 0) (nat_lit 0)) :: some (SV.bool false) :: none :: some (SV.int .i64 y1) :: nn 75 ([])) [.cells [SV.int .i64 y2,SV.int .i64 y3,SV.int .i64 y4,SV.int .i64 y5,SV.int .i64 y6,SV.ros y7 kP y8] (nat_lit 33)]
noncomputable abbrev dform_S3 (y1 y2 y3 y4 y5 y6:Int) (y7:Value) (y8:L3):St := St.mk (none :: some (SV.ptr (nat_lit 0) (nat_lit 0)) :: none :: none :: some (SV.int .i64 y1) :: nn 75 ([])) [.cells [SV.int .i64 y2,SV.int .i64 y3,SV.int .i64 y4,SV.int .i64 y5,SV.int .i64 y6,SV.ros y7 kP y8] (nat_lit 33)]
noncomputable abbrev dform_S4:St := St.mk (none :: some (SV.ptr (nat_lit 0) (nat_lit 0)) :: none :: none :: some (SV.int .i64 (0:Int)) :: none :: some (SV.int .i64 (0:Int)) :: nn 73 ([])) [.cells [SV.int .i64 (0:Int),SV.int .i64 (0:Int),SV.int .i64 (0:Int),SV.int .i64 (0:Int),SV.int .i64 (0:Int),SV.ros undef kP []] (nat_lit 33)]
noncomputable abbrev dform_S5:St := St.mk (none :: some (SV.ptr (nat_lit 0) (nat_lit 0)) :: none :: none :: some (SV.int .i64 (0:Int)) :: nn 75 ([])) [.cells [SV.int .i64 (0:Int),SV.int .i64 (0:Int),SV.int .i64 (0:Int),SV.int .i64 (0:Int),SV.int .i64 (0:Int),SV.ros undef kP []] (nat_lit 33)]
abbrev dform_P1:List Bool := [false,true,true,true,false,false,true,false,false,true,false,true,false,true,true,true,true,true,true,true,false,true,false,true]
abbrev dform_P2:List Bool := [false,true,false,true,false,true,true,true,true,true,true,true,false,true,false,true]
noncomputable def _root_.Go.Proofs.Ytlagndfhibkjpaa.M.dform_l0_step {α:Type} (x27:Int) (x35:L3) (kn:Int → Option α) (k0:Option α) (k2:Option α) (x28:Int):Option α := if cLt x28 x27 = true then if (0:Int) ≤ x28 ∧ x28 < (↑(List.length x35):Int) then if (0:Int) ≤ x27 ∧ x27 < (↑(List.length x35):Int) then if (cEq (Prod.fst (List.getD x35 (Int.toNat x28) ((0:Int),(0:Int),(0:Int)))) (Prod.fst (List.getD x35 (Int.toNat x27) ((0:Int),(0:Int),(0:Int)))) && (cEq (Prod.fst (Prod.snd (List.getD x35 (Int.toNat x28) ((0:Int),(0:Int),(0:Int))))) (Prod.fst (Prod.snd (List.getD x35 (Int.toNat x27) ((0:Int),(0:Int),(0:Int))))) && (cEq (Prod.snd (Prod.snd (List.getD x35 (Int.toNat x28) ((0:Int),(0:Int),(0:Int))))) (Prod.snd (Prod.snd (List.getD x35 (Int.toNat x27) ((0:Int),(0:Int),(0:Int))))) && true))) = true then k0 else kn (IntKind.wrap .i64 (x28 + (1:Int))) else none else none else k2
noncomputable def _root_.Go.Proofs.Ytlagndfhibkjpaa.M.dform_l0 {α:Type} (x27:Int) (x35:L3) (k0:Option α) (k2:Option α):Nat → Int → Option α
  | 0,_ => none
  | n + 1,x28 => M.dform_l0_step x27 x35 (M.dform_l0 x27 x35 k0 k2 n) k0 k2 x28
theorem dform_l0_step_eq {α:Type} (x27 x28 x29 x30 x31 x32 x33:Int) (x34:Value) (x35:L3) (Q:Ex → St → Option α):(loopStep E (exec E look_dwithin noLps 400) 56 dform_P1 0 (codeAt E.P 56 dform_P1)) (dform_S1 x27 x28 x29 x30 x31 x32 x33 x34 x35) Q = M.dform_l0_step x27 x35 (fun (x36:Int) => Q .normal (dform_S1 x27 x36 x29 x30 x31 x32 x33 x34 x35)) (Q .ret (dform_S2 x27 x29 x30 x31 x32 x33 x34 x35)) (Q (.exit 3) (dform_S3 x27 x29 x30 x31 x32 x33 x34 x35)) x28 := by kernel_rfl
theorem dform_l0_iter {α:Type} (x27 x29 x30 x31 x32 x33:Int) (x34:Value) (x35:L3) (Q:Ex → St → Option α):∀ (n:Nat) (x28:Int),iter (loopStep E (exec E look_dwithin noLps 400) 56 dform_P1 0 (codeAt E.P 56 dform_P1)) n (dform_S1 x27 x28 x29 x30 x31 x32 x33 x34 x35) Q = M.dform_l0 x27 x35 (Q .ret (dform_S2 x27 x29 x30 x31 x32 x33 x34 x35)) (Q (.exit 3) (dform_S3 x27 x29 x30 x31 x32 x33 x34 x35)) n x28
  | 0,_ => rfl
  | n + 1,x28 => (dform_l0_step_eq x27 x28 x29 x30 x31 x32 x33 x34 x35 (iterK (loopStep E (exec E look_dwithin noLps 400) 56 dform_P1 0 (codeAt E.P 56 dform_P1)) n Q)).trans (congrArg (fun kn => M.dform_l0_step x27 x35 kn (Q .ret (dform_S2 x27 x29 x30 x31 x32 x33 x34 x35)) (Q (.exit 3) (dform_S3 x27 x29 x30 x31 x32 x33 x34 x35)) x28) (funext fun x28 => dform_l0_iter x27 x29 x30 x31 x32 x33 x34 x35 Q n x28))
noncomputable def dform_l0_go {α:Type} (ds:List D) (Q:Ex → St → Option α):Option α :=
  dI ds fun x27 ds => dI ds fun x28 ds => dI ds fun x29 ds => dI ds fun x30 ds => dI ds fun x31 ds => dI ds fun x32 ds => dI ds fun x33 ds => dV ds fun x34 ds => dL kP ds fun x35 ds => dE ds (M.dform_l0 x27 x35 (Q .ret (dform_S2 x27 x29 x30 x31 x32 x33 x34 x35)) (Q (.exit 3) (dform_S3 x27 x29 x30 x31 x32 x33 x34 x35)) (100 + x35.length) x28)
theorem dform_l0_ok {α:Type}:LoopOk E.P 56 dform_P1 0 (lEnt (α := α) (dform_S4) dform_l0_go) :=
  lEnt_ok E (exec_sound E E_ok (look_dwithin_ok) (noLps_ok _) 400) fun ds Q r h S hS => by
    unfold dform_l0_go at h
    obtain ⟨x27,ds,rfl,h1⟩ := dI_inv h
    obtain ⟨x28,ds,rfl,h2⟩ := dI_inv h1
    obtain ⟨x29,ds,rfl,h3⟩ := dI_inv h2
    obtain ⟨x30,ds,rfl,h4⟩ := dI_inv h3
    obtain ⟨x31,ds,rfl,h5⟩ := dI_inv h4
    obtain ⟨x32,ds,rfl,h6⟩ := dI_inv h5
    obtain ⟨x33,ds,rfl,h7⟩ := dI_inv h6
    obtain ⟨x34,ds,rfl,h8⟩ := dV_inv h7
    obtain ⟨x35,ds,rfl,h9⟩ := dL_inv h8
    obtain ⟨rfl,hE⟩ := dE_inv h9
    have e:fillS (dform_S4) [.i x27,.i x28,.i x29,.i x30,.i x31,.i x32,.i x33,.v x34,.l kP x35] = some (dform_S1 x27 x28 x29 x30 x31 x32 x33 x34 x35) := by kernel_rfl
    rw [e] at hS
    cases hS
    exact ⟨_,(dform_l0_iter x27 x29 x30 x31 x32 x33 x34 x35 Q _ x28).trans hE⟩
noncomputable def dform_l0_lps {α:Type}:LookL α := addLp 56 dform_P1 0 (lEnt (dform_S4) dform_l0_go) noLps
theorem dform_l0_lps_ok {α:Type}:LoopsOk E.P (dform_l0_lps (α := α)) := addLp_ok dform_l0_ok (noLps_ok _)

noncomputable def _root_.Go.Proofs.Ytlagndfhibkjpaa.M.dform_l1_step {α:Type} (x44:L3) (kn:Int → Option α) (k0:Option α) (k2:Option α) (x37:Int):Option α := if cLt x37 (↑(List.length x44):Int) = true then if (0:Int) ≤ x37 ∧ x37 < (↑(List.length x44):Int) then if (!V.dwithin_r0 (Prod.fst (List.getD x44 (Int.toNat x37) ((0:Int),(0:Int),(0:Int)))) (Prod.fst (Prod.snd (List.getD x44 (Int.toNat x37) ((0:Int),(0:Int),(0:Int))))) (Prod.snd (Prod.snd (List.getD x44 (Int.toNat x37) ((0:Int),(0:Int),(0:Int))))) (-65536:Int) (65536:Int)) = true then k0 else M.dform_l0 x37 x44 k0 (kn (IntKind.wrap .i64 (x37 + (1:Int)))) ((100:Nat) + List.length x44) (0:Int) else none else k2
noncomputable def _root_.Go.Proofs.Ytlagndfhibkjpaa.M.dform_l1 {α:Type} (x44:L3) (k0:Option α) (k2:Option α):Nat → Int → Option α
  | 0,_ => none
  | n + 1,x37 => M.dform_l1_step x44 (M.dform_l1 x44 k0 k2 n) k0 k2 x37
theorem dform_l1_step_eq {α:Type} (x37 x38 x39 x40 x41 x42:Int) (x43:Value) (x44:L3) (Q:Ex → St → Option α):(loopStep E (exec E look_dwithin dform_l0_lps 400) 56 dform_P2 0 (codeAt E.P 56 dform_P2)) (dform_S3 x37 x38 x39 x40 x41 x42 x43 x44) Q = M.dform_l1_step x44 (fun (x45:Int) => Q .normal (dform_S3 x45 x38 x39 x40 x41 x42 x43 x44)) (Q .ret (St.mk (none :: none :: some (SV.bool false) :: nn 77 ([]))
  [])) (Q (.exit 1) (St.mk (nn 80 ([])) [])) x37 := by kernel_rfl
theorem dform_l1_iter {α:Type} (x38 x39 x40 x41 x42:Int) (x43:Value) (x44:L3) (Q:Ex → St → Option α):∀ (n:Nat) (x37:Int),iter (loopStep E (exec E look_dwithin dform_l0_lps 400) 56 dform_P2 0 (codeAt E.P 56 dform_P2)) n (dform_S3 x37 x38 x39 x40 x41 x42 x43 x44) Q = M.dform_l1 x44 (Q .ret (St.mk (none :: none :: some (SV.bool false) :: nn 77 ([]))
  [])) (Q (.exit 1) (St.mk (nn 80 ([])) [])) n x37
  | 0,_ => rfl
  | n + 1,x37 => (dform_l1_step_eq x37 x38 x39 x40 x41 x42 x43 x44 (iterK (loopStep E (exec E look_dwithin dform_l0_lps 400) 56 dform_P2 0 (codeAt E.P 56 dform_P2)) n Q)).trans (congrArg (fun kn => M.dform_l1_step x44 kn (Q .ret (St.mk (none :: none :: some (SV.bool false) :: nn 77 ([]))
  [])) (Q (.exit 1) (St.mk (nn 80 ([])) [])) x37) (funext fun x37 => dform_l1_iter x38 x39 x40 x41 x42 x43 x44 Q n x37))
noncomputable def dform_l1_go {α:Type} (ds:List D) (Q:Ex → St → Option α):Option α :=
  dI ds fun x37 ds => dI ds fun x38 ds => dI ds fun x39 ds => dI ds fun x40 ds => dI ds fun x41 ds => dI ds fun x42 ds => dV ds fun x43 ds => dL kP ds fun x44 ds => dE ds (M.dform_l1 x44 (Q .ret (St.mk (none :: none :: some (SV.bool false) :: nn 77 ([]))
  [])) (Q (.exit 1) (St.mk (nn 80 ([])) [])) (100 + x44.length) x37)
theorem dform_l1_ok {α:Type}:LoopOk E.P 56 dform_P2 0 (lEnt (α := α) (dform_S5) dform_l1_go) :=
  lEnt_ok E (exec_sound E E_ok (look_dwithin_ok) (dform_l0_lps_ok) 400) fun ds Q r h S hS => by
    unfold dform_l1_go at h
    obtain ⟨x37,ds,rfl,h1⟩ := dI_inv h
    obtain ⟨x38,ds,rfl,h2⟩ := dI_inv h1
    obtain ⟨x39,ds,rfl,h3⟩ := dI_inv h2
    obtain ⟨x40,ds,rfl,h4⟩ := dI_inv h3
    obtain ⟨x41,ds,rfl,h5⟩ := dI_inv h4
    obtain ⟨x42,ds,rfl,h6⟩ := dI_inv h5
    obtain ⟨x43,ds,rfl,h7⟩ := dV_inv h6
    obtain ⟨x44,ds,rfl,h8⟩ := dL_inv h7
    obtain ⟨rfl,hE⟩ := dE_inv h8
    have e:fillS (dform_S5) [.i x37,.i x38,.i x39,.i x40,.i x41,.i x42,.v x43,.l kP x44] = some (dform_S3 x37 x38 x39 x40 x41 x42 x43 x44) := by kernel_rfl
    rw [e] at hS
    cases hS
    exact ⟨_,(dform_l1_iter x38 x39 x40 x41 x42 x43 x44 Q _ x37).trans hE⟩
noncomputable def dform_l1_lps {α:Type}:LookL α := addLp 56 dform_P2 0 (lEnt (dform_S5) dform_l1_go) dform_l0_lps
theorem dform_l1_lps_ok {α:Type}:LoopsOk E.P (dform_l1_lps (α := α)) := addLp_ok dform_l1_ok (dform_l0_lps_ok)

noncomputable def _root_.Go.Proofs.Ytlagndfhibkjpaa.M.dform {α:Type} (k:Int) (r:Int) (hx:Int) (hy:Int) (hz:Int) (l:L3) (k0:Bool → Option α):Option α := if cEq k (1:Int) = true then k0 (V.shwithin_r0 r (1:Int) (16384:Int)) else if cEq k (2:Int) = true then if V.shwithin_r0 r (1:Int) (16384:Int) = true then k0 (V.shwithin_r0 hx (1:Int) (65536:Int)) else k0 false else if cEq k (3:Int) = true then if V.shwithin_r0 r (0:Int) (16384:Int) = true then k0 (V.dwithin_r0 hx hy hz (1:Int) (65536:Int)) else k0 false else if cEq k (4:Int) = true then if (!V.shwithin_r0 r (0:Int) (16384:Int)) = true then k0 false else if (!V.shwithin_r0 (↑(List.length l):Int) (4:Int) (12:Int)) = true then k0 false else M.dform_l1 l (k0 false) (k0 true) ((100:Nat) + List.length l) (0:Int) else k0 false
theorem dform_eq {α:Type} (k:Int) (r:Int) (hx:Int) (hy:Int) (hz:Int) (l:L3) (v46:Value) (Q:SV → Hp → Option α):callI E look_dwithin (exec E look_dwithin dform_l1_lps 400) 56 ([SV.agg [SV.int .i64 k,SV.int .i64 r,SV.int .i64 hx,SV.int .i64 hy,SV.int .i64 hz,SV.ros v46 kP l]]) ([]) Q = M.dform k r hx hy hz l (fun (x47:Bool) => Q (SV.bool x47) ([])) := by kernel_rfl
def dform_sp:List AS := [.st [.leaf (.int .i64 0),.leaf (.int .i64 0),.leaf (.int .i64 0),.leaf (.int .i64 0),.leaf (.int .i64 0),.ro kP]]
theorem dwithin_big (p:P3):V.dwithin_r0 p.1 p.2.1 p.2.2 (-65536) 65536 = !bigP p 65536 := by
  unfold V.dwithin_r0
  simp only [within_eq]
  obtain ⟨x,y,z⟩ := p
  rw [Bool.eq_iff_iff]
  cases a:inZ x (-65536) 65536 <;> cases b:inZ y (-65536) 65536 <;> cases c:inZ z (-65536) 65536 <;> simp [inZ,bigP] at * <;> omega
theorem dwithin_one (x y z:Int):V.dwithin_r0 x y z 1 65536 = (inZ x 1 65536 && inZ y 1 65536 && inZ z 1 65536) := by
  unfold V.dwithin_r0
  simp only [within_eq]
  cases inZ x 1 65536 <;> cases inZ y 1 65536 <;> cases inZ z 1 65536 <;> rfl
theorem dform_l0_val {α:Type} (l:List P3) (hl:l.length ≤ 12) (q:Nat) (hq:q < l.length) (k0 k2:Option α) (fuel:Nat) (hf:12 < fuel) :
    M.dform_l0 (q:Int) l k0 k2 fuel 0 = if exB (∃ j,0 ≤ j ∧ j < q ∧ pt l j = pt l q) = true then k0 else k2 := by
  refine scan (fun f i => M.dform_l0 (q:Int) l k0 k2 f i) q (fun j => pt l j = pt l q) k0 k2 ?_ ?_ fuel 0 (by omega) (by omega)
  · intro f i hi
    show M.dform_l0_step _ _ _ _ _ _ = _
    unfold M.dform_l0_step
    have a:(0:Int) ≤ (i:Int) ∧ (i:Int) < (l.length:Int) := by omega
    have b:(0:Int) ≤ (q:Int) ∧ (q:Int) < (l.length:Int) := by omega
    rw [cLt_nat,if_pos (by simpa using hi),if_pos a,if_pos b,w_next (by omega),eq3]
    exact if_exB (by simp only [toNat_nat,decide_eq_true_eq]; exact Iff.rfl) _ _
  · intro f
    show M.dform_l0_step _ _ _ _ _ _ = _
    unfold M.dform_l0_step
    rw [cLt_nat,if_neg (by simp)]
theorem apartP_iff (l:List P3):V.apartP l = true ↔ ¬ ∃ i,0 ≤ i ∧ i < l.length ∧ (bigP (pt l i) 65536 = true ∨ ∃ j,0 ≤ j ∧ j < i ∧ pt l j = pt l i) := by
  simp only [V.apartP,decide_eq_true_eq]
  constructor
  · rintro ⟨h1, h2⟩ ⟨i, _, hi, h | ⟨j, _, hj, h⟩⟩
    · rw [h1 _ (pt_mem l i hi)] at h; cases h
    · rw [pt_eq l i hi, pt_eq l j (by omega)] at h
      have := (List.getElem_inj h2).1 h
      omega
  · intro h
    refine ⟨fun p hp => ?_,?_⟩
    · obtain ⟨i, hi, rfl⟩ := pt_of_mem hp
      cases hb:bigP (pt l i) 65536 with
      | false => rfl
      | true => exact absurd ⟨i,Nat.zero_le _,hi,.inl hb⟩ h
    · rw [List.Nodup, List.pairwise_iff_getElem]
      intro i j hi hj hij e
      exact h ⟨j,Nat.zero_le _,hj,.inr ⟨i,Nat.zero_le _,hij,by rw [pt_eq l i hi,pt_eq l j hj]; exact e⟩⟩
theorem dform_l1_val {α:Type} (l:List P3) (hl:l.length ≤ 12) (k0 k2:Option α) (fuel:Nat) (hf:12 < fuel) :
    M.dform_l1 l k0 k2 fuel 0 = if V.apartP l = true then k2 else k0 := by
  have h := scan (fun f i => M.dform_l1 l k0 k2 f i) l.length (fun i => bigP (pt l i) 65536 = true ∨ ∃ j,0 ≤ j ∧ j < i ∧ pt l j = pt l i) k0 k2 ?_ ?_ fuel 0 (by omega) (by omega)
  · refine Eq.trans h ?_
    by_cases ha:V.apartP l = true
    · rw [if_pos ha, if_neg]
      rw [exB_false ((apartP_iff l).1 ha)]; decide
    · rw [if_neg ha, if_pos]
      apply exB_true
      exact Classical.byContradiction fun hn => ha ((apartP_iff l).2 hn)
  · intro f i hi
    show M.dform_l1_step _ _ _ _ _ = _
    unfold M.dform_l1_step
    have a:(0:Int) ≤ (i:Int) ∧ (i:Int) < (l.length:Int) := by omega
    rw [cLt_nat,if_pos (by simpa using hi),if_pos a,w_next (by omega),dform_l0_val l hl i hi _ _ _ (by omega)]
    show (if (!V.dwithin_r0 (pt l i).1 (pt l i).2.1 (pt l i).2.2 (-65536) 65536) = true then k0 else _) = _
    rw [dwithin_big,Bool.not_not]
    cases hb:bigP (pt l i) 65536 with
    | true => rw [if_pos rfl,if_pos (exB_true (.inl rfl))]
    | false =>
      rw [if_neg (by decide)]
      congr 2
      apply congrArg
      apply propext
      simp
  · intro f
    show M.dform_l1_step _ _ _ _ _ = _
    unfold M.dform_l1_step
    rw [cLt_nat,if_neg (by simp)]
/-- All but for flat hulls. -/
noncomputable def formP (k r hx hy hz:Int) (l:List P3):Bool :=
  if k = 1 then inZ r 1 16384 else if k = 2 then inZ hx 1 65536 && inZ r 1 16384 else if k = 3 then inZ hx 1 65536 && inZ hy 1 65536 && inZ hz 1 65536 && inZ r 0 16384
  else if k = 4 then inZ (l.length:Int) 4 12 && V.apartP l && inZ r 0 16384 else false
noncomputable def _root_.Go.Proofs.Ytlagndfhibkjpaa.V.form (k r hx hy hz:Int) (l:List P3):Bool := hid (formP k r hx hy hz l)
theorem chk_form (k r hx hy hz:Int) (l:List P3):chkP k r hx hy hz l = if formP k r hx hy hz l = true then (if k = 4 then (if V.flatP l = true then 51 else 0) else 0) else 50 := by
  unfold chkP formP
  by_cases h1:k = 1
  · simp [h1]
  by_cases h2:k = 2
  · simp [h2]
  by_cases h3:k = 3
  · simp [h3]
  by_cases h4:k = 4
  · simp [h4]
  simp [h1,h2,h3,h4]
theorem dform_v {α:Type} (k r hx hy hz:Int) (l:List P3) (k0:Bool → Option α):M.dform k r hx hy hz l k0 = k0 (V.form k r hx hy hz l) := by
  unfold M.dform V.form
  rw [hid_eq]
  unfold formP
  simp only [cEq_eq,beq_iff_eq,within_eq,dwithin_one]
  by_cases k1:k = 1
  · simp only [if_pos k1]
  simp only [if_neg k1]
  by_cases k2:k = 2
  · simp only [if_pos k2]
    cases inZ hx 1 65536 <;> cases inZ r 1 16384 <;> simp
  simp only [if_neg k2]
  by_cases k3:k = 3
  · simp only [if_pos k3]
    cases (inZ hx 1 65536 && inZ hy 1 65536 && inZ hz 1 65536) <;> cases inZ r 0 16384 <;> simp
  simp only [if_neg k3]
  by_cases k4:k = 4
  · simp only [if_pos k4]
    cases h1:inZ r 0 16384 with
    | false => simp
    | true =>
      cases h2:inZ (l.length:Int) 4 12 with
      | false => simp
      | true =>
        have hl:l.length ≤ 12 := by simp [inZ] at h2; omega
        rw [if_neg (by decide),if_neg (by decide),dform_l1_val l hl _ _ _ (by omega)]
        cases V.apartP l <;> simp
  simp [k4]
noncomputable def dform_h {α:Type} (ds:List D) (Q:SV → Hp → Option α):Option α :=
  dI ds fun k ds => dI ds fun r ds => dI ds fun hx ds => dI ds fun hy ds => dI ds fun hz ds => dL kP ds fun l ds => dE ds (Q (.bool (V.form k r hx hy hz l)) ([]))
theorem dform_h_ok {α:Type}:FnOk E.P 56 (fEnt (α := α) dform_sp dform_h) :=
  fEntR_ok E (look_dwithin_ok) (exec_sound E E_ok (look_dwithin_ok) (dform_l1_lps_ok) 400) fun ds Q r h => by
    unfold dform_h at h
    obtain ⟨k,ds,rfl,h1⟩ := dI_inv h
    obtain ⟨r,ds,rfl,h2⟩ := dI_inv h1
    obtain ⟨hx,ds,rfl,h3⟩ := dI_inv h2
    obtain ⟨hy,ds,rfl,h4⟩ := dI_inv h3
    obtain ⟨hz,ds,rfl,h5⟩ := dI_inv h4
    obtain ⟨l,ds,rfl,h6⟩ := dL_inv h5
    obtain ⟨rfl,hE⟩ := dE_inv h6
    exact ⟨_,_,hE,fun vs => ⟨_,_,by kernel_rfl,(dform_eq k r hx hy hz l ((cellsV (vs.headD undef)).tail.tail.tail.tail.tail.headD undef) _).trans (dform_v k r hx hy hz l _)⟩⟩
noncomputable def look_dform {α:Type}:LookF α := addFn 56 (fEnt dform_sp dform_h) look_dwithin
theorem look_dform_ok {α:Type}:LookOk E.P (look_dform (α := α)) := addFn_ok dform_h_ok (look_dwithin_ok)
noncomputable abbrev dflat_S1 (y1:Value) (y2:L3) (y3 y4 y5 y6 y7 y8 y9:Int):St := St.mk (some (SV.ros y1 kP y2) :: none :: none :: some (SV.int .i64 y3) :: some (SV.int .i64 y4) :: some (SV.int .i64 y5) :: some (SV.ptr (nat_lit 0) (nat_lit 0)) :: some (SV.int .i64 y6) :: nn 47 ([])) [.cells [SV.int .i64 y7,SV.int .i64 y8,SV.int .i64 y9] (nat_lit 23)]
noncomputable abbrev dflat_S2 (y1:Value) (y2:L3) (y3 y4 y5:Int):St := St.mk (some (SV.ros y1 kP y2) :: none :: some (SV.bool false) :: some (SV.int .i64 y3) :: some (SV.int .i64 y4) :: some (SV.int .i64 y5) :: nn 49 ([])) []
noncomputable abbrev dflat_S3 (y1:Value) (y2:L3) (y3 y4 y5:Int):St := St.mk (some (SV.ros y1 kP y2) :: none :: none :: some (SV.int .i64 y3) :: some (SV.int .i64 y4) :: some (SV.int .i64 y5) :: nn 49 ([])) []
noncomputable abbrev dflat_S4:St := St.mk (some (SV.ros undef kP []) :: none :: none :: some (SV.int .i64 (0:Int)) :: some (SV.int .i64 (0:Int)) :: some (SV.int .i64 (0:Int)) :: some (SV.ptr (nat_lit 0) (nat_lit 0)) :: some (SV.int .i64 (0:Int)) :: nn 47 ([])) [.cells [SV.int .i64 (0:Int),SV.int .i64 (0:Int),SV.int .i64 (0:Int)] (nat_lit 23)]
noncomputable abbrev dflat_S5 (y1:Value) (y2:L3) (y3 y4:Int):St := St.mk (some (SV.ros y1 kP y2) :: none :: some (SV.bool false) :: some (SV.int .i64 y3) :: some (SV.int .i64 y4) :: nn 50 ([])) []
noncomputable abbrev dflat_S6 (y1:Value) (y2:L3) (y3 y4:Int):St := St.mk (some (SV.ros y1 kP y2) :: none :: none :: some (SV.int .i64 y3) :: some (SV.int .i64 y4) :: nn 50 ([])) []
noncomputable abbrev dflat_S7:St := St.mk (some (SV.ros undef kP []) :: none :: none :: some (SV.int .i64 (0:Int)) :: some (SV.int .i64 (0:Int)) :: some (SV.int .i64 (0:Int)) :: nn 49 ([])) []
noncomputable abbrev dflat_S8 (y1:Value) (y2:L3) (y3:Int):St := St.mk (some (SV.ros y1 kP y2) :: none :: some (SV.bool false) :: some (SV.int .i64 y3) :: nn 51 ([])) []
abbrev dflat_P1:List Bool := [false,true,true,false,false,true,false,false,true,false,false,true,false,false,true,false,false,true,false,false,true,false,true]
abbrev dflat_P2:List Bool := [false,true,false,false,true,false,false,true,false,false,true,false,false,true,false,true]
abbrev dflat_P3:List Bool := [false,true,false,false,true,false,false,true,false,true]
noncomputable def _root_.Go.Proofs.Ytlagndfhibkjpaa.M.dflat_l0_step {α:Type} (x83:L3) (x86 x88 x89 x90:Int) (kn:Int → Option α) (k0:Option α) (k2:Option α) (x87:Int):Option α := if cLt x87 (↑(List.length x83):Int) = true then if (0:Int) ≤ x87 ∧ x87 < (↑(List.length x83):Int) then if (0:Int) ≤ x86 ∧ x86 < (↑(List.length x83):Int) then if (!cEq (V.pDot (x88,x89,x90) (V.pSub (List.getD x83 (Int.toNat x87) ((0:Int),(0:Int),(0:Int))) (List.getD x83 (Int.toNat x86) ((0:Int),(0:Int),(0:Int))))) (0:Int)) = true then k0 else kn (IntKind.wrap .i64 (x87 + (1:Int))) else none else none else k2
noncomputable def _root_.Go.Proofs.Ytlagndfhibkjpaa.M.dflat_l0 {α:Type} (x83:L3) (x86 x88 x89 x90:Int) (k0:Option α) (k2:Option α):Nat → Int → Option α
  | 0,_ => none
  | n + 1,x87 => M.dflat_l0_step x83 x86 x88 x89 x90 (M.dflat_l0 x83 x86 x88 x89 x90 k0 k2 n) k0 k2 x87
theorem dflat_l0_step_eq {α:Type} (x82:Value) (x83:L3) (x84 x85 x86 x87 x88 x89 x90:Int) (Q:Ex → St → Option α):(loopStep E (exec E look_dform noLps 400) 57 dflat_P1 0 (codeAt E.P 57 dflat_P1)) (dflat_S1 x82 x83 x84 x85 x86 x87 x88 x89 x90) Q = M.dflat_l0_step x83 x86 x88 x89 x90 (fun (x91:Int) => Q .normal (dflat_S1 x82 x83 x84 x85 x86 x91 x88 x89 x90)) (Q .ret (dflat_S2 x82 x83 x84 x85 x86)) (Q (.exit 6) (dflat_S3 x82 x83 x84 x85 x86)) x87 := by kernel_rfl
theorem dflat_l0_iter {α:Type} (x82:Value) (x83:L3) (x84 x85 x86 x88 x89 x90:Int) (Q:Ex → St → Option α):∀ (n:Nat) (x87:Int),iter (loopStep E (exec E look_dform noLps 400) 57 dflat_P1 0 (codeAt E.P 57 dflat_P1)) n (dflat_S1 x82 x83 x84 x85 x86 x87 x88 x89 x90) Q = M.dflat_l0 x83 x86 x88 x89 x90 (Q .ret (dflat_S2 x82 x83 x84 x85 x86)) (Q (.exit 6) (dflat_S3 x82 x83 x84 x85 x86)) n x87
  | 0,_ => rfl
  | n + 1,x87 => (dflat_l0_step_eq x82 x83 x84 x85 x86 x87 x88 x89 x90 (iterK (loopStep E (exec E look_dform noLps 400) 57 dflat_P1 0 (codeAt E.P 57 dflat_P1)) n Q)).trans (congrArg (fun kn => M.dflat_l0_step x83 x86 x88 x89 x90 kn (Q .ret (dflat_S2 x82 x83 x84 x85 x86)) (Q (.exit 6) (dflat_S3 x82 x83 x84 x85 x86)) x87) (funext fun x87 => dflat_l0_iter x82 x83 x84 x85 x86 x88 x89 x90 Q n x87))
noncomputable def dflat_l0_go {α:Type} (ds:List D) (Q:Ex → St → Option α):Option α :=
  dV ds fun x82 ds => dL kP ds fun x83 ds => dI ds fun x84 ds => dI ds fun x85 ds => dI ds fun x86 ds => dI ds fun x87 ds => dI ds fun x88 ds => dI ds fun x89 ds => dI ds fun x90 ds => dE ds (M.dflat_l0 x83 x86 x88 x89 x90 (Q .ret (dflat_S2 x82 x83 x84 x85 x86)) (Q (.exit 6) (dflat_S3 x82 x83 x84 x85 x86)) (100 + x83.length) x87)
theorem dflat_l0_ok {α:Type}:LoopOk E.P 57 dflat_P1 0 (lEnt (α := α) (dflat_S4) dflat_l0_go) :=
  lEnt_ok E (exec_sound E E_ok (look_dform_ok) (noLps_ok _) 400) fun ds Q r h S hS => by
    unfold dflat_l0_go at h
    obtain ⟨x82,ds,rfl,h1⟩ := dV_inv h
    obtain ⟨x83,ds,rfl,h2⟩ := dL_inv h1
    obtain ⟨x84,ds,rfl,h3⟩ := dI_inv h2
    obtain ⟨x85,ds,rfl,h4⟩ := dI_inv h3
    obtain ⟨x86,ds,rfl,h5⟩ := dI_inv h4
    obtain ⟨x87,ds,rfl,h6⟩ := dI_inv h5
    obtain ⟨x88,ds,rfl,h7⟩ := dI_inv h6
    obtain ⟨x89,ds,rfl,h8⟩ := dI_inv h7
    obtain ⟨x90,ds,rfl,h9⟩ := dI_inv h8
    obtain ⟨rfl,hE⟩ := dE_inv h9
    have e:fillS (dflat_S4) [.v x82,.l kP x83,.i x84,.i x85,.i x86,.i x87,.i x88,.i x89,.i x90] = some (dflat_S1 x82 x83 x84 x85 x86 x87 x88 x89 x90) := by kernel_rfl
    rw [e] at hS
    cases hS
    exact ⟨_,(dflat_l0_iter x82 x83 x84 x85 x86 x88 x89 x90 Q _ x87).trans hE⟩
noncomputable def dflat_l0_lps {α:Type}:LookL α := addLp 57 dflat_P1 0 (lEnt (dflat_S4) dflat_l0_go) noLps
theorem dflat_l0_lps_ok {α:Type}:LoopsOk E.P (dflat_l0_lps (α := α)) := addLp_ok dflat_l0_ok (noLps_ok _)

noncomputable def _root_.Go.Proofs.Ytlagndfhibkjpaa.M.dflat_l1_step {α:Type} (x93:L3) (x94 x95:Int) (kn:Int → Option α) (k0:Option α) (k2:Option α) (x96:Int):Option α := if cLt x96 x95 = true then if (0:Int) ≤ x96 ∧ x96 < (↑(List.length x93):Int) then if (0:Int) ≤ x95 ∧ x95 < (↑(List.length x93):Int) then if (0:Int) ≤ x94 ∧ x94 < (↑(List.length x93):Int) then M.dflat_l0 x93 x96 (Prod.fst (V.pCross (V.pSub (List.getD x93 (Int.toNat x95) ((0:Int),(0:Int),(0:Int))) (List.getD x93 (Int.toNat x96) ((0:Int),(0:Int),(0:Int)))) (V.pSub (List.getD x93 (Int.toNat x94) ((0:Int),(0:Int),(0:Int))) (List.getD x93 (Int.toNat x96) ((0:Int),(0:Int),(0:Int)))))) (Prod.fst (Prod.snd (V.pCross (V.pSub (List.getD x93 (Int.toNat x95) ((0:Int),(0:Int),(0:Int))) (List.getD x93 (Int.toNat x96) ((0:Int),(0:Int),(0:Int)))) (V.pSub (List.getD x93 (Int.toNat x94) ((0:Int),(0:Int),(0:Int))) (List.getD x93 (Int.toNat x96) ((0:Int),(0:Int),(0:Int))))))) (Prod.snd (Prod.snd (V.pCross (V.pSub (List.getD x93 (Int.toNat x95) ((0:Int),(0:Int),(0:Int))) (List.getD x93 (Int.toNat x96) ((0:Int),(0:Int),(0:Int)))) (V.pSub (List.getD x93 (Int.toNat x94) ((0:Int),(0:Int),(0:Int))) (List.getD x93 (Int.toNat x96) ((0:Int),(0:Int),(0:Int))))))) k0 (kn (IntKind.wrap .i64 (x96 + (1:Int)))) ((100:Nat) + List.length x93) (0:Int) else none else none else none else k2
noncomputable def _root_.Go.Proofs.Ytlagndfhibkjpaa.M.dflat_l1 {α:Type} (x93:L3) (x94 x95:Int) (k0:Option α) (k2:Option α):Nat → Int → Option α
  | 0,_ => none
  | n + 1,x96 => M.dflat_l1_step x93 x94 x95 (M.dflat_l1 x93 x94 x95 k0 k2 n) k0 k2 x96
theorem dflat_l1_step_eq {α:Type} (x92:Value) (x93:L3) (x94 x95 x96:Int) (Q:Ex → St → Option α):(loopStep E (exec E look_dform dflat_l0_lps 400) 57 dflat_P2 0 (codeAt E.P 57 dflat_P2)) (dflat_S3 x92 x93 x94 x95 x96) Q = M.dflat_l1_step x93 x94 x95 (fun (x97:Int) => Q .normal (dflat_S3 x92 x93 x94 x95 x97)) (Q .ret (dflat_S5 x92 x93 x94 x95)) (Q (.exit 4) (dflat_S6 x92 x93 x94 x95)) x96 := by kernel_rfl
theorem dflat_l1_iter {α:Type} (x92:Value) (x93:L3) (x94 x95:Int) (Q:Ex → St → Option α):∀ (n:Nat) (x96:Int),iter (loopStep E (exec E look_dform dflat_l0_lps 400) 57 dflat_P2 0 (codeAt E.P 57 dflat_P2)) n (dflat_S3 x92 x93 x94 x95 x96) Q = M.dflat_l1 x93 x94 x95 (Q .ret (dflat_S5 x92 x93 x94 x95)) (Q (.exit 4) (dflat_S6 x92 x93 x94 x95)) n x96
  | 0,_ => rfl
  | n + 1,x96 => (dflat_l1_step_eq x92 x93 x94 x95 x96 (iterK (loopStep E (exec E look_dform dflat_l0_lps 400) 57 dflat_P2 0 (codeAt E.P 57 dflat_P2)) n Q)).trans (congrArg (fun kn => M.dflat_l1_step x93 x94 x95 kn (Q .ret (dflat_S5 x92 x93 x94 x95)) (Q (.exit 4) (dflat_S6 x92 x93 x94 x95)) x96) (funext fun x96 => dflat_l1_iter x92 x93 x94 x95 Q n x96))
noncomputable def dflat_l1_go {α:Type} (ds:List D) (Q:Ex → St → Option α):Option α :=
  dV ds fun x92 ds => dL kP ds fun x93 ds => dI ds fun x94 ds => dI ds fun x95 ds => dI ds fun x96 ds => dE ds (M.dflat_l1 x93 x94 x95 (Q .ret (dflat_S5 x92 x93 x94 x95)) (Q (.exit 4) (dflat_S6 x92 x93 x94 x95)) (100 + x93.length) x96)
theorem dflat_l1_ok {α:Type}:LoopOk E.P 57 dflat_P2 0 (lEnt (α := α) (dflat_S7) dflat_l1_go) :=
  lEnt_ok E (exec_sound E E_ok (look_dform_ok) (dflat_l0_lps_ok) 400) fun ds Q r h S hS => by
    unfold dflat_l1_go at h
    obtain ⟨x92,ds,rfl,h1⟩ := dV_inv h
    obtain ⟨x93,ds,rfl,h2⟩ := dL_inv h1
    obtain ⟨x94,ds,rfl,h3⟩ := dI_inv h2
    obtain ⟨x95,ds,rfl,h4⟩ := dI_inv h3
    obtain ⟨x96,ds,rfl,h5⟩ := dI_inv h4
    obtain ⟨rfl,hE⟩ := dE_inv h5
    have e:fillS (dflat_S7) [.v x92,.l kP x93,.i x94,.i x95,.i x96] = some (dflat_S3 x92 x93 x94 x95 x96) := by kernel_rfl
    rw [e] at hS
    cases hS
    exact ⟨_,(dflat_l1_iter x92 x93 x94 x95 Q _ x96).trans hE⟩
noncomputable def dflat_l1_lps {α:Type}:LookL α := addLp 57 dflat_P2 0 (lEnt (dflat_S7) dflat_l1_go) dflat_l0_lps
theorem dflat_l1_lps_ok {α:Type}:LoopsOk E.P (dflat_l1_lps (α := α)) := addLp_ok dflat_l1_ok (dflat_l0_lps_ok)

noncomputable def _root_.Go.Proofs.Ytlagndfhibkjpaa.M.dflat_l2_step {α:Type} (x99:L3) (x100:Int) (kn:Int → Option α) (k0:Option α) (k2:Option α) (x101:Int):Option α := if cLt x101 x100 = true then M.dflat_l1 x99 x100 x101 k0 (kn (IntKind.wrap .i64 (x101 + (1:Int)))) ((100:Nat) + List.length x99) (0:Int) else k2
noncomputable def _root_.Go.Proofs.Ytlagndfhibkjpaa.M.dflat_l2 {α:Type} (x99:L3) (x100:Int) (k0:Option α) (k2:Option α):Nat → Int → Option α
  | 0,_ => none
  | n + 1,x101 => M.dflat_l2_step x99 x100 (M.dflat_l2 x99 x100 k0 k2 n) k0 k2 x101
theorem dflat_l2_step_eq {α:Type} (x98:Value) (x99:L3) (x100 x101:Int) (Q:Ex → St → Option α):(loopStep E (exec E look_dform dflat_l1_lps 400) 57 dflat_P3 0 (codeAt E.P 57 dflat_P3)) (dflat_S6 x98 x99 x100 x101) Q = M.dflat_l2_step x99 x100 (fun (x102:Int) => Q .normal (dflat_S6 x98 x99 x100 x102)) (Q .ret (dflat_S8 x98 x99 x100)) (Q (.exit 2) (St.mk (some (SV.ros x98 kP x99) :: none :: none :: some (SV.int .i64 x100) :: nn 51 ([])) [])) x101 := by kernel_rfl
theorem dflat_l2_iter {α:Type} (x98:Value) (x99:L3) (x100:Int) (Q:Ex → St → Option α):∀ (n:Nat) (x101:Int),iter (loopStep E (exec E look_dform dflat_l1_lps 400) 57 dflat_P3 0 (codeAt E.P 57 dflat_P3)) n (dflat_S6 x98 x99 x100 x101) Q = M.dflat_l2 x99 x100 (Q .ret (dflat_S8 x98 x99 x100)) (Q (.exit 2) (St.mk (some (SV.ros x98 kP x99) :: none :: none :: some (SV.int .i64 x100) :: nn 51 ([])) [])) n x101
  | 0,_ => rfl
  | n + 1,x101 => (dflat_l2_step_eq x98 x99 x100 x101 (iterK (loopStep E (exec E look_dform dflat_l1_lps 400) 57 dflat_P3 0 (codeAt E.P 57 dflat_P3)) n Q)).trans (congrArg (fun kn => M.dflat_l2_step x99 x100 kn (Q .ret (dflat_S8 x98 x99 x100)) (Q (.exit 2) (St.mk (some (SV.ros x98 kP x99) :: none :: none :: some (SV.int .i64 x100) :: nn 51 ([])) [])) x101) (funext fun x101 => dflat_l2_iter x98 x99 x100 Q n x101))
noncomputable def dflat_l2_go {α:Type} (ds:List D) (Q:Ex → St → Option α):Option α :=
  dV ds fun x98 ds => dL kP ds fun x99 ds => dI ds fun x100 ds => dI ds fun x101 ds => dE ds (M.dflat_l2 x99 x100 (Q .ret (dflat_S8 x98 x99 x100)) (Q (.exit 2) (St.mk (some (SV.ros x98 kP x99) :: none :: none :: some (SV.int .i64 x100) :: nn 51 ([])) [])) (100 + x99.length) x101)
theorem dflat_l2_ok {α:Type}:LoopOk E.P 57 dflat_P3 0 (lEnt (α := α) (St.mk (some (SV.ros undef kP []) :: none :: none :: some (SV.int .i64 (0:Int)) :: some (SV.int .i64 (0:Int)) :: nn 50 ([])) []) dflat_l2_go) :=
  lEnt_ok E (exec_sound E E_ok (look_dform_ok) (dflat_l1_lps_ok) 400) fun ds Q r h S hS => by
    unfold dflat_l2_go at h
    obtain ⟨x98,ds,rfl,h1⟩ := dV_inv h
    obtain ⟨x99,ds,rfl,h2⟩ := dL_inv h1
    obtain ⟨x100,ds,rfl,h3⟩ := dI_inv h2
    obtain ⟨x101,ds,rfl,h4⟩ := dI_inv h3
    obtain ⟨rfl,hE⟩ := dE_inv h4
    have e:fillS (St.mk (some (SV.ros undef kP []) :: none :: none :: some (SV.int .i64 (0:Int)) :: some (SV.int .i64 (0:Int)) :: nn 50 ([])) []) [.v x98,.l kP x99,.i x100,.i x101] = some (dflat_S6 x98 x99 x100 x101) := by kernel_rfl
    rw [e] at hS
    cases hS
    exact ⟨_,(dflat_l2_iter x98 x99 x100 Q _ x101).trans hE⟩
noncomputable def dflat_l2_lps {α:Type}:LookL α := addLp 57 dflat_P3 0 (lEnt (St.mk (some (SV.ros undef kP []) :: none :: none :: some (SV.int .i64 (0:Int)) :: some (SV.int .i64 (0:Int)) :: nn 50 ([])) []) dflat_l2_go) dflat_l1_lps
theorem dflat_l2_lps_ok {α:Type}:LoopsOk E.P (dflat_l2_lps (α := α)) := addLp_ok dflat_l2_ok (dflat_l1_lps_ok)

noncomputable def _root_.Go.Proofs.Ytlagndfhibkjpaa.M.dflat_l3_step {α:Type} (x104:L3) (kn:Int → Option α) (k0:Option α) (k2:Option α) (x105:Int):Option α := if cLt x105 (↑(List.length x104):Int) = true then M.dflat_l2 x104 x105 k0 (kn (IntKind.wrap .i64 (x105 + (1:Int)))) ((100:Nat) + List.length x104) (0:Int) else k2
noncomputable def _root_.Go.Proofs.Ytlagndfhibkjpaa.M.dflat_l3 {α:Type} (x104:L3) (k0:Option α) (k2:Option α):Nat → Int → Option α
  | 0,_ => none
  | n + 1,x105 => M.dflat_l3_step x104 (M.dflat_l3 x104 k0 k2 n) k0 k2 x105
theorem dflat_l3_step_eq {α:Type} (x103:Value) (x104:L3) (x105:Int) (Q:Ex → St → Option α):(loopStep E (exec E look_dform dflat_l2_lps 400) 57 [false,true,false,true] 0 (codeAt E.P 57 [false,true,false,true])) (St.mk (some (SV.ros x103 kP x104) :: none :: none :: some (SV.int .i64 x105) :: nn 51 ([])) []) Q = M.dflat_l3_step x104 (fun (x106:Int) => Q .normal (St.mk (some (SV.ros x103 kP x104) :: none :: none :: some (SV.int .i64 x106) :: nn 51 ([])) [])) (Q .ret (St.mk (none :: none :: some (SV.bool false) :: nn 52 ([])) [])) (Q (.exit 0) (St.mk (nn 55 ([])) [])) x105 := by kernel_rfl
theorem dflat_l3_iter {α:Type} (x103:Value) (x104:L3) (Q:Ex → St → Option α):∀ (n:Nat) (x105:Int),iter (loopStep E (exec E look_dform dflat_l2_lps 400) 57 [false,true,false,true] 0 (codeAt E.P 57 [false,true,false,true])) n (St.mk (some (SV.ros x103 kP x104) :: none :: none :: some (SV.int .i64 x105) :: nn 51 ([])) []) Q = M.dflat_l3 x104 (Q .ret (St.mk (none :: none :: some (SV.bool false) :: nn 52 ([])) [])) (Q (.exit 0) (St.mk (nn 55 ([])) [])) n x105
  | 0,_ => rfl
  | n + 1,x105 => (dflat_l3_step_eq x103 x104 x105 (iterK (loopStep E (exec E look_dform dflat_l2_lps 400) 57 [false,true,false,true] 0 (codeAt E.P 57 [false,true,false,true])) n Q)).trans (congrArg (fun kn => M.dflat_l3_step x104 kn (Q .ret (St.mk (none :: none :: some (SV.bool false) :: nn 52 ([])) [])) (Q (.exit 0) (St.mk (nn 55 ([])) [])) x105) (funext fun x105 => dflat_l3_iter x103 x104 Q n x105))
noncomputable def dflat_l3_go {α:Type} (ds:List D) (Q:Ex → St → Option α):Option α :=
  dV ds fun x103 ds => dL kP ds fun x104 ds => dI ds fun x105 ds => dE ds (M.dflat_l3 x104 (Q .ret (St.mk (none :: none :: some (SV.bool false) :: nn 52 ([])) [])) (Q (.exit 0) (St.mk (nn 55 ([])) [])) (100 + x104.length) x105)
theorem dflat_l3_ok {α:Type}:LoopOk E.P 57 [false,true,false,true] 0 (lEnt (α := α) (St.mk (some (SV.ros undef kP []) :: none :: none :: some (SV.int .i64 (0:Int)) :: nn 51 ([])) []) dflat_l3_go) :=
  lEnt_ok E (exec_sound E E_ok (look_dform_ok) (dflat_l2_lps_ok) 400) fun ds Q r h S hS => by
    unfold dflat_l3_go at h
    obtain ⟨x103,ds,rfl,h1⟩ := dV_inv h
    obtain ⟨x104,ds,rfl,h2⟩ := dL_inv h1
    obtain ⟨x105,ds,rfl,h3⟩ := dI_inv h2
    obtain ⟨rfl,hE⟩ := dE_inv h3
    have e:fillS (St.mk (some (SV.ros undef kP []) :: none :: none :: some (SV.int .i64 (0:Int)) :: nn 51 ([])) []) [.v x103,.l kP x104,.i x105] = some (St.mk (some (SV.ros x103 kP x104) :: none :: none :: some (SV.int .i64 x105) :: nn 51 ([])) []) := by kernel_rfl
    rw [e] at hS
    cases hS
    exact ⟨_,(dflat_l3_iter x103 x104 Q _ x105).trans hE⟩
noncomputable def dflat_l3_lps {α:Type}:LookL α := addLp 57 [false,true,false,true] 0 (lEnt (St.mk (some (SV.ros undef kP []) :: none :: none :: some (SV.int .i64 (0:Int)) :: nn 51 ([])) []) dflat_l3_go) dflat_l2_lps
theorem dflat_l3_lps_ok {α:Type}:LoopsOk E.P (dflat_l3_lps (α := α)) := addLp_ok dflat_l3_ok (dflat_l2_lps_ok)

noncomputable def _root_.Go.Proofs.Ytlagndfhibkjpaa.M.dflat {α:Type} (l:L3) (k0:Bool → Option α):Option α := M.dflat_l3 l (k0 false) (k0 true) ((100:Nat) + List.length l) (0:Int)
theorem dflat_eq {α:Type} (l:L3) (v107:Value) (Q:SV → Hp → Option α):callI E look_dform (exec E look_dform dflat_l3_lps 400) 57 ([SV.ros v107 kP l]) ([]) Q = M.dflat l (fun (x108:Bool) => Q (SV.bool x108) ([])) := by kernel_rfl
def dflat_sp:List AS := [.ro kP]
def Off (l:List P3) (A B C:P3):Prop := ∃ d ∈ l,dt3 (nrm A B C) (sub3 d A) ≠ 0
theorem Off.swap23 {l:List P3} {A B C:P3} (h:Off l A B C):Off l A C B := by
  obtain ⟨d,hd,h1⟩ := h
  refine ⟨d,hd,?_⟩
  rw [nrm_swap23,dt_neg]; omega
theorem Off.swap12 {l:List P3} {A B C:P3} (h:Off l A B C):Off l B A C := by
  obtain ⟨d,hd,h1⟩ := h
  refine ⟨d,hd,?_⟩
  rw [nrm_swap12,dt_neg,sub_sub d B A,dt_sub,nrm_dt]
  omega
theorem copl_off {l:List P3} (h:¬ Copl l):∃ i j k,i < j ∧ j < k ∧ k < l.length ∧ Off l (pt l i) (pt l j) (pt l k) := by
  have:∃ A ∈ l,∃ B ∈ l,∃ C ∈ l,Off l A B C := by
    apply Classical.byContradiction
    intro hn
    apply h
    intro a ha b hb c hc d hd
    apply Classical.byContradiction
    intro h0
    exact hn ⟨a,ha,b,hb,c,hc,d,hd,h0⟩
  obtain ⟨A,hA,B,hB,C,hC,hx⟩ := this
  have hne:nrm A B C ≠ (0,0,0) := by
    obtain ⟨d,_,h1⟩ := hx
    intro e; rw [e] at h1; simp [dt3] at h1
  obtain ⟨n1,n2,n3⟩ := nrm_ne12 hne
  obtain ⟨i,hi,rfl⟩ := pt_of_mem hA
  obtain ⟨j,hj,rfl⟩ := pt_of_mem hB
  obtain ⟨k,hk,rfl⟩ := pt_of_mem hC
  have m1:i ≠ j := fun e => n1 (by rw [e])
  have m2:i ≠ k := fun e => n2 (by rw [e])
  have m3:j ≠ k := fun e => n3 (by rw [e])
  rcases Nat.lt_or_gt_of_ne m1 with c1 | c1 <;> rcases Nat.lt_or_gt_of_ne m2 with c2 | c2 <;> rcases Nat.lt_or_gt_of_ne m3 with c3 | c3
  · exact ⟨i,j,k,c1,c3,hk,hx⟩
  · exact ⟨i,k,j,c2,c3,hj,hx.swap23⟩
  · omega
  · exact ⟨k,i,j,c2,c1,hj,hx.swap23.swap12⟩
  · exact ⟨j,i,k,c1,c2,hk,hx.swap12⟩
  · omega
  · exact ⟨j,k,i,c3,c2,hi,hx.swap12.swap23⟩
  · exact ⟨k,j,i,c3,c1,hi,hx.swap12.swap23.swap12⟩
def offD (l:List P3) (m k i o:Nat):Prop := V.pDot (triN l m k i) (V.pSub (pt l o) (pt l m)) ≠ 0
theorem offD_iff {l:List P3} (h:Pts l) {m k i o:Nat} (hm:m < l.length) (hk:k < l.length) (hi:i < l.length) (ho:o < l.length):offD l m k i o ↔ dt3 (nrm (pt l m) (pt l k) (pt l i)) (sub3 (pt l o) (pt l m)) ≠ 0 := by
  obtain ⟨e,s⟩ := h.triN hm hk hi
  unfold offD
  rw [e,(h.sub hm ho).1,dt_sm s (h.sub hm ho).2]
  exact Iff.rfl
theorem flat_iff {l:List P3} (h:Pts l):V.flatP l = true ↔ ¬ ∃ i,0 ≤ i ∧ i < l.length ∧ ∃ k,0 ≤ k ∧ k < i ∧ ∃ m,0 ≤ m ∧ m < k ∧ ∃ o,0 ≤ o ∧ o < l.length ∧ offD l m k i o := by
  rw [flatP_iff]
  constructor
  · rintro hc ⟨i, _, hi, k, _, hk, m, _, hm, o, _, ho, h1⟩
    rw [offD_iff h (by omega) (by omega) hi ho] at h1
    exact h1 (hc _ (pt_mem l m (by omega)) _ (pt_mem l k (by omega)) _ (pt_mem l i hi) _ (pt_mem l o ho))
  · intro hn
    apply Classical.byContradiction
    intro hc
    obtain ⟨m,k,i,h1,h2,h3,d,hd,h4⟩ := copl_off hc
    obtain ⟨o,ho,rfl⟩ := pt_of_mem hd
    exact hn ⟨i,Nat.zero_le _,h3,k,Nat.zero_le _,h2,m,Nat.zero_le _,h1,o,Nat.zero_le _,ho,(offD_iff h (by omega) (by omega) h3 ho).2 h4⟩
theorem dflat_l0_val {α:Type} (l:List P3) (hl:l.length < 1099511627776) (m k i:Nat) (hm:m < l.length) (k0 k2:Option α) (fuel:Nat) (hf:l.length < fuel) :
    M.dflat_l0 l (m:Int) (triN l m k i).1 (triN l m k i).2.1 (triN l m k i).2.2 k0 k2 fuel 0 = if exB (∃ o,0 ≤ o ∧ o < l.length ∧ offD l m k i o) = true then k0 else k2 := by
  refine scan (fun f o => M.dflat_l0 l (m:Int) (triN l m k i).1 (triN l m k i).2.1 (triN l m k i).2.2 k0 k2 f o) l.length (fun o => offD l m k i o) k0 k2 ?_ ?_ fuel 0 (by omega) (by omega)
  · intro f o ho
    show M.dflat_l0_step _ _ _ _ _ _ _ _ _ = _
    unfold M.dflat_l0_step
    have a:(0:Int) ≤ (o:Int) ∧ (o:Int) < (l.length:Int) := by omega
    have b:(0:Int) ≤ (m:Int) ∧ (m:Int) < (l.length:Int) := by omega
    rw [cLt_nat,if_pos (by simpa using ho),if_pos a,if_pos b,w_next (by omega),cEq_eq]
    exact if_exB (by simp only [toNat_nat,Bool.not_eq_true',beq_eq_false_iff_ne]; exact Iff.rfl) _ _
  · intro f
    show M.dflat_l0_step _ _ _ _ _ _ _ _ _ = _
    unfold M.dflat_l0_step
    rw [cLt_nat,if_neg (by simp)]
theorem dflat_l1_val {α:Type} (l:List P3) (hl:l.length < 1099511627776) (k i:Nat) (hk:k < i) (hi:i < l.length) (k0 k2:Option α) (fuel:Nat) (hf:l.length < fuel) :
    M.dflat_l1 l (i:Int) (k:Int) k0 k2 fuel 0 = if exB (∃ m,0 ≤ m ∧ m < k ∧ ∃ o,0 ≤ o ∧ o < l.length ∧ offD l m k i o) = true then k0 else k2 := by
  refine scan (fun f m => M.dflat_l1 l (i:Int) (k:Int) k0 k2 f m) k (fun m => ∃ o,0 ≤ o ∧ o < l.length ∧ offD l m k i o) k0 k2 ?_ ?_ fuel 0 (by omega) (by omega)
  · intro f m hm
    show M.dflat_l1_step _ _ _ _ _ _ _ = _
    unfold M.dflat_l1_step
    have a:(0:Int) ≤ (m:Int) ∧ (m:Int) < (l.length:Int) := by omega
    have b:(0:Int) ≤ (k:Int) ∧ (k:Int) < (l.length:Int) := by omega
    have c:(0:Int) ≤ (i:Int) ∧ (i:Int) < (l.length:Int) := by omega
    rw [cLt_nat,if_pos (by simpa using hm),if_pos a,if_pos b,if_pos c,w_next (by omega)]
    exact dflat_l0_val l hl m k i (by omega) _ _ _ (by omega)
  · intro f
    show M.dflat_l1_step _ _ _ _ _ _ _ = _
    unfold M.dflat_l1_step
    rw [cLt_nat,if_neg (by simp)]
theorem dflat_l2_val {α:Type} (l:List P3) (hl:l.length < 1099511627776) (i:Nat) (hi:i < l.length) (k0 k2:Option α) (fuel:Nat) (hf:l.length < fuel) :
    M.dflat_l2 l (i:Int) k0 k2 fuel 0 = if exB (∃ k,0 ≤ k ∧ k < i ∧ ∃ m,0 ≤ m ∧ m < k ∧ ∃ o,0 ≤ o ∧ o < l.length ∧ offD l m k i o) = true then k0 else k2 := by
  refine scan (fun f k => M.dflat_l2 l (i:Int) k0 k2 f k) i (fun k => ∃ m,0 ≤ m ∧ m < k ∧ ∃ o,0 ≤ o ∧ o < l.length ∧ offD l m k i o) k0 k2 ?_ ?_ fuel 0 (by omega) (by omega)
  · intro f k hk
    show M.dflat_l2_step _ _ _ _ _ _ = _
    unfold M.dflat_l2_step
    rw [cLt_nat,if_pos (by simpa using hk),w_next (by omega)]
    exact dflat_l1_val l hl k i hk hi _ _ _ (by omega)
  · intro f
    show M.dflat_l2_step _ _ _ _ _ _ = _
    unfold M.dflat_l2_step
    rw [cLt_nat,if_neg (by simp)]
theorem dflat_v {α:Type} (l:List P3) (hg:V.ptsB l = true) (k0:Bool → Option α):M.dflat l k0 = k0 (V.flatP l) := by
  obtain ⟨g1,g2,g3,g4⟩ := ptsB_iff hg
  have hp:Pts l := ⟨fun p hp => sm_of (g1 p hp),g2⟩
  unfold M.dflat
  have h := scan (fun f i => M.dflat_l3 l (k0 false) (k0 true) f i) l.length (fun i => ∃ k,0 ≤ k ∧ k < i ∧ ∃ m,0 ≤ m ∧ m < k ∧ ∃ o,0 ≤ o ∧ o < l.length ∧ offD l m k i o) (k0 false) (k0 true) ?_ ?_ (100 + l.length) 0 (by omega) (by omega)
  · refine Eq.trans h ?_
    cases hf:V.flatP l with
    | true =>
      rw [if_neg]
      rw [exB_false ((flat_iff hp).1 hf)]; decide
    | false =>
      rw [if_pos]
      apply exB_true
      apply Classical.byContradiction
      intro hn
      rw [(flat_iff hp).2 hn] at hf; cases hf
  · intro f i hi
    show M.dflat_l3_step _ _ _ _ _ = _
    unfold M.dflat_l3_step
    rw [cLt_nat,if_pos (by simpa using hi),w_next (by omega)]
    exact dflat_l2_val l g4 i hi _ _ _ (by omega)
  · intro f
    show M.dflat_l3_step _ _ _ _ _ = _
    unfold M.dflat_l3_step
    rw [cLt_nat,if_neg (by simp)]
noncomputable def dflat_h {α:Type} (ds:List D) (Q:SV → Hp → Option α):Option α :=
  dL kP ds fun l ds => dE ds (if V.ptsB l = true then Q (.bool (V.flatP l)) ([]) else none)
theorem dflat_h_ok {α:Type}:FnOk E.P 57 (fEnt (α := α) dflat_sp dflat_h) :=
  fEntR_ok E (look_dform_ok) (exec_sound E E_ok (look_dform_ok) (dflat_l3_lps_ok) 400) fun ds Q r h => by
    unfold dflat_h at h
    obtain ⟨l,ds,rfl,h1⟩ := dL_inv h
    obtain ⟨rfl,hE⟩ := dE_inv h1
    split at hE
    · rename_i hg
      exact ⟨_,_,hE,fun vs => ⟨_,_,by kernel_rfl,(dflat_eq l (vs.headD undef) _).trans (dflat_v l hg _)⟩⟩
    · cases hE
noncomputable def look_dflat {α:Type}:LookF α := addFn 57 (fEnt dflat_sp dflat_h) look_dform
theorem look_dflat_ok {α:Type}:LookOk E.P (look_dflat (α := α)) := addFn_ok dflat_h_ok (look_dform_ok)
noncomputable def _root_.Go.Proofs.Ytlagndfhibkjpaa.M.dcheck {α:Type} (k:Int) (r:Int) (hx:Int) (hy:Int) (hz:Int) (l:L3) (k0:Int → Option α):Option α := if (!V.form k r hx hy hz l) = true then k0 (50:Int) else if cEq k (4:Int) = true then if V.ptsB l = true then if V.flatP l = true then k0 (51:Int) else k0 (0:Int) else none else k0 (0:Int)
theorem dcheck_eq {α:Type} (k:Int) (r:Int) (hx:Int) (hy:Int) (hz:Int) (l:L3) (v109:Value) (Q:SV → Hp → Option α):callI E look_dflat (exec E look_dflat noLps 400) 33 ([SV.agg [SV.int .i64 k,SV.int .i64 r,SV.int .i64 hx,SV.int .i64 hy,SV.int .i64 hz,SV.ros v109 kP l]]) ([]) Q = M.dcheck k r hx hy hz l (fun (x110:Int) => Q (SV.int .i64 x110) ([])) := by kernel_rfl
def dcheck_sp:List AS := [.st [.leaf (.int .i64 0),.leaf (.int .i64 0),.leaf (.int .i64 0),.leaf (.int .i64 0),.leaf (.int .i64 0),.ro kP]]
theorem dcheck_v {α:Type} (k r hx hy hz:Int) (l:List P3) (k0:Int → Option α):M.dcheck k r hx hy hz l k0 = k0 (V.chk k r hx hy hz l) := by
  unfold M.dcheck V.chk V.form
  simp only [hid_eq,cEq_eq,beq_iff_eq]
  rw [chk_form]
  cases h:formP k r hx hy hz l with
  | false => simp
  | true =>
    by_cases h4:k = 4
    · subst h4
      have hf:inZ (l.length:Int) 4 12 = true ∧ V.apartP l = true := by
        unfold formP at h
        simp at h
        exact ⟨h.1.1,h.1.2⟩
      have hl:4 ≤ l.length ∧ l.length ≤ 12 := by have := hf.1; simp [inZ] at this; omega
      have hp := ptsB_of hf.2 (by omega) (by omega)
      cases V.flatP l <;> simp [hp]
    · simp [h4]
noncomputable def dcheck_h {α:Type} (ds:List D) (Q:SV → Hp → Option α):Option α :=
  dI ds fun k ds => dI ds fun r ds => dI ds fun hx ds => dI ds fun hy ds => dI ds fun hz ds => dL kP ds fun l ds => dE ds (Q (.int .i64 (V.chk k r hx hy hz l)) ([]))
theorem dcheck_h_ok {α:Type}:FnOk E.P 33 (fEnt (α := α) dcheck_sp dcheck_h) :=
  fEntR_ok E (look_dflat_ok) (exec_sound E E_ok (look_dflat_ok) (noLps_ok _) 400) fun ds Q r h => by
    unfold dcheck_h at h
    obtain ⟨k,ds,rfl,h1⟩ := dI_inv h
    obtain ⟨r,ds,rfl,h2⟩ := dI_inv h1
    obtain ⟨hx,ds,rfl,h3⟩ := dI_inv h2
    obtain ⟨hy,ds,rfl,h4⟩ := dI_inv h3
    obtain ⟨hz,ds,rfl,h5⟩ := dI_inv h4
    obtain ⟨l,ds,rfl,h6⟩ := dL_inv h5
    obtain ⟨rfl,hE⟩ := dE_inv h6
    exact ⟨_,_,hE,fun vs => ⟨_,_,by kernel_rfl,(dcheck_eq k r hx hy hz l ((cellsV (vs.headD undef)).tail.tail.tail.tail.tail.headD undef) _).trans (dcheck_v k r hx hy hz l _)⟩⟩
noncomputable def look_dcheck {α:Type}:LookF α := addFn 33 (fEnt dcheck_sp dcheck_h) look_dflat
theorem look_dcheck_ok {α:Type}:LookOk E.P (look_dcheck (α := α)) := addFn_ok dcheck_h_ok (look_dflat_ok)
end Go.Proofs.Ytlagndfhibkjpaa.Sx
end
