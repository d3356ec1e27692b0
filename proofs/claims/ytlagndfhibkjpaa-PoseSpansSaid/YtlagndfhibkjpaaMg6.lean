/- Texts of the walk, merged. -/
import Derived.Test.YtlagndfhibkjpaaMg5
section
/- shape: cores. -/
namespace Go.Proofs.Ytlagndfhibkjpaa.Sx
open Go
set_option maxRecDepth 20000
set_option linter.unusedVariables false
set_option linter.unusedSimpArgs false
noncomputable abbrev core_S1 (y1 y2 y3 y4 y5 y6 y7 y8 y9 y10:Int) (y11:Value) (y12:L3) (y13:Int) (y14 y15 y16:L3) (y17:Int) (y18 y19 y20:L3) (y21 y22:List Int):St := St.mk (none :: some (SV.ptr (nat_lit 0) (nat_lit 0)) :: some (SV.ptr (nat_lit 1) (nat_lit 0)) :: none :: none :: some (SV.ptr (nat_lit 5) (nat_lit 0)) :: none :: some (SV.int .i64 y1) :: nn 43 (some (SV.sl (nat_lit 9)) :: some (SV.int .i64 y2) :: some (SV.int .i64 y3) :: nn 10 (some (SV.sl (nat_lit 10)) :: some (SV.int .i64 y4) :: some (SV.int .i64 y5) :: nn 40 ([])))) [.cells [SV.int .i64 y6,SV.int .i64 y7,SV.int .i64 y8,SV.int .i64 y9,SV.int .i64 y10,SV.ros y11 kP y12] (nat_lit 33),.cells [SV.sl (nat_lit 2),SV.sl (nat_lit 3),SV.sl (nat_lit 4),SV.int .i64 y13] (nat_lit 29),.seq kP y14 (nat_lit 23),.seq kP y15 (nat_lit 23),.seq kP y16 (nat_lit 23),.cells [SV.sl (nat_lit 6),SV.sl (nat_lit 7),SV.sl (nat_lit 8),SV.int .i64 y17] (nat_lit 29),.seq kP y18 (nat_lit 23),.seq kP y19 (nat_lit 23),.seq kP y20 (nat_lit 23),.seq (K.int IntKind.i64) y21 (nat_lit 3),.seq (K.int IntKind.i64) y22 (nat_lit 3)]
noncomputable abbrev core_S2 (y1 y2 y3 y4 y5 y6 y7:Int) (y8:Value) (y9:L3) (y10:Int) (y11 y12 y13:L3) (y14:Int) (y15 y16 y17:L3) (y18:List Int):St := St.mk (none :: some (SV.ptr (nat_lit 0) (nat_lit 0)) :: some (SV.ptr (nat_lit 1) (nat_lit 0)) :: none :: none :: some (SV.ptr (nat_lit 5) (nat_lit 0)) :: nn 45 (some (SV.sl (nat_lit 9)) :: some (SV.int .i64 y1) :: some (SV.int .i64 y2) :: nn 53 ([]))) [.cells [SV.int .i64 y3,SV.int .i64 y4,SV.int .i64 y5,SV.int .i64 y6,SV.int .i64 y7,SV.ros y8 kP y9] (nat_lit 33),.cells [SV.sl (nat_lit 2),SV.sl (nat_lit 3),SV.sl (nat_lit 4),SV.int .i64 y10] (nat_lit 29),.seq kP y11 (nat_lit 23),.seq kP y12 (nat_lit 23),.seq kP y13 (nat_lit 23),.cells [SV.sl (nat_lit 6),SV.sl (nat_lit 7),SV.sl (nat_lit 8),SV.int .i64 y14] (nat_lit 29),.seq kP y15 (nat_lit 23),.seq kP y16 (nat_lit 23),.seq kP y17 (nat_lit 23),.seq (K.int IntKind.i64) y18 (nat_lit 3)]
noncomputable abbrev core_S3:St := St.mk (none :: some (SV.ptr (nat_lit 0) (nat_lit 0)) :: some (SV.ptr (nat_lit 1) (nat_lit 0)) :: none :: none :: some (SV.ptr (nat_lit 5) (nat_lit 0)) :: none :: some (SV.int .i64 (0:Int)) :: nn 43 (some (SV.sl (nat_lit 9)) :: some (SV.int .i64 (0:Int)) :: some (SV.int .i64 (0:Int)) :: nn 10 (some (SV.sl (nat_lit 10)) :: some (SV.int .i64 (0:Int)) :: some (SV.int .i64 (0:Int)) :: nn 40 ([])))) [.cells [SV.int .i64 (0:Int),SV.int .i64 (0:Int),SV.int .i64 (0:Int),SV.int .i64 (0:Int),SV.int .i64 (0:Int),SV.ros undef kP []] (nat_lit 33),.cells [SV.sl (nat_lit 2),SV.sl (nat_lit 3),SV.sl (nat_lit 4),SV.int .i64 (0:Int)] (nat_lit 29),.seq kP [] (nat_lit 23),.seq kP [] (nat_lit 23),.seq kP [] (nat_lit 23),.cells [SV.sl (nat_lit 6),SV.sl (nat_lit 7),SV.sl (nat_lit 8),SV.int .i64 (0:Int)] (nat_lit 29),.seq kP [] (nat_lit 23),.seq kP [] (nat_lit 23),.seq kP [] (nat_lit 23),.seq (K.int IntKind.i64) [] (nat_lit 3),.seq (K.int IntKind.i64) [] (nat_lit 3)]
noncomputable abbrev core_S4 (y1:Int) (y2 y3 y4:L3) (y5:Int) (y6 y7 y8:L3):St := St.mk (none :: none :: some (SV.ptr (nat_lit 0) (nat_lit 0)) :: none :: none :: some (SV.ptr (nat_lit 4) (nat_lit 0)) :: nn 101 ([])) [.cells [SV.sl (nat_lit 1),SV.sl (nat_lit 2),SV.sl (nat_lit 3),SV.int .i64 y1] (nat_lit 29),.seq kP y2 (nat_lit 23),.seq kP y3 (nat_lit 23),.seq kP y4 (nat_lit 23),.cells [SV.sl (nat_lit 5),SV.sl (nat_lit 6),SV.sl (nat_lit 7),SV.int .i64 y5] (nat_lit 29),.seq kP y6 (nat_lit 23),.seq kP y7 (nat_lit 23),.seq kP y8 (nat_lit 23)]
noncomputable abbrev core_S5:St := St.mk (none :: some (SV.ptr (nat_lit 0) (nat_lit 0)) :: some (SV.ptr (nat_lit 1) (nat_lit 0)) :: none :: none :: some (SV.ptr (nat_lit 5) (nat_lit 0)) :: nn 45 (some (SV.sl (nat_lit 9)) :: some (SV.int .i64 (0:Int)) :: some (SV.int .i64 (0:Int)) :: nn 53 ([]))) [.cells [SV.int .i64 (0:Int),SV.int .i64 (0:Int),SV.int .i64 (0:Int),SV.int .i64 (0:Int),SV.int .i64 (0:Int),SV.ros undef kP []] (nat_lit 33),.cells [SV.sl (nat_lit 2),SV.sl (nat_lit 3),SV.sl (nat_lit 4),SV.int .i64 (0:Int)] (nat_lit 29),.seq kP [] (nat_lit 23),.seq kP [] (nat_lit 23),.seq kP [] (nat_lit 23),.cells [SV.sl (nat_lit 6),SV.sl (nat_lit 7),SV.sl (nat_lit 8),SV.int .i64 (0:Int)] (nat_lit 29),.seq kP [] (nat_lit 23),.seq kP [] (nat_lit 23),.seq kP [] (nat_lit 23),.seq (K.int IntKind.i64) [] (nat_lit 3)]
noncomputable abbrev core_S6 (y1 y2 y3 y4 y5 y6 y7 y8 y9 y10 y11 y12:Int) (y13:Value) (y14 y15 y16 y17:L3) (y18:Int) (y19 y20 y21:L3) (y22:Int) (y23 y24 y25 y26 y27:L3):St := St.mk (some (SV.ptr (nat_lit 8) (nat_lit 0)) :: none :: some (SV.sl (nat_lit 13)) :: some (SV.int .i64 y1) :: some (SV.int .i64 y2) :: some (SV.int .i64 y3) :: nn 10 (some (SV.int .i64 y4) :: some (SV.int .i64 y5) :: nn 114 (some (SV.sl (nat_lit 16)) :: some (SV.int .i64 y6) :: some (SV.int .i64 y7) :: nn 35 ([])))) [.cells [SV.int .i64 y8,SV.int .i64 y9,SV.int .i64 y10,SV.int .i64 y11,SV.int .i64 y12,SV.ros y13 kP y14] (nat_lit 33),.seq kP y15 (nat_lit 23),.seq kP y16 (nat_lit 23),.seq kP y17 (nat_lit 23),.cells [SV.sl (nat_lit 1),SV.sl (nat_lit 2),SV.sl (nat_lit 3),SV.int .i64 y18] (nat_lit 29),.seq kP y19 (nat_lit 23),.seq kP y20 (nat_lit 23),.seq kP y21 (nat_lit 23),.cells [SV.sl (nat_lit 13),SV.sl (nat_lit 14),SV.sl (nat_lit 15),SV.int .i64 y22] (nat_lit 29),.seq kP y23 (nat_lit 23),SObj.dead,SObj.dead,SObj.dead,.seq kP y24 (nat_lit 23),.seq kP y25 (nat_lit 23),.seq kP y26 (nat_lit 23),.seq kP y27 (nat_lit 23)]
noncomputable abbrev core_S7 (y1 y2 y3 y4 y5 y6 y7 y8 y9 y10:Int) (y11:Value) (y12 y13 y14 y15:L3) (y16:Int) (y17 y18 y19:L3) (y20:Int) (y21 y22 y23 y24:L3):St := St.mk (some (SV.ptr (nat_lit 8) (nat_lit 0)) :: none :: some (SV.sl (nat_lit 13)) :: some (SV.int .i64 y1) :: some (SV.int .i64 y2) :: some (SV.int .i64 y3) :: nn 10 (some (SV.int .i64 y4) :: some (SV.int .i64 y5) :: nn 152 ([]))) [.cells [SV.int .i64 y6,SV.int .i64 y7,SV.int .i64 y8,SV.int .i64 y9,SV.int .i64 y10,SV.ros y11 kP y12] (nat_lit 33),.seq kP y13 (nat_lit 23),.seq kP y14 (nat_lit 23),.seq kP y15 (nat_lit 23),.cells [SV.sl (nat_lit 1),SV.sl (nat_lit 2),SV.sl (nat_lit 3),SV.int .i64 y16] (nat_lit 29),.seq kP y17 (nat_lit 23),.seq kP y18 (nat_lit 23),.seq kP y19 (nat_lit 23),.cells [SV.sl (nat_lit 13),SV.sl (nat_lit 14),SV.sl (nat_lit 15),SV.int .i64 y20] (nat_lit 29),.seq kP y21 (nat_lit 23),SObj.dead,SObj.dead,SObj.dead,.seq kP y22 (nat_lit 23),.seq kP y23 (nat_lit 23),.seq kP y24 (nat_lit 23)]
noncomputable abbrev core_S8:St := St.mk (some (SV.ptr (nat_lit 8) (nat_lit 0)) :: none :: some (SV.sl (nat_lit 13)) :: some (SV.int .i64 (0:Int)) :: some (SV.int .i64 (0:Int)) :: some (SV.int .i64 (0:Int)) :: nn 10 (some (SV.int .i64 (0:Int)) :: some (SV.int .i64 (0:Int)) :: nn 114 (some (SV.sl (nat_lit 16)) :: some (SV.int .i64 (0:Int)) :: some (SV.int .i64 (0:Int)) :: nn 35 ([])))) [.cells [SV.int .i64 (0:Int),SV.int .i64 (0:Int),SV.int .i64 (0:Int),SV.int .i64 (0:Int),SV.int .i64 (0:Int),SV.ros undef kP []] (nat_lit 33),.seq kP [] (nat_lit 23),.seq kP [] (nat_lit 23),.seq kP [] (nat_lit 23),.cells [SV.sl (nat_lit 1),SV.sl (nat_lit 2),SV.sl (nat_lit 3),SV.int .i64 (0:Int)] (nat_lit 29),.seq kP [] (nat_lit 23),.seq kP [] (nat_lit 23),.seq kP [] (nat_lit 23),.cells [SV.sl (nat_lit 13),SV.sl (nat_lit 14),SV.sl (nat_lit 15),SV.int .i64 (0:Int)] (nat_lit 29),.seq kP [] (nat_lit 23),SObj.dead,SObj.dead,SObj.dead,.seq kP [] (nat_lit 23),.seq kP [] (nat_lit 23),.seq kP [] (nat_lit 23),.seq kP [] (nat_lit 23)]
noncomputable abbrev core_S9 (y1 y2 y3 y4 y5 y6 y7 y8 y9:Int) (y10:Value) (y11 y12 y13 y14:L3) (y15:Int) (y16 y17 y18:L3) (y19:Int) (y20 y21 y22 y23:L3):St := St.mk (some (SV.ptr (nat_lit 8) (nat_lit 0)) :: none :: some (SV.sl (nat_lit 13)) :: some (SV.int .i64 y1) :: some (SV.int .i64 y2) :: nn 11 (some (SV.int .i64 y3) :: some (SV.int .i64 y4) :: nn 152 ([]))) [.cells [SV.int .i64 y5,SV.int .i64 y6,SV.int .i64 y7,SV.int .i64 y8,SV.int .i64 y9,SV.ros y10 kP y11] (nat_lit 33),.seq kP y12 (nat_lit 23),.seq kP y13 (nat_lit 23),.seq kP y14 (nat_lit 23),.cells [SV.sl (nat_lit 1),SV.sl (nat_lit 2),SV.sl (nat_lit 3),SV.int .i64 y15] (nat_lit 29),.seq kP y16 (nat_lit 23),.seq kP y17 (nat_lit 23),.seq kP y18 (nat_lit 23),.cells [SV.sl (nat_lit 13),SV.sl (nat_lit 14),SV.sl (nat_lit 15),SV.int .i64 y19] (nat_lit 29),.seq kP y20 (nat_lit 23),SObj.dead,SObj.dead,SObj.dead,.seq kP y21 (nat_lit 23),.seq kP y22 (nat_lit 23),.seq kP y23 (nat_lit 23)]
noncomputable abbrev core_S10:St := St.mk (some (SV.ptr (nat_lit 8) (nat_lit 0)) :: none :: some (SV.sl (nat_lit 13)) :: some (SV.int .i64 (0:Int)) :: some (SV.int .i64 (0:Int)) :: some (SV.int .i64 (0:Int)) :: nn 10 (some (SV.int .i64 (0:Int)) :: some (SV.int .i64 (0:Int)) :: nn 152 ([]))) [.cells [SV.int .i64 (0:Int),SV.int .i64 (0:Int),SV.int .i64 (0:Int),SV.int .i64 (0:Int),SV.int .i64 (0:Int),SV.ros undef kP []] (nat_lit 33),.seq kP [] (nat_lit 23),.seq kP [] (nat_lit 23),.seq kP [] (nat_lit 23),.cells [SV.sl (nat_lit 1),SV.sl (nat_lit 2),SV.sl (nat_lit 3),SV.int .i64 (0:Int)] (nat_lit 29),.seq kP [] (nat_lit 23),.seq kP [] (nat_lit 23),.seq kP [] (nat_lit 23),.cells [SV.sl (nat_lit 13),SV.sl (nat_lit 14),SV.sl (nat_lit 15),SV.int .i64 (0:Int)] (nat_lit 29),.seq kP [] (nat_lit 23),SObj.dead,SObj.dead,SObj.dead,.seq kP [] (nat_lit 23),.seq kP [] (nat_lit 23),.seq kP [] (nat_lit 23)]
noncomputable abbrev core_S11 (y1 y2 y3 y4 y5 y6 y7:Int) (y8:Value) (y9 y10 y11 y12:L3) (y13:Int) (y14 y15 y16:L3) (y17:Int) (y18 y19 y20 y21:L3):St := St.mk (some (SV.ptr (nat_lit 8) (nat_lit 0)) :: none :: some (SV.sl (nat_lit 13)) :: nn 13 (some (SV.int .i64 y1) :: some (SV.int .i64 y2) :: nn 152 ([]))) [.cells [SV.int .i64 y3,SV.int .i64 y4,SV.int .i64 y5,SV.int .i64 y6,SV.int .i64 y7,SV.ros y8 kP y9] (nat_lit 33),.seq kP y10 (nat_lit 23),.seq kP y11 (nat_lit 23),.seq kP y12 (nat_lit 23),.cells [SV.sl (nat_lit 1),SV.sl (nat_lit 2),SV.sl (nat_lit 3),SV.int .i64 y13] (nat_lit 29),.seq kP y14 (nat_lit 23),.seq kP y15 (nat_lit 23),.seq kP y16 (nat_lit 23),.cells [SV.sl (nat_lit 13),SV.sl (nat_lit 14),SV.sl (nat_lit 15),SV.int .i64 y17] (nat_lit 29),.seq kP y18 (nat_lit 23),SObj.dead,SObj.dead,SObj.dead,.seq kP y19 (nat_lit 23),.seq kP y20 (nat_lit 23),.seq kP y21 (nat_lit 23)]
noncomputable abbrev core_S12:St := St.mk (some (SV.ptr (nat_lit 8) (nat_lit 0)) :: none :: some (SV.sl (nat_lit 13)) :: some (SV.int .i64 (0:Int)) :: some (SV.int .i64 (0:Int)) :: nn 11 (some (SV.int .i64 (0:Int)) :: some (SV.int .i64 (0:Int)) :: nn 152 ([]))) [.cells [SV.int .i64 (0:Int),SV.int .i64 (0:Int),SV.int .i64 (0:Int),SV.int .i64 (0:Int),SV.int .i64 (0:Int),SV.ros undef kP []] (nat_lit 33),.seq kP [] (nat_lit 23),.seq kP [] (nat_lit 23),.seq kP [] (nat_lit 23),.cells [SV.sl (nat_lit 1),SV.sl (nat_lit 2),SV.sl (nat_lit 3),SV.int .i64 (0:Int)] (nat_lit 29),.seq kP [] (nat_lit 23),.seq kP [] (nat_lit 23),.seq kP [] (nat_lit 23),.cells [SV.sl (nat_lit 13),SV.sl (nat_lit 14),SV.sl (nat_lit 15),SV.int .i64 (0:Int)] (nat_lit 29),.seq kP [] (nat_lit 23),SObj.dead,SObj.dead,SObj.dead,.seq kP [] (nat_lit 23),.seq kP [] (nat_lit 23),.seq kP [] (nat_lit 23)]
noncomputable abbrev core_S13 (y1 y2 y3 y4 y5:Int) (y6:Value) (y7 y8 y9 y10:L3) (y11:Int) (y12 y13 y14:L3) (y15:Int) (y16 y17 y18 y19:L3):St := St.mk (nn 170 ([])) [.cells [SV.int .i64 y1,SV.int .i64 y2,SV.int .i64 y3,SV.int .i64 y4,SV.int .i64 y5,SV.ros y6 kP y7] (nat_lit 33),.seq kP y8 (nat_lit 23),.seq kP y9 (nat_lit 23),.seq kP y10 (nat_lit 23),.cells [SV.sl (nat_lit 1),SV.sl (nat_lit 2),SV.sl (nat_lit 3),SV.int .i64 y11] (nat_lit 29),.seq kP y12 (nat_lit 23),.seq kP y13 (nat_lit 23),.seq kP y14 (nat_lit 23),.cells [SV.sl (nat_lit 13),SV.sl (nat_lit 14),SV.sl (nat_lit 15),SV.int .i64 y15] (nat_lit 29),.seq kP y16 (nat_lit 23),SObj.dead,SObj.dead,SObj.dead,.seq kP y17 (nat_lit 23),.seq kP y18 (nat_lit 23),.seq kP y19 (nat_lit 23)]
noncomputable abbrev core_S14:St := St.mk (some (SV.ptr (nat_lit 8) (nat_lit 0)) :: none :: some (SV.sl (nat_lit 13)) :: nn 13 (some (SV.int .i64 (0:Int)) :: some (SV.int .i64 (0:Int)) :: nn 152 ([]))) [.cells [SV.int .i64 (0:Int),SV.int .i64 (0:Int),SV.int .i64 (0:Int),SV.int .i64 (0:Int),SV.int .i64 (0:Int),SV.ros undef kP []] (nat_lit 33),.seq kP [] (nat_lit 23),.seq kP [] (nat_lit 23),.seq kP [] (nat_lit 23),.cells [SV.sl (nat_lit 1),SV.sl (nat_lit 2),SV.sl (nat_lit 3),SV.int .i64 (0:Int)] (nat_lit 29),.seq kP [] (nat_lit 23),.seq kP [] (nat_lit 23),.seq kP [] (nat_lit 23),.cells [SV.sl (nat_lit 13),SV.sl (nat_lit 14),SV.sl (nat_lit 15),SV.int .i64 (0:Int)] (nat_lit 29),.seq kP [] (nat_lit 23),SObj.dead,SObj.dead,SObj.dead,.seq kP [] (nat_lit 23),.seq kP [] (nat_lit 23),.seq kP [] (nat_lit 23)]
abbrev core_P1:List Bool := [false,true,true,true,true,true,true,false,false,false,false,true,true,false,false,false,true,false,false,true,true,false,false,true,true,false,false,true,true,true,false]
abbrev core_P2:List Bool := [false,true,true,false,false,true,true,false,false,true,false,false,true,true,true,true,true,false,true,false,true,true,true]
abbrev core_P3:List Bool := [false,true,true,false,false,false,true,false,false,true,true,false,false,true,true,false,false,true,true,true,false]
abbrev core_P4:List Bool := [false,true,false,false,true,true,true,true,true,false,true,false,true,true,true]
abbrev core_P5:List Bool := [false,true,true,false,false,true,true,false,false,true,true,true,false]
noncomputable def _root_.Go.Proofs.Ytlagndfhibkjpaa.M.core_l0_step {α:Type} (x59 x62 x68:Int) (x80:List Int) (kn:Int → L3 → Option α) (k1:L3 → Option α) (x63:Int) (x76:L3):Option α := if cLt x63 x62 = true then if (0:Int) ≤ x63 ∧ x63 < (↑(List.length x80):Int) then if (List.length x76 + ((1:Nat) + (1:Nat))) * (24:Nat) ≤ (140737488355328:Nat) then kn (IntKind.wrap .i64 (x63 + (1:Int))) (x76 ++ [(x59,List.getD x80 (Int.toNat x63) (0:Int),IntKind.wrap .i64 ((0:Int) - x68)),(x59,List.getD x80 (Int.toNat x63) (0:Int),x68)]) else none else none else k1 x76
noncomputable def _root_.Go.Proofs.Ytlagndfhibkjpaa.M.core_l0 {α:Type} (x59 x62 x68:Int) (x80:List Int) (k1:L3 → Option α):Nat → Int → L3 → Option α
  | 0,_,_ => none
  | n + 1,x63,x76 => M.core_l0_step x59 x62 x68 x80 (M.core_l0 x59 x62 x68 x80 k1 n) k1 x63 x76
theorem core_l0_step_eq {α:Type} (x59 x60 x61 x62 x63 x64 x65 x66 x67 x68:Int) (x69:Value) (x70:L3) (x71:Int) (x72 x73 x74:L3) (x75:Int) (x76 x77 x78:L3) (x79:List Int) (x80:List Int) (Q:Ex → St → Option α):(loopStep E (exec E look_check noLps 400) 9 core_P2 0 (codeAt E.P 9 core_P2)) (core_S1 x59 x60 x61 x62 x63 x64 x65 x66 x67 x68 x69 x70 x71 x72 x73 x74 x75 x76 x77 x78 x79 x80) Q = M.core_l0_step x59 x62 x68 x80 (fun (x82:Int) (x83:L3) => Q .normal (core_S1 x59 x60 x61 x62 x82 x64 x65 x66 x67 x68 x69 x70 x71 x72 x73 x74 x75 x83 x77 x78 x79 x80)) (fun (x81:L3) => Q (.exit 3) (core_S2 x60 x61 x64 x65 x66 x67 x68 x69 x70 x71 x72 x73 x74 x75 x81 x77 x78 x79)) x63 x76 := by kernel_rfl
theorem core_l0_iter {α:Type} (x59 x60 x61 x62 x64 x65 x66 x67 x68:Int) (x69:Value) (x70:L3) (x71:Int) (x72 x73 x74:L3) (x75:Int) (x77 x78:L3) (x79:List Int) (x80:List Int) (Q:Ex → St → Option α):∀ (n:Nat) (x63:Int) (x76:L3),iter (loopStep E (exec E look_check noLps 400) 9 core_P2 0 (codeAt E.P 9 core_P2)) n (core_S1 x59 x60 x61 x62 x63 x64 x65 x66 x67 x68 x69 x70 x71 x72 x73 x74 x75 x76 x77 x78 x79 x80) Q = M.core_l0 x59 x62 x68 x80 (fun (x81:L3) => Q (.exit 3) (core_S2 x60 x61 x64 x65 x66 x67 x68 x69 x70 x71 x72 x73 x74 x75 x81 x77 x78 x79)) n x63 x76
  | 0,_,_ => rfl
  | n + 1,x63,x76 => (core_l0_step_eq x59 x60 x61 x62 x63 x64 x65 x66 x67 x68 x69 x70 x71 x72 x73 x74 x75 x76 x77 x78 x79 x80 (iterK (loopStep E (exec E look_check noLps 400) 9 core_P2 0 (codeAt E.P 9 core_P2)) n Q)).trans (congrArg (fun kn => M.core_l0_step x59 x62 x68 x80 kn (fun (x81:L3) => Q (.exit 3) (core_S2 x60 x61 x64 x65 x66 x67 x68 x69 x70 x71 x72 x73 x74 x75 x81 x77 x78 x79)) x63 x76) (funext fun x63 => funext fun x76 => core_l0_iter x59 x60 x61 x62 x64 x65 x66 x67 x68 x69 x70 x71 x72 x73 x74 x75 x77 x78 x79 x80 Q n x63 x76))
noncomputable def core_l0_go {α:Type} (ds:List D) (Q:Ex → St → Option α):Option α :=
  dI ds fun x59 ds => dI ds fun x60 ds => dI ds fun x61 ds => dI ds fun x62 ds => dI ds fun x63 ds => dI ds fun x64 ds => dI ds fun x65 ds => dI ds fun x66 ds => dI ds fun x67 ds => dI ds fun x68 ds => dV ds fun x69 ds => dL kP ds fun x70 ds => dI ds fun x71 ds => dL kP ds fun x72 ds => dL kP ds fun x73 ds => dL kP ds fun x74 ds => dI ds fun x75 ds => dL kP ds fun x76 ds => dL kP ds fun x77 ds => dL kP ds fun x78 ds => dL (K.int IntKind.i64) ds fun x79 ds => dL (K.int IntKind.i64) ds fun x80 ds => dE ds (M.core_l0 x59 x62 x68 x80 (fun (x81:L3) => Q (.exit 3) (core_S2 x60 x61 x64 x65 x66 x67 x68 x69 x70 x71 x72 x73 x74 x75 x81 x77 x78 x79)) (100 + x70.length + x72.length + x73.length + x74.length + x76.length + x77.length + x78.length + x79.length + x80.length) x63 x76)
theorem core_l0_ok {α:Type}:LoopOk E.P 9 core_P2 0 (lEnt (α := α) (core_S3) core_l0_go) :=
  lEnt_ok E (exec_sound E E_ok (look_check_ok) (noLps_ok _) 400) fun ds Q r h S hS => by
    unfold core_l0_go at h
    obtain ⟨x59,ds,rfl,h1⟩ := dI_inv h
    obtain ⟨x60,ds,rfl,h2⟩ := dI_inv h1
    obtain ⟨x61,ds,rfl,h3⟩ := dI_inv h2
    obtain ⟨x62,ds,rfl,h4⟩ := dI_inv h3
    obtain ⟨x63,ds,rfl,h5⟩ := dI_inv h4
    obtain ⟨x64,ds,rfl,h6⟩ := dI_inv h5
    obtain ⟨x65,ds,rfl,h7⟩ := dI_inv h6
    obtain ⟨x66,ds,rfl,h8⟩ := dI_inv h7
    obtain ⟨x67,ds,rfl,h9⟩ := dI_inv h8
    obtain ⟨x68,ds,rfl,h10⟩ := dI_inv h9
    obtain ⟨x69,ds,rfl,h11⟩ := dV_inv h10
    obtain ⟨x70,ds,rfl,h12⟩ := dL_inv h11
    obtain ⟨x71,ds,rfl,h13⟩ := dI_inv h12
    obtain ⟨x72,ds,rfl,h14⟩ := dL_inv h13
    obtain ⟨x73,ds,rfl,h15⟩ := dL_inv h14
    obtain ⟨x74,ds,rfl,h16⟩ := dL_inv h15
    obtain ⟨x75,ds,rfl,h17⟩ := dI_inv h16
    obtain ⟨x76,ds,rfl,h18⟩ := dL_inv h17
    obtain ⟨x77,ds,rfl,h19⟩ := dL_inv h18
    obtain ⟨x78,ds,rfl,h20⟩ := dL_inv h19
    obtain ⟨x79,ds,rfl,h21⟩ := dL_inv h20
    obtain ⟨x80,ds,rfl,h22⟩ := dL_inv h21
    obtain ⟨rfl,hE⟩ := dE_inv h22
    have e:fillS (core_S3) [.i x59,.i x60,.i x61,.i x62,.i x63,.i x64,.i x65,.i x66,.i x67,.i x68,.v x69,.l kP x70,.i x71,.l kP x72,.l kP x73,.l kP x74,.i x75,.l kP x76,.l kP x77,.l kP x78,.l (K.int IntKind.i64) x79,.l (K.int IntKind.i64) x80] = some (core_S1 x59 x60 x61 x62 x63 x64 x65 x66 x67 x68 x69 x70 x71 x72 x73 x74 x75 x76 x77 x78 x79 x80) := by kernel_rfl
    rw [e] at hS
    cases hS
    exact ⟨_,(core_l0_iter x59 x60 x61 x62 x64 x65 x66 x67 x68 x69 x70 x71 x72 x73 x74 x75 x77 x78 x79 x80 Q _ x63 x76).trans hE⟩
noncomputable def core_l0_lps {α:Type}:LookL α := addLp 9 core_P2 0 (lEnt (core_S3) core_l0_go) noLps
theorem core_l0_lps_ok {α:Type}:LoopsOk E.P (core_l0_lps (α := α)) := addLp_ok core_l0_ok (noLps_ok _)

noncomputable def _root_.Go.Proofs.Ytlagndfhibkjpaa.M.core_l1_step {α:Type} (x84 x89 x90:Int) (x92 x94 x95 x96 x99 x100:L3) (x101:List Int) (kn:Int → L3 → Option α) (k1:L3 → Option α) (x85:Int) (x98:L3):Option α := if cLt x85 x84 = true then if (0:Int) ≤ x85 ∧ x85 < (↑(List.length x101):Int) then M.core_l0 (List.getD x101 (Int.toNat x85) (0:Int)) (↑((1:Nat) + (1:Nat)):Int) x90 [IntKind.wrap .i64 ((0:Int) - x89),x89] (fun (x102:L3) ↦ kn (IntKind.wrap .i64 (x85 + (1:Int))) x102) ((100:Nat) + List.length x92 + List.length x94 + List.length x95 + List.length x96 + List.length x98 + List.length x99 + List.length x100 + List.length x101 + ((1:Nat) + (1:Nat))) (0:Int) x98 else none else k1 x98
noncomputable def _root_.Go.Proofs.Ytlagndfhibkjpaa.M.core_l1 {α:Type} (x84 x89 x90:Int) (x92 x94 x95 x96 x99 x100:L3) (x101:List Int) (k1:L3 → Option α):Nat → Int → L3 → Option α
  | 0,_,_ => none
  | n + 1,x85,x98 => M.core_l1_step x84 x89 x90 x92 x94 x95 x96 x99 x100 x101 (M.core_l1 x84 x89 x90 x92 x94 x95 x96 x99 x100 x101 k1 n) k1 x85 x98
theorem core_l1_step_eq {α:Type} (x84 x85 x86 x87 x88 x89 x90:Int) (x91:Value) (x92:L3) (x93:Int) (x94 x95 x96:L3) (x97:Int) (x98 x99 x100:L3) (x101:List Int) (Q:Ex → St → Option α):(loopStep E (exec E look_check core_l0_lps 400) 9 core_P4 0 (codeAt E.P 9 core_P4)) (core_S2 x84 x85 x86 x87 x88 x89 x90 x91 x92 x93 x94 x95 x96 x97 x98 x99 x100 x101) Q = M.core_l1_step x84 x89 x90 x92 x94 x95 x96 x99 x100 x101 (fun (x104:Int) (x105:L3) => Q .normal (core_S2 x84 x104 x86 x87 x88 x89 x90 x91 x92 x93 x94 x95 x96 x97 x105 x99 x100 x101)) (fun (x103:L3) => Q (.exit 1) (core_S4 x93 x94 x95 x96 x97 x103 x99 x100)) x85 x98 := by kernel_rfl
theorem core_l1_iter {α:Type} (x84 x86 x87 x88 x89 x90:Int) (x91:Value) (x92:L3) (x93:Int) (x94 x95 x96:L3) (x97:Int) (x99 x100:L3) (x101:List Int) (Q:Ex → St → Option α):∀ (n:Nat) (x85:Int) (x98:L3),iter (loopStep E (exec E look_check core_l0_lps 400) 9 core_P4 0 (codeAt E.P 9 core_P4)) n (core_S2 x84 x85 x86 x87 x88 x89 x90 x91 x92 x93 x94 x95 x96 x97 x98 x99 x100 x101) Q = M.core_l1 x84 x89 x90 x92 x94 x95 x96 x99 x100 x101 (fun (x103:L3) => Q (.exit 1) (core_S4 x93 x94 x95 x96 x97 x103 x99 x100)) n x85 x98
  | 0,_,_ => rfl
  | n + 1,x85,x98 => (core_l1_step_eq x84 x85 x86 x87 x88 x89 x90 x91 x92 x93 x94 x95 x96 x97 x98 x99 x100 x101 (iterK (loopStep E (exec E look_check core_l0_lps 400) 9 core_P4 0 (codeAt E.P 9 core_P4)) n Q)).trans (congrArg (fun kn => M.core_l1_step x84 x89 x90 x92 x94 x95 x96 x99 x100 x101 kn (fun (x103:L3) => Q (.exit 1) (core_S4 x93 x94 x95 x96 x97 x103 x99 x100)) x85 x98) (funext fun x85 => funext fun x98 => core_l1_iter x84 x86 x87 x88 x89 x90 x91 x92 x93 x94 x95 x96 x97 x99 x100 x101 Q n x85 x98))
noncomputable def core_l1_go {α:Type} (ds:List D) (Q:Ex → St → Option α):Option α :=
  dI ds fun x84 ds => dI ds fun x85 ds => dI ds fun x86 ds => dI ds fun x87 ds => dI ds fun x88 ds => dI ds fun x89 ds => dI ds fun x90 ds => dV ds fun x91 ds => dL kP ds fun x92 ds => dI ds fun x93 ds => dL kP ds fun x94 ds => dL kP ds fun x95 ds => dL kP ds fun x96 ds => dI ds fun x97 ds => dL kP ds fun x98 ds => dL kP ds fun x99 ds => dL kP ds fun x100 ds => dL (K.int IntKind.i64) ds fun x101 ds => dE ds (M.core_l1 x84 x89 x90 x92 x94 x95 x96 x99 x100 x101 (fun (x103:L3) => Q (.exit 1) (core_S4 x93 x94 x95 x96 x97 x103 x99 x100)) (100 + x92.length + x94.length + x95.length + x96.length + x98.length + x99.length + x100.length + x101.length) x85 x98)
theorem core_l1_ok {α:Type}:LoopOk E.P 9 core_P4 0 (lEnt (α := α) (core_S5) core_l1_go) :=
  lEnt_ok E (exec_sound E E_ok (look_check_ok) (core_l0_lps_ok) 400) fun ds Q r h S hS => by
    unfold core_l1_go at h
    obtain ⟨x84,ds,rfl,h1⟩ := dI_inv h
    obtain ⟨x85,ds,rfl,h2⟩ := dI_inv h1
    obtain ⟨x86,ds,rfl,h3⟩ := dI_inv h2
    obtain ⟨x87,ds,rfl,h4⟩ := dI_inv h3
    obtain ⟨x88,ds,rfl,h5⟩ := dI_inv h4
    obtain ⟨x89,ds,rfl,h6⟩ := dI_inv h5
    obtain ⟨x90,ds,rfl,h7⟩ := dI_inv h6
    obtain ⟨x91,ds,rfl,h8⟩ := dV_inv h7
    obtain ⟨x92,ds,rfl,h9⟩ := dL_inv h8
    obtain ⟨x93,ds,rfl,h10⟩ := dI_inv h9
    obtain ⟨x94,ds,rfl,h11⟩ := dL_inv h10
    obtain ⟨x95,ds,rfl,h12⟩ := dL_inv h11
    obtain ⟨x96,ds,rfl,h13⟩ := dL_inv h12
    obtain ⟨x97,ds,rfl,h14⟩ := dI_inv h13
    obtain ⟨x98,ds,rfl,h15⟩ := dL_inv h14
    obtain ⟨x99,ds,rfl,h16⟩ := dL_inv h15
    obtain ⟨x100,ds,rfl,h17⟩ := dL_inv h16
    obtain ⟨x101,ds,rfl,h18⟩ := dL_inv h17
    obtain ⟨rfl,hE⟩ := dE_inv h18
    have e:fillS (core_S5) [.i x84,.i x85,.i x86,.i x87,.i x88,.i x89,.i x90,.v x91,.l kP x92,.i x93,.l kP x94,.l kP x95,.l kP x96,.i x97,.l kP x98,.l kP x99,.l kP x100,.l (K.int IntKind.i64) x101] = some (core_S2 x84 x85 x86 x87 x88 x89 x90 x91 x92 x93 x94 x95 x96 x97 x98 x99 x100 x101) := by kernel_rfl
    rw [e] at hS
    cases hS
    exact ⟨_,(core_l1_iter x84 x86 x87 x88 x89 x90 x91 x92 x93 x94 x95 x96 x97 x99 x100 x101 Q _ x85 x98).trans hE⟩
noncomputable def core_l1_lps {α:Type}:LookL α := addLp 9 core_P4 0 (lEnt (core_S5) core_l1_go) core_l0_lps
theorem core_l1_lps_ok {α:Type}:LoopsOk E.P (core_l1_lps (α := α)) := addLp_ok core_l1_ok (core_l0_lps_ok)

noncomputable def _root_.Go.Proofs.Ytlagndfhibkjpaa.M.core_l2_step {α:Type} (x276:Int) (x297:L3) (kn:Int → L3 → Option α) (k1:L3 → Option α) (x277:Int) (x296:L3):Option α := if cLt x277 x276 = true then if (0:Int) ≤ x277 ∧ x277 < (↑(List.length x297):Int) then if V.lenB (List.length x296) = true then if (!V.hasP x296 (V.pShort (List.getD x297 (Int.toNat x277) ((0:Int),(0:Int),(0:Int))))) = true then if V.lenB (List.length x296) = true then if (!V.hasP x296 (V.pSub ((0:Int),(0:Int),(0:Int)) (V.pShort (List.getD x297 (Int.toNat x277) ((0:Int),(0:Int),(0:Int)))))) = true then if (List.length x296 + ((0:Nat) + (1:Nat))) * (24:Nat) ≤ (140737488355328:Nat) then kn (IntKind.wrap .i64 (x277 + (1:Int))) (x296 ++ [V.pShort (List.getD x297 (Int.toNat x277) ((0:Int),(0:Int),(0:Int)))]) else none else kn (IntKind.wrap .i64 (x277 + (1:Int))) x296 else none else kn (IntKind.wrap .i64 (x277 + (1:Int))) x296 else none else none else k1 x296
noncomputable def _root_.Go.Proofs.Ytlagndfhibkjpaa.M.core_l2 {α:Type} (x276:Int) (x297:L3) (k1:L3 → Option α):Nat → Int → L3 → Option α
  | 0,_,_ => none
  | n + 1,x277,x296 => M.core_l2_step x276 x297 (M.core_l2 x276 x297 k1 n) k1 x277 x296
theorem core_l2_step_eq {α:Type} (x271 x272 x273 x274 x275 x276 x277 x278 x279 x280 x281 x282:Int) (x283:Value) (x284 x285 x286 x287:L3) (x288:Int) (x289 x290 x291:L3) (x292:Int) (x293 x294 x295 x296 x297:L3) (Q:Ex → St → Option α):(loopStep E (exec E look_check core_l1_lps 400) 30 core_P1 13 (codeAt E.P 30 core_P1)) (core_S6 x271 x272 x273 x274 x275 x276 x277 x278 x279 x280 x281 x282 x283 x284 x285 x286 x287 x288 x289 x290 x291 x292 x293 x294 x295 x296 x297) Q = M.core_l2_step x276 x297 (fun (x299:Int) (x300:L3) => Q .normal (core_S6 x271 x272 x273 x274 x275 x276 x299 x278 x279 x280 x281 x282 x283 x284 x285 x286 x287 x288 x289 x290 x291 x292 x293 x294 x295 x300 x297)) (fun (x298:L3) => Q (.exit 6) (core_S7 x271 x272 x273 x274 x275 x278 x279 x280 x281 x282 x283 x284 x285 x286 x287 x288 x289 x290 x291 x292 x293 x294 x295 x298)) x277 x296 := by kernel_rfl
theorem core_l2_iter {α:Type} (x271 x272 x273 x274 x275 x276 x278 x279 x280 x281 x282:Int) (x283:Value) (x284 x285 x286 x287:L3) (x288:Int) (x289 x290 x291:L3) (x292:Int) (x293 x294 x295 x297:L3) (Q:Ex → St → Option α):∀ (n:Nat) (x277:Int) (x296:L3),iter (loopStep E (exec E look_check core_l1_lps 400) 30 core_P1 13 (codeAt E.P 30 core_P1)) n (core_S6 x271 x272 x273 x274 x275 x276 x277 x278 x279 x280 x281 x282 x283 x284 x285 x286 x287 x288 x289 x290 x291 x292 x293 x294 x295 x296 x297) Q = M.core_l2 x276 x297 (fun (x298:L3) => Q (.exit 6) (core_S7 x271 x272 x273 x274 x275 x278 x279 x280 x281 x282 x283 x284 x285 x286 x287 x288 x289 x290 x291 x292 x293 x294 x295 x298)) n x277 x296
  | 0,_,_ => rfl
  | n + 1,x277,x296 => (core_l2_step_eq x271 x272 x273 x274 x275 x276 x277 x278 x279 x280 x281 x282 x283 x284 x285 x286 x287 x288 x289 x290 x291 x292 x293 x294 x295 x296 x297 (iterK (loopStep E (exec E look_check core_l1_lps 400) 30 core_P1 13 (codeAt E.P 30 core_P1)) n Q)).trans (congrArg (fun kn => M.core_l2_step x276 x297 kn (fun (x298:L3) => Q (.exit 6) (core_S7 x271 x272 x273 x274 x275 x278 x279 x280 x281 x282 x283 x284 x285 x286 x287 x288 x289 x290 x291 x292 x293 x294 x295 x298)) x277 x296) (funext fun x277 => funext fun x296 => core_l2_iter x271 x272 x273 x274 x275 x276 x278 x279 x280 x281 x282 x283 x284 x285 x286 x287 x288 x289 x290 x291 x292 x293 x294 x295 x297 Q n x277 x296))
noncomputable def core_l2_go {α:Type} (ds:List D) (Q:Ex → St → Option α):Option α :=
  dI ds fun x271 ds => dI ds fun x272 ds => dI ds fun x273 ds => dI ds fun x274 ds => dI ds fun x275 ds => dI ds fun x276 ds => dI ds fun x277 ds => dI ds fun x278 ds => dI ds fun x279 ds => dI ds fun x280 ds => dI ds fun x281 ds => dI ds fun x282 ds => dV ds fun x283 ds => dL kP ds fun x284 ds => dL kP ds fun x285 ds => dL kP ds fun x286 ds => dL kP ds fun x287 ds => dI ds fun x288 ds => dL kP ds fun x289 ds => dL kP ds fun x290 ds => dL kP ds fun x291 ds => dI ds fun x292 ds => dL kP ds fun x293 ds => dL kP ds fun x294 ds => dL kP ds fun x295 ds => dL kP ds fun x296 ds => dL kP ds fun x297 ds => dE ds (M.core_l2 x276 x297 (fun (x298:L3) => Q (.exit 6) (core_S7 x271 x272 x273 x274 x275 x278 x279 x280 x281 x282 x283 x284 x285 x286 x287 x288 x289 x290 x291 x292 x293 x294 x295 x298)) (100 + x284.length + x285.length + x286.length + x287.length + x289.length + x290.length + x291.length + x293.length + x294.length + x295.length + x296.length + x297.length) x277 x296)
theorem core_l2_ok {α:Type}:LoopOk E.P 30 core_P1 13 (lEnt (α := α) (core_S8) core_l2_go) :=
  lEnt_ok E (exec_sound E E_ok (look_check_ok) (core_l1_lps_ok) 400) fun ds Q r h S hS => by
    unfold core_l2_go at h
    obtain ⟨x271,ds,rfl,h1⟩ := dI_inv h
    obtain ⟨x272,ds,rfl,h2⟩ := dI_inv h1
    obtain ⟨x273,ds,rfl,h3⟩ := dI_inv h2
    obtain ⟨x274,ds,rfl,h4⟩ := dI_inv h3
    obtain ⟨x275,ds,rfl,h5⟩ := dI_inv h4
    obtain ⟨x276,ds,rfl,h6⟩ := dI_inv h5
    obtain ⟨x277,ds,rfl,h7⟩ := dI_inv h6
    obtain ⟨x278,ds,rfl,h8⟩ := dI_inv h7
    obtain ⟨x279,ds,rfl,h9⟩ := dI_inv h8
    obtain ⟨x280,ds,rfl,h10⟩ := dI_inv h9
    obtain ⟨x281,ds,rfl,h11⟩ := dI_inv h10
    obtain ⟨x282,ds,rfl,h12⟩ := dI_inv h11
    obtain ⟨x283,ds,rfl,h13⟩ := dV_inv h12
    obtain ⟨x284,ds,rfl,h14⟩ := dL_inv h13
    obtain ⟨x285,ds,rfl,h15⟩ := dL_inv h14
    obtain ⟨x286,ds,rfl,h16⟩ := dL_inv h15
    obtain ⟨x287,ds,rfl,h17⟩ := dL_inv h16
    obtain ⟨x288,ds,rfl,h18⟩ := dI_inv h17
    obtain ⟨x289,ds,rfl,h19⟩ := dL_inv h18
    obtain ⟨x290,ds,rfl,h20⟩ := dL_inv h19
    obtain ⟨x291,ds,rfl,h21⟩ := dL_inv h20
    obtain ⟨x292,ds,rfl,h22⟩ := dI_inv h21
    obtain ⟨x293,ds,rfl,h23⟩ := dL_inv h22
    obtain ⟨x294,ds,rfl,h24⟩ := dL_inv h23
    obtain ⟨x295,ds,rfl,h25⟩ := dL_inv h24
    obtain ⟨x296,ds,rfl,h26⟩ := dL_inv h25
    obtain ⟨x297,ds,rfl,h27⟩ := dL_inv h26
    obtain ⟨rfl,hE⟩ := dE_inv h27
    have e:fillS (core_S8) [.i x271,.i x272,.i x273,.i x274,.i x275,.i x276,.i x277,.i x278,.i x279,.i x280,.i x281,.i x282,.v x283,.l kP x284,.l kP x285,.l kP x286,.l kP x287,.i x288,.l kP x289,.l kP x290,.l kP x291,.i x292,.l kP x293,.l kP x294,.l kP x295,.l kP x296,.l kP x297] = some (core_S6 x271 x272 x273 x274 x275 x276 x277 x278 x279 x280 x281 x282 x283 x284 x285 x286 x287 x288 x289 x290 x291 x292 x293 x294 x295 x296 x297) := by kernel_rfl
    rw [e] at hS
    cases hS
    exact ⟨_,(core_l2_iter x271 x272 x273 x274 x275 x276 x278 x279 x280 x281 x282 x283 x284 x285 x286 x287 x288 x289 x290 x291 x292 x293 x294 x295 x297 Q _ x277 x296).trans hE⟩
noncomputable def core_l2_lps {α:Type}:LookL α := addLp 30 core_P1 13 (lEnt (core_S8) core_l2_go) core_l1_lps
theorem core_l2_lps_ok {α:Type}:LoopsOk E.P (core_l2_lps (α := α)) := addLp_ok core_l2_ok (core_l1_lps_ok)

noncomputable def _root_.Go.Proofs.Ytlagndfhibkjpaa.M.core_l3_step {α:Type} (x301 x302:Int) (x312 x313 x314 x315 x317 x318 x319 x321 x322:L3) (kn:Int → L3 → L3 → Option α) (k0:L3 → L3 → Option α) (k1:L3 → L3 → Option α) (x303:Int) (x323 x324:L3):Option α := let s327:Nat := List.length x322; let s328:Nat := List.length x323; let s329:Nat := List.length x324; let s330:Int := (↑s327:Int); let s331:K.T kP := List.getD x322 (Int.toNat x302) ((0:Int),(0:Int),(0:Int)); let s332:K.T kP := List.getD x322 (Int.toNat x301) ((0:Int),(0:Int),(0:Int)); let s333:P3 := V.pSub (List.getD x322 (Int.toNat x303) ((0:Int),(0:Int),(0:Int))) s332; let s334:P3 := V.pSub s331 s332; let s335:P3 := V.pCross s334 s333; let s336:Int × Int := Prod.snd s335; let s337:Int := Prod.fst s335; let s338:Int := Prod.fst s336; let s339:Int := Prod.snd s336; let s340:Int := V.sideP x322 s335 s332; let s341:P3 := V.pShort (IntKind.wrap .i64 (s340 * s337),IntKind.wrap .i64 (s340 * s338),IntKind.wrap .i64 (s340 * s339)); let s342:List (K.T kP) := x323 ++ [s341]; if cEq x303 s330 = true then if cEq x302 (IntKind.wrap .i64 (s330 - (1:Int))) = true then k0 x323 x324 else k1 x323 x324 else if (0:Int) ≤ x302 ∧ x302 < s330 then if (0:Int) ≤ x301 ∧ x301 < s330 then if (0:Int) ≤ x303 ∧ x303 < s330 then if (0:Int) ≤ x301 ∧ x301 < s330 then if (0:Int) ≤ x301 ∧ x301 < s330 then if V.lenB (List.length x322) = true then if (cEq s337 (0:Int) && (cEq s338 (0:Int) && (cEq s339 (0:Int) && true))) = true then kn (IntKind.wrap .i64 (x303 + (1:Int))) x323 x324 else if cEq s340 (0:Int) = true then kn (IntKind.wrap .i64 (x303 + (1:Int))) x323 x324 else if V.lenB (List.length x323) = true then if (!V.hasP x323 s341) = true then if (s328 + ((0:Nat) + (1:Nat))) * (24:Nat) ≤ (140737488355328:Nat) then if (0:Int) ≤ x302 ∧ x302 < s330 then if (0:Int) ≤ x301 ∧ x301 < s330 then if (0:Int) ≤ x303 ∧ x303 < s330 then if (0:Int) ≤ x301 ∧ x301 < s330 then if (0:Int) ≤ x303 ∧ x303 < s330 then if (0:Int) ≤ x302 ∧ x302 < s330 then M.core_l2 (↑((2:Nat) + (1:Nat)):Int) [s334,s333,V.pSub (List.getD x322 (Int.toNat x303) ((0:Int),(0:Int),(0:Int))) s331] (fun (x325:L3) ↦ kn (IntKind.wrap .i64 (x303 + (1:Int))) s342 x325) ((100:Nat) + List.length x312 + List.length x313 + List.length x314 + List.length x315 + List.length x317 + List.length x318 + List.length x319 + List.length x321 + s327 + List.length s342 + s329 + ((2:Nat) + (1:Nat))) (0:Int) x324 else none else none else none else none else none else none else none else if (0:Int) ≤ x302 ∧ x302 < s330 then if (0:Int) ≤ x301 ∧ x301 < s330 then if (0:Int) ≤ x303 ∧ x303 < s330 then if (0:Int) ≤ x301 ∧ x301 < s330 then if (0:Int) ≤ x303 ∧ x303 < s330 then if (0:Int) ≤ x302 ∧ x302 < s330 then M.core_l2 (↑((2:Nat) + (1:Nat)):Int) [s334,s333,V.pSub (List.getD x322 (Int.toNat x303) ((0:Int),(0:Int),(0:Int))) s331] (fun (x326:L3) ↦ kn (IntKind.wrap .i64 (x303 + (1:Int))) x323 x326) ((100:Nat) + List.length x312 + List.length x313 + List.length x314 + List.length x315 + List.length x317 + List.length x318 + List.length x319 + List.length x321 + s327 + s328 + s329 + ((2:Nat) + (1:Nat))) (0:Int) x324 else none else none else none else none else none else none else none else none else none else none else none else none else none
noncomputable def _root_.Go.Proofs.Ytlagndfhibkjpaa.M.core_l3 {α:Type} (x301 x302:Int) (x312 x313 x314 x315 x317 x318 x319 x321 x322:L3) (k0:L3 → L3 → Option α) (k1:L3 → L3 → Option α):Nat → Int → L3 → L3 → Option α
  | 0,_,_,_ => none
  | n + 1,x303,x323,x324 => M.core_l3_step x301 x302 x312 x313 x314 x315 x317 x318 x319 x321 x322 (M.core_l3 x301 x302 x312 x313 x314 x315 x317 x318 x319 x321 x322 k0 k1 n) k0 k1 x303 x323 x324
theorem core_l3_step_eq {α:Type} (x301 x302 x303 x304 x305 x306 x307 x308 x309 x310:Int) (x311:Value) (x312 x313 x314 x315:L3) (x316:Int) (x317 x318 x319:L3) (x320:Int) (x321 x322 x323 x324:L3) (Q:Ex → St → Option α):(loopStep E (exec E look_check core_l2_lps 400) 30 core_P3 13 (codeAt E.P 30 core_P3)) (core_S7 x301 x302 x303 x304 x305 x306 x307 x308 x309 x310 x311 x312 x313 x314 x315 x316 x317 x318 x319 x320 x321 x322 x323 x324) Q = M.core_l3_step x301 x302 x312 x313 x314 x315 x317 x318 x319 x321 x322 (fun (x347:Int) (x348 x349:L3) => Q .normal (core_S7 x301 x302 x347 x304 x305 x306 x307 x308 x309 x310 x311 x312 x313 x314 x315 x316 x317 x318 x319 x320 x321 x322 x348 x349)) (fun (x343 x344:L3) => Q (.exit 1) (core_S9 x301 x302 x304 x305 x306 x307 x308 x309 x310 x311 x312 x313 x314 x315 x316 x317 x318 x319 x320 x321 x322 x343 x344)) (fun (x345 x346:L3) => Q (.exit 4) (core_S9 x301 x302 x304 x305 x306 x307 x308 x309 x310 x311 x312 x313 x314 x315 x316 x317 x318 x319 x320 x321 x322 x345 x346)) x303 x323 x324 := by kernel_rfl
theorem core_l3_iter {α:Type} (x301 x302 x304 x305 x306 x307 x308 x309 x310:Int) (x311:Value) (x312 x313 x314 x315:L3) (x316:Int) (x317 x318 x319:L3) (x320:Int) (x321 x322:L3) (Q:Ex → St → Option α):∀ (n:Nat) (x303:Int) (x323 x324:L3),iter (loopStep E (exec E look_check core_l2_lps 400) 30 core_P3 13 (codeAt E.P 30 core_P3)) n (core_S7 x301 x302 x303 x304 x305 x306 x307 x308 x309 x310 x311 x312 x313 x314 x315 x316 x317 x318 x319 x320 x321 x322 x323 x324) Q = M.core_l3 x301 x302 x312 x313 x314 x315 x317 x318 x319 x321 x322 (fun (x343 x344:L3) => Q (.exit 1) (core_S9 x301 x302 x304 x305 x306 x307 x308 x309 x310 x311 x312 x313 x314 x315 x316 x317 x318 x319 x320 x321 x322 x343 x344)) (fun (x345 x346:L3) => Q (.exit 4) (core_S9 x301 x302 x304 x305 x306 x307 x308 x309 x310 x311 x312 x313 x314 x315 x316 x317 x318 x319 x320 x321 x322 x345 x346)) n x303 x323 x324
  | 0,_,_,_ => rfl
  | n + 1,x303,x323,x324 => (core_l3_step_eq x301 x302 x303 x304 x305 x306 x307 x308 x309 x310 x311 x312 x313 x314 x315 x316 x317 x318 x319 x320 x321 x322 x323 x324 (iterK (loopStep E (exec E look_check core_l2_lps 400) 30 core_P3 13 (codeAt E.P 30 core_P3)) n Q)).trans (congrArg (fun kn => M.core_l3_step x301 x302 x312 x313 x314 x315 x317 x318 x319 x321 x322 kn (fun (x343 x344:L3) => Q (.exit 1) (core_S9 x301 x302 x304 x305 x306 x307 x308 x309 x310 x311 x312 x313 x314 x315 x316 x317 x318 x319 x320 x321 x322 x343 x344)) (fun (x345 x346:L3) => Q (.exit 4) (core_S9 x301 x302 x304 x305 x306 x307 x308 x309 x310 x311 x312 x313 x314 x315 x316 x317 x318 x319 x320 x321 x322 x345 x346)) x303 x323 x324) (funext fun x303 => funext fun x323 => funext fun x324 => core_l3_iter x301 x302 x304 x305 x306 x307 x308 x309 x310 x311 x312 x313 x314 x315 x316 x317 x318 x319 x320 x321 x322 Q n x303 x323 x324))
noncomputable def core_l3_go {α:Type} (ds:List D) (Q:Ex → St → Option α):Option α :=
  dI ds fun x301 ds => dI ds fun x302 ds => dI ds fun x303 ds => dI ds fun x304 ds => dI ds fun x305 ds => dI ds fun x306 ds => dI ds fun x307 ds => dI ds fun x308 ds => dI ds fun x309 ds => dI ds fun x310 ds => dV ds fun x311 ds => dL kP ds fun x312 ds => dL kP ds fun x313 ds => dL kP ds fun x314 ds => dL kP ds fun x315 ds => dI ds fun x316 ds => dL kP ds fun x317 ds => dL kP ds fun x318 ds => dL kP ds fun x319 ds => dI ds fun x320 ds => dL kP ds fun x321 ds => dL kP ds fun x322 ds => dL kP ds fun x323 ds => dL kP ds fun x324 ds => dE ds (M.core_l3 x301 x302 x312 x313 x314 x315 x317 x318 x319 x321 x322 (fun (x343 x344:L3) => Q (.exit 1) (core_S9 x301 x302 x304 x305 x306 x307 x308 x309 x310 x311 x312 x313 x314 x315 x316 x317 x318 x319 x320 x321 x322 x343 x344)) (fun (x345 x346:L3) => Q (.exit 4) (core_S9 x301 x302 x304 x305 x306 x307 x308 x309 x310 x311 x312 x313 x314 x315 x316 x317 x318 x319 x320 x321 x322 x345 x346)) (100 + x312.length + x313.length + x314.length + x315.length + x317.length + x318.length + x319.length + x321.length + x322.length + x323.length + x324.length) x303 x323 x324)
theorem core_l3_ok {α:Type}:LoopOk E.P 30 core_P3 13 (lEnt (α := α) (core_S10) core_l3_go) :=
  lEnt_ok E (exec_sound E E_ok (look_check_ok) (core_l2_lps_ok) 400) fun ds Q r h S hS => by
    unfold core_l3_go at h
    obtain ⟨x301,ds,rfl,h1⟩ := dI_inv h
    obtain ⟨x302,ds,rfl,h2⟩ := dI_inv h1
    obtain ⟨x303,ds,rfl,h3⟩ := dI_inv h2
    obtain ⟨x304,ds,rfl,h4⟩ := dI_inv h3
    obtain ⟨x305,ds,rfl,h5⟩ := dI_inv h4
    obtain ⟨x306,ds,rfl,h6⟩ := dI_inv h5
    obtain ⟨x307,ds,rfl,h7⟩ := dI_inv h6
    obtain ⟨x308,ds,rfl,h8⟩ := dI_inv h7
    obtain ⟨x309,ds,rfl,h9⟩ := dI_inv h8
    obtain ⟨x310,ds,rfl,h10⟩ := dI_inv h9
    obtain ⟨x311,ds,rfl,h11⟩ := dV_inv h10
    obtain ⟨x312,ds,rfl,h12⟩ := dL_inv h11
    obtain ⟨x313,ds,rfl,h13⟩ := dL_inv h12
    obtain ⟨x314,ds,rfl,h14⟩ := dL_inv h13
    obtain ⟨x315,ds,rfl,h15⟩ := dL_inv h14
    obtain ⟨x316,ds,rfl,h16⟩ := dI_inv h15
    obtain ⟨x317,ds,rfl,h17⟩ := dL_inv h16
    obtain ⟨x318,ds,rfl,h18⟩ := dL_inv h17
    obtain ⟨x319,ds,rfl,h19⟩ := dL_inv h18
    obtain ⟨x320,ds,rfl,h20⟩ := dI_inv h19
    obtain ⟨x321,ds,rfl,h21⟩ := dL_inv h20
    obtain ⟨x322,ds,rfl,h22⟩ := dL_inv h21
    obtain ⟨x323,ds,rfl,h23⟩ := dL_inv h22
    obtain ⟨x324,ds,rfl,h24⟩ := dL_inv h23
    obtain ⟨rfl,hE⟩ := dE_inv h24
    have e:fillS (core_S10) [.i x301,.i x302,.i x303,.i x304,.i x305,.i x306,.i x307,.i x308,.i x309,.i x310,.v x311,.l kP x312,.l kP x313,.l kP x314,.l kP x315,.i x316,.l kP x317,.l kP x318,.l kP x319,.i x320,.l kP x321,.l kP x322,.l kP x323,.l kP x324] = some (core_S7 x301 x302 x303 x304 x305 x306 x307 x308 x309 x310 x311 x312 x313 x314 x315 x316 x317 x318 x319 x320 x321 x322 x323 x324) := by kernel_rfl
    rw [e] at hS
    cases hS
    exact ⟨_,(core_l3_iter x301 x302 x304 x305 x306 x307 x308 x309 x310 x311 x312 x313 x314 x315 x316 x317 x318 x319 x320 x321 x322 Q _ x303 x323 x324).trans hE⟩
noncomputable def core_l3_lps {α:Type}:LookL α := addLp 30 core_P3 13 (lEnt (core_S10) core_l3_go) core_l2_lps
theorem core_l3_lps_ok {α:Type}:LoopsOk E.P (core_l3_lps (α := α)) := addLp_ok core_l3_ok (core_l2_lps_ok)

noncomputable def _root_.Go.Proofs.Ytlagndfhibkjpaa.M.core_l4_step {α:Type} (x350:Int) (x360 x361 x362 x363 x365 x366 x367 x369 x370:L3) (kn:Int → L3 → L3 → Option α) (k0:L3 → L3 → Option α) (k2:L3 → L3 → Option α) (x351:Int) (x371 x372:L3):Option α := if cLt x351 (↑(List.length x370):Int) = true then M.core_l3 x350 x351 x360 x361 x362 x363 x365 x366 x367 x369 x370 (fun (x373 x374:L3) ↦ k0 x373 x374) (fun (x375 x376:L3) ↦ kn (IntKind.wrap .i64 (x351 + (1:Int))) x375 x376) ((100:Nat) + List.length x360 + List.length x361 + List.length x362 + List.length x363 + List.length x365 + List.length x366 + List.length x367 + List.length x369 + List.length x370 + List.length x371 + List.length x372) (IntKind.wrap .i64 (x351 + (1:Int))) x371 x372 else k2 x371 x372
noncomputable def _root_.Go.Proofs.Ytlagndfhibkjpaa.M.core_l4 {α:Type} (x350:Int) (x360 x361 x362 x363 x365 x366 x367 x369 x370:L3) (k0:L3 → L3 → Option α) (k2:L3 → L3 → Option α):Nat → Int → L3 → L3 → Option α
  | 0,_,_,_ => none
  | n + 1,x351,x371,x372 => M.core_l4_step x350 x360 x361 x362 x363 x365 x366 x367 x369 x370 (M.core_l4 x350 x360 x361 x362 x363 x365 x366 x367 x369 x370 k0 k2 n) k0 k2 x351 x371 x372
theorem core_l4_step_eq {α:Type} (x350 x351 x352 x353 x354 x355 x356 x357 x358:Int) (x359:Value) (x360 x361 x362 x363:L3) (x364:Int) (x365 x366 x367:L3) (x368:Int) (x369 x370 x371 x372:L3) (Q:Ex → St → Option α):(loopStep E (exec E look_check core_l3_lps 400) 30 core_P5 13 (codeAt E.P 30 core_P5)) (core_S9 x350 x351 x352 x353 x354 x355 x356 x357 x358 x359 x360 x361 x362 x363 x364 x365 x366 x367 x368 x369 x370 x371 x372) Q = M.core_l4_step x350 x360 x361 x362 x363 x365 x366 x367 x369 x370 (fun (x381:Int) (x382 x383:L3) => Q .normal (core_S9 x350 x381 x352 x353 x354 x355 x356 x357 x358 x359 x360 x361 x362 x363 x364 x365 x366 x367 x368 x369 x370 x382 x383)) (fun (x377 x378:L3) => Q (.exit 1) (core_S11 x352 x353 x354 x355 x356 x357 x358 x359 x360 x361 x362 x363 x364 x365 x366 x367 x368 x369 x370 x377 x378)) (fun (x379 x380:L3) => Q (.exit 2) (core_S11 x352 x353 x354 x355 x356 x357 x358 x359 x360 x361 x362 x363 x364 x365 x366 x367 x368 x369 x370 x379 x380)) x351 x371 x372 := by kernel_rfl
theorem core_l4_iter {α:Type} (x350 x352 x353 x354 x355 x356 x357 x358:Int) (x359:Value) (x360 x361 x362 x363:L3) (x364:Int) (x365 x366 x367:L3) (x368:Int) (x369 x370:L3) (Q:Ex → St → Option α):∀ (n:Nat) (x351:Int) (x371 x372:L3),iter (loopStep E (exec E look_check core_l3_lps 400) 30 core_P5 13 (codeAt E.P 30 core_P5)) n (core_S9 x350 x351 x352 x353 x354 x355 x356 x357 x358 x359 x360 x361 x362 x363 x364 x365 x366 x367 x368 x369 x370 x371 x372) Q = M.core_l4 x350 x360 x361 x362 x363 x365 x366 x367 x369 x370 (fun (x377 x378:L3) => Q (.exit 1) (core_S11 x352 x353 x354 x355 x356 x357 x358 x359 x360 x361 x362 x363 x364 x365 x366 x367 x368 x369 x370 x377 x378)) (fun (x379 x380:L3) => Q (.exit 2) (core_S11 x352 x353 x354 x355 x356 x357 x358 x359 x360 x361 x362 x363 x364 x365 x366 x367 x368 x369 x370 x379 x380)) n x351 x371 x372
  | 0,_,_,_ => rfl
  | n + 1,x351,x371,x372 => (core_l4_step_eq x350 x351 x352 x353 x354 x355 x356 x357 x358 x359 x360 x361 x362 x363 x364 x365 x366 x367 x368 x369 x370 x371 x372 (iterK (loopStep E (exec E look_check core_l3_lps 400) 30 core_P5 13 (codeAt E.P 30 core_P5)) n Q)).trans (congrArg (fun kn => M.core_l4_step x350 x360 x361 x362 x363 x365 x366 x367 x369 x370 kn (fun (x377 x378:L3) => Q (.exit 1) (core_S11 x352 x353 x354 x355 x356 x357 x358 x359 x360 x361 x362 x363 x364 x365 x366 x367 x368 x369 x370 x377 x378)) (fun (x379 x380:L3) => Q (.exit 2) (core_S11 x352 x353 x354 x355 x356 x357 x358 x359 x360 x361 x362 x363 x364 x365 x366 x367 x368 x369 x370 x379 x380)) x351 x371 x372) (funext fun x351 => funext fun x371 => funext fun x372 => core_l4_iter x350 x352 x353 x354 x355 x356 x357 x358 x359 x360 x361 x362 x363 x364 x365 x366 x367 x368 x369 x370 Q n x351 x371 x372))
noncomputable def core_l4_go {α:Type} (ds:List D) (Q:Ex → St → Option α):Option α :=
  dI ds fun x350 ds => dI ds fun x351 ds => dI ds fun x352 ds => dI ds fun x353 ds => dI ds fun x354 ds => dI ds fun x355 ds => dI ds fun x356 ds => dI ds fun x357 ds => dI ds fun x358 ds => dV ds fun x359 ds => dL kP ds fun x360 ds => dL kP ds fun x361 ds => dL kP ds fun x362 ds => dL kP ds fun x363 ds => dI ds fun x364 ds => dL kP ds fun x365 ds => dL kP ds fun x366 ds => dL kP ds fun x367 ds => dI ds fun x368 ds => dL kP ds fun x369 ds => dL kP ds fun x370 ds => dL kP ds fun x371 ds => dL kP ds fun x372 ds => dE ds (M.core_l4 x350 x360 x361 x362 x363 x365 x366 x367 x369 x370 (fun (x377 x378:L3) => Q (.exit 1) (core_S11 x352 x353 x354 x355 x356 x357 x358 x359 x360 x361 x362 x363 x364 x365 x366 x367 x368 x369 x370 x377 x378)) (fun (x379 x380:L3) => Q (.exit 2) (core_S11 x352 x353 x354 x355 x356 x357 x358 x359 x360 x361 x362 x363 x364 x365 x366 x367 x368 x369 x370 x379 x380)) (100 + x360.length + x361.length + x362.length + x363.length + x365.length + x366.length + x367.length + x369.length + x370.length + x371.length + x372.length) x351 x371 x372)
theorem core_l4_ok {α:Type}:LoopOk E.P 30 core_P5 13 (lEnt (α := α) (core_S12) core_l4_go) :=
  lEnt_ok E (exec_sound E E_ok (look_check_ok) (core_l3_lps_ok) 400) fun ds Q r h S hS => by
    unfold core_l4_go at h
    obtain ⟨x350,ds,rfl,h1⟩ := dI_inv h
    obtain ⟨x351,ds,rfl,h2⟩ := dI_inv h1
    obtain ⟨x352,ds,rfl,h3⟩ := dI_inv h2
    obtain ⟨x353,ds,rfl,h4⟩ := dI_inv h3
    obtain ⟨x354,ds,rfl,h5⟩ := dI_inv h4
    obtain ⟨x355,ds,rfl,h6⟩ := dI_inv h5
    obtain ⟨x356,ds,rfl,h7⟩ := dI_inv h6
    obtain ⟨x357,ds,rfl,h8⟩ := dI_inv h7
    obtain ⟨x358,ds,rfl,h9⟩ := dI_inv h8
    obtain ⟨x359,ds,rfl,h10⟩ := dV_inv h9
    obtain ⟨x360,ds,rfl,h11⟩ := dL_inv h10
    obtain ⟨x361,ds,rfl,h12⟩ := dL_inv h11
    obtain ⟨x362,ds,rfl,h13⟩ := dL_inv h12
    obtain ⟨x363,ds,rfl,h14⟩ := dL_inv h13
    obtain ⟨x364,ds,rfl,h15⟩ := dI_inv h14
    obtain ⟨x365,ds,rfl,h16⟩ := dL_inv h15
    obtain ⟨x366,ds,rfl,h17⟩ := dL_inv h16
    obtain ⟨x367,ds,rfl,h18⟩ := dL_inv h17
    obtain ⟨x368,ds,rfl,h19⟩ := dI_inv h18
    obtain ⟨x369,ds,rfl,h20⟩ := dL_inv h19
    obtain ⟨x370,ds,rfl,h21⟩ := dL_inv h20
    obtain ⟨x371,ds,rfl,h22⟩ := dL_inv h21
    obtain ⟨x372,ds,rfl,h23⟩ := dL_inv h22
    obtain ⟨rfl,hE⟩ := dE_inv h23
    have e:fillS (core_S12) [.i x350,.i x351,.i x352,.i x353,.i x354,.i x355,.i x356,.i x357,.i x358,.v x359,.l kP x360,.l kP x361,.l kP x362,.l kP x363,.i x364,.l kP x365,.l kP x366,.l kP x367,.i x368,.l kP x369,.l kP x370,.l kP x371,.l kP x372] = some (core_S9 x350 x351 x352 x353 x354 x355 x356 x357 x358 x359 x360 x361 x362 x363 x364 x365 x366 x367 x368 x369 x370 x371 x372) := by kernel_rfl
    rw [e] at hS
    cases hS
    exact ⟨_,(core_l4_iter x350 x352 x353 x354 x355 x356 x357 x358 x359 x360 x361 x362 x363 x364 x365 x366 x367 x368 x369 x370 Q _ x351 x371 x372).trans hE⟩
noncomputable def core_l4_lps {α:Type}:LookL α := addLp 30 core_P5 13 (lEnt (core_S12) core_l4_go) core_l3_lps
theorem core_l4_lps_ok {α:Type}:LoopsOk E.P (core_l4_lps (α := α)) := addLp_ok core_l4_ok (core_l3_lps_ok)

noncomputable def _root_.Go.Proofs.Ytlagndfhibkjpaa.M.core_l5_step {α:Type} (x384:Int) (x392 x393 x394 x395 x397 x398 x399 x401 x402:L3) (kn:Int → L3 → L3 → Option α) (k1:L3 → L3 → Option α) (x385:Int) (x403 x404:L3):Option α := if cLt x385 x384 = true then M.core_l4 x385 x392 x393 x394 x395 x397 x398 x399 x401 x402 (fun (x405 x406:L3) ↦ kn (IntKind.wrap .i64 (x385 + (1:Int))) x405 x406) (fun (x407 x408:L3) ↦ kn (IntKind.wrap .i64 (x385 + (1:Int))) x407 x408) ((100:Nat) + List.length x392 + List.length x393 + List.length x394 + List.length x395 + List.length x397 + List.length x398 + List.length x399 + List.length x401 + List.length x402 + List.length x403 + List.length x404) (IntKind.wrap .i64 (x385 + (1:Int))) x403 x404 else k1 x403 x404
noncomputable def _root_.Go.Proofs.Ytlagndfhibkjpaa.M.core_l5 {α:Type} (x384:Int) (x392 x393 x394 x395 x397 x398 x399 x401 x402:L3) (k1:L3 → L3 → Option α):Nat → Int → L3 → L3 → Option α
  | 0,_,_,_ => none
  | n + 1,x385,x403,x404 => M.core_l5_step x384 x392 x393 x394 x395 x397 x398 x399 x401 x402 (M.core_l5 x384 x392 x393 x394 x395 x397 x398 x399 x401 x402 k1 n) k1 x385 x403 x404
theorem core_l5_step_eq {α:Type} (x384 x385 x386 x387 x388 x389 x390:Int) (x391:Value) (x392 x393 x394 x395:L3) (x396:Int) (x397 x398 x399:L3) (x400:Int) (x401 x402 x403 x404:L3) (Q:Ex → St → Option α):(loopStep E (exec E look_check core_l4_lps 400) 30 [false,true,true,true,false] 13 (codeAt E.P 30 [false,true,true,true,false])) (core_S11 x384 x385 x386 x387 x388 x389 x390 x391 x392 x393 x394 x395 x396 x397 x398 x399 x400 x401 x402 x403 x404) Q = M.core_l5_step x384 x392 x393 x394 x395 x397 x398 x399 x401 x402 (fun (x411:Int) (x412 x413:L3) => Q .normal (core_S11 x384 x411 x386 x387 x388 x389 x390 x391 x392 x393 x394 x395 x396 x397 x398 x399 x400 x401 x402 x412 x413)) (fun (x409 x410:L3) => Q (.exit 0) (core_S13 x386 x387 x388 x389 x390 x391 x392 x393 x394 x395 x396 x397 x398 x399 x400 x401 x402 x409 x410)) x385 x403 x404 := by kernel_rfl
theorem core_l5_iter {α:Type} (x384 x386 x387 x388 x389 x390:Int) (x391:Value) (x392 x393 x394 x395:L3) (x396:Int) (x397 x398 x399:L3) (x400:Int) (x401 x402:L3) (Q:Ex → St → Option α):∀ (n:Nat) (x385:Int) (x403 x404:L3),iter (loopStep E (exec E look_check core_l4_lps 400) 30 [false,true,true,true,false] 13 (codeAt E.P 30 [false,true,true,true,false])) n (core_S11 x384 x385 x386 x387 x388 x389 x390 x391 x392 x393 x394 x395 x396 x397 x398 x399 x400 x401 x402 x403 x404) Q = M.core_l5 x384 x392 x393 x394 x395 x397 x398 x399 x401 x402 (fun (x409 x410:L3) => Q (.exit 0) (core_S13 x386 x387 x388 x389 x390 x391 x392 x393 x394 x395 x396 x397 x398 x399 x400 x401 x402 x409 x410)) n x385 x403 x404
  | 0,_,_,_ => rfl
  | n + 1,x385,x403,x404 => (core_l5_step_eq x384 x385 x386 x387 x388 x389 x390 x391 x392 x393 x394 x395 x396 x397 x398 x399 x400 x401 x402 x403 x404 (iterK (loopStep E (exec E look_check core_l4_lps 400) 30 [false,true,true,true,false] 13 (codeAt E.P 30 [false,true,true,true,false])) n Q)).trans (congrArg (fun kn => M.core_l5_step x384 x392 x393 x394 x395 x397 x398 x399 x401 x402 kn (fun (x409 x410:L3) => Q (.exit 0) (core_S13 x386 x387 x388 x389 x390 x391 x392 x393 x394 x395 x396 x397 x398 x399 x400 x401 x402 x409 x410)) x385 x403 x404) (funext fun x385 => funext fun x403 => funext fun x404 => core_l5_iter x384 x386 x387 x388 x389 x390 x391 x392 x393 x394 x395 x396 x397 x398 x399 x400 x401 x402 Q n x385 x403 x404))
noncomputable def core_l5_go {α:Type} (ds:List D) (Q:Ex → St → Option α):Option α :=
  dI ds fun x384 ds => dI ds fun x385 ds => dI ds fun x386 ds => dI ds fun x387 ds => dI ds fun x388 ds => dI ds fun x389 ds => dI ds fun x390 ds => dV ds fun x391 ds => dL kP ds fun x392 ds => dL kP ds fun x393 ds => dL kP ds fun x394 ds => dL kP ds fun x395 ds => dI ds fun x396 ds => dL kP ds fun x397 ds => dL kP ds fun x398 ds => dL kP ds fun x399 ds => dI ds fun x400 ds => dL kP ds fun x401 ds => dL kP ds fun x402 ds => dL kP ds fun x403 ds => dL kP ds fun x404 ds => dE ds (M.core_l5 x384 x392 x393 x394 x395 x397 x398 x399 x401 x402 (fun (x409 x410:L3) => Q (.exit 0) (core_S13 x386 x387 x388 x389 x390 x391 x392 x393 x394 x395 x396 x397 x398 x399 x400 x401 x402 x409 x410)) (100 + x392.length + x393.length + x394.length + x395.length + x397.length + x398.length + x399.length + x401.length + x402.length + x403.length + x404.length) x385 x403 x404)
theorem core_l5_ok {α:Type}:LoopOk E.P 30 [false,true,true,true,false] 13 (lEnt (α := α) (core_S14) core_l5_go) :=
  lEnt_ok E (exec_sound E E_ok (look_check_ok) (core_l4_lps_ok) 400) fun ds Q r h S hS => by
    unfold core_l5_go at h
    obtain ⟨x384,ds,rfl,h1⟩ := dI_inv h
    obtain ⟨x385,ds,rfl,h2⟩ := dI_inv h1
    obtain ⟨x386,ds,rfl,h3⟩ := dI_inv h2
    obtain ⟨x387,ds,rfl,h4⟩ := dI_inv h3
    obtain ⟨x388,ds,rfl,h5⟩ := dI_inv h4
    obtain ⟨x389,ds,rfl,h6⟩ := dI_inv h5
    obtain ⟨x390,ds,rfl,h7⟩ := dI_inv h6
    obtain ⟨x391,ds,rfl,h8⟩ := dV_inv h7
    obtain ⟨x392,ds,rfl,h9⟩ := dL_inv h8
    obtain ⟨x393,ds,rfl,h10⟩ := dL_inv h9
    obtain ⟨x394,ds,rfl,h11⟩ := dL_inv h10
    obtain ⟨x395,ds,rfl,h12⟩ := dL_inv h11
    obtain ⟨x396,ds,rfl,h13⟩ := dI_inv h12
    obtain ⟨x397,ds,rfl,h14⟩ := dL_inv h13
    obtain ⟨x398,ds,rfl,h15⟩ := dL_inv h14
    obtain ⟨x399,ds,rfl,h16⟩ := dL_inv h15
    obtain ⟨x400,ds,rfl,h17⟩ := dI_inv h16
    obtain ⟨x401,ds,rfl,h18⟩ := dL_inv h17
    obtain ⟨x402,ds,rfl,h19⟩ := dL_inv h18
    obtain ⟨x403,ds,rfl,h20⟩ := dL_inv h19
    obtain ⟨x404,ds,rfl,h21⟩ := dL_inv h20
    obtain ⟨rfl,hE⟩ := dE_inv h21
    have e:fillS (core_S14) [.i x384,.i x385,.i x386,.i x387,.i x388,.i x389,.i x390,.v x391,.l kP x392,.l kP x393,.l kP x394,.l kP x395,.i x396,.l kP x397,.l kP x398,.l kP x399,.i x400,.l kP x401,.l kP x402,.l kP x403,.l kP x404] = some (core_S11 x384 x385 x386 x387 x388 x389 x390 x391 x392 x393 x394 x395 x396 x397 x398 x399 x400 x401 x402 x403 x404) := by kernel_rfl
    rw [e] at hS
    cases hS
    exact ⟨_,(core_l5_iter x384 x386 x387 x388 x389 x390 x391 x392 x393 x394 x395 x396 x397 x398 x399 x400 x401 x402 Q _ x385 x403 x404).trans hE⟩
noncomputable def core_l5_lps {α:Type}:LookL α := addLp 30 [false,true,true,true,false] 13 (lEnt (core_S14) core_l5_go) core_l4_lps
theorem core_l5_lps_ok {α:Type}:LoopsOk E.P (core_l5_lps (α := α)) := addLp_ok core_l5_ok (core_l4_lps_ok)

noncomputable def _root_.Go.Proofs.Ytlagndfhibkjpaa.M.core {α:Type} (k:Int) (r:Int) (hx:Int) (hy:Int) (hz:Int) (l:L3) (k0:Int → Int → L3 → L3 → L3 → Option α):Option α := if (!cEq (V.chk k r hx hy hz l) (0:Int)) = true then k0 (0:Int) (V.chk k r hx hy hz l) [] [] [] else if cEq k (1:Int) = true then k0 r (0:Int) [((0:Int),(0:Int),(0:Int))] [] [] else if cEq k (2:Int) = true then k0 r (0:Int) [(IntKind.wrap .i64 ((0:Int) - hx),(0:Int),(0:Int)),(hx,(0:Int),(0:Int))] [] [((1:Int),(0:Int),(0:Int))] else if cEq k (3:Int) = true then M.core_l1 (↑((0:Nat) + (1:Nat) + (1:Nat)):Int) hy hz l [] [] [] [] [] [IntKind.wrap .i64 ((0:Int) - hx),hx] (fun (x415:L3) ↦ if V.lenB (3:Nat) = true then k0 r (0:Int) x415 [((1:Int),(0:Int),(0:Int)),((0:Int),(1:Int),(0:Int)),((0:Int),(0:Int),(1:Int))] [((1:Int),(0:Int),(0:Int)),((0:Int),(1:Int),(0:Int)),((0:Int),(0:Int),(1:Int))] else none) ((100:Nat) + List.length l + (0:Nat) + (0:Nat) + (0:Nat) + (0:Nat) + (0:Nat) + (0:Nat) + ((0:Nat) + (1:Nat) + (1:Nat))) (0:Int) [] else if cEq k (4:Int) = true then if V.lenB (List.length l) = true then M.core_l5 (↑(List.length l):Int) l [] [] [] [] [] [] [] l (fun (x416 x417:L3) ↦ k0 r (0:Int) l x416 x417) ((100:Nat) + List.length l + (0:Nat) + (0:Nat) + (0:Nat) + (0:Nat) + (0:Nat) + (0:Nat) + (0:Nat) + List.length l + (0:Nat) + (0:Nat)) (0:Int) [] [] else none else k0 r (0:Int) [] [] []
theorem core_eq {α:Type} (k:Int) (r:Int) (hx:Int) (hy:Int) (hz:Int) (l:L3) (v414:Value) (Q:SV → Hp → Option α):callI E look_check (exec E look_check core_l5_lps 400) 9 ([SV.agg [SV.int .i64 k,SV.int .i64 r,SV.int .i64 hx,SV.int .i64 hy,SV.int .i64 hz,SV.ros v414 kP l]]) ([]) Q = M.core k r hx hy hz l (fun (x418 x419:Int) (x420 x421 x422:L3) => Q (SV.tup [SV.agg [SV.sl (nat_lit 0),SV.sl (nat_lit 1),SV.sl (nat_lit 2),SV.int .i64 x418],SV.int .i64 x419]) ([.seq kP x420 (nat_lit 23),.seq kP x421 (nat_lit 23),.seq kP x422 (nat_lit 23)])) := by kernel_rfl
def core_sp:List AS := [.st [.leaf (.int .i64 0),.leaf (.int .i64 0),.leaf (.int .i64 0),.leaf (.int .i64 0),.leaf (.int .i64 0),.ro (.st (.i .i64) [.i .i64,.i .i64])]]
/-! Plain words: the faces of a hull. -/
def negP (p:P3):P3 := V.pSub (0,0,0) p
noncomputable def addE (es:List P3) (e:P3):List P3 := if V.pShort e ∈ es ∨ negP (V.pShort e) ∈ es then es else es ++ [V.pShort e]
def triN (l:List P3) (i j k:Nat):P3 := V.pCross (V.pSub (pt l j) (pt l i)) (V.pSub (pt l k) (pt l i))
def mulP (s:Int) (p:P3):P3 := (IntKind.wrap .i64 (s * p.1),IntKind.wrap .i64 (s * p.2.1),IntKind.wrap .i64 (s * p.2.2))
def triS (l:List P3) (i j k:Nat):Int := V.sideP l (triN l i j k) (pt l i)
noncomputable def triA (l:List P3) (i j k:Nat):P3 := V.pShort (mulP (triS l i j k) (triN l i j k))
def triE (l:List P3) (i j k:Nat):List P3 := [V.pSub (pt l j) (pt l i),V.pSub (pt l k) (pt l i),V.pSub (pt l k) (pt l j)]
abbrev St2 := List P3 × List P3
noncomputable def trip (l:List P3) (i j k:Nat) (st:St2):St2 :=
  if triN l i j k = (0,0,0) then st else if triS l i j k = 0 then st
  else (if triA l i j k ∈ st.1 then st.1 else st.1 ++ [triA l i j k],(triE l i j k).foldl addE st.2)
noncomputable def kF (l:List P3) (i j:Nat):Nat → Nat → St2 → St2
  | 0,_,st => st
  | m + 1,k,st => kF l i j m (k + 1) (trip l i j k st)
noncomputable def jF (l:List P3) (i:Nat):Nat → Nat → St2 → St2
  | 0,_,st => st
  | m + 1,j,st => jF l i m (j + 1) (kF l i j (l.length - (j + 1)) (j + 1) st)
noncomputable def iF (l:List P3):Nat → Nat → St2 → St2
  | 0,_,st => st
  | m + 1,i,st => iF l m (i + 1) (jF l i (l.length - (i + 1)) (i + 1) st)
noncomputable def facesP (l:List P3):St2 := iF l l.length 0 ([],[])
def sz2 (st:St2):Nat := st.1.length + st.2.length
theorem addE_len (es:List P3) (e:P3):(addE es e).length ≤ es.length + 1 := by
  unfold addE; split <;> simp
theorem addEs_len:∀ (l es:List P3),(l.foldl addE es).length ≤ es.length + l.length
  | [],es => by simp
  | e :: l,es => by
    have h1 := addEs_len l (addE es e)
    have h2 := addE_len es e
    simp only [List.foldl_cons,List.length_cons]; omega
theorem trip_len (l:List P3) (i j k:Nat) (st:St2):sz2 (trip l i j k st) ≤ sz2 st + 4 := by
  unfold trip
  split
  · omega
  · split
    · omega
    · have h := addEs_len (triE l i j k) st.2
      have h3:(triE l i j k).length = 3 := rfl
      unfold sz2
      simp only
      split <;> (try rw [List.length_append,List.length_singleton]) <;> omega
theorem kF_len (l:List P3) (i j:Nat):∀ (m k:Nat) (st:St2),sz2 (kF l i j m k st) ≤ sz2 st + 4 * m
  | 0,k,st => by simp [kF]
  | m + 1,k,st => by
    have h1 := kF_len l i j m (k + 1) (trip l i j k st)
    have h2 := trip_len l i j k st
    simp only [kF]; omega
theorem jF_len (l:List P3) (i:Nat) (hl:l.length ≤ 12):∀ (m j:Nat) (st:St2),sz2 (jF l i m j st) ≤ sz2 st + 48 * m
  | 0,j,st => by simp [jF]
  | m + 1,j,st => by
    have h1 := jF_len l i hl m (j + 1) (kF l i j (l.length - (j + 1)) (j + 1) st)
    have h2 := kF_len l i j (l.length - (j + 1)) (j + 1) st
    simp only [jF]; omega
theorem iF_len (l:List P3) (hl:l.length ≤ 12):∀ (m i:Nat) (st:St2),sz2 (iF l m i st) ≤ sz2 st + 576 * m
  | 0,i,st => by simp [iF]
  | m + 1,i,st => by
    have h1 := iF_len l hl m (i + 1) (jF l i (l.length - (i + 1)) (i + 1) st)
    have h2 := jF_len l i hl (l.length - (i + 1)) (i + 1) st
    simp only [iF]; omega
theorem edges_val {α:Type} (es:List P3) (hes:es.length < 1000) (k1:List P3 → Option α):∀ (fuel i:Nat) (E:List P3),i ≤ es.length → es.length - i < fuel → E.length + (es.length - i) < 1000000 →
    M.core_l2 (es.length:Int) es k1 fuel (i:Int) E = k1 ((es.drop i).foldl addE E)
  | 0,i,E,h1,h2,h3 => by omega
  | f + 1,i,E,h1,h2,h3 => by
    unfold M.core_l2 M.core_l2_step
    rw [cLt_nat]
    by_cases hi:i < es.length
    · have a2 := addE_len E (pt es i)
      have hd := drop_pt es i hi
      rw [w_next (by omega)]
      rw [if_pos (by simpa using hi),if_pos (by omega:(0:Int) ≤ (i:Int) ∧ (i:Int) < (es.length:Int)),if_pos (lenB_of (n := E.length) (by omega)),if_pos (lenB_of (n := E.length) (by omega)),if_pos (by omega:(E.length + (0 + 1)) * 24 ≤ 140737488355328)]
      rw [hd,List.foldl_cons]
      have e:∀ X,X = addE E (pt es i) → M.core_l2 (es.length:Int) es k1 f ((i + 1:Nat):Int) X = k1 ((es.drop (i + 1)).foldl addE (addE E (pt es i))) := by
        intro X hX
        rw [hX]
        exact edges_val es hes k1 f (i + 1) _ (by omega) (by omega) (by omega)
      show (if (!V.hasP E (V.pShort (pt es i))) = true then if (!V.hasP E (negP (V.pShort (pt es i)))) = true then _ else _ else _) = _
      unfold V.hasP
      by_cases c1:V.pShort (pt es i) ∈ E
      · rw [if_neg (by simp [c1])]
        exact e E (by unfold addE; rw [if_pos (.inl c1)])
      · rw [if_pos (by simp [c1])]
        by_cases c2:negP (V.pShort (pt es i)) ∈ E
        · rw [if_neg (by simp [c2])]
          exact e E (by unfold addE; rw [if_pos (.inr c2)])
        · rw [if_pos (by simp [c2])]
          exact e _ (by unfold addE; rw [if_neg (by rintro (h | h); exact c1 h; exact c2 h)]; rfl)
    · have : i = es.length := by omega
      subst this
      simp
theorem w_pred {n:Nat} (h0:0 < n) (h:n < 1099511627776):IntKind.wrap .i64 ((n:Int) - 1) = ((n - 1:Nat):Int) := by
  rw [IntWalk.i64_in _ (by omega)]; omega
theorem cEq_nat (i n:Nat):cEq (i:Int) (n:Int) = decide (i = n) := by
  rw [cEq_eq,Bool.eq_iff_iff]; simp [Int.natCast_inj]
theorem tri_val {α:Type} (l:List P3) (hl:l.length ≤ 12) (i j k:Nat) (hi:i < l.length) (hj:j < l.length) (hk:k < l.length) (a b c d e f g h A E:List P3) (hA:A.length + E.length < 900000) (k0 k1:List P3 → List P3 → Option α) (kn:Int → List P3 → List P3 → Option α) :
    M.core_l3_step (i:Int) (j:Int) a b c d e f g h l kn k0 k1 (k:Int) A E = kn ((k + 1:Nat):Int) (trip l i j k (A,E)).1 (trip l i j k (A,E)).2 := by
  unfold M.core_l3_step
  try simp only
  have ci:(0:Int) ≤ (i:Int) ∧ (i:Int) < (l.length:Int) := by omega
  have cj:(0:Int) ≤ (j:Int) ∧ (j:Int) < (l.length:Int) := by omega
  have ck:(0:Int) ≤ (k:Int) ∧ (k:Int) < (l.length:Int) := by omega
  rw [cEq_nat,if_neg (by simp; omega),if_pos cj,if_pos ci,if_pos ck,if_pos ci,if_pos ci,if_pos (lenB_of (n := l.length) (by omega)),w_next (by omega)]
  have hN:(cEq (triN l i j k).1 (0:Int) && (cEq (triN l i j k).2.1 (0:Int) && (cEq (triN l i j k).2.2 (0:Int) && true))) = decide (triN l i j k = (0,0,0)) := eq3 _ _ _ (0,0,0)
  show (if (cEq (triN l i j k).1 (0:Int) && (cEq (triN l i j k).2.1 (0:Int) && (cEq (triN l i j k).2.2 (0:Int) && true))) = true then kn _ A E else if cEq (triS l i j k) 0 = true then kn _ A E else _) = _
  rw [hN,cEq_eq]
  by_cases c1:triN l i j k = (0,0,0)
  · have e : trip l i j k (A, E) = (A, E) := by unfold trip; rw [if_pos c1]
    rw [if_pos (by simpa using c1),e]
  · rw [if_neg (by simpa using c1)]
    by_cases c2:triS l i j k = 0
    · have e : trip l i j k (A, E) = (A, E) := by unfold trip; rw [if_neg c1, if_pos c2]
      rw [if_pos (by simpa using c2),e]
    · rw [if_neg (by simpa using c2), if_pos (lenB_of (n := A.length) (by omega))]
      have e:trip l i j k (A,E) = (if triA l i j k ∈ A then A else A ++ [triA l i j k],(triE l i j k).foldl addE E) := by unfold trip; rw [if_neg c1,if_neg c2]
      rw [e]
      show (if (!V.hasP A (triA l i j k)) = true then _ else _) = _
      unfold V.hasP
      have h2:∀ (fuel:Nat) (k1:List P3 → Option α),3 < fuel → M.core_l2 (↑((2:Nat) + (1:Nat)):Int) (triE l i j k) k1 fuel (0:Int) E = k1 ((triE l i j k).foldl addE E) := by
        intro fuel k1 hf
        exact edges_val (triE l i j k) (by show 3 < 1000; omega) k1 fuel 0 E (Nat.zero_le _) (by show 3 - 0 < fuel; omega) (by show E.length + (3 - 0) < 1000000; omega)
      by_cases c3:triA l i j k ∈ A
      · rw [if_neg (by simp [c3]), if_pos cj, if_pos ci, if_pos ck, if_pos ci, if_pos ck, if_pos cj, if_pos c3]
        refine (h2 _ _ (by omega)).trans ?_
        rfl
      · rw [if_pos (by simp [c3]),if_pos (by omega:(A.length + (0 + 1)) * 24 ≤ 140737488355328),if_pos cj,if_pos ci,if_pos ck,if_pos ci,if_pos ck,if_pos cj,if_neg c3]
        refine (h2 _ _ (by omega)).trans ?_
        rfl
theorem kF_val {α:Type} (l:List P3) (hl:l.length ≤ 12) (i j:Nat) (hi:i < l.length) (hj:j < l.length) (a b c d e f g h:List P3) (k0 k1:List P3 → List P3 → Option α):∀ (fuel k:Nat) (st:St2),k ≤ l.length → l.length - k < fuel → sz2 st + 4 * (l.length - k) < 900000 →
    M.core_l3 (i:Int) (j:Int) a b c d e f g h l k0 k1 fuel (k:Int) st.1 st.2 = if j = l.length - 1 then k0 (kF l i j (l.length - k) k st).1 (kF l i j (l.length - k) k st).2 else k1 (kF l i j (l.length - k) k st).1 (kF l i j (l.length - k) k st).2
  | 0,k,st,h1,h2,h3 => by omega
  | fu + 1,k,st,h1,h2,h3 => by
    unfold M.core_l3
    by_cases hk:k < l.length
    · have hs := trip_len l i j k st
      rw [tri_val l hl i j k hi hj hk _ _ _ _ _ _ _ _ _ _ (by unfold sz2 at h3; omega)]
      rw [kF_val l hl i j hi hj a b c d e f g h k0 k1 fu (k + 1) (trip l i j k (st.1,st.2)) (by omega) (by omega) (by show sz2 (trip l i j k st) + _ < _; omega)]
      have hq:l.length - k = (l.length - (k + 1)) + 1 := by omega
      rw [hq]
      rfl
    · have hk' : k = l.length := by omega
      subst hk'
      unfold M.core_l3_step
      try simp only
      rw [cEq_nat,if_pos (by simp),w_pred (by omega) (by omega),cEq_nat,Nat.sub_self]
      simp only [decide_eq_true_eq,kF]
theorem jF_val {α:Type} (l:List P3) (hl:l.length ≤ 12) (i:Nat) (hi:i < l.length) (a b c d e f g h:List P3) (kk:List P3 → List P3 → Option α):∀ (fuel j:Nat) (st:St2),i < j → j ≤ l.length → l.length - j < fuel → sz2 st + 48 * (l.length - j) < 800000 →
    M.core_l4 (i:Int) a b c d e f g h l kk kk fuel (j:Int) st.1 st.2 = kk (jF l i (l.length - j) j st).1 (jF l i (l.length - j) j st).2
  | 0,j,st,h0,h1,h2,h3 => by omega
  | fu + 1,j,st,h0,h1,h2,h3 => by
    unfold M.core_l4 M.core_l4_step
    rw [cLt_nat]
    by_cases hj:j < l.length
    · have hs := kF_len l i j (l.length - (j + 1)) (j + 1) st
      rw [if_pos (by simpa using hj),w_next (by omega)]
      rw [kF_val l hl i j hi hj a b c d e f g h _ _ _ (j + 1) st (by omega) (by omega) (by omega)]
      have hq:l.length - j = (l.length - (j + 1)) + 1 := by omega
      rw [hq]
      simp only [jF]
      by_cases hj2:j = l.length - 1
      · rw [if_pos hj2]
        have e2:l.length - (j + 1) = 0 := by omega
        rw [e2]
        simp only [jF]
      · rw [if_neg hj2]
        exact jF_val l hl i hi a b c d e f g h kk fu (j + 1) (kF l i j (l.length - (j + 1)) (j + 1) st) (by omega) (by omega) (by omega) (by omega)
    · have hj' : j = l.length := by omega
      subst hj'
      rw [if_neg (by simp),Nat.sub_self]
      simp only [jF]
theorem iF_val {α:Type} (l:List P3) (hl:l.length ≤ 12) (a b c d e f g h:List P3) (k1:List P3 → List P3 → Option α):∀ (fuel i:Nat) (st:St2),i ≤ l.length → l.length - i < fuel → sz2 st + 576 * (l.length - i) < 700000 →
    M.core_l5 (l.length:Int) a b c d e f g h l k1 fuel (i:Int) st.1 st.2 = k1 (iF l (l.length - i) i st).1 (iF l (l.length - i) i st).2
  | 0,i,st,h1,h2,h3 => by omega
  | fu + 1,i,st,h1,h2,h3 => by
    unfold M.core_l5 M.core_l5_step
    rw [cLt_nat]
    by_cases hi:i < l.length
    · have hs := jF_len l i hl (l.length - (i + 1)) (i + 1) st
      rw [if_pos (by simpa using hi),w_next (by omega)]
      rw [jF_val l hl i hi a b c d e f g h _ _ (i + 1) st (by omega) (by omega) (by omega) (by omega)]
      have hq:l.length - i = (l.length - (i + 1)) + 1 := by omega
      rw [hq]
      simp only [iF]
      exact iF_val l hl a b c d e f g h k1 fu (i + 1) (jF l i (l.length - (i + 1)) (i + 1) st) (by omega) (by omega) (by omega)
    · have hi' : i = l.length := by omega
      subst hi'
      rw [if_neg (by simp),Nat.sub_self]
      simp only [iF]
def brickP (x y z:Int):List P3 := [(-x,-y,-z),(-x,-y,z),(-x,y,-z),(-x,y,z),(x,-y,-z),(x,-y,z),(x,y,-z),(x,y,z)]
noncomputable def corPP (k hx hy hz:Int) (l:List P3):List P3 := if k = 1 then [(0,0,0)] else if k = 2 then [(-hx,0,0),(hx,0,0)] else if k = 3 then brickP hx hy hz else l
noncomputable def corAP (k:Int) (l:List P3):List P3 := if k = 3 then [(1,0,0),(0,1,0),(0,0,1)] else if k = 4 then (facesP l).1 else []
noncomputable def corEP (k:Int) (l:List P3):List P3 := if k = 2 then [(1,0,0)] else if k = 3 then [(1,0,0),(0,1,0),(0,0,1)] else if k = 4 then (facesP l).2 else []
noncomputable def _root_.Go.Proofs.Ytlagndfhibkjpaa.V.corP (k r hx hy hz:Int) (l:List P3):List P3 := hid (if chkP k r hx hy hz l = 0 then corPP k hx hy hz l else [])
noncomputable def _root_.Go.Proofs.Ytlagndfhibkjpaa.V.corA (k r hx hy hz:Int) (l:List P3):List P3 := hid (if chkP k r hx hy hz l = 0 then corAP k l else [])
noncomputable def _root_.Go.Proofs.Ytlagndfhibkjpaa.V.corE (k r hx hy hz:Int) (l:List P3):List P3 := hid (if chkP k r hx hy hz l = 0 then corEP k l else [])
noncomputable def _root_.Go.Proofs.Ytlagndfhibkjpaa.V.corR (k r hx hy hz:Int) (l:List P3):Int := hid (if chkP k r hx hy hz l = 0 then r else 0)
theorem chk_range {k r hx hy hz:Int} {l:List P3} (h:chkP k r hx hy hz l = 0) :
    (k = 1 ∧ 1 ≤ r ∧ r ≤ 16384) ∨ (k = 2 ∧ (1 ≤ r ∧ r ≤ 16384) ∧ 1 ≤ hx ∧ hx ≤ 65536) ∨ (k = 3 ∧ (0 ≤ r ∧ r ≤ 16384) ∧ (1 ≤ hx ∧ hx ≤ 65536) ∧ (1 ≤ hy ∧ hy ≤ 65536) ∧ 1 ≤ hz ∧ hz ≤ 65536) ∨
      (k = 4 ∧ (0 ≤ r ∧ r ≤ 16384) ∧ (4 ≤ l.length ∧ l.length ≤ 12) ∧ V.apartP l = true ∧ V.flatP l = false) := by
  unfold chkP at h
  split at h
  · rename_i hk
    split at h
    · rename_i h1; simp [inZ] at h1; exact .inl ⟨hk,h1⟩
    · cases h
  split at h
  · rename_i hk
    split at h
    · rename_i h1; simp [inZ] at h1; exact .inr (.inl ⟨hk,h1.2,h1.1⟩)
    · cases h
  split at h
  · rename_i hk
    split at h
    · rename_i h1; simp [inZ] at h1; exact .inr (.inr (.inl ⟨hk,h1.2,h1.1.1.1,h1.1.1.2,h1.1.2⟩))
    · cases h
  split at h
  · rename_i hk
    split at h
    · rename_i h1
      split at h
      · cases h
      · rename_i hf
        simp [inZ] at h1
        exact .inr (.inr (.inr ⟨hk,h1.2,by omega,h1.1.2,by simpa using hf⟩))
    · cases h
  · cases h
theorem brick_l0 {α:Type} (x y z:Int) (hz:-65536 ≤ z ∧ z ≤ 65536) (k1:List P3 → Option α) (fuel:Nat) (hf:3 ≤ fuel) (pts:List P3) (hp:pts.length < 1000) :
    M.core_l0 x (↑((0:Nat) + (1:Nat) + (1:Nat)):Int) z [IntKind.wrap .i64 (0 - y),y] k1 fuel 0 pts = k1 (pts ++ [(x,IntKind.wrap .i64 (0 - y),-z),(x,IntKind.wrap .i64 (0 - y),z)] ++ [(x,y,-z),(x,y,z)]) := by
  obtain ⟨f,rfl⟩:∃ f,fuel = f + 3 := ⟨fuel - 3,by omega⟩
  have w0:IntKind.wrap .i64 (0 + 1) = 1 := by decide
  have w1:IntKind.wrap .i64 (1 + 1) = 2 := by decide
  have wz:IntKind.wrap .i64 (0 - z) = -z := by rw [IntWalk.i64_in _ (by omega)]; omega
  have l0:cLt (0:Int) (↑((0:Nat) + (1:Nat) + (1:Nat)):Int) = true := by rw [cLt_eq]; decide
  have l1:cLt (1:Int) (↑((0:Nat) + (1:Nat) + (1:Nat)):Int) = true := by rw [cLt_eq]; decide
  have l2:¬ cLt (2:Int) (↑((0:Nat) + (1:Nat) + (1:Nat)):Int) = true := by rw [cLt_eq]; decide
  have c0:(0:Int) ≤ 0 ∧ (0:Int) < ((List.length [IntKind.wrap .i64 (0 - y),y]:Nat):Int) := by simp
  have c1:(0:Int) ≤ 1 ∧ (1:Int) < ((List.length [IntKind.wrap .i64 (0 - y),y]:Nat):Int) := by simp
  have q:∀ (m:Nat) (n:Nat),m < 2000 → n < 10 → (m + n) * 24 ≤ 140737488355328 := by intro m n h1 h2; omega
  unfold M.core_l0 M.core_l0_step
  rw [if_pos l0,if_pos c0,if_pos (q _ _ (by omega) (by decide)),w0,wz]
  unfold M.core_l0 M.core_l0_step
  rw [if_pos l1,if_pos c1,if_pos (q _ _ (by rw [List.length_append]; simp; omega) (by decide)),w1,wz]
  unfold M.core_l0 M.core_l0_step
  rw [if_neg l2]
  rfl
theorem brick_l1 {α:Type} (x y z:Int) (hx:-65536 ≤ x ∧ x ≤ 65536) (hy:-65536 ≤ y ∧ y ≤ 65536) (hz:-65536 ≤ z ∧ z ≤ 65536) (a b c d e g:List P3) (k1:List P3 → Option α) (fuel:Nat) (hf:3 ≤ fuel) :
    M.core_l1 (↑((0:Nat) + (1:Nat) + (1:Nat)):Int) y z a b c d e g [IntKind.wrap .i64 (0 - x),x] k1 fuel 0 [] = k1 (brickP x y z) := by
  obtain ⟨f,rfl⟩:∃ f,fuel = f + 3 := ⟨fuel - 3,by omega⟩
  have w0:IntKind.wrap .i64 (0 + 1) = 1 := by decide
  have w1:IntKind.wrap .i64 (1 + 1) = 2 := by decide
  have wx:IntKind.wrap .i64 (0 - x) = -x := by rw [IntWalk.i64_in _ (by omega)]; omega
  have wy:IntKind.wrap .i64 (0 - y) = -y := by rw [IntWalk.i64_in _ (by omega)]; omega
  have hb := fun (x:Int) (k1:List P3 → Option α) (fuel:Nat) (hf:3 ≤ fuel) (pts:List P3) (hp:pts.length < 1000) => brick_l0 x y z hz k1 fuel hf pts hp
  have c0:(0:Int) ≤ 0 ∧ (0:Int) < ((List.length [IntKind.wrap .i64 (0 - x),x]:Nat):Int) := by simp
  have c1:(0:Int) ≤ 1 ∧ (1:Int) < ((List.length [IntKind.wrap .i64 (0 - x),x]:Nat):Int) := by simp
  have l0:cLt (0:Int) (↑((0:Nat) + (1:Nat) + (1:Nat)):Int) = true := by rw [cLt_eq]; decide
  have l1:cLt (1:Int) (↑((0:Nat) + (1:Nat) + (1:Nat)):Int) = true := by rw [cLt_eq]; decide
  have l2:¬ cLt (2:Int) (↑((0:Nat) + (1:Nat) + (1:Nat)):Int) = true := by rw [cLt_eq]; decide
  unfold M.core_l1 M.core_l1_step
  rw [if_pos l0,if_pos c0]
  rw [hb _ _ _ (by omega) _ (by simp),w0]
  unfold M.core_l1 M.core_l1_step
  rw [if_pos l1,if_pos c1]
  rw [hb _ _ _ (by omega) _ (by simp),w1]
  unfold M.core_l1 M.core_l1_step
  rw [if_neg l2]
  simp only [List.getD_cons_zero,List.getD_cons_succ,Int.toNat_zero,List.nil_append,show Int.toNat 1 = 1 from rfl,wx,wy]
  rfl
theorem core_v {α:Type} (k r hx hy hz:Int) (l:List P3) (k0:Int → Int → List P3 → List P3 → List P3 → Option α) :
    M.core k r hx hy hz l k0 = k0 (V.corR k r hx hy hz l) (V.chk k r hx hy hz l) (V.corP k r hx hy hz l) (V.corA k r hx hy hz l) (V.corE k r hx hy hz l) := by
  unfold M.core V.corR V.corP V.corA V.corE V.chk
  simp only [hid_eq,cEq_eq]
  by_cases hc:chkP k r hx hy hz l = 0
  · simp only [hc, beq_self_eq_true, Bool.not_true, Bool.false_eq_true, if_false, if_true, beq_iff_eq]
    rcases chk_range hc with ⟨rfl,h1⟩ | ⟨rfl,h1,h2⟩ | ⟨rfl,h1,h2,h3,h4⟩ | ⟨rfl,h1,h2,h3,h4⟩
    · rfl
    · have wx : IntKind.wrap .i64 (0 - hx) = -hx := by rw [IntWalk.i64_in _ (by omega)]; omega
      simp only [wx]
      rfl
    · simp only [Int.reduceEq, if_false, if_true]
      rw [brick_l1 hx hy hz (by omega) (by omega) (by omega) _ _ _ _ _ _ _ _ (by omega),if_pos (lenB_of (n := 3) (by omega))]
      rfl
    · simp only [Int.reduceEq, if_false, if_true]
      rw [if_pos (lenB_of (n := l.length) (by omega))]
      have := iF_val l h2.2 l [] [] [] [] [] [] [] (fun (x402 x403:List P3) => k0 r (0:Int) l x402 x403) (100 + l.length + 0 + 0 + 0 + 0 + 0 + 0 + 0 + l.length + 0 + 0) 0 ([],[]) (by omega) (by omega) (by show 0 + 576 * _ < 700000; omega)
      refine Eq.trans this ?_
      rfl
  · simp [hc]
noncomputable def core_h {α:Type} (ds:List D) (Q:SV → Hp → Option α):Option α :=
  dI ds fun k ds => dI ds fun r ds => dI ds fun hx ds => dI ds fun hy ds => dI ds fun hz ds => dL kP ds fun l ds => dE ds (Q (.tup [.agg [.sl 0,.sl 1,.sl 2,.int .i64 (V.corR k r hx hy hz l)],.int .i64 (V.chk k r hx hy hz l)]) ([.seq (.st (.i .i64) [.i .i64,.i .i64]) (V.corP k r hx hy hz l) 23,.seq (.st (.i .i64) [.i .i64,.i .i64]) (V.corA k r hx hy hz l) 23,.seq (.st (.i .i64) [.i .i64,.i .i64]) (V.corE k r hx hy hz l) 23]))
theorem core_h_ok {α:Type}:FnOk E.P 9 (fEnt (α := α) core_sp core_h) :=
  fEntR_ok E (look_check_ok) (exec_sound E E_ok (look_check_ok) (core_l5_lps_ok) 400) fun ds Q r h => by
    unfold core_h at h
    obtain ⟨k,ds,rfl,h1⟩ := dI_inv h
    obtain ⟨r,ds,rfl,h2⟩ := dI_inv h1
    obtain ⟨hx,ds,rfl,h3⟩ := dI_inv h2
    obtain ⟨hy,ds,rfl,h4⟩ := dI_inv h3
    obtain ⟨hz,ds,rfl,h5⟩ := dI_inv h4
    obtain ⟨l,ds,rfl,h6⟩ := dL_inv h5
    obtain ⟨rfl,hE⟩ := dE_inv h6
    exact ⟨_,_,hE,fun vs => ⟨_,_,by kernel_rfl,(core_eq k r hx hy hz l ((cellsV (vs.headD undef)).tail.tail.tail.tail.tail.headD undef) _).trans (core_v k r hx hy hz l _)⟩⟩
noncomputable def look_core {α:Type}:LookF α := addFn 9 (fEnt core_sp core_h) look_check
theorem look_core_ok {α:Type}:LookOk E.P (look_core (α := α)) := addFn_ok core_h_ok (look_check_ok)
end Go.Proofs.Ytlagndfhibkjpaa.Sx
end

section
/- shape: masses. -/
namespace Go.Proofs.Ytlagndfhibkjpaa.Sx
open Go
set_option linter.unusedVariables false
set_option linter.unusedSimpArgs false
/-! Plain words: half widths, and masses. -/
def loF (f:P3 → Int) (l:List P3) (m:Int):Int := l.foldl (fun m p => if f p < m then f p else m) m
def hiF (f:P3 → Int) (l:List P3) (m:Int):Int := l.foldl (fun m p => if f p > m then f p else m) m
theorem loF_spec (f:P3 → Int):∀ (l:List P3) (m:Int),loF f l m ≤ m ∧ (∀ p ∈ l,loF f l m ≤ f p) ∧ (loF f l m = m ∨ ∃ p ∈ l,loF f l m = f p)
  | [],m => by simp [loF]
  | p :: l,m => by
    obtain ⟨h1,h2,h3⟩ := loF_spec f l (if f p < m then f p else m)
    have e:loF f (p :: l) m = loF f l (if f p < m then f p else m) := rfl
    rw [e]
    by_cases hc:f p < m
    · rw [if_pos hc] at h1 h2 h3 ⊢
      refine ⟨by omega,?_,?_⟩
      · intro q hq
        rcases List.mem_cons.1 hq with rfl | hq
        · omega
        · exact h2 q hq
      · rcases h3 with h3 | ⟨q, hq, h3⟩
        · exact .inr ⟨p,by simp,h3⟩
        · exact .inr ⟨q,by simp [hq],h3⟩
    · rw [if_neg hc] at h1 h2 h3 ⊢
      refine ⟨h1,?_,?_⟩
      · intro q hq
        rcases List.mem_cons.1 hq with rfl | hq
        · omega
        · exact h2 q hq
      · rcases h3 with h3 | ⟨q, hq, h3⟩
        · exact .inl h3
        · exact .inr ⟨q,by simp [hq],h3⟩
theorem hiF_spec (f:P3 → Int):∀ (l:List P3) (m:Int),m ≤ hiF f l m ∧ (∀ p ∈ l,f p ≤ hiF f l m) ∧ (hiF f l m = m ∨ ∃ p ∈ l,hiF f l m = f p)
  | [],m => by simp [hiF]
  | p :: l,m => by
    obtain ⟨h1,h2,h3⟩ := hiF_spec f l (if f p > m then f p else m)
    have e:hiF f (p :: l) m = hiF f l (if f p > m then f p else m) := rfl
    rw [e]
    by_cases hc:f p > m
    · rw [if_pos hc] at h1 h2 h3 ⊢
      refine ⟨by omega,?_,?_⟩
      · intro q hq
        rcases List.mem_cons.1 hq with rfl | hq
        · omega
        · exact h2 q hq
      · rcases h3 with h3 | ⟨q, hq, h3⟩
        · exact .inr ⟨p,by simp,h3⟩
        · exact .inr ⟨q,by simp [hq],h3⟩
    · rw [if_neg hc] at h1 h2 h3 ⊢
      refine ⟨h1,?_,?_⟩
      · intro q hq
        rcases List.mem_cons.1 hq with rfl | hq
        · omega
        · exact h2 q hq
      · rcases h3 with h3 | ⟨q, hq, h3⟩
        · exact .inl h3
        · exact .inr ⟨q,by simp [hq],h3⟩
def wid (f:P3 → Int) (l:List P3):Int := hiF f l (f (pt l 0)) - loF f l (f (pt l 0))
def halfP (f:P3 → Int) (l:List P3) (r:Int):Int := (wid f l / 2 + r) * 1048576
def sqP (m n:Int):Int := m * (n * n / 4294967296) / 4294967296
def atl (n:Int):Int := if 4096 > n then 4096 else n
def massQ (m x y z:Int):P3 := (atl ((sqP m y + sqP m z) / 3),atl ((sqP m z + sqP m x) / 3),atl ((sqP m x + sqP m y) / 3))
noncomputable def massP (k r hx hy hz:Int) (l:List P3) (m:Int):P3 :=
  if k = 1 then (atl (sqP m (r * 1048576) * 2 / 5),atl (sqP m (r * 1048576) * 2 / 5),atl (sqP m (r * 1048576) * 2 / 5))
  else massQ m (halfP (fun p => p.1) (corPP k hx hy hz l) r) (halfP (fun p => p.2.1) (corPP k hx hy hz l) r) (halfP (fun p => p.2.2) (corPP k hx hy hz l) r)
noncomputable def masEP (k r hx hy hz:Int) (l:List P3) (m:Int):Int := if chkP k r hx hy hz l = 0 then (if inZ m 16777216 1099511627776 then 0 else 120) else chkP k r hx hy hz l
noncomputable def _root_.Go.Proofs.Ytlagndfhibkjpaa.V.masE (k r hx hy hz:Int) (l:List P3) (m:Int):Int := hid (masEP k r hx hy hz l m)
noncomputable def _root_.Go.Proofs.Ytlagndfhibkjpaa.V.masM (k r hx hy hz:Int) (l:List P3) (m:Int):Int := hid (if masEP k r hx hy hz l m = 0 then m else 0)
noncomputable def _root_.Go.Proofs.Ytlagndfhibkjpaa.V.masI (k r hx hy hz:Int) (l:List P3) (m:Int):P3 := hid (if masEP k r hx hy hz l m = 0 then massP k r hx hy hz l m else (0,0,0))
theorem gd_of {n:Int} (h:-4611686018427387903 ≤ n ∧ n ≤ 4611686018427387903):Gd n := by unfold Gd; exact h
theorem sq_some {m n:Int} (hm:0 ≤ m ∧ m ≤ 1099511627776) (hn:0 ≤ n ∧ n ≤ 137438953472) :
    V.mMul n n = some (n * n / 4294967296) ∧ V.mMul m (n * n / 4294967296) = some (sqP m n) ∧ 0 ≤ sqP m n ∧ sqP m n ≤ 1125899906842624 := by
  have h1:n * n ≤ 137438953472 * 137438953472 := Int.mul_le_mul hn.2 hn.2 hn.1 (by omega)
  have h2:0 ≤ n * n := Int.mul_nonneg hn.1 hn.1
  have h3:0 ≤ n * n / 4294967296 ∧ n * n / 4294967296 ≤ 4398046511104 := by omega
  unfold sqP
  generalize hq:n * n / 4294967296 = q at *
  have h4:m * q ≤ 1099511627776 * 4398046511104 := Int.mul_le_mul hm.2 h3.2 h3.1 (by omega)
  have h5:0 ≤ m * q := Int.mul_nonneg hm.1 h3.1
  generalize hp:m * q = p at *
  refine ⟨mMul_some.2 ⟨gd_of (by omega),gd_of (by omega),gd_of (by omega),hq.symm⟩,mMul_some.2 ⟨gd_of (by omega),gd_of (by omega),gd_of (by omega),by rw [hp]⟩,by omega,by omega⟩
theorem add_some' {a b:Int} (ha:0 ≤ a ∧ a ≤ 1125899906842624) (hb:0 ≤ b ∧ b ≤ 1125899906842624):V.mAdd a b = some (a + b) :=
  mAdd_some.2 ⟨gd_of (by omega),gd_of (by omega),gd_of (by omega),rfl⟩
theorem ratio_some {a b c:Int} (ha:0 ≤ a ∧ a ≤ 4503599627370496) (hb:0 ≤ b ∧ b ≤ 10) (hc:0 < c ∧ c ≤ 10):V.mRatio a b c = some (a * b / c) := by
  have h1:a * b ≤ 4503599627370496 * 10 := Int.mul_le_mul ha.2 hb.2 hb.1 (by omega)
  have h2:0 ≤ a * b := Int.mul_nonneg ha.1 hb.1
  unfold V.mRatio V.qF V.tl isG
  generalize a * b = p at *
  have h3:0 ≤ p / c := Int.ediv_nonneg h2 (by omega)
  have h4:p / c ≤ p := Int.ediv_le_self _ h2
  have c1:(c == 0) = false := by simp; omega
  have c2:¬ (c < 0) := by omega
  have c3:(p / c == -18446744073709551616) = false := by simp; omega
  simp only [c1,c3,Bool.false_or,Bool.false_and,Bool.false_eq_true,if_false,if_neg c2]
  rw [if_neg (by simp; omega),if_neg (by simp; omega)]
theorem wid_nonneg (f:P3 → Int) (l:List P3):0 ≤ wid f l := by
  have h1 := (loF_spec f l (f (pt l 0))).1
  have h2 := (hiF_spec f l (f (pt l 0))).1
  unfold wid; omega
theorem wid_le (f:P3 → Int) (l:List P3) (hl:0 < l.length) (hs:∀ p ∈ l,-65536 ≤ f p ∧ f p ≤ 65536):(-65536 ≤ loF f l (f (pt l 0)) ∧ loF f l (f (pt l 0)) ≤ 65536) ∧ (-65536 ≤ hiF f l (f (pt l 0)) ∧ hiF f l (f (pt l 0)) ≤ 65536) := by
  have h0 := hs _ (pt_mem l 0 hl)
  have h1 := (loF_spec f l (f (pt l 0))).2.2
  have h2 := (hiF_spec f l (f (pt l 0))).2.2
  refine ⟨?_,?_⟩
  · rcases h1 with h | ⟨p, hp, h⟩
    · rw [h]; exact h0
    · rw [h]; exact hs p hp
  · rcases h2 with h | ⟨p, hp, h⟩
    · rw [h]; exact h0
    · rw [h]; exact hs p hp
theorem half_w (f:P3 → Int) (l:List P3) (hl:0 < l.length) (hs:∀ p ∈ l,-65536 ≤ f p ∧ f p ≤ 65536) (r:Int) (hr:0 ≤ r ∧ r ≤ 16384) :
    IntKind.wrap .i64 (IntKind.wrap .i64 (IntKind.wrap .i64 (Int.tdiv (IntKind.wrap .i64 (hiF f l (f (pt l 0)) - loF f l (f (pt l 0)))) 2) + r) * 1048576) = halfP f l r ∧ 0 ≤ halfP f l r ∧ halfP f l r ≤ 137438953472 := by
  obtain ⟨h1,h2⟩ := wid_le f l hl hs
  have h3 := wid_nonneg f l
  unfold halfP
  unfold wid at h3 ⊢
  generalize hiF f l (f (pt l 0)) = a at *
  generalize loF f l (f (pt l 0)) = b at *
  rw [IntWalk.i64_in (a - b) (by omega),Int.tdiv_eq_ediv_of_nonneg h3]
  rw [IntWalk.i64_in ((a - b) / 2) (by omega),IntWalk.i64_in ((a - b) / 2 + r) (by omega),IntWalk.i64_in _ (by omega)]
  exact ⟨rfl,by omega,by omega⟩
theorem corPP_pos {k r hx hy hz:Int} {l:List P3} (h:chkP k r hx hy hz l = 0):0 < (corPP k hx hy hz l).length ∧ (corPP k hx hy hz l).length ≤ 12 ∧ (∀ p ∈ corPP k hx hy hz l,Sm p 65536) := by
  unfold corPP
  rcases chk_range h with ⟨rfl,h1⟩ | ⟨rfl,h1,h2⟩ | ⟨rfl,h1,h2,h3,h4⟩ | ⟨rfl,h1,h2,h3,h4⟩
  · simp only [if_true]; exact ⟨by decide,by decide,by simp [Sm]⟩
  · simp only [Int.reduceEq, if_false, if_true]
    refine ⟨by simp,by simp,?_⟩
    intro p hp
    simp only [List.mem_cons,List.not_mem_nil,or_false] at hp
    rcases hp with rfl | rfl <;> (unfold Sm; simp only; omega)
  · simp only [Int.reduceEq, if_false, if_true]
    refine ⟨by simp [brickP],by simp [brickP],?_⟩
    intro p hp
    simp only [brickP,List.mem_cons,List.not_mem_nil,or_false] at hp
    rcases hp with rfl | rfl | rfl | rfl | rfl | rfl | rfl | rfl <;> (unfold Sm; simp only; omega)
  · simp only [Int.reduceEq, if_false]
    refine ⟨by omega,h2.2,?_⟩
    intro p hp
    simp only [V.apartP,decide_eq_true_eq] at h3
    exact sm_of (h3.1 p hp)
end Go.Proofs.Ytlagndfhibkjpaa.Sx
end

section
/- shape: the laws' small words, and their first calls. -/
namespace Go.Proofs.Ytlagndfhibkjpaa.Sx
open Go
set_option maxRecDepth 20000
set_option linter.unusedVariables false
set_option linter.unusedSimpArgs false
noncomputable def _root_.Go.Proofs.Ytlagndfhibkjpaa.M.lpick {α:Type} (c:Int) (n:Int) (k0:Int → Option α):Option α := if cLt c (0:Int) = true then if n = (0:Int) then none else k0 (Int.tmod (IntKind.wrap .i64 ((0:Int) - IntKind.wrap .i64 (c + (1:Int)))) n) else if n = (0:Int) then none else k0 (Int.tmod c n)
theorem lpick_eq {α:Type} (c:Int) (n:Int) (Q:SV → Hp → Option α):callI E look_core (exec E look_core noLps 400) 31 ([SV.int .i64 c,SV.int .i64 n]) ([]) Q = M.lpick c n (fun (x0:Int) => Q (SV.int .i64 x0) ([])) := by kernel_rfl
def lpick_sp:List AS := [.val (.int .i64 0),.val (.int .i64 0)]
noncomputable def _root_.Go.Proofs.Ytlagndfhibkjpaa.V.lpick_g (c:Int) (n:Int):Bool := if cLt c (0:Int) = true then if n = (0:Int) then false else true else if n = (0:Int) then false else true
noncomputable def _root_.Go.Proofs.Ytlagndfhibkjpaa.V.lpick_r0 (c:Int) (n:Int):Int := if cLt c (0:Int) = true then if n = (0:Int) then (0:Int) else Int.tmod (IntKind.wrap .i64 ((0:Int) - IntKind.wrap .i64 (c + (1:Int)))) n else if n = (0:Int) then (0:Int) else Int.tmod c n
theorem lpick_val {α:Type} (c:Int) (n:Int) (k0:Int → Option α):M.lpick c n k0 = if V.lpick_g c n = true then k0 (V.lpick_r0 c n) else none := by
  unfold M.lpick V.lpick_g V.lpick_r0
  repeat' first | rfl | (split <;> rename_i h <;> first | simp only [if_pos h] | simp only [if_neg h] | skip)
noncomputable def lpick_c {α:Type} (ds:List D) (Q:SV → Hp → Option α):Option α :=
  dI ds fun c ds => dI ds fun n ds => dE ds (if V.lpick_g c n = true then Q (SV.int .i64 (V.lpick_r0 c n)) ([]) else none)
theorem lpick_c_ok {α:Type}:FnOk E.P 31 (fEnt (α := α) lpick_sp lpick_c) :=
  fEnt_ok E (look_core_ok) (exec_sound E E_ok (look_core_ok) (noLps_ok _) 400) fun ds Q r h => by
    unfold lpick_c at h
    obtain ⟨c,ds,rfl,h1⟩ := dI_inv h
    obtain ⟨n,ds,rfl,h2⟩ := dI_inv h1
    obtain ⟨rfl,hE⟩ := dE_inv h2
    exact ⟨[SV.int .i64 c,SV.int .i64 n],[],fun vs => by kernel_rfl,(lpick_eq c n Q).trans ((lpick_val c n (fun (x0:Int) => Q (SV.int .i64 x0) ([]))).trans hE)⟩
noncomputable def lpick_go {α:Type} (ds:List D) (Q:SV → Hp → Option α):Option α :=
  dI ds fun c ds => dI ds fun n ds => dE ds (M.lpick c n (fun (x0:Int) => Q (SV.int .i64 x0) ([])))
theorem lpick_ok {α:Type}:FnOk E.P 31 (fEnt (α := α) lpick_sp lpick_go) :=
  fEnt_ok E (look_core_ok) (exec_sound E E_ok (look_core_ok) (noLps_ok _) 400) fun ds Q r h => by
    unfold lpick_go at h
    obtain ⟨c,ds,rfl,h1⟩ := dI_inv h
    obtain ⟨n,ds,rfl,h2⟩ := dI_inv h1
    obtain ⟨rfl,hE⟩ := dE_inv h2
    exact ⟨[SV.int .i64 c,SV.int .i64 n],[],fun vs => by kernel_rfl,(lpick_eq c n Q).trans hE⟩
noncomputable def look_lpick {α:Type}:LookF α := addFn 31 (fEnt lpick_sp lpick_c) look_core
theorem look_lpick_ok {α:Type}:LookOk E.P (look_lpick (α := α)) := addFn_ok lpick_c_ok (look_core_ok)
noncomputable def _root_.Go.Proofs.Ytlagndfhibkjpaa.M.lpart {α:Type} (n:Int) (most:Int) (k0:Int → Option α):Option α := if V.lpick_g n (IntKind.wrap .i64 (IntKind.wrap .i64 ((2:Int) * most) + (1:Int))) = true then k0 (IntKind.wrap .i64 (V.lpick_r0 n (IntKind.wrap .i64 (IntKind.wrap .i64 ((2:Int) * most) + (1:Int))) - most)) else none
theorem lpart_eq {α:Type} (n:Int) (most:Int) (Q:SV → Hp → Option α):callI E look_lpick (exec E look_lpick noLps 400) 32 ([SV.int .i64 n,SV.int .i64 most]) ([]) Q = M.lpart n most (fun (x1:Int) => Q (SV.int .i64 x1) ([])) := by kernel_rfl
def lpart_sp:List AS := [.val (.int .i64 0),.val (.int .i64 0)]
noncomputable def _root_.Go.Proofs.Ytlagndfhibkjpaa.V.lpart_g (n:Int) (most:Int):Bool := if V.lpick_g n (IntKind.wrap .i64 (IntKind.wrap .i64 ((2:Int) * most) + (1:Int))) = true then true else false
noncomputable def _root_.Go.Proofs.Ytlagndfhibkjpaa.V.lpart_r0 (n:Int) (most:Int):Int := if V.lpick_g n (IntKind.wrap .i64 (IntKind.wrap .i64 ((2:Int) * most) + (1:Int))) = true then IntKind.wrap .i64 (V.lpick_r0 n (IntKind.wrap .i64 (IntKind.wrap .i64 ((2:Int) * most) + (1:Int))) - most) else (0:Int)
theorem lpart_val {α:Type} (n:Int) (most:Int) (k0:Int → Option α):M.lpart n most k0 = if V.lpart_g n most = true then k0 (V.lpart_r0 n most) else none := by
  unfold M.lpart V.lpart_g V.lpart_r0
  repeat' first | rfl | (split <;> rename_i h <;> first | simp only [if_pos h] | simp only [if_neg h] | skip)
noncomputable def lpart_c {α:Type} (ds:List D) (Q:SV → Hp → Option α):Option α :=
  dI ds fun n ds => dI ds fun most ds => dE ds (if V.lpart_g n most = true then Q (SV.int .i64 (V.lpart_r0 n most)) ([]) else none)
theorem lpart_c_ok {α:Type}:FnOk E.P 32 (fEnt (α := α) lpart_sp lpart_c) :=
  fEnt_ok E (look_lpick_ok) (exec_sound E E_ok (look_lpick_ok) (noLps_ok _) 400) fun ds Q r h => by
    unfold lpart_c at h
    obtain ⟨n,ds,rfl,h1⟩ := dI_inv h
    obtain ⟨most,ds,rfl,h2⟩ := dI_inv h1
    obtain ⟨rfl,hE⟩ := dE_inv h2
    exact ⟨[SV.int .i64 n,SV.int .i64 most],[],fun vs => by kernel_rfl,(lpart_eq n most Q).trans ((lpart_val n most (fun (x1:Int) => Q (SV.int .i64 x1) ([]))).trans hE)⟩
noncomputable def lpart_go {α:Type} (ds:List D) (Q:SV → Hp → Option α):Option α :=
  dI ds fun n ds => dI ds fun most ds => dE ds (M.lpart n most (fun (x1:Int) => Q (SV.int .i64 x1) ([])))
theorem lpart_ok {α:Type}:FnOk E.P 32 (fEnt (α := α) lpart_sp lpart_go) :=
  fEnt_ok E (look_lpick_ok) (exec_sound E E_ok (look_lpick_ok) (noLps_ok _) 400) fun ds Q r h => by
    unfold lpart_go at h
    obtain ⟨n,ds,rfl,h1⟩ := dI_inv h
    obtain ⟨most,ds,rfl,h2⟩ := dI_inv h1
    obtain ⟨rfl,hE⟩ := dE_inv h2
    exact ⟨[SV.int .i64 n,SV.int .i64 most],[],fun vs => by kernel_rfl,(lpart_eq n most Q).trans hE⟩
noncomputable def look_lpart {α:Type}:LookF α := addFn 32 (fEnt lpart_sp lpart_c) look_lpick
theorem look_lpart_ok {α:Type}:LookOk E.P (look_lpart (α := α)) := addFn_ok lpart_c_ok (look_lpick_ok)
noncomputable abbrev lpoints_S1 (y1:Value) (y2:L3) (y3:Value) (y4:L3) (y5:Int):St := St.mk (some (SV.ros y1 kP y2) :: some (SV.ros y3 kP y4) :: nn 3 (some (SV.int .i64 y5) :: nn 20 ([]))) []
noncomputable def _root_.Go.Proofs.Ytlagndfhibkjpaa.M.lpoints_l0_step {α:Type} (x10 x12:L3) (kn:Int → Option α) (k0:Option α) (k2:Option α) (x13:Int):Option α := if cLt x13 (↑(List.length x10):Int) = true then if (0:Int) ≤ x13 ∧ x13 < (↑(List.length x10):Int) then if (0:Int) ≤ x13 ∧ x13 < (↑(List.length x12):Int) then if (!(cEq (Prod.fst (List.getD x10 (Int.toNat x13) ((0:Int),(0:Int),(0:Int)))) (Prod.fst (List.getD x12 (Int.toNat x13) ((0:Int),(0:Int),(0:Int)))) && (cEq (Prod.fst (Prod.snd (List.getD x10 (Int.toNat x13) ((0:Int),(0:Int),(0:Int))))) (Prod.fst (Prod.snd (List.getD x12 (Int.toNat x13) ((0:Int),(0:Int),(0:Int))))) && (cEq (Prod.snd (Prod.snd (List.getD x10 (Int.toNat x13) ((0:Int),(0:Int),(0:Int))))) (Prod.snd (Prod.snd (List.getD x12 (Int.toNat x13) ((0:Int),(0:Int),(0:Int))))) && true)))) = true then k0 else kn (IntKind.wrap .i64 (x13 + (1:Int))) else none else none else k2
noncomputable def _root_.Go.Proofs.Ytlagndfhibkjpaa.M.lpoints_l0 {α:Type} (x10 x12:L3) (k0:Option α) (k2:Option α):Nat → Int → Option α
  | 0,_ => none
  | n + 1,x13 => M.lpoints_l0_step x10 x12 (M.lpoints_l0 x10 x12 k0 k2 n) k0 k2 x13
theorem lpoints_l0_step_eq {α:Type} (x9:Value) (x10:L3) (x11:Value) (x12:L3) (x13:Int) (Q:Ex → St → Option α):(loopStep E (exec E look_lpart noLps 400) 13 [false,true,false,true,true] 0 (codeAt E.P 13 [false,true,false,true,true])) (lpoints_S1 x9 x10 x11 x12 x13) Q = M.lpoints_l0_step x10 x12 (fun (x14:Int) => Q .normal (lpoints_S1 x9 x10 x11 x12 x14)) (Q .ret (St.mk (nn 4 (some (SV.bool false) :: nn 21 ([]))) [])) (Q (.exit 0) (St.mk (nn 26 ([])) [])) x13 := by kernel_rfl
theorem lpoints_l0_iter {α:Type} (x9:Value) (x10:L3) (x11:Value) (x12:L3) (Q:Ex → St → Option α):∀ (n:Nat) (x13:Int),iter (loopStep E (exec E look_lpart noLps 400) 13 [false,true,false,true,true] 0 (codeAt E.P 13 [false,true,false,true,true])) n (lpoints_S1 x9 x10 x11 x12 x13) Q = M.lpoints_l0 x10 x12 (Q .ret (St.mk (nn 4 (some (SV.bool false) :: nn 21 ([]))) [])) (Q (.exit 0) (St.mk (nn 26 ([])) [])) n x13
  | 0,_ => rfl
  | n + 1,x13 => (lpoints_l0_step_eq x9 x10 x11 x12 x13 (iterK (loopStep E (exec E look_lpart noLps 400) 13 [false,true,false,true,true] 0 (codeAt E.P 13 [false,true,false,true,true])) n Q)).trans (congrArg (fun kn => M.lpoints_l0_step x10 x12 kn (Q .ret (St.mk (nn 4 (some (SV.bool false) :: nn 21 ([]))) [])) (Q (.exit 0) (St.mk (nn 26 ([])) [])) x13) (funext fun x13 => lpoints_l0_iter x9 x10 x11 x12 Q n x13))
noncomputable def lpoints_l0_go {α:Type} (ds:List D) (Q:Ex → St → Option α):Option α :=
  dV ds fun x9 ds => dL kP ds fun x10 ds => dV ds fun x11 ds => dL kP ds fun x12 ds => dI ds fun x13 ds => dE ds (M.lpoints_l0 x10 x12 (Q .ret (St.mk (nn 4 (some (SV.bool false) :: nn 21 ([]))) [])) (Q (.exit 0) (St.mk (nn 26 ([])) [])) (100 + x10.length + x12.length) x13)
theorem lpoints_l0_ok {α:Type}:LoopOk E.P 13 [false,true,false,true,true] 0 (lEnt (α := α) (St.mk (some (SV.ros undef kP []) :: some (SV.ros undef kP []) :: nn 3 (some (SV.int .i64 (0:Int)) :: nn 20 ([]))) []) lpoints_l0_go) :=
  lEnt_ok E (exec_sound E E_ok (look_lpart_ok) (noLps_ok _) 400) fun ds Q r h S hS => by
    unfold lpoints_l0_go at h
    obtain ⟨x9,ds,rfl,h1⟩ := dV_inv h
    obtain ⟨x10,ds,rfl,h2⟩ := dL_inv h1
    obtain ⟨x11,ds,rfl,h3⟩ := dV_inv h2
    obtain ⟨x12,ds,rfl,h4⟩ := dL_inv h3
    obtain ⟨x13,ds,rfl,h5⟩ := dI_inv h4
    obtain ⟨rfl,hE⟩ := dE_inv h5
    have e:fillS (St.mk (some (SV.ros undef kP []) :: some (SV.ros undef kP []) :: nn 3 (some (SV.int .i64 (0:Int)) :: nn 20 ([]))) []) [.v x9,.l kP x10,.v x11,.l kP x12,.i x13] = some (lpoints_S1 x9 x10 x11 x12 x13) := by kernel_rfl
    rw [e] at hS
    cases hS
    exact ⟨_,(lpoints_l0_iter x9 x10 x11 x12 Q _ x13).trans hE⟩
noncomputable def lpoints_l0_lps {α:Type}:LookL α := addLp 13 [false,true,false,true,true] 0 (lEnt (St.mk (some (SV.ros undef kP []) :: some (SV.ros undef kP []) :: nn 3 (some (SV.int .i64 (0:Int)) :: nn 20 ([]))) []) lpoints_l0_go) noLps
theorem lpoints_l0_lps_ok {α:Type}:LoopsOk E.P (lpoints_l0_lps (α := α)) := addLp_ok lpoints_l0_ok (noLps_ok _)

noncomputable def _root_.Go.Proofs.Ytlagndfhibkjpaa.M.lpoints {α:Type} (a:L3) (b:L3) (k0:Bool → Option α):Option α := if (!cEq (↑(List.length a):Int) (↑(List.length b):Int)) = true then k0 false else M.lpoints_l0 a b (k0 false) (k0 true) ((100:Nat) + List.length a + List.length b) (0:Int)
theorem lpoints_eq {α:Type} (a:L3) (b:L3) (v15:Value) (v16:Value) (Q:SV → Hp → Option α):callI E look_lpart (exec E look_lpart lpoints_l0_lps 400) 13 ([SV.ros v15 kP a,SV.ros v16 kP b]) ([]) Q = M.lpoints a b (fun (x17:Bool) => Q (SV.bool x17) ([])) := by kernel_rfl
def lpoints_sp:List AS := [.ro (.st (.i .i64) [.i .i64,.i .i64]),.ro (.st (.i .i64) [.i .i64,.i .i64])]
/-- Are two lists the same? -/
def _root_.Go.Proofs.Ytlagndfhibkjpaa.V.ptsEq (a b:List P3):Bool := decide (a = b)
theorem drop_eq_iff {a b:List P3} (h:a.length = b.length):∀ (k i:Nat),a.length = i + k → ((a.drop i = b.drop i) ↔ ∀ j,i ≤ j → j < a.length → pt a j = pt b j)
  | 0,i,hk => by
    rw [List.drop_eq_nil_of_le (by omega),List.drop_eq_nil_of_le (by omega)]
    simp; intro j h1 h2; omega
  | k + 1,i,hk => by
    rw [drop_pt a i (by omega),drop_pt b i (by omega),List.cons.injEq,drop_eq_iff h k (i + 1) (by omega)]
    constructor
    · rintro ⟨h1, h2⟩ j h3 h4
      by_cases e:j = i
      · subst e; exact h1
      · exact h2 j (by omega) h4
    · intro h1
      exact ⟨h1 i (Nat.le_refl _) (by omega),fun j h2 h3 => h1 j (by omega) h3⟩
theorem lpoints_l0_val {α:Type} (a b:List P3) (hl:a.length < 1099511627776) (he:a.length = b.length) (k0 k2:Option α):∀ (fuel i:Nat),i ≤ a.length → a.length - i < fuel →
    M.lpoints_l0 a b k0 k2 fuel (i:Int) = if a.drop i = b.drop i then k2 else k0
  | 0,i,h1,h2 => by omega
  | f + 1,i,h1,h2 => by
    unfold M.lpoints_l0 M.lpoints_l0_step
    rw [cLt_nat]
    by_cases hx:i < a.length
    · rw [w_next (by omega), lpoints_l0_val a b hl he k0 k2 f (i + 1) (by omega) (by omega)]
      have hb:((0:Int) ≤ (i:Int) ∧ (i:Int) < (b.length:Int)) = True := eq_true (by omega)
      simp only [hx,decide_true,if_true,inB hx,hb,toNat_nat,eq3]
      rw [drop_pt a i hx,drop_pt b i (by omega)]
      show (if (!decide (pt a i = pt b i)) = true then _ else _) = _
      by_cases hp:pt a i = pt b i
      · simp [hp]
      · simp [hp]
    · have : i = a.length := by omega
      subst this
      rw [if_neg (by simp),List.drop_eq_nil_of_le (Nat.le_refl _),List.drop_eq_nil_of_le (by omega),if_pos rfl]
theorem lpoints_v {α:Type} (a b:List P3) (hg:V.lenB a.length = true) (k0:Bool → Option α):M.lpoints a b k0 = k0 (V.ptsEq a b) := by
  unfold M.lpoints V.ptsEq
  rw [cEq_nat]
  by_cases h:a.length = b.length
  · simp only [h, decide_true, Bool.not_true, Bool.false_eq_true, if_false]
    refine (lpoints_l0_val a b (lenB_lt hg) h (k0 false) (k0 true) _ 0 (by omega) (by omega)).trans ?_
    rw [List.drop_zero,List.drop_zero]
    by_cases e:a = b <;> simp [e]
  · have : a ≠ b := fun e => h (by rw [e])
    simp [h,this]
noncomputable def lpoints_h {α:Type} (ds:List D) (Q:SV → Hp → Option α):Option α :=
  dL kP ds fun a ds => dL kP ds fun b ds => dE ds (if V.lenB a.length = true then Q (.bool (V.ptsEq a b)) ([]) else none)
theorem lpoints_h_ok {α:Type}:FnOk E.P 13 (fEnt (α := α) lpoints_sp lpoints_h) :=
  fEntR_ok E (look_lpart_ok) (exec_sound E E_ok (look_lpart_ok) (lpoints_l0_lps_ok) 400) fun ds Q r h => by
    unfold lpoints_h at h
    obtain ⟨a,ds,rfl,h1⟩ := dL_inv h
    obtain ⟨b,ds,rfl,h2⟩ := dL_inv h1
    obtain ⟨rfl,hE⟩ := dE_inv h2
    split at hE
    · rename_i hg
      exact ⟨_,_,hE,fun vs => ⟨_,_,by kernel_rfl,(lpoints_eq a b (vs.headD undef) (vs.tail.headD undef) _).trans (lpoints_v a b hg _)⟩⟩
    · cases hE
noncomputable def look_lpoints {α:Type}:LookF α := addFn 13 (fEnt lpoints_sp lpoints_h) look_lpart
theorem look_lpoints_ok {α:Type}:LookOk E.P (look_lpoints (α := α)) := addFn_ok lpoints_h_ok (look_lpart_ok)
theorem short_eq' (p:P3):V.pShort p = shortP p := hid_eq _
def tetra:List P3 := [(0,0,0),(4,0,0),(0,4,0),(0,0,4)]
theorem tetra_faces:(facesP tetra).1 = [(0,0,-1),(0,-1,0),(-1,0,0),(1,1,1)] := by
  have h:V.pShort = shortP := funext short_eq'
  have l4:tetra.length = 4 := rfl
  unfold facesP
  rw [l4]
  simp only [iF,jF,kF,l4,Nat.reduceAdd,Nat.reduceSub,trip,addE,triA,h]
  decide +kernel
theorem tetra_chk:chkP 4 0 0 0 0 tetra = 0 := by
  have h:V.flatP tetra = false := by
    rw [Bool.eq_false_iff]
    intro h
    have := (flatP_iff tetra).1 h (0,0,0) (by decide) (4,0,0) (by decide) (0,4,0) (by decide) (0,0,4) (by decide)
    exact absurd this (by decide)
  unfold chkP
  rw [if_neg (by decide),if_neg (by decide),if_neg (by decide),if_pos rfl,if_pos (by decide),h]
  rfl
theorem square_chk:chkP 4 0 0 0 0 [(0,0,0),(1,0,0),(0,1,0),(1,1,0)] = 51 := by
  have h:V.flatP [(0,0,0),(1,0,0),(0,1,0),(1,1,0)] = true := by
    rw [flatP_iff]
    unfold Copl
    decide
  unfold chkP
  rw [if_neg (by decide),if_neg (by decide),if_neg (by decide),if_pos rfl,if_pos (by decide),h]
  rfl
end Go.Proofs.Ytlagndfhibkjpaa.Sx
end

section
/- shape, plainly: short directions; tidy cores; the order of points; weights. -/
namespace Go.Proofs.Ytlagndfhibkjpaa.Sx
open Go
set_option linter.unusedVariables false
set_option linter.unusedSimpArgs false
def negT (p:P3):P3 := (-p.1,-p.2.1,-p.2.2)
theorem gcd3_neg (p:P3):gcd3 (negT p) = gcd3 p := by simp [gcd3,negT]
theorem divP_neg (p:P3) (n:Int):divP (negT p) n = negT (divP p n) := by simp [divP,negT,Int.neg_tdiv]
theorem bareP_neg (p:P3):bareP (negT p) = negT (bareP p) := by unfold bareP; rw [gcd3_neg,divP_neg]
theorem bigP_neg (p:P3) (n:Int):bigP (negT p) n = bigP p n := by
  obtain ⟨x,y,z⟩ := p
  show (decide (n < -x) || decide (-x < -n) || decide (n < -y) || decide (-y < -n) || decide (n < -z) || decide (-z < -n)) = (decide (n < x) || decide (x < -n) || decide (n < y) || decide (y < -n) || decide (n < z) || decide (z < -n))
  rw [Bool.eq_iff_iff]; simp only [Bool.or_eq_true,decide_eq_true_eq]; omega
theorem shrinkP_neg:∀ (n:Nat) (p:P3),shrinkP n (negT p) = negT (shrinkP n p)
  | 0,p => rfl
  | n + 1,p => by
    simp only [shrinkP,bigP_neg]
    split
    · rw [divP_neg,shrinkP_neg n]
    · rfl
theorem shortP_neg (p:P3):shortP (negT p) = negT (shortP p) := by
  unfold shortP
  rw [bigP_neg]
  split
  · rfl
  · rw [bareP_neg,shrinkP_neg,bareP_neg]
theorem gcd3_bare {p:P3} (h:p ≠ (0,0,0)):gcd3 (bareP p) = 1 := by
  have hp := gcd3_pos h
  have d1:gcd3 p ∣ p.1.natAbs := Nat.dvd_trans (Nat.gcd_dvd_left _ _) (Nat.gcd_dvd_left _ _)
  have d2:gcd3 p ∣ p.2.1.natAbs := Nat.dvd_trans (Nat.gcd_dvd_left _ _) (Nat.gcd_dvd_right _ _)
  have d3:gcd3 p ∣ p.2.2.natAbs := Nat.gcd_dvd_right _ _
  have e:∀ x:Int,(x.tdiv (gcd3 p:Int)).natAbs = x.natAbs / gcd3 p := fun x => by rw [Int.natAbs_tdiv]; rfl
  have h1:gcd3 (bareP p) = Nat.gcd (Nat.gcd (p.1.natAbs / gcd3 p) (p.2.1.natAbs / gcd3 p)) (p.2.2.natAbs / gcd3 p) := by
    show Nat.gcd (Nat.gcd (p.1.tdiv (gcd3 p:Int)).natAbs (p.2.1.tdiv (gcd3 p:Int)).natAbs) (p.2.2.tdiv (gcd3 p:Int)).natAbs = _
    rw [e,e,e]
  rw [h1,Nat.gcd_div d1 d2,Nat.gcd_div (Nat.dvd_gcd d1 d2) d3]
  exact Nat.div_self hp
theorem bareP_one {p:P3} (h:gcd3 p = 1):bareP p = p := by
  unfold bareP divP
  rw [h]
  simp
theorem bareP_zero:bareP (0,0,0) = (0,0,0) := by decide
theorem shortP_zero:shortP (0,0,0) = (0,0,0) := by decide +kernel
/-- What is short is bare and not great, or noughts. -/
theorem shortP_form (p:P3):shortP p = (0,0,0) ∨ (gcd3 (shortP p) = 1 ∧ bigP (shortP p) 1048576 = false ∧ p ≠ (0,0,0) ∧ bigP p 4398046511104 = false) := by
  unfold shortP
  split
  · exact .inl rfl
  · rename_i h
    have h':bigP p 4398046511104 = false := by simpa using h
    by_cases h0:p = (0,0,0)
    · subst h0
      exact .inl shortP_zero
    · have h1 := divP_ne h0
      have h2 := shrink_ne 64 _ h1
      refine .inr ⟨gcd3_bare h2,bigP_div _ ?_,h0,h'⟩
      refine shrink_small 64 64 _ ?_ (Nat.le_refl _)
      have h3 := bigP_false (bigP_div (gcd3 p) h')
      apply bigP_eq_false
      have e := lim_64
      unfold bareP
      omega
theorem big_mono {p:P3} {m n:Int} (h:bigP p m = false) (hmn:m ≤ n):bigP p n = false := by
  have := bigP_false h
  apply bigP_eq_false; omega
theorem shortP_stay {p:P3} (h1:gcd3 p = 1) (h2:bigP p 1048576 = false):shortP p = p := by
  unfold shortP
  rw [if_neg (by rw [big_mono h2 (by omega)]; decide),bareP_one h1,shrink_stop 64 h2,bareP_one h1]
theorem shortP_idem (p:P3):shortP (shortP p) = shortP p := by
  rcases shortP_form p with h | ⟨h1,h2,_⟩
  · rw [h,shortP_zero]
  · exact shortP_stay h1 h2
theorem shortP_small (p:P3):bigP (shortP p) 1048576 = false := by
  rcases shortP_form p with h | ⟨_,h2,_⟩
  · rw [h]; decide
  · exact h2
theorem cEq_self (a:Int):cEq a a = true := by rw [cEq_eq]; simp
/-! What stays through all triples of a hull. -/
theorem kF_ind (Q:St2 → Prop) (l:List P3) (i j:Nat) (h:∀ k st,j < k → k < l.length → Q st → Q (trip l i j k st)):∀ (m k:Nat) (st:St2),j < k → k + m ≤ l.length → Q st → Q (kF l i j m k st)
  | 0,k,st,_,_,hq => hq
  | m + 1,k,st,hk,hm,hq => kF_ind Q l i j h m (k + 1) _ (by omega) (by omega) (h k st hk (by omega) hq)
theorem jF_ind (Q:St2 → Prop) (l:List P3) (i:Nat) (h:∀ j k st,i < j → j < k → k < l.length → Q st → Q (trip l i j k st)):∀ (m j:Nat) (st:St2),i < j → j + m ≤ l.length → Q st → Q (jF l i m j st)
  | 0,j,st,_,_,hq => hq
  | m + 1,j,st,hj,hm,hq => jF_ind Q l i h m (j + 1) _ (by omega) (by omega) (kF_ind Q l i j (fun k st hk hl hq => h j k st hj hk hl hq) _ _ _ (by omega) (by omega) hq)
theorem iF_ind (Q:St2 → Prop) (l:List P3) (h:∀ i j k st,i < j → j < k → k < l.length → Q st → Q (trip l i j k st)):∀ (m i:Nat) (st:St2),i + m ≤ l.length → Q st → Q (iF l m i st)
  | 0,i,st,_,hq => hq
  | m + 1,i,st,hm,hq => iF_ind Q l h m (i + 1) _ (by omega) (jF_ind Q l i (fun j k st hj hk hl hq => h i j k st hj hk hl hq) _ _ _ (by omega) (by omega) hq)
theorem facesP_ind (Q:St2 → Prop) (l:List P3) (h:∀ i j k st,i < j → j < k → k < l.length → Q st → Q (trip l i j k st)) (h0:Q ([],[])):Q (facesP l) :=
  iF_ind Q l h _ _ _ (by omega) h0
/-- Which triples bear an axis. -/
def Sup (l:List P3) (i j k:Nat):Prop := triN l i j k ≠ (0,0,0) ∧ triS l i j k ≠ 0
theorem trip_mem (l:List P3) (i j k:Nat) (st:St2) (a:P3):a ∈ (trip l i j k st).1 ↔ a ∈ st.1 ∨ (Sup l i j k ∧ a = triA l i j k) := by
  unfold trip Sup
  by_cases h1:triN l i j k = (0,0,0)
  · simp [h1]
  · by_cases h2 : triS l i j k = 0
    · simp [h1,h2]
    · simp only [h1, h2, if_false, not_false_eq_true, ne_eq, and_self, true_and]
      split
      · constructor
        · exact .inl
        · rintro (h | rfl)
          · exact h
          · assumption
      · simp
theorem kF_mem (l:List P3) (i j:Nat) (a:P3):∀ (m k:Nat) (st:St2),a ∈ (kF l i j m k st).1 ↔ a ∈ st.1 ∨ ∃ k',k ≤ k' ∧ k' < k + m ∧ Sup l i j k' ∧ a = triA l i j k'
  | 0,k,st => by
    simp only [kF]
    constructor
    · exact .inl
    · rintro (h | ⟨k', h1, h2, _⟩)
      · exact h
      · omega
  | m + 1,k,st => by
    simp only [kF]
    rw [kF_mem l i j a m (k + 1),trip_mem]
    constructor
    · rintro ((h | ⟨h1, h2⟩) | ⟨k', h1, h2, h3⟩)
      · exact .inl h
      · exact .inr ⟨k,Nat.le_refl _,by omega,h1,h2⟩
      · exact .inr ⟨k',by omega,by omega,h3⟩
    · rintro (h | ⟨k', h1, h2, h3⟩)
      · exact .inl (.inl h)
      · by_cases e : k' = k
        · subst e; exact .inl (.inr h3)
        · exact .inr ⟨k',by omega,by omega,h3⟩
theorem jF_mem (l:List P3) (i:Nat) (a:P3):∀ (m j:Nat) (st:St2),a ∈ (jF l i m j st).1 ↔ a ∈ st.1 ∨ ∃ j' k',j ≤ j' ∧ j' < j + m ∧ j' < k' ∧ k' < l.length ∧ Sup l i j' k' ∧ a = triA l i j' k'
  | 0,j,st => by
    simp only [jF]
    constructor
    · exact .inl
    · rintro (h | ⟨j', k', h1, h2, _⟩)
      · exact h
      · omega
  | m + 1,j,st => by
    simp only [jF]
    rw [jF_mem l i a m (j + 1),kF_mem]
    constructor
    · rintro ((h | ⟨k', h1, h2, h3⟩) | ⟨j', k', h1, h2, h3⟩)
      · exact .inl h
      · exact .inr ⟨j,k',Nat.le_refl _,by omega,by omega,by omega,h3⟩
      · exact .inr ⟨j',k',by omega,by omega,h3⟩
    · rintro (h | ⟨j', k', h1, h2, h3, h4, h5⟩)
      · exact .inl (.inl h)
      · by_cases e : j' = j
        · subst e; exact .inl (.inr ⟨k',by omega,by omega,h5⟩)
        · exact .inr ⟨j',k',by omega,by omega,h3,h4,h5⟩
theorem iF_mem (l:List P3) (a:P3):∀ (m i:Nat) (st:St2),a ∈ (iF l m i st).1 ↔ a ∈ st.1 ∨ ∃ i' j' k',i ≤ i' ∧ i' < i + m ∧ i' < j' ∧ j' < k' ∧ k' < l.length ∧ Sup l i' j' k' ∧ a = triA l i' j' k'
  | 0,i,st => by
    simp only [iF]
    constructor
    · exact .inl
    · rintro (h | ⟨i', j', k', h1, h2, _⟩)
      · exact h
      · omega
  | m + 1,i,st => by
    simp only [iF]
    rw [iF_mem l a m (i + 1),jF_mem]
    constructor
    · rintro ((h | ⟨j', k', h1, h2, h3⟩) | ⟨i', j', k', h1, h2, h3⟩)
      · exact .inl h
      · exact .inr ⟨i,j',k',Nat.le_refl _,by omega,by omega,h3⟩
      · exact .inr ⟨i',j',k',by omega,by omega,h3⟩
    · rintro (h | ⟨i', j', k', h1, h2, h3, h4, h5⟩)
      · exact .inl (.inl h)
      · by_cases e : i' = i
        · subst e; exact .inl (.inr ⟨j',k',by omega,by omega,h4,h5⟩)
        · exact .inr ⟨i',j',k',by omega,by omega,h3,h4,h5⟩
theorem facesP_mem (l:List P3) (a:P3):a ∈ (facesP l).1 ↔ ∃ i j k,i < j ∧ j < k ∧ k < l.length ∧ Sup l i j k ∧ a = triA l i j k := by
  unfold facesP
  rw [iF_mem]
  constructor
  · rintro (h | ⟨i, j, k, h1, h2, h3⟩)
    · simp at h
    · exact ⟨i,j,k,h3⟩
  · rintro ⟨i, j, k, h1, h2, h3, h4⟩
    exact .inr ⟨i,j,k,by omega,by omega,h1,h2,h3,h4⟩
/-! Neat directions. -/
def Neat (p:P3):Prop := p ≠ (0,0,0) ∧ shortP p = p ∧ bigP p 1048576 = false
theorem short_neat {p:P3} (h0:p ≠ (0,0,0)) (hb:bigP p 4398046511104 = false):Neat (shortP p) := by
  refine ⟨?_,shortP_idem p,shortP_small p⟩
  unfold shortP
  rw [if_neg (by rw [hb]; decide)]
  exact divP_ne (shrink_ne 64 _ (divP_ne h0))
theorem Sm.big {p:P3} {n m:Int} (h:Sm p n) (hnm:n ≤ m):bigP p m = false := by
  unfold Sm at h; exact bigP_eq_false (by omega)
theorem Sm.mono {p:P3} {n m:Int} (h:Sm p n) (hnm:n ≤ m):Sm p m := by unfold Sm at *; omega
theorem sub3_ne {a b:P3} (h:a ≠ b):sub3 a b ≠ (0,0,0) := by
  intro e
  apply h
  simp only [zero3,sub3] at e
  obtain ⟨a1,a2,a3⟩ := a
  obtain ⟨b1,b2,b3⟩ := b
  simp only at e
  rw [show a1 = b1 by omega,show a2 = b2 by omega,show a3 = b3 by omega]
structure Pts (l:List P3):Prop where
  sm:∀ p ∈ l,Sm p 65536
  nd:l.Nodup
theorem pts_of {l:List P3} (h:V.apartP l = true):Pts l := by
  simp only [V.apartP,decide_eq_true_eq] at h
  exact ⟨fun p hp => sm_of (h.1 p hp),h.2⟩
theorem Pts.ne {l:List P3} (h:Pts l) {i j:Nat} (hij:i < j) (hj:j < l.length):pt l j ≠ pt l i := by
  rw [pt_eq l i (by omega),pt_eq l j hj]
  intro e
  have := (List.getElem_inj h.nd).1 e
  omega
theorem Pts.at {l:List P3} (h:Pts l) {i:Nat} (hi:i < l.length):Sm (pt l i) 65536 := h.sm _ (pt_mem l i hi)
theorem Pts.sub {l:List P3} (h:Pts l) {i j:Nat} (hi:i < l.length) (hj:j < l.length):V.pSub (pt l j) (pt l i) = sub3 (pt l j) (pt l i) ∧ Sm (sub3 (pt l j) (pt l i)) 131072 := sub_sm (h.at hj) (h.at hi)
theorem Pts.triN {l:List P3} (h:Pts l) {i j k:Nat} (hi:i < l.length) (hj:j < l.length) (hk:k < l.length) :
    triN l i j k = cr3 (sub3 (pt l j) (pt l i)) (sub3 (pt l k) (pt l i)) ∧ Sm (cr3 (sub3 (pt l j) (pt l i)) (sub3 (pt l k) (pt l i))) 34359738368 := by
  obtain ⟨e1,s1⟩ := h.sub hi hj
  obtain ⟨e2,s2⟩ := h.sub hi hk
  unfold Sx.triN
  rw [e1,e2]
  exact cr_sm s1 s2
theorem negP_eq {p:P3} (h:bigP p 1048576 = false):negP p = negT p := by
  have := bigP_false h
  unfold negP V.pSub negT
  simp only
  rw [IntWalk.i64_in _ (by omega),IntWalk.i64_in _ (by omega),IntWalk.i64_in _ (by omega)]
  simp
theorem sideP_cases (l:List P3) (n a:P3):V.sideP l n a = 1 ∨ V.sideP l n a = -1 ∨ V.sideP l n a = 0 := by
  unfold V.sideP
  split
  · exact .inl rfl
  · split
    · exact .inr (.inl rfl)
    · exact .inr (.inr rfl)
theorem mulP_one {n:P3} (h:Sm n 34359738368):mulP 1 n = n := by
  unfold Sm at h; unfold mulP
  simp only [Int.one_mul]
  rw [IntWalk.i64_in _ (by omega),IntWalk.i64_in _ (by omega),IntWalk.i64_in _ (by omega)]
theorem mulP_neg {n:P3} (h:Sm n 34359738368):mulP (-1) n = negT n := by
  unfold Sm at h; unfold mulP negT
  simp only [Int.neg_mul,Int.one_mul]
  rw [IntWalk.i64_in _ (by omega),IntWalk.i64_in _ (by omega),IntWalk.i64_in _ (by omega)]
theorem Sm.neg {p:P3} {n:Int} (h:Sm p n):Sm (negT p) n := by
  unfold Sm at *; simp only [negT]; omega
theorem negT_ne {p:P3} (h:p ≠ (0,0,0)):negT p ≠ (0,0,0) := by
  intro e; apply h
  rw [zero3] at e ⊢
  simp only [negT] at e
  omega
/-- An axis is neat. -/
theorem triA_neat {l:List P3} (h:Pts l) {i j k:Nat} (hi:i < l.length) (hj:j < l.length) (hk:k < l.length) (hs:Sup l i j k):Neat (triA l i j k) := by
  obtain ⟨e,s⟩ := h.triN hi hj hk
  unfold triA
  rw [short_eq']
  rcases sideP_cases l (triN l i j k) (pt l i) with hc | hc | hc
  · rw [show triS l i j k = 1 from hc, mulP_one (by rw [e]; exact s)]
    exact short_neat hs.1 (by rw [e]; exact s.big (by omega))
  · rw [show triS l i j k = -1 from hc, mulP_neg (by rw [e]; exact s)]
    exact short_neat (negT_ne hs.1) (by rw [e]; exact s.neg.big (by omega))
  · exact absurd hc hs.2
theorem triE_neat {l:List P3} (h:Pts l) {i j k:Nat} (hij:i < j) (hjk:j < k) (hk:k < l.length):∀ e ∈ triE l i j k,Neat (V.pShort e) := by
  have key:∀ a b,a < b → b < l.length → Neat (V.pShort (V.pSub (pt l b) (pt l a))) := by
    intro a b hab hb
    obtain ⟨e1,s1⟩ := h.sub (i := a) (j := b) (by omega) hb
    rw [short_eq',e1]
    exact short_neat (sub3_ne (h.ne hab hb)) (s1.big (by omega))
  intro e he
  simp only [triE,List.mem_cons,List.not_mem_nil,or_false] at he
  rcases he with rfl | rfl | rfl
  · exact key i j hij (by omega)
  · exact key i k (by omega) hk
  · exact key j k hjk hk
theorem negT_negT (p:P3):negT (negT p) = p := by simp [negT]
theorem negT_self {p:P3} (h:p ≠ (0,0,0)):p ≠ negT p := by
  intro e
  apply h
  have := congrArg (fun q:P3 => q.1) e
  have h2 := congrArg (fun q:P3 => q.2.1) e
  have h3 := congrArg (fun q:P3 => q.2.2) e
  simp only [negT] at this h2 h3
  exact zero3.2 (by omega)
/-- Lists of edges: neat, none twice, none the other way round. -/
structure EOk (es:List P3):Prop where
  neat:∀ e ∈ es,Neat e
  nd:es.Nodup
  neg:∀ e ∈ es,negT e ∉ es
theorem EOk.add {es:List P3} (h:EOk es) {e:P3} (he:Neat (V.pShort e)):EOk (addE es e) := by
  unfold addE
  split
  · exact h
  · rename_i hc
    rw [not_or,negP_eq he.2.2] at hc
    generalize V.pShort e = d at *
    refine ⟨?_,?_,?_⟩
    · intro x hx
      rcases List.mem_append.1 hx with hx | hx
      · exact h.neat x hx
      · rw [List.mem_singleton.1 hx]; exact he
    · rw [List.nodup_append]
      exact ⟨h.nd,by simp,fun a ha b hb => by rw [List.mem_singleton.1 hb]; rintro rfl; exact hc.1 ha⟩
    · intro x hx hn
      rcases List.mem_append.1 hx with hx | hx <;> rcases List.mem_append.1 hn with hn | hn
      · exact h.neg x hx hn
      · have e1 := List.mem_singleton.1 hn
        apply hc.2
        rw [← e1,negT_negT]; exact hx
      · rw [List.mem_singleton.1 hx] at hn; exact hc.2 hn
      · rw [List.mem_singleton.1 hx] at hn
        exact negT_self he.1 (List.mem_singleton.1 hn).symm
theorem EOk.adds:∀ {l es:List P3},EOk es → (∀ e ∈ l,Neat (V.pShort e)) → EOk (l.foldl addE es)
  | [],es,h,_ => h
  | e :: l,es,h,hl => EOk.adds (l := l) (es := addE es e) (h.add (hl e (by simp))) (fun x hx => hl x (by simp [hx]))
theorem faces_tidy {l:List P3} (h:Pts l):(facesP l).1.Nodup ∧ (∀ a ∈ (facesP l).1,Neat a) ∧ EOk (facesP l).2 := by
  refine facesP_ind (fun st => st.1.Nodup ∧ (∀ a ∈ st.1,Neat a) ∧ EOk st.2) l ?_ ⟨by simp,by simp,⟨by simp,by simp,by simp⟩⟩
  rintro i j k st hij hjk hk ⟨h1,h2,h3⟩
  by_cases c1:triN l i j k = (0,0,0)
  · have e : trip l i j k st = st := by unfold trip; rw [if_pos c1]
    rw [e]; exact ⟨h1,h2,h3⟩
  by_cases c2:triS l i j k = 0
  · have e : trip l i j k st = st := by unfold trip; rw [if_neg c1, if_pos c2]
    rw [e]; exact ⟨h1,h2,h3⟩
  have e:trip l i j k st = (if triA l i j k ∈ st.1 then st.1 else st.1 ++ [triA l i j k],(triE l i j k).foldl addE st.2) := by unfold trip; rw [if_neg c1,if_neg c2]
  rw [e]
  have hn := triA_neat h (by omega) (by omega) hk ⟨c1,c2⟩
  refine ⟨?_,?_,h3.adds (triE_neat h hij hjk hk)⟩
  · simp only
    split
    · exact h1
    · rename_i hc
      rw [List.nodup_append]
      exact ⟨h1,by simp,fun a ha b hb => by rw [List.mem_singleton.1 hb]; rintro rfl; exact hc ha⟩
  · simp only
    split
    · exact h2
    · intro a ha
      rcases List.mem_append.1 ha with ha | ha
      · exact h2 a ha
      · rw [List.mem_singleton.1 ha]; exact hn
/-! Cores that may be are tidy. -/
theorem one_neat:Neat (1,0,0) ∧ Neat (0,1,0) ∧ Neat (0,0,1) := by
  refine ⟨⟨by decide,by decide +kernel,by decide⟩,⟨by decide,by decide +kernel,by decide⟩,⟨by decide,by decide +kernel,by decide⟩⟩
theorem three_ok:EOk [(1,0,0),(0,1,0),(0,0,1)] := by
  obtain ⟨h1,h2,h3⟩ := one_neat
  refine ⟨?_,by decide,by decide⟩
  intro e he
  simp only [List.mem_cons,List.not_mem_nil,or_false] at he
  rcases he with rfl | rfl | rfl <;> assumption
theorem core_tidy {k r hx hy hz:Int} {l:List P3} (hc:chkP k r hx hy hz l = 0) :
    (corAP k l).Nodup ∧ (∀ a ∈ corAP k l,Neat a) ∧ EOk (corEP k l) := by
  unfold corAP corEP
  rcases chk_range hc with ⟨rfl,_⟩ | ⟨rfl,_⟩ | ⟨rfl,_⟩ | ⟨rfl,_,_,h3,_⟩
  · simp only [Int.reduceEq, if_false]
    exact ⟨by simp,by simp,⟨by simp,by simp,by simp⟩⟩
  · simp only [Int.reduceEq, if_false, if_true]
    refine ⟨by simp,by simp,⟨?_,by simp,by decide⟩⟩
    intro e he
    rw [List.mem_singleton.1 he]; exact one_neat.1
  · simp only [Int.reduceEq, if_false, if_true]
    exact ⟨three_ok.nd,three_ok.neat,three_ok⟩
  · simp only [Int.reduceEq, if_false, if_true]
    exact faces_tidy (pts_of h3)
/-! The order of a hull's points bears on nothing. -/
theorem wid_mem {f:P3 → Int} {l t:List P3} (hl:0 < l.length) (ht:0 < t.length) (h:∀ p,p ∈ l ↔ p ∈ t):wid f l = wid f t := by
  have key:∀ {l t:List P3},0 < l.length → (∀ p,p ∈ l ↔ p ∈ t) → loF f t (f (pt t 0)) ≤ loF f l (f (pt l 0)) ∧ hiF f l (f (pt l 0)) ≤ hiF f t (f (pt t 0)) := by
    intro l t hl h
    have a := loF_spec f l (f (pt l 0))
    have b := loF_spec f t (f (pt t 0))
    have c := hiF_spec f l (f (pt l 0))
    have d := hiF_spec f t (f (pt t 0))
    constructor
    · rcases a.2.2 with e | ⟨p, hp, e⟩
      · rw [e]; exact b.2.1 _ ((h _).1 (pt_mem l 0 hl))
      · rw [e]; exact b.2.1 _ ((h _).1 hp)
    · rcases c.2.2 with e | ⟨p, hp, e⟩
      · rw [e]; exact d.2.1 _ ((h _).1 (pt_mem l 0 hl))
      · rw [e]; exact d.2.1 _ ((h _).1 hp)
  have h1 := key hl h
  have h2 := key ht (fun p => (h p).symm)
  unfold wid; omega
theorem copl_mem {l t:List P3} (h:∀ p,p ∈ l ↔ p ∈ t):Copl l ↔ Copl t := by
  unfold Copl
  constructor
  · intro hl a ha b hb c hc d hd
    exact hl a ((h a).2 ha) b ((h b).2 hb) c ((h c).2 hc) d ((h d).2 hd)
  · intro hl a ha b hb c hc d hd
    exact hl a ((h a).1 ha) b ((h b).1 hb) c ((h c).1 hc) d ((h d).1 hd)
theorem flatP_mem {l t:List P3} (h:∀ p,p ∈ l ↔ p ∈ t):V.flatP l = V.flatP t := by
  rw [Bool.eq_iff_iff,flatP_iff,flatP_iff]; exact copl_mem h
theorem chk_perm {k r hx hy hz:Int} {l t:List P3} (h:l.Perm t):chkP k r hx hy hz l = chkP k r hx hy hz t := by
  have h1:l.length = t.length := h.length_eq
  have h2:V.flatP l = V.flatP t := flatP_mem fun p => h.mem_iff
  have h3:V.apartP l = V.apartP t := by
    unfold V.apartP
    rw [Bool.eq_iff_iff,decide_eq_true_eq,decide_eq_true_eq,h.nodup_iff]
    constructor
    · rintro ⟨a,b⟩; exact ⟨fun p hp => a p (h.mem_iff.2 hp),b⟩
    · rintro ⟨a,b⟩; exact ⟨fun p hp => a p (h.mem_iff.1 hp),b⟩
  unfold chkP
  rw [h1,h2,h3]
theorem mass_perm {r hx hy hz m:Int} {l t:List P3} (hl:0 < l.length) (h:l.Perm t):massP 4 r hx hy hz l m = massP 4 r hx hy hz t m := by
  have ht:0 < t.length := by rw [← h.length_eq]; exact hl
  have hw:∀ f:P3 → Int,halfP f l r = halfP f t r := fun f => by unfold halfP; rw [wid_mem hl ht fun p => h.mem_iff]
  unfold massP corPP
  simp only [Int.reduceEq,if_false]
  rw [hw,hw,hw]
/-! A heavier or wider body has no less inertia. -/
theorem sq_mono {m n a b:Int} (hm:0 ≤ m) (hmn:m ≤ n) (ha:0 ≤ a) (hab:a ≤ b):sqP m a ≤ sqP n b ∧ 0 ≤ sqP m a := by
  have h1:a * a ≤ b * b := Int.mul_le_mul hab hab ha (by omega)
  have h0:0 ≤ a * a := Int.mul_nonneg ha ha
  have h2:a * a / 4294967296 ≤ b * b / 4294967296 := by omega
  have h3:0 ≤ a * a / 4294967296 := by omega
  unfold sqP
  generalize a * a / 4294967296 = p at *
  generalize b * b / 4294967296 = q at *
  have h4:m * p ≤ n * q := Int.mul_le_mul hmn h2 h3 (by omega)
  have h5:0 ≤ m * p := Int.mul_nonneg hm h3
  omega
theorem atl_mono {a b:Int} (h:a ≤ b):atl a ≤ atl b := by unfold atl; split <;> split <;> omega
theorem half_mono {f:P3 → Int} {l:List P3} {r s:Int} (hr:0 ≤ r) (h:r ≤ s):halfP f l r ≤ halfP f l s ∧ 0 ≤ halfP f l r := by
  have := wid_nonneg f l
  unfold halfP; omega
def LeP (a b:P3):Prop := a.1 ≤ b.1 ∧ a.2.1 ≤ b.2.1 ∧ a.2.2 ≤ b.2.2
theorem mass_mono {k r s hx hy hz m n:Int} {l:List P3} (hr:0 ≤ r) (hrs:r ≤ s) (hm:0 ≤ m) (hmn:m ≤ n):LeP (massP k r hx hy hz l m) (massP k s hx hy hz l n) := by
  unfold massP
  split
  · have := sq_mono (a := r * 1048576) (b := s * 1048576) hm hmn (by omega) (by omega)
    have h := atl_mono (a := sqP m (r * 1048576) * 2 / 5) (b := sqP n (s * 1048576) * 2 / 5) (by omega)
    exact ⟨h,h,h⟩
  · have hf:∀ f:P3 → Int,sqP m (halfP f (corPP k hx hy hz l) r) ≤ sqP n (halfP f (corPP k hx hy hz l) s) ∧ 0 ≤ sqP m (halfP f (corPP k hx hy hz l) r) := fun f => by
      have := half_mono (f := f) (l := corPP k hx hy hz l) hr hrs
      exact sq_mono hm hmn this.2 this.1
    unfold massQ LeP
    have a := hf (fun p => p.1)
    have b := hf (fun p => p.2.1)
    have c := hf (fun p => p.2.2)
    exact ⟨atl_mono (by omega),atl_mono (by omega),atl_mono (by omega)⟩
theorem atl_ge (n:Int):4096 ≤ atl n := by unfold atl; split <;> omega
theorem mass_ge (k r hx hy hz:Int) (l:List P3) (m:Int):4096 ≤ (massP k r hx hy hz l m).1 ∧ 4096 ≤ (massP k r hx hy hz l m).2.1 ∧ 4096 ≤ (massP k r hx hy hz l m).2.2 := by
  unfold massP massQ
  split <;> exact ⟨atl_ge _,atl_ge _,atl_ge _⟩
end Go.Proofs.Ytlagndfhibkjpaa.Sx
end

section
/- vec: its functions' values, plainly: nothing, or the numbers. -/
namespace Go.Proofs.Ytlagndfhibkjpaa
open Go Go.Proofs.Ytlagndfhibkjpaa.Sx
abbrev V.T3 := Int × Int × Int
abbrev V.T4 := Int × Int × Int × Int
abbrev V.T9 := (Int × Int × Int) × (Int × Int × Int) × (Int × Int × Int)
def V.on {β:Type} (o:Option β) (bad:Bool):Bool := o.isNone || bad
def V.no (l:List (Option Int)):Bool := l.any Option.isNone
def V.q3 (o:Option V.T3):V.T3 := o.getD (0,0,0)
def V.q4 (o:Option V.T4):V.T4 := o.getD (0,0,0,0)
def V.q9 (o:Option V.T9):V.T9 := o.getD ((0,0,0),(0,0,0),(0,0,0))
def V.x3 (o:Option V.T3):Int := (V.q3 o).1
def V.y3 (o:Option V.T3):Int := (V.q3 o).2.1
def V.z3 (o:Option V.T3):Int := (V.q3 o).2.2
def V.w4 (o:Option V.T4):Int := (V.q4 o).1
def V.x4 (o:Option V.T4):Int := (V.q4 o).2.1
def V.y4 (o:Option V.T4):Int := (V.q4 o).2.2.1
def V.z4 (o:Option V.T4):Int := (V.q4 o).2.2.2
def V.m0 (o:Option V.T9):Int := (V.q9 o).1.1
def V.m1 (o:Option V.T9):Int := (V.q9 o).1.2.1
def V.m2 (o:Option V.T9):Int := (V.q9 o).1.2.2
def V.m3 (o:Option V.T9):Int := (V.q9 o).2.1.1
def V.m4 (o:Option V.T9):Int := (V.q9 o).2.1.2.1
def V.m5 (o:Option V.T9):Int := (V.q9 o).2.1.2.2
def V.m6 (o:Option V.T9):Int := (V.q9 o).2.2.1
def V.m7 (o:Option V.T9):Int := (V.q9 o).2.2.2.1
def V.m8 (o:Option V.T9):Int := (V.q9 o).2.2.2.2
theorem V.q3_eta (o:Option V.T3):(V.x3 o,V.y3 o,V.z3 o) = V.q3 o := rfl
theorem V.q4_eta (o:Option V.T4):(V.w4 o,V.x4 o,V.y4 o,V.z4 o) = V.q4 o := rfl
theorem V.q9_eta (o:Option V.T9):((V.m0 o,V.m1 o,V.m2 o),(V.m3 o,V.m4 o,V.m5 o),(V.m6 o,V.m7 o,V.m8 o)) = V.q9 o := rfl
/-- three numbers, or nothing -/
noncomputable def V.t3 (a b c:Option Int):Option V.T3 := if V.no [a,b,c] = true then none else some (V.gv a,V.gv b,V.gv c)
noncomputable def V.tAdd (a b:V.T3):Option V.T3 := V.t3 (V.mAdd a.1 b.1) (V.mAdd a.2.1 b.2.1) (V.mAdd a.2.2 b.2.2)
noncomputable def V.tSub (a b:V.T3):Option V.T3 := V.t3 (V.mSub a.1 b.1) (V.mSub a.2.1 b.2.1) (V.mSub a.2.2 b.2.2)
noncomputable def V.tScale (a:V.T3) (n:Int):Option V.T3 := V.t3 (V.mMul a.1 n) (V.mMul a.2.1 n) (V.mMul a.2.2 n)
noncomputable def V.tDot (a b:V.T3):Option Int := V.mDot [a.1,a.2.1,a.2.2] [b.1,b.2.1,b.2.2]
noncomputable def V.tCross (a b:V.T3):Option V.T3 :=
  if V.no [V.mSub 0 b.1,V.mSub 0 b.2.1,V.mSub 0 b.2.2] = true then none else
  V.t3 (V.mDot [a.2.1,a.2.2] [b.2.2,V.gv (V.mSub 0 b.2.1)]) (V.mDot [a.2.2,a.1] [b.1,V.gv (V.mSub 0 b.2.2)]) (V.mDot [a.1,a.2.1] [b.2.1,V.gv (V.mSub 0 b.1)])
noncomputable def V.tLen (a:V.T3):Option Int := V.mNorm [a.1,a.2.1,a.2.2]
noncomputable def V.tUnit (a:V.T3):Option V.T3 :=
  if V.no [V.tLen a] = true then none else V.t3 (V.mDiv a.1 (V.gv (V.tLen a))) (V.mDiv a.2.1 (V.gv (V.tLen a))) (V.mDiv a.2.2 (V.gv (V.tLen a)))
noncomputable def V.tTurn (m:V.T9) (a:V.T3):Option V.T3 := V.t3 (V.tDot m.1 a) (V.tDot m.2.1 a) (V.tDot m.2.2 a)
def V.tr (m:V.T9):V.T9 := ((m.1.1,m.2.1.1,m.2.2.1),(m.1.2.1,m.2.1.2.1,m.2.2.2.1),(m.1.2.2,m.2.1.2.2,m.2.2.2.2))
noncomputable def V.tBack (m:V.T9) (a:V.T3):Option V.T3 := V.tTurn (V.tr m) a
noncomputable def V.t4 (a b c d:Option Int):Option V.T4 := if V.no [a,b,c,d] = true then none else some (V.gv a,V.gv b,V.gv c,V.gv d)
noncomputable def V.tTimes (p q:V.T4):Option V.T4 :=
  if V.no [V.mSub 0 q.2.1,V.mSub 0 q.2.2.1,V.mSub 0 q.2.2.2] = true then none else
  V.t4 (V.mDot [p.1,p.2.1,p.2.2.1,p.2.2.2] [q.1,V.gv (V.mSub 0 q.2.1),V.gv (V.mSub 0 q.2.2.1),V.gv (V.mSub 0 q.2.2.2)])
    (V.mDot [p.1,p.2.1,p.2.2.1,p.2.2.2] [q.2.1,q.1,q.2.2.2,V.gv (V.mSub 0 q.2.2.1)])
    (V.mDot [p.1,p.2.1,p.2.2.1,p.2.2.2] [q.2.2.1,V.gv (V.mSub 0 q.2.2.2),q.1,q.2.1])
    (V.mDot [p.1,p.2.1,p.2.2.1,p.2.2.2] [q.2.2.2,q.2.2.1,V.gv (V.mSub 0 q.2.1),q.1])
noncomputable def V.tLen4 (q:V.T4):Option Int := V.mNorm [q.1,q.2.1,q.2.2.1,q.2.2.2]
noncomputable def V.tWhole (q:V.T4):Option V.T4 :=
  if V.gv (V.tLen4 q) < 2147483648 ∨ V.no [V.tLen4 q] = true then none else
  V.t4 (V.mDiv q.1 (V.gv (V.tLen4 q))) (V.mDiv q.2.1 (V.gv (V.tLen4 q))) (V.mDiv q.2.2.1 (V.gv (V.tLen4 q))) (V.mDiv q.2.2.2 (V.gv (V.tLen4 q)))
/-- the sums and the negatives that a matrix is made of -/
noncomputable def V.dbl (n:Int):Int := V.gv (V.mAdd n n)
noncomputable def V.neg (n:Int):Int := V.gv (V.mSub 0 n)
noncomputable def V.twoD (a b c d:Int):Option Int := V.mDot [a,b] [c,d]
noncomputable def V.tRows (q:V.T4):Option V.T9 :=
  let w := q.1; let x := q.2.1; let y := q.2.2.1; let z := q.2.2.2
  if V.no [V.mAdd w w,V.mAdd x x,V.mAdd y y,V.mAdd z z,V.mSub 0 x,V.mSub 0 y,V.mSub 0 z,V.twoD (V.dbl y) (V.dbl z) y z,V.twoD (V.dbl x) (V.dbl z) x z,V.twoD (V.dbl x) (V.dbl y) x y] = true then none else
  if V.no [V.mSub 4294967296 (V.gv (V.twoD (V.dbl y) (V.dbl z) y z)),V.twoD (V.dbl x) (V.dbl w) y (V.neg z),V.twoD (V.dbl x) (V.dbl w) z y,V.twoD (V.dbl x) (V.dbl w) y z,
    V.mSub 4294967296 (V.gv (V.twoD (V.dbl x) (V.dbl z) x z)),V.twoD (V.dbl y) (V.dbl w) z (V.neg x),V.twoD (V.dbl x) (V.dbl w) z (V.neg y),V.twoD (V.dbl y) (V.dbl w) z x,
    V.mSub 4294967296 (V.gv (V.twoD (V.dbl x) (V.dbl y) x y))] = true then none else
  some ((V.gv (V.mSub 4294967296 (V.gv (V.twoD (V.dbl y) (V.dbl z) y z))),V.gv (V.twoD (V.dbl x) (V.dbl w) y (V.neg z)),V.gv (V.twoD (V.dbl x) (V.dbl w) z y)),
    (V.gv (V.twoD (V.dbl x) (V.dbl w) y z),V.gv (V.mSub 4294967296 (V.gv (V.twoD (V.dbl x) (V.dbl z) x z))),V.gv (V.twoD (V.dbl y) (V.dbl w) z (V.neg x))),
    (V.gv (V.twoD (V.dbl x) (V.dbl w) z (V.neg y)),V.gv (V.twoD (V.dbl y) (V.dbl w) z x),V.gv (V.mSub 4294967296 (V.gv (V.twoD (V.dbl x) (V.dbl y) x y)))))
noncomputable def V.tSpin (q:V.T4) (h:V.T3):Option V.T4 := (V.tTimes (4294967296,h) q).bind V.tWhole
end Go.Proofs.Ytlagndfhibkjpaa
namespace Go.Proofs.Ytlagndfhibkjpaa.Sx
/-- what a flag says -/
theorem if_flag {β:Type} {f g:Bool} (h:f = g) (a b:β):(if f = true then a else b) = if g = true then a else b := by rw [h]
theorem no_cons (o:Option Int) (l:List (Option Int)):V.no (o :: l) = (o.isNone || V.no l) := rfl
theorem no_nil:V.no [] = false := rfl
theorem or_perm (a b c:Bool):(a || (b || c)) = (b || (a || c)) := Bool.or_left_comm a b c
end Go.Proofs.Ytlagndfhibkjpaa.Sx
end

section
/- vec: what its functions reckon. -/
namespace Go.Proofs.Ytlagndfhibkjpaa.Sx
open Go
set_option maxRecDepth 20000
set_option linter.unusedVariables false
set_option linter.unusedSimpArgs false
noncomputable def _root_.Go.Proofs.Ytlagndfhibkjpaa.M.vadd {α:Type} (bad:Bool) (ax:Int) (ay:Int) (az:Int) (bx:Int) (b_y:Int) (bz:Int) (k0:Int → Int → Int → Bool → Option α):Option α := if V.gn (V.mAdd az bz) (V.gn (V.mAdd ay b_y) (V.gn (V.mAdd ax bx) false)) = true then k0 (0:Int) (0:Int) (0:Int) true else k0 (V.gv (V.mAdd ax bx)) (V.gv (V.mAdd ay b_y)) (V.gv (V.mAdd az bz)) bad
theorem vadd_eq {α:Type} (bad:Bool) (ax:Int) (ay:Int) (az:Int) (bx:Int) (b_y:Int) (bz:Int) (Q:SV → Hp → Option α):callI E look_dot (exec E look_dot noLps 400) 36 ([SV.ptr (nat_lit 0) (nat_lit 0),SV.agg [SV.int .i64 ax,SV.int .i64 ay,SV.int .i64 az],SV.agg [SV.int .i64 bx,SV.int .i64 b_y,SV.int .i64 bz]]) ([.cells [SV.bool bad] (nat_lit 66)]) Q = M.vadd bad ax ay az bx b_y bz (fun (x0 x1 x2:Int) (x3:Bool) => Q (SV.agg [SV.int .i64 x0,SV.int .i64 x1,SV.int .i64 x2]) ([.cells [SV.bool x3] (nat_lit 66)])) := by kernel_rfl
def vadd_sp:List AS := [.ptr 66 [.bool false],.val (.agg [.int .i64 0,.int .i64 0,.int .i64 0]),.val (.agg [.int .i64 0,.int .i64 0,.int .i64 0])]
noncomputable def vadd_go {α:Type} (ds:List D) (Q:SV → Hp → Option α):Option α :=
  dB ds fun bad ds => dI ds fun ax ds => dI ds fun ay ds => dI ds fun az ds => dI ds fun bx ds => dI ds fun b_y ds => dI ds fun bz ds => dE ds (M.vadd bad ax ay az bx b_y bz (fun (x0 x1 x2:Int) (x3:Bool) => Q (SV.agg [SV.int .i64 x0,SV.int .i64 x1,SV.int .i64 x2]) ([.cells [SV.bool x3] (nat_lit 66)])))
theorem vadd_ok {α:Type}:FnOk E.P 36 (fEnt (α := α) vadd_sp vadd_go) :=
  fEnt_ok E (look_dot_ok) (exec_sound E E_ok (look_dot_ok) (noLps_ok _) 400) fun ds Q r h => by
    unfold vadd_go at h
    obtain ⟨bad,ds,rfl,h1⟩ := dB_inv h
    obtain ⟨ax,ds,rfl,h2⟩ := dI_inv h1
    obtain ⟨ay,ds,rfl,h3⟩ := dI_inv h2
    obtain ⟨az,ds,rfl,h4⟩ := dI_inv h3
    obtain ⟨bx,ds,rfl,h5⟩ := dI_inv h4
    obtain ⟨b_y,ds,rfl,h6⟩ := dI_inv h5
    obtain ⟨bz,ds,rfl,h7⟩ := dI_inv h6
    obtain ⟨rfl,hE⟩ := dE_inv h7
    exact ⟨[SV.ptr (nat_lit 0) (nat_lit 0),SV.agg [SV.int .i64 ax,SV.int .i64 ay,SV.int .i64 az],SV.agg [SV.int .i64 bx,SV.int .i64 b_y,SV.int .i64 bz]],[.cells [SV.bool bad] (nat_lit 66)],fun vs => by kernel_rfl,(vadd_eq bad ax ay az bx b_y bz Q).trans hE⟩
theorem vadd_v {α:Type} (bad:Bool) (ax:Int) (ay:Int) (az:Int) (bx:Int) (b_y:Int) (bz:Int) (k0:Int → Int → Int → Bool → Option α):M.vadd bad ax ay az bx b_y bz k0 = k0 (V.x3 (V.tAdd (ax,ay,az) (bx,b_y,bz))) (V.y3 (V.tAdd (ax,ay,az) (bx,b_y,bz))) (V.z3 (V.tAdd (ax,ay,az) (bx,b_y,bz))) (V.on (V.tAdd (ax,ay,az) (bx,b_y,bz)) bad) := by
  unfold M.vadd V.tAdd V.t3
  generalize h0:V.mAdd ax bx = o0
  generalize h1:V.mAdd ay b_y = o1
  generalize h2:V.mAdd az bz = o2
  cases o0 <;> cases o1 <;> cases o2 <;> rfl
noncomputable def vadd_h {α:Type} (ds:List D) (Q:SV → Hp → Option α):Option α :=
  dB ds fun bad ds => dI ds fun ax ds => dI ds fun ay ds => dI ds fun az ds => dI ds fun bx ds => dI ds fun b_y ds => dI ds fun bz ds => dE ds (Q (.agg [.int .i64 (V.x3 (V.tAdd (ax,ay,az) (bx,b_y,bz))),.int .i64 (V.y3 (V.tAdd (ax,ay,az) (bx,b_y,bz))),.int .i64 (V.z3 (V.tAdd (ax,ay,az) (bx,b_y,bz)))]) ([.cells [.bool (V.on (V.tAdd (ax,ay,az) (bx,b_y,bz)) bad)] 66]))
theorem vadd_h_ok {α:Type}:FnOk E.P 36 (fEnt (α := α) vadd_sp vadd_h) :=
  fEnt_ok E (look_dot_ok) (exec_sound E E_ok (look_dot_ok) (noLps_ok _) 400) fun ds Q r h => by
    unfold vadd_h at h
    obtain ⟨bad,ds,rfl,h1⟩ := dB_inv h
    obtain ⟨ax,ds,rfl,h2⟩ := dI_inv h1
    obtain ⟨ay,ds,rfl,h3⟩ := dI_inv h2
    obtain ⟨az,ds,rfl,h4⟩ := dI_inv h3
    obtain ⟨bx,ds,rfl,h5⟩ := dI_inv h4
    obtain ⟨b_y,ds,rfl,h6⟩ := dI_inv h5
    obtain ⟨bz,ds,rfl,h7⟩ := dI_inv h6
    obtain ⟨rfl,hE⟩ := dE_inv h7
    exact ⟨[SV.ptr (nat_lit 0) (nat_lit 0),SV.agg [SV.int .i64 ax,SV.int .i64 ay,SV.int .i64 az],SV.agg [SV.int .i64 bx,SV.int .i64 b_y,SV.int .i64 bz]],[.cells [SV.bool bad] (nat_lit 66)],fun vs => by kernel_rfl,(vadd_eq bad ax ay az bx b_y bz Q).trans ((vadd_v bad ax ay az bx b_y bz _).trans hE)⟩
noncomputable def look_vadd {α:Type}:LookF α := addFn 36 (fEnt vadd_sp vadd_h) look_dot
theorem look_vadd_ok {α:Type}:LookOk E.P (look_vadd (α := α)) := addFn_ok vadd_h_ok (look_dot_ok)
noncomputable def _root_.Go.Proofs.Ytlagndfhibkjpaa.M.vturn {α:Type} (bad:Bool) (m0:Int) (m1:Int) (m2:Int) (m3:Int) (m4:Int) (m5:Int) (m6:Int) (m7:Int) (m8:Int) (ax:Int) (ay:Int) (az:Int) (k0:Int → Int → Int → Bool → Option α):Option α := if V.gn (V.mDot [m6,m7,m8] [ax,ay,az]) (V.gn (V.mDot [m3,m4,m5] [ax,ay,az]) (V.gn (V.mDot [m0,m1,m2] [ax,ay,az]) false)) = true then k0 (0:Int) (0:Int) (0:Int) true else k0 (V.gv (V.mDot [m0,m1,m2] [ax,ay,az])) (V.gv (V.mDot [m3,m4,m5] [ax,ay,az])) (V.gv (V.mDot [m6,m7,m8] [ax,ay,az])) bad
theorem vturn_eq {α:Type} (bad:Bool) (m0:Int) (m1:Int) (m2:Int) (m3:Int) (m4:Int) (m5:Int) (m6:Int) (m7:Int) (m8:Int) (ax:Int) (ay:Int) (az:Int) (Q:SV → Hp → Option α):callI E look_vadd (exec E look_vadd noLps 400) 64 ([SV.ptr (nat_lit 0) (nat_lit 0),SV.agg [SV.int .i64 m0,SV.int .i64 m1,SV.int .i64 m2,SV.int .i64 m3,SV.int .i64 m4,SV.int .i64 m5,SV.int .i64 m6,SV.int .i64 m7,SV.int .i64 m8],SV.agg [SV.int .i64 ax,SV.int .i64 ay,SV.int .i64 az]]) ([.cells [SV.bool bad] (nat_lit 66)]) Q = M.vturn bad m0 m1 m2 m3 m4 m5 m6 m7 m8 ax ay az (fun (x4 x5 x6:Int) (x7:Bool) => Q (SV.agg [SV.int .i64 x4,SV.int .i64 x5,SV.int .i64 x6]) ([.cells [SV.bool x7] (nat_lit 66)])) := by kernel_rfl
def vturn_sp:List AS := [.ptr 66 [.bool false],.val (.agg [.int .i64 0,.int .i64 0,.int .i64 0,.int .i64 0,.int .i64 0,.int .i64 0,.int .i64 0,.int .i64 0,.int .i64 0]),.val (.agg [.int .i64 0,.int .i64 0,.int .i64 0])]
noncomputable def vturn_go {α:Type} (ds:List D) (Q:SV → Hp → Option α):Option α :=
  dB ds fun bad ds => dI ds fun m0 ds => dI ds fun m1 ds => dI ds fun m2 ds => dI ds fun m3 ds => dI ds fun m4 ds => dI ds fun m5 ds => dI ds fun m6 ds => dI ds fun m7 ds => dI ds fun m8 ds => dI ds fun ax ds => dI ds fun ay ds => dI ds fun az ds => dE ds (M.vturn bad m0 m1 m2 m3 m4 m5 m6 m7 m8 ax ay az (fun (x4 x5 x6:Int) (x7:Bool) => Q (SV.agg [SV.int .i64 x4,SV.int .i64 x5,SV.int .i64 x6]) ([.cells [SV.bool x7] (nat_lit 66)])))
theorem vturn_ok {α:Type}:FnOk E.P 64 (fEnt (α := α) vturn_sp vturn_go) :=
  fEnt_ok E (look_vadd_ok) (exec_sound E E_ok (look_vadd_ok) (noLps_ok _) 400) fun ds Q r h => by
    unfold vturn_go at h
    obtain ⟨bad,ds,rfl,h1⟩ := dB_inv h
    obtain ⟨m0,ds,rfl,h2⟩ := dI_inv h1
    obtain ⟨m1,ds,rfl,h3⟩ := dI_inv h2
    obtain ⟨m2,ds,rfl,h4⟩ := dI_inv h3
    obtain ⟨m3,ds,rfl,h5⟩ := dI_inv h4
    obtain ⟨m4,ds,rfl,h6⟩ := dI_inv h5
    obtain ⟨m5,ds,rfl,h7⟩ := dI_inv h6
    obtain ⟨m6,ds,rfl,h8⟩ := dI_inv h7
    obtain ⟨m7,ds,rfl,h9⟩ := dI_inv h8
    obtain ⟨m8,ds,rfl,h10⟩ := dI_inv h9
    obtain ⟨ax,ds,rfl,h11⟩ := dI_inv h10
    obtain ⟨ay,ds,rfl,h12⟩ := dI_inv h11
    obtain ⟨az,ds,rfl,h13⟩ := dI_inv h12
    obtain ⟨rfl,hE⟩ := dE_inv h13
    exact ⟨[SV.ptr (nat_lit 0) (nat_lit 0),SV.agg [SV.int .i64 m0,SV.int .i64 m1,SV.int .i64 m2,SV.int .i64 m3,SV.int .i64 m4,SV.int .i64 m5,SV.int .i64 m6,SV.int .i64 m7,SV.int .i64 m8],SV.agg [SV.int .i64 ax,SV.int .i64 ay,SV.int .i64 az]],[.cells [SV.bool bad] (nat_lit 66)],fun vs => by kernel_rfl,(vturn_eq bad m0 m1 m2 m3 m4 m5 m6 m7 m8 ax ay az Q).trans hE⟩
theorem vturn_v {α:Type} (bad:Bool) (m0:Int) (m1:Int) (m2:Int) (m3:Int) (m4:Int) (m5:Int) (m6:Int) (m7:Int) (m8:Int) (ax:Int) (ay:Int) (az:Int) (k0:Int → Int → Int → Bool → Option α):M.vturn bad m0 m1 m2 m3 m4 m5 m6 m7 m8 ax ay az k0 = k0 (V.x3 (V.tTurn ((m0,m1,m2),(m3,m4,m5),(m6,m7,m8)) (ax,ay,az))) (V.y3 (V.tTurn ((m0,m1,m2),(m3,m4,m5),(m6,m7,m8)) (ax,ay,az))) (V.z3 (V.tTurn ((m0,m1,m2),(m3,m4,m5),(m6,m7,m8)) (ax,ay,az))) (V.on (V.tTurn ((m0,m1,m2),(m3,m4,m5),(m6,m7,m8)) (ax,ay,az)) bad) := by
  unfold M.vturn V.tTurn V.t3 V.tDot
  generalize h0:V.mDot [m0,m1,m2] [ax,ay,az] = o0
  generalize h1:V.mDot [m3,m4,m5] [ax,ay,az] = o1
  generalize h2:V.mDot [m6,m7,m8] [ax,ay,az] = o2
  cases o0 <;> cases o1 <;> cases o2 <;> rfl
noncomputable def vturn_h {α:Type} (ds:List D) (Q:SV → Hp → Option α):Option α :=
  dB ds fun bad ds => dI ds fun m0 ds => dI ds fun m1 ds => dI ds fun m2 ds => dI ds fun m3 ds => dI ds fun m4 ds => dI ds fun m5 ds => dI ds fun m6 ds => dI ds fun m7 ds => dI ds fun m8 ds => dI ds fun ax ds => dI ds fun ay ds => dI ds fun az ds => dE ds (Q (.agg [.int .i64 (V.x3 (V.tTurn ((m0,m1,m2),(m3,m4,m5),(m6,m7,m8)) (ax,ay,az))),.int .i64 (V.y3 (V.tTurn ((m0,m1,m2),(m3,m4,m5),(m6,m7,m8)) (ax,ay,az))),.int .i64 (V.z3 (V.tTurn ((m0,m1,m2),(m3,m4,m5),(m6,m7,m8)) (ax,ay,az)))]) ([.cells [.bool (V.on (V.tTurn ((m0,m1,m2),(m3,m4,m5),(m6,m7,m8)) (ax,ay,az)) bad)] 66]))
theorem vturn_h_ok {α:Type}:FnOk E.P 64 (fEnt (α := α) vturn_sp vturn_h) :=
  fEnt_ok E (look_vadd_ok) (exec_sound E E_ok (look_vadd_ok) (noLps_ok _) 400) fun ds Q r h => by
    unfold vturn_h at h
    obtain ⟨bad,ds,rfl,h1⟩ := dB_inv h
    obtain ⟨m0,ds,rfl,h2⟩ := dI_inv h1
    obtain ⟨m1,ds,rfl,h3⟩ := dI_inv h2
    obtain ⟨m2,ds,rfl,h4⟩ := dI_inv h3
    obtain ⟨m3,ds,rfl,h5⟩ := dI_inv h4
    obtain ⟨m4,ds,rfl,h6⟩ := dI_inv h5
    obtain ⟨m5,ds,rfl,h7⟩ := dI_inv h6
    obtain ⟨m6,ds,rfl,h8⟩ := dI_inv h7
    obtain ⟨m7,ds,rfl,h9⟩ := dI_inv h8
    obtain ⟨m8,ds,rfl,h10⟩ := dI_inv h9
    obtain ⟨ax,ds,rfl,h11⟩ := dI_inv h10
    obtain ⟨ay,ds,rfl,h12⟩ := dI_inv h11
    obtain ⟨az,ds,rfl,h13⟩ := dI_inv h12
    obtain ⟨rfl,hE⟩ := dE_inv h13
    exact ⟨[SV.ptr (nat_lit 0) (nat_lit 0),SV.agg [SV.int .i64 m0,SV.int .i64 m1,SV.int .i64 m2,SV.int .i64 m3,SV.int .i64 m4,SV.int .i64 m5,SV.int .i64 m6,SV.int .i64 m7,SV.int .i64 m8],SV.agg [SV.int .i64 ax,SV.int .i64 ay,SV.int .i64 az]],[.cells [SV.bool bad] (nat_lit 66)],fun vs => by kernel_rfl,(vturn_eq bad m0 m1 m2 m3 m4 m5 m6 m7 m8 ax ay az Q).trans ((vturn_v bad m0 m1 m2 m3 m4 m5 m6 m7 m8 ax ay az _).trans hE)⟩
noncomputable def look_vturn {α:Type}:LookF α := addFn 64 (fEnt vturn_sp vturn_h) look_vadd
theorem look_vturn_ok {α:Type}:LookOk E.P (look_vturn (α := α)) := addFn_ok vturn_h_ok (look_vadd_ok)
end Go.Proofs.Ytlagndfhibkjpaa.Sx
end

section
/- vec: turns. -/
namespace Go.Proofs.Ytlagndfhibkjpaa.Sx
open Go
set_option maxRecDepth 20000
set_option linter.unusedVariables false
set_option linter.unusedSimpArgs false
noncomputable def _root_.Go.Proofs.Ytlagndfhibkjpaa.M.vrows {α:Type} (bad:Bool) (qw:Int) (qx:Int) (qy:Int) (qz:Int) (k0:Int → Int → Int → Int → Int → Int → Int → Int → Int → Bool → Option α):Option α := if V.gn (V.mSub (4294967296:Int) (V.gv (V.mDot [V.gv (V.mAdd qx qx),V.gv (V.mAdd qy qy)] [qx,qy]))) (V.gn (V.mDot [V.gv (V.mAdd qx qx),V.gv (V.mAdd qy qy)] [qx,qy]) (V.gn (V.mDot [V.gv (V.mAdd qy qy),V.gv (V.mAdd qw qw)] [qz,qx]) (V.gn (V.mDot [V.gv (V.mAdd qx qx),V.gv (V.mAdd qw qw)] [qz,V.gv (V.mSub (0:Int) qy)]) (V.gn (V.mDot [V.gv (V.mAdd qy qy),V.gv (V.mAdd qw qw)] [qz,V.gv (V.mSub (0:Int) qx)]) (V.gn (V.mSub (4294967296:Int) (V.gv (V.mDot [V.gv (V.mAdd qx qx),V.gv (V.mAdd qz qz)] [qx,qz]))) (V.gn (V.mDot [V.gv (V.mAdd qx qx),V.gv (V.mAdd qz qz)] [qx,qz]) (V.gn (V.mDot [V.gv (V.mAdd qx qx),V.gv (V.mAdd qw qw)] [qy,qz]) (V.gn (V.mDot [V.gv (V.mAdd qx qx),V.gv (V.mAdd qw qw)] [qz,qy]) (V.gn (V.mDot [V.gv (V.mAdd qx qx),V.gv (V.mAdd qw qw)] [qy,V.gv (V.mSub (0:Int) qz)]) (V.gn (V.mSub (4294967296:Int) (V.gv (V.mDot [V.gv (V.mAdd qy qy),V.gv (V.mAdd qz qz)] [qy,qz]))) (V.gn (V.mDot [V.gv (V.mAdd qy qy),V.gv (V.mAdd qz qz)] [qy,qz]) (V.gn (V.mSub (0:Int) qz) (V.gn (V.mSub (0:Int) qy) (V.gn (V.mSub (0:Int) qx) (V.gn (V.mAdd qz qz) (V.gn (V.mAdd qy qy) (V.gn (V.mAdd qx qx) (V.gn (V.mAdd qw qw) false)))))))))))))))))) = true then k0 (0:Int) (0:Int) (0:Int) (0:Int) (0:Int) (0:Int) (0:Int) (0:Int) (0:Int) true else k0 (V.gv (V.mSub (4294967296:Int) (V.gv (V.mDot [V.gv (V.mAdd qy qy),V.gv (V.mAdd qz qz)] [qy,qz])))) (V.gv (V.mDot [V.gv (V.mAdd qx qx),V.gv (V.mAdd qw qw)] [qy,V.gv (V.mSub (0:Int) qz)])) (V.gv (V.mDot [V.gv (V.mAdd qx qx),V.gv (V.mAdd qw qw)] [qz,qy])) (V.gv (V.mDot [V.gv (V.mAdd qx qx),V.gv (V.mAdd qw qw)] [qy,qz])) (V.gv (V.mSub (4294967296:Int) (V.gv (V.mDot [V.gv (V.mAdd qx qx),V.gv (V.mAdd qz qz)] [qx,qz])))) (V.gv (V.mDot [V.gv (V.mAdd qy qy),V.gv (V.mAdd qw qw)] [qz,V.gv (V.mSub (0:Int) qx)])) (V.gv (V.mDot [V.gv (V.mAdd qx qx),V.gv (V.mAdd qw qw)] [qz,V.gv (V.mSub (0:Int) qy)])) (V.gv (V.mDot [V.gv (V.mAdd qy qy),V.gv (V.mAdd qw qw)] [qz,qx])) (V.gv (V.mSub (4294967296:Int) (V.gv (V.mDot [V.gv (V.mAdd qx qx),V.gv (V.mAdd qy qy)] [qx,qy])))) bad
theorem vrows_eq {α:Type} (bad:Bool) (qw:Int) (qx:Int) (qy:Int) (qz:Int) (Q:SV → Hp → Option α):callI E look_vturn (exec E look_vturn noLps 400) 34 ([SV.ptr (nat_lit 0) (nat_lit 0),SV.agg [SV.int .i64 qw,SV.int .i64 qx,SV.int .i64 qy,SV.int .i64 qz]]) ([.cells [SV.bool bad] (nat_lit 66)]) Q = M.vrows bad qw qx qy qz (fun (x0 x1 x2 x3 x4 x5 x6 x7 x8:Int) (x9:Bool) => Q (SV.agg [SV.int .i64 x0,SV.int .i64 x1,SV.int .i64 x2,SV.int .i64 x3,SV.int .i64 x4,SV.int .i64 x5,SV.int .i64 x6,SV.int .i64 x7,SV.int .i64 x8]) ([.cells [SV.bool x9] (nat_lit 66)])) := by kernel_rfl
def vrows_sp:List AS := [.ptr 66 [.bool false],.val (.agg [.int .i64 0,.int .i64 0,.int .i64 0,.int .i64 0])]
noncomputable def vrows_go {α:Type} (ds:List D) (Q:SV → Hp → Option α):Option α :=
  dB ds fun bad ds => dI ds fun qw ds => dI ds fun qx ds => dI ds fun qy ds => dI ds fun qz ds => dE ds (M.vrows bad qw qx qy qz (fun (x0 x1 x2 x3 x4 x5 x6 x7 x8:Int) (x9:Bool) => Q (SV.agg [SV.int .i64 x0,SV.int .i64 x1,SV.int .i64 x2,SV.int .i64 x3,SV.int .i64 x4,SV.int .i64 x5,SV.int .i64 x6,SV.int .i64 x7,SV.int .i64 x8]) ([.cells [SV.bool x9] (nat_lit 66)])))
theorem vrows_ok {α:Type}:FnOk E.P 34 (fEnt (α := α) vrows_sp vrows_go) :=
  fEnt_ok E (look_vturn_ok) (exec_sound E E_ok (look_vturn_ok) (noLps_ok _) 400) fun ds Q r h => by
    unfold vrows_go at h
    obtain ⟨bad,ds,rfl,h1⟩ := dB_inv h
    obtain ⟨qw,ds,rfl,h2⟩ := dI_inv h1
    obtain ⟨qx,ds,rfl,h3⟩ := dI_inv h2
    obtain ⟨qy,ds,rfl,h4⟩ := dI_inv h3
    obtain ⟨qz,ds,rfl,h5⟩ := dI_inv h4
    obtain ⟨rfl,hE⟩ := dE_inv h5
    exact ⟨[SV.ptr (nat_lit 0) (nat_lit 0),SV.agg [SV.int .i64 qw,SV.int .i64 qx,SV.int .i64 qy,SV.int .i64 qz]],[.cells [SV.bool bad] (nat_lit 66)],fun vs => by kernel_rfl,(vrows_eq bad qw qx qy qz Q).trans hE⟩
theorem vrows_v {α:Type} (bad:Bool) (qw:Int) (qx:Int) (qy:Int) (qz:Int) (k0:Int → Int → Int → Int → Int → Int → Int → Int → Int → Bool → Option α):M.vrows bad qw qx qy qz k0 = k0 (V.m0 (V.tRows (qw,qx,qy,qz))) (V.m1 (V.tRows (qw,qx,qy,qz))) (V.m2 (V.tRows (qw,qx,qy,qz))) (V.m3 (V.tRows (qw,qx,qy,qz))) (V.m4 (V.tRows (qw,qx,qy,qz))) (V.m5 (V.tRows (qw,qx,qy,qz))) (V.m6 (V.tRows (qw,qx,qy,qz))) (V.m7 (V.tRows (qw,qx,qy,qz))) (V.m8 (V.tRows (qw,qx,qy,qz))) (V.on (V.tRows (qw,qx,qy,qz)) bad) := by
  unfold M.vrows V.tRows
  refine (if_flag (g := V.no [V.mAdd qw qw,V.mAdd qx qx,V.mAdd qy qy,V.mAdd qz qz,V.mSub 0 qx,V.mSub 0 qy,V.mSub 0 qz,V.twoD (V.dbl qy) (V.dbl qz) qy qz,V.twoD (V.dbl qx) (V.dbl qz) qx qz,V.twoD (V.dbl qx) (V.dbl qy) qx qy] || V.no [V.mSub 4294967296 (V.gv (V.twoD (V.dbl qy) (V.dbl qz) qy qz)),V.twoD (V.dbl qx) (V.dbl qw) qy (V.neg qz),V.twoD (V.dbl qx) (V.dbl qw) qz qy,V.twoD (V.dbl qx) (V.dbl qw) qy qz,
    V.mSub 4294967296 (V.gv (V.twoD (V.dbl qx) (V.dbl qz) qx qz)),V.twoD (V.dbl qy) (V.dbl qw) qz (V.neg qx),V.twoD (V.dbl qx) (V.dbl qw) qz (V.neg qy),V.twoD (V.dbl qy) (V.dbl qw) qz qx,
    V.mSub 4294967296 (V.gv (V.twoD (V.dbl qx) (V.dbl qy) qx qy))]) ?_ _ _).trans ?_
  · simp only [V.gn, no_cons, no_nil, V.twoD, V.dbl, V.neg, Bool.or_false]
    ac_rfl
  · simp only []
    generalize V.no [V.mAdd qw qw,V.mAdd qx qx,V.mAdd qy qy,V.mAdd qz qz,V.mSub 0 qx,V.mSub 0 qy,V.mSub 0 qz,V.twoD (V.dbl qy) (V.dbl qz) qy qz,V.twoD (V.dbl qx) (V.dbl qz) qx qz,V.twoD (V.dbl qx) (V.dbl qy) qx qy] = f
    generalize V.no _ = g
    cases f <;> cases g <;> rfl
noncomputable def vrows_h {α:Type} (ds:List D) (Q:SV → Hp → Option α):Option α :=
  dB ds fun bad ds => dI ds fun qw ds => dI ds fun qx ds => dI ds fun qy ds => dI ds fun qz ds => dE ds (Q (.agg [.int .i64 (V.m0 (V.tRows (qw,qx,qy,qz))),.int .i64 (V.m1 (V.tRows (qw,qx,qy,qz))),.int .i64 (V.m2 (V.tRows (qw,qx,qy,qz))),.int .i64 (V.m3 (V.tRows (qw,qx,qy,qz))),.int .i64 (V.m4 (V.tRows (qw,qx,qy,qz))),.int .i64 (V.m5 (V.tRows (qw,qx,qy,qz))),.int .i64 (V.m6 (V.tRows (qw,qx,qy,qz))),.int .i64 (V.m7 (V.tRows (qw,qx,qy,qz))),.int .i64 (V.m8 (V.tRows (qw,qx,qy,qz)))]) ([.cells [.bool (V.on (V.tRows (qw,qx,qy,qz)) bad)] 66]))
theorem vrows_h_ok {α:Type}:FnOk E.P 34 (fEnt (α := α) vrows_sp vrows_h) :=
  fEnt_ok E (look_vturn_ok) (exec_sound E E_ok (look_vturn_ok) (noLps_ok _) 400) fun ds Q r h => by
    unfold vrows_h at h
    obtain ⟨bad,ds,rfl,h1⟩ := dB_inv h
    obtain ⟨qw,ds,rfl,h2⟩ := dI_inv h1
    obtain ⟨qx,ds,rfl,h3⟩ := dI_inv h2
    obtain ⟨qy,ds,rfl,h4⟩ := dI_inv h3
    obtain ⟨qz,ds,rfl,h5⟩ := dI_inv h4
    obtain ⟨rfl,hE⟩ := dE_inv h5
    exact ⟨[SV.ptr (nat_lit 0) (nat_lit 0),SV.agg [SV.int .i64 qw,SV.int .i64 qx,SV.int .i64 qy,SV.int .i64 qz]],[.cells [SV.bool bad] (nat_lit 66)],fun vs => by kernel_rfl,(vrows_eq bad qw qx qy qz Q).trans ((vrows_v bad qw qx qy qz _).trans hE)⟩
noncomputable def look_vrows {α:Type}:LookF α := addFn 34 (fEnt vrows_sp vrows_h) look_vturn
theorem look_vrows_ok {α:Type}:LookOk E.P (look_vrows (α := α)) := addFn_ok vrows_h_ok (look_vturn_ok)
end Go.Proofs.Ytlagndfhibkjpaa.Sx
end

section
/- vec: its values, plainly. -/
namespace Go.Proofs.Ytlagndfhibkjpaa.Sx
open Go
set_option linter.unusedVariables false
set_option linter.unusedSimpArgs false
theorem onF {β:Type} {o:Option β} {bad:Bool}:V.on o bad = false ↔ (∃ n,o = some n) ∧ bad = false := by
  unfold V.on; cases o <;> simp
theorem on_some {β:Type} (n:β) (b:Bool):V.on (some n) b = b := rfl
theorem on_none {β:Type} (b:Bool):V.on (none:Option β) b = true := rfl
theorem no_false {l:List (Option Int)}:V.no l = false ↔ ∀ o ∈ l,∃ n,o = some n := by
  unfold V.no
  rw [List.any_eq_false]
  constructor
  · intro h o ho
    have := h o ho
    cases o with
    | none => simp at this
    | some n => exact ⟨n,rfl⟩
  · intro h o ho
    obtain ⟨n,rfl⟩ := h o ho
    simp
theorem guard_some' {β:Type} {c:Bool} {o:Option β} {m:β}:(if c = true then none else o) = some m ↔ c = false ∧ o = some m := by cases c <;> simp
theorem t3_some {a b c:Option Int} {t:V.T3}:V.t3 a b c = some t ↔ a = some t.1 ∧ b = some t.2.1 ∧ c = some t.2.2 := by
  unfold V.t3
  rw [guard_some',no_false]
  obtain ⟨x,y,z⟩ := t
  cases a <;> cases b <;> cases c <;> simp [V.gv]
theorem t4_some {a b c d:Option Int} {t:V.T4}:V.t4 a b c d = some t ↔ a = some t.1 ∧ b = some t.2.1 ∧ c = some t.2.2.1 ∧ d = some t.2.2.2 := by
  unfold V.t4
  rw [guard_some',no_false]
  obtain ⟨x,y,z,w⟩ := t
  cases a <;> cases b <;> cases c <;> cases d <;> simp [V.gv]
theorem tAdd_some {a b t:V.T3}:V.tAdd a b = some t ↔ V.mAdd a.1 b.1 = some t.1 ∧ V.mAdd a.2.1 b.2.1 = some t.2.1 ∧ V.mAdd a.2.2 b.2.2 = some t.2.2 := t3_some
theorem tSub_some {a b t:V.T3}:V.tSub a b = some t ↔ V.mSub a.1 b.1 = some t.1 ∧ V.mSub a.2.1 b.2.1 = some t.2.1 ∧ V.mSub a.2.2 b.2.2 = some t.2.2 := t3_some
theorem tScale_some {a t:V.T3} {n:Int}:V.tScale a n = some t ↔ V.mMul a.1 n = some t.1 ∧ V.mMul a.2.1 n = some t.2.1 ∧ V.mMul a.2.2 n = some t.2.2 := t3_some
theorem negO {n m:Int}:V.mSub 0 n = some m ↔ Gd n ∧ m = -n := by
  rw [mSub_some]; unfold Gd; omega
theorem ex_neg {n:Int}:(∃ m,V.mSub 0 n = some m) ↔ Gd n := by
  constructor
  · rintro ⟨m,h⟩; exact (negO.1 h).1
  · intro h; exact ⟨-n,negO.2 ⟨h,rfl⟩⟩
theorem gv_neg {n:Int} (h:Gd n):V.gv (V.mSub 0 n) = -n := by rw [negO.2 ⟨h,rfl⟩]; rfl
theorem tCross_some {a b t:V.T3}:V.tCross a b = some t ↔ V.mDot [a.2.1,a.2.2] [b.2.2,-b.2.1] = some t.1 ∧ V.mDot [a.2.2,a.1] [b.1,-b.2.2] = some t.2.1 ∧ V.mDot [a.1,a.2.1] [b.2.1,-b.1] = some t.2.2 := by
  unfold V.tCross
  rw [guard_some',no_false,t3_some]
  simp only [List.mem_cons,List.not_mem_nil,or_false,forall_eq_or_imp,forall_eq,ex_neg]
  constructor
  · rintro ⟨⟨h1, h2, h3⟩, h⟩
    rwa [gv_neg h1,gv_neg h2,gv_neg h3] at h
  · intro h
    have g1:Gd b.1 := (mDot2_some.1 h.2.1).2.2.1
    have g2:Gd b.2.1 := (mDot2_some.1 h.2.2).2.2.1
    have g3:Gd b.2.2 := (mDot2_some.1 h.1).2.2.1
    rw [gv_neg g1,gv_neg g2,gv_neg g3]
    exact ⟨⟨g1,g2,g3⟩,h⟩
theorem tUnit_some {a t:V.T3}:V.tUnit a = some t ↔ ∃ n,V.tLen a = some n ∧ V.mDiv a.1 n = some t.1 ∧ V.mDiv a.2.1 n = some t.2.1 ∧ V.mDiv a.2.2 n = some t.2.2 := by
  unfold V.tUnit
  rw [guard_some',no_false,t3_some]
  simp only [List.mem_cons,List.not_mem_nil,or_false,forall_eq]
  constructor
  · rintro ⟨⟨n, hn⟩, h⟩
    rw [hn] at h
    exact ⟨n,hn,h⟩
  · rintro ⟨n, hn, h⟩
    rw [hn]
    exact ⟨⟨n,rfl⟩,h⟩
theorem tWhole_some {q t:V.T4}:V.tWhole q = some t ↔ ∃ n,V.tLen4 q = some n ∧ 2147483648 ≤ n ∧ V.mDiv q.1 n = some t.1 ∧ V.mDiv q.2.1 n = some t.2.1 ∧ V.mDiv q.2.2.1 n = some t.2.2.1 ∧ V.mDiv q.2.2.2 n = some t.2.2.2 := by
  unfold V.tWhole
  by_cases hc:V.gv (V.tLen4 q) < 2147483648 ∨ V.no [V.tLen4 q] = true
  · rw [if_pos hc]
    constructor
    · intro h; cases h
    · rintro ⟨n, hn, h1, _⟩
      rw [hn] at hc
      rcases hc with hc | hc
      · rw [gv_some] at hc; omega
      · cases hc
  · rw [if_neg hc, t4_some]
    have h2:V.no [V.tLen4 q] = false := by cases h:V.no [V.tLen4 q] <;> simp_all
    obtain ⟨n,hn⟩ := no_false.1 h2 (V.tLen4 q) (by simp)
    rw [hn] at hc ⊢
    rw [gv_some] at hc ⊢
    constructor
    · intro h
      exact ⟨n,rfl,by omega,h⟩
    · rintro ⟨m, hm, _, h⟩
      cases hm
      exact h
theorem tTurn_some {m:V.T9} {a t:V.T3}:V.tTurn m a = some t ↔ V.tDot m.1 a = some t.1 ∧ V.tDot m.2.1 a = some t.2.1 ∧ V.tDot m.2.2 a = some t.2.2 := t3_some
end Go.Proofs.Ytlagndfhibkjpaa.Sx
end

section
/- pose: boxes, and points that are not too far. -/
namespace Go.Proofs.Ytlagndfhibkjpaa.Sx
open Go
set_option maxRecDepth 20000
set_option linter.unusedVariables false
set_option linter.unusedSimpArgs false
noncomputable def look_PoA_vadd {α:Type}:LookF α := addFn 36 (fEnt vadd_sp vadd_h) look_lpoints
theorem look_PoA_vadd_ok {α:Type}:LookOk E.P (look_PoA_vadd (α := α)) := addFn_ok vadd_h_ok (look_lpoints_ok)
noncomputable def look_PoA_vturn {α:Type}:LookF α := addFn 64 (fEnt vturn_sp vturn_h) look_PoA_vadd
theorem look_PoA_vturn_ok {α:Type}:LookOk E.P (look_PoA_vturn (α := α)) := addFn_ok vturn_h_ok (look_PoA_vadd_ok)
noncomputable def look_PoA_vrows {α:Type}:LookF α := addFn 34 (fEnt vrows_sp vrows_h) look_PoA_vturn
theorem look_PoA_vrows_ok {α:Type}:LookOk E.P (look_PoA_vrows (α := α)) := addFn_ok vrows_h_ok (look_PoA_vturn_ok)
noncomputable def _root_.Go.Proofs.Ytlagndfhibkjpaa.M.pwithin {α:Type} (x:Int) (y:Int) (z:Int) (n:Int) (k0:Bool → Option α):Option α := if cLe (if z > if y > x then y else x then z else if y > x then y else x) n = true then k0 (cLe (IntKind.wrap .i64 ((0:Int) - n)) (if z < if y < x then y else x then z else if y < x then y else x)) else k0 false
theorem pwithin_eq {α:Type} (x:Int) (y:Int) (z:Int) (n:Int) (Q:SV → Hp → Option α):callI E look_PoA_vrows (exec E look_PoA_vrows noLps 400) 37 ([SV.agg [SV.int .i64 x,SV.int .i64 y,SV.int .i64 z],SV.int .i64 n]) ([]) Q = M.pwithin x y z n (fun (x0:Bool) => Q (SV.bool x0) ([])) := by kernel_rfl
def pwithin_sp:List AS := [.val (.agg [.int .i64 0,.int .i64 0,.int .i64 0]),.val (.int .i64 0)]
noncomputable def _root_.Go.Proofs.Ytlagndfhibkjpaa.V.pwithin_r0 (x:Int) (y:Int) (z:Int) (n:Int):Bool := if cLe (if z > if y > x then y else x then z else if y > x then y else x) n = true then cLe (IntKind.wrap .i64 ((0:Int) - n)) (if z < if y < x then y else x then z else if y < x then y else x) else false
theorem pwithin_val {α:Type} (x:Int) (y:Int) (z:Int) (n:Int) (k0:Bool → Option α):M.pwithin x y z n k0 = k0 (V.pwithin_r0 x y z n) := by
  unfold M.pwithin V.pwithin_r0
  repeat' first | rfl | (split <;> rename_i h <;> first | simp only [if_pos h] | simp only [if_neg h] | skip)
noncomputable def pwithin_c {α:Type} (ds:List D) (Q:SV → Hp → Option α):Option α :=
  dI ds fun x ds => dI ds fun y ds => dI ds fun z ds => dI ds fun n ds => dE ds (Q (SV.bool (V.pwithin_r0 x y z n)) ([]))
theorem pwithin_c_ok {α:Type}:FnOk E.P 37 (fEnt (α := α) pwithin_sp pwithin_c) :=
  fEnt_ok E (look_PoA_vrows_ok) (exec_sound E E_ok (look_PoA_vrows_ok) (noLps_ok _) 400) fun ds Q r h => by
    unfold pwithin_c at h
    obtain ⟨x,ds,rfl,h1⟩ := dI_inv h
    obtain ⟨y,ds,rfl,h2⟩ := dI_inv h1
    obtain ⟨z,ds,rfl,h3⟩ := dI_inv h2
    obtain ⟨n,ds,rfl,h4⟩ := dI_inv h3
    obtain ⟨rfl,hE⟩ := dE_inv h4
    exact ⟨[SV.agg [SV.int .i64 x,SV.int .i64 y,SV.int .i64 z],SV.int .i64 n],[],fun vs => by kernel_rfl,(pwithin_eq x y z n Q).trans ((pwithin_val x y z n (fun (x0:Bool) => Q (SV.bool x0) ([]))).trans hE)⟩
noncomputable def pwithin_go {α:Type} (ds:List D) (Q:SV → Hp → Option α):Option α :=
  dI ds fun x ds => dI ds fun y ds => dI ds fun z ds => dI ds fun n ds => dE ds (M.pwithin x y z n (fun (x0:Bool) => Q (SV.bool x0) ([])))
theorem pwithin_ok {α:Type}:FnOk E.P 37 (fEnt (α := α) pwithin_sp pwithin_go) :=
  fEnt_ok E (look_PoA_vrows_ok) (exec_sound E E_ok (look_PoA_vrows_ok) (noLps_ok _) 400) fun ds Q r h => by
    unfold pwithin_go at h
    obtain ⟨x,ds,rfl,h1⟩ := dI_inv h
    obtain ⟨y,ds,rfl,h2⟩ := dI_inv h1
    obtain ⟨z,ds,rfl,h3⟩ := dI_inv h2
    obtain ⟨n,ds,rfl,h4⟩ := dI_inv h3
    obtain ⟨rfl,hE⟩ := dE_inv h4
    exact ⟨[SV.agg [SV.int .i64 x,SV.int .i64 y,SV.int .i64 z],SV.int .i64 n],[],fun vs => by kernel_rfl,(pwithin_eq x y z n Q).trans hE⟩
noncomputable def look_pwithin {α:Type}:LookF α := addFn 37 (fEnt pwithin_sp pwithin_c) look_PoA_vrows
theorem look_pwithin_ok {α:Type}:LookOk E.P (look_pwithin (α := α)) := addFn_ok pwithin_c_ok (look_PoA_vrows_ok)
noncomputable def _root_.Go.Proofs.Ytlagndfhibkjpaa.M.pmeet {α:Type} (a0:Int) (a1:Int) (a2:Int) (a3:Int) (a4:Int) (a5:Int) (b0:Int) (b1:Int) (b2:Int) (b3:Int) (b4:Int) (b5:Int) (k0:Bool → Option α):Option α := if cLe a0 b3 = true then if cLe b0 a3 = true then if cLe a1 b4 = true then if cLe b1 a4 = true then if cLe a2 b5 = true then k0 (cLe b2 a5) else k0 false else k0 false else k0 false else k0 false else k0 false
theorem pmeet_eq {α:Type} (a0:Int) (a1:Int) (a2:Int) (a3:Int) (a4:Int) (a5:Int) (b0:Int) (b1:Int) (b2:Int) (b3:Int) (b4:Int) (b5:Int) (Q:SV → Hp → Option α):callI E look_pwithin (exec E look_pwithin noLps 400) 15 ([SV.agg [SV.int .i64 a0,SV.int .i64 a1,SV.int .i64 a2,SV.int .i64 a3,SV.int .i64 a4,SV.int .i64 a5],SV.agg [SV.int .i64 b0,SV.int .i64 b1,SV.int .i64 b2,SV.int .i64 b3,SV.int .i64 b4,SV.int .i64 b5]]) ([]) Q = M.pmeet a0 a1 a2 a3 a4 a5 b0 b1 b2 b3 b4 b5 (fun (x1:Bool) => Q (SV.bool x1) ([])) := by kernel_rfl
def pmeet_sp:List AS := [.val (.agg [.int .i64 0,.int .i64 0,.int .i64 0,.int .i64 0,.int .i64 0,.int .i64 0]),.val (.agg [.int .i64 0,.int .i64 0,.int .i64 0,.int .i64 0,.int .i64 0,.int .i64 0])]
noncomputable def _root_.Go.Proofs.Ytlagndfhibkjpaa.V.pmeet_r0 (a0:Int) (a1:Int) (a2:Int) (a3:Int) (a4:Int) (a5:Int) (b0:Int) (b1:Int) (b2:Int) (b3:Int) (b4:Int) (b5:Int):Bool := if cLe a0 b3 = true then if cLe b0 a3 = true then if cLe a1 b4 = true then if cLe b1 a4 = true then if cLe a2 b5 = true then cLe b2 a5 else false else false else false else false else false
theorem pmeet_val {α:Type} (a0:Int) (a1:Int) (a2:Int) (a3:Int) (a4:Int) (a5:Int) (b0:Int) (b1:Int) (b2:Int) (b3:Int) (b4:Int) (b5:Int) (k0:Bool → Option α):M.pmeet a0 a1 a2 a3 a4 a5 b0 b1 b2 b3 b4 b5 k0 = k0 (V.pmeet_r0 a0 a1 a2 a3 a4 a5 b0 b1 b2 b3 b4 b5) := by
  unfold M.pmeet V.pmeet_r0
  repeat' first | rfl | (split <;> rename_i h <;> first | simp only [if_pos h] | simp only [if_neg h] | skip)
noncomputable def pmeet_c {α:Type} (ds:List D) (Q:SV → Hp → Option α):Option α :=
  dI ds fun a0 ds => dI ds fun a1 ds => dI ds fun a2 ds => dI ds fun a3 ds => dI ds fun a4 ds => dI ds fun a5 ds => dI ds fun b0 ds => dI ds fun b1 ds => dI ds fun b2 ds => dI ds fun b3 ds => dI ds fun b4 ds => dI ds fun b5 ds => dE ds (Q (SV.bool (V.pmeet_r0 a0 a1 a2 a3 a4 a5 b0 b1 b2 b3 b4 b5)) ([]))
theorem pmeet_c_ok {α:Type}:FnOk E.P 15 (fEnt (α := α) pmeet_sp pmeet_c) :=
  fEnt_ok E (look_pwithin_ok) (exec_sound E E_ok (look_pwithin_ok) (noLps_ok _) 400) fun ds Q r h => by
    unfold pmeet_c at h
    obtain ⟨a0,ds,rfl,h1⟩ := dI_inv h
    obtain ⟨a1,ds,rfl,h2⟩ := dI_inv h1
    obtain ⟨a2,ds,rfl,h3⟩ := dI_inv h2
    obtain ⟨a3,ds,rfl,h4⟩ := dI_inv h3
    obtain ⟨a4,ds,rfl,h5⟩ := dI_inv h4
    obtain ⟨a5,ds,rfl,h6⟩ := dI_inv h5
    obtain ⟨b0,ds,rfl,h7⟩ := dI_inv h6
    obtain ⟨b1,ds,rfl,h8⟩ := dI_inv h7
    obtain ⟨b2,ds,rfl,h9⟩ := dI_inv h8
    obtain ⟨b3,ds,rfl,h10⟩ := dI_inv h9
    obtain ⟨b4,ds,rfl,h11⟩ := dI_inv h10
    obtain ⟨b5,ds,rfl,h12⟩ := dI_inv h11
    obtain ⟨rfl,hE⟩ := dE_inv h12
    exact ⟨[SV.agg [SV.int .i64 a0,SV.int .i64 a1,SV.int .i64 a2,SV.int .i64 a3,SV.int .i64 a4,SV.int .i64 a5],SV.agg [SV.int .i64 b0,SV.int .i64 b1,SV.int .i64 b2,SV.int .i64 b3,SV.int .i64 b4,SV.int .i64 b5]],[],fun vs => by kernel_rfl,(pmeet_eq a0 a1 a2 a3 a4 a5 b0 b1 b2 b3 b4 b5 Q).trans ((pmeet_val a0 a1 a2 a3 a4 a5 b0 b1 b2 b3 b4 b5 (fun (x1:Bool) => Q (SV.bool x1) ([]))).trans hE)⟩
noncomputable def pmeet_go {α:Type} (ds:List D) (Q:SV → Hp → Option α):Option α :=
  dI ds fun a0 ds => dI ds fun a1 ds => dI ds fun a2 ds => dI ds fun a3 ds => dI ds fun a4 ds => dI ds fun a5 ds => dI ds fun b0 ds => dI ds fun b1 ds => dI ds fun b2 ds => dI ds fun b3 ds => dI ds fun b4 ds => dI ds fun b5 ds => dE ds (M.pmeet a0 a1 a2 a3 a4 a5 b0 b1 b2 b3 b4 b5 (fun (x1:Bool) => Q (SV.bool x1) ([])))
theorem pmeet_ok {α:Type}:FnOk E.P 15 (fEnt (α := α) pmeet_sp pmeet_go) :=
  fEnt_ok E (look_pwithin_ok) (exec_sound E E_ok (look_pwithin_ok) (noLps_ok _) 400) fun ds Q r h => by
    unfold pmeet_go at h
    obtain ⟨a0,ds,rfl,h1⟩ := dI_inv h
    obtain ⟨a1,ds,rfl,h2⟩ := dI_inv h1
    obtain ⟨a2,ds,rfl,h3⟩ := dI_inv h2
    obtain ⟨a3,ds,rfl,h4⟩ := dI_inv h3
    obtain ⟨a4,ds,rfl,h5⟩ := dI_inv h4
    obtain ⟨a5,ds,rfl,h6⟩ := dI_inv h5
    obtain ⟨b0,ds,rfl,h7⟩ := dI_inv h6
    obtain ⟨b1,ds,rfl,h8⟩ := dI_inv h7
    obtain ⟨b2,ds,rfl,h9⟩ := dI_inv h8
    obtain ⟨b3,ds,rfl,h10⟩ := dI_inv h9
    obtain ⟨b4,ds,rfl,h11⟩ := dI_inv h10
    obtain ⟨b5,ds,rfl,h12⟩ := dI_inv h11
    obtain ⟨rfl,hE⟩ := dE_inv h12
    exact ⟨[SV.agg [SV.int .i64 a0,SV.int .i64 a1,SV.int .i64 a2,SV.int .i64 a3,SV.int .i64 a4,SV.int .i64 a5],SV.agg [SV.int .i64 b0,SV.int .i64 b1,SV.int .i64 b2,SV.int .i64 b3,SV.int .i64 b4,SV.int .i64 b5]],[],fun vs => by kernel_rfl,(pmeet_eq a0 a1 a2 a3 a4 a5 b0 b1 b2 b3 b4 b5 Q).trans hE⟩
noncomputable def look_pmeet {α:Type}:LookF α := addFn 15 (fEnt pmeet_sp pmeet_c) look_pwithin
theorem look_pmeet_ok {α:Type}:LookOk E.P (look_pmeet (α := α)) := addFn_ok pmeet_c_ok (look_pwithin_ok)
noncomputable def _root_.Go.Proofs.Ytlagndfhibkjpaa.M.pgrown {α:Type} (a0:Int) (a1:Int) (a2:Int) (a3:Int) (a4:Int) (a5:Int) (n:Int) (k0:Int → Int → Int → Int → Int → Int → Option α):Option α := k0 (IntKind.wrap .i64 (a0 - n)) (IntKind.wrap .i64 (a1 - n)) (IntKind.wrap .i64 (a2 - n)) (IntKind.wrap .i64 (a3 + n)) (IntKind.wrap .i64 (a4 + n)) (IntKind.wrap .i64 (a5 + n))
theorem pgrown_eq {α:Type} (a0:Int) (a1:Int) (a2:Int) (a3:Int) (a4:Int) (a5:Int) (n:Int) (Q:SV → Hp → Option α):callI E look_pmeet (exec E look_pmeet noLps 400) 17 ([SV.agg [SV.int .i64 a0,SV.int .i64 a1,SV.int .i64 a2,SV.int .i64 a3,SV.int .i64 a4,SV.int .i64 a5],SV.int .i64 n]) ([]) Q = M.pgrown a0 a1 a2 a3 a4 a5 n (fun (x2 x3 x4 x5 x6 x7:Int) => Q (SV.agg [SV.int .i64 x2,SV.int .i64 x3,SV.int .i64 x4,SV.int .i64 x5,SV.int .i64 x6,SV.int .i64 x7]) ([])) := by kernel_rfl
def pgrown_sp:List AS := [.val (.agg [.int .i64 0,.int .i64 0,.int .i64 0,.int .i64 0,.int .i64 0,.int .i64 0]),.val (.int .i64 0)]
noncomputable def _root_.Go.Proofs.Ytlagndfhibkjpaa.V.pgrown_r0 (a0:Int) (a1:Int) (a2:Int) (a3:Int) (a4:Int) (a5:Int) (n:Int):Int := IntKind.wrap .i64 (a0 - n)
noncomputable def _root_.Go.Proofs.Ytlagndfhibkjpaa.V.pgrown_r1 (a0:Int) (a1:Int) (a2:Int) (a3:Int) (a4:Int) (a5:Int) (n:Int):Int := IntKind.wrap .i64 (a1 - n)
noncomputable def _root_.Go.Proofs.Ytlagndfhibkjpaa.V.pgrown_r2 (a0:Int) (a1:Int) (a2:Int) (a3:Int) (a4:Int) (a5:Int) (n:Int):Int := IntKind.wrap .i64 (a2 - n)
noncomputable def _root_.Go.Proofs.Ytlagndfhibkjpaa.V.pgrown_r3 (a0:Int) (a1:Int) (a2:Int) (a3:Int) (a4:Int) (a5:Int) (n:Int):Int := IntKind.wrap .i64 (a3 + n)
noncomputable def _root_.Go.Proofs.Ytlagndfhibkjpaa.V.pgrown_r4 (a0:Int) (a1:Int) (a2:Int) (a3:Int) (a4:Int) (a5:Int) (n:Int):Int := IntKind.wrap .i64 (a4 + n)
noncomputable def _root_.Go.Proofs.Ytlagndfhibkjpaa.V.pgrown_r5 (a0:Int) (a1:Int) (a2:Int) (a3:Int) (a4:Int) (a5:Int) (n:Int):Int := IntKind.wrap .i64 (a5 + n)
theorem pgrown_val {α:Type} (a0:Int) (a1:Int) (a2:Int) (a3:Int) (a4:Int) (a5:Int) (n:Int) (k0:Int → Int → Int → Int → Int → Int → Option α):M.pgrown a0 a1 a2 a3 a4 a5 n k0 = k0 (V.pgrown_r0 a0 a1 a2 a3 a4 a5 n) (V.pgrown_r1 a0 a1 a2 a3 a4 a5 n) (V.pgrown_r2 a0 a1 a2 a3 a4 a5 n) (V.pgrown_r3 a0 a1 a2 a3 a4 a5 n) (V.pgrown_r4 a0 a1 a2 a3 a4 a5 n) (V.pgrown_r5 a0 a1 a2 a3 a4 a5 n) := by
  unfold M.pgrown V.pgrown_r0 V.pgrown_r1 V.pgrown_r2 V.pgrown_r3 V.pgrown_r4 V.pgrown_r5
  repeat' first | rfl | (split <;> rename_i h <;> first | simp only [if_pos h] | simp only [if_neg h] | skip)
noncomputable def pgrown_c {α:Type} (ds:List D) (Q:SV → Hp → Option α):Option α :=
  dI ds fun a0 ds => dI ds fun a1 ds => dI ds fun a2 ds => dI ds fun a3 ds => dI ds fun a4 ds => dI ds fun a5 ds => dI ds fun n ds => dE ds (Q (SV.agg [SV.int .i64 (V.pgrown_r0 a0 a1 a2 a3 a4 a5 n),SV.int .i64 (V.pgrown_r1 a0 a1 a2 a3 a4 a5 n),SV.int .i64 (V.pgrown_r2 a0 a1 a2 a3 a4 a5 n),SV.int .i64 (V.pgrown_r3 a0 a1 a2 a3 a4 a5 n),SV.int .i64 (V.pgrown_r4 a0 a1 a2 a3 a4 a5 n),SV.int .i64 (V.pgrown_r5 a0 a1 a2 a3 a4 a5 n)]) ([]))
theorem pgrown_c_ok {α:Type}:FnOk E.P 17 (fEnt (α := α) pgrown_sp pgrown_c) :=
  fEnt_ok E (look_pmeet_ok) (exec_sound E E_ok (look_pmeet_ok) (noLps_ok _) 400) fun ds Q r h => by
    unfold pgrown_c at h
    obtain ⟨a0,ds,rfl,h1⟩ := dI_inv h
    obtain ⟨a1,ds,rfl,h2⟩ := dI_inv h1
    obtain ⟨a2,ds,rfl,h3⟩ := dI_inv h2
    obtain ⟨a3,ds,rfl,h4⟩ := dI_inv h3
    obtain ⟨a4,ds,rfl,h5⟩ := dI_inv h4
    obtain ⟨a5,ds,rfl,h6⟩ := dI_inv h5
    obtain ⟨n,ds,rfl,h7⟩ := dI_inv h6
    obtain ⟨rfl,hE⟩ := dE_inv h7
    exact ⟨[SV.agg [SV.int .i64 a0,SV.int .i64 a1,SV.int .i64 a2,SV.int .i64 a3,SV.int .i64 a4,SV.int .i64 a5],SV.int .i64 n],[],fun vs => by kernel_rfl,(pgrown_eq a0 a1 a2 a3 a4 a5 n Q).trans ((pgrown_val a0 a1 a2 a3 a4 a5 n (fun (x2 x3 x4 x5 x6 x7:Int) => Q (SV.agg [SV.int .i64 x2,SV.int .i64 x3,SV.int .i64 x4,SV.int .i64 x5,SV.int .i64 x6,SV.int .i64 x7]) ([]))).trans hE)⟩
noncomputable def pgrown_go {α:Type} (ds:List D) (Q:SV → Hp → Option α):Option α :=
  dI ds fun a0 ds => dI ds fun a1 ds => dI ds fun a2 ds => dI ds fun a3 ds => dI ds fun a4 ds => dI ds fun a5 ds => dI ds fun n ds => dE ds (M.pgrown a0 a1 a2 a3 a4 a5 n (fun (x2 x3 x4 x5 x6 x7:Int) => Q (SV.agg [SV.int .i64 x2,SV.int .i64 x3,SV.int .i64 x4,SV.int .i64 x5,SV.int .i64 x6,SV.int .i64 x7]) ([])))
theorem pgrown_ok {α:Type}:FnOk E.P 17 (fEnt (α := α) pgrown_sp pgrown_go) :=
  fEnt_ok E (look_pmeet_ok) (exec_sound E E_ok (look_pmeet_ok) (noLps_ok _) 400) fun ds Q r h => by
    unfold pgrown_go at h
    obtain ⟨a0,ds,rfl,h1⟩ := dI_inv h
    obtain ⟨a1,ds,rfl,h2⟩ := dI_inv h1
    obtain ⟨a2,ds,rfl,h3⟩ := dI_inv h2
    obtain ⟨a3,ds,rfl,h4⟩ := dI_inv h3
    obtain ⟨a4,ds,rfl,h5⟩ := dI_inv h4
    obtain ⟨a5,ds,rfl,h6⟩ := dI_inv h5
    obtain ⟨n,ds,rfl,h7⟩ := dI_inv h6
    obtain ⟨rfl,hE⟩ := dE_inv h7
    exact ⟨[SV.agg [SV.int .i64 a0,SV.int .i64 a1,SV.int .i64 a2,SV.int .i64 a3,SV.int .i64 a4,SV.int .i64 a5],SV.int .i64 n],[],fun vs => by kernel_rfl,(pgrown_eq a0 a1 a2 a3 a4 a5 n Q).trans hE⟩
noncomputable def look_pgrown {α:Type}:LookF α := addFn 17 (fEnt pgrown_sp pgrown_c) look_pmeet
theorem look_pgrown_ok {α:Type}:LookOk E.P (look_pgrown (α := α)) := addFn_ok pgrown_c_ok (look_pmeet_ok)
noncomputable def _root_.Go.Proofs.Ytlagndfhibkjpaa.M.pjoin {α:Type} (a0:Int) (a1:Int) (a2:Int) (a3:Int) (a4:Int) (a5:Int) (b0:Int) (b1:Int) (b2:Int) (b3:Int) (b4:Int) (b5:Int) (k0:Int → Int → Int → Int → Int → Int → Option α):Option α := k0 (if b0 < a0 then b0 else a0) (if b1 < a1 then b1 else a1) (if b2 < a2 then b2 else a2) (if b3 > a3 then b3 else a3) (if b4 > a4 then b4 else a4) (if b5 > a5 then b5 else a5)
theorem pjoin_eq {α:Type} (a0:Int) (a1:Int) (a2:Int) (a3:Int) (a4:Int) (a5:Int) (b0:Int) (b1:Int) (b2:Int) (b3:Int) (b4:Int) (b5:Int) (Q:SV → Hp → Option α):callI E look_pgrown (exec E look_pgrown noLps 400) 14 ([SV.agg [SV.int .i64 a0,SV.int .i64 a1,SV.int .i64 a2,SV.int .i64 a3,SV.int .i64 a4,SV.int .i64 a5],SV.agg [SV.int .i64 b0,SV.int .i64 b1,SV.int .i64 b2,SV.int .i64 b3,SV.int .i64 b4,SV.int .i64 b5]]) ([]) Q = M.pjoin a0 a1 a2 a3 a4 a5 b0 b1 b2 b3 b4 b5 (fun (x8 x9 x10 x11 x12 x13:Int) => Q (SV.agg [SV.int .i64 x8,SV.int .i64 x9,SV.int .i64 x10,SV.int .i64 x11,SV.int .i64 x12,SV.int .i64 x13]) ([])) := by kernel_rfl
def pjoin_sp:List AS := [.val (.agg [.int .i64 0,.int .i64 0,.int .i64 0,.int .i64 0,.int .i64 0,.int .i64 0]),.val (.agg [.int .i64 0,.int .i64 0,.int .i64 0,.int .i64 0,.int .i64 0,.int .i64 0])]
noncomputable def _root_.Go.Proofs.Ytlagndfhibkjpaa.V.pjoin_r0 (a0:Int) (a1:Int) (a2:Int) (a3:Int) (a4:Int) (a5:Int) (b0:Int) (b1:Int) (b2:Int) (b3:Int) (b4:Int) (b5:Int):Int := if b0 < a0 then b0 else a0
noncomputable def _root_.Go.Proofs.Ytlagndfhibkjpaa.V.pjoin_r1 (a0:Int) (a1:Int) (a2:Int) (a3:Int) (a4:Int) (a5:Int) (b0:Int) (b1:Int) (b2:Int) (b3:Int) (b4:Int) (b5:Int):Int := if b1 < a1 then b1 else a1
noncomputable def _root_.Go.Proofs.Ytlagndfhibkjpaa.V.pjoin_r2 (a0:Int) (a1:Int) (a2:Int) (a3:Int) (a4:Int) (a5:Int) (b0:Int) (b1:Int) (b2:Int) (b3:Int) (b4:Int) (b5:Int):Int := if b2 < a2 then b2 else a2
noncomputable def _root_.Go.Proofs.Ytlagndfhibkjpaa.V.pjoin_r3 (a0:Int) (a1:Int) (a2:Int) (a3:Int) (a4:Int) (a5:Int) (b0:Int) (b1:Int) (b2:Int) (b3:Int) (b4:Int) (b5:Int):Int := if b3 > a3 then b3 else a3
noncomputable def _root_.Go.Proofs.Ytlagndfhibkjpaa.V.pjoin_r4 (a0:Int) (a1:Int) (a2:Int) (a3:Int) (a4:Int) (a5:Int) (b0:Int) (b1:Int) (b2:Int) (b3:Int) (b4:Int) (b5:Int):Int := if b4 > a4 then b4 else a4
noncomputable def _root_.Go.Proofs.Ytlagndfhibkjpaa.V.pjoin_r5 (a0:Int) (a1:Int) (a2:Int) (a3:Int) (a4:Int) (a5:Int) (b0:Int) (b1:Int) (b2:Int) (b3:Int) (b4:Int) (b5:Int):Int := if b5 > a5 then b5 else a5
theorem pjoin_val {α:Type} (a0:Int) (a1:Int) (a2:Int) (a3:Int) (a4:Int) (a5:Int) (b0:Int) (b1:Int) (b2:Int) (b3:Int) (b4:Int) (b5:Int) (k0:Int → Int → Int → Int → Int → Int → Option α):M.pjoin a0 a1 a2 a3 a4 a5 b0 b1 b2 b3 b4 b5 k0 = k0 (V.pjoin_r0 a0 a1 a2 a3 a4 a5 b0 b1 b2 b3 b4 b5) (V.pjoin_r1 a0 a1 a2 a3 a4 a5 b0 b1 b2 b3 b4 b5) (V.pjoin_r2 a0 a1 a2 a3 a4 a5 b0 b1 b2 b3 b4 b5) (V.pjoin_r3 a0 a1 a2 a3 a4 a5 b0 b1 b2 b3 b4 b5) (V.pjoin_r4 a0 a1 a2 a3 a4 a5 b0 b1 b2 b3 b4 b5) (V.pjoin_r5 a0 a1 a2 a3 a4 a5 b0 b1 b2 b3 b4 b5) := by
  unfold M.pjoin V.pjoin_r0 V.pjoin_r1 V.pjoin_r2 V.pjoin_r3 V.pjoin_r4 V.pjoin_r5
  repeat' first | rfl | (split <;> rename_i h <;> first | simp only [if_pos h] | simp only [if_neg h] | skip)
noncomputable def pjoin_c {α:Type} (ds:List D) (Q:SV → Hp → Option α):Option α :=
  dI ds fun a0 ds => dI ds fun a1 ds => dI ds fun a2 ds => dI ds fun a3 ds => dI ds fun a4 ds => dI ds fun a5 ds => dI ds fun b0 ds => dI ds fun b1 ds => dI ds fun b2 ds => dI ds fun b3 ds => dI ds fun b4 ds => dI ds fun b5 ds => dE ds (Q (SV.agg [SV.int .i64 (V.pjoin_r0 a0 a1 a2 a3 a4 a5 b0 b1 b2 b3 b4 b5),SV.int .i64 (V.pjoin_r1 a0 a1 a2 a3 a4 a5 b0 b1 b2 b3 b4 b5),SV.int .i64 (V.pjoin_r2 a0 a1 a2 a3 a4 a5 b0 b1 b2 b3 b4 b5),SV.int .i64 (V.pjoin_r3 a0 a1 a2 a3 a4 a5 b0 b1 b2 b3 b4 b5),SV.int .i64 (V.pjoin_r4 a0 a1 a2 a3 a4 a5 b0 b1 b2 b3 b4 b5),SV.int .i64 (V.pjoin_r5 a0 a1 a2 a3 a4 a5 b0 b1 b2 b3 b4 b5)]) ([]))
theorem pjoin_c_ok {α:Type}:FnOk E.P 14 (fEnt (α := α) pjoin_sp pjoin_c) :=
  fEnt_ok E (look_pgrown_ok) (exec_sound E E_ok (look_pgrown_ok) (noLps_ok _) 400) fun ds Q r h => by
    unfold pjoin_c at h
    obtain ⟨a0,ds,rfl,h1⟩ := dI_inv h
    obtain ⟨a1,ds,rfl,h2⟩ := dI_inv h1
    obtain ⟨a2,ds,rfl,h3⟩ := dI_inv h2
    obtain ⟨a3,ds,rfl,h4⟩ := dI_inv h3
    obtain ⟨a4,ds,rfl,h5⟩ := dI_inv h4
    obtain ⟨a5,ds,rfl,h6⟩ := dI_inv h5
    obtain ⟨b0,ds,rfl,h7⟩ := dI_inv h6
    obtain ⟨b1,ds,rfl,h8⟩ := dI_inv h7
    obtain ⟨b2,ds,rfl,h9⟩ := dI_inv h8
    obtain ⟨b3,ds,rfl,h10⟩ := dI_inv h9
    obtain ⟨b4,ds,rfl,h11⟩ := dI_inv h10
    obtain ⟨b5,ds,rfl,h12⟩ := dI_inv h11
    obtain ⟨rfl,hE⟩ := dE_inv h12
    exact ⟨[SV.agg [SV.int .i64 a0,SV.int .i64 a1,SV.int .i64 a2,SV.int .i64 a3,SV.int .i64 a4,SV.int .i64 a5],SV.agg [SV.int .i64 b0,SV.int .i64 b1,SV.int .i64 b2,SV.int .i64 b3,SV.int .i64 b4,SV.int .i64 b5]],[],fun vs => by kernel_rfl,(pjoin_eq a0 a1 a2 a3 a4 a5 b0 b1 b2 b3 b4 b5 Q).trans ((pjoin_val a0 a1 a2 a3 a4 a5 b0 b1 b2 b3 b4 b5 (fun (x8 x9 x10 x11 x12 x13:Int) => Q (SV.agg [SV.int .i64 x8,SV.int .i64 x9,SV.int .i64 x10,SV.int .i64 x11,SV.int .i64 x12,SV.int .i64 x13]) ([]))).trans hE)⟩
noncomputable def pjoin_go {α:Type} (ds:List D) (Q:SV → Hp → Option α):Option α :=
  dI ds fun a0 ds => dI ds fun a1 ds => dI ds fun a2 ds => dI ds fun a3 ds => dI ds fun a4 ds => dI ds fun a5 ds => dI ds fun b0 ds => dI ds fun b1 ds => dI ds fun b2 ds => dI ds fun b3 ds => dI ds fun b4 ds => dI ds fun b5 ds => dE ds (M.pjoin a0 a1 a2 a3 a4 a5 b0 b1 b2 b3 b4 b5 (fun (x8 x9 x10 x11 x12 x13:Int) => Q (SV.agg [SV.int .i64 x8,SV.int .i64 x9,SV.int .i64 x10,SV.int .i64 x11,SV.int .i64 x12,SV.int .i64 x13]) ([])))
theorem pjoin_ok {α:Type}:FnOk E.P 14 (fEnt (α := α) pjoin_sp pjoin_go) :=
  fEnt_ok E (look_pgrown_ok) (exec_sound E E_ok (look_pgrown_ok) (noLps_ok _) 400) fun ds Q r h => by
    unfold pjoin_go at h
    obtain ⟨a0,ds,rfl,h1⟩ := dI_inv h
    obtain ⟨a1,ds,rfl,h2⟩ := dI_inv h1
    obtain ⟨a2,ds,rfl,h3⟩ := dI_inv h2
    obtain ⟨a3,ds,rfl,h4⟩ := dI_inv h3
    obtain ⟨a4,ds,rfl,h5⟩ := dI_inv h4
    obtain ⟨a5,ds,rfl,h6⟩ := dI_inv h5
    obtain ⟨b0,ds,rfl,h7⟩ := dI_inv h6
    obtain ⟨b1,ds,rfl,h8⟩ := dI_inv h7
    obtain ⟨b2,ds,rfl,h9⟩ := dI_inv h8
    obtain ⟨b3,ds,rfl,h10⟩ := dI_inv h9
    obtain ⟨b4,ds,rfl,h11⟩ := dI_inv h10
    obtain ⟨b5,ds,rfl,h12⟩ := dI_inv h11
    obtain ⟨rfl,hE⟩ := dE_inv h12
    exact ⟨[SV.agg [SV.int .i64 a0,SV.int .i64 a1,SV.int .i64 a2,SV.int .i64 a3,SV.int .i64 a4,SV.int .i64 a5],SV.agg [SV.int .i64 b0,SV.int .i64 b1,SV.int .i64 b2,SV.int .i64 b3,SV.int .i64 b4,SV.int .i64 b5]],[],fun vs => by kernel_rfl,(pjoin_eq a0 a1 a2 a3 a4 a5 b0 b1 b2 b3 b4 b5 Q).trans hE⟩
noncomputable def look_pjoin {α:Type}:LookF α := addFn 14 (fEnt pjoin_sp pjoin_c) look_pgrown
theorem look_pjoin_ok {α:Type}:LookOk E.P (look_pjoin (α := α)) := addFn_ok pjoin_c_ok (look_pgrown_ok)
noncomputable abbrev pspan_S1 (y1:Value) (y2:L3) (y3 y4:Int) (y5:Value) (y6:L3) (y7:Value) (y8:L3) (y9:Value) (y10:L3) (y11 y12 y13 y14 y15 y16 y17 y18 y19 y20 y21 y22 y23:Int):St := St.mk (none :: some (SV.ptr (nat_lit 0) (nat_lit 0)) :: some (SV.ptr (nat_lit 1) (nat_lit 0)) :: some (SV.ptr (nat_lit 2) (nat_lit 0)) :: nn 18 (some (SV.ros y1 kP y2) :: some (SV.int .i64 y3) :: some (SV.int .i64 y4) :: nn 13 ([]))) [.cells [SV.ros y5 kP y6,SV.ros y7 kP y8,SV.ros y9 kP y10,SV.int .i64 y11] (nat_lit 29),.cells [SV.int .i64 y12,SV.int .i64 y13,SV.int .i64 y14,SV.int .i64 y15,SV.int .i64 y16,SV.int .i64 y17] (nat_lit 47),.cells [SV.int .i64 y18,SV.int .i64 y19,SV.int .i64 y20,SV.int .i64 y21,SV.int .i64 y22,SV.int .i64 y23] (nat_lit 47)]
noncomputable abbrev pspan_S2 (y1:Value) (y2:L3) (y3:Value) (y4:L3) (y5:Value) (y6:L3) (y7 y8 y9 y10 y11 y12 y13 y14 y15 y16 y17 y18 y19:Int):St := St.mk (none :: some (SV.ptr (nat_lit 0) (nat_lit 0)) :: some (SV.ptr (nat_lit 1) (nat_lit 0)) :: some (SV.ptr (nat_lit 2) (nat_lit 0)) :: nn 34 ([])) [.cells [SV.ros y1 kP y2,SV.ros y3 kP y4,SV.ros y5 kP y6,SV.int .i64 y7] (nat_lit 29),.cells [SV.int .i64 y8,SV.int .i64 y9,SV.int .i64 y10,SV.int .i64 y11,SV.int .i64 y12,SV.int .i64 y13] (nat_lit 47),.cells [SV.int .i64 y14,SV.int .i64 y15,SV.int .i64 y16,SV.int .i64 y17,SV.int .i64 y18,SV.int .i64 y19] (nat_lit 47)]
noncomputable abbrev pspan_S3:St := St.mk (none :: some (SV.ptr (nat_lit 0) (nat_lit 0)) :: some (SV.ptr (nat_lit 1) (nat_lit 0)) :: some (SV.ptr (nat_lit 2) (nat_lit 0)) :: nn 18 (some (SV.ros undef kP []) :: some (SV.int .i64 (0:Int)) :: some (SV.int .i64 (0:Int)) :: nn 13 ([]))) [.cells [SV.ros undef kP [],SV.ros undef kP [],SV.ros undef kP [],SV.int .i64 (0:Int)] (nat_lit 29),.cells [SV.int .i64 (0:Int),SV.int .i64 (0:Int),SV.int .i64 (0:Int),SV.int .i64 (0:Int),SV.int .i64 (0:Int),SV.int .i64 (0:Int)] (nat_lit 47),.cells [SV.int .i64 (0:Int),SV.int .i64 (0:Int),SV.int .i64 (0:Int),SV.int .i64 (0:Int),SV.int .i64 (0:Int),SV.int .i64 (0:Int)] (nat_lit 47)]
abbrev pspan_P1:List Bool := [false,true,false,true,true,true]
noncomputable def _root_.Go.Proofs.Ytlagndfhibkjpaa.M.pspan_l0_step {α:Type} (x41:L3) (x42:Int) (kn:Int → Int → Int → Int → Int → Int → Int → Option α) (k1:Int → Int → Int → Int → Int → Int → Option α) (x43 x57 x58 x59 x60 x61 x62:Int):Option α := if cLt x43 x42 = true then if (0:Int) ≤ x43 ∧ x43 < (↑(List.length x41):Int) then kn (IntKind.wrap .i64 (x43 + (1:Int))) (V.pjoin_r0 x57 x58 x59 x60 x61 x62 (Prod.fst (List.getD x41 (Int.toNat x43) ((0:Int),(0:Int),(0:Int)))) (Prod.fst (Prod.snd (List.getD x41 (Int.toNat x43) ((0:Int),(0:Int),(0:Int))))) (Prod.snd (Prod.snd (List.getD x41 (Int.toNat x43) ((0:Int),(0:Int),(0:Int))))) (Prod.fst (List.getD x41 (Int.toNat x43) ((0:Int),(0:Int),(0:Int)))) (Prod.fst (Prod.snd (List.getD x41 (Int.toNat x43) ((0:Int),(0:Int),(0:Int))))) (Prod.snd (Prod.snd (List.getD x41 (Int.toNat x43) ((0:Int),(0:Int),(0:Int)))))) (V.pjoin_r1 x57 x58 x59 x60 x61 x62 (Prod.fst (List.getD x41 (Int.toNat x43) ((0:Int),(0:Int),(0:Int)))) (Prod.fst (Prod.snd (List.getD x41 (Int.toNat x43) ((0:Int),(0:Int),(0:Int))))) (Prod.snd (Prod.snd (List.getD x41 (Int.toNat x43) ((0:Int),(0:Int),(0:Int))))) (Prod.fst (List.getD x41 (Int.toNat x43) ((0:Int),(0:Int),(0:Int)))) (Prod.fst (Prod.snd (List.getD x41 (Int.toNat x43) ((0:Int),(0:Int),(0:Int))))) (Prod.snd (Prod.snd (List.getD x41 (Int.toNat x43) ((0:Int),(0:Int),(0:Int)))))) (V.pjoin_r2 x57 x58 x59 x60 x61 x62 (Prod.fst (List.getD x41 (Int.toNat x43) ((0:Int),(0:Int),(0:Int)))) (Prod.fst (Prod.snd (List.getD x41 (Int.toNat x43) ((0:Int),(0:Int),(0:Int))))) (Prod.snd (Prod.snd (List.getD x41 (Int.toNat x43) ((0:Int),(0:Int),(0:Int))))) (Prod.fst (List.getD x41 (Int.toNat x43) ((0:Int),(0:Int),(0:Int)))) (Prod.fst (Prod.snd (List.getD x41 (Int.toNat x43) ((0:Int),(0:Int),(0:Int))))) (Prod.snd (Prod.snd (List.getD x41 (Int.toNat x43) ((0:Int),(0:Int),(0:Int)))))) (V.pjoin_r3 x57 x58 x59 x60 x61 x62 (Prod.fst (List.getD x41 (Int.toNat x43) ((0:Int),(0:Int),(0:Int)))) (Prod.fst (Prod.snd (List.getD x41 (Int.toNat x43) ((0:Int),(0:Int),(0:Int))))) (Prod.snd (Prod.snd (List.getD x41 (Int.toNat x43) ((0:Int),(0:Int),(0:Int))))) (Prod.fst (List.getD x41 (Int.toNat x43) ((0:Int),(0:Int),(0:Int)))) (Prod.fst (Prod.snd (List.getD x41 (Int.toNat x43) ((0:Int),(0:Int),(0:Int))))) (Prod.snd (Prod.snd (List.getD x41 (Int.toNat x43) ((0:Int),(0:Int),(0:Int)))))) (V.pjoin_r4 x57 x58 x59 x60 x61 x62 (Prod.fst (List.getD x41 (Int.toNat x43) ((0:Int),(0:Int),(0:Int)))) (Prod.fst (Prod.snd (List.getD x41 (Int.toNat x43) ((0:Int),(0:Int),(0:Int))))) (Prod.snd (Prod.snd (List.getD x41 (Int.toNat x43) ((0:Int),(0:Int),(0:Int))))) (Prod.fst (List.getD x41 (Int.toNat x43) ((0:Int),(0:Int),(0:Int)))) (Prod.fst (Prod.snd (List.getD x41 (Int.toNat x43) ((0:Int),(0:Int),(0:Int))))) (Prod.snd (Prod.snd (List.getD x41 (Int.toNat x43) ((0:Int),(0:Int),(0:Int)))))) (V.pjoin_r5 x57 x58 x59 x60 x61 x62 (Prod.fst (List.getD x41 (Int.toNat x43) ((0:Int),(0:Int),(0:Int)))) (Prod.fst (Prod.snd (List.getD x41 (Int.toNat x43) ((0:Int),(0:Int),(0:Int))))) (Prod.snd (Prod.snd (List.getD x41 (Int.toNat x43) ((0:Int),(0:Int),(0:Int))))) (Prod.fst (List.getD x41 (Int.toNat x43) ((0:Int),(0:Int),(0:Int)))) (Prod.fst (Prod.snd (List.getD x41 (Int.toNat x43) ((0:Int),(0:Int),(0:Int))))) (Prod.snd (Prod.snd (List.getD x41 (Int.toNat x43) ((0:Int),(0:Int),(0:Int)))))) else none else k1 x57 x58 x59 x60 x61 x62
noncomputable def _root_.Go.Proofs.Ytlagndfhibkjpaa.M.pspan_l0 {α:Type} (x41:L3) (x42:Int) (k1:Int → Int → Int → Int → Int → Int → Option α):Nat → Int → Int → Int → Int → Int → Int → Int → Option α
  | 0,_,_,_,_,_,_,_ => none
  | n + 1,x43,x57,x58,x59,x60,x61,x62 => M.pspan_l0_step x41 x42 (M.pspan_l0 x41 x42 k1 n) k1 x43 x57 x58 x59 x60 x61 x62
theorem pspan_l0_step_eq {α:Type} (x40:Value) (x41:L3) (x42 x43:Int) (x44:Value) (x45:L3) (x46:Value) (x47:L3) (x48:Value) (x49:L3) (x50 x51 x52 x53 x54 x55 x56 x57 x58 x59 x60 x61 x62:Int) (Q:Ex → St → Option α):(loopStep E (exec E look_pjoin noLps 400) 21 pspan_P1 0 (codeAt E.P 21 pspan_P1)) (pspan_S1 x40 x41 x42 x43 x44 x45 x46 x47 x48 x49 x50 x51 x52 x53 x54 x55 x56 x57 x58 x59 x60 x61 x62) Q = M.pspan_l0_step x41 x42 (fun (x69 x70 x71 x72 x73 x74 x75:Int) => Q .normal (pspan_S1 x40 x41 x42 x69 x44 x45 x46 x47 x48 x49 x50 x51 x52 x53 x54 x55 x56 x70 x71 x72 x73 x74 x75)) (fun (x63 x64 x65 x66 x67 x68:Int) => Q (.exit 0) (pspan_S2 x44 x45 x46 x47 x48 x49 x50 x51 x52 x53 x54 x55 x56 x63 x64 x65 x66 x67 x68)) x43 x57 x58 x59 x60 x61 x62 := by kernel_rfl
theorem pspan_l0_iter {α:Type} (x40:Value) (x41:L3) (x42:Int) (x44:Value) (x45:L3) (x46:Value) (x47:L3) (x48:Value) (x49:L3) (x50 x51 x52 x53 x54 x55 x56:Int) (Q:Ex → St → Option α):∀ (n:Nat) (x43 x57 x58 x59 x60 x61 x62:Int),iter (loopStep E (exec E look_pjoin noLps 400) 21 pspan_P1 0 (codeAt E.P 21 pspan_P1)) n (pspan_S1 x40 x41 x42 x43 x44 x45 x46 x47 x48 x49 x50 x51 x52 x53 x54 x55 x56 x57 x58 x59 x60 x61 x62) Q = M.pspan_l0 x41 x42 (fun (x63 x64 x65 x66 x67 x68:Int) => Q (.exit 0) (pspan_S2 x44 x45 x46 x47 x48 x49 x50 x51 x52 x53 x54 x55 x56 x63 x64 x65 x66 x67 x68)) n x43 x57 x58 x59 x60 x61 x62
  | 0,_,_,_,_,_,_,_ => rfl
  | n + 1,x43,x57,x58,x59,x60,x61,x62 => (pspan_l0_step_eq x40 x41 x42 x43 x44 x45 x46 x47 x48 x49 x50 x51 x52 x53 x54 x55 x56 x57 x58 x59 x60 x61 x62 (iterK (loopStep E (exec E look_pjoin noLps 400) 21 pspan_P1 0 (codeAt E.P 21 pspan_P1)) n Q)).trans (congrArg (fun kn => M.pspan_l0_step x41 x42 kn (fun (x63 x64 x65 x66 x67 x68:Int) => Q (.exit 0) (pspan_S2 x44 x45 x46 x47 x48 x49 x50 x51 x52 x53 x54 x55 x56 x63 x64 x65 x66 x67 x68)) x43 x57 x58 x59 x60 x61 x62) (funext fun x43 => funext fun x57 => funext fun x58 => funext fun x59 => funext fun x60 => funext fun x61 => funext fun x62 => pspan_l0_iter x40 x41 x42 x44 x45 x46 x47 x48 x49 x50 x51 x52 x53 x54 x55 x56 Q n x43 x57 x58 x59 x60 x61 x62))
noncomputable def pspan_l0_go {α:Type} (ds:List D) (Q:Ex → St → Option α):Option α :=
  dV ds fun x40 ds => dL kP ds fun x41 ds => dI ds fun x42 ds => dI ds fun x43 ds => dV ds fun x44 ds => dL kP ds fun x45 ds => dV ds fun x46 ds => dL kP ds fun x47 ds => dV ds fun x48 ds => dL kP ds fun x49 ds => dI ds fun x50 ds => dI ds fun x51 ds => dI ds fun x52 ds => dI ds fun x53 ds => dI ds fun x54 ds => dI ds fun x55 ds => dI ds fun x56 ds => dI ds fun x57 ds => dI ds fun x58 ds => dI ds fun x59 ds => dI ds fun x60 ds => dI ds fun x61 ds => dI ds fun x62 ds => dE ds (M.pspan_l0 x41 x42 (fun (x63 x64 x65 x66 x67 x68:Int) => Q (.exit 0) (pspan_S2 x44 x45 x46 x47 x48 x49 x50 x51 x52 x53 x54 x55 x56 x63 x64 x65 x66 x67 x68)) (100 + x41.length + x45.length + x47.length + x49.length) x43 x57 x58 x59 x60 x61 x62)
theorem pspan_l0_ok {α:Type}:LoopOk E.P 21 pspan_P1 0 (lEnt (α := α) (pspan_S3) pspan_l0_go) :=
  lEnt_ok E (exec_sound E E_ok (look_pjoin_ok) (noLps_ok _) 400) fun ds Q r h S hS => by
    unfold pspan_l0_go at h
    obtain ⟨x40,ds,rfl,h1⟩ := dV_inv h
    obtain ⟨x41,ds,rfl,h2⟩ := dL_inv h1
    obtain ⟨x42,ds,rfl,h3⟩ := dI_inv h2
    obtain ⟨x43,ds,rfl,h4⟩ := dI_inv h3
    obtain ⟨x44,ds,rfl,h5⟩ := dV_inv h4
    obtain ⟨x45,ds,rfl,h6⟩ := dL_inv h5
    obtain ⟨x46,ds,rfl,h7⟩ := dV_inv h6
    obtain ⟨x47,ds,rfl,h8⟩ := dL_inv h7
    obtain ⟨x48,ds,rfl,h9⟩ := dV_inv h8
    obtain ⟨x49,ds,rfl,h10⟩ := dL_inv h9
    obtain ⟨x50,ds,rfl,h11⟩ := dI_inv h10
    obtain ⟨x51,ds,rfl,h12⟩ := dI_inv h11
    obtain ⟨x52,ds,rfl,h13⟩ := dI_inv h12
    obtain ⟨x53,ds,rfl,h14⟩ := dI_inv h13
    obtain ⟨x54,ds,rfl,h15⟩ := dI_inv h14
    obtain ⟨x55,ds,rfl,h16⟩ := dI_inv h15
    obtain ⟨x56,ds,rfl,h17⟩ := dI_inv h16
    obtain ⟨x57,ds,rfl,h18⟩ := dI_inv h17
    obtain ⟨x58,ds,rfl,h19⟩ := dI_inv h18
    obtain ⟨x59,ds,rfl,h20⟩ := dI_inv h19
    obtain ⟨x60,ds,rfl,h21⟩ := dI_inv h20
    obtain ⟨x61,ds,rfl,h22⟩ := dI_inv h21
    obtain ⟨x62,ds,rfl,h23⟩ := dI_inv h22
    obtain ⟨rfl,hE⟩ := dE_inv h23
    have e:fillS (pspan_S3) [.v x40,.l kP x41,.i x42,.i x43,.v x44,.l kP x45,.v x46,.l kP x47,.v x48,.l kP x49,.i x50,.i x51,.i x52,.i x53,.i x54,.i x55,.i x56,.i x57,.i x58,.i x59,.i x60,.i x61,.i x62] = some (pspan_S1 x40 x41 x42 x43 x44 x45 x46 x47 x48 x49 x50 x51 x52 x53 x54 x55 x56 x57 x58 x59 x60 x61 x62) := by kernel_rfl
    rw [e] at hS
    cases hS
    exact ⟨_,(pspan_l0_iter x40 x41 x42 x44 x45 x46 x47 x48 x49 x50 x51 x52 x53 x54 x55 x56 Q _ x43 x57 x58 x59 x60 x61 x62).trans hE⟩
noncomputable def pspan_l0_lps {α:Type}:LookL α := addLp 21 pspan_P1 0 (lEnt (pspan_S3) pspan_l0_go) noLps
theorem pspan_l0_lps_ok {α:Type}:LoopsOk E.P (pspan_l0_lps (α := α)) := addLp_ok pspan_l0_ok (noLps_ok _)

noncomputable def _root_.Go.Proofs.Ytlagndfhibkjpaa.M.pspan {α:Type} (l:L3) (ax:L3) (ed:L3) (r:Int) (k0:Int → Int → Int → Int → Int → Int → Option α):Option α := if cEq (↑(List.length l):Int) (0:Int) = true then k0 (0:Int) (0:Int) (0:Int) (0:Int) (0:Int) (0:Int) else if (0:Int) ≤ (0:Int) ∧ (0:Int) < (↑(List.length l):Int) then if (0:Int) ≤ (0:Int) ∧ (0:Int) < (↑(List.length l):Int) then if (0:Int) ≤ (1:Int) ∧ (1:Int) ≤ (↑(List.length l):Int) ∧ (↑(List.length l):Int) ≤ (↑(List.length l):Int) then M.pspan_l0 (List.take (Int.toNat ((↑(List.length l):Int) - (1:Int))) (List.drop (1:Nat) l)) (↑(List.length (List.take (Int.toNat ((↑(List.length l):Int) - (1:Int))) (List.drop (1:Nat) l))):Int) (fun (x79 x80 x81 x82 x83 x84:Int) ↦ k0 (V.pgrown_r0 x79 x80 x81 x82 x83 x84 r) (V.pgrown_r1 x79 x80 x81 x82 x83 x84 r) (V.pgrown_r2 x79 x80 x81 x82 x83 x84 r) (V.pgrown_r3 x79 x80 x81 x82 x83 x84 r) (V.pgrown_r4 x79 x80 x81 x82 x83 x84 r) (V.pgrown_r5 x79 x80 x81 x82 x83 x84 r)) ((100:Nat) + List.length (List.take (Int.toNat ((↑(List.length l):Int) - (1:Int))) (List.drop (1:Nat) l)) + List.length l + List.length ax + List.length ed) (0:Int) (Prod.fst (List.getD l (0:Nat) ((0:Int),(0:Int),(0:Int)))) (Prod.fst (Prod.snd (List.getD l (0:Nat) ((0:Int),(0:Int),(0:Int))))) (Prod.snd (Prod.snd (List.getD l (0:Nat) ((0:Int),(0:Int),(0:Int))))) (Prod.fst (List.getD l (0:Nat) ((0:Int),(0:Int),(0:Int)))) (Prod.fst (Prod.snd (List.getD l (0:Nat) ((0:Int),(0:Int),(0:Int))))) (Prod.snd (Prod.snd (List.getD l (0:Nat) ((0:Int),(0:Int),(0:Int))))) else none else none else none
theorem pspan_eq {α:Type} (l:L3) (ax:L3) (ed:L3) (r:Int) (v76:Value) (v77:Value) (v78:Value) (Q:SV → Hp → Option α):callI E look_pjoin (exec E look_pjoin pspan_l0_lps 400) 21 ([SV.agg [SV.ros v76 kP l,SV.ros v77 kP ax,SV.ros v78 kP ed,SV.int .i64 r]]) ([]) Q = M.pspan l ax ed r (fun (x85 x86 x87 x88 x89 x90:Int) => Q (SV.agg [SV.int .i64 x85,SV.int .i64 x86,SV.int .i64 x87,SV.int .i64 x88,SV.int .i64 x89,SV.int .i64 x90]) ([])) := by kernel_rfl
def pspan_sp:List AS := [.st [.ro kP,.ro kP,.ro kP,.leaf (.int .i64 0)]]
abbrev P6 := Int × Int × Int × Int × Int × Int
noncomputable def spnP (l:List P3) (r:Int):P6 :=
  if l.length = 0 then (0,0,0,0,0,0) else
    (IntKind.wrap .i64 (loF (fun p => p.1) l (pt l 0).1 - r),IntKind.wrap .i64 (loF (fun p => p.2.1) l (pt l 0).2.1 - r),IntKind.wrap .i64 (loF (fun p => p.2.2) l (pt l 0).2.2 - r),
      IntKind.wrap .i64 (hiF (fun p => p.1) l (pt l 0).1 + r),IntKind.wrap .i64 (hiF (fun p => p.2.1) l (pt l 0).2.1 + r),IntKind.wrap .i64 (hiF (fun p => p.2.2) l (pt l 0).2.2 + r))
noncomputable def _root_.Go.Proofs.Ytlagndfhibkjpaa.V.spn (l:List P3) (r:Int):P6 := hid (spnP l r)
theorem loF_tail (f:P3 → Int) (l:List P3) (h:0 < l.length):loF f (l.drop 1) (f (pt l 0)) = loF f l (f (pt l 0)) := by
  cases l with
  | nil => simp at h
  | cons p l => simp [loF,pt]
theorem hiF_tail (f:P3 → Int) (l:List P3) (h:0 < l.length):hiF f (l.drop 1) (f (pt l 0)) = hiF f l (f (pt l 0)) := by
  cases l with
  | nil => simp at h
  | cons p l => simp [hiF,pt]
theorem pspan_l0_val {α:Type} (T:List P3) (hT:T.length < 1099511627776) (k1:Int → Int → Int → Int → Int → Int → Option α):∀ (fuel i:Nat) (a b c d e g:Int),i ≤ T.length → T.length - i < fuel →
    M.pspan_l0 T (T.length:Int) k1 fuel (i:Int) a b c d e g = k1 (loF (fun p => p.1) (T.drop i) a) (loF (fun p => p.2.1) (T.drop i) b) (loF (fun p => p.2.2) (T.drop i) c) (hiF (fun p => p.1) (T.drop i) d) (hiF (fun p => p.2.1) (T.drop i) e) (hiF (fun p => p.2.2) (T.drop i) g)
  | 0,i,a,b,c,d,e,g,h1,h2 => by omega
  | f + 1,i,a,b,c,d,e,g,h1,h2 => by
    unfold M.pspan_l0 M.pspan_l0_step
    rw [cLt_nat]
    by_cases hi:i < T.length
    · rw [if_pos (by simpa using hi),if_pos (by omega),w_next (by omega),pspan_l0_val T hT k1 f (i + 1) _ _ _ _ _ _ (by omega) (by omega),drop_pt T i hi]
      rfl
    · have : i = T.length := by omega
      subst this
      rw [if_neg (by simp)]
      simp [loF,hiF]
theorem pspan_v {α:Type} (l ax ed:List P3) (r:Int) (hg:V.lenB l.length = true) (k0:Int → Int → Int → Int → Int → Int → Option α) :
    M.pspan l ax ed r k0 = k0 (V.spn l r).1 (V.spn l r).2.1 (V.spn l r).2.2.1 (V.spn l r).2.2.2.1 (V.spn l r).2.2.2.2.1 (V.spn l r).2.2.2.2.2 := by
  have hl := lenB_lt hg
  unfold M.pspan V.spn
  rw [hid_eq,cEq_eq]
  unfold spnP
  by_cases h0:l.length = 0
  · rw [if_pos (by simpa using h0),if_pos h0]
  · rw [if_neg (by simpa using h0), if_neg h0, if_pos (by omega), if_pos (by omega), if_pos (by omega)]
    have hd:List.take (Int.toNat ((l.length:Int) - 1)) (List.drop 1 l) = l.drop 1 := List.take_of_length_le (by rw [List.length_drop]; omega)
    rw [hd]
    refine Eq.trans (pspan_l0_val (l.drop 1) (by rw [List.length_drop]; omega) _ _ 0 _ _ _ _ _ _ (by omega) (by omega)) ?_
    rw [List.drop_zero]
    have e1 := loF_tail (fun p => p.1) l (by omega)
    have e2 := loF_tail (fun p => p.2.1) l (by omega)
    have e3 := loF_tail (fun p => p.2.2) l (by omega)
    have e4 := hiF_tail (fun p => p.1) l (by omega)
    have e5 := hiF_tail (fun p => p.2.1) l (by omega)
    have e6 := hiF_tail (fun p => p.2.2) l (by omega)
    simp only [pt] at e1 e2 e3 e4 e5 e6 ⊢
    simp only [e1,e2,e3,e4,e5,e6]
    rfl
noncomputable def pspan_h {α:Type} (ds:List D) (Q:SV → Hp → Option α):Option α :=
  dL kP ds fun l ds => dL kP ds fun ax ds => dL kP ds fun ed ds => dI ds fun r ds => dE ds (if V.lenB l.length = true then Q (.agg [.int .i64 (V.spn l r).1,.int .i64 (V.spn l r).2.1,.int .i64 (V.spn l r).2.2.1,.int .i64 (V.spn l r).2.2.2.1,.int .i64 (V.spn l r).2.2.2.2.1,.int .i64 (V.spn l r).2.2.2.2.2]) ([]) else none)
theorem pspan_h_ok {α:Type}:FnOk E.P 21 (fEnt (α := α) pspan_sp pspan_h) :=
  fEntR_ok E (look_pjoin_ok) (exec_sound E E_ok (look_pjoin_ok) (pspan_l0_lps_ok) 400) fun ds Q r h => by
    unfold pspan_h at h
    obtain ⟨l,ds,rfl,h1⟩ := dL_inv h
    obtain ⟨ax,ds,rfl,h2⟩ := dL_inv h1
    obtain ⟨ed,ds,rfl,h3⟩ := dL_inv h2
    obtain ⟨r,ds,rfl,h4⟩ := dI_inv h3
    obtain ⟨rfl,hE⟩ := dE_inv h4
    split at hE
    · rename_i hg
      exact ⟨_,_,hE,fun vs => ⟨_,_,by kernel_rfl,(pspan_eq l ax ed r ((cellsV (vs.headD undef)).headD undef) ((cellsV (vs.headD undef)).tail.headD undef) ((cellsV (vs.headD undef)).tail.tail.headD undef) _).trans (pspan_v l ax ed r hg _)⟩⟩
    · cases hE
noncomputable def look_pspan {α:Type}:LookF α := addFn 21 (fEnt pspan_sp pspan_h) look_pjoin
theorem look_pspan_ok {α:Type}:LookOk E.P (look_pspan (α := α)) := addFn_ok pspan_h_ok (look_pjoin_ok)
noncomputable abbrev pmoved_S1 (y1:Value) (y2:L3) (y3 y4 y5 y6 y7 y8:Int) (y9 y10 y11:L3) (y12:Int) (y13 y14 y15:L3):St := St.mk (nn 3 (some (SV.ptr (nat_lit 0) (nat_lit 0)) :: some (SV.ptr (nat_lit 1) (nat_lit 0)) :: some (SV.ptr (nat_lit 5) (nat_lit 0)) :: nn 12 (some (SV.ros y1 kP y2) :: some (SV.int .i64 y3) :: some (SV.int .i64 y4) :: nn 26 ([])))) [.cells [SV.int .i64 y5,SV.int .i64 y6,SV.int .i64 y7] (nat_lit 23),.cells [SV.sl (nat_lit 2),SV.sl (nat_lit 3),SV.sl (nat_lit 4),SV.int .i64 y8] (nat_lit 29),.seq kP y9 (nat_lit 23),.seq kP y10 (nat_lit 23),.seq kP y11 (nat_lit 23),.cells [SV.sl (nat_lit 6),SV.sl (nat_lit 7),SV.sl (nat_lit 8),SV.int .i64 y12] (nat_lit 29),.seq kP y13 (nat_lit 23),.seq kP y14 (nat_lit 23),.seq kP y15 (nat_lit 23)]
noncomputable abbrev pmoved_S2 (y1:Int) (y2 y3 y4:L3) (y5:Int) (y6 y7 y8:L3):St := St.mk (nn 4 (some (SV.ptr (nat_lit 0) (nat_lit 0)) :: some (SV.ptr (nat_lit 4) (nat_lit 0)) :: nn 41 ([]))) [.cells [SV.sl (nat_lit 1),SV.sl (nat_lit 2),SV.sl (nat_lit 3),SV.int .i64 y1] (nat_lit 29),.seq kP y2 (nat_lit 23),.seq kP y3 (nat_lit 23),.seq kP y4 (nat_lit 23),.cells [SV.sl (nat_lit 5),SV.sl (nat_lit 6),SV.sl (nat_lit 7),SV.int .i64 y5] (nat_lit 29),.seq kP y6 (nat_lit 23),.seq kP y7 (nat_lit 23),.seq kP y8 (nat_lit 23)]
noncomputable abbrev pmoved_S3:St := St.mk (nn 3 (some (SV.ptr (nat_lit 0) (nat_lit 0)) :: some (SV.ptr (nat_lit 1) (nat_lit 0)) :: some (SV.ptr (nat_lit 5) (nat_lit 0)) :: nn 12 (some (SV.ros undef kP []) :: some (SV.int .i64 (0:Int)) :: some (SV.int .i64 (0:Int)) :: nn 26 ([])))) [.cells [SV.int .i64 (0:Int),SV.int .i64 (0:Int),SV.int .i64 (0:Int)] (nat_lit 23),.cells [SV.sl (nat_lit 2),SV.sl (nat_lit 3),SV.sl (nat_lit 4),SV.int .i64 (0:Int)] (nat_lit 29),.seq kP [] (nat_lit 23),.seq kP [] (nat_lit 23),.seq kP [] (nat_lit 23),.cells [SV.sl (nat_lit 6),SV.sl (nat_lit 7),SV.sl (nat_lit 8),SV.int .i64 (0:Int)] (nat_lit 29),.seq kP [] (nat_lit 23),.seq kP [] (nat_lit 23),.seq kP [] (nat_lit 23)]
noncomputable def _root_.Go.Proofs.Ytlagndfhibkjpaa.M.pmoved_l0_step {α:Type} (x110:L3) (x111 x113 x114 x115:Int) (kn:Int → L3 → Option α) (k1:L3 → Option α) (x112:Int) (x121:L3):Option α := if cLt x112 x111 = true then if (0:Int) ≤ x112 ∧ x112 < (↑(List.length x110):Int) then if (List.length x121 + ((0:Nat) + (1:Nat))) * (24:Nat) ≤ (140737488355328:Nat) then kn (IntKind.wrap .i64 (x112 + (1:Int))) (x121 ++ [(IntKind.wrap .i64 (Prod.fst (List.getD x110 (Int.toNat x112) ((0:Int),(0:Int),(0:Int))) + x113),IntKind.wrap .i64 (Prod.fst (Prod.snd (List.getD x110 (Int.toNat x112) ((0:Int),(0:Int),(0:Int)))) + x114),IntKind.wrap .i64 (Prod.snd (Prod.snd (List.getD x110 (Int.toNat x112) ((0:Int),(0:Int),(0:Int)))) + x115))]) else none else none else k1 x121
noncomputable def _root_.Go.Proofs.Ytlagndfhibkjpaa.M.pmoved_l0 {α:Type} (x110:L3) (x111 x113 x114 x115:Int) (k1:L3 → Option α):Nat → Int → L3 → Option α
  | 0,_,_ => none
  | n + 1,x112,x121 => M.pmoved_l0_step x110 x111 x113 x114 x115 (M.pmoved_l0 x110 x111 x113 x114 x115 k1 n) k1 x112 x121
theorem pmoved_l0_step_eq {α:Type} (x109:Value) (x110:L3) (x111 x112 x113 x114 x115 x116:Int) (x117 x118 x119:L3) (x120:Int) (x121 x122 x123:L3) (Q:Ex → St → Option α):(loopStep E (exec E look_pspan noLps 400) 23 [false,true,false,true,true] 0 (codeAt E.P 23 [false,true,false,true,true])) (pmoved_S1 x109 x110 x111 x112 x113 x114 x115 x116 x117 x118 x119 x120 x121 x122 x123) Q = M.pmoved_l0_step x110 x111 x113 x114 x115 (fun (x125:Int) (x126:L3) => Q .normal (pmoved_S1 x109 x110 x111 x125 x113 x114 x115 x116 x117 x118 x119 x120 x126 x122 x123)) (fun (x124:L3) => Q (.exit 0) (pmoved_S2 x116 x117 x118 x119 x120 x124 x122 x123)) x112 x121 := by kernel_rfl
theorem pmoved_l0_iter {α:Type} (x109:Value) (x110:L3) (x111 x113 x114 x115 x116:Int) (x117 x118 x119:L3) (x120:Int) (x122 x123:L3) (Q:Ex → St → Option α):∀ (n:Nat) (x112:Int) (x121:L3),iter (loopStep E (exec E look_pspan noLps 400) 23 [false,true,false,true,true] 0 (codeAt E.P 23 [false,true,false,true,true])) n (pmoved_S1 x109 x110 x111 x112 x113 x114 x115 x116 x117 x118 x119 x120 x121 x122 x123) Q = M.pmoved_l0 x110 x111 x113 x114 x115 (fun (x124:L3) => Q (.exit 0) (pmoved_S2 x116 x117 x118 x119 x120 x124 x122 x123)) n x112 x121
  | 0,_,_ => rfl
  | n + 1,x112,x121 => (pmoved_l0_step_eq x109 x110 x111 x112 x113 x114 x115 x116 x117 x118 x119 x120 x121 x122 x123 (iterK (loopStep E (exec E look_pspan noLps 400) 23 [false,true,false,true,true] 0 (codeAt E.P 23 [false,true,false,true,true])) n Q)).trans (congrArg (fun kn => M.pmoved_l0_step x110 x111 x113 x114 x115 kn (fun (x124:L3) => Q (.exit 0) (pmoved_S2 x116 x117 x118 x119 x120 x124 x122 x123)) x112 x121) (funext fun x112 => funext fun x121 => pmoved_l0_iter x109 x110 x111 x113 x114 x115 x116 x117 x118 x119 x120 x122 x123 Q n x112 x121))
noncomputable def pmoved_l0_go {α:Type} (ds:List D) (Q:Ex → St → Option α):Option α :=
  dV ds fun x109 ds => dL kP ds fun x110 ds => dI ds fun x111 ds => dI ds fun x112 ds => dI ds fun x113 ds => dI ds fun x114 ds => dI ds fun x115 ds => dI ds fun x116 ds => dL kP ds fun x117 ds => dL kP ds fun x118 ds => dL kP ds fun x119 ds => dI ds fun x120 ds => dL kP ds fun x121 ds => dL kP ds fun x122 ds => dL kP ds fun x123 ds => dE ds (M.pmoved_l0 x110 x111 x113 x114 x115 (fun (x124:L3) => Q (.exit 0) (pmoved_S2 x116 x117 x118 x119 x120 x124 x122 x123)) (100 + x110.length + x117.length + x118.length + x119.length + x121.length + x122.length + x123.length) x112 x121)
theorem pmoved_l0_ok {α:Type}:LoopOk E.P 23 [false,true,false,true,true] 0 (lEnt (α := α) (pmoved_S3) pmoved_l0_go) :=
  lEnt_ok E (exec_sound E E_ok (look_pspan_ok) (noLps_ok _) 400) fun ds Q r h S hS => by
    unfold pmoved_l0_go at h
    obtain ⟨x109,ds,rfl,h1⟩ := dV_inv h
    obtain ⟨x110,ds,rfl,h2⟩ := dL_inv h1
    obtain ⟨x111,ds,rfl,h3⟩ := dI_inv h2
    obtain ⟨x112,ds,rfl,h4⟩ := dI_inv h3
    obtain ⟨x113,ds,rfl,h5⟩ := dI_inv h4
    obtain ⟨x114,ds,rfl,h6⟩ := dI_inv h5
    obtain ⟨x115,ds,rfl,h7⟩ := dI_inv h6
    obtain ⟨x116,ds,rfl,h8⟩ := dI_inv h7
    obtain ⟨x117,ds,rfl,h9⟩ := dL_inv h8
    obtain ⟨x118,ds,rfl,h10⟩ := dL_inv h9
    obtain ⟨x119,ds,rfl,h11⟩ := dL_inv h10
    obtain ⟨x120,ds,rfl,h12⟩ := dI_inv h11
    obtain ⟨x121,ds,rfl,h13⟩ := dL_inv h12
    obtain ⟨x122,ds,rfl,h14⟩ := dL_inv h13
    obtain ⟨x123,ds,rfl,h15⟩ := dL_inv h14
    obtain ⟨rfl,hE⟩ := dE_inv h15
    have e:fillS (pmoved_S3) [.v x109,.l kP x110,.i x111,.i x112,.i x113,.i x114,.i x115,.i x116,.l kP x117,.l kP x118,.l kP x119,.i x120,.l kP x121,.l kP x122,.l kP x123] = some (pmoved_S1 x109 x110 x111 x112 x113 x114 x115 x116 x117 x118 x119 x120 x121 x122 x123) := by kernel_rfl
    rw [e] at hS
    cases hS
    exact ⟨_,(pmoved_l0_iter x109 x110 x111 x113 x114 x115 x116 x117 x118 x119 x120 x122 x123 Q _ x112 x121).trans hE⟩
noncomputable def pmoved_l0_lps {α:Type}:LookL α := addLp 23 [false,true,false,true,true] 0 (lEnt (pmoved_S3) pmoved_l0_go) noLps
theorem pmoved_l0_lps_ok {α:Type}:LoopsOk E.P (pmoved_l0_lps (α := α)) := addLp_ok pmoved_l0_ok (noLps_ok _)

noncomputable def _root_.Go.Proofs.Ytlagndfhibkjpaa.M.pmoved {α:Type} (l:L3) (ax:L3) (ed:L3) (r:Int) (x:Int) (y:Int) (z:Int) (k0:Int → L3 → L3 → L3 → Option α):Option α := if V.lenB (List.length ax) = true then if V.lenB (List.length ed) = true then M.pmoved_l0 l (↑(List.length l):Int) x y z (fun (x130:L3) ↦ k0 r x130 ax ed) ((100:Nat) + List.length l + (0:Nat) + (0:Nat) + (0:Nat) + (0:Nat) + List.length ax + List.length ed) (0:Int) [] else none else none
theorem pmoved_eq {α:Type} (l:L3) (ax:L3) (ed:L3) (r:Int) (x:Int) (y:Int) (z:Int) (v127:Value) (v128:Value) (v129:Value) (Q:SV → Hp → Option α):callI E look_pspan (exec E look_pspan pmoved_l0_lps 400) 23 ([SV.agg [SV.ros v127 kP l,SV.ros v128 kP ax,SV.ros v129 kP ed,SV.int .i64 r],SV.agg [SV.int .i64 x,SV.int .i64 y,SV.int .i64 z]]) ([]) Q = M.pmoved l ax ed r x y z (fun (x131:Int) (x132 x133 x134:L3) => Q (SV.agg [SV.sl (nat_lit 0),SV.sl (nat_lit 1),SV.sl (nat_lit 2),SV.int .i64 x131]) ([.seq kP x132 (nat_lit 23),.seq kP x133 (nat_lit 23),.seq kP x134 (nat_lit 23)])) := by kernel_rfl
def pmoved_sp:List AS := [.st [.ro kP,.ro kP,.ro kP,.leaf (.int .i64 0)],.val (.agg [.int .i64 0,.int .i64 0,.int .i64 0])]
def movP (b:P3) (p:P3):P3 := (IntKind.wrap .i64 (p.1 + b.1),IntKind.wrap .i64 (p.2.1 + b.2.1),IntKind.wrap .i64 (p.2.2 + b.2.2))
noncomputable def _root_.Go.Proofs.Ytlagndfhibkjpaa.V.mvd (l:List P3) (b:P3):List P3 := hid (l.map (movP b))
theorem pmoved_l0_val {α:Type} (l:List P3) (hl:l.length < 1099511627776) (x y z:Int) (k1:List P3 → Option α):∀ (fuel i:Nat) (acc:List P3),i ≤ l.length → l.length - i < fuel → acc.length ≤ i →
    M.pmoved_l0 l (l.length:Int) x y z k1 fuel (i:Int) acc = k1 (acc ++ (l.drop i).map (movP (x,y,z)))
  | 0,i,acc,h1,h2,h3 => by omega
  | f + 1,i,acc,h1,h2,h3 => by
    unfold M.pmoved_l0 M.pmoved_l0_step
    rw [cLt_nat]
    by_cases hi:i < l.length
    · rw [if_pos (by simpa using hi),if_pos (by omega),if_pos (by omega),w_next (by omega),pmoved_l0_val l hl x y z k1 f (i + 1) _ (by omega) (by omega) (by rw [List.length_append,List.length_singleton]; omega),drop_pt l i hi,List.map_cons,List.append_assoc]
      rfl
    · have : i = l.length := by omega
      subst this
      rw [if_neg (by simp)]
      simp
theorem pmoved_v {α:Type} (l ax ed:List P3) (r x y z:Int) (h1:V.lenB l.length = true) (h2:V.lenB ax.length = true) (h3:V.lenB ed.length = true) (k0:Int → List P3 → List P3 → List P3 → Option α) :
    M.pmoved l ax ed r x y z k0 = k0 r (V.mvd l (x,y,z)) ax ed := by
  unfold M.pmoved V.mvd
  rw [if_pos h2,if_pos h3,hid_eq]
  refine Eq.trans (pmoved_l0_val l (lenB_lt h1) x y z _ _ 0 [] (by omega) (by omega) (by simp)) ?_
  simp
noncomputable def pmoved_h {α:Type} (ds:List D) (Q:SV → Hp → Option α):Option α :=
  dL kP ds fun l ds => dL kP ds fun ax ds => dL kP ds fun ed ds => dI ds fun r ds => dI ds fun x ds => dI ds fun y ds => dI ds fun z ds => dE ds (if V.lenB l.length = true ∧ V.lenB ax.length = true ∧ V.lenB ed.length = true then Q (.agg [.sl 0,.sl 1,.sl 2,.int .i64 r]) ([.seq (.st (.i .i64) [.i .i64,.i .i64]) (V.mvd l (x,y,z)) 23,.seq (.st (.i .i64) [.i .i64,.i .i64]) ax 23,.seq (.st (.i .i64) [.i .i64,.i .i64]) ed 23]) else none)
theorem pmoved_h_ok {α:Type}:FnOk E.P 23 (fEnt (α := α) pmoved_sp pmoved_h) :=
  fEntR_ok E (look_pspan_ok) (exec_sound E E_ok (look_pspan_ok) (pmoved_l0_lps_ok) 400) fun ds Q r h => by
    unfold pmoved_h at h
    obtain ⟨l,ds,rfl,h1⟩ := dL_inv h
    obtain ⟨ax,ds,rfl,h2⟩ := dL_inv h1
    obtain ⟨ed,ds,rfl,h3⟩ := dL_inv h2
    obtain ⟨r,ds,rfl,h4⟩ := dI_inv h3
    obtain ⟨x,ds,rfl,h5⟩ := dI_inv h4
    obtain ⟨y,ds,rfl,h6⟩ := dI_inv h5
    obtain ⟨z,ds,rfl,h7⟩ := dI_inv h6
    obtain ⟨rfl,hE⟩ := dE_inv h7
    split at hE
    · rename_i hg
      exact ⟨_,_,hE,fun vs => ⟨_,_,by kernel_rfl,(pmoved_eq l ax ed r x y z ((cellsV (vs.headD undef)).headD undef) ((cellsV (vs.headD undef)).tail.headD undef) ((cellsV (vs.headD undef)).tail.tail.headD undef) _).trans (pmoved_v l ax ed r x y z hg.1 hg.2.1 hg.2.2 _)⟩⟩
    · cases hE
noncomputable def look_pmoved {α:Type}:LookF α := addFn 23 (fEnt pmoved_sp pmoved_h) look_pspan
theorem look_pmoved_ok {α:Type}:LookOk E.P (look_pmoved (α := α)) := addFn_ok pmoved_h_ok (look_pspan_ok)
end Go.Proofs.Ytlagndfhibkjpaa.Sx
end

section
/- pose: directions that are turned. -/
namespace Go.Proofs.Ytlagndfhibkjpaa.Sx
open Go
set_option maxRecDepth 20000
set_option linter.unusedVariables false
set_option linter.unusedSimpArgs false
noncomputable abbrev pways_S1 (y1:Int) (y2:Value) (y3:L3) (y4 y5:Int) (y6:Bool) (y7 y8 y9 y10 y11 y12 y13 y14 y15:Int) (y16:L3) (y17:Bool) (y18 y19:L3) (y20 y21 y22:Int):St := St.mk (some (SV.ptr (nat_lit 0) (nat_lit 0)) :: nn 3 (some (SV.ptr (nat_lit 1) (nat_lit 0)) :: none :: some (SV.ptr (nat_lit 2) (nat_lit 0)) :: some (SV.ptr (nat_lit 4) (nat_lit 0)) :: some (SV.ptr (nat_lit 5) (nat_lit 0)) :: some (SV.sl (nat_lit 7)) :: some (SV.int .i64 y1) :: some (SV.ptr (nat_lit 8) (nat_lit 0)) :: nn 5 (some (SV.ros y2 kP y3) :: some (SV.int .i64 y4) :: some (SV.int .i64 y5) :: nn 54 ([])))) [.cells [SV.bool y6] (nat_lit 66),.cells [SV.int .i64 y7,SV.int .i64 y8,SV.int .i64 y9,SV.int .i64 y10,SV.int .i64 y11,SV.int .i64 y12,SV.int .i64 y13,SV.int .i64 y14,SV.int .i64 y15] (nat_lit 68),.cells [SV.sl (nat_lit 3)] (nat_lit 24),.seq kP y16 (nat_lit 23),.cells [SV.bool y17] (nat_lit 4),.cells [SV.sl (nat_lit 6)] (nat_lit 24),.seq kP y18 (nat_lit 23),.seq kP y19 (nat_lit 23),.cells [SV.int .i64 y20,SV.int .i64 y21,SV.int .i64 y22] (nat_lit 23)]
noncomputable abbrev pways_S2:St := St.mk (some (SV.ptr (nat_lit 0) (nat_lit 0)) :: nn 3 (some (SV.ptr (nat_lit 1) (nat_lit 0)) :: none :: some (SV.ptr (nat_lit 2) (nat_lit 0)) :: some (SV.ptr (nat_lit 4) (nat_lit 0)) :: some (SV.ptr (nat_lit 5) (nat_lit 0)) :: some (SV.sl (nat_lit 7)) :: some (SV.int .i64 (0:Int)) :: some (SV.ptr (nat_lit 8) (nat_lit 0)) :: nn 5 (some (SV.ros undef kP []) :: some (SV.int .i64 (0:Int)) :: some (SV.int .i64 (0:Int)) :: nn 54 ([])))) [.cells [SV.bool false] (nat_lit 66),.cells [SV.int .i64 (0:Int),SV.int .i64 (0:Int),SV.int .i64 (0:Int),SV.int .i64 (0:Int),SV.int .i64 (0:Int),SV.int .i64 (0:Int),SV.int .i64 (0:Int),SV.int .i64 (0:Int),SV.int .i64 (0:Int)] (nat_lit 68),.cells [SV.sl (nat_lit 3)] (nat_lit 24),.seq kP [] (nat_lit 23),.cells [SV.bool false] (nat_lit 4),.cells [SV.sl (nat_lit 6)] (nat_lit 24),.seq kP [] (nat_lit 23),.seq kP [] (nat_lit 23),.cells [SV.int .i64 (0:Int),SV.int .i64 (0:Int),SV.int .i64 (0:Int)] (nat_lit 23)]
noncomputable abbrev pways_S3 (y1:Value) (y2:L3) (y3 y4:Int) (y5:Bool) (y6 y7 y8 y9 y10 y11 y12 y13 y14:Int) (y15:L3) (y16:Bool) (y17 y18:L3):St := St.mk (some (SV.ptr (nat_lit 0) (nat_lit 0)) :: nn 3 (some (SV.ptr (nat_lit 1) (nat_lit 0)) :: none :: some (SV.ptr (nat_lit 2) (nat_lit 0)) :: some (SV.ptr (nat_lit 4) (nat_lit 0)) :: some (SV.ptr (nat_lit 5) (nat_lit 0)) :: some (SV.sl (nat_lit 7)) :: nn 7 (some (SV.ros y1 kP y2) :: some (SV.int .i64 y3) :: some (SV.int .i64 y4) :: nn 54 ([])))) [.cells [SV.bool y5] (nat_lit 66),.cells [SV.int .i64 y6,SV.int .i64 y7,SV.int .i64 y8,SV.int .i64 y9,SV.int .i64 y10,SV.int .i64 y11,SV.int .i64 y12,SV.int .i64 y13,SV.int .i64 y14] (nat_lit 68),.cells [SV.sl (nat_lit 3)] (nat_lit 24),.seq kP y15 (nat_lit 23),.cells [SV.bool y16] (nat_lit 4),.cells [SV.sl (nat_lit 6)] (nat_lit 24),.seq kP y17 (nat_lit 23),.seq kP y18 (nat_lit 23)]
noncomputable abbrev pways_S4 (y1:Bool) (y2 y3 y4 y5 y6 y7 y8 y9 y10:Int) (y11:L3) (y12:Bool) (y13 y14:L3):St := St.mk (some (SV.ptr (nat_lit 0) (nat_lit 0)) :: nn 3 (some (SV.ptr (nat_lit 1) (nat_lit 0)) :: none :: some (SV.ptr (nat_lit 2) (nat_lit 0)) :: some (SV.ptr (nat_lit 4) (nat_lit 0)) :: some (SV.ptr (nat_lit 5) (nat_lit 0)) :: some (SV.sl (nat_lit 7)) :: nn 64 ([]))) [.cells [SV.bool y1] (nat_lit 66),.cells [SV.int .i64 y2,SV.int .i64 y3,SV.int .i64 y4,SV.int .i64 y5,SV.int .i64 y6,SV.int .i64 y7,SV.int .i64 y8,SV.int .i64 y9,SV.int .i64 y10] (nat_lit 68),.cells [SV.sl (nat_lit 3)] (nat_lit 24),.seq kP y11 (nat_lit 23),.cells [SV.bool y12] (nat_lit 4),.cells [SV.sl (nat_lit 6)] (nat_lit 24),.seq kP y13 (nat_lit 23),.seq kP y14 (nat_lit 23)]
noncomputable abbrev pways_S5:St := St.mk (some (SV.ptr (nat_lit 0) (nat_lit 0)) :: nn 3 (some (SV.ptr (nat_lit 1) (nat_lit 0)) :: none :: some (SV.ptr (nat_lit 2) (nat_lit 0)) :: some (SV.ptr (nat_lit 4) (nat_lit 0)) :: some (SV.ptr (nat_lit 5) (nat_lit 0)) :: some (SV.sl (nat_lit 7)) :: nn 7 (some (SV.ros undef kP []) :: some (SV.int .i64 (0:Int)) :: some (SV.int .i64 (0:Int)) :: nn 54 ([])))) [.cells [SV.bool false] (nat_lit 66),.cells [SV.int .i64 (0:Int),SV.int .i64 (0:Int),SV.int .i64 (0:Int),SV.int .i64 (0:Int),SV.int .i64 (0:Int),SV.int .i64 (0:Int),SV.int .i64 (0:Int),SV.int .i64 (0:Int),SV.int .i64 (0:Int)] (nat_lit 68),.cells [SV.sl (nat_lit 3)] (nat_lit 24),.seq kP [] (nat_lit 23),.cells [SV.bool false] (nat_lit 4),.cells [SV.sl (nat_lit 6)] (nat_lit 24),.seq kP [] (nat_lit 23),.seq kP [] (nat_lit 23)]
noncomputable abbrev pways_S6 (y1 y2:Int) (y3 y4:Bool) (y5 y6 y7 y8 y9 y10 y11 y12 y13 y14:Int) (y15 y16 y17:L3):St := St.mk (some (SV.yld (nat_lit 11)) :: none :: some (SV.ptr (nat_lit 8) (nat_lit 0)) :: some (SV.ptr (nat_lit 9) (nat_lit 0)) :: some (SV.ptr (nat_lit 10) (nat_lit 0)) :: nn 3 (some (SV.sl (nat_lit 14)) :: some (SV.int .i64 y1) :: some (SV.int .i64 y2) :: nn 29 ([]))) [.cells [SV.bool y3] (nat_lit 66),.cells [SV.sl (nat_lit 12)] (nat_lit 24),SObj.dead,.cells [SV.bool y4] (nat_lit 4),.cells [SV.sl (nat_lit 13)] (nat_lit 24),SObj.dead,.cells [SV.sl (nat_lit 14)] (nat_lit 24),SObj.dead,.cells [SV.ptr (nat_lit 0) (nat_lit 0)] (nat_lit 70),.cells [SV.int .i64 y5,SV.int .i64 y6,SV.int .i64 y7,SV.int .i64 y8,SV.int .i64 y9,SV.int .i64 y10,SV.int .i64 y11,SV.int .i64 y12,SV.int .i64 y13] (nat_lit 68),.cells [SV.int .i64 y14] (nat_lit 3),SObj.lp (nat_lit 38) [false,true,false,true,true,true,true] [none,none,none,none,none,none,some (SV.ptr (nat_lit 1) (nat_lit 0)),some (SV.ptr (nat_lit 3) (nat_lit 0)),some (SV.ptr (nat_lit 4) (nat_lit 0)),none,none,none,none,none,none,none,none,none,none,none,none,none,none,none,none,none,none,none,none,none,none,none,none,none,none,none,none,none,none,none,none,none,none,none,none,none,none,none,none,some (SV.fn (nat_lit 63) [] [SV.ptr (nat_lit 6) (nat_lit 0),SV.ptr (nat_lit 8) (nat_lit 0),SV.ptr (nat_lit 9) (nat_lit 0),SV.ptr (nat_lit 10) (nat_lit 0)]),none,none,none,none,none,none,none,none,none,none,none,none,none,none,none,none,none,none,none,none,none,none,none,none] LSt.ready,.seq kP y15 (nat_lit 23),.seq kP y16 (nat_lit 23),.seq kP y17 (nat_lit 23)]
noncomputable abbrev pways_S7 (y1:Bool) (y2 y3 y4 y5 y6 y7 y8 y9 y10 y11:Int) (y12 y13:L3):St := St.mk (nn 40 ([])) [.cells [SV.bool y1] (nat_lit 66),.cells [SV.sl (nat_lit 12)] (nat_lit 24),SObj.dead,.cells [SV.bool false] (nat_lit 4),.cells [SV.sl (nat_lit 13)] (nat_lit 24),SObj.dead,.cells [SV.sl (nat_lit 14)] (nat_lit 24),SObj.dead,.cells [SV.ptr (nat_lit 0) (nat_lit 0)] (nat_lit 70),.cells [SV.int .i64 y2,SV.int .i64 y3,SV.int .i64 y4,SV.int .i64 y5,SV.int .i64 y6,SV.int .i64 y7,SV.int .i64 y8,SV.int .i64 y9,SV.int .i64 y10] (nat_lit 68),.cells [SV.int .i64 y11] (nat_lit 3),SObj.lp (nat_lit 38) [false,true,false,true,true,true,true] [none,none,none,none,none,none,some (SV.ptr (nat_lit 1) (nat_lit 0)),some (SV.ptr (nat_lit 3) (nat_lit 0)),some (SV.ptr (nat_lit 4) (nat_lit 0)),none,none,none,none,none,none,none,none,none,none,none,none,none,none,none,none,none,none,none,none,none,none,none,none,none,none,none,none,none,none,none,none,none,none,none,none,none,none,none,none,some (SV.fn (nat_lit 63) [] [SV.ptr (nat_lit 6) (nat_lit 0),SV.ptr (nat_lit 8) (nat_lit 0),SV.ptr (nat_lit 9) (nat_lit 0),SV.ptr (nat_lit 10) (nat_lit 0)]),none,none,none,none,none,none,none,none,none,none,none,none,none,none,none,none,none,none,none,none,none,none,none,none] (LSt.done Ex.ret),.seq kP [] (nat_lit 23),.seq kP y12 (nat_lit 23),.seq kP y13 (nat_lit 23)]
noncomputable abbrev pways_S8 (y1 y2:Bool) (y3 y4 y5 y6 y7 y8 y9 y10 y11 y12:Int) (y13 y14 y15:L3):St := St.mk (nn 40 ([])) [.cells [SV.bool y1] (nat_lit 66),.cells [SV.sl (nat_lit 12)] (nat_lit 24),SObj.dead,.cells [SV.bool y2] (nat_lit 4),.cells [SV.sl (nat_lit 13)] (nat_lit 24),SObj.dead,.cells [SV.sl (nat_lit 14)] (nat_lit 24),SObj.dead,.cells [SV.ptr (nat_lit 0) (nat_lit 0)] (nat_lit 70),.cells [SV.int .i64 y3,SV.int .i64 y4,SV.int .i64 y5,SV.int .i64 y6,SV.int .i64 y7,SV.int .i64 y8,SV.int .i64 y9,SV.int .i64 y10,SV.int .i64 y11] (nat_lit 68),.cells [SV.int .i64 y12] (nat_lit 3),SObj.lp (nat_lit 38) [false,true,false,true,true,true,true] [none,none,none,none,none,none,some (SV.ptr (nat_lit 1) (nat_lit 0)),some (SV.ptr (nat_lit 3) (nat_lit 0)),some (SV.ptr (nat_lit 4) (nat_lit 0)),none,none,none,none,none,none,none,none,none,none,none,none,none,none,none,none,none,none,none,none,none,none,none,none,none,none,none,none,none,none,none,none,none,none,none,none,none,none,none,none,some (SV.fn (nat_lit 63) [] [SV.ptr (nat_lit 6) (nat_lit 0),SV.ptr (nat_lit 8) (nat_lit 0),SV.ptr (nat_lit 9) (nat_lit 0),SV.ptr (nat_lit 10) (nat_lit 0)]),none,none,none,none,none,none,none,none,none,none,none,none,none,none,none,none,none,none,none,none,none,none,none,none] LSt.ready,.seq kP y13 (nat_lit 23),.seq kP y14 (nat_lit 23),.seq kP y15 (nat_lit 23)]
noncomputable abbrev pways_S9:St := St.mk (some (SV.yld (nat_lit 11)) :: none :: some (SV.ptr (nat_lit 8) (nat_lit 0)) :: some (SV.ptr (nat_lit 9) (nat_lit 0)) :: some (SV.ptr (nat_lit 10) (nat_lit 0)) :: nn 3 (some (SV.sl (nat_lit 14)) :: some (SV.int .i64 (0:Int)) :: some (SV.int .i64 (0:Int)) :: nn 29 ([]))) [.cells [SV.bool false] (nat_lit 66),.cells [SV.sl (nat_lit 12)] (nat_lit 24),SObj.dead,.cells [SV.bool false] (nat_lit 4),.cells [SV.sl (nat_lit 13)] (nat_lit 24),SObj.dead,.cells [SV.sl (nat_lit 14)] (nat_lit 24),SObj.dead,.cells [SV.ptr (nat_lit 0) (nat_lit 0)] (nat_lit 70),.cells [SV.int .i64 (0:Int),SV.int .i64 (0:Int),SV.int .i64 (0:Int),SV.int .i64 (0:Int),SV.int .i64 (0:Int),SV.int .i64 (0:Int),SV.int .i64 (0:Int),SV.int .i64 (0:Int),SV.int .i64 (0:Int)] (nat_lit 68),.cells [SV.int .i64 (0:Int)] (nat_lit 3),SObj.lp (nat_lit 38) [false,true,false,true,true,true,true] [none,none,none,none,none,none,some (SV.ptr (nat_lit 1) (nat_lit 0)),some (SV.ptr (nat_lit 3) (nat_lit 0)),some (SV.ptr (nat_lit 4) (nat_lit 0)),none,none,none,none,none,none,none,none,none,none,none,none,none,none,none,none,none,none,none,none,none,none,none,none,none,none,none,none,none,none,none,none,none,none,none,none,none,none,none,none,some (SV.fn (nat_lit 63) [] [SV.ptr (nat_lit 6) (nat_lit 0),SV.ptr (nat_lit 8) (nat_lit 0),SV.ptr (nat_lit 9) (nat_lit 0),SV.ptr (nat_lit 10) (nat_lit 0)]),none,none,none,none,none,none,none,none,none,none,none,none,none,none,none,none,none,none,none,none,none,none,none,none] LSt.ready,.seq kP [] (nat_lit 23),.seq kP [] (nat_lit 23),.seq kP [] (nat_lit 23)]
abbrev pways_P1:List Bool := [false,false,true,false,false,true,true,false,false,true,false,true,true,true]
abbrev pways_P2:List Bool := [false,true,false,true,true,true]
noncomputable def _root_.Go.Proofs.Ytlagndfhibkjpaa.M.pways_l0_step {α:Type} (kn:Int → Int → Int → Option α) (k1:Int → Int → Int → Option α) (x78 x79 x80:Int):Option α := if (!(cEq x78 (0:Int) && (cEq x79 (0:Int) && (cEq x80 (0:Int) && true)))) = true then if V.pwithin_r0 x78 x79 x80 (524288:Int) = true then kn (IntKind.wrap .i64 ((2:Int) * x78)) (IntKind.wrap .i64 ((2:Int) * x79)) (IntKind.wrap .i64 ((2:Int) * x80)) else k1 x78 x79 x80 else k1 x78 x79 x80
noncomputable def _root_.Go.Proofs.Ytlagndfhibkjpaa.M.pways_l0 {α:Type} (k1:Int → Int → Int → Option α):Nat → Int → Int → Int → Option α
  | 0,_,_,_ => none
  | n + 1,x78,x79,x80 => M.pways_l0_step (M.pways_l0 k1 n) k1 x78 x79 x80
theorem pways_l0_step_eq {α:Type} (x59:Int) (x60:Value) (x61:L3) (x62 x63:Int) (x64:Bool) (x65 x66 x67 x68 x69 x70 x71 x72 x73:Int) (x74:L3) (x75:Bool) (x76 x77:L3) (x78 x79 x80:Int) (Q:Ex → St → Option α):(loopStep E (exec E look_pmoved noLps 400) 38 pways_P1 1 (codeAt E.P 38 pways_P1)) (pways_S1 x59 x60 x61 x62 x63 x64 x65 x66 x67 x68 x69 x70 x71 x72 x73 x74 x75 x76 x77 x78 x79 x80) Q = M.pways_l0_step (fun (x84 x85 x86:Int) => Q .normal (pways_S1 x59 x60 x61 x62 x63 x64 x65 x66 x67 x68 x69 x70 x71 x72 x73 x74 x75 x76 x77 x84 x85 x86)) (fun (x81 x82 x83:Int) => Q (.exit 2) (pways_S1 x59 x60 x61 x62 x63 x64 x65 x66 x67 x68 x69 x70 x71 x72 x73 x74 x75 x76 x77 x81 x82 x83)) x78 x79 x80 := by kernel_rfl
theorem pways_l0_iter {α:Type} (x59:Int) (x60:Value) (x61:L3) (x62 x63:Int) (x64:Bool) (x65 x66 x67 x68 x69 x70 x71 x72 x73:Int) (x74:L3) (x75:Bool) (x76 x77:L3) (Q:Ex → St → Option α):∀ (n:Nat) (x78 x79 x80:Int),iter (loopStep E (exec E look_pmoved noLps 400) 38 pways_P1 1 (codeAt E.P 38 pways_P1)) n (pways_S1 x59 x60 x61 x62 x63 x64 x65 x66 x67 x68 x69 x70 x71 x72 x73 x74 x75 x76 x77 x78 x79 x80) Q = M.pways_l0 (fun (x81 x82 x83:Int) => Q (.exit 2) (pways_S1 x59 x60 x61 x62 x63 x64 x65 x66 x67 x68 x69 x70 x71 x72 x73 x74 x75 x76 x77 x81 x82 x83)) n x78 x79 x80
  | 0,_,_,_ => rfl
  | n + 1,x78,x79,x80 => (pways_l0_step_eq x59 x60 x61 x62 x63 x64 x65 x66 x67 x68 x69 x70 x71 x72 x73 x74 x75 x76 x77 x78 x79 x80 (iterK (loopStep E (exec E look_pmoved noLps 400) 38 pways_P1 1 (codeAt E.P 38 pways_P1)) n Q)).trans (congrArg (fun kn => M.pways_l0_step kn (fun (x81 x82 x83:Int) => Q (.exit 2) (pways_S1 x59 x60 x61 x62 x63 x64 x65 x66 x67 x68 x69 x70 x71 x72 x73 x74 x75 x76 x77 x81 x82 x83)) x78 x79 x80) (funext fun x78 => funext fun x79 => funext fun x80 => pways_l0_iter x59 x60 x61 x62 x63 x64 x65 x66 x67 x68 x69 x70 x71 x72 x73 x74 x75 x76 x77 Q n x78 x79 x80))
noncomputable def pways_l0_go {α:Type} (ds:List D) (Q:Ex → St → Option α):Option α :=
  dI ds fun x59 ds => dV ds fun x60 ds => dL kP ds fun x61 ds => dI ds fun x62 ds => dI ds fun x63 ds => dB ds fun x64 ds => dI ds fun x65 ds => dI ds fun x66 ds => dI ds fun x67 ds => dI ds fun x68 ds => dI ds fun x69 ds => dI ds fun x70 ds => dI ds fun x71 ds => dI ds fun x72 ds => dI ds fun x73 ds => dL kP ds fun x74 ds => dB ds fun x75 ds => dL kP ds fun x76 ds => dL kP ds fun x77 ds => dI ds fun x78 ds => dI ds fun x79 ds => dI ds fun x80 ds => dE ds (M.pways_l0 (fun (x81 x82 x83:Int) => Q (.exit 2) (pways_S1 x59 x60 x61 x62 x63 x64 x65 x66 x67 x68 x69 x70 x71 x72 x73 x74 x75 x76 x77 x81 x82 x83)) (100 + x61.length + x74.length + x76.length + x77.length) x78 x79 x80)
theorem pways_l0_ok {α:Type}:LoopOk E.P 38 pways_P1 1 (lEnt (α := α) (pways_S2) pways_l0_go) :=
  lEnt_ok E (exec_sound E E_ok (look_pmoved_ok) (noLps_ok _) 400) fun ds Q r h S hS => by
    unfold pways_l0_go at h
    obtain ⟨x59,ds,rfl,h1⟩ := dI_inv h
    obtain ⟨x60,ds,rfl,h2⟩ := dV_inv h1
    obtain ⟨x61,ds,rfl,h3⟩ := dL_inv h2
    obtain ⟨x62,ds,rfl,h4⟩ := dI_inv h3
    obtain ⟨x63,ds,rfl,h5⟩ := dI_inv h4
    obtain ⟨x64,ds,rfl,h6⟩ := dB_inv h5
    obtain ⟨x65,ds,rfl,h7⟩ := dI_inv h6
    obtain ⟨x66,ds,rfl,h8⟩ := dI_inv h7
    obtain ⟨x67,ds,rfl,h9⟩ := dI_inv h8
    obtain ⟨x68,ds,rfl,h10⟩ := dI_inv h9
    obtain ⟨x69,ds,rfl,h11⟩ := dI_inv h10
    obtain ⟨x70,ds,rfl,h12⟩ := dI_inv h11
    obtain ⟨x71,ds,rfl,h13⟩ := dI_inv h12
    obtain ⟨x72,ds,rfl,h14⟩ := dI_inv h13
    obtain ⟨x73,ds,rfl,h15⟩ := dI_inv h14
    obtain ⟨x74,ds,rfl,h16⟩ := dL_inv h15
    obtain ⟨x75,ds,rfl,h17⟩ := dB_inv h16
    obtain ⟨x76,ds,rfl,h18⟩ := dL_inv h17
    obtain ⟨x77,ds,rfl,h19⟩ := dL_inv h18
    obtain ⟨x78,ds,rfl,h20⟩ := dI_inv h19
    obtain ⟨x79,ds,rfl,h21⟩ := dI_inv h20
    obtain ⟨x80,ds,rfl,h22⟩ := dI_inv h21
    obtain ⟨rfl,hE⟩ := dE_inv h22
    have e:fillS (pways_S2) [.i x59,.v x60,.l kP x61,.i x62,.i x63,.b x64,.i x65,.i x66,.i x67,.i x68,.i x69,.i x70,.i x71,.i x72,.i x73,.l kP x74,.b x75,.l kP x76,.l kP x77,.i x78,.i x79,.i x80] = some (pways_S1 x59 x60 x61 x62 x63 x64 x65 x66 x67 x68 x69 x70 x71 x72 x73 x74 x75 x76 x77 x78 x79 x80) := by kernel_rfl
    rw [e] at hS
    cases hS
    exact ⟨_,(pways_l0_iter x59 x60 x61 x62 x63 x64 x65 x66 x67 x68 x69 x70 x71 x72 x73 x74 x75 x76 x77 Q _ x78 x79 x80).trans hE⟩
noncomputable def pways_l0_lps {α:Type}:LookL α := addLp 38 pways_P1 1 (lEnt (pways_S2) pways_l0_go) noLps
theorem pways_l0_lps_ok {α:Type}:LoopsOk E.P (pways_l0_lps (α := α)) := addLp_ok pways_l0_ok (noLps_ok _)

noncomputable def _root_.Go.Proofs.Ytlagndfhibkjpaa.M.pways_l1_step {α:Type} (x88:L3) (x89:Int) (x101 x103:L3) (kn:Int → L3 → Option α) (k1:L3 → Option α) (x90:Int) (x104:L3):Option α := if cLt x90 x89 = true then if (0:Int) ≤ x90 ∧ x90 < (↑(List.length x88):Int) then M.pways_l0 (fun (x105 x106 x107:Int) ↦ if (0:Int) ≤ x90 ∧ x90 < (↑(List.length x104):Int) then kn (IntKind.wrap .i64 (x90 + (1:Int))) (List.set x104 (Int.toNat x90) (x105,x106,x107)) else none) ((100:Nat) + List.length x88 + List.length x101 + List.length x103 + List.length x104) (Prod.fst (List.getD x88 (Int.toNat x90) ((0:Int),(0:Int),(0:Int)))) (Prod.fst (Prod.snd (List.getD x88 (Int.toNat x90) ((0:Int),(0:Int),(0:Int))))) (Prod.snd (Prod.snd (List.getD x88 (Int.toNat x90) ((0:Int),(0:Int),(0:Int))))) else none else k1 x104
noncomputable def _root_.Go.Proofs.Ytlagndfhibkjpaa.M.pways_l1 {α:Type} (x88:L3) (x89:Int) (x101 x103:L3) (k1:L3 → Option α):Nat → Int → L3 → Option α
  | 0,_,_ => none
  | n + 1,x90,x104 => M.pways_l1_step x88 x89 x101 x103 (M.pways_l1 x88 x89 x101 x103 k1 n) k1 x90 x104
theorem pways_l1_step_eq {α:Type} (x87:Value) (x88:L3) (x89 x90:Int) (x91:Bool) (x92 x93 x94 x95 x96 x97 x98 x99 x100:Int) (x101:L3) (x102:Bool) (x103 x104:L3) (Q:Ex → St → Option α):(loopStep E (exec E look_pmoved pways_l0_lps 400) 38 pways_P2 1 (codeAt E.P 38 pways_P2)) (pways_S3 x87 x88 x89 x90 x91 x92 x93 x94 x95 x96 x97 x98 x99 x100 x101 x102 x103 x104) Q = M.pways_l1_step x88 x89 x101 x103 (fun (x109:Int) (x110:L3) => Q .normal (pways_S3 x87 x88 x89 x109 x91 x92 x93 x94 x95 x96 x97 x98 x99 x100 x101 x102 x103 x110)) (fun (x108:L3) => Q (.exit 0) (pways_S4 x91 x92 x93 x94 x95 x96 x97 x98 x99 x100 x101 x102 x103 x108)) x90 x104 := by kernel_rfl
theorem pways_l1_iter {α:Type} (x87:Value) (x88:L3) (x89:Int) (x91:Bool) (x92 x93 x94 x95 x96 x97 x98 x99 x100:Int) (x101:L3) (x102:Bool) (x103:L3) (Q:Ex → St → Option α):∀ (n:Nat) (x90:Int) (x104:L3),iter (loopStep E (exec E look_pmoved pways_l0_lps 400) 38 pways_P2 1 (codeAt E.P 38 pways_P2)) n (pways_S3 x87 x88 x89 x90 x91 x92 x93 x94 x95 x96 x97 x98 x99 x100 x101 x102 x103 x104) Q = M.pways_l1 x88 x89 x101 x103 (fun (x108:L3) => Q (.exit 0) (pways_S4 x91 x92 x93 x94 x95 x96 x97 x98 x99 x100 x101 x102 x103 x108)) n x90 x104
  | 0,_,_ => rfl
  | n + 1,x90,x104 => (pways_l1_step_eq x87 x88 x89 x90 x91 x92 x93 x94 x95 x96 x97 x98 x99 x100 x101 x102 x103 x104 (iterK (loopStep E (exec E look_pmoved pways_l0_lps 400) 38 pways_P2 1 (codeAt E.P 38 pways_P2)) n Q)).trans (congrArg (fun kn => M.pways_l1_step x88 x89 x101 x103 kn (fun (x108:L3) => Q (.exit 0) (pways_S4 x91 x92 x93 x94 x95 x96 x97 x98 x99 x100 x101 x102 x103 x108)) x90 x104) (funext fun x90 => funext fun x104 => pways_l1_iter x87 x88 x89 x91 x92 x93 x94 x95 x96 x97 x98 x99 x100 x101 x102 x103 Q n x90 x104))
noncomputable def pways_l1_go {α:Type} (ds:List D) (Q:Ex → St → Option α):Option α :=
  dV ds fun x87 ds => dL kP ds fun x88 ds => dI ds fun x89 ds => dI ds fun x90 ds => dB ds fun x91 ds => dI ds fun x92 ds => dI ds fun x93 ds => dI ds fun x94 ds => dI ds fun x95 ds => dI ds fun x96 ds => dI ds fun x97 ds => dI ds fun x98 ds => dI ds fun x99 ds => dI ds fun x100 ds => dL kP ds fun x101 ds => dB ds fun x102 ds => dL kP ds fun x103 ds => dL kP ds fun x104 ds => dE ds (M.pways_l1 x88 x89 x101 x103 (fun (x108:L3) => Q (.exit 0) (pways_S4 x91 x92 x93 x94 x95 x96 x97 x98 x99 x100 x101 x102 x103 x108)) (100 + x88.length + x101.length + x103.length + x104.length) x90 x104)
theorem pways_l1_ok {α:Type}:LoopOk E.P 38 pways_P2 1 (lEnt (α := α) (pways_S5) pways_l1_go) :=
  lEnt_ok E (exec_sound E E_ok (look_pmoved_ok) (pways_l0_lps_ok) 400) fun ds Q r h S hS => by
    unfold pways_l1_go at h
    obtain ⟨x87,ds,rfl,h1⟩ := dV_inv h
    obtain ⟨x88,ds,rfl,h2⟩ := dL_inv h1
    obtain ⟨x89,ds,rfl,h3⟩ := dI_inv h2
    obtain ⟨x90,ds,rfl,h4⟩ := dI_inv h3
    obtain ⟨x91,ds,rfl,h5⟩ := dB_inv h4
    obtain ⟨x92,ds,rfl,h6⟩ := dI_inv h5
    obtain ⟨x93,ds,rfl,h7⟩ := dI_inv h6
    obtain ⟨x94,ds,rfl,h8⟩ := dI_inv h7
    obtain ⟨x95,ds,rfl,h9⟩ := dI_inv h8
    obtain ⟨x96,ds,rfl,h10⟩ := dI_inv h9
    obtain ⟨x97,ds,rfl,h11⟩ := dI_inv h10
    obtain ⟨x98,ds,rfl,h12⟩ := dI_inv h11
    obtain ⟨x99,ds,rfl,h13⟩ := dI_inv h12
    obtain ⟨x100,ds,rfl,h14⟩ := dI_inv h13
    obtain ⟨x101,ds,rfl,h15⟩ := dL_inv h14
    obtain ⟨x102,ds,rfl,h16⟩ := dB_inv h15
    obtain ⟨x103,ds,rfl,h17⟩ := dL_inv h16
    obtain ⟨x104,ds,rfl,h18⟩ := dL_inv h17
    obtain ⟨rfl,hE⟩ := dE_inv h18
    have e:fillS (pways_S5) [.v x87,.l kP x88,.i x89,.i x90,.b x91,.i x92,.i x93,.i x94,.i x95,.i x96,.i x97,.i x98,.i x99,.i x100,.l kP x101,.b x102,.l kP x103,.l kP x104] = some (pways_S3 x87 x88 x89 x90 x91 x92 x93 x94 x95 x96 x97 x98 x99 x100 x101 x102 x103 x104) := by kernel_rfl
    rw [e] at hS
    cases hS
    exact ⟨_,(pways_l1_iter x87 x88 x89 x91 x92 x93 x94 x95 x96 x97 x98 x99 x100 x101 x102 x103 Q _ x90 x104).trans hE⟩
noncomputable def pways_l1_lps {α:Type}:LookL α := addLp 38 pways_P2 1 (lEnt (pways_S5) pways_l1_go) pways_l0_lps
theorem pways_l1_lps_ok {α:Type}:LoopsOk E.P (pways_l1_lps (α := α)) := addLp_ok pways_l1_ok (pways_l0_lps_ok)

noncomputable def _root_.Go.Proofs.Ytlagndfhibkjpaa.M.pways_l2_step {α:Type} (x130 x134 x135 x136 x137 x138 x139 x140 x141 x142 x143:Int) (x146:L3) (kn:Int → Bool → L3 → Option α) (k0:Bool → L3 → Option α) (k2:Bool → L3 → Option α) (x131:Int) (x132:Bool) (x145:L3):Option α := let s147:K.T kP := List.getD x146 (Int.toNat x131) ((0:Int),(0:Int),(0:Int)); let s148:LK.T (LK.i IntKind.i64) := Prod.fst s147; let s149:RT (LK.i IntKind.i64) [LK.i IntKind.i64] := Prod.snd s147; let s150:LK.T (LK.i IntKind.i64) := Prod.fst s149; let s151:RT (LK.i IntKind.i64) [] := Prod.snd s149; let s152:Option V.T3 := V.tTurn ((x134,x135,x136),(x137,x138,x139),x140,x141,x142) (IntKind.wrap .i64 (s148 * x143),IntKind.wrap .i64 (s150 * x143),IntKind.wrap .i64 (s151 * x143)); let s153:P3 := V.pShort (IntKind.wrap .i64 (Int.tdiv (V.x3 s152) (4096:Int)),IntKind.wrap .i64 (Int.tdiv (V.y3 s152) (4096:Int)),IntKind.wrap .i64 (Int.tdiv (V.z3 s152) (4096:Int))); let s154:Int × Int := Prod.snd s153; if cLt x131 x130 = true then if (0:Int) ≤ x131 ∧ x131 < (↑(List.length x146):Int) then if (!V.pwithin_r0 s148 s150 s151 (1048576:Int)) = true then k0 x132 x145 else if (!(cEq (Prod.fst s153) (0:Int) && (cEq (Prod.fst s154) (0:Int) && (cEq (Prod.snd s154) (0:Int) && true)))) = true then if (List.length x145 + ((0:Nat) + (1:Nat))) * (24:Nat) ≤ (140737488355328:Nat) then kn (IntKind.wrap .i64 (x131 + (1:Int))) (V.on s152 x132) (x145 ++ [s153]) else none else kn (IntKind.wrap .i64 (x131 + (1:Int))) (V.on s152 x132) x145 else none else k2 x132 x145
noncomputable def _root_.Go.Proofs.Ytlagndfhibkjpaa.M.pways_l2 {α:Type} (x130 x134 x135 x136 x137 x138 x139 x140 x141 x142 x143:Int) (x146:L3) (k0:Bool → L3 → Option α) (k2:Bool → L3 → Option α):Nat → Int → Bool → L3 → Option α
  | 0,_,_,_ => none
  | n + 1,x131,x132,x145 => M.pways_l2_step x130 x134 x135 x136 x137 x138 x139 x140 x141 x142 x143 x146 (M.pways_l2 x130 x134 x135 x136 x137 x138 x139 x140 x141 x142 x143 x146 k0 k2 n) k0 k2 x131 x132 x145
theorem pways_l2_step_eq {α:Type} (x130 x131:Int) (x132 x133:Bool) (x134 x135 x136 x137 x138 x139 x140 x141 x142 x143:Int) (x144 x145 x146:L3) (Q:Ex → St → Option α):(loopStep E (exec E look_pmoved pways_l1_lps 400) 63 [false,true] 12 (codeAt E.P 63 [false,true])) (pways_S6 x130 x131 x132 x133 x134 x135 x136 x137 x138 x139 x140 x141 x142 x143 x144 x145 x146) Q = M.pways_l2_step x130 x134 x135 x136 x137 x138 x139 x140 x141 x142 x143 x146 (fun (x159:Int) (x160:Bool) (x161:L3) => Q .normal (pways_S6 x130 x159 x160 x133 x134 x135 x136 x137 x138 x139 x140 x141 x142 x143 x144 x161 x146)) (fun (x155:Bool) (x156:L3) => Q .ret (pways_S7 x155 x134 x135 x136 x137 x138 x139 x140 x141 x142 x143 x156 x146)) (fun (x157:Bool) (x158:L3) => Q (.exit 0) (pways_S8 x157 x133 x134 x135 x136 x137 x138 x139 x140 x141 x142 x143 x144 x158 x146)) x131 x132 x145 := by kernel_rfl
theorem pways_l2_iter {α:Type} (x130:Int) (x133:Bool) (x134 x135 x136 x137 x138 x139 x140 x141 x142 x143:Int) (x144 x146:L3) (Q:Ex → St → Option α):∀ (n:Nat) (x131:Int) (x132:Bool) (x145:L3),iter (loopStep E (exec E look_pmoved pways_l1_lps 400) 63 [false,true] 12 (codeAt E.P 63 [false,true])) n (pways_S6 x130 x131 x132 x133 x134 x135 x136 x137 x138 x139 x140 x141 x142 x143 x144 x145 x146) Q = M.pways_l2 x130 x134 x135 x136 x137 x138 x139 x140 x141 x142 x143 x146 (fun (x155:Bool) (x156:L3) => Q .ret (pways_S7 x155 x134 x135 x136 x137 x138 x139 x140 x141 x142 x143 x156 x146)) (fun (x157:Bool) (x158:L3) => Q (.exit 0) (pways_S8 x157 x133 x134 x135 x136 x137 x138 x139 x140 x141 x142 x143 x144 x158 x146)) n x131 x132 x145
  | 0,_,_,_ => rfl
  | n + 1,x131,x132,x145 => (pways_l2_step_eq x130 x131 x132 x133 x134 x135 x136 x137 x138 x139 x140 x141 x142 x143 x144 x145 x146 (iterK (loopStep E (exec E look_pmoved pways_l1_lps 400) 63 [false,true] 12 (codeAt E.P 63 [false,true])) n Q)).trans (congrArg (fun kn => M.pways_l2_step x130 x134 x135 x136 x137 x138 x139 x140 x141 x142 x143 x146 kn (fun (x155:Bool) (x156:L3) => Q .ret (pways_S7 x155 x134 x135 x136 x137 x138 x139 x140 x141 x142 x143 x156 x146)) (fun (x157:Bool) (x158:L3) => Q (.exit 0) (pways_S8 x157 x133 x134 x135 x136 x137 x138 x139 x140 x141 x142 x143 x144 x158 x146)) x131 x132 x145) (funext fun x131 => funext fun x132 => funext fun x145 => pways_l2_iter x130 x133 x134 x135 x136 x137 x138 x139 x140 x141 x142 x143 x144 x146 Q n x131 x132 x145))
noncomputable def pways_l2_go {α:Type} (ds:List D) (Q:Ex → St → Option α):Option α :=
  dI ds fun x130 ds => dI ds fun x131 ds => dB ds fun x132 ds => dB ds fun x133 ds => dI ds fun x134 ds => dI ds fun x135 ds => dI ds fun x136 ds => dI ds fun x137 ds => dI ds fun x138 ds => dI ds fun x139 ds => dI ds fun x140 ds => dI ds fun x141 ds => dI ds fun x142 ds => dI ds fun x143 ds => dL kP ds fun x144 ds => dL kP ds fun x145 ds => dL kP ds fun x146 ds => dE ds (M.pways_l2 x130 x134 x135 x136 x137 x138 x139 x140 x141 x142 x143 x146 (fun (x155:Bool) (x156:L3) => Q .ret (pways_S7 x155 x134 x135 x136 x137 x138 x139 x140 x141 x142 x143 x156 x146)) (fun (x157:Bool) (x158:L3) => Q (.exit 0) (pways_S8 x157 x133 x134 x135 x136 x137 x138 x139 x140 x141 x142 x143 x144 x158 x146)) (100 + x144.length + x145.length + x146.length) x131 x132 x145)
theorem pways_l2_ok {α:Type}:LoopOk E.P 63 [false,true] 12 (lEnt (α := α) (pways_S9) pways_l2_go) :=
  lEnt_ok E (exec_sound E E_ok (look_pmoved_ok) (pways_l1_lps_ok) 400) fun ds Q r h S hS => by
    unfold pways_l2_go at h
    obtain ⟨x130,ds,rfl,h1⟩ := dI_inv h
    obtain ⟨x131,ds,rfl,h2⟩ := dI_inv h1
    obtain ⟨x132,ds,rfl,h3⟩ := dB_inv h2
    obtain ⟨x133,ds,rfl,h4⟩ := dB_inv h3
    obtain ⟨x134,ds,rfl,h5⟩ := dI_inv h4
    obtain ⟨x135,ds,rfl,h6⟩ := dI_inv h5
    obtain ⟨x136,ds,rfl,h7⟩ := dI_inv h6
    obtain ⟨x137,ds,rfl,h8⟩ := dI_inv h7
    obtain ⟨x138,ds,rfl,h9⟩ := dI_inv h8
    obtain ⟨x139,ds,rfl,h10⟩ := dI_inv h9
    obtain ⟨x140,ds,rfl,h11⟩ := dI_inv h10
    obtain ⟨x141,ds,rfl,h12⟩ := dI_inv h11
    obtain ⟨x142,ds,rfl,h13⟩ := dI_inv h12
    obtain ⟨x143,ds,rfl,h14⟩ := dI_inv h13
    obtain ⟨x144,ds,rfl,h15⟩ := dL_inv h14
    obtain ⟨x145,ds,rfl,h16⟩ := dL_inv h15
    obtain ⟨x146,ds,rfl,h17⟩ := dL_inv h16
    obtain ⟨rfl,hE⟩ := dE_inv h17
    have e:fillS (pways_S9) [.i x130,.i x131,.b x132,.b x133,.i x134,.i x135,.i x136,.i x137,.i x138,.i x139,.i x140,.i x141,.i x142,.i x143,.l kP x144,.l kP x145,.l kP x146] = some (pways_S6 x130 x131 x132 x133 x134 x135 x136 x137 x138 x139 x140 x141 x142 x143 x144 x145 x146) := by kernel_rfl
    rw [e] at hS
    cases hS
    exact ⟨_,(pways_l2_iter x130 x133 x134 x135 x136 x137 x138 x139 x140 x141 x142 x143 x144 x146 Q _ x131 x132 x145).trans hE⟩
noncomputable def pways_l2_lps {α:Type}:LookL α := addLp 63 [false,true] 12 (lEnt (pways_S9) pways_l2_go) pways_l1_lps
theorem pways_l2_lps_ok {α:Type}:LoopsOk E.P (pways_l2_lps (α := α)) := addLp_ok pways_l2_ok (pways_l1_lps_ok)

noncomputable def _root_.Go.Proofs.Ytlagndfhibkjpaa.M.pways {α:Type} (bad:Bool) (m0:Int) (m1:Int) (m2:Int) (m3:Int) (m4:Int) (m5:Int) (m6:Int) (m7:Int) (m8:Int) (l:L3) (k0:Bool → Option α) (k1:Nat → Bool → L3 → Option α):Option α := if V.lenB (List.length l) = true then M.pways_l1 l (↑(List.length l):Int) [] [] (fun (x163:L3) ↦ M.pways_l2 (↑(List.length x163):Int) m0 m1 m2 m3 m4 m5 m6 m7 m8 (4096:Int) x163 (fun (x164:Bool) (x165:L3) ↦ k0 x164) (fun (x166:Bool) (x167:L3) ↦ if (↑(List.length x167):Int) = (↑(List.length x167):Int) ∧ (↑(List.length x167):Int) = (↑(List.length x167):Int) then k1 (List.length x167) x166 x167 else none) ((100:Nat) + List.length x163) (0:Int) bad []) ((100:Nat) + List.length l + (0:Nat) + (0:Nat) + List.length l) (0:Int) l else none
theorem pways_eq {α:Type} (bad:Bool) (m0:Int) (m1:Int) (m2:Int) (m3:Int) (m4:Int) (m5:Int) (m6:Int) (m7:Int) (m8:Int) (l:L3) (v162:Value) (Q:SV → Hp → Option α):callI E look_pmoved (exec E look_pmoved pways_l2_lps 400) 38 ([SV.ptr (nat_lit 0) (nat_lit 0),SV.agg [SV.int .i64 m0,SV.int .i64 m1,SV.int .i64 m2,SV.int .i64 m3,SV.int .i64 m4,SV.int .i64 m5,SV.int .i64 m6,SV.int .i64 m7,SV.int .i64 m8],SV.ros v162 kP l]) ([.cells [SV.bool bad] (nat_lit 66)]) Q = M.pways bad m0 m1 m2 m3 m4 m5 m6 m7 m8 l (fun (x168:Bool) => Q (SV.tup [SV.sl (nat_lit 1),SV.bool false]) ([.cells [SV.bool x168] (nat_lit 66),.seq kP [] (nat_lit 23)])) (fun (x169:Nat) (x170:Bool) (x171:L3) => Q (SV.tup [SV.clp (nat_lit 1) kP x169,SV.bool true]) ([.cells [SV.bool x170] (nat_lit 66),.seq kP x171 (nat_lit 23)])) := by kernel_rfl
def pways_sp:List AS := [.ptr 66 [.bool false],.val (.agg [.int .i64 0,.int .i64 0,.int .i64 0,.int .i64 0,.int .i64 0,.int .i64 0,.int .i64 0,.int .i64 0,.int .i64 0]),.ro kP]
/-! Directions grown, and turned. -/
def dblP (p:P3):P3 := (IntKind.wrap .i64 (2 * p.1),IntKind.wrap .i64 (2 * p.2.1),IntKind.wrap .i64 (2 * p.2.2))
instance (p:P3) (n:Int):Decidable (Sm p n) := by unfold Sm; infer_instance
def growN:Nat → P3 → P3
  | 0,p => p
  | n + 1,p => if p = (0,0,0) then p else if Sm p 524288 then growN n (dblP p) else p
def growP (p:P3):P3 := growN 20 p
theorem mx_le (a b n:Int):(if b > a then b else a) ≤ n ↔ a ≤ n ∧ b ≤ n := by
  by_cases h:b > a
  · rw [if_pos h]; omega
  · rw [if_neg h]; omega
theorem le_mn (a b n:Int):n ≤ (if b < a then b else a) ↔ n ≤ a ∧ n ≤ b := by
  by_cases h:b < a
  · rw [if_pos h]; omega
  · rw [if_neg h]; omega
theorem within_dec (x y z n:Int) (hn:0 ≤ n ∧ n < 9223372036854775808):V.pwithin_r0 x y z n = decide (Sm (x,y,z) n) := by
  have h1 := (mx_le (if y > x then y else x) z n).trans (and_congr (mx_le x y n) Iff.rfl)
  have h2 := (le_mn (if y < x then y else x) z (0 - n)).trans (and_congr (le_mn x y (0 - n)) Iff.rfl)
  unfold V.pwithin_r0
  rw [IntWalk.i64_in (0 - n) (by omega),cLe_eq,cLe_eq]
  by_cases hs:Sm (x,y,z) n
  · have hs2 : (-n ≤ x ∧ x ≤ n) ∧ (-n ≤ y ∧ y ≤ n) ∧ (-n ≤ z ∧ z ≤ n) := hs
    rw [decide_eq_true hs,decide_eq_true (h1.mpr (by omega)),if_pos rfl,decide_eq_true (h2.mpr (by omega))]
  · rw [decide_eq_false hs]
    by_cases h:(if z > if y > x then y else x then z else if y > x then y else x) ≤ n
    · rw [decide_eq_true h, if_pos rfl]
      apply decide_eq_false
      intro h4
      apply hs
      have h5 := h1.mp h
      have h6 := h2.mp h4
      show (-n ≤ x ∧ x ≤ n) ∧ (-n ≤ y ∧ y ≤ n) ∧ (-n ≤ z ∧ z ≤ n)
      omega
    · rw [decide_eq_false h]; rfl
theorem grow_val {α:Type} (k1:Int → Int → Int → Option α):∀ (n fuel:Nat) (p:P3),(∃ c:Int,(c = p.1 ∨ c = p.2.1 ∨ c = p.2.2) ∧ (2 ^ (20 - n) ≤ c ∨ c ≤ -(2 ^ (20 - n)))) → n ≤ 20 → n < fuel →
    M.pways_l0 k1 fuel p.1 p.2.1 p.2.2 = k1 (growN n p).1 (growN n p).2.1 (growN n p).2.2
  | n,0,p,h,h1,h2 => by omega
  | n,f + 1,p,h,h1,h2 => by
    unfold M.pways_l0 M.pways_l0_step
    rw [within_dec _ _ _ _ (by omega),show (cEq p.1 (0:Int) && (cEq p.2.1 (0:Int) && (cEq p.2.2 (0:Int) && true))) = decide (p = (0,0,0)) from eq3 p.1 p.2.1 p.2.2 (0,0,0)]
    obtain ⟨c,hc,hb⟩ := h
    have hpos:(0:Int) < 2 ^ (20 - n) := Int.pow_pos (by omega)
    have hne:¬ p = (0,0,0) := by
      intro h; subst h
      simp only at hc
      rcases hc with rfl | rfl | rfl <;> omega
    rw [if_pos (by simpa using hne)]
    show (if decide (Sm p 524288) = true then _ else _) = _
    by_cases hs:Sm p 524288
    · rw [if_pos (by simpa using hs)]
      have hsm := hs
      unfold Sm at hsm
      cases n with
      | zero =>
        exfalso
        rw [show (2:Int) ^ (20 - 0) = 1048576 from by decide] at hb
        rcases hc with rfl | rfl | rfl <;> omega
      | succ n =>
        have ih := grow_val k1 n f (dblP p) (by
          have e:(2:Int) ^ (20 - n) = 2 * 2 ^ (20 - (n + 1)) := by
            rw [show 20 - n = (20 - (n + 1)) + 1 by omega,Int.pow_succ]; omega
          unfold dblP
          rw [IntWalk.i64_in (2 * p.1) (by omega),IntWalk.i64_in (2 * p.2.1) (by omega),IntWalk.i64_in (2 * p.2.2) (by omega)]
          refine ⟨2 * c,?_,?_⟩
          · rcases hc with rfl | rfl | rfl
            · exact .inl rfl
            · exact .inr (.inl rfl)
            · exact .inr (.inr rfl)
          · rw [e]; omega) (by omega) (by omega)
        have eg:growN (n + 1) p = growN n (dblP p) := by
          show (if p = (0,0,0) then p else if Sm p 524288 then growN n (dblP p) else p) = _
          rw [if_neg hne,if_pos hs]
        rw [eg]
        exact ih
    · rw [if_neg (by simpa using hs)]
      have eg:growN n p = p := by
        cases n with
        | zero => rfl
        | succ n =>
          show (if p = (0,0,0) then p else if Sm p 524288 then growN n (dblP p) else p) = _
          rw [if_neg hne,if_neg hs]
      rw [eg]
theorem grow_all {α:Type} (k1:Int → Int → Int → Option α) (fuel:Nat) (p:P3) (hf:20 < fuel):M.pways_l0 k1 fuel p.1 p.2.1 p.2.2 = k1 (growP p).1 (growP p).2.1 (growP p).2.2 := by
  by_cases h0:p = (0,0,0)
  · subst h0
    obtain ⟨f,rfl⟩:∃ f,fuel = f + 1 := ⟨fuel - 1,by omega⟩
    unfold M.pways_l0 M.pways_l0_step
    rw [if_neg (by simp [cEq_eq])]
    rfl
  · refine grow_val k1 20 fuel p ?_ (by omega) hf
    obtain ⟨a,b,c⟩ := p
    simp only [Nat.sub_self,Int.pow_zero]
    by_cases ha:a = 0
    · by_cases hb : b = 0
      · have hc : c ≠ 0 := fun hc => h0 (by rw [ha, hb, hc])
        exact ⟨c,.inr (.inr rfl),by omega⟩
      · exact ⟨b,.inr (.inl rfl),by omega⟩
    · exact ⟨a,.inl rfl,by omega⟩
theorem set_mid (A D:List P3) (d g:P3) (i:Nat) (h:A.length = i):(A ++ d :: D).set i g = A ++ g :: D := by
  subst h
  rw [List.set_append_right (h := Nat.le_refl _)]
  simp
theorem pways_l1_val {α:Type} (l:List P3) (hl:l.length < 1099511627776) (k1:List P3 → Option α):∀ (fuel i:Nat),i ≤ l.length → l.length - i < fuel →
    M.pways_l1 l (l.length:Int) [] [] k1 fuel (i:Int) ((l.take i).map growP ++ l.drop i) = k1 (l.map growP)
  | 0,i,h1,h2 => by omega
  | f + 1,i,h1,h2 => by
    unfold M.pways_l1 M.pways_l1_step
    rw [cLt_nat]
    by_cases hi:i < l.length
    · rw [if_pos (by simpa using hi), if_pos (by omega)]
      have hlen:((l.take i).map growP ++ l.drop i).length = l.length := by simp; omega
      refine Eq.trans (grow_all _ _ (List.getD l (Int.toNat (i:Int)) (0,0,0)) (by omega)) ?_
      rw [if_pos (by rw [hlen]; omega),w_next (by omega),toNat_nat]
      rw [drop_pt l i hi,set_mid _ _ _ _ i (by simp; omega)]
      have e:(l.take i).map growP ++ ((growP (l.getD i (0,0,0))).1,(growP (l.getD i (0,0,0))).2.1,(growP (l.getD i (0,0,0))).2.2) :: l.drop (i + 1) = (l.take (i + 1)).map growP ++ l.drop (i + 1) := by
        rw [List.take_add_one,List.map_append,List.append_assoc]
        simp [List.getD_eq_getElem?_getD,hi]
      rw [e]
      exact pways_l1_val l hl k1 f (i + 1) (by omega) (by omega)
    · have : i = l.length := by omega
      subst this
      rw [if_neg (by simp)]
      simp
/-- A point, made finer. -/
def scP (p:P3) (n:Int):V.T3 := (IntKind.wrap .i64 (p.1 * n),IntKind.wrap .i64 (p.2.1 * n),IntKind.wrap .i64 (p.2.2 * n))
def tdP (v:V.T3) (n:Int):P3 := (IntKind.wrap .i64 (Int.tdiv v.1 n),IntKind.wrap .i64 (Int.tdiv v.2.1 n),IntKind.wrap .i64 (Int.tdiv v.2.2 n))
noncomputable def wayS (m:V.T9) (g:P3):P3 := V.pShort (tdP (V.q3 (V.tTurn m (scP g 4096))) 4096)
/-- The way through grown directions: whether all may be, the flag, what has come. -/
noncomputable def wayRun (m:V.T9):List P3 → Bool → List P3 → Bool × Bool × List P3
  | [],f,a => (true,f,a)
  | g :: G,f,a => if Sm g 1048576 then wayRun m G (V.on (V.tTurn m (scP g 4096)) f) (if wayS m g = (0,0,0) then a else a ++ [wayS m g]) else (false,f,a)
theorem pways_l2_val {α:Type} (m:V.T9) (G:List P3) (hG:G.length < 1099511627776) (k0 k2:Bool → List P3 → Option α):∀ (fuel i:Nat) (f:Bool) (a:List P3),i ≤ G.length → G.length - i < fuel → a.length ≤ i →
    M.pways_l2 (G.length:Int) m.1.1 m.1.2.1 m.1.2.2 m.2.1.1 m.2.1.2.1 m.2.1.2.2 m.2.2.1 m.2.2.2.1 m.2.2.2.2 4096 G k0 k2 fuel (i:Int) f a =
      if (wayRun m (G.drop i) f a).1 = true then k2 (wayRun m (G.drop i) f a).2.1 (wayRun m (G.drop i) f a).2.2 else k0 (wayRun m (G.drop i) f a).2.1 (wayRun m (G.drop i) f a).2.2
  | 0,i,f,a,h1,h2,h3 => by omega
  | n + 1,i,f,a,h1,h2,h3 => by
    unfold M.pways_l2 M.pways_l2_step
    simp only
    rw [cLt_nat]
    by_cases hi:i < G.length
    · rw [if_pos (by simpa using hi), if_pos (by omega), within_dec _ _ _ _ (by omega), drop_pt G i hi, toNat_nat]
      show (if (!decide (Sm (pt G i) 1048576)) = true then k0 f a else _) = _
      by_cases hs:Sm (pt G i) 1048576
      · rw [if_neg (by simpa using hs)]
        have ew:wayRun m (pt G i :: G.drop (i + 1)) f a = wayRun m (G.drop (i + 1)) (V.on (V.tTurn m (scP (pt G i) 4096)) f) (if wayS m (pt G i) = (0,0,0) then a else a ++ [wayS m (pt G i)]) := by
          show (if Sm (pt G i) 1048576 then _ else _) = _
          rw [if_pos hs]
        rw [ew]
        show (if (!(cEq (wayS m (pt G i)).1 (0:Int) && (cEq (wayS m (pt G i)).2.1 (0:Int) && (cEq (wayS m (pt G i)).2.2 (0:Int) && true)))) = true then _ else _) = _
        rw [show (cEq (wayS m (pt G i)).1 (0:Int) && (cEq (wayS m (pt G i)).2.1 (0:Int) && (cEq (wayS m (pt G i)).2.2 (0:Int) && true))) = decide (wayS m (pt G i) = (0,0,0)) from eq3 _ _ _ (0,0,0),w_next (by omega)]
        by_cases h0:wayS m (pt G i) = (0,0,0)
        · rw [if_neg (by simpa using h0), if_pos h0]
          exact pways_l2_val m G hG k0 k2 n (i + 1) _ _ (by omega) (by omega) (by omega)
        · rw [if_pos (by simpa using h0), if_neg h0, if_pos (by omega)]
          exact pways_l2_val m G hG k0 k2 n (i + 1) _ _ (by omega) (by omega) (by rw [List.length_append,List.length_singleton]; omega)
      · rw [if_pos (by simpa using hs)]
        have ew:wayRun m (pt G i :: G.drop (i + 1)) f a = (false,f,a) := by
          show (if Sm (pt G i) 1048576 then _ else _) = _
          rw [if_neg hs]
        rw [ew]; rfl
    · have : i = G.length := by omega
      subst this
      rw [if_neg (by simp)]
      simp [wayRun]
noncomputable def _root_.Go.Proofs.Ytlagndfhibkjpaa.V.wy (bad:Bool) (m:V.T9) (l:List P3):Bool × Bool × List P3 := hid (wayRun m (l.map growP) bad [])
theorem pways_v {α:Type} (bad:Bool) (m0 m1 m2 m3 m4 m5 m6 m7 m8:Int) (l:List P3) (hg:V.lenB l.length = true) (k0:Bool → Option α) (k1:Nat → Bool → List P3 → Option α) :
    M.pways bad m0 m1 m2 m3 m4 m5 m6 m7 m8 l k0 k1 = if (V.wy bad ((m0,m1,m2),(m3,m4,m5),(m6,m7,m8)) l).1 = true then k1 (V.wy bad ((m0,m1,m2),(m3,m4,m5),(m6,m7,m8)) l).2.2.length (V.wy bad ((m0,m1,m2),(m3,m4,m5),(m6,m7,m8)) l).2.1 (V.wy bad ((m0,m1,m2),(m3,m4,m5),(m6,m7,m8)) l).2.2 else k0 (V.wy bad ((m0,m1,m2),(m3,m4,m5),(m6,m7,m8)) l).2.1 := by
  have hl := lenB_lt hg
  unfold M.pways V.wy
  rw [if_pos hg,hid_eq]
  have h1 := pways_l1_val l hl (fun (x167:List P3) ↦ M.pways_l2 (↑(List.length x167):Int) m0 m1 m2 m3 m4 m5 m6 m7 m8 (4096:Int) x167 (fun (x168:Bool) (x169:List P3) ↦ k0 x168) (fun (x170:Bool) (x171:List P3) ↦ if (↑(List.length x171):Int) = (↑(List.length x171):Int) ∧ (↑(List.length x171):Int) = (↑(List.length x171):Int) then k1 (List.length x171) x170 x171 else none) ((100:Nat) + List.length x167) (0:Int) bad []) (100 + l.length + 0 + 0 + l.length) 0 (by omega) (by omega)
  refine Eq.trans h1 ?_
  have h2 := pways_l2_val ((m0,m1,m2),(m3,m4,m5),(m6,m7,m8)) (l.map growP) (by rw [List.length_map]; exact hl) (fun (x168:Bool) (x169:List P3) ↦ k0 x168) (fun (x170:Bool) (x171:List P3) ↦ if (↑(List.length x171):Int) = (↑(List.length x171):Int) ∧ (↑(List.length x171):Int) = (↑(List.length x171):Int) then k1 (List.length x171) x170 x171 else none) (100 + (l.map growP).length) 0 bad [] (by omega) (by omega) (by simp)
  refine Eq.trans h2 ?_
  simp only [List.drop_zero,and_self,if_true]
noncomputable def pways_h {α:Type} (ds:List D) (Q:SV → Hp → Option α):Option α :=
  dB ds fun bad ds => dI ds fun m0 ds => dI ds fun m1 ds => dI ds fun m2 ds => dI ds fun m3 ds => dI ds fun m4 ds => dI ds fun m5 ds => dI ds fun m6 ds => dI ds fun m7 ds => dI ds fun m8 ds => dL kP ds fun l ds => dE ds (if V.lenB l.length = true then if (V.wy bad ((m0,m1,m2),(m3,m4,m5),(m6,m7,m8)) l).1 = true then Q (.tup [.clp 1 (.st (.i .i64) [.i .i64,.i .i64]) (V.wy bad ((m0,m1,m2),(m3,m4,m5),(m6,m7,m8)) l).2.2.length,.bool true]) ([.cells [.bool (V.wy bad ((m0,m1,m2),(m3,m4,m5),(m6,m7,m8)) l).2.1] 66,.seq (.st (.i .i64) [.i .i64,.i .i64]) (V.wy bad ((m0,m1,m2),(m3,m4,m5),(m6,m7,m8)) l).2.2 23]) else Q (.tup [.sl 1,.bool false]) ([.cells [.bool (V.wy bad ((m0,m1,m2),(m3,m4,m5),(m6,m7,m8)) l).2.1] 66,.seq (.st (.i .i64) [.i .i64,.i .i64]) [] 23]) else none)
theorem pways_h_ok {α:Type}:FnOk E.P 38 (fEnt (α := α) pways_sp pways_h) :=
  fEntR_ok E (look_pmoved_ok) (exec_sound E E_ok (look_pmoved_ok) (pways_l2_lps_ok) 400) fun ds Q r h => by
    unfold pways_h at h
    obtain ⟨bad,ds,rfl,h1⟩ := dB_inv h
    obtain ⟨m0,ds,rfl,h2⟩ := dI_inv h1
    obtain ⟨m1,ds,rfl,h3⟩ := dI_inv h2
    obtain ⟨m2,ds,rfl,h4⟩ := dI_inv h3
    obtain ⟨m3,ds,rfl,h5⟩ := dI_inv h4
    obtain ⟨m4,ds,rfl,h6⟩ := dI_inv h5
    obtain ⟨m5,ds,rfl,h7⟩ := dI_inv h6
    obtain ⟨m6,ds,rfl,h8⟩ := dI_inv h7
    obtain ⟨m7,ds,rfl,h9⟩ := dI_inv h8
    obtain ⟨m8,ds,rfl,h10⟩ := dI_inv h9
    obtain ⟨l,ds,rfl,h11⟩ := dL_inv h10
    obtain ⟨rfl,hE⟩ := dE_inv h11
    split at hE
    · rename_i hg
      split at hE
      · rename_i hc
        exact ⟨_,_,hE,fun vs => ⟨_,_,by kernel_rfl,(pways_eq bad m0 m1 m2 m3 m4 m5 m6 m7 m8 l (vs.tail.tail.headD undef) _).trans ((pways_v bad m0 m1 m2 m3 m4 m5 m6 m7 m8 l hg _ _).trans (if_pos hc))⟩⟩
      · rename_i hc
        exact ⟨_,_,hE,fun vs => ⟨_,_,by kernel_rfl,(pways_eq bad m0 m1 m2 m3 m4 m5 m6 m7 m8 l (vs.tail.tail.headD undef) _).trans ((pways_v bad m0 m1 m2 m3 m4 m5 m6 m7 m8 l hg _ _).trans (if_neg hc))⟩⟩
    · cases hE
noncomputable def look_pways {α:Type}:LookF α := addFn 38 (fEnt pways_sp pways_h) look_pmoved
theorem look_pways_ok {α:Type}:LookOk E.P (look_pways (α := α)) := addFn_ok pways_h_ok (look_pmoved_ok)
end Go.Proofs.Ytlagndfhibkjpaa.Sx
end
