/- Texts of the walk, merged. -/
import Derived.Test.YtlagndfhibkjpaaMh6
import Derived.Test.YtlagndfhibkjpaaMh5
section
/- pose: directions that are turned. -/
namespace Go.Proofs.Ytlagndfhibkjpaa.Sx
open Go
set_option maxRecDepth 20000
set_option linter.unusedVariables false
set_option linter.unusedSimpArgs false
noncomputable abbrev pways_S1 (y1:Int) (y2:Value) (y3:L3) (y4 y5:Int) (y6:Bool) (y7 y8 y9 y10 y11 y12 y13 y14 y15:Int) (y16:L3) (y17:Bool) (y18 y19:L3) (y20 y21 y22:Int):St := St.mk (some (SV.ptr (nat_lit 0) (nat_lit 0)) :: nn 3 (some (SV.ptr (nat_lit 1) (nat_lit 0)) :: none :: some (SV.ptr (nat_lit 2) (nat_lit 0)) :: some (SV.ptr (nat_lit 4) (nat_lit 0)) :: some (SV.ptr (nat_lit 5) (nat_lit 0)) :: some (SV.sl (nat_lit 7)) :: some (SV.int .i64 y1) :: some (SV.ptr (nat_lit 8) (nat_lit 0)) :: nn 5 (some (SV.ros y2 kP y3) :: some (SV.int .i64 y4) :: some (SV.int .i64 y5) :: nn 54 ([])))) [.cells [SV.bool y6] (nat_lit 66),.cells [SV.int .i64 y7,SV.int .i64 y8,SV.int .i64 y9,SV.int .i64 y10,SV.int .i64 y11,SV.int .i64 y12,SV.int .i64 y13,SV.int .i64 y14,SV.int .i64 y15] (nat_lit 68),.cells [SV.sl (nat_lit 3)] (nat_lit 24),.seq kP y16 (nat_lit 23),.cells [SV.bool y17] (nat_lit 4),.cells [SV.sl (nat_lit 6)] (nat_lit 24),.seq kP y18 (nat_lit 23),.seq kP y19 (nat_lit 23),.cells [SV.int .i64 y20,SV.int .i64 y21,SV.int .i64 y22] (nat_lit 23)]
noncomputable abbrev pways_S2:St := St.mk (some (SV.ptr (nat_lit 0) (nat_lit 0)) :: nn 3 (some (SV.ptr (nat_lit 1) (nat_lit 0)) :: none :: some (SV.ptr (nat_lit 2) (nat_lit 0)) :: some (SV.ptr (nat_lit 4) (nat_lit 0)) :: some (SV.ptr (nat_lit 5) (nat_lit 0)) :: some (SV.sl (nat_lit 7)) :: some (SV.int .i64 (0:Int)) :: some (SV.ptr (nat_lit 8) (nat_lit 0)) :: nn 5 (some (SV.ros undef kP []) :: some (SV.int .i64 (0:Int)) :: some (SV.int .i64 (0:Int)) :: nn 54 ([])))) [.cells [SV.bool false] (nat_lit 66),.cells [SV.int .i64 (0:Int),SV.int .i64 (0:Int),SV.int .i64 (0:Int),SV.int .i64 (0:Int),SV.int .i64 (0:Int),SV.int .i64 (0:Int),SV.int .i64 (0:Int),SV.int .i64 (0:Int),SV.int .i64 (0:Int)] (nat_lit 68),.cells [SV.sl (nat_lit 3)] (nat_lit 24),.seq kP [] (nat_lit 23),.cells [SV.bool false] (nat_lit 4),.cells [SV.sl (nat_lit 6)] (nat_lit 24),.seq kP [] (nat_lit 23),.seq kP [] (nat_lit 23),.cells [SV.int .i64 (0:Int),SV.int .i64 (0:Int),SV.int .i64 (0:Int)] (nat_lit 23)]
noncomputable abbrev pways_S3 (y1:Value) (y2:L3) (y3 y4:Int) (y5:Bool) (y6 y7 y8 y9 y10 y11 y12 y13 y14:Int) (y15:L3) (y16:Bool) (y17 y18:L3):St := St.mk (some (SV.ptr (nat_lit 0) (nat_lit 0)) :: nn 3 (some (SV.ptr (nat_lit 1) (nat_lit 0)) :: none :: some (SV.ptr (nat_lit 2) (nat_lit 0)) :: some (SV.ptr (nat_lit 4) (nat_lit 0)) :: some (SV.ptr (nat_lit 5) (nat_lit 0)) :: some (SV.sl (nat_lit 7)) :: nn 7 (some (SV.ros y1 kP y2) :: some (SV.int .i64 y3) :: some (SV.int .i64 y4) :: nn 54 ([])))) [.cells [SV.bool y5] (nat_lit 66),.cells [SV.int .i64 y6,SV.int .i64 y7,SV.int .i64 y8,SV.int .i64 y9,SV.int .i64 y10,SV.int .i64 y11,SV.int .i64 y12,SV.int .i64 y13,SV.int .i64 y14] (nat_lit 68),.cells [SV.sl (nat_lit 3)] (nat_lit 24),.seq kP y15 (nat_lit 23),.cells [SV.bool y16] (nat_lit 4),.cells [SV.sl (nat_lit 6)] (nat_lit 24),.seq kP y17 (nat_lit 23),.seq kP y18 (nat_lit 23)]
noncomputable abbrev pways_S4 (y1:Bool) (y2 y3 y4 y5 y6 y7 y8 y9 y10:Int) (y11:L3) (y12:Bool) (y13 y14:L3):St := St.mk (some (SV.ptr (nat_lit 0) (nat_lit 0)) :: nn 3 (some (SV.ptr (nat_lit 1) (nat_lit 0)) :: none :: some (SV.ptr (nat_lit 2) (nat_lit 0)) :: some (SV.ptr (nat_lit 4) (nat_lit 0)) :: some (SV.ptr (nat_lit 5) (nat_lit 0)) :: some (SV.sl (nat_lit 7)) :: nn 64 ([]))) [.cells [SV.bool y1] (nat_lit 66),.cells [SV.int .i64 y2,SV.int .i64 y3,SV.int .i64 y4,SV.int .i64 y5,SV.int .i64 y6,SV.int .i64 y7,SV.int .i64 y8,SV.int .i64 y9,SV.int .i64 y10] (nat_lit 68),.cells [SV.sl (nat_lit 3)] (nat_lit 24),.seq kP y11 (nat_lit 23),.cells [SV.bool y12] (nat_lit 4),.cells [SV.sl (nat_lit 6)] (nat_lit 24),.seq kP y13 (nat_lit 23),.seq kP y14 (nat_lit 23)]
noncomputable abbrev pways_S5:St := St.mk (some (SV.ptr (nat_lit 0) (nat_lit 0)) :: nn 3 (some (SV.ptr (nat_lit 1) (nat_lit 0)) :: none :: some (SV.ptr (nat_lit 2) (nat_lit 0)) :: some (SV.ptr (nat_lit 4) (nat_lit 0)) :: some (SV.ptr (nat_lit 5) (nat_lit 0)) :: some (SV.sl (nat_lit 7)) :: nn 7 (some (SV.ros undef kP []) :: some (SV.int .i64 (0:Int)) :: some (SV.int .i64 (0:Int)) :: nn 54 ([])))) [.cells [SV.bool false] (nat_lit 66),.cells [SV.int .i64 (0:Int),SV.int .i64 (0:Int),SV.int .i64 (0:Int),SV.int .i64 (0:Int),SV.int .i64 (0:Int),SV.int .i64 (0:Int),SV.int .i64 (0:Int),SV.int .i64 (0:Int),SV.int .i64 (0:Int)] (nat_lit 68),.cells [SV.sl (nat_lit 3)] (nat_lit 24),.seq kP [] (nat_lit 23),.cells [SV.bool false] (nat_lit 4),.cells [SV.sl (nat_lit 6)] (nat_lit 24),.seq kP [] (nat_lit 23),.seq kP [] (nat_lit 23)]
noncomputable abbrev pways_S6 (y1 y2:Int) (y3 y4:Bool) (y5 y6 y7 y8 y9 y10 y11 y12 y13 y14:Int) (y15 y16 y17:L3):St := St.mk (some (SV.yld (nat_lit 11)) :: none :: some (SV.ptr (nat_lit 8) (nat_lit 0)) :: some (SV.ptr (nat_lit 9) (nat_lit 0)) :: some (SV.ptr (nat_lit 10) (nat_lit 0)) :: nn 3 (some (SV.sl (nat_lit 14)) :: some (SV.int .i64 y1) :: some (SV.int .i64 y2) :: nn 29 ([]))) [.cells [SV.bool y3] (nat_lit 66),.cells [SV.sl (nat_lit 12)] (nat_lit 24),SObj.dead,.cells [SV.bool y4] (nat_lit 4),.cells [SV.sl (nat_lit 13)] (nat_lit 24),SObj.dead,.cells [SV.sl (nat_lit 14)] (nat_lit 24),SObj.dead,.cells [SV.ptr (nat_lit 0) (nat_lit 0)] (nat_lit 70),.cells [SV.int .i64 y5,SV.int .i64 y6,SV.int .i64 y7,SV.int .i64 y8,SV.int .i64 y9,SV.int .i64 y10,SV.int .i64 y11,SV.int .i64 y12,SV.int .i64 y13] (nat_lit 68),.cells [SV.int .i64 y14] (nat_lit 3),SObj.lp (nat_lit 38) [false,true,false,true,true,true,true] [none,none,none,none,none,none,some (SV.ptr (nat_lit 1) (nat_lit 0)),some (SV.ptr (nat_lit 3) (nat_lit 0)),some (SV.ptr (nat_lit 4) (nat_lit 0)),none,none,none,none,none,none,none,none,none,none,none,none,none,none,none,none,none,none,none,none,none,none,none,none,none,none,none,none,none,none,none,none,none,none,none,none,none,none,none,none,some (SV.fn (nat_lit 63) [] [SV.ptr (nat_lit 6) (nat_lit 0),SV.ptr (nat_lit 8) (nat_lit 0),SV.ptr (nat_lit 9) (nat_lit 0),SV.ptr (nat_lit 10) (nat_lit 0)]),none,none,none,none,none,none,none,none,none,none,none,none,none,none,none,none,none,none,none,none,none,none,none,none] LSt.ready,.seq kP y15 (nat_lit 23),.seq kP y16 (nat_lit 23),.seq kP y17 (nat_lit 23)]
noncomputable abbrev pways_S7 (y1:Bool) (y2 y3 y4 y5 y6 y7 y8 y9 y10 y11:Int) (y12 y13:L3):St := St.mk (nn 40 ([])) [.cells [SV.bool y1] (nat_lit 66),.cells [SV.sl (nat_lit 12)] (nat_lit 24),SObj.dead,.cells [SV.bool false] (nat_lit 4),.cells [SV.sl (nat_lit 13)] (nat_lit 24),SObj.dead,.cells [SV.sl (nat_lit 14)] (nat_lit 24),SObj.dead,.cells [SV.ptr (nat_lit 0) (nat_lit 0)] (nat_lit 70),.cells [SV.int .i64 y2,SV.int .i64 y3,SV.int .i64 y4,SV.int .i64 y5,SV.int .i64 y6,SV.int .i64 y7,SV.int .i64 y8,SV.int .i64 y9,SV.int .i64 y10] (nat_lit 68),.cells [SV.int .i64 y11] (nat_lit 3),SObj.lp (nat_lit 38) [false,true,false,true,true,true,true] [none,none,none,none,none,none,some (SV.ptr (nat_lit 1) (nat_lit 0)),some (SV.ptr (nat_lit 3) (nat_lit 0)),some (SV.ptr (nat_lit 4) (nat_lit 0)),none,none,none,none,none,none,none,none,none,none,none,none,none,none,none,none,none,none,none,none,none,none,none,none,none,none,none,none,none,none,none,none,none,none,none,none,none,none,none,none,some (SV.fn (nat_lit 63) [] [SV.ptr (nat_lit 6) (nat_lit 0),SV.ptr (nat_lit 8) (nat_lit 0),SV.ptr (nat_lit 9) (nat_lit 0),SV.ptr (nat_lit 10) (nat_lit 0)]),none,none,none,none,none,none,none,none,none,none,none,none,none,none,none,none,none,none,none,none,none,none,none,none] (LSt.done Ex.ret),.seq kP [] (nat_lit 23),.seq kP y12 (nat_lit 23),.seq kP y13 (nat_lit 23)]
noncomputable abbrev pways_S8 (y1 y2:Bool) (y3 y4 y5 y6 y7 y8 y9 y10 y11 y12:Int) (y13 y14 y15:L3):St := St.mk (nn 40 ([])) [.cells [SV.bool y1] (nat_lit 66),.cells [SV.sl (nat_lit 12)] (nat_lit 24),SObj.dead,.cells [SV.bool y2] (nat_lit 4),.cells [SV.sl (nat_lit 13)] (nat_lit 24),SObj.dead,.cells [SV.sl (nat_lit 14)] (nat_lit 24),SObj.dead,.cells [SV.ptr (nat_lit 0) (nat_lit 0)] (nat_lit 70),.cells [SV.int .i64 y3,SV.int .i64 y4,SV.int .i64 y5,SV.int .i64 y6,SV.int .i64 y7,SV.int .i64 y8,SV.int .i64 y9,SV.int .i64 y10,SV.int .i64 y11] (nat_lit 68),.cells [SV.int .i64 y12] (nat_lit 3),SObj.lp (nat_lit 38) [false,true,false,true,true,true,true] [none,none,none,none,none,none,some (SV.ptr (nat_lit 1) (nat_lit 0)),some (SV.ptr (nat_lit 3) (nat_lit 0)),some (SV.ptr (nat_lit 4) (nat_lit 0)),none,none,none,none,none,none,none,none,none,none,none,none,none,none,none,none,none,none,none,none,none,none,none,none,none,none,none,none,none,none,none,none,none,none,none,none,none,none,none,none,some (SV.fn (nat_lit 63) [] [SV.ptr (nat_lit 6) (nat_lit 0),SV.ptr (nat_lit 8) (nat_lit 0),SV.ptr (nat_lit 9) (nat_lit 0),SV.ptr (nat_lit 10) (nat_lit 0)]),none,none,none,none,none,none,none,none,none,none,none,none,none,none,none,none,none,none,none,none,none,none,none,none] LSt.ready,.seq kP y13 (nat_lit 23),.seq kP y14 (nat_lit 23),.seq kP y15 (nat_lit 23)]
noncomputable abbrev pways_S9:St := St.mk (some (SV.yld (nat_lit 11)) :: none :: some (SV.ptr (nat_lit 8) (nat_lit 0)) :: some (SV.ptr (nat_lit 9) (nat_lit 0)) :: some (SV.ptr (nat_lit 10) (nat_lit 0)) :: nn 3 (some (SV.sl (nat_lit 14)) :: some (SV.int .i64 (0:Int)) :: some (SV.int .i64 (0:Int)) :: nn 29 ([]))) [.cells [SV.bool false] (nat_lit 66),.cells [SV.sl (nat_lit 12)] (nat_lit 24),SObj.dead,.cells [SV.bool false] (nat_lit 4),.cells [SV.sl (nat_lit 13)] (nat_lit 24),SObj.dead,.cells [SV.sl (nat_lit 14)] (nat_lit 24),SObj.dead,.cells [SV.ptr (nat_lit 0) (nat_lit 0)] (nat_lit 70),.cells [SV.int .i64 (0:Int),SV.int .i64 (0:Int),SV.int .i64 (0:Int),SV.int .i64 (0:Int),SV.int .i64 (0:Int),SV.int .i64 (0:Int),SV.int .i64 (0:Int),SV.int .i64 (0:Int),SV.int .i64 (0:Int)] (nat_lit 68),.cells [SV.int .i64 (0:Int)] (nat_lit 3),SObj.lp (nat_lit 38) [false,true,false,true,true,true,true] [none,none,none,none,none,none,some (SV.ptr (nat_lit 1) (nat_lit 0)),some (SV.ptr (nat_lit 3) (nat_lit 0)),some (SV.ptr (nat_lit 4) (nat_lit 0)),none,none,none,none,none,none,none,none,none,none,none,none,none,none,none,none,none,none,none,none,none,none,none,none,none,none,none,none,none,none,none,none,none,none,none,none,none,none,none,none,some (SV.fn (nat_lit 63) [] [SV.ptr (nat_lit 6) (nat_lit 0),SV.ptr (nat_lit 8) (nat_lit 0),SV.ptr (nat_lit 9) (nat_lit 0),SV.ptr (nat_lit 10) (nat_lit 0)]),none,none,none,none,none,none,none,none,none,none,none,none,none,none,none,none,none,none,none,none,none,none,none,none] LSt.ready,.seq kP [] (nat_lit 23),.seq kP [] (nat_lit 23),.seq kP [] (nat_lit 23)]
abbrev pways_P1:List Bool := [false,false,true,false,false,true,true,false,false,true,false,true,true,true]
abbrev pways_P2:List Bool := [false,true,false,true,true,true]
noncomputable def _root_.Go.Proofs.Ytlagndfhibkjpaa.M.pways_l0_step {α:Type} (kn:Int → Int → Int → Option α) (k1:Int → Int → Int → Option α) (x78 x79 x80:Int):Option α := if (!(cEq x78 (0:Int) && (cEq x79 (0:Int) && (cEq x80 (0:Int) && true)))) = true then if V.pwithin_r0 x78 x79 x80 (524288:Int) = true then kn (IntKind.wrap .i64 ((2:Int) * x78)) (IntKind.wrap .i64 ((2:Int) * x79)) (IntKind.wrap .i64 ((2:Int) * x80)) else k1 x78 x79 x80 else k1 x78 x79 x80
noncomputable def _root_.Go.Proofs.Ytlagndfhibkjpaa.M.pways_l0 {α:Type} (k1:Int → Int → Int → Option α):Nat → Int → Int → Int → Option α
  | 0,_,_,_ => none
  | n + 1,x78,x79,x80 => M.pways_l0_step (M.pways_l0 k1 n) k1 x78 x79 x80
theorem pways_l0_step_eq {α:Type} (x59:Int) (x60:Value) (x61:L3) (x62 x63:Int) (x64:Bool) (x65 x66 x67 x68 x69 x70 x71 x72 x73:Int) (x74:L3) (x75:Bool) (x76 x77:L3) (x78 x79 x80:Int) (Q:Ex → St → Option α):(loopStep E (exec E look_pmoved noLps 400) 38 pways_P1 1 (codeAt E.P 38 pways_P1)) (pways_S1 x59 x60 x61 x62 x63 x64 x65 x66 x67 x68 x69 x70 x71 x72 x73 x74 x75 x76 x77 x78 x79 x80) Q = M.pways_l0_step (fun (x84 x85 x86:Int) => Q .normal (pways_S1 x59 x60 x61 x62 x63 x64 x65 x66 x67 x68 x69 x70 x71 x72 x73 x74 x75 x76 x77 x84 x85 x86)) (fun (x81 x82 x83:Int) => Q (.exit 2) (pways_S1 x59 x60 x61 x62 x63 x64 x65 x66 x67 x68 x69 x70 x71 x72 x73 x74 x75 x76 x77 x81 x82 x83)) x78 x79 x80 := by kernel_rfl
theorem pways_l0_iter {α:Type} (x59:Int) (x60:Value) (x61:L3) (x62 x63:Int) (x64:Bool) (x65 x66 x67 x68 x69 x70 x71 x72 x73:Int) (x74:L3) (x75:Bool) (x76 x77:L3) (Q:Ex → St → Option α):∀ (n:Nat) (x78 x79 x80:Int),iter (loopStep E (exec E look_pmoved noLps 400) 38 pways_P1 1 (codeAt E.P 38 pways_P1)) n (pways_S1 x59 x60 x61 x62 x63 x64 x65 x66 x67 x68 x69 x70 x71 x72 x73 x74 x75 x76 x77 x78 x79 x80) Q = M.pways_l0 (fun (x81 x82 x83:Int) => Q (.exit 2) (pways_S1 x59 x60 x61 x62 x63 x64 x65 x66 x67 x68 x69 x70 x71 x72 x73 x74 x75 x76 x77 x81 x82 x83)) n x78 x79 x80
  | 0,_,_,_ => rfl
  | n + 1,x78,x79,x80 => (pways_l0_step_eq x59 x60 x61 x62 x63 x64 x65 x66 x67 x68 x69 x70 x71 x72 x73 x74 x75 x76 x77 x78 x79 x80 (iterK (loopStep E (exec E look_pmoved noLps 400) 38 pways_P1 1 (codeAt E.P 38 pways_P1)) n Q)).trans (congrArg (fun kn => M.pways_l0_step kn (fun (x81 x82 x83:Int) => Q (.exit 2) (pways_S1 x59 x60 x61 x62 x63 x64 x65 x66 x67 x68 x69 x70 x71 x72 x73 x74 x75 x76 x77 x81 x82 x83)) x78 x79 x80) (funext fun x78 => funext fun x79 => funext fun x80 => pways_l0_iter x59 x60 x61 x62 x63 x64 x65 x66 x67 x68 x69 x70 x71 x72 x73 x74 x75 x76 x77 Q n x78 x79 x80))
noncomputable def pways_l0_go {α:Type} (ds:List D) (Q:Ex → St → Option α):Option α :=
  dI ds fun x59 ds => dV ds fun x60 ds => dL kP ds fun x61 ds => dI ds fun x62 ds => dI ds fun x63 ds => dB ds fun x64 ds => dI ds fun x65 ds => dI ds fun x66 ds => dI ds fun x67 ds => dI ds fun x68 ds => dI ds fun x69 ds => dI ds fun x70 ds => dI ds fun x71 ds => dI ds fun x72 ds => dI ds fun x73 ds => dL kP ds fun x74 ds => dB ds fun x75 ds => dL kP ds fun x76 ds => dL kP ds fun x77 ds => dI ds fun x78 ds => dI ds fun x79 ds => dI ds fun x80 ds => dE ds (M.pways_l0 (fun (x81 x82 x83:Int) => Q (.exit 2) (pways_S1 x59 x60 x61 x62 x63 x64 x65 x66 x67 x68 x69 x70 x71 x72 x73 x74 x75 x76 x77 x81 x82 x83)) (100 + x61.length + x74.length + x76.length + x77.length) x78 x79 x80)
theorem pways_l0_ok {α:Type}:LoopOk E.P 38 pways_P1 1 (lEnt (α := α) (pways_S2) pways_l0_go) :=
  lEnt_ok E (exec_sound E E_ok (look_pmoved_ok) (noLps_ok _) 400) fun ds Q r h S hS => by
    unfold pways_l0_go at h
    obtain ⟨x59,ds,rfl,h1⟩ := dI_inv h
    obtain ⟨x60,ds,rfl,h2⟩ := dV_inv h1
    obtain ⟨x61,ds,rfl,h3⟩ := dL_inv h2
    obtain ⟨x62,ds,rfl,h4⟩ := dI_inv h3
    obtain ⟨x63,ds,rfl,h5⟩ := dI_inv h4
    obtain ⟨x64,ds,rfl,h6⟩ := dB_inv h5
    obtain ⟨x65,ds,rfl,h7⟩ := dI_inv h6
    obtain ⟨x66,ds,rfl,h8⟩ := dI_inv h7
    obtain ⟨x67,ds,rfl,h9⟩ := dI_inv h8
    obtain ⟨x68,ds,rfl,h10⟩ := dI_inv h9
    obtain ⟨x69,ds,rfl,h11⟩ := dI_inv h10
    obtain ⟨x70,ds,rfl,h12⟩ := dI_inv h11
    obtain ⟨x71,ds,rfl,h13⟩ := dI_inv h12
    obtain ⟨x72,ds,rfl,h14⟩ := dI_inv h13
    obtain ⟨x73,ds,rfl,h15⟩ := dI_inv h14
    obtain ⟨x74,ds,rfl,h16⟩ := dL_inv h15
    obtain ⟨x75,ds,rfl,h17⟩ := dB_inv h16
    obtain ⟨x76,ds,rfl,h18⟩ := dL_inv h17
    obtain ⟨x77,ds,rfl,h19⟩ := dL_inv h18
    obtain ⟨x78,ds,rfl,h20⟩ := dI_inv h19
    obtain ⟨x79,ds,rfl,h21⟩ := dI_inv h20
    obtain ⟨x80,ds,rfl,h22⟩ := dI_inv h21
    obtain ⟨rfl,hE⟩ := dE_inv h22
    have e:fillS (pways_S2) [.i x59,.v x60,.l kP x61,.i x62,.i x63,.b x64,.i x65,.i x66,.i x67,.i x68,.i x69,.i x70,.i x71,.i x72,.i x73,.l kP x74,.b x75,.l kP x76,.l kP x77,.i x78,.i x79,.i x80] = some (pways_S1 x59 x60 x61 x62 x63 x64 x65 x66 x67 x68 x69 x70 x71 x72 x73 x74 x75 x76 x77 x78 x79 x80) := by kernel_rfl
    rw [e] at hS
    cases hS
    exact ⟨_,(pways_l0_iter x59 x60 x61 x62 x63 x64 x65 x66 x67 x68 x69 x70 x71 x72 x73 x74 x75 x76 x77 Q _ x78 x79 x80).trans hE⟩
noncomputable def pways_l0_lps {α:Type}:LookL α := addLp 38 pways_P1 1 (lEnt (pways_S2) pways_l0_go) noLps
theorem pways_l0_lps_ok {α:Type}:LoopsOk E.P (pways_l0_lps (α := α)) := addLp_ok pways_l0_ok (noLps_ok _)

noncomputable def _root_.Go.Proofs.Ytlagndfhibkjpaa.M.pways_l1_step {α:Type} (x88:L3) (x89:Int) (x101 x103:L3) (kn:Int → L3 → Option α) (k1:L3 → Option α) (x90:Int) (x104:L3):Option α := if cLt x90 x89 = true then if (0:Int) ≤ x90 ∧ x90 < (↑(List.length x88):Int) then M.pways_l0 (fun (x105 x106 x107:Int) ↦ if (0:Int) ≤ x90 ∧ x90 < (↑(List.length x104):Int) then kn (IntKind.wrap .i64 (x90 + (1:Int))) (List.set x104 (Int.toNat x90) (x105,x106,x107)) else none) ((100:Nat) + List.length x88 + List.length x101 + List.length x103 + List.length x104) (Prod.fst (List.getD x88 (Int.toNat x90) ((0:Int),(0:Int),(0:Int)))) (Prod.fst (Prod.snd (List.getD x88 (Int.toNat x90) ((0:Int),(0:Int),(0:Int))))) (Prod.snd (Prod.snd (List.getD x88 (Int.toNat x90) ((0:Int),(0:Int),(0:Int))))) else none else k1 x104
noncomputable def _root_.Go.Proofs.Ytlagndfhibkjpaa.M.pways_l1 {α:Type} (x88:L3) (x89:Int) (x101 x103:L3) (k1:L3 → Option α):Nat → Int → L3 → Option α
  | 0,_,_ => none
  | n + 1,x90,x104 => M.pways_l1_step x88 x89 x101 x103 (M.pways_l1 x88 x89 x101 x103 k1 n) k1 x90 x104
theorem pways_l1_step_eq {α:Type} (x87:Value) (x88:L3) (x89 x90:Int) (x91:Bool) (x92 x93 x94 x95 x96 x97 x98 x99 x100:Int) (x101:L3) (x102:Bool) (x103 x104:L3) (Q:Ex → St → Option α):(loopStep E (exec E look_pmoved pways_l0_lps 400) 38 pways_P2 1 (codeAt E.P 38 pways_P2)) (pways_S3 x87 x88 x89 x90 x91 x92 x93 x94 x95 x96 x97 x98 x99 x100 x101 x102 x103 x104) Q = M.pways_l1_step x88 x89 x101 x103 (fun (x109:Int) (x110:L3) => Q .normal (pways_S3 x87 x88 x89 x109 x91 x92 x93 x94 x95 x96 x97 x98 x99 x100 x101 x102 x103 x110)) (fun (x108:L3) => Q (.exit 0) (pways_S4 x91 x92 x93 x94 x95 x96 x97 x98 x99 x100 x101 x102 x103 x108)) x90 x104 := by kernel_rfl
theorem pways_l1_iter {α:Type} (x87:Value) (x88:L3) (x89:Int) (x91:Bool) (x92 x93 x94 x95 x96 x97 x98 x99 x100:Int) (x101:L3) (x102:Bool) (x103:L3) (Q:Ex → St → Option α):∀ (n:Nat) (x90:Int) (x104:L3),iter (loopStep E (exec E look_pmoved pways_l0_lps 400) 38 pways_P2 1 (codeAt E.P 38 pways_P2)) n (pways_S3 x87 x88 x89 x90 x91 x92 x93 x94 x95 x96 x97 x98 x99 x100 x101 x102 x103 x104) Q = M.pways_l1 x88 x89 x101 x103 (fun (x108:L3) => Q (.exit 0) (pways_S4 x91 x92 x93 x94 x95 x96 x97 x98 x99 x100 x101 x102 x103 x108)) n x90 x104
  | 0,_,_ => rfl
  | n + 1,x90,x104 => (pways_l1_step_eq x87 x88 x89 x90 x91 x92 x93 x94 x95 x96 x97 x98 x99 x100 x101 x102 x103 x104 (iterK (loopStep E (exec E look_pmoved pways_l0_lps 400) 38 pways_P2 1 (codeAt E.P 38 pways_P2)) n Q)).trans (congrArg (fun kn => M.pways_l1_step x88 x89 x101 x103 kn (fun (x108:L3) => Q (.exit 0) (pways_S4 x91 x92 x93 x94 x95 x96 x97 x98 x99 x100 x101 x102 x103 x108)) x90 x104) (funext fun x90 => funext fun x104 => pways_l1_iter x87 x88 x89 x91 x92 x93 x94 x95 x96 x97 x98 x99 x100 x101 x102 x103 Q n x90 x104))
noncomputable def pways_l1_go {α:Type} (ds:List D) (Q:Ex → St → Option α):Option α :=
  dV ds fun x87 ds => dL kP ds fun x88 ds => dI ds fun x89 ds => dI ds fun x90 ds => dB ds fun x91 ds => dI ds fun x92 ds => dI ds fun x93 ds => dI ds fun x94 ds => dI ds fun x95 ds => dI ds fun x96 ds => dI ds fun x97 ds => dI ds fun x98 ds => dI ds fun x99 ds => dI ds fun x100 ds => dL kP ds fun x101 ds => dB ds fun x102 ds => dL kP ds fun x103 ds => dL kP ds fun x104 ds => dE ds (M.pways_l1 x88 x89 x101 x103 (fun (x108:L3) => Q (.exit 0) (pways_S4 x91 x92 x93 x94 x95 x96 x97 x98 x99 x100 x101 x102 x103 x108)) (100 + x88.length + x101.length + x103.length + x104.length) x90 x104)
theorem pways_l1_ok {α:Type}:LoopOk E.P 38 pways_P2 1 (lEnt (α := α) (pways_S5) pways_l1_go) :=
  lEnt_ok E (exec_sound E E_ok (look_pmoved_ok) (pways_l0_lps_ok) 400) fun ds Q r h S hS => by
    unfold pways_l1_go at h
    obtain ⟨x87,ds,rfl,h1⟩ := dV_inv h
    obtain ⟨x88,ds,rfl,h2⟩ := dL_inv h1
    obtain ⟨x89,ds,rfl,h3⟩ := dI_inv h2
    obtain ⟨x90,ds,rfl,h4⟩ := dI_inv h3
    obtain ⟨x91,ds,rfl,h5⟩ := dB_inv h4
    obtain ⟨x92,ds,rfl,h6⟩ := dI_inv h5
    obtain ⟨x93,ds,rfl,h7⟩ := dI_inv h6
    obtain ⟨x94,ds,rfl,h8⟩ := dI_inv h7
    obtain ⟨x95,ds,rfl,h9⟩ := dI_inv h8
    obtain ⟨x96,ds,rfl,h10⟩ := dI_inv h9
    obtain ⟨x97,ds,rfl,h11⟩ := dI_inv h10
    obtain ⟨x98,ds,rfl,h12⟩ := dI_inv h11
    obtain ⟨x99,ds,rfl,h13⟩ := dI_inv h12
    obtain ⟨x100,ds,rfl,h14⟩ := dI_inv h13
    obtain ⟨x101,ds,rfl,h15⟩ := dL_inv h14
    obtain ⟨x102,ds,rfl,h16⟩ := dB_inv h15
    obtain ⟨x103,ds,rfl,h17⟩ := dL_inv h16
    obtain ⟨x104,ds,rfl,h18⟩ := dL_inv h17
    obtain ⟨rfl,hE⟩ := dE_inv h18
    have e:fillS (pways_S5) [.v x87,.l kP x88,.i x89,.i x90,.b x91,.i x92,.i x93,.i x94,.i x95,.i x96,.i x97,.i x98,.i x99,.i x100,.l kP x101,.b x102,.l kP x103,.l kP x104] = some (pways_S3 x87 x88 x89 x90 x91 x92 x93 x94 x95 x96 x97 x98 x99 x100 x101 x102 x103 x104) := by kernel_rfl
    rw [e] at hS
    cases hS
    exact ⟨_,(pways_l1_iter x87 x88 x89 x91 x92 x93 x94 x95 x96 x97 x98 x99 x100 x101 x102 x103 Q _ x90 x104).trans hE⟩
noncomputable def pways_l1_lps {α:Type}:LookL α := addLp 38 pways_P2 1 (lEnt (pways_S5) pways_l1_go) pways_l0_lps
theorem pways_l1_lps_ok {α:Type}:LoopsOk E.P (pways_l1_lps (α := α)) := addLp_ok pways_l1_ok (pways_l0_lps_ok)

noncomputable def _root_.Go.Proofs.Ytlagndfhibkjpaa.M.pways_l2_step {α:Type} (x130 x134 x135 x136 x137 x138 x139 x140 x141 x142 x143:Int) (x146:L3) (kn:Int → Bool → L3 → Option α) (k0:Bool → L3 → Option α) (k2:Bool → L3 → Option α) (x131:Int) (x132:Bool) (x145:L3):Option α := let s147:Int := (↑(List.length x146):Int); let s148:K.T kP := List.getD x146 (Int.toNat x131) ((0:Int),(0:Int),(0:Int)); let s149:RT (LK.i IntKind.i64) [LK.i IntKind.i64] := Prod.snd s148; let s150:LK.T (LK.i IntKind.i64) := Prod.fst s148; let s151:RT (LK.i IntKind.i64) [] := Prod.snd s149; let s152:LK.T (LK.i IntKind.i64) := Prod.fst s149; let s153:Bool := !V.pwithin_r0 s150 s152 s151 (1048576:Int); let s154:Option V.T3 := V.tTurn ((x134,x135,x136),(x137,x138,x139),x140,x141,x142) (IntKind.wrap .i64 (s150 * x143),IntKind.wrap .i64 (s152 * x143),IntKind.wrap .i64 (s151 * x143)); let s155:P3 := V.pShort (IntKind.wrap .i64 (Int.tdiv (V.x3 s154) (4096:Int)),IntKind.wrap .i64 (Int.tdiv (V.y3 s154) (4096:Int)),IntKind.wrap .i64 (Int.tdiv (V.z3 s154) (4096:Int))); let s156:Int × Int := Prod.snd s155; let s157:List (K.T kP) := [s155]; let s158:Bool := !(cEq (Prod.fst s155) (0:Int) && (cEq (Prod.fst s156) (0:Int) && (cEq (Prod.snd s156) (0:Int) && true))); if cLt x131 x130 = true then if (0:Int) ≤ x131 ∧ x131 < s147 then if s153 = true then k0 x132 x145 else if s158 = true then if (List.length x145 + ((0:Nat) + (1:Nat))) * (24:Nat) ≤ (140737488355328:Nat) then kn (IntKind.wrap .i64 (x131 + (1:Int))) (V.on s154 x132) (x145 ++ s157) else none else kn (IntKind.wrap .i64 (x131 + (1:Int))) (V.on s154 x132) x145 else none else k2 x132 x145
noncomputable def _root_.Go.Proofs.Ytlagndfhibkjpaa.M.pways_l2 {α:Type} (x130 x134 x135 x136 x137 x138 x139 x140 x141 x142 x143:Int) (x146:L3) (k0:Bool → L3 → Option α) (k2:Bool → L3 → Option α):Nat → Int → Bool → L3 → Option α
  | 0,_,_,_ => none
  | n + 1,x131,x132,x145 => M.pways_l2_step x130 x134 x135 x136 x137 x138 x139 x140 x141 x142 x143 x146 (M.pways_l2 x130 x134 x135 x136 x137 x138 x139 x140 x141 x142 x143 x146 k0 k2 n) k0 k2 x131 x132 x145
theorem pways_l2_step_eq {α:Type} (x130 x131:Int) (x132 x133:Bool) (x134 x135 x136 x137 x138 x139 x140 x141 x142 x143:Int) (x144 x145 x146:L3) (Q:Ex → St → Option α):(loopStep E (exec E look_pmoved pways_l1_lps 400) 63 [false,true] 12 (codeAt E.P 63 [false,true])) (pways_S6 x130 x131 x132 x133 x134 x135 x136 x137 x138 x139 x140 x141 x142 x143 x144 x145 x146) Q = M.pways_l2_step x130 x134 x135 x136 x137 x138 x139 x140 x141 x142 x143 x146 (fun (x163:Int) (x164:Bool) (x165:L3) => Q .normal (pways_S6 x130 x163 x164 x133 x134 x135 x136 x137 x138 x139 x140 x141 x142 x143 x144 x165 x146)) (fun (x159:Bool) (x160:L3) => Q .ret (pways_S7 x159 x134 x135 x136 x137 x138 x139 x140 x141 x142 x143 x160 x146)) (fun (x161:Bool) (x162:L3) => Q (.exit 0) (pways_S8 x161 x133 x134 x135 x136 x137 x138 x139 x140 x141 x142 x143 x144 x162 x146)) x131 x132 x145 := by kernel_rfl
theorem pways_l2_iter {α:Type} (x130:Int) (x133:Bool) (x134 x135 x136 x137 x138 x139 x140 x141 x142 x143:Int) (x144 x146:L3) (Q:Ex → St → Option α):∀ (n:Nat) (x131:Int) (x132:Bool) (x145:L3),iter (loopStep E (exec E look_pmoved pways_l1_lps 400) 63 [false,true] 12 (codeAt E.P 63 [false,true])) n (pways_S6 x130 x131 x132 x133 x134 x135 x136 x137 x138 x139 x140 x141 x142 x143 x144 x145 x146) Q = M.pways_l2 x130 x134 x135 x136 x137 x138 x139 x140 x141 x142 x143 x146 (fun (x159:Bool) (x160:L3) => Q .ret (pways_S7 x159 x134 x135 x136 x137 x138 x139 x140 x141 x142 x143 x160 x146)) (fun (x161:Bool) (x162:L3) => Q (.exit 0) (pways_S8 x161 x133 x134 x135 x136 x137 x138 x139 x140 x141 x142 x143 x144 x162 x146)) n x131 x132 x145
  | 0,_,_,_ => rfl
  | n + 1,x131,x132,x145 => (pways_l2_step_eq x130 x131 x132 x133 x134 x135 x136 x137 x138 x139 x140 x141 x142 x143 x144 x145 x146 (iterK (loopStep E (exec E look_pmoved pways_l1_lps 400) 63 [false,true] 12 (codeAt E.P 63 [false,true])) n Q)).trans (congrArg (fun kn => M.pways_l2_step x130 x134 x135 x136 x137 x138 x139 x140 x141 x142 x143 x146 kn (fun (x159:Bool) (x160:L3) => Q .ret (pways_S7 x159 x134 x135 x136 x137 x138 x139 x140 x141 x142 x143 x160 x146)) (fun (x161:Bool) (x162:L3) => Q (.exit 0) (pways_S8 x161 x133 x134 x135 x136 x137 x138 x139 x140 x141 x142 x143 x144 x162 x146)) x131 x132 x145) (funext fun x131 => funext fun x132 => funext fun x145 => pways_l2_iter x130 x133 x134 x135 x136 x137 x138 x139 x140 x141 x142 x143 x144 x146 Q n x131 x132 x145))
noncomputable def pways_l2_go {α:Type} (ds:List D) (Q:Ex → St → Option α):Option α :=
  dI ds fun x130 ds => dI ds fun x131 ds => dB ds fun x132 ds => dB ds fun x133 ds => dI ds fun x134 ds => dI ds fun x135 ds => dI ds fun x136 ds => dI ds fun x137 ds => dI ds fun x138 ds => dI ds fun x139 ds => dI ds fun x140 ds => dI ds fun x141 ds => dI ds fun x142 ds => dI ds fun x143 ds => dL kP ds fun x144 ds => dL kP ds fun x145 ds => dL kP ds fun x146 ds => dE ds (M.pways_l2 x130 x134 x135 x136 x137 x138 x139 x140 x141 x142 x143 x146 (fun (x159:Bool) (x160:L3) => Q .ret (pways_S7 x159 x134 x135 x136 x137 x138 x139 x140 x141 x142 x143 x160 x146)) (fun (x161:Bool) (x162:L3) => Q (.exit 0) (pways_S8 x161 x133 x134 x135 x136 x137 x138 x139 x140 x141 x142 x143 x144 x162 x146)) (100 + x144.length + x145.length + x146.length) x131 x132 x145)
theorem pways_l2_ok {α:Type}:LoopOk E.P 63 [false,true] 12 (lEnt (α := α) (pways_S9) pways_l2_go) :=
  lEnt_ok E (exec_sound E E_ok (look_pmoved_ok) (pways_l1_lps_ok) 400) fun ds Q r h S hS => by
    unfold pways_l2_go at h
    obtain ⟨x130,ds,rfl,h1⟩ := dI_inv h
    obtain ⟨x131,ds,rfl,h2⟩ := dI_inv h1
    obtain ⟨x132,ds,rfl,h3⟩ := dB_inv h2
    obtain ⟨x133,ds,rfl,h4⟩ := dB_inv h3
    obtain ⟨x134,ds,rfl,h5⟩ := dI_inv h4
    obtain ⟨x135,ds,rfl,h6⟩ := dI_inv h5
    obtain ⟨x136,ds,rfl,h7⟩ := dI_inv h6
    obtain ⟨x137,ds,rfl,h8⟩ := dI_inv h7
    obtain ⟨x138,ds,rfl,h9⟩ := dI_inv h8
    obtain ⟨x139,ds,rfl,h10⟩ := dI_inv h9
    obtain ⟨x140,ds,rfl,h11⟩ := dI_inv h10
    obtain ⟨x141,ds,rfl,h12⟩ := dI_inv h11
    obtain ⟨x142,ds,rfl,h13⟩ := dI_inv h12
    obtain ⟨x143,ds,rfl,h14⟩ := dI_inv h13
    obtain ⟨x144,ds,rfl,h15⟩ := dL_inv h14
    obtain ⟨x145,ds,rfl,h16⟩ := dL_inv h15
    obtain ⟨x146,ds,rfl,h17⟩ := dL_inv h16
    obtain ⟨rfl,hE⟩ := dE_inv h17
    have e:fillS (pways_S9) [.i x130,.i x131,.b x132,.b x133,.i x134,.i x135,.i x136,.i x137,.i x138,.i x139,.i x140,.i x141,.i x142,.i x143,.l kP x144,.l kP x145,.l kP x146] = some (pways_S6 x130 x131 x132 x133 x134 x135 x136 x137 x138 x139 x140 x141 x142 x143 x144 x145 x146) := by kernel_rfl
    rw [e] at hS
    cases hS
    exact ⟨_,(pways_l2_iter x130 x133 x134 x135 x136 x137 x138 x139 x140 x141 x142 x143 x144 x146 Q _ x131 x132 x145).trans hE⟩
noncomputable def pways_l2_lps {α:Type}:LookL α := addLp 63 [false,true] 12 (lEnt (pways_S9) pways_l2_go) pways_l1_lps
theorem pways_l2_lps_ok {α:Type}:LoopsOk E.P (pways_l2_lps (α := α)) := addLp_ok pways_l2_ok (pways_l1_lps_ok)

noncomputable def _root_.Go.Proofs.Ytlagndfhibkjpaa.M.pways {α:Type} (bad:Bool) (m0:Int) (m1:Int) (m2:Int) (m3:Int) (m4:Int) (m5:Int) (m6:Int) (m7:Int) (m8:Int) (l:L3) (k0:Bool → Option α) (k1:Nat → Bool → L3 → Option α):Option α := if V.lenB (List.length l) = true then M.pways_l1 l (↑(List.length l):Int) [] [] (fun (x167:L3) ↦ M.pways_l2 (↑(List.length x167):Int) m0 m1 m2 m3 m4 m5 m6 m7 m8 (4096:Int) x167 (fun (x168:Bool) (x169:L3) ↦ k0 x168) (fun (x170:Bool) (x171:L3) ↦ if (↑(List.length x171):Int) = (↑(List.length x171):Int) ∧ (↑(List.length x171):Int) = (↑(List.length x171):Int) then k1 (List.length x171) x170 x171 else none) ((100:Nat) + List.length x167) (0:Int) bad []) ((100:Nat) + List.length l + (0:Nat) + (0:Nat) + List.length l) (0:Int) l else none
theorem pways_eq {α:Type} (bad:Bool) (m0:Int) (m1:Int) (m2:Int) (m3:Int) (m4:Int) (m5:Int) (m6:Int) (m7:Int) (m8:Int) (l:L3) (v166:Value) (Q:SV → Hp → Option α):callI E look_pmoved (exec E look_pmoved pways_l2_lps 400) 38 ([SV.ptr (nat_lit 0) (nat_lit 0),SV.agg [SV.int .i64 m0,SV.int .i64 m1,SV.int .i64 m2,SV.int .i64 m3,SV.int .i64 m4,SV.int .i64 m5,SV.int .i64 m6,SV.int .i64 m7,SV.int .i64 m8],SV.ros v166 kP l]) ([.cells [SV.bool bad] (nat_lit 66)]) Q = M.pways bad m0 m1 m2 m3 m4 m5 m6 m7 m8 l (fun (x172:Bool) => Q (SV.tup [SV.sl (nat_lit 1),SV.bool false]) ([.cells [SV.bool x172] (nat_lit 66),.seq kP [] (nat_lit 23)])) (fun (x173:Nat) (x174:Bool) (x175:L3) => Q (SV.tup [SV.clp (nat_lit 1) kP x173,SV.bool true]) ([.cells [SV.bool x174] (nat_lit 66),.seq kP x175 (nat_lit 23)])) := by kernel_rfl
def pways_sp:List AS := [.ptr 66 [.bool false],.val (.agg [.int .i64 0,.int .i64 0,.int .i64 0,.int .i64 0,.int .i64 0,.int .i64 0,.int .i64 0,.int .i64 0,.int .i64 0]),.ro kP]
/-! Directions grown, and turned. -/
def dblP (p:P3):P3 := (IntKind.wrap .i64 (2 * p.1),IntKind.wrap .i64 (2 * p.2.1),IntKind.wrap .i64 (2 * p.2.2))
instance (p:P3) (n:Int):Decidable (Sm p n) := by unfold Sm; infer_instance
def growN:Nat → P3 → P3
  | 0,p => p
  | n + 1,p => if p = (0,0,0) then p else if Sm p 524288 then growN n (dblP p) else p
def growP (p:P3):P3 := growN 20 p
theorem mx_le (a b n:Int):(if b > a then b else a) ≤ n ↔ a ≤ n ∧ b ≤ n := by
  by_cases h:b > a
  · rw [if_pos h]; omega
  · rw [if_neg h]; omega
theorem le_mn (a b n:Int):n ≤ (if b < a then b else a) ↔ n ≤ a ∧ n ≤ b := by
  by_cases h:b < a
  · rw [if_pos h]; omega
  · rw [if_neg h]; omega
theorem within_dec (x y z n:Int) (hn:0 ≤ n ∧ n < 9223372036854775808):V.pwithin_r0 x y z n = decide (Sm (x,y,z) n) := by
  have h1 := (mx_le (if y > x then y else x) z n).trans (and_congr (mx_le x y n) Iff.rfl)
  have h2 := (le_mn (if y < x then y else x) z (0 - n)).trans (and_congr (le_mn x y (0 - n)) Iff.rfl)
  unfold V.pwithin_r0
  rw [IntWalk.i64_in (0 - n) (by omega),cLe_eq,cLe_eq]
  by_cases hs:Sm (x,y,z) n
  · have hs2 : (-n ≤ x ∧ x ≤ n) ∧ (-n ≤ y ∧ y ≤ n) ∧ (-n ≤ z ∧ z ≤ n) := hs
    rw [decide_eq_true hs,decide_eq_true (h1.mpr (by omega)),if_pos rfl,decide_eq_true (h2.mpr (by omega))]
  · rw [decide_eq_false hs]
    by_cases h:(if z > if y > x then y else x then z else if y > x then y else x) ≤ n
    · rw [decide_eq_true h, if_pos rfl]
      apply decide_eq_false
      intro h4
      apply hs
      have h5 := h1.mp h
      have h6 := h2.mp h4
      show (-n ≤ x ∧ x ≤ n) ∧ (-n ≤ y ∧ y ≤ n) ∧ (-n ≤ z ∧ z ≤ n)
      omega
    · rw [decide_eq_false h]; rfl
theorem grow_val {α:Type} (k1:Int → Int → Int → Option α):∀ (n fuel:Nat) (p:P3),(∃ c:Int,(c = p.1 ∨ c = p.2.1 ∨ c = p.2.2) ∧ (2 ^ (20 - n) ≤ c ∨ c ≤ -(2 ^ (20 - n)))) → n ≤ 20 → n < fuel →
    M.pways_l0 k1 fuel p.1 p.2.1 p.2.2 = k1 (growN n p).1 (growN n p).2.1 (growN n p).2.2
  | n,0,p,h,h1,h2 => by omega
  | n,f + 1,p,h,h1,h2 => by
    unfold M.pways_l0 M.pways_l0_step
    rw [within_dec _ _ _ _ (by omega),show (cEq p.1 (0:Int) && (cEq p.2.1 (0:Int) && (cEq p.2.2 (0:Int) && true))) = decide (p = (0,0,0)) from eq3 p.1 p.2.1 p.2.2 (0,0,0)]
    obtain ⟨c,hc,hb⟩ := h
    have hpos:(0:Int) < 2 ^ (20 - n) := Int.pow_pos (by omega)
    have hne:¬ p = (0,0,0) := by
      intro h; subst h
      simp only at hc
      rcases hc with rfl | rfl | rfl <;> omega
    rw [if_pos (by simpa using hne)]
    show (if decide (Sm p 524288) = true then _ else _) = _
    by_cases hs:Sm p 524288
    · rw [if_pos (by simpa using hs)]
      have hsm := hs
      unfold Sm at hsm
      cases n with
      | zero =>
        exfalso
        rw [show (2:Int) ^ (20 - 0) = 1048576 from by decide] at hb
        rcases hc with rfl | rfl | rfl <;> omega
      | succ n =>
        have ih := grow_val k1 n f (dblP p) (by
          have e:(2:Int) ^ (20 - n) = 2 * 2 ^ (20 - (n + 1)) := by
            rw [show 20 - n = (20 - (n + 1)) + 1 by omega,Int.pow_succ]; omega
          unfold dblP
          rw [IntWalk.i64_in (2 * p.1) (by omega),IntWalk.i64_in (2 * p.2.1) (by omega),IntWalk.i64_in (2 * p.2.2) (by omega)]
          refine ⟨2 * c,?_,?_⟩
          · rcases hc with rfl | rfl | rfl
            · exact .inl rfl
            · exact .inr (.inl rfl)
            · exact .inr (.inr rfl)
          · rw [e]; omega) (by omega) (by omega)
        have eg:growN (n + 1) p = growN n (dblP p) := by
          show (if p = (0,0,0) then p else if Sm p 524288 then growN n (dblP p) else p) = _
          rw [if_neg hne,if_pos hs]
        rw [eg]
        exact ih
    · rw [if_neg (by simpa using hs)]
      have eg:growN n p = p := by
        cases n with
        | zero => rfl
        | succ n =>
          show (if p = (0,0,0) then p else if Sm p 524288 then growN n (dblP p) else p) = _
          rw [if_neg hne,if_neg hs]
      rw [eg]
theorem grow_all {α:Type} (k1:Int → Int → Int → Option α) (fuel:Nat) (p:P3) (hf:20 < fuel):M.pways_l0 k1 fuel p.1 p.2.1 p.2.2 = k1 (growP p).1 (growP p).2.1 (growP p).2.2 := by
  by_cases h0:p = (0,0,0)
  · subst h0
    obtain ⟨f,rfl⟩:∃ f,fuel = f + 1 := ⟨fuel - 1,by omega⟩
    unfold M.pways_l0 M.pways_l0_step
    rw [if_neg (by simp [cEq_eq])]
    rfl
  · refine grow_val k1 20 fuel p ?_ (by omega) hf
    obtain ⟨a,b,c⟩ := p
    simp only [Nat.sub_self,Int.pow_zero]
    by_cases ha:a = 0
    · by_cases hb : b = 0
      · have hc : c ≠ 0 := fun hc => h0 (by rw [ha, hb, hc])
        exact ⟨c,.inr (.inr rfl),by omega⟩
      · exact ⟨b,.inr (.inl rfl),by omega⟩
    · exact ⟨a,.inl rfl,by omega⟩
theorem set_mid (A D:List P3) (d g:P3) (i:Nat) (h:A.length = i):(A ++ d :: D).set i g = A ++ g :: D := by
  subst h
  rw [List.set_append_right (h := Nat.le_refl _)]
  simp
theorem pways_l1_val {α:Type} (l:List P3) (hl:l.length < 1099511627776) (k1:List P3 → Option α):∀ (fuel i:Nat),i ≤ l.length → l.length - i < fuel →
    M.pways_l1 l (l.length:Int) [] [] k1 fuel (i:Int) ((l.take i).map growP ++ l.drop i) = k1 (l.map growP)
  | 0,i,h1,h2 => by omega
  | f + 1,i,h1,h2 => by
    unfold M.pways_l1 M.pways_l1_step
    rw [cLt_nat]
    by_cases hi:i < l.length
    · rw [if_pos (by simpa using hi), if_pos (by omega)]
      have hlen:((l.take i).map growP ++ l.drop i).length = l.length := by simp; omega
      refine Eq.trans (grow_all _ _ (List.getD l (Int.toNat (i:Int)) (0,0,0)) (by omega)) ?_
      rw [if_pos (by rw [hlen]; omega),w_next (by omega),toNat_nat]
      rw [drop_pt l i hi,set_mid _ _ _ _ i (by simp; omega)]
      have e:(l.take i).map growP ++ ((growP (l.getD i (0,0,0))).1,(growP (l.getD i (0,0,0))).2.1,(growP (l.getD i (0,0,0))).2.2) :: l.drop (i + 1) = (l.take (i + 1)).map growP ++ l.drop (i + 1) := by
        rw [List.take_add_one,List.map_append,List.append_assoc]
        simp [List.getD_eq_getElem?_getD,hi]
      rw [e]
      exact pways_l1_val l hl k1 f (i + 1) (by omega) (by omega)
    · have : i = l.length := by omega
      subst this
      rw [if_neg (by simp)]
      simp
/-- A point, made finer. -/
def scP (p:P3) (n:Int):V.T3 := (IntKind.wrap .i64 (p.1 * n),IntKind.wrap .i64 (p.2.1 * n),IntKind.wrap .i64 (p.2.2 * n))
def tdP (v:V.T3) (n:Int):P3 := (IntKind.wrap .i64 (Int.tdiv v.1 n),IntKind.wrap .i64 (Int.tdiv v.2.1 n),IntKind.wrap .i64 (Int.tdiv v.2.2 n))
noncomputable def wayS (m:V.T9) (g:P3):P3 := V.pShort (tdP (V.q3 (V.tTurn m (scP g 4096))) 4096)
/-- The way through grown directions: whether all may be, the flag, what has come. -/
noncomputable def wayRun (m:V.T9):List P3 → Bool → List P3 → Bool × Bool × List P3
  | [],f,a => (true,f,a)
  | g :: G,f,a => if Sm g 1048576 then wayRun m G (V.on (V.tTurn m (scP g 4096)) f) (if wayS m g = (0,0,0) then a else a ++ [wayS m g]) else (false,f,a)
theorem pways_l2_val {α:Type} (m:V.T9) (G:List P3) (hG:G.length < 1099511627776) (k0 k2:Bool → List P3 → Option α):∀ (fuel i:Nat) (f:Bool) (a:List P3),i ≤ G.length → G.length - i < fuel → a.length ≤ i →
    M.pways_l2 (G.length:Int) m.1.1 m.1.2.1 m.1.2.2 m.2.1.1 m.2.1.2.1 m.2.1.2.2 m.2.2.1 m.2.2.2.1 m.2.2.2.2 4096 G k0 k2 fuel (i:Int) f a =
      if (wayRun m (G.drop i) f a).1 = true then k2 (wayRun m (G.drop i) f a).2.1 (wayRun m (G.drop i) f a).2.2 else k0 (wayRun m (G.drop i) f a).2.1 (wayRun m (G.drop i) f a).2.2
  | 0,i,f,a,h1,h2,h3 => by omega
  | n + 1,i,f,a,h1,h2,h3 => by
    unfold M.pways_l2 M.pways_l2_step
    simp only
    rw [cLt_nat]
    by_cases hi:i < G.length
    · rw [if_pos (by simpa using hi), if_pos (by omega), within_dec _ _ _ _ (by omega), drop_pt G i hi, toNat_nat]
      show (if (!decide (Sm (pt G i) 1048576)) = true then k0 f a else _) = _
      by_cases hs:Sm (pt G i) 1048576
      · rw [if_neg (by simpa using hs)]
        have ew:wayRun m (pt G i :: G.drop (i + 1)) f a = wayRun m (G.drop (i + 1)) (V.on (V.tTurn m (scP (pt G i) 4096)) f) (if wayS m (pt G i) = (0,0,0) then a else a ++ [wayS m (pt G i)]) := by
          show (if Sm (pt G i) 1048576 then _ else _) = _
          rw [if_pos hs]
        rw [ew]
        show (if (!(cEq (wayS m (pt G i)).1 (0:Int) && (cEq (wayS m (pt G i)).2.1 (0:Int) && (cEq (wayS m (pt G i)).2.2 (0:Int) && true)))) = true then _ else _) = _
        rw [show (cEq (wayS m (pt G i)).1 (0:Int) && (cEq (wayS m (pt G i)).2.1 (0:Int) && (cEq (wayS m (pt G i)).2.2 (0:Int) && true))) = decide (wayS m (pt G i) = (0,0,0)) from eq3 _ _ _ (0,0,0),w_next (by omega)]
        by_cases h0:wayS m (pt G i) = (0,0,0)
        · rw [if_neg (by simpa using h0), if_pos h0]
          exact pways_l2_val m G hG k0 k2 n (i + 1) _ _ (by omega) (by omega) (by omega)
        · rw [if_pos (by simpa using h0), if_neg h0, if_pos (by omega)]
          exact pways_l2_val m G hG k0 k2 n (i + 1) _ _ (by omega) (by omega) (by rw [List.length_append,List.length_singleton]; omega)
      · rw [if_pos (by simpa using hs)]
        have ew:wayRun m (pt G i :: G.drop (i + 1)) f a = (false,f,a) := by
          show (if Sm (pt G i) 1048576 then _ else _) = _
          rw [if_neg hs]
        rw [ew]; rfl
    · have : i = G.length := by omega
      subst this
      rw [if_neg (by simp)]
      simp [wayRun]
noncomputable def _root_.Go.Proofs.Ytlagndfhibkjpaa.V.wy (bad:Bool) (m:V.T9) (l:List P3):Bool × Bool × List P3 := hid (wayRun m (l.map growP) bad [])
theorem pways_v {α:Type} (bad:Bool) (m0 m1 m2 m3 m4 m5 m6 m7 m8:Int) (l:List P3) (hg:V.lenB l.length = true) (k0:Bool → Option α) (k1:Nat → Bool → List P3 → Option α) :
    M.pways bad m0 m1 m2 m3 m4 m5 m6 m7 m8 l k0 k1 = if (V.wy bad ((m0,m1,m2),(m3,m4,m5),(m6,m7,m8)) l).1 = true then k1 (V.wy bad ((m0,m1,m2),(m3,m4,m5),(m6,m7,m8)) l).2.2.length (V.wy bad ((m0,m1,m2),(m3,m4,m5),(m6,m7,m8)) l).2.1 (V.wy bad ((m0,m1,m2),(m3,m4,m5),(m6,m7,m8)) l).2.2 else k0 (V.wy bad ((m0,m1,m2),(m3,m4,m5),(m6,m7,m8)) l).2.1 := by
  have hl := lenB_lt hg
  unfold M.pways V.wy
  rw [if_pos hg,hid_eq]
  have h1 := pways_l1_val l hl (fun (x167:List P3) ↦ M.pways_l2 (↑(List.length x167):Int) m0 m1 m2 m3 m4 m5 m6 m7 m8 (4096:Int) x167 (fun (x168:Bool) (x169:List P3) ↦ k0 x168) (fun (x170:Bool) (x171:List P3) ↦ if (↑(List.length x171):Int) = (↑(List.length x171):Int) ∧ (↑(List.length x171):Int) = (↑(List.length x171):Int) then k1 (List.length x171) x170 x171 else none) ((100:Nat) + List.length x167) (0:Int) bad []) (100 + l.length + 0 + 0 + l.length) 0 (by omega) (by omega)
  refine Eq.trans h1 ?_
  have h2 := pways_l2_val ((m0,m1,m2),(m3,m4,m5),(m6,m7,m8)) (l.map growP) (by rw [List.length_map]; exact hl) (fun (x168:Bool) (x169:List P3) ↦ k0 x168) (fun (x170:Bool) (x171:List P3) ↦ if (↑(List.length x171):Int) = (↑(List.length x171):Int) ∧ (↑(List.length x171):Int) = (↑(List.length x171):Int) then k1 (List.length x171) x170 x171 else none) (100 + (l.map growP).length) 0 bad [] (by omega) (by omega) (by simp)
  refine Eq.trans h2 ?_
  simp only [List.drop_zero,and_self,if_true]
noncomputable def pways_h {α:Type} (ds:List D) (Q:SV → Hp → Option α):Option α :=
  dB ds fun bad ds => dI ds fun m0 ds => dI ds fun m1 ds => dI ds fun m2 ds => dI ds fun m3 ds => dI ds fun m4 ds => dI ds fun m5 ds => dI ds fun m6 ds => dI ds fun m7 ds => dI ds fun m8 ds => dL kP ds fun l ds => dE ds (if V.lenB l.length = true then if (V.wy bad ((m0,m1,m2),(m3,m4,m5),(m6,m7,m8)) l).1 = true then Q (.tup [.clp 1 (.st (.i .i64) [.i .i64,.i .i64]) (V.wy bad ((m0,m1,m2),(m3,m4,m5),(m6,m7,m8)) l).2.2.length,.bool true]) ([.cells [.bool (V.wy bad ((m0,m1,m2),(m3,m4,m5),(m6,m7,m8)) l).2.1] 66,.seq (.st (.i .i64) [.i .i64,.i .i64]) (V.wy bad ((m0,m1,m2),(m3,m4,m5),(m6,m7,m8)) l).2.2 23]) else Q (.tup [.sl 1,.bool false]) ([.cells [.bool (V.wy bad ((m0,m1,m2),(m3,m4,m5),(m6,m7,m8)) l).2.1] 66,.seq (.st (.i .i64) [.i .i64,.i .i64]) [] 23]) else none)
theorem pways_h_ok {α:Type}:FnOk E.P 38 (fEnt (α := α) pways_sp pways_h) :=
  fEntR_ok E (look_pmoved_ok) (exec_sound E E_ok (look_pmoved_ok) (pways_l2_lps_ok) 400) fun ds Q r h => by
    unfold pways_h at h
    obtain ⟨bad,ds,rfl,h1⟩ := dB_inv h
    obtain ⟨m0,ds,rfl,h2⟩ := dI_inv h1
    obtain ⟨m1,ds,rfl,h3⟩ := dI_inv h2
    obtain ⟨m2,ds,rfl,h4⟩ := dI_inv h3
    obtain ⟨m3,ds,rfl,h5⟩ := dI_inv h4
    obtain ⟨m4,ds,rfl,h6⟩ := dI_inv h5
    obtain ⟨m5,ds,rfl,h7⟩ := dI_inv h6
    obtain ⟨m6,ds,rfl,h8⟩ := dI_inv h7
    obtain ⟨m7,ds,rfl,h9⟩ := dI_inv h8
    obtain ⟨m8,ds,rfl,h10⟩ := dI_inv h9
    obtain ⟨l,ds,rfl,h11⟩ := dL_inv h10
    obtain ⟨rfl,hE⟩ := dE_inv h11
    split at hE
    · rename_i hg
      split at hE
      · rename_i hc
        exact ⟨_,_,hE,fun vs => ⟨_,_,by kernel_rfl,(pways_eq bad m0 m1 m2 m3 m4 m5 m6 m7 m8 l (vs.tail.tail.headD undef) _).trans ((pways_v bad m0 m1 m2 m3 m4 m5 m6 m7 m8 l hg _ _).trans (if_pos hc))⟩⟩
      · rename_i hc
        exact ⟨_,_,hE,fun vs => ⟨_,_,by kernel_rfl,(pways_eq bad m0 m1 m2 m3 m4 m5 m6 m7 m8 l (vs.tail.tail.headD undef) _).trans ((pways_v bad m0 m1 m2 m3 m4 m5 m6 m7 m8 l hg _ _).trans (if_neg hc))⟩⟩
    · cases hE
noncomputable def look_pways {α:Type}:LookF α := addFn 38 (fEnt pways_sp pways_h) look_pmoved
theorem look_pways_ok {α:Type}:LookOk E.P (look_pways (α := α)) := addFn_ok pways_h_ok (look_pmoved_ok)
end Go.Proofs.Ytlagndfhibkjpaa.Sx
end

section
/- pose: cores that are placed. -/
namespace Go.Proofs.Ytlagndfhibkjpaa.Sx
open Go
set_option maxRecDepth 20000
set_option linter.unusedVariables false
set_option linter.unusedSimpArgs false
noncomputable abbrev place_S1 (y1:Value) (y2:L3) (y3 y4:Int) (y5:Value) (y6:L3) (y7:Value) (y8:L3) (y9:Value) (y10:L3) (y11 y12 y13 y14 y15 y16 y17 y18 y19:Int) (y20 y21:Bool) (y22 y23 y24 y25 y26 y27 y28 y29 y30 y31:Int) (y32:Value) (y33:L3) (y34 y35 y36 y37 y38 y39 y40 y41 y42 y43:Int) (y44 y45 y46 y47 y48 y49:L3):St := St.mk (some (SV.yld (nat_lit 17)) :: none :: some (SV.ptr (nat_lit 14) (nat_lit 0)) :: some (SV.ptr (nat_lit 15) (nat_lit 0)) :: some (SV.ptr (nat_lit 16) (nat_lit 0)) :: nn 3 (some (SV.ros y1 kP y2) :: some (SV.int .i64 y3) :: some (SV.int .i64 y4) :: nn 29 ([]))) [.cells [SV.ros y5 kP y6,SV.ros y7 kP y8,SV.ros y9 kP y10,SV.int .i64 y11] (nat_lit 29),.cells [SV.int .i64 y12,SV.int .i64 y13,SV.int .i64 y14,SV.int .i64 y15,SV.int .i64 y16,SV.int .i64 y17,SV.int .i64 y18] (nat_lit 43),.cells [SV.sl (nat_lit 18),SV.sl (nat_lit 19),SV.sl (nat_lit 20),SV.int .i64 y19] (nat_lit 29),SObj.dead,SObj.dead,SObj.dead,.cells [SV.bool y20] (nat_lit 4),.cells [SV.bool y21] (nat_lit 66),.cells [SV.int .i64 y22,SV.int .i64 y23,SV.int .i64 y24,SV.int .i64 y25,SV.int .i64 y26,SV.int .i64 y27,SV.int .i64 y28,SV.int .i64 y29,SV.int .i64 y30] (nat_lit 68),.cells [SV.sl (nat_lit 21),SV.sl (nat_lit 22),SV.sl (nat_lit 23),SV.int .i64 y31] (nat_lit 29),SObj.dead,SObj.dead,SObj.dead,.cells [SV.ros y32 kP y33] (nat_lit 24),.cells [SV.ptr (nat_lit 7) (nat_lit 0)] (nat_lit 70),.cells [SV.int .i64 y34,SV.int .i64 y35,SV.int .i64 y36,SV.int .i64 y37,SV.int .i64 y38,SV.int .i64 y39,SV.int .i64 y40,SV.int .i64 y41,SV.int .i64 y42] (nat_lit 68),.cells [SV.int .i64 y43] (nat_lit 3),SObj.lp (nat_lit 12) [false,true,false,true,true,true,true] [none,none,some (SV.ptr (nat_lit 0) (nat_lit 0)),some (SV.ptr (nat_lit 1) (nat_lit 0)),some (SV.ptr (nat_lit 2) (nat_lit 0)),some (SV.ptr (nat_lit 6) (nat_lit 0)),some (SV.ptr (nat_lit 7) (nat_lit 0)),some (SV.ptr (nat_lit 8) (nat_lit 0)),some (SV.ptr (nat_lit 9) (nat_lit 0)),none,none,none,none,none,none,none,none,none,none,none,none,none,none,some (SV.fn (nat_lit 63) [] [SV.ptr (nat_lit 13) (nat_lit 0),SV.ptr (nat_lit 14) (nat_lit 0),SV.ptr (nat_lit 15) (nat_lit 0),SV.ptr (nat_lit 16) (nat_lit 0)]),none,none,none,none,none,none,none,none,none,none,none,none,none,none,none,none,none,none,none,none,none,none,none,none,none,none,none,none,none,none,none,none,none,none,none,none,none,none,none,none,none,none,none,none,none,none,none,none,none,none,none,none,none,none,none,none,none,none,none,none,none,none,none,none] LSt.ready,.seq kP y44 (nat_lit 23),.seq kP y45 (nat_lit 23),.seq kP y46 (nat_lit 23),.seq kP y47 (nat_lit 23),.seq kP y48 (nat_lit 23),.seq kP y49 (nat_lit 23)]
noncomputable abbrev place_S2 (y1:Value) (y2:L3) (y3:Value) (y4:L3) (y5:Value) (y6:L3) (y7 y8 y9 y10 y11 y12 y13 y14:Int) (y15:Bool) (y16 y17 y18 y19 y20 y21 y22 y23 y24 y25:Int) (y26:Value) (y27:L3) (y28 y29 y30 y31 y32 y33 y34 y35 y36 y37:Int) (y38 y39 y40:L3):St := St.mk (nn 40 ([])) [.cells [SV.ros y1 kP y2,SV.ros y3 kP y4,SV.ros y5 kP y6,SV.int .i64 y7] (nat_lit 29),.cells [SV.int .i64 y8,SV.int .i64 y9,SV.int .i64 y10,SV.int .i64 y11,SV.int .i64 y12,SV.int .i64 y13,SV.int .i64 y14] (nat_lit 43),.cells [SV.sl (nat_lit 18),SV.sl (nat_lit 19),SV.sl (nat_lit 20),SV.int .i64 (0:Int)] (nat_lit 29),SObj.dead,SObj.dead,SObj.dead,.cells [SV.bool false] (nat_lit 4),.cells [SV.bool y15] (nat_lit 66),.cells [SV.int .i64 y16,SV.int .i64 y17,SV.int .i64 y18,SV.int .i64 y19,SV.int .i64 y20,SV.int .i64 y21,SV.int .i64 y22,SV.int .i64 y23,SV.int .i64 y24] (nat_lit 68),.cells [SV.sl (nat_lit 21),SV.sl (nat_lit 22),SV.sl (nat_lit 23),SV.int .i64 y25] (nat_lit 29),SObj.dead,SObj.dead,SObj.dead,.cells [SV.ros y26 kP y27] (nat_lit 24),.cells [SV.ptr (nat_lit 7) (nat_lit 0)] (nat_lit 70),.cells [SV.int .i64 y28,SV.int .i64 y29,SV.int .i64 y30,SV.int .i64 y31,SV.int .i64 y32,SV.int .i64 y33,SV.int .i64 y34,SV.int .i64 y35,SV.int .i64 y36] (nat_lit 68),.cells [SV.int .i64 y37] (nat_lit 3),SObj.lp (nat_lit 12) [false,true,false,true,true,true,true] [none,none,some (SV.ptr (nat_lit 0) (nat_lit 0)),some (SV.ptr (nat_lit 1) (nat_lit 0)),some (SV.ptr (nat_lit 2) (nat_lit 0)),some (SV.ptr (nat_lit 6) (nat_lit 0)),some (SV.ptr (nat_lit 7) (nat_lit 0)),some (SV.ptr (nat_lit 8) (nat_lit 0)),some (SV.ptr (nat_lit 9) (nat_lit 0)),none,none,none,none,none,none,none,none,none,none,none,none,none,none,some (SV.fn (nat_lit 63) [] [SV.ptr (nat_lit 13) (nat_lit 0),SV.ptr (nat_lit 14) (nat_lit 0),SV.ptr (nat_lit 15) (nat_lit 0),SV.ptr (nat_lit 16) (nat_lit 0)]),none,none,none,none,none,none,none,none,none,none,none,none,none,none,none,none,none,none,none,none,none,none,none,none,none,none,none,none,none,none,none,none,none,none,none,none,none,none,none,none,none,none,none,none,none,none,none,none,none,none,none,none,none,none,none,none,none,none,none,none,none,none,none,none] (LSt.done Ex.ret),.seq kP [] (nat_lit 23),.seq kP [] (nat_lit 23),.seq kP [] (nat_lit 23),.seq kP y38 (nat_lit 23),.seq kP y39 (nat_lit 23),.seq kP y40 (nat_lit 23)]
noncomputable abbrev place_S3 (y1:Value) (y2:L3) (y3:Value) (y4:L3) (y5:Value) (y6:L3) (y7 y8 y9 y10 y11 y12 y13 y14 y15:Int) (y16 y17:Bool) (y18 y19 y20 y21 y22 y23 y24 y25 y26 y27:Int) (y28:Value) (y29:L3) (y30 y31 y32 y33 y34 y35 y36 y37 y38 y39:Int) (y40 y41 y42 y43 y44 y45:L3):St := St.mk (nn 40 ([])) [.cells [SV.ros y1 kP y2,SV.ros y3 kP y4,SV.ros y5 kP y6,SV.int .i64 y7] (nat_lit 29),.cells [SV.int .i64 y8,SV.int .i64 y9,SV.int .i64 y10,SV.int .i64 y11,SV.int .i64 y12,SV.int .i64 y13,SV.int .i64 y14] (nat_lit 43),.cells [SV.sl (nat_lit 18),SV.sl (nat_lit 19),SV.sl (nat_lit 20),SV.int .i64 y15] (nat_lit 29),SObj.dead,SObj.dead,SObj.dead,.cells [SV.bool y16] (nat_lit 4),.cells [SV.bool y17] (nat_lit 66),.cells [SV.int .i64 y18,SV.int .i64 y19,SV.int .i64 y20,SV.int .i64 y21,SV.int .i64 y22,SV.int .i64 y23,SV.int .i64 y24,SV.int .i64 y25,SV.int .i64 y26] (nat_lit 68),.cells [SV.sl (nat_lit 21),SV.sl (nat_lit 22),SV.sl (nat_lit 23),SV.int .i64 y27] (nat_lit 29),SObj.dead,SObj.dead,SObj.dead,.cells [SV.ros y28 kP y29] (nat_lit 24),.cells [SV.ptr (nat_lit 7) (nat_lit 0)] (nat_lit 70),.cells [SV.int .i64 y30,SV.int .i64 y31,SV.int .i64 y32,SV.int .i64 y33,SV.int .i64 y34,SV.int .i64 y35,SV.int .i64 y36,SV.int .i64 y37,SV.int .i64 y38] (nat_lit 68),.cells [SV.int .i64 y39] (nat_lit 3),SObj.lp (nat_lit 12) [false,true,false,true,true,true,true] [none,none,some (SV.ptr (nat_lit 0) (nat_lit 0)),some (SV.ptr (nat_lit 1) (nat_lit 0)),some (SV.ptr (nat_lit 2) (nat_lit 0)),some (SV.ptr (nat_lit 6) (nat_lit 0)),some (SV.ptr (nat_lit 7) (nat_lit 0)),some (SV.ptr (nat_lit 8) (nat_lit 0)),some (SV.ptr (nat_lit 9) (nat_lit 0)),none,none,none,none,none,none,none,none,none,none,none,none,none,none,some (SV.fn (nat_lit 63) [] [SV.ptr (nat_lit 13) (nat_lit 0),SV.ptr (nat_lit 14) (nat_lit 0),SV.ptr (nat_lit 15) (nat_lit 0),SV.ptr (nat_lit 16) (nat_lit 0)]),none,none,none,none,none,none,none,none,none,none,none,none,none,none,none,none,none,none,none,none,none,none,none,none,none,none,none,none,none,none,none,none,none,none,none,none,none,none,none,none,none,none,none,none,none,none,none,none,none,none,none,none,none,none,none,none,none,none,none,none,none,none,none,none] LSt.ready,.seq kP y40 (nat_lit 23),.seq kP y41 (nat_lit 23),.seq kP y42 (nat_lit 23),.seq kP y43 (nat_lit 23),.seq kP y44 (nat_lit 23),.seq kP y45 (nat_lit 23)]
noncomputable abbrev place_S4:St := St.mk (some (SV.yld (nat_lit 17)) :: none :: some (SV.ptr (nat_lit 14) (nat_lit 0)) :: some (SV.ptr (nat_lit 15) (nat_lit 0)) :: some (SV.ptr (nat_lit 16) (nat_lit 0)) :: nn 3 (some (SV.ros undef kP []) :: some (SV.int .i64 (0:Int)) :: some (SV.int .i64 (0:Int)) :: nn 29 ([]))) [.cells [SV.ros undef kP [],SV.ros undef kP [],SV.ros undef kP [],SV.int .i64 (0:Int)] (nat_lit 29),.cells [SV.int .i64 (0:Int),SV.int .i64 (0:Int),SV.int .i64 (0:Int),SV.int .i64 (0:Int),SV.int .i64 (0:Int),SV.int .i64 (0:Int),SV.int .i64 (0:Int)] (nat_lit 43),.cells [SV.sl (nat_lit 18),SV.sl (nat_lit 19),SV.sl (nat_lit 20),SV.int .i64 (0:Int)] (nat_lit 29),SObj.dead,SObj.dead,SObj.dead,.cells [SV.bool false] (nat_lit 4),.cells [SV.bool false] (nat_lit 66),.cells [SV.int .i64 (0:Int),SV.int .i64 (0:Int),SV.int .i64 (0:Int),SV.int .i64 (0:Int),SV.int .i64 (0:Int),SV.int .i64 (0:Int),SV.int .i64 (0:Int),SV.int .i64 (0:Int),SV.int .i64 (0:Int)] (nat_lit 68),.cells [SV.sl (nat_lit 21),SV.sl (nat_lit 22),SV.sl (nat_lit 23),SV.int .i64 (0:Int)] (nat_lit 29),SObj.dead,SObj.dead,SObj.dead,.cells [SV.ros undef kP []] (nat_lit 24),.cells [SV.ptr (nat_lit 7) (nat_lit 0)] (nat_lit 70),.cells [SV.int .i64 (0:Int),SV.int .i64 (0:Int),SV.int .i64 (0:Int),SV.int .i64 (0:Int),SV.int .i64 (0:Int),SV.int .i64 (0:Int),SV.int .i64 (0:Int),SV.int .i64 (0:Int),SV.int .i64 (0:Int)] (nat_lit 68),.cells [SV.int .i64 (0:Int)] (nat_lit 3),SObj.lp (nat_lit 12) [false,true,false,true,true,true,true] [none,none,some (SV.ptr (nat_lit 0) (nat_lit 0)),some (SV.ptr (nat_lit 1) (nat_lit 0)),some (SV.ptr (nat_lit 2) (nat_lit 0)),some (SV.ptr (nat_lit 6) (nat_lit 0)),some (SV.ptr (nat_lit 7) (nat_lit 0)),some (SV.ptr (nat_lit 8) (nat_lit 0)),some (SV.ptr (nat_lit 9) (nat_lit 0)),none,none,none,none,none,none,none,none,none,none,none,none,none,none,some (SV.fn (nat_lit 63) [] [SV.ptr (nat_lit 13) (nat_lit 0),SV.ptr (nat_lit 14) (nat_lit 0),SV.ptr (nat_lit 15) (nat_lit 0),SV.ptr (nat_lit 16) (nat_lit 0)]),none,none,none,none,none,none,none,none,none,none,none,none,none,none,none,none,none,none,none,none,none,none,none,none,none,none,none,none,none,none,none,none,none,none,none,none,none,none,none,none,none,none,none,none,none,none,none,none,none,none,none,none,none,none,none,none,none,none,none,none,none,none,none,none] LSt.ready,.seq kP [] (nat_lit 23),.seq kP [] (nat_lit 23),.seq kP [] (nat_lit 23),.seq kP [] (nat_lit 23),.seq kP [] (nat_lit 23),.seq kP [] (nat_lit 23)]
noncomputable def _root_.Go.Proofs.Ytlagndfhibkjpaa.M.place_l0_step {α:Type} (x53:L3) (x54 x63 x64 x65 x85 x86 x87 x88 x89 x90 x91 x92 x93 x94:Int) (kn:Int → Bool → L3 → Option α) (k0:Bool → L3 → Option α) (k2:Bool → L3 → Option α) (x55:Int) (x72:Bool) (x98:L3):Option α := let s101:Int := (↑(List.length x53):Int); let s102:K.T kP := List.getD x53 (Int.toNat x55) ((0:Int),(0:Int),(0:Int)); let s103:LK.T (LK.i IntKind.i64) := Prod.fst s102; let s104:RT (LK.i IntKind.i64) [LK.i IntKind.i64] := Prod.snd s102; let s105:LK.T (LK.i IntKind.i64) := Prod.fst s104; let s106:RT (LK.i IntKind.i64) [] := Prod.snd s104; let s107:Bool := !V.pwithin_r0 s103 s105 s106 (1048576:Int); let s108:Option V.T3 := V.tTurn ((x85,x86,x87),(x88,x89,x90),x91,x92,x93) (IntKind.wrap .i64 (s103 * x94),IntKind.wrap .i64 (s105 * x94),IntKind.wrap .i64 (s106 * x94)); let s109:Option V.T3 := V.tAdd (V.q3 s108) (x63,x64,x65); let s110:Int := Int.fdiv (V.x3 s109) (1048576:Int); let s111:Int := Int.fdiv (V.y3 s109) (1048576:Int); let s112:Int := Int.fdiv (V.z3 s109) (1048576:Int); let s113:Bool := V.on s109 (V.on s108 x72); let s114:Bool := !V.pwithin_r0 s110 s111 s112 (8388608:Int); let s115:List (K.T kP) := [(s110,s111,s112)]; if cLt x55 x54 = true then if (0:Int) ≤ x55 ∧ x55 < s101 then if s107 = true then k0 (V.on (V.tAdd ((0:Int),(0:Int),(0:Int)) (x63,x64,x65)) x72) x98 else if s114 = true then k0 s113 x98 else if (List.length x98 + ((0:Nat) + (1:Nat))) * (24:Nat) ≤ (140737488355328:Nat) then kn (IntKind.wrap .i64 (x55 + (1:Int))) s113 (x98 ++ s115) else none else none else k2 x72 x98
noncomputable def _root_.Go.Proofs.Ytlagndfhibkjpaa.M.place_l0 {α:Type} (x53:L3) (x54 x63 x64 x65 x85 x86 x87 x88 x89 x90 x91 x92 x93 x94:Int) (k0:Bool → L3 → Option α) (k2:Bool → L3 → Option α):Nat → Int → Bool → L3 → Option α
  | 0,_,_,_ => none
  | n + 1,x55,x72,x98 => M.place_l0_step x53 x54 x63 x64 x65 x85 x86 x87 x88 x89 x90 x91 x92 x93 x94 (M.place_l0 x53 x54 x63 x64 x65 x85 x86 x87 x88 x89 x90 x91 x92 x93 x94 k0 k2 n) k0 k2 x55 x72 x98
theorem place_l0_step_eq {α:Type} (x52:Value) (x53:L3) (x54 x55:Int) (x56:Value) (x57:L3) (x58:Value) (x59:L3) (x60:Value) (x61:L3) (x62 x63 x64 x65 x66 x67 x68 x69 x70:Int) (x71 x72:Bool) (x73 x74 x75 x76 x77 x78 x79 x80 x81 x82:Int) (x83:Value) (x84:L3) (x85 x86 x87 x88 x89 x90 x91 x92 x93 x94:Int) (x95 x96 x97 x98 x99 x100:L3) (Q:Ex → St → Option α):(loopStep E (exec E look_pways noLps 400) 63 [false,true] 18 (codeAt E.P 63 [false,true])) (place_S1 x52 x53 x54 x55 x56 x57 x58 x59 x60 x61 x62 x63 x64 x65 x66 x67 x68 x69 x70 x71 x72 x73 x74 x75 x76 x77 x78 x79 x80 x81 x82 x83 x84 x85 x86 x87 x88 x89 x90 x91 x92 x93 x94 x95 x96 x97 x98 x99 x100) Q = M.place_l0_step x53 x54 x63 x64 x65 x85 x86 x87 x88 x89 x90 x91 x92 x93 x94 (fun (x120:Int) (x121:Bool) (x122:L3) => Q .normal (place_S1 x52 x53 x54 x120 x56 x57 x58 x59 x60 x61 x62 x63 x64 x65 x66 x67 x68 x69 x70 x71 x121 x73 x74 x75 x76 x77 x78 x79 x80 x81 x82 x83 x84 x85 x86 x87 x88 x89 x90 x91 x92 x93 x94 x95 x96 x97 x122 x99 x100)) (fun (x116:Bool) (x117:L3) => Q .ret (place_S2 x56 x57 x58 x59 x60 x61 x62 x63 x64 x65 x66 x67 x68 x69 x116 x73 x74 x75 x76 x77 x78 x79 x80 x81 x82 x83 x84 x85 x86 x87 x88 x89 x90 x91 x92 x93 x94 x117 x99 x100)) (fun (x118:Bool) (x119:L3) => Q (.exit 0) (place_S3 x56 x57 x58 x59 x60 x61 x62 x63 x64 x65 x66 x67 x68 x69 x70 x71 x118 x73 x74 x75 x76 x77 x78 x79 x80 x81 x82 x83 x84 x85 x86 x87 x88 x89 x90 x91 x92 x93 x94 x95 x96 x97 x119 x99 x100)) x55 x72 x98 := by kernel_rfl
theorem place_l0_iter {α:Type} (x52:Value) (x53:L3) (x54:Int) (x56:Value) (x57:L3) (x58:Value) (x59:L3) (x60:Value) (x61:L3) (x62 x63 x64 x65 x66 x67 x68 x69 x70:Int) (x71:Bool) (x73 x74 x75 x76 x77 x78 x79 x80 x81 x82:Int) (x83:Value) (x84:L3) (x85 x86 x87 x88 x89 x90 x91 x92 x93 x94:Int) (x95 x96 x97 x99 x100:L3) (Q:Ex → St → Option α):∀ (n:Nat) (x55:Int) (x72:Bool) (x98:L3),iter (loopStep E (exec E look_pways noLps 400) 63 [false,true] 18 (codeAt E.P 63 [false,true])) n (place_S1 x52 x53 x54 x55 x56 x57 x58 x59 x60 x61 x62 x63 x64 x65 x66 x67 x68 x69 x70 x71 x72 x73 x74 x75 x76 x77 x78 x79 x80 x81 x82 x83 x84 x85 x86 x87 x88 x89 x90 x91 x92 x93 x94 x95 x96 x97 x98 x99 x100) Q = M.place_l0 x53 x54 x63 x64 x65 x85 x86 x87 x88 x89 x90 x91 x92 x93 x94 (fun (x116:Bool) (x117:L3) => Q .ret (place_S2 x56 x57 x58 x59 x60 x61 x62 x63 x64 x65 x66 x67 x68 x69 x116 x73 x74 x75 x76 x77 x78 x79 x80 x81 x82 x83 x84 x85 x86 x87 x88 x89 x90 x91 x92 x93 x94 x117 x99 x100)) (fun (x118:Bool) (x119:L3) => Q (.exit 0) (place_S3 x56 x57 x58 x59 x60 x61 x62 x63 x64 x65 x66 x67 x68 x69 x70 x71 x118 x73 x74 x75 x76 x77 x78 x79 x80 x81 x82 x83 x84 x85 x86 x87 x88 x89 x90 x91 x92 x93 x94 x95 x96 x97 x119 x99 x100)) n x55 x72 x98
  | 0,_,_,_ => rfl
  | n + 1,x55,x72,x98 => (place_l0_step_eq x52 x53 x54 x55 x56 x57 x58 x59 x60 x61 x62 x63 x64 x65 x66 x67 x68 x69 x70 x71 x72 x73 x74 x75 x76 x77 x78 x79 x80 x81 x82 x83 x84 x85 x86 x87 x88 x89 x90 x91 x92 x93 x94 x95 x96 x97 x98 x99 x100 (iterK (loopStep E (exec E look_pways noLps 400) 63 [false,true] 18 (codeAt E.P 63 [false,true])) n Q)).trans (congrArg (fun kn => M.place_l0_step x53 x54 x63 x64 x65 x85 x86 x87 x88 x89 x90 x91 x92 x93 x94 kn (fun (x116:Bool) (x117:L3) => Q .ret (place_S2 x56 x57 x58 x59 x60 x61 x62 x63 x64 x65 x66 x67 x68 x69 x116 x73 x74 x75 x76 x77 x78 x79 x80 x81 x82 x83 x84 x85 x86 x87 x88 x89 x90 x91 x92 x93 x94 x117 x99 x100)) (fun (x118:Bool) (x119:L3) => Q (.exit 0) (place_S3 x56 x57 x58 x59 x60 x61 x62 x63 x64 x65 x66 x67 x68 x69 x70 x71 x118 x73 x74 x75 x76 x77 x78 x79 x80 x81 x82 x83 x84 x85 x86 x87 x88 x89 x90 x91 x92 x93 x94 x95 x96 x97 x119 x99 x100)) x55 x72 x98) (funext fun x55 => funext fun x72 => funext fun x98 => place_l0_iter x52 x53 x54 x56 x57 x58 x59 x60 x61 x62 x63 x64 x65 x66 x67 x68 x69 x70 x71 x73 x74 x75 x76 x77 x78 x79 x80 x81 x82 x83 x84 x85 x86 x87 x88 x89 x90 x91 x92 x93 x94 x95 x96 x97 x99 x100 Q n x55 x72 x98))
noncomputable def place_l0_go {α:Type} (ds:List D) (Q:Ex → St → Option α):Option α :=
  dV ds fun x52 ds => dL kP ds fun x53 ds => dI ds fun x54 ds => dI ds fun x55 ds => dV ds fun x56 ds => dL kP ds fun x57 ds => dV ds fun x58 ds => dL kP ds fun x59 ds => dV ds fun x60 ds => dL kP ds fun x61 ds => dI ds fun x62 ds => dI ds fun x63 ds => dI ds fun x64 ds => dI ds fun x65 ds => dI ds fun x66 ds => dI ds fun x67 ds => dI ds fun x68 ds => dI ds fun x69 ds => dI ds fun x70 ds => dB ds fun x71 ds => dB ds fun x72 ds => dI ds fun x73 ds => dI ds fun x74 ds => dI ds fun x75 ds => dI ds fun x76 ds => dI ds fun x77 ds => dI ds fun x78 ds => dI ds fun x79 ds => dI ds fun x80 ds => dI ds fun x81 ds => dI ds fun x82 ds => dV ds fun x83 ds => dL kP ds fun x84 ds => dI ds fun x85 ds => dI ds fun x86 ds => dI ds fun x87 ds => dI ds fun x88 ds => dI ds fun x89 ds => dI ds fun x90 ds => dI ds fun x91 ds => dI ds fun x92 ds => dI ds fun x93 ds => dI ds fun x94 ds => dL kP ds fun x95 ds => dL kP ds fun x96 ds => dL kP ds fun x97 ds => dL kP ds fun x98 ds => dL kP ds fun x99 ds => dL kP ds fun x100 ds => dE ds (M.place_l0 x53 x54 x63 x64 x65 x85 x86 x87 x88 x89 x90 x91 x92 x93 x94 (fun (x116:Bool) (x117:L3) => Q .ret (place_S2 x56 x57 x58 x59 x60 x61 x62 x63 x64 x65 x66 x67 x68 x69 x116 x73 x74 x75 x76 x77 x78 x79 x80 x81 x82 x83 x84 x85 x86 x87 x88 x89 x90 x91 x92 x93 x94 x117 x99 x100)) (fun (x118:Bool) (x119:L3) => Q (.exit 0) (place_S3 x56 x57 x58 x59 x60 x61 x62 x63 x64 x65 x66 x67 x68 x69 x70 x71 x118 x73 x74 x75 x76 x77 x78 x79 x80 x81 x82 x83 x84 x85 x86 x87 x88 x89 x90 x91 x92 x93 x94 x95 x96 x97 x119 x99 x100)) (100 + x53.length + x57.length + x59.length + x61.length + x84.length + x95.length + x96.length + x97.length + x98.length + x99.length + x100.length) x55 x72 x98)
theorem place_l0_ok {α:Type}:LoopOk E.P 63 [false,true] 18 (lEnt (α := α) (place_S4) place_l0_go) :=
  lEnt_ok E (exec_sound E E_ok (look_pways_ok) (noLps_ok _) 400) fun ds Q r h S hS => by
    unfold place_l0_go at h
    obtain ⟨x52,ds,rfl,h1⟩ := dV_inv h
    obtain ⟨x53,ds,rfl,h2⟩ := dL_inv h1
    obtain ⟨x54,ds,rfl,h3⟩ := dI_inv h2
    obtain ⟨x55,ds,rfl,h4⟩ := dI_inv h3
    obtain ⟨x56,ds,rfl,h5⟩ := dV_inv h4
    obtain ⟨x57,ds,rfl,h6⟩ := dL_inv h5
    obtain ⟨x58,ds,rfl,h7⟩ := dV_inv h6
    obtain ⟨x59,ds,rfl,h8⟩ := dL_inv h7
    obtain ⟨x60,ds,rfl,h9⟩ := dV_inv h8
    obtain ⟨x61,ds,rfl,h10⟩ := dL_inv h9
    obtain ⟨x62,ds,rfl,h11⟩ := dI_inv h10
    obtain ⟨x63,ds,rfl,h12⟩ := dI_inv h11
    obtain ⟨x64,ds,rfl,h13⟩ := dI_inv h12
    obtain ⟨x65,ds,rfl,h14⟩ := dI_inv h13
    obtain ⟨x66,ds,rfl,h15⟩ := dI_inv h14
    obtain ⟨x67,ds,rfl,h16⟩ := dI_inv h15
    obtain ⟨x68,ds,rfl,h17⟩ := dI_inv h16
    obtain ⟨x69,ds,rfl,h18⟩ := dI_inv h17
    obtain ⟨x70,ds,rfl,h19⟩ := dI_inv h18
    obtain ⟨x71,ds,rfl,h20⟩ := dB_inv h19
    obtain ⟨x72,ds,rfl,h21⟩ := dB_inv h20
    obtain ⟨x73,ds,rfl,h22⟩ := dI_inv h21
    obtain ⟨x74,ds,rfl,h23⟩ := dI_inv h22
    obtain ⟨x75,ds,rfl,h24⟩ := dI_inv h23
    obtain ⟨x76,ds,rfl,h25⟩ := dI_inv h24
    obtain ⟨x77,ds,rfl,h26⟩ := dI_inv h25
    obtain ⟨x78,ds,rfl,h27⟩ := dI_inv h26
    obtain ⟨x79,ds,rfl,h28⟩ := dI_inv h27
    obtain ⟨x80,ds,rfl,h29⟩ := dI_inv h28
    obtain ⟨x81,ds,rfl,h30⟩ := dI_inv h29
    obtain ⟨x82,ds,rfl,h31⟩ := dI_inv h30
    obtain ⟨x83,ds,rfl,h32⟩ := dV_inv h31
    obtain ⟨x84,ds,rfl,h33⟩ := dL_inv h32
    obtain ⟨x85,ds,rfl,h34⟩ := dI_inv h33
    obtain ⟨x86,ds,rfl,h35⟩ := dI_inv h34
    obtain ⟨x87,ds,rfl,h36⟩ := dI_inv h35
    obtain ⟨x88,ds,rfl,h37⟩ := dI_inv h36
    obtain ⟨x89,ds,rfl,h38⟩ := dI_inv h37
    obtain ⟨x90,ds,rfl,h39⟩ := dI_inv h38
    obtain ⟨x91,ds,rfl,h40⟩ := dI_inv h39
    obtain ⟨x92,ds,rfl,h41⟩ := dI_inv h40
    obtain ⟨x93,ds,rfl,h42⟩ := dI_inv h41
    obtain ⟨x94,ds,rfl,h43⟩ := dI_inv h42
    obtain ⟨x95,ds,rfl,h44⟩ := dL_inv h43
    obtain ⟨x96,ds,rfl,h45⟩ := dL_inv h44
    obtain ⟨x97,ds,rfl,h46⟩ := dL_inv h45
    obtain ⟨x98,ds,rfl,h47⟩ := dL_inv h46
    obtain ⟨x99,ds,rfl,h48⟩ := dL_inv h47
    obtain ⟨x100,ds,rfl,h49⟩ := dL_inv h48
    obtain ⟨rfl,hE⟩ := dE_inv h49
    have e:fillS (place_S4) [.v x52,.l kP x53,.i x54,.i x55,.v x56,.l kP x57,.v x58,.l kP x59,.v x60,.l kP x61,.i x62,.i x63,.i x64,.i x65,.i x66,.i x67,.i x68,.i x69,.i x70,.b x71,.b x72,.i x73,.i x74,.i x75,.i x76,.i x77,.i x78,.i x79,.i x80,.i x81,.i x82,.v x83,.l kP x84,.i x85,.i x86,.i x87,.i x88,.i x89,.i x90,.i x91,.i x92,.i x93,.i x94,.l kP x95,.l kP x96,.l kP x97,.l kP x98,.l kP x99,.l kP x100] = some (place_S1 x52 x53 x54 x55 x56 x57 x58 x59 x60 x61 x62 x63 x64 x65 x66 x67 x68 x69 x70 x71 x72 x73 x74 x75 x76 x77 x78 x79 x80 x81 x82 x83 x84 x85 x86 x87 x88 x89 x90 x91 x92 x93 x94 x95 x96 x97 x98 x99 x100) := by kernel_rfl
    rw [e] at hS
    cases hS
    exact ⟨_,(place_l0_iter x52 x53 x54 x56 x57 x58 x59 x60 x61 x62 x63 x64 x65 x66 x67 x68 x69 x70 x71 x73 x74 x75 x76 x77 x78 x79 x80 x81 x82 x83 x84 x85 x86 x87 x88 x89 x90 x91 x92 x93 x94 x95 x96 x97 x99 x100 Q _ x55 x72 x98).trans hE⟩
noncomputable def place_l0_lps {α:Type}:LookL α := addLp 63 [false,true] 18 (lEnt (place_S4) place_l0_go) noLps
theorem place_l0_lps_ok {α:Type}:LoopsOk E.P (place_l0_lps (α := α)) := addLp_ok place_l0_ok (noLps_ok _)

noncomputable def _root_.Go.Proofs.Ytlagndfhibkjpaa.M.place {α:Type} (l:L3) (ax:L3) (ed:L3) (r:Int) (px:Int) (p_y:Int) (pz:Int) (tw:Int) (tx:Int) (ty:Int) (tz:Int) (k0:Option α) (k1:Nat → Nat → Int → L3 → L3 → L3 → Option α):Option α := M.place_l0 l (↑(List.length l):Int) px p_y pz (V.m0 (V.tRows (tw,tx,ty,tz))) (V.m1 (V.tRows (tw,tx,ty,tz))) (V.m2 (V.tRows (tw,tx,ty,tz))) (V.m3 (V.tRows (tw,tx,ty,tz))) (V.m4 (V.tRows (tw,tx,ty,tz))) (V.m5 (V.tRows (tw,tx,ty,tz))) (V.m6 (V.tRows (tw,tx,ty,tz))) (V.m7 (V.tRows (tw,tx,ty,tz))) (V.m8 (V.tRows (tw,tx,ty,tz))) (1048576:Int) (fun (x126:Bool) (x127:L3) ↦ k0) (fun (x128:Bool) (x129:L3) ↦ if V.lenB (List.length ax) = true then if Prod.fst (V.wy x128 (V.q9 (V.tRows (tw,tx,ty,tz))) ax) = true then if V.lenB (List.length ed) = true then if Prod.fst (V.wy (Prod.fst (Prod.snd (V.wy x128 (V.q9 (V.tRows (tw,tx,ty,tz))) ax))) (V.q9 (V.tRows (tw,tx,ty,tz))) ed) = true then if Prod.fst (Prod.snd (V.wy (Prod.fst (Prod.snd (V.wy x128 (V.q9 (V.tRows (tw,tx,ty,tz))) ax))) (V.q9 (V.tRows (tw,tx,ty,tz))) ed)) = true then k0 else if cEq (↑(List.length x129):Int) (0:Int) = true then k0 else k1 (List.length (Prod.snd (Prod.snd (V.wy x128 (V.q9 (V.tRows (tw,tx,ty,tz))) ax)))) (List.length (Prod.snd (Prod.snd (V.wy (Prod.fst (Prod.snd (V.wy x128 (V.q9 (V.tRows (tw,tx,ty,tz))) ax))) (V.q9 (V.tRows (tw,tx,ty,tz))) ed)))) r x129 (Prod.snd (Prod.snd (V.wy x128 (V.q9 (V.tRows (tw,tx,ty,tz))) ax))) (Prod.snd (Prod.snd (V.wy (Prod.fst (Prod.snd (V.wy x128 (V.q9 (V.tRows (tw,tx,ty,tz))) ax))) (V.q9 (V.tRows (tw,tx,ty,tz))) ed))) else if Prod.fst (Prod.snd (V.wy (Prod.fst (Prod.snd (V.wy x128 (V.q9 (V.tRows (tw,tx,ty,tz))) ax))) (V.q9 (V.tRows (tw,tx,ty,tz))) ed)) = true then k0 else k0 else none else if V.lenB (List.length ed) = true then if Prod.fst (V.wy (Prod.fst (Prod.snd (V.wy x128 (V.q9 (V.tRows (tw,tx,ty,tz))) ax))) (V.q9 (V.tRows (tw,tx,ty,tz))) ed) = true then if Prod.fst (Prod.snd (V.wy (Prod.fst (Prod.snd (V.wy x128 (V.q9 (V.tRows (tw,tx,ty,tz))) ax))) (V.q9 (V.tRows (tw,tx,ty,tz))) ed)) = true then k0 else k0 else if Prod.fst (Prod.snd (V.wy (Prod.fst (Prod.snd (V.wy x128 (V.q9 (V.tRows (tw,tx,ty,tz))) ax))) (V.q9 (V.tRows (tw,tx,ty,tz))) ed)) = true then k0 else k0 else none else none) ((100:Nat) + List.length l + List.length l + List.length ax + List.length ed + List.length l + (0:Nat) + (0:Nat) + (0:Nat) + (0:Nat) + (0:Nat) + (0:Nat)) (0:Int) (V.on (V.tRows (tw,tx,ty,tz)) false) []
theorem place_eq {α:Type} (l:L3) (ax:L3) (ed:L3) (r:Int) (px:Int) (p_y:Int) (pz:Int) (tw:Int) (tx:Int) (ty:Int) (tz:Int) (v123:Value) (v124:Value) (v125:Value) (Q:SV → Hp → Option α):callI E look_pways (exec E look_pways place_l0_lps 400) 12 ([SV.agg [SV.ros v123 kP l,SV.ros v124 kP ax,SV.ros v125 kP ed,SV.int .i64 r],SV.agg [SV.int .i64 px,SV.int .i64 p_y,SV.int .i64 pz,SV.int .i64 tw,SV.int .i64 tx,SV.int .i64 ty,SV.int .i64 tz]]) ([]) Q = M.place l ax ed r px p_y pz tw tx ty tz (Q (SV.tup [SV.agg [SV.sl (nat_lit 0),SV.sl (nat_lit 1),SV.sl (nat_lit 2),SV.int .i64 (0:Int)],SV.bool false]) ([.seq kP [] (nat_lit 23),.seq kP [] (nat_lit 23),.seq kP [] (nat_lit 23)])) (fun (x130 x131:Nat) (x132:Int) (x133 x134 x135:L3) => Q (SV.tup [SV.agg [SV.sl (nat_lit 0),SV.clp (nat_lit 1) kP x130,SV.clp (nat_lit 2) kP x131,SV.int .i64 x132],SV.bool true]) ([.seq kP x133 (nat_lit 23),.seq kP x134 (nat_lit 23),.seq kP x135 (nat_lit 23)])) := by kernel_rfl
def place_sp:List AS := [.st [.ro kP,.ro kP,.ro kP,.leaf (.int .i64 0)],.val (.agg [.int .i64 0,.int .i64 0,.int .i64 0,.int .i64 0,.int .i64 0,.int .i64 0,.int .i64 0])]
noncomputable def atT (m:V.T9) (p:P3):Option V.T3 := V.tTurn m (scP p 1048576)
noncomputable def atA (m:V.T9) (t:V.T3) (p:P3):Option V.T3 := V.tAdd (V.q3 (atT m p)) t
noncomputable def atQ (m:V.T9) (t:V.T3) (p:P3):P3 := (Int.fdiv (V.x3 (atA m t p)) 1048576,Int.fdiv (V.y3 (atA m t p)) 1048576,Int.fdiv (V.z3 (atA m t p)) 1048576)
/-- Points that are placed: the flag, and where they come. -/
noncomputable def placeRun (m:V.T9) (t:V.T3):List P3 → Bool → List P3 → Option (Bool × List P3)
  | [],f,a => some (f,a)
  | p :: l,f,a => if Sm p 1048576 then (if Sm (atQ m t p) 8388608 then placeRun m t l (V.on (atA m t p) (V.on (atT m p) f)) (a ++ [atQ m t p]) else none) else none
theorem place_l0_val {α:Type} (l:List P3) (hl:l.length < 1099511627776) (m:V.T9) (t:V.T3) (k0:Option α) (k2:Bool → List P3 → Option α):∀ (fuel i:Nat) (f:Bool) (a:List P3),i ≤ l.length → l.length - i < fuel → a.length ≤ i →
    M.place_l0 l (l.length:Int) t.1 t.2.1 t.2.2 m.1.1 m.1.2.1 m.1.2.2 m.2.1.1 m.2.1.2.1 m.2.1.2.2 m.2.2.1 m.2.2.2.1 m.2.2.2.2 1048576 (fun _ _ => k0) k2 fuel (i:Int) f a = (placeRun m t (l.drop i) f a).elim k0 (fun r => k2 r.1 r.2)
  | 0,i,f,a,h1,h2,h3 => by omega
  | n + 1,i,f,a,h1,h2,h3 => by
    unfold M.place_l0 M.place_l0_step
    simp only
    rw [cLt_nat]
    by_cases hi:i < l.length
    · rw [if_pos (by simpa using hi), if_pos (by omega), within_dec _ _ _ _ (by omega), within_dec _ _ _ _ (by omega), drop_pt l i hi, toNat_nat]
      show (if (!decide (Sm (pt l i) 1048576)) = true then k0 else if (!decide (Sm (atQ m t (pt l i)) 8388608)) = true then k0 else _) = _
      by_cases hs:Sm (pt l i) 1048576
      · rw [if_neg (by simpa using hs)]
        by_cases hq:Sm (atQ m t (pt l i)) 8388608
        · rw [if_neg (by simpa using hq), if_pos (by omega), w_next (by omega)]
          have ew:placeRun m t (pt l i :: l.drop (i + 1)) f a = placeRun m t (l.drop (i + 1)) (V.on (atA m t (pt l i)) (V.on (atT m (pt l i)) f)) (a ++ [atQ m t (pt l i)]) := by
            show (if Sm (pt l i) 1048576 then _ else _) = _
            rw [if_pos hs,if_pos hq]
          rw [ew]
          exact place_l0_val l hl m t k0 k2 n (i + 1) _ _ (by omega) (by omega) (by rw [List.length_append,List.length_singleton]; omega)
        · rw [if_pos (by simpa using hq)]
          have ew:placeRun m t (pt l i :: l.drop (i + 1)) f a = none := by
            show (if Sm (pt l i) 1048576 then _ else _) = _
            rw [if_pos hs,if_neg hq]
          rw [ew]; rfl
      · rw [if_pos (by simpa using hs)]
        have ew:placeRun m t (pt l i :: l.drop (i + 1)) f a = none := by
          show (if Sm (pt l i) 1048576 then _ else _) = _
          rw [if_neg hs]
        rw [ew]; rfl
    · have : i = l.length := by omega
      subst this
      rw [if_neg (by simp)]
      simp [placeRun]
/-- What comes behind the points: the ways, the flag. -/
noncomputable def plcK (m:V.T9) (ax ed:List P3) (f:Bool) (a:List P3):Option (List P3 × List P3 × List P3) :=
  if (V.wy f m ax).1 = true ∧ (V.wy (V.wy f m ax).2.1 m ed).1 = true ∧ (V.wy (V.wy f m ax).2.1 m ed).2.1 = false ∧ a.length ≠ 0 then some (a,(V.wy f m ax).2.2,(V.wy (V.wy f m ax).2.1 m ed).2.2) else none
noncomputable def plcP (l ax ed:List P3) (t:V.T3) (q:V.T4):Option (List P3 × List P3 × List P3) :=
  (placeRun (V.q9 (V.tRows q)) t l (V.on (V.tRows q) false) []).elim none (fun r => plcK (V.q9 (V.tRows q)) ax ed r.1 r.2)
noncomputable def _root_.Go.Proofs.Ytlagndfhibkjpaa.V.plc (l ax ed:List P3) (t:V.T3) (q:V.T4):Option (List P3 × List P3 × List P3) := hid (plcP l ax ed t q)
noncomputable def _root_.Go.Proofs.Ytlagndfhibkjpaa.V.plG (o:Option (List P3 × List P3 × List P3)):Bool := hid o.isSome
noncomputable def _root_.Go.Proofs.Ytlagndfhibkjpaa.V.plP (o:Option (List P3 × List P3 × List P3)):List P3 := hid (o.getD ([],[],[])).1
noncomputable def _root_.Go.Proofs.Ytlagndfhibkjpaa.V.plA (o:Option (List P3 × List P3 × List P3)):List P3 := hid (o.getD ([],[],[])).2.1
noncomputable def _root_.Go.Proofs.Ytlagndfhibkjpaa.V.plE (o:Option (List P3 × List P3 × List P3)):List P3 := hid (o.getD ([],[],[])).2.2
theorem plK_if {α:Type} (m:V.T9) (ax ed:List P3) (f:Bool) (a:List P3) (k0:Option α) (k1:List P3 → List P3 → List P3 → Option α) :
    (if Prod.fst (V.wy f m ax) = true then
        (if Prod.fst (V.wy (Prod.fst (Prod.snd (V.wy f m ax))) m ed) = true then
            (if Prod.fst (Prod.snd (V.wy (Prod.fst (Prod.snd (V.wy f m ax))) m ed)) = true then k0
            else
              if cEq (↑(List.length a):Int) (0:Int) = true then k0
              else k1 a (V.wy f m ax).2.2 (V.wy (V.wy f m ax).2.1 m ed).2.2)
          else if Prod.fst (Prod.snd (V.wy (Prod.fst (Prod.snd (V.wy f m ax))) m ed)) = true then k0 else k0)
      else
          if Prod.fst (V.wy (Prod.fst (Prod.snd (V.wy f m ax))) m ed) = true then if Prod.fst (Prod.snd (V.wy (Prod.fst (Prod.snd (V.wy f m ax))) m ed)) = true then k0 else k0 else if Prod.fst (Prod.snd (V.wy (Prod.fst (Prod.snd (V.wy f m ax))) m ed)) = true then k0 else k0) =
    if V.plG (plcK m ax ed f a) = true then k1 (V.plP (plcK m ax ed f a)) (V.plA (plcK m ax ed f a)) (V.plE (plcK m ax ed f a)) else k0 := by
  unfold V.plG V.plP V.plA V.plE
  simp only [hid_eq]
  rw [cEq_eq]
  by_cases h1:(V.wy f m ax).1 = true
  · by_cases h2 : (V.wy (V.wy f m ax).2.1 m ed).1 = true
    · by_cases h3 : (V.wy (V.wy f m ax).2.1 m ed).2.1 = true
      · have e : plcK m ax ed f a = none := by unfold plcK; rw [if_neg (by rw [h3]; simp)]
        rw [e,if_pos h1,if_pos h2,if_pos h3]; rfl
      · by_cases h4 : a.length = 0
        · have e : plcK m ax ed f a = none := by unfold plcK; rw [if_neg (by rw [h4]; simp)]
          rw [e,if_pos h1,if_pos h2,if_neg h3,if_pos (by rw [h4]; rfl)]; rfl
        · have e : plcK m ax ed f a = some (a, (V.wy f m ax).2.2, (V.wy (V.wy f m ax).2.1 m ed).2.2) := by
            unfold plcK; rw [if_pos ⟨h1,h2,by simpa using h3,h4⟩]
          rw [e,if_pos h1,if_pos h2,if_neg h3,if_neg (by simpa using h4)]; rfl
    · have e : plcK m ax ed f a = none := by unfold plcK; rw [if_neg (fun h => h2 h.2.1)]
      rw [e,if_pos h1,if_neg h2,ite_self]; rfl
  · have e : plcK m ax ed f a = none := by unfold plcK; rw [if_neg (fun h => h1 h.1)]
    rw [e,if_neg h1,ite_self,ite_self]; rfl
theorem place_v {α:Type} (l ax ed:List P3) (r px p_y pz tw tx ty tz:Int) (h1:V.lenB l.length = true) (h2:V.lenB ax.length = true) (h3:V.lenB ed.length = true) (k0:Option α) (k1:Nat → Nat → Int → List P3 → List P3 → List P3 → Option α) :
    M.place l ax ed r px p_y pz tw tx ty tz k0 k1 = if V.plG (V.plc l ax ed (px,p_y,pz) (tw,tx,ty,tz)) = true then k1 (V.plA (V.plc l ax ed (px,p_y,pz) (tw,tx,ty,tz))).length (V.plE (V.plc l ax ed (px,p_y,pz) (tw,tx,ty,tz))).length r (V.plP (V.plc l ax ed (px,p_y,pz) (tw,tx,ty,tz))) (V.plA (V.plc l ax ed (px,p_y,pz) (tw,tx,ty,tz))) (V.plE (V.plc l ax ed (px,p_y,pz) (tw,tx,ty,tz))) else k0 := by
  unfold M.place
  simp only [if_pos h2,if_pos h3]
  refine Eq.trans (place_l0_val l (lenB_lt h1) (V.q9 (V.tRows (tw,tx,ty,tz))) (px,p_y,pz) _ _ _ 0 _ [] (by omega) (by omega) (by simp)) ?_
  rw [List.drop_zero]
  have e:V.plc l ax ed (px,p_y,pz) (tw,tx,ty,tz) = plcP l ax ed (px,p_y,pz) (tw,tx,ty,tz) := by unfold V.plc; rw [hid_eq]
  rw [e]
  unfold plcP
  cases placeRun (V.q9 (V.tRows (tw,tx,ty,tz))) (px,p_y,pz) l (V.on (V.tRows (tw,tx,ty,tz)) false) [] with
  | none => unfold V.plG; simp only [hid_eq]; rfl
  | some p => exact plK_if (V.q9 (V.tRows (tw,tx,ty,tz))) ax ed p.1 p.2 k0 (fun a b c => k1 b.length c.length r a b c)
noncomputable def place_h {α:Type} (ds:List D) (Q:SV → Hp → Option α):Option α :=
  dL kP ds fun l ds => dL kP ds fun ax ds => dL kP ds fun ed ds => dI ds fun r ds => dI ds fun px ds => dI ds fun p_y ds => dI ds fun pz ds => dI ds fun tw ds => dI ds fun tx ds => dI ds fun ty ds => dI ds fun tz ds => dE ds (if V.lenB l.length = true ∧ V.lenB ax.length = true ∧ V.lenB ed.length = true then if V.plG (V.plc l ax ed (px,p_y,pz) (tw,tx,ty,tz)) = true then Q (.tup [.agg [.sl 0,.clp 1 (.st (.i .i64) [.i .i64,.i .i64]) (V.plA (V.plc l ax ed (px,p_y,pz) (tw,tx,ty,tz))).length,.clp 2 (.st (.i .i64) [.i .i64,.i .i64]) (V.plE (V.plc l ax ed (px,p_y,pz) (tw,tx,ty,tz))).length,.int .i64 r],.bool true]) ([.seq (.st (.i .i64) [.i .i64,.i .i64]) (V.plP (V.plc l ax ed (px,p_y,pz) (tw,tx,ty,tz))) 23,.seq (.st (.i .i64) [.i .i64,.i .i64]) (V.plA (V.plc l ax ed (px,p_y,pz) (tw,tx,ty,tz))) 23,.seq (.st (.i .i64) [.i .i64,.i .i64]) (V.plE (V.plc l ax ed (px,p_y,pz) (tw,tx,ty,tz))) 23]) else Q (.tup [.agg [.sl 0,.sl 1,.sl 2,.int .i64 0],.bool false]) ([.seq (.st (.i .i64) [.i .i64,.i .i64]) [] 23,.seq (.st (.i .i64) [.i .i64,.i .i64]) [] 23,.seq (.st (.i .i64) [.i .i64,.i .i64]) [] 23]) else none)
theorem place_h_ok {α:Type}:FnOk E.P 12 (fEnt (α := α) place_sp place_h) :=
  fEntR_ok E (look_pways_ok) (exec_sound E E_ok (look_pways_ok) (place_l0_lps_ok) 400) fun ds Q r h => by
    unfold place_h at h
    obtain ⟨l,ds,rfl,h1⟩ := dL_inv h
    obtain ⟨ax,ds,rfl,h2⟩ := dL_inv h1
    obtain ⟨ed,ds,rfl,h3⟩ := dL_inv h2
    obtain ⟨r,ds,rfl,h4⟩ := dI_inv h3
    obtain ⟨px,ds,rfl,h5⟩ := dI_inv h4
    obtain ⟨p_y,ds,rfl,h6⟩ := dI_inv h5
    obtain ⟨pz,ds,rfl,h7⟩ := dI_inv h6
    obtain ⟨tw,ds,rfl,h8⟩ := dI_inv h7
    obtain ⟨tx,ds,rfl,h9⟩ := dI_inv h8
    obtain ⟨ty,ds,rfl,h10⟩ := dI_inv h9
    obtain ⟨tz,ds,rfl,h11⟩ := dI_inv h10
    obtain ⟨rfl,hE⟩ := dE_inv h11
    split at hE
    · rename_i hg
      split at hE
      · rename_i hc
        exact ⟨_,_,hE,fun vs => ⟨_,_,by kernel_rfl,(place_eq l ax ed r px p_y pz tw tx ty tz ((cellsV (vs.headD undef)).headD undef) ((cellsV (vs.headD undef)).tail.headD undef) ((cellsV (vs.headD undef)).tail.tail.headD undef) _).trans ((place_v l ax ed r px p_y pz tw tx ty tz hg.1 hg.2.1 hg.2.2 _ _).trans (if_pos hc))⟩⟩
      · rename_i hc
        exact ⟨_,_,hE,fun vs => ⟨_,_,by kernel_rfl,(place_eq l ax ed r px p_y pz tw tx ty tz ((cellsV (vs.headD undef)).headD undef) ((cellsV (vs.headD undef)).tail.headD undef) ((cellsV (vs.headD undef)).tail.tail.headD undef) _).trans ((place_v l ax ed r px p_y pz tw tx ty tz hg.1 hg.2.1 hg.2.2 _ _).trans (if_neg hc))⟩⟩
    · cases hE
noncomputable def look_place {α:Type}:LookF α := addFn 12 (fEnt place_sp place_h) look_pways
theorem look_place_ok {α:Type}:LookOk E.P (look_place (α := α)) := addFn_ok place_h_ok (look_pways_ok)
end Go.Proofs.Ytlagndfhibkjpaa.Sx
end

section
/- the document's shape: small words, short directions. -/
namespace Go.Proofs.Ytlagndfhibkjpaa.Sx
open Go
set_option maxRecDepth 20000
set_option linter.unusedVariables false
set_option linter.unusedSimpArgs false
noncomputable def _root_.Go.Proofs.Ytlagndfhibkjpaa.M.dsize {α:Type} (n:Int) (k0:Int → Option α):Option α := if cLt n (0:Int) = true then k0 (IntKind.wrap .i64 ((0:Int) - n)) else k0 n
theorem dsize_eq {α:Type} (n:Int) (Q:SV → Hp → Option α):callI E look_lpoints (exec E look_lpoints noLps 400) 102 ([SV.int .i64 n]) ([]) Q = M.dsize n (fun (x0:Int) => Q (SV.int .i64 x0) ([])) := by kernel_rfl
def dsize_sp:List AS := [.val (.int .i64 0)]
noncomputable def _root_.Go.Proofs.Ytlagndfhibkjpaa.V.dsize_r0 (n:Int):Int := if cLt n (0:Int) = true then IntKind.wrap .i64 ((0:Int) - n) else n
theorem dsize_val {α:Type} (n:Int) (k0:Int → Option α):M.dsize n k0 = k0 (V.dsize_r0 n) := by
  unfold M.dsize V.dsize_r0
  repeat' first | rfl | (split <;> rename_i h <;> first | simp only [if_pos h] | simp only [if_neg h] | skip)
noncomputable def dsize_c {α:Type} (ds:List D) (Q:SV → Hp → Option α):Option α :=
  dI ds fun n ds => dE ds (Q (SV.int .i64 (V.dsize_r0 n)) ([]))
theorem dsize_c_ok {α:Type}:FnOk E.P 102 (fEnt (α := α) dsize_sp dsize_c) :=
  fEnt_ok E (look_lpoints_ok) (exec_sound E E_ok (look_lpoints_ok) (noLps_ok _) 400) fun ds Q r h => by
    unfold dsize_c at h
    obtain ⟨n,ds,rfl,h1⟩ := dI_inv h
    obtain ⟨rfl,hE⟩ := dE_inv h1
    exact ⟨[SV.int .i64 n],[],fun vs => by kernel_rfl,(dsize_eq n Q).trans ((dsize_val n (fun (x0:Int) => Q (SV.int .i64 x0) ([]))).trans hE)⟩
noncomputable def dsize_go {α:Type} (ds:List D) (Q:SV → Hp → Option α):Option α :=
  dI ds fun n ds => dE ds (M.dsize n (fun (x0:Int) => Q (SV.int .i64 x0) ([])))
theorem dsize_ok {α:Type}:FnOk E.P 102 (fEnt (α := α) dsize_sp dsize_go) :=
  fEnt_ok E (look_lpoints_ok) (exec_sound E E_ok (look_lpoints_ok) (noLps_ok _) 400) fun ds Q r h => by
    unfold dsize_go at h
    obtain ⟨n,ds,rfl,h1⟩ := dI_inv h
    obtain ⟨rfl,hE⟩ := dE_inv h1
    exact ⟨[SV.int .i64 n],[],fun vs => by kernel_rfl,(dsize_eq n Q).trans hE⟩
noncomputable def look_dsize {α:Type}:LookF α := addFn 102 (fEnt dsize_sp dsize_c) look_lpoints
theorem look_dsize_ok {α:Type}:LookOk E.P (look_dsize (α := α)) := addFn_ok dsize_c_ok (look_lpoints_ok)
noncomputable def _root_.Go.Proofs.Ytlagndfhibkjpaa.M.din {α:Type} (n:Int) (lo:Int) (hi:Int) (k0:Bool → Option α):Option α := if cLe lo n = true then k0 (cLe n hi) else k0 false
theorem din_eq {α:Type} (n:Int) (lo:Int) (hi:Int) (Q:SV → Hp → Option α):callI E look_dsize (exec E look_dsize noLps 400) 84 ([SV.int .i64 n,SV.int .i64 lo,SV.int .i64 hi]) ([]) Q = M.din n lo hi (fun (x1:Bool) => Q (SV.bool x1) ([])) := by kernel_rfl
def din_sp:List AS := [.val (.int .i64 0),.val (.int .i64 0),.val (.int .i64 0)]
noncomputable def din_go {α:Type} (ds:List D) (Q:SV → Hp → Option α):Option α :=
  dI ds fun n ds => dI ds fun lo ds => dI ds fun hi ds => dE ds (M.din n lo hi (fun (x1:Bool) => Q (SV.bool x1) ([])))
theorem din_ok {α:Type}:FnOk E.P 84 (fEnt (α := α) din_sp din_go) :=
  fEnt_ok E (look_dsize_ok) (exec_sound E E_ok (look_dsize_ok) (noLps_ok _) 400) fun ds Q r h => by
    unfold din_go at h
    obtain ⟨n,ds,rfl,h1⟩ := dI_inv h
    obtain ⟨lo,ds,rfl,h2⟩ := dI_inv h1
    obtain ⟨hi,ds,rfl,h3⟩ := dI_inv h2
    obtain ⟨rfl,hE⟩ := dE_inv h3
    exact ⟨[SV.int .i64 n,SV.int .i64 lo,SV.int .i64 hi],[],fun vs => by kernel_rfl,(din_eq n lo hi Q).trans hE⟩
theorem din_v {α:Type} (n lo hi:Int) (k0:Bool → Option α):M.din n lo hi k0 = k0 (V.shwithin_r0 n lo hi) := by
  unfold M.din V.shwithin_r0
  repeat' first | rfl | split
noncomputable def din_h {α:Type} (ds:List D) (Q:SV → Hp → Option α):Option α :=
  dI ds fun n ds => dI ds fun lo ds => dI ds fun hi ds => dE ds (Q (.bool (V.shwithin_r0 n lo hi)) ([]))
theorem din_h_ok {α:Type}:FnOk E.P 84 (fEnt (α := α) din_sp din_h) :=
  fEnt_ok E (look_dsize_ok) (exec_sound E E_ok (look_dsize_ok) (noLps_ok _) 400) fun ds Q r h => by
    unfold din_h at h
    obtain ⟨n,ds,rfl,h1⟩ := dI_inv h
    obtain ⟨lo,ds,rfl,h2⟩ := dI_inv h1
    obtain ⟨hi,ds,rfl,h3⟩ := dI_inv h2
    obtain ⟨rfl,hE⟩ := dE_inv h3
    exact ⟨[SV.int .i64 n,SV.int .i64 lo,SV.int .i64 hi],[],fun vs => by kernel_rfl,(din_eq n lo hi Q).trans ((din_v n lo hi _).trans hE)⟩
noncomputable def look_din {α:Type}:LookF α := addFn 84 (fEnt din_sp din_h) look_dsize
theorem look_din_ok {α:Type}:LookOk E.P (look_din (α := α)) := addFn_ok din_h_ok (look_dsize_ok)
noncomputable def _root_.Go.Proofs.Ytlagndfhibkjpaa.M.dminus {α:Type} (ax:Int) (ay:Int) (az:Int) (bx:Int) (b_y:Int) (bz:Int) (k0:Int → Int → Int → Option α):Option α := k0 (IntKind.wrap .i64 (ax - bx)) (IntKind.wrap .i64 (ay - b_y)) (IntKind.wrap .i64 (az - bz))
theorem dminus_eq {α:Type} (ax:Int) (ay:Int) (az:Int) (bx:Int) (b_y:Int) (bz:Int) (Q:SV → Hp → Option α):callI E look_din (exec E look_din noLps 400) 88 ([SV.agg [SV.int .i64 ax,SV.int .i64 ay,SV.int .i64 az],SV.agg [SV.int .i64 bx,SV.int .i64 b_y,SV.int .i64 bz]]) ([]) Q = M.dminus ax ay az bx b_y bz (fun (x2 x3 x4:Int) => Q (SV.agg [SV.int .i64 x2,SV.int .i64 x3,SV.int .i64 x4]) ([])) := by kernel_rfl
def dminus_sp:List AS := [.val (.agg [.int .i64 0,.int .i64 0,.int .i64 0]),.val (.agg [.int .i64 0,.int .i64 0,.int .i64 0])]
noncomputable def dminus_go {α:Type} (ds:List D) (Q:SV → Hp → Option α):Option α :=
  dI ds fun ax ds => dI ds fun ay ds => dI ds fun az ds => dI ds fun bx ds => dI ds fun b_y ds => dI ds fun bz ds => dE ds (M.dminus ax ay az bx b_y bz (fun (x2 x3 x4:Int) => Q (SV.agg [SV.int .i64 x2,SV.int .i64 x3,SV.int .i64 x4]) ([])))
theorem dminus_ok {α:Type}:FnOk E.P 88 (fEnt (α := α) dminus_sp dminus_go) :=
  fEnt_ok E (look_din_ok) (exec_sound E E_ok (look_din_ok) (noLps_ok _) 400) fun ds Q r h => by
    unfold dminus_go at h
    obtain ⟨ax,ds,rfl,h1⟩ := dI_inv h
    obtain ⟨ay,ds,rfl,h2⟩ := dI_inv h1
    obtain ⟨az,ds,rfl,h3⟩ := dI_inv h2
    obtain ⟨bx,ds,rfl,h4⟩ := dI_inv h3
    obtain ⟨b_y,ds,rfl,h5⟩ := dI_inv h4
    obtain ⟨bz,ds,rfl,h6⟩ := dI_inv h5
    obtain ⟨rfl,hE⟩ := dE_inv h6
    exact ⟨[SV.agg [SV.int .i64 ax,SV.int .i64 ay,SV.int .i64 az],SV.agg [SV.int .i64 bx,SV.int .i64 b_y,SV.int .i64 bz]],[],fun vs => by kernel_rfl,(dminus_eq ax ay az bx b_y bz Q).trans hE⟩
noncomputable def dminus_h {α:Type} (ds:List D) (Q:SV → Hp → Option α):Option α :=
  dI ds fun ax ds => dI ds fun ay ds => dI ds fun az ds => dI ds fun bx ds => dI ds fun b_y ds => dI ds fun bz ds => dE ds (Q (.agg [.int .i64 (V.pSub (ax,ay,az) (bx,b_y,bz)).1,.int .i64 (V.pSub (ax,ay,az) (bx,b_y,bz)).2.1,.int .i64 (V.pSub (ax,ay,az) (bx,b_y,bz)).2.2]) ([]))
theorem dminus_h_ok {α:Type}:FnOk E.P 88 (fEnt (α := α) dminus_sp dminus_h) :=
  fEnt_ok E (look_din_ok) (exec_sound E E_ok (look_din_ok) (noLps_ok _) 400) fun ds Q r h => by
    unfold dminus_h at h
    obtain ⟨ax,ds,rfl,h1⟩ := dI_inv h
    obtain ⟨ay,ds,rfl,h2⟩ := dI_inv h1
    obtain ⟨az,ds,rfl,h3⟩ := dI_inv h2
    obtain ⟨bx,ds,rfl,h4⟩ := dI_inv h3
    obtain ⟨b_y,ds,rfl,h5⟩ := dI_inv h4
    obtain ⟨bz,ds,rfl,h6⟩ := dI_inv h5
    obtain ⟨rfl,hE⟩ := dE_inv h6
    exact ⟨[SV.agg [SV.int .i64 ax,SV.int .i64 ay,SV.int .i64 az],SV.agg [SV.int .i64 bx,SV.int .i64 b_y,SV.int .i64 bz]],[],fun vs => by kernel_rfl,(dminus_eq ax ay az bx b_y bz Q).trans ((rfl).trans hE)⟩
noncomputable def look_dminus {α:Type}:LookF α := addFn 88 (fEnt dminus_sp dminus_h) look_din
theorem look_dminus_ok {α:Type}:LookOk E.P (look_dminus (α := α)) := addFn_ok dminus_h_ok (look_din_ok)
noncomputable def _root_.Go.Proofs.Ytlagndfhibkjpaa.M.dcross {α:Type} (ax:Int) (ay:Int) (az:Int) (bx:Int) (b_y:Int) (bz:Int) (k0:Int → Int → Int → Option α):Option α := k0 (IntKind.wrap .i64 (IntKind.wrap .i64 (ay * bz) - IntKind.wrap .i64 (az * b_y))) (IntKind.wrap .i64 (IntKind.wrap .i64 (az * bx) - IntKind.wrap .i64 (ax * bz))) (IntKind.wrap .i64 (IntKind.wrap .i64 (ax * b_y) - IntKind.wrap .i64 (ay * bx)))
theorem dcross_eq {α:Type} (ax:Int) (ay:Int) (az:Int) (bx:Int) (b_y:Int) (bz:Int) (Q:SV → Hp → Option α):callI E look_dminus (exec E look_dminus noLps 400) 105 ([SV.agg [SV.int .i64 ax,SV.int .i64 ay,SV.int .i64 az],SV.agg [SV.int .i64 bx,SV.int .i64 b_y,SV.int .i64 bz]]) ([]) Q = M.dcross ax ay az bx b_y bz (fun (x5 x6 x7:Int) => Q (SV.agg [SV.int .i64 x5,SV.int .i64 x6,SV.int .i64 x7]) ([])) := by kernel_rfl
def dcross_sp:List AS := [.val (.agg [.int .i64 0,.int .i64 0,.int .i64 0]),.val (.agg [.int .i64 0,.int .i64 0,.int .i64 0])]
noncomputable def dcross_go {α:Type} (ds:List D) (Q:SV → Hp → Option α):Option α :=
  dI ds fun ax ds => dI ds fun ay ds => dI ds fun az ds => dI ds fun bx ds => dI ds fun b_y ds => dI ds fun bz ds => dE ds (M.dcross ax ay az bx b_y bz (fun (x5 x6 x7:Int) => Q (SV.agg [SV.int .i64 x5,SV.int .i64 x6,SV.int .i64 x7]) ([])))
theorem dcross_ok {α:Type}:FnOk E.P 105 (fEnt (α := α) dcross_sp dcross_go) :=
  fEnt_ok E (look_dminus_ok) (exec_sound E E_ok (look_dminus_ok) (noLps_ok _) 400) fun ds Q r h => by
    unfold dcross_go at h
    obtain ⟨ax,ds,rfl,h1⟩ := dI_inv h
    obtain ⟨ay,ds,rfl,h2⟩ := dI_inv h1
    obtain ⟨az,ds,rfl,h3⟩ := dI_inv h2
    obtain ⟨bx,ds,rfl,h4⟩ := dI_inv h3
    obtain ⟨b_y,ds,rfl,h5⟩ := dI_inv h4
    obtain ⟨bz,ds,rfl,h6⟩ := dI_inv h5
    obtain ⟨rfl,hE⟩ := dE_inv h6
    exact ⟨[SV.agg [SV.int .i64 ax,SV.int .i64 ay,SV.int .i64 az],SV.agg [SV.int .i64 bx,SV.int .i64 b_y,SV.int .i64 bz]],[],fun vs => by kernel_rfl,(dcross_eq ax ay az bx b_y bz Q).trans hE⟩
noncomputable def dcross_h {α:Type} (ds:List D) (Q:SV → Hp → Option α):Option α :=
  dI ds fun ax ds => dI ds fun ay ds => dI ds fun az ds => dI ds fun bx ds => dI ds fun b_y ds => dI ds fun bz ds => dE ds (Q (.agg [.int .i64 (V.pCross (ax,ay,az) (bx,b_y,bz)).1,.int .i64 (V.pCross (ax,ay,az) (bx,b_y,bz)).2.1,.int .i64 (V.pCross (ax,ay,az) (bx,b_y,bz)).2.2]) ([]))
theorem dcross_h_ok {α:Type}:FnOk E.P 105 (fEnt (α := α) dcross_sp dcross_h) :=
  fEnt_ok E (look_dminus_ok) (exec_sound E E_ok (look_dminus_ok) (noLps_ok _) 400) fun ds Q r h => by
    unfold dcross_h at h
    obtain ⟨ax,ds,rfl,h1⟩ := dI_inv h
    obtain ⟨ay,ds,rfl,h2⟩ := dI_inv h1
    obtain ⟨az,ds,rfl,h3⟩ := dI_inv h2
    obtain ⟨bx,ds,rfl,h4⟩ := dI_inv h3
    obtain ⟨b_y,ds,rfl,h5⟩ := dI_inv h4
    obtain ⟨bz,ds,rfl,h6⟩ := dI_inv h5
    obtain ⟨rfl,hE⟩ := dE_inv h6
    exact ⟨[SV.agg [SV.int .i64 ax,SV.int .i64 ay,SV.int .i64 az],SV.agg [SV.int .i64 bx,SV.int .i64 b_y,SV.int .i64 bz]],[],fun vs => by kernel_rfl,(dcross_eq ax ay az bx b_y bz Q).trans ((rfl).trans hE)⟩
noncomputable def look_dcross {α:Type}:LookF α := addFn 105 (fEnt dcross_sp dcross_h) look_dminus
theorem look_dcross_ok {α:Type}:LookOk E.P (look_dcross (α := α)) := addFn_ok dcross_h_ok (look_dminus_ok)
noncomputable def _root_.Go.Proofs.Ytlagndfhibkjpaa.M.ddot {α:Type} (ax:Int) (ay:Int) (az:Int) (bx:Int) (b_y:Int) (bz:Int) (k0:Int → Option α):Option α := k0 (IntKind.wrap .i64 (IntKind.wrap .i64 (IntKind.wrap .i64 (ax * bx) + IntKind.wrap .i64 (ay * b_y)) + IntKind.wrap .i64 (az * bz)))
theorem ddot_eq {α:Type} (ax:Int) (ay:Int) (az:Int) (bx:Int) (b_y:Int) (bz:Int) (Q:SV → Hp → Option α):callI E look_dcross (exec E look_dcross noLps 400) 87 ([SV.agg [SV.int .i64 ax,SV.int .i64 ay,SV.int .i64 az],SV.agg [SV.int .i64 bx,SV.int .i64 b_y,SV.int .i64 bz]]) ([]) Q = M.ddot ax ay az bx b_y bz (fun (x8:Int) => Q (SV.int .i64 x8) ([])) := by kernel_rfl
def ddot_sp:List AS := [.val (.agg [.int .i64 0,.int .i64 0,.int .i64 0]),.val (.agg [.int .i64 0,.int .i64 0,.int .i64 0])]
noncomputable def ddot_go {α:Type} (ds:List D) (Q:SV → Hp → Option α):Option α :=
  dI ds fun ax ds => dI ds fun ay ds => dI ds fun az ds => dI ds fun bx ds => dI ds fun b_y ds => dI ds fun bz ds => dE ds (M.ddot ax ay az bx b_y bz (fun (x8:Int) => Q (SV.int .i64 x8) ([])))
theorem ddot_ok {α:Type}:FnOk E.P 87 (fEnt (α := α) ddot_sp ddot_go) :=
  fEnt_ok E (look_dcross_ok) (exec_sound E E_ok (look_dcross_ok) (noLps_ok _) 400) fun ds Q r h => by
    unfold ddot_go at h
    obtain ⟨ax,ds,rfl,h1⟩ := dI_inv h
    obtain ⟨ay,ds,rfl,h2⟩ := dI_inv h1
    obtain ⟨az,ds,rfl,h3⟩ := dI_inv h2
    obtain ⟨bx,ds,rfl,h4⟩ := dI_inv h3
    obtain ⟨b_y,ds,rfl,h5⟩ := dI_inv h4
    obtain ⟨bz,ds,rfl,h6⟩ := dI_inv h5
    obtain ⟨rfl,hE⟩ := dE_inv h6
    exact ⟨[SV.agg [SV.int .i64 ax,SV.int .i64 ay,SV.int .i64 az],SV.agg [SV.int .i64 bx,SV.int .i64 b_y,SV.int .i64 bz]],[],fun vs => by kernel_rfl,(ddot_eq ax ay az bx b_y bz Q).trans hE⟩
noncomputable def ddot_h {α:Type} (ds:List D) (Q:SV → Hp → Option α):Option α :=
  dI ds fun ax ds => dI ds fun ay ds => dI ds fun az ds => dI ds fun bx ds => dI ds fun b_y ds => dI ds fun bz ds => dE ds (Q (.int .i64 (V.pDot (ax,ay,az) (bx,b_y,bz))) ([]))
theorem ddot_h_ok {α:Type}:FnOk E.P 87 (fEnt (α := α) ddot_sp ddot_h) :=
  fEnt_ok E (look_dcross_ok) (exec_sound E E_ok (look_dcross_ok) (noLps_ok _) 400) fun ds Q r h => by
    unfold ddot_h at h
    obtain ⟨ax,ds,rfl,h1⟩ := dI_inv h
    obtain ⟨ay,ds,rfl,h2⟩ := dI_inv h1
    obtain ⟨az,ds,rfl,h3⟩ := dI_inv h2
    obtain ⟨bx,ds,rfl,h4⟩ := dI_inv h3
    obtain ⟨b_y,ds,rfl,h5⟩ := dI_inv h4
    obtain ⟨bz,ds,rfl,h6⟩ := dI_inv h5
    obtain ⟨rfl,hE⟩ := dE_inv h6
    exact ⟨[SV.agg [SV.int .i64 ax,SV.int .i64 ay,SV.int .i64 az],SV.agg [SV.int .i64 bx,SV.int .i64 b_y,SV.int .i64 bz]],[],fun vs => by kernel_rfl,(ddot_eq ax ay az bx b_y bz Q).trans ((rfl).trans hE)⟩
noncomputable def look_ddot {α:Type}:LookF α := addFn 87 (fEnt ddot_sp ddot_h) look_dcross
theorem look_ddot_ok {α:Type}:LookOk E.P (look_ddot (α := α)) := addFn_ok ddot_h_ok (look_dcross_ok)
noncomputable abbrev dbare_S1 (y1 y2 y3 y4 y5 y6 y7 y8 y9:Int) (y10:List Int):St := St.mk (none :: some (SV.ptr (nat_lit 0) (nat_lit 0)) :: some (SV.ptr (nat_lit 1) (nat_lit 0)) :: none :: some (SV.sl (nat_lit 2)) :: some (SV.int .i64 y1) :: some (SV.int .i64 y2) :: some (SV.int .i64 y3) :: nn 44 ([])) [.cells [SV.int .i64 y4,SV.int .i64 y5,SV.int .i64 y6] (nat_lit 23),.cells [SV.int .i64 y7,SV.int .i64 y8,SV.int .i64 y9] (nat_lit 23),.seq (K.int IntKind.i64) y10 (nat_lit 3)]
noncomputable abbrev dbare_S2 (y1 y2 y3 y4 y5 y6 y7 y8:Int) (y9:List Int):St := St.mk (none :: some (SV.ptr (nat_lit 0) (nat_lit 0)) :: some (SV.ptr (nat_lit 1) (nat_lit 0)) :: none :: some (SV.sl (nat_lit 2)) :: some (SV.int .i64 y1) :: some (SV.int .i64 y2) :: nn 45 ([])) [.cells [SV.int .i64 y3,SV.int .i64 y4,SV.int .i64 y5] (nat_lit 23),.cells [SV.int .i64 y6,SV.int .i64 y7,SV.int .i64 y8] (nat_lit 23),.seq (K.int IntKind.i64) y9 (nat_lit 3)]
noncomputable abbrev dbare_S3:St := St.mk (none :: some (SV.ptr (nat_lit 0) (nat_lit 0)) :: some (SV.ptr (nat_lit 1) (nat_lit 0)) :: none :: some (SV.sl (nat_lit 2)) :: some (SV.int .i64 (0:Int)) :: some (SV.int .i64 (0:Int)) :: some (SV.int .i64 (0:Int)) :: nn 44 ([])) [.cells [SV.int .i64 (0:Int),SV.int .i64 (0:Int),SV.int .i64 (0:Int)] (nat_lit 23),.cells [SV.int .i64 (0:Int),SV.int .i64 (0:Int),SV.int .i64 (0:Int)] (nat_lit 23),.seq (K.int IntKind.i64) [] (nat_lit 3)]
noncomputable abbrev dbare_S4 (y1 y2 y3 y4 y5 y6 y7 y8:Int) (y9:List Int):St := St.mk (none :: some (SV.ptr (nat_lit 0) (nat_lit 0)) :: some (SV.ptr (nat_lit 1) (nat_lit 0)) :: some (SV.int .i64 y1) :: some (SV.sl (nat_lit 2)) :: some (SV.int .i64 y2) :: nn 46 ([])) [.cells [SV.int .i64 y3,SV.int .i64 y4,SV.int .i64 y5] (nat_lit 23),.cells [SV.int .i64 y6,SV.int .i64 y7,SV.int .i64 y8] (nat_lit 23),.seq (K.int IntKind.i64) y9 (nat_lit 3)]
noncomputable abbrev dbare_S5 (y1 y2 y3 y4 y5 y6 y7:Int):St := St.mk (none :: some (SV.ptr (nat_lit 0) (nat_lit 0)) :: some (SV.ptr (nat_lit 1) (nat_lit 0)) :: some (SV.int .i64 y1) :: nn 48 ([])) [.cells [SV.int .i64 y2,SV.int .i64 y3,SV.int .i64 y4] (nat_lit 23),.cells [SV.int .i64 y5,SV.int .i64 y6,SV.int .i64 y7] (nat_lit 23)]
noncomputable abbrev dbare_S6:St := St.mk (none :: some (SV.ptr (nat_lit 0) (nat_lit 0)) :: some (SV.ptr (nat_lit 1) (nat_lit 0)) :: some (SV.int .i64 (0:Int)) :: some (SV.sl (nat_lit 2)) :: some (SV.int .i64 (0:Int)) :: nn 46 ([])) [.cells [SV.int .i64 (0:Int),SV.int .i64 (0:Int),SV.int .i64 (0:Int)] (nat_lit 23),.cells [SV.int .i64 (0:Int),SV.int .i64 (0:Int),SV.int .i64 (0:Int)] (nat_lit 23),.seq (K.int IntKind.i64) [] (nat_lit 3)]
abbrev dbare_P1:List Bool := [false,false,true,true,false,false,true,false,false,true,false,true,true,true]
abbrev dbare_P2:List Bool := [false,true,false,true,true,true]
noncomputable def _root_.Go.Proofs.Ytlagndfhibkjpaa.M.dbare_l0_step {α:Type} (kn:Int → Int → Option α) (k1:Int → Option α) (x38 x39:Int):Option α := if (!cEq x39 (0:Int)) = true then if x39 = (0:Int) then none else kn x39 (Int.tmod x38 x39) else k1 x38
noncomputable def _root_.Go.Proofs.Ytlagndfhibkjpaa.M.dbare_l0 {α:Type} (k1:Int → Option α):Nat → Int → Int → Option α
  | 0,_,_ => none
  | n + 1,x38,x39 => M.dbare_l0_step (M.dbare_l0 k1 n) k1 x38 x39
theorem dbare_l0_step_eq {α:Type} (x37 x38 x39 x40 x41 x42 x43 x44 x45:Int) (x46:List Int) (Q:Ex → St → Option α):(loopStep E (exec E look_ddot noLps 400) 101 dbare_P1 0 (codeAt E.P 101 dbare_P1)) (dbare_S1 x37 x38 x39 x40 x41 x42 x43 x44 x45 x46) Q = M.dbare_l0_step (fun (x48 x49:Int) => Q .normal (dbare_S1 x37 x48 x49 x40 x41 x42 x43 x44 x45 x46)) (fun (x47:Int) => Q (.exit 2) (dbare_S2 x37 x47 x40 x41 x42 x43 x44 x45 x46)) x38 x39 := by kernel_rfl
theorem dbare_l0_iter {α:Type} (x37 x40 x41 x42 x43 x44 x45:Int) (x46:List Int) (Q:Ex → St → Option α):∀ (n:Nat) (x38 x39:Int),iter (loopStep E (exec E look_ddot noLps 400) 101 dbare_P1 0 (codeAt E.P 101 dbare_P1)) n (dbare_S1 x37 x38 x39 x40 x41 x42 x43 x44 x45 x46) Q = M.dbare_l0 (fun (x47:Int) => Q (.exit 2) (dbare_S2 x37 x47 x40 x41 x42 x43 x44 x45 x46)) n x38 x39
  | 0,_,_ => rfl
  | n + 1,x38,x39 => (dbare_l0_step_eq x37 x38 x39 x40 x41 x42 x43 x44 x45 x46 (iterK (loopStep E (exec E look_ddot noLps 400) 101 dbare_P1 0 (codeAt E.P 101 dbare_P1)) n Q)).trans (congrArg (fun kn => M.dbare_l0_step kn (fun (x47:Int) => Q (.exit 2) (dbare_S2 x37 x47 x40 x41 x42 x43 x44 x45 x46)) x38 x39) (funext fun x38 => funext fun x39 => dbare_l0_iter x37 x40 x41 x42 x43 x44 x45 x46 Q n x38 x39))
noncomputable def dbare_l0_go {α:Type} (ds:List D) (Q:Ex → St → Option α):Option α :=
  dI ds fun x37 ds => dI ds fun x38 ds => dI ds fun x39 ds => dI ds fun x40 ds => dI ds fun x41 ds => dI ds fun x42 ds => dI ds fun x43 ds => dI ds fun x44 ds => dI ds fun x45 ds => dL (K.int IntKind.i64) ds fun x46 ds => dE ds (M.dbare_l0 (fun (x47:Int) => Q (.exit 2) (dbare_S2 x37 x47 x40 x41 x42 x43 x44 x45 x46)) (100 + x46.length) x38 x39)
theorem dbare_l0_ok {α:Type}:LoopOk E.P 101 dbare_P1 0 (lEnt (α := α) (dbare_S3) dbare_l0_go) :=
  lEnt_ok E (exec_sound E E_ok (look_ddot_ok) (noLps_ok _) 400) fun ds Q r h S hS => by
    unfold dbare_l0_go at h
    obtain ⟨x37,ds,rfl,h1⟩ := dI_inv h
    obtain ⟨x38,ds,rfl,h2⟩ := dI_inv h1
    obtain ⟨x39,ds,rfl,h3⟩ := dI_inv h2
    obtain ⟨x40,ds,rfl,h4⟩ := dI_inv h3
    obtain ⟨x41,ds,rfl,h5⟩ := dI_inv h4
    obtain ⟨x42,ds,rfl,h6⟩ := dI_inv h5
    obtain ⟨x43,ds,rfl,h7⟩ := dI_inv h6
    obtain ⟨x44,ds,rfl,h8⟩ := dI_inv h7
    obtain ⟨x45,ds,rfl,h9⟩ := dI_inv h8
    obtain ⟨x46,ds,rfl,h10⟩ := dL_inv h9
    obtain ⟨rfl,hE⟩ := dE_inv h10
    have e:fillS (dbare_S3) [.i x37,.i x38,.i x39,.i x40,.i x41,.i x42,.i x43,.i x44,.i x45,.l (K.int IntKind.i64) x46] = some (dbare_S1 x37 x38 x39 x40 x41 x42 x43 x44 x45 x46) := by kernel_rfl
    rw [e] at hS
    cases hS
    exact ⟨_,(dbare_l0_iter x37 x40 x41 x42 x43 x44 x45 x46 Q _ x38 x39).trans hE⟩
noncomputable def dbare_l0_lps {α:Type}:LookL α := addLp 101 dbare_P1 0 (lEnt (dbare_S3) dbare_l0_go) noLps
theorem dbare_l0_lps_ok {α:Type}:LoopsOk E.P (dbare_l0_lps (α := α)) := addLp_ok dbare_l0_ok (noLps_ok _)

noncomputable def _root_.Go.Proofs.Ytlagndfhibkjpaa.M.dbare_l1_step {α:Type} (x58:List Int) (kn:Int → Int → Option α) (k1:Int → Option α) (x50 x51:Int):Option α := if cLt x51 (3:Int) = true then if (0:Int) ≤ x51 ∧ x51 < (↑(List.length x58):Int) then M.dbare_l0 (fun (x59:Int) ↦ kn x59 (IntKind.wrap .i64 (x51 + (1:Int)))) ((100:Nat) + List.length x58) x50 (List.getD x58 (Int.toNat x51) (0:Int)) else none else k1 x50
noncomputable def _root_.Go.Proofs.Ytlagndfhibkjpaa.M.dbare_l1 {α:Type} (x58:List Int) (k1:Int → Option α):Nat → Int → Int → Option α
  | 0,_,_ => none
  | n + 1,x50,x51 => M.dbare_l1_step x58 (M.dbare_l1 x58 k1 n) k1 x50 x51
theorem dbare_l1_step_eq {α:Type} (x50 x51 x52 x53 x54 x55 x56 x57:Int) (x58:List Int) (Q:Ex → St → Option α):(loopStep E (exec E look_ddot dbare_l0_lps 400) 101 dbare_P2 0 (codeAt E.P 101 dbare_P2)) (dbare_S4 x50 x51 x52 x53 x54 x55 x56 x57 x58) Q = M.dbare_l1_step x58 (fun (x61 x62:Int) => Q .normal (dbare_S4 x61 x62 x52 x53 x54 x55 x56 x57 x58)) (fun (x60:Int) => Q (.exit 0) (dbare_S5 x60 x52 x53 x54 x55 x56 x57)) x50 x51 := by kernel_rfl
theorem dbare_l1_iter {α:Type} (x52 x53 x54 x55 x56 x57:Int) (x58:List Int) (Q:Ex → St → Option α):∀ (n:Nat) (x50 x51:Int),iter (loopStep E (exec E look_ddot dbare_l0_lps 400) 101 dbare_P2 0 (codeAt E.P 101 dbare_P2)) n (dbare_S4 x50 x51 x52 x53 x54 x55 x56 x57 x58) Q = M.dbare_l1 x58 (fun (x60:Int) => Q (.exit 0) (dbare_S5 x60 x52 x53 x54 x55 x56 x57)) n x50 x51
  | 0,_,_ => rfl
  | n + 1,x50,x51 => (dbare_l1_step_eq x50 x51 x52 x53 x54 x55 x56 x57 x58 (iterK (loopStep E (exec E look_ddot dbare_l0_lps 400) 101 dbare_P2 0 (codeAt E.P 101 dbare_P2)) n Q)).trans (congrArg (fun kn => M.dbare_l1_step x58 kn (fun (x60:Int) => Q (.exit 0) (dbare_S5 x60 x52 x53 x54 x55 x56 x57)) x50 x51) (funext fun x50 => funext fun x51 => dbare_l1_iter x52 x53 x54 x55 x56 x57 x58 Q n x50 x51))
noncomputable def dbare_l1_go {α:Type} (ds:List D) (Q:Ex → St → Option α):Option α :=
  dI ds fun x50 ds => dI ds fun x51 ds => dI ds fun x52 ds => dI ds fun x53 ds => dI ds fun x54 ds => dI ds fun x55 ds => dI ds fun x56 ds => dI ds fun x57 ds => dL (K.int IntKind.i64) ds fun x58 ds => dE ds (M.dbare_l1 x58 (fun (x60:Int) => Q (.exit 0) (dbare_S5 x60 x52 x53 x54 x55 x56 x57)) (100 + x58.length) x50 x51)
theorem dbare_l1_ok {α:Type}:LoopOk E.P 101 dbare_P2 0 (lEnt (α := α) (dbare_S6) dbare_l1_go) :=
  lEnt_ok E (exec_sound E E_ok (look_ddot_ok) (dbare_l0_lps_ok) 400) fun ds Q r h S hS => by
    unfold dbare_l1_go at h
    obtain ⟨x50,ds,rfl,h1⟩ := dI_inv h
    obtain ⟨x51,ds,rfl,h2⟩ := dI_inv h1
    obtain ⟨x52,ds,rfl,h3⟩ := dI_inv h2
    obtain ⟨x53,ds,rfl,h4⟩ := dI_inv h3
    obtain ⟨x54,ds,rfl,h5⟩ := dI_inv h4
    obtain ⟨x55,ds,rfl,h6⟩ := dI_inv h5
    obtain ⟨x56,ds,rfl,h7⟩ := dI_inv h6
    obtain ⟨x57,ds,rfl,h8⟩ := dI_inv h7
    obtain ⟨x58,ds,rfl,h9⟩ := dL_inv h8
    obtain ⟨rfl,hE⟩ := dE_inv h9
    have e:fillS (dbare_S6) [.i x50,.i x51,.i x52,.i x53,.i x54,.i x55,.i x56,.i x57,.l (K.int IntKind.i64) x58] = some (dbare_S4 x50 x51 x52 x53 x54 x55 x56 x57 x58) := by kernel_rfl
    rw [e] at hS
    cases hS
    exact ⟨_,(dbare_l1_iter x52 x53 x54 x55 x56 x57 x58 Q _ x50 x51).trans hE⟩
noncomputable def dbare_l1_lps {α:Type}:LookL α := addLp 101 dbare_P2 0 (lEnt (dbare_S6) dbare_l1_go) dbare_l0_lps
theorem dbare_l1_lps_ok {α:Type}:LoopsOk E.P (dbare_l1_lps (α := α)) := addLp_ok dbare_l1_ok (dbare_l0_lps_ok)

noncomputable def _root_.Go.Proofs.Ytlagndfhibkjpaa.M.dbare {α:Type} (ax:Int) (ay:Int) (az:Int) (k0:Int → Int → Int → Option α):Option α := M.dbare_l1 [V.dsize_r0 ax,V.dsize_r0 ay,V.dsize_r0 az] (fun (x63:Int) ↦ if cEq x63 (0:Int) = true then k0 ax ay az else if x63 = (0:Int) then none else if x63 = (0:Int) then none else if x63 = (0:Int) then none else k0 (IntKind.wrap .i64 (Int.tdiv ax x63)) (IntKind.wrap .i64 (Int.tdiv ay x63)) (IntKind.wrap .i64 (Int.tdiv az x63))) ((100:Nat) + ((2:Nat) + (1:Nat))) (0:Int) (0:Int)
theorem dbare_eq {α:Type} (ax:Int) (ay:Int) (az:Int) (Q:SV → Hp → Option α):callI E look_ddot (exec E look_ddot dbare_l1_lps 400) 101 ([SV.agg [SV.int .i64 ax,SV.int .i64 ay,SV.int .i64 az]]) ([]) Q = M.dbare ax ay az (fun (x64 x65 x66:Int) => Q (SV.agg [SV.int .i64 x64,SV.int .i64 x65,SV.int .i64 x66]) ([])) := by kernel_rfl
def dbare_sp:List AS := [.val (.agg [.int .i64 0,.int .i64 0,.int .i64 0])]
noncomputable def dbare_go {α:Type} (ds:List D) (Q:SV → Hp → Option α):Option α :=
  dI ds fun ax ds => dI ds fun ay ds => dI ds fun az ds => dE ds (M.dbare ax ay az (fun (x64 x65 x66:Int) => Q (SV.agg [SV.int .i64 x64,SV.int .i64 x65,SV.int .i64 x66]) ([])))
theorem dbare_ok {α:Type}:FnOk E.P 101 (fEnt (α := α) dbare_sp dbare_go) :=
  fEnt_ok E (look_ddot_ok) (exec_sound E E_ok (look_ddot_ok) (dbare_l1_lps_ok) 400) fun ds Q r h => by
    unfold dbare_go at h
    obtain ⟨ax,ds,rfl,h1⟩ := dI_inv h
    obtain ⟨ay,ds,rfl,h2⟩ := dI_inv h1
    obtain ⟨az,ds,rfl,h3⟩ := dI_inv h2
    obtain ⟨rfl,hE⟩ := dE_inv h3
    exact ⟨[SV.agg [SV.int .i64 ax,SV.int .i64 ay,SV.int .i64 az]],[],fun vs => by kernel_rfl,(dbare_eq ax ay az Q).trans hE⟩
theorem dgcd_val {α:Type} (k1:Int → Option α):∀ (k f a b:Nat),b < 2 ^ k → 2 * k + 1 ≤ f → M.dbare_l0 k1 f (a:Int) (b:Int) = k1 ((Nat.gcd a b:Nat):Int) := by
  intro k
  induction k with
  | zero =>
    intro f a b hb hf
    obtain ⟨f,rfl⟩:∃ g,f = g + 1 := ⟨f - 1,by omega⟩
    have h0:b = 0 := by simp at hb; exact hb
    subst h0
    simp [M.dbare_l0,M.dbare_l0_step,cEq_eq]
  | succ k ih =>
    intro f a b hb hf
    obtain ⟨f,rfl⟩:∃ g,f = g + 2 := ⟨f - 2,by omega⟩
    by_cases h0:b = 0
    · subst h0
      simp [M.dbare_l0,M.dbare_l0_step,cEq_eq]
    · have hbi : (b : Int) ≠ 0 := by omega
      have t1:Int.tmod (a:Int) (b:Int) = ((a % b:Nat):Int) := rfl
      by_cases h1:a % b = 0
      · have e : Nat.gcd a b = b := by rw [Nat.gcd_comm, Nat.gcd_rec, h1, Nat.gcd_zero_left]
        simp [M.dbare_l0,M.dbare_l0_step,cEq_eq,hbi,t1,h1,e,h0]
      · have h1i : ((a % b : Nat) : Int) ≠ 0 := by omega
        have t2:Int.tmod (b:Int) ((a % b:Nat):Int) = ((b % (a % b):Nat):Int) := rfl
        have hh := mod_half (Nat.pos_of_ne_zero h1) (Nat.mod_lt a (Nat.pos_of_ne_zero h0))
        have e:Nat.gcd (a % b) (b % (a % b)) = Nat.gcd a b := by rw [Nat.gcd_comm (a % b),← Nat.gcd_rec,← Nat.gcd_rec,Nat.gcd_comm]
        have hi := ih f (a % b) (b % (a % b)) (by rw [Nat.pow_succ] at hb; omega) (by omega)
        rw [e] at hi
        rw [← hi]
        show M.dbare_l0_step _ k1 _ _ = _
        unfold M.dbare_l0_step
        rw [cEq_eq,if_pos (by simpa using h0),if_neg hbi,t1]
        show M.dbare_l0_step _ k1 _ _ = _
        unfold M.dbare_l0_step
        rw [cEq_eq,if_pos (by simp only [Bool.not_eq_true',beq_eq_false_iff_ne,ne_eq]; exact h1i),if_neg h1i,t2]
theorem dsz_abs {n:Int} (h:-9223372036854775807 ≤ n ∧ n ≤ 9223372036854775807):V.dsize_r0 n = (n.natAbs:Int) := by
  unfold V.dsize_r0
  rw [cLt_eq,IntWalk.i64_in _ (by omega)]
  by_cases hn:n < 0
  · rw [if_pos (by simpa using hn)]; omega
  · rw [if_neg (by simpa using hn)]; omega
noncomputable def _root_.Go.Proofs.Ytlagndfhibkjpaa.V.brB (p:P3):Bool := hid (!bigP p 4398046511104)
noncomputable def _root_.Go.Proofs.Ytlagndfhibkjpaa.V.pBare (p:P3):P3 := hid (bareP p)
theorem brB_iff {p:P3}:V.brB p = true ↔ bigP p 4398046511104 = false := by unfold V.brB; rw [hid_eq]; simp
theorem dbare_v {α:Type} (ax ay az:Int) (hg:V.brB (ax,ay,az) = true) (k0:Int → Int → Int → Option α):M.dbare ax ay az k0 = k0 (V.pBare (ax,ay,az)).1 (V.pBare (ax,ay,az)).2.1 (V.pBare (ax,ay,az)).2.2 := by
  have hb := brB_iff.1 hg
  obtain ⟨h1,h2,h3⟩ := bigP_false hb
  simp only at h1 h2 h3
  unfold M.dbare V.pBare
  rw [hid_eq,dsz_abs (by omega),dsz_abs (by omega),dsz_abs (by omega)]
  have w0:IntKind.wrap .i64 (0 + 1) = 1 := by decide
  have w1:IntKind.wrap .i64 (1 + 1) = 2 := by decide
  have w2:IntKind.wrap .i64 (2 + 1) = 3 := by decide
  have l0:cLt (0:Int) 3 = true := by rw [cLt_eq]; decide
  have l1:cLt (1:Int) 3 = true := by rw [cLt_eq]; decide
  have l2:cLt (2:Int) 3 = true := by rw [cLt_eq]; decide
  have l3:¬ cLt (3:Int) 3 = true := by rw [cLt_eq]; decide
  have c0:(0:Int) ≤ 0 ∧ (0:Int) < ((List.length [(ax.natAbs:Int),(ay.natAbs:Int),(az.natAbs:Int)]:Nat):Int) := by simp
  have c1:(0:Int) ≤ 1 ∧ (1:Int) < ((List.length [(ax.natAbs:Int),(ay.natAbs:Int),(az.natAbs:Int)]:Nat):Int) := by simp
  have c2:(0:Int) ≤ 2 ∧ (2:Int) < ((List.length [(ax.natAbs:Int),(ay.natAbs:Int),(az.natAbs:Int)]:Nat):Int) := by simp
  rw [show (100:Nat) + (2 + 1) = 99 + 4 from rfl]
  unfold M.dbare_l1 M.dbare_l1_step
  rw [if_pos l0,if_pos c0]
  refine Eq.trans (dgcd_val _ 49 _ 0 ax.natAbs (by omega) (by simp)) ?_
  rw [w0]
  unfold M.dbare_l1 M.dbare_l1_step
  rw [if_pos l1,if_pos c1]
  refine Eq.trans (dgcd_val _ 49 _ _ ay.natAbs (by omega) (by simp)) ?_
  rw [w1]
  unfold M.dbare_l1 M.dbare_l1_step
  rw [if_pos l2,if_pos c2]
  refine Eq.trans (dgcd_val _ 49 _ _ az.natAbs (by omega) (by simp)) ?_
  rw [w2]
  unfold M.dbare_l1 M.dbare_l1_step
  have hgd:Nat.gcd (Nat.gcd ax.natAbs ay.natAbs) az.natAbs = gcd3 (ax,ay,az) := rfl
  rw [if_neg l3,Nat.gcd_zero_left,hgd]
  show (if cEq ((gcd3 (ax,ay,az):Nat):Int) 0 = true then k0 ax ay az else if ((gcd3 (ax,ay,az):Nat):Int) = 0 then none else if ((gcd3 (ax,ay,az):Nat):Int) = 0 then none else if ((gcd3 (ax,ay,az):Nat):Int) = 0 then none else k0 (IntKind.wrap .i64 (Int.tdiv ax (gcd3 (ax,ay,az)))) (IntKind.wrap .i64 (Int.tdiv ay (gcd3 (ax,ay,az)))) (IntKind.wrap .i64 (Int.tdiv az (gcd3 (ax,ay,az))))) = _
  by_cases h0:(ax,ay,az) = ((0,0,0):P3)
  · cases h0
    rw [if_pos (by rw [cEq_eq]; decide)]
    rfl
  · have hp := gcd3_pos h0
    have hq:(gcd3 (ax,ay,az):Int) ≠ 0 := by omega
    rw [if_neg (by rw [cEq_eq]; simpa using hq)]
    have hd := bigP_false (bigP_div (gcd3 (ax,ay,az)) hb)
    simp only [divP] at hd
    rw [if_neg hq,if_neg hq,if_neg hq]
    rw [IntWalk.i64_in _ (by omega),IntWalk.i64_in _ (by omega),IntWalk.i64_in _ (by omega)]
    rfl
noncomputable def dbare_h {α:Type} (ds:List D) (Q:SV → Hp → Option α):Option α :=
  dI ds fun ax ds => dI ds fun ay ds => dI ds fun az ds => dE ds (if V.brB (ax,ay,az) = true then Q (.agg [.int .i64 (V.pBare (ax,ay,az)).1,.int .i64 (V.pBare (ax,ay,az)).2.1,.int .i64 (V.pBare (ax,ay,az)).2.2]) ([]) else none)
theorem dbare_h_ok {α:Type}:FnOk E.P 101 (fEnt (α := α) dbare_sp dbare_h) :=
  fEnt_ok E (look_ddot_ok) (exec_sound E E_ok (look_ddot_ok) (dbare_l1_lps_ok) 400) fun ds Q r h => by
    unfold dbare_h at h
    obtain ⟨ax,ds,rfl,h1⟩ := dI_inv h
    obtain ⟨ay,ds,rfl,h2⟩ := dI_inv h1
    obtain ⟨az,ds,rfl,h3⟩ := dI_inv h2
    obtain ⟨rfl,hE⟩ := dE_inv h3
    split at hE
    · rename_i hg
      exact ⟨[SV.agg [SV.int .i64 ax,SV.int .i64 ay,SV.int .i64 az]],[],fun vs => by kernel_rfl,(dbare_eq ax ay az Q).trans ((dbare_v ax ay az hg _).trans hE)⟩
    · cases hE
noncomputable def look_dbare {α:Type}:LookF α := addFn 101 (fEnt dbare_sp dbare_h) look_ddot
theorem look_dbare_ok {α:Type}:LookOk E.P (look_dbare (α := α)) := addFn_ok dbare_h_ok (look_ddot_ok)
end Go.Proofs.Ytlagndfhibkjpaa.Sx
end

section
/- the document's short directions. -/
namespace Go.Proofs.Ytlagndfhibkjpaa.Sx
open Go
set_option maxRecDepth 20000
set_option linter.unusedVariables false
set_option linter.unusedSimpArgs false
noncomputable abbrev dshort_S1 (y1 y2 y3 y4 y5 y6:Int):St := St.mk (none :: none :: some (SV.ptr (nat_lit 0) (nat_lit 0)) :: some (SV.ptr (nat_lit 1) (nat_lit 0)) :: nn 47 ([])) [.cells [SV.int .i64 y1,SV.int .i64 y2,SV.int .i64 y3] (nat_lit 23),.cells [SV.int .i64 y4,SV.int .i64 y5,SV.int .i64 y6] (nat_lit 23)]
noncomputable abbrev dshort_S2:St := St.mk (none :: none :: some (SV.ptr (nat_lit 0) (nat_lit 0)) :: some (SV.ptr (nat_lit 1) (nat_lit 0)) :: nn 47 ([])) [.cells [SV.int .i64 (0:Int),SV.int .i64 (0:Int),SV.int .i64 (0:Int)] (nat_lit 23),.cells [SV.int .i64 (0:Int),SV.int .i64 (0:Int),SV.int .i64 (0:Int)] (nat_lit 23)]
noncomputable def _root_.Go.Proofs.Ytlagndfhibkjpaa.M.dshort_l0_step {α:Type} (kn:Int → Int → Int → Option α) (k1:Int → Int → Int → Option α) (x9 x10 x11:Int):Option α := if cLt (1048576:Int) (V.dsize_r0 x9) = true then kn (IntKind.wrap .i64 (Int.tdiv x9 (2:Int))) (IntKind.wrap .i64 (Int.tdiv x10 (2:Int))) (IntKind.wrap .i64 (Int.tdiv x11 (2:Int))) else if cLt (1048576:Int) (V.dsize_r0 x10) = true then kn (IntKind.wrap .i64 (Int.tdiv x9 (2:Int))) (IntKind.wrap .i64 (Int.tdiv x10 (2:Int))) (IntKind.wrap .i64 (Int.tdiv x11 (2:Int))) else if cLt (1048576:Int) (V.dsize_r0 x11) = true then kn (IntKind.wrap .i64 (Int.tdiv x9 (2:Int))) (IntKind.wrap .i64 (Int.tdiv x10 (2:Int))) (IntKind.wrap .i64 (Int.tdiv x11 (2:Int))) else k1 x9 x10 x11
noncomputable def _root_.Go.Proofs.Ytlagndfhibkjpaa.M.dshort_l0 {α:Type} (k1:Int → Int → Int → Option α):Nat → Int → Int → Int → Option α
  | 0,_,_,_ => none
  | n + 1,x9,x10,x11 => M.dshort_l0_step (M.dshort_l0 k1 n) k1 x9 x10 x11
theorem dshort_l0_step_eq {α:Type} (x6 x7 x8 x9 x10 x11:Int) (Q:Ex → St → Option α):(loopStep E (exec E look_dbare noLps 400) 77 [false,false,true,true,true] 0 (codeAt E.P 77 [false,false,true,true,true])) (dshort_S1 x6 x7 x8 x9 x10 x11) Q = M.dshort_l0_step (fun (x15 x16 x17:Int) => Q .normal (dshort_S1 x6 x7 x8 x15 x16 x17)) (fun (x12 x13 x14:Int) => Q (.exit 0) (dshort_S1 x6 x7 x8 x12 x13 x14)) x9 x10 x11 := by kernel_rfl
theorem dshort_l0_iter {α:Type} (x6 x7 x8:Int) (Q:Ex → St → Option α):∀ (n:Nat) (x9 x10 x11:Int),iter (loopStep E (exec E look_dbare noLps 400) 77 [false,false,true,true,true] 0 (codeAt E.P 77 [false,false,true,true,true])) n (dshort_S1 x6 x7 x8 x9 x10 x11) Q = M.dshort_l0 (fun (x12 x13 x14:Int) => Q (.exit 0) (dshort_S1 x6 x7 x8 x12 x13 x14)) n x9 x10 x11
  | 0,_,_,_ => rfl
  | n + 1,x9,x10,x11 => (dshort_l0_step_eq x6 x7 x8 x9 x10 x11 (iterK (loopStep E (exec E look_dbare noLps 400) 77 [false,false,true,true,true] 0 (codeAt E.P 77 [false,false,true,true,true])) n Q)).trans (congrArg (fun kn => M.dshort_l0_step kn (fun (x12 x13 x14:Int) => Q (.exit 0) (dshort_S1 x6 x7 x8 x12 x13 x14)) x9 x10 x11) (funext fun x9 => funext fun x10 => funext fun x11 => dshort_l0_iter x6 x7 x8 Q n x9 x10 x11))
noncomputable def dshort_l0_go {α:Type} (ds:List D) (Q:Ex → St → Option α):Option α :=
  dI ds fun x6 ds => dI ds fun x7 ds => dI ds fun x8 ds => dI ds fun x9 ds => dI ds fun x10 ds => dI ds fun x11 ds => dE ds (M.dshort_l0 (fun (x12 x13 x14:Int) => Q (.exit 0) (dshort_S1 x6 x7 x8 x12 x13 x14)) (100) x9 x10 x11)
theorem dshort_l0_ok {α:Type}:LoopOk E.P 77 [false,false,true,true,true] 0 (lEnt (α := α) (dshort_S2) dshort_l0_go) :=
  lEnt_ok E (exec_sound E E_ok (look_dbare_ok) (noLps_ok _) 400) fun ds Q r h S hS => by
    unfold dshort_l0_go at h
    obtain ⟨x6,ds,rfl,h1⟩ := dI_inv h
    obtain ⟨x7,ds,rfl,h2⟩ := dI_inv h1
    obtain ⟨x8,ds,rfl,h3⟩ := dI_inv h2
    obtain ⟨x9,ds,rfl,h4⟩ := dI_inv h3
    obtain ⟨x10,ds,rfl,h5⟩ := dI_inv h4
    obtain ⟨x11,ds,rfl,h6⟩ := dI_inv h5
    obtain ⟨rfl,hE⟩ := dE_inv h6
    have e:fillS (dshort_S2) [.i x6,.i x7,.i x8,.i x9,.i x10,.i x11] = some (dshort_S1 x6 x7 x8 x9 x10 x11) := by kernel_rfl
    rw [e] at hS
    cases hS
    exact ⟨_,(dshort_l0_iter x6 x7 x8 Q _ x9 x10 x11).trans hE⟩
noncomputable def dshort_l0_lps {α:Type}:LookL α := addLp 77 [false,false,true,true,true] 0 (lEnt (dshort_S2) dshort_l0_go) noLps
theorem dshort_l0_lps_ok {α:Type}:LoopsOk E.P (dshort_l0_lps (α := α)) := addLp_ok dshort_l0_ok (noLps_ok _)

noncomputable def _root_.Go.Proofs.Ytlagndfhibkjpaa.M.dshort {α:Type} (ax:Int) (ay:Int) (az:Int) (k0:Int → Int → Int → Option α):Option α := if (!V.shwithin_r0 ax (-4398046511104:Int) (4398046511104:Int)) = true then k0 (0:Int) (0:Int) (0:Int) else if (!V.shwithin_r0 ay (-4398046511104:Int) (4398046511104:Int)) = true then k0 (0:Int) (0:Int) (0:Int) else if (!V.shwithin_r0 az (-4398046511104:Int) (4398046511104:Int)) = true then k0 (0:Int) (0:Int) (0:Int) else if V.brB (ax,ay,az) = true then M.dshort_l0 (fun (x18 x19 x20:Int) ↦ if V.brB (x18,x19,x20) = true then k0 (Prod.fst (V.pBare (x18,x19,x20))) (Prod.fst (Prod.snd (V.pBare (x18,x19,x20)))) (Prod.snd (Prod.snd (V.pBare (x18,x19,x20)))) else none) (100:Nat) (Prod.fst (V.pBare (ax,ay,az))) (Prod.fst (Prod.snd (V.pBare (ax,ay,az)))) (Prod.snd (Prod.snd (V.pBare (ax,ay,az)))) else none
theorem dshort_eq {α:Type} (ax:Int) (ay:Int) (az:Int) (Q:SV → Hp → Option α):callI E look_dbare (exec E look_dbare dshort_l0_lps 400) 77 ([SV.agg [SV.int .i64 ax,SV.int .i64 ay,SV.int .i64 az]]) ([]) Q = M.dshort ax ay az (fun (x21 x22 x23:Int) => Q (SV.agg [SV.int .i64 x21,SV.int .i64 x22,SV.int .i64 x23]) ([])) := by kernel_rfl
def dshort_sp:List AS := [.val (.agg [.int .i64 0,.int .i64 0,.int .i64 0])]
noncomputable def dshort_go {α:Type} (ds:List D) (Q:SV → Hp → Option α):Option α :=
  dI ds fun ax ds => dI ds fun ay ds => dI ds fun az ds => dE ds (M.dshort ax ay az (fun (x21 x22 x23:Int) => Q (SV.agg [SV.int .i64 x21,SV.int .i64 x22,SV.int .i64 x23]) ([])))
theorem dshort_ok {α:Type}:FnOk E.P 77 (fEnt (α := α) dshort_sp dshort_go) :=
  fEnt_ok E (look_dbare_ok) (exec_sound E E_ok (look_dbare_ok) (dshort_l0_lps_ok) 400) fun ds Q r h => by
    unfold dshort_go at h
    obtain ⟨ax,ds,rfl,h1⟩ := dI_inv h
    obtain ⟨ay,ds,rfl,h2⟩ := dI_inv h1
    obtain ⟨az,ds,rfl,h3⟩ := dI_inv h2
    obtain ⟨rfl,hE⟩ := dE_inv h3
    exact ⟨[SV.agg [SV.int .i64 ax,SV.int .i64 ay,SV.int .i64 az]],[],fun vs => by kernel_rfl,(dshort_eq ax ay az Q).trans hE⟩
theorem bigP_abs (p:P3) (n:Nat):bigP p (n:Int) = (decide ((n:Int) < (p.1.natAbs:Int)) || (decide ((n:Int) < (p.2.1.natAbs:Int)) || decide ((n:Int) < (p.2.2.natAbs:Int)))) := by
  rw [Bool.eq_iff_iff]
  simp only [bigP,Bool.or_eq_true,decide_eq_true_eq]
  omega
theorem dshort_l0_val {α:Type} (k1:Int → Int → Int → Option α):∀ (k fuel:Nat) (p:P3),bigP p (lim k) = false → bigP p 4398046511104 = false → k < fuel →
    M.dshort_l0 k1 fuel p.1 p.2.1 p.2.2 = k1 (shrinkP k p).1 (shrinkP k p).2.1 (shrinkP k p).2.2
  | k,0,p,h,h2,h3 => by omega
  | k,f + 1,p,h,h2,h3 => by
    unfold M.dshort_l0 M.dshort_l0_step
    have h4 := bigP_false h2
    have h5 := bigP_false (bigP_div 2 h2)
    simp only [divP] at h5
    rw [dsz_abs (by omega),dsz_abs (by omega),dsz_abs (by omega),IntWalk.i64_in _ (by omega:-9223372036854775808 ≤ Int.tdiv p.1 2 ∧ _),IntWalk.i64_in _ (by omega:-9223372036854775808 ≤ Int.tdiv p.2.1 2 ∧ _),IntWalk.i64_in _ (by omega:-9223372036854775808 ≤ Int.tdiv p.2.2 2 ∧ _)]
    simp only [cLt_eq]
    have hb := bigP_abs p 1048576
    simp only [Int.cast_ofNat_Int] at hb
    have step:∀ (X Y:Option α),(if decide ((1048576:Int) < (p.1.natAbs:Int)) = true then X else if decide ((1048576:Int) < (p.2.1.natAbs:Int)) = true then X else if decide ((1048576:Int) < (p.2.2.natAbs:Int)) = true then X else Y) = if bigP p 1048576 = true then X else Y := by
      intro X Y
      rw [show bigP p 1048576 = (decide ((1048576:Int) < (p.1.natAbs:Int)) || (decide ((1048576:Int) < (p.2.1.natAbs:Int)) || decide ((1048576:Int) < (p.2.2.natAbs:Int)))) from hb]
      cases decide ((1048576:Int) < (p.1.natAbs:Int)) <;> cases decide ((1048576:Int) < (p.2.1.natAbs:Int)) <;> cases decide ((1048576:Int) < (p.2.2.natAbs:Int)) <;> rfl
    rw [step]
    by_cases hb:bigP p 1048576 = true
    · rw [if_pos hb]
      cases k with
      | zero => exact absurd hb (by rw [← lim_zero,h]; decide)
      | succ k =>
        have ih := dshort_l0_val k1 k f (divP p 2) (halved h) (bigP_div 2 h2) (by omega)
        have e:shrinkP (k + 1) p = shrinkP k (divP p 2) := by simp [shrinkP,hb]
        rw [e,← ih]
        rfl
    · rw [if_neg hb,shrink_stop k (by simpa using hb)]
theorem dshort_v {α:Type} (ax ay az:Int) (k0:Int → Int → Int → Option α):M.dshort ax ay az k0 = k0 (V.pShort (ax,ay,az)).1 (V.pShort (ax,ay,az)).2.1 (V.pShort (ax,ay,az)).2.2 := by
  unfold M.dshort V.pShort
  rw [hid_eq]
  simp only [within_eq]
  unfold shortP
  by_cases h1:bigP (ax,ay,az) 4398046511104 = true
  · rw [if_pos h1]
    have:¬ (inZ ax (-4398046511104) 4398046511104 = true ∧ inZ ay (-4398046511104) 4398046511104 = true ∧ inZ az (-4398046511104) 4398046511104 = true) := by
      simp [bigP] at h1; simp [inZ]; omega
    cases a:inZ ax (-4398046511104) 4398046511104 <;> cases b:inZ ay (-4398046511104) 4398046511104 <;> cases c:inZ az (-4398046511104) 4398046511104 <;> simp_all
  · have h1' : bigP (ax, ay, az) 4398046511104 = false := by simpa using h1
    have hf := bigP_false h1'
    simp only at hf
    have a:inZ ax (-4398046511104) 4398046511104 = true := by simp [inZ]; omega
    have b:inZ ay (-4398046511104) 4398046511104 = true := by simp [inZ]; omega
    have c:inZ az (-4398046511104) 4398046511104 = true := by simp [inZ]; omega
    rw [a,b,c,if_neg (by decide),if_neg (by decide),if_neg (by decide),if_neg h1,if_pos (brB_iff.2 h1')]
    have hs:bigP (bareP (ax,ay,az)) 4398046511104 = false := bigP_div _ h1'
    have e0:V.pBare (ax,ay,az) = bareP (ax,ay,az) := hid_eq _
    rw [e0]
    have hl := dshort_l0_val (fun (x21 x22 x23:Int) => if V.brB (x21,x22,x23) = true then k0 (V.pBare (x21,x22,x23)).1 (V.pBare (x21,x22,x23)).2.1 (V.pBare (x21,x22,x23)).2.2 else none) 64 100 (bareP (ax,ay,az)) (by
      have := bigP_false hs
      apply bigP_eq_false
      have e := lim_64
      omega) hs (by omega)
    refine Eq.trans hl ?_
    have e1:V.pBare (shrinkP 64 (bareP (ax,ay,az))) = bareP (shrinkP 64 (bareP (ax,ay,az))) := hid_eq _
    show (if V.brB (shrinkP 64 (bareP (ax,ay,az))) = true then k0 (V.pBare (shrinkP 64 (bareP (ax,ay,az)))).1 (V.pBare (shrinkP 64 (bareP (ax,ay,az)))).2.1 (V.pBare (shrinkP 64 (bareP (ax,ay,az)))).2.2 else none) = _
    rw [if_pos (brB_iff.2 (shrink_big _ _ _ hs)),e1]
noncomputable def dshort_h {α:Type} (ds:List D) (Q:SV → Hp → Option α):Option α :=
  dI ds fun ax ds => dI ds fun ay ds => dI ds fun az ds => dE ds (Q (.agg [.int .i64 (V.pShort (ax,ay,az)).1,.int .i64 (V.pShort (ax,ay,az)).2.1,.int .i64 (V.pShort (ax,ay,az)).2.2]) ([]))
theorem dshort_h_ok {α:Type}:FnOk E.P 77 (fEnt (α := α) dshort_sp dshort_h) :=
  fEnt_ok E (look_dbare_ok) (exec_sound E E_ok (look_dbare_ok) (dshort_l0_lps_ok) 400) fun ds Q r h => by
    unfold dshort_h at h
    obtain ⟨ax,ds,rfl,h1⟩ := dI_inv h
    obtain ⟨ay,ds,rfl,h2⟩ := dI_inv h1
    obtain ⟨az,ds,rfl,h3⟩ := dI_inv h2
    obtain ⟨rfl,hE⟩ := dE_inv h3
    exact ⟨[SV.agg [SV.int .i64 ax,SV.int .i64 ay,SV.int .i64 az]],[],fun vs => by kernel_rfl,(dshort_eq ax ay az Q).trans ((dshort_v ax ay az _).trans hE)⟩
noncomputable def look_dshort {α:Type}:LookF α := addFn 77 (fEnt dshort_sp dshort_h) look_dbare
theorem look_dshort_ok {α:Type}:LookOk E.P (look_dshort (α := α)) := addFn_ok dshort_h_ok (look_dbare_ok)
end Go.Proofs.Ytlagndfhibkjpaa.Sx
end

section
/- The document's own numbers: what digits are worth; Of, size, Times. -/
namespace Go.Proofs.Ytlagndfhibkjpaa.Sx
open Go
set_option maxRecDepth 20000
set_option linter.unusedVariables false
set_option linter.unusedSimpArgs false
def val:List Int → Int
  | [] => 0
  | d :: ds => d + 16777216 * val ds
def okD:List Int → Bool
  | [] => true
  | d :: ds => (decide (0 ≤ d) && decide (d < 16777216)) && okD ds
def _root_.Go.Proofs.Ytlagndfhibkjpaa.V.ok8 (D:List Int):Bool := D.length == 8 && okD D
theorem okD_cons {d:Int} {ds:List Int}:okD (d :: ds) = true ↔ (0 ≤ d ∧ d < 16777216) ∧ okD ds = true := by simp [okD]
theorem okD_append {l m:List Int}:okD (l ++ m) = true ↔ okD l = true ∧ okD m = true := by
  induction l with
  | nil => simp [okD]
  | cons d l ih => rw [List.cons_append,okD_cons,okD_cons,ih]; exact ⟨fun ⟨a,b,c⟩ => ⟨⟨a,b⟩,c⟩,fun ⟨⟨a,b⟩,c⟩ => ⟨a,b,c⟩⟩
theorem pB (n:Nat):(0:Int) < 16777216 ^ n := Int.pow_pos (by decide)
theorem pB1 (n:Nat):(16777216:Int) ^ (n + 1) = 16777216 * 16777216 ^ n := by rw [Int.pow_succ,Int.mul_comm]
theorem val_bound:∀ {D:List Int},okD D = true → 0 ≤ val D ∧ val D < 16777216 ^ D.length
  | [],_ => by simp [val]
  | d :: ds,h => by
    rw [okD_cons] at h
    have := val_bound h.2
    rw [List.length_cons,pB1]
    unfold val
    omega
theorem val_append:∀ (l m:List Int),val (l ++ m) = val l + 16777216 ^ l.length * val m
  | [],m => by simp [val]
  | d :: l,m => by
    rw [List.cons_append,val,val,val_append l m,List.length_cons,pB1]; grind
theorem okD_take {D:List Int} (h:okD D = true) (n:Nat):okD (D.take n) = true := by
  rw [← List.take_append_drop n D,okD_append] at h; exact h.1
theorem okD_drop {D:List Int} (h:okD D = true) (n:Nat):okD (D.drop n) = true := by
  rw [← List.take_append_drop n D,okD_append] at h; exact h.2
theorem okD_get:∀ {D:List Int},okD D = true → ∀ i,0 ≤ D.getD i 0 ∧ D.getD i 0 < 16777216
  | [],_,i => by simp
  | d :: ds,h,0 => by rw [okD_cons] at h; simpa using h.1
  | d :: ds,h,i + 1 => by rw [okD_cons] at h; simpa using okD_get h.2 i
/-- A sum's lowest digit and the rest. -/
theorem mod_split (a b M:Int) (hM:0 < M):(a + 16777216 * b) % (16777216 * M) = a % 16777216 + 16777216 * ((b + a / 16777216) % M) := by
  have e1:a + 16777216 * b = (a % 16777216 + 16777216 * ((b + a / 16777216) % M)) + 16777216 * M * ((b + a / 16777216) / M) := by
    have h1:16777216 * (a / 16777216) + a % 16777216 = a := Int.mul_ediv_add_emod a 16777216
    have h2:M * ((b + a / 16777216) / M) + (b + a / 16777216) % M = b + a / 16777216 := Int.mul_ediv_add_emod _ M
    grind
  rw [e1,Int.add_mul_emod_self_left]
  apply Int.emod_eq_of_lt
  · have := Int.emod_nonneg (b + a / 16777216) (show M ≠ 0 by omega)
    omega
  · have := Int.emod_lt_of_pos (b + a / 16777216) hM
    have h3:16777216 * ((b + a / 16777216) % M + 1) ≤ 16777216 * M := by omega
    omega
theorem take_set_succ {o:List Int} {i:Nat} (x:Int) (h:i < o.length):(o.set i x).take (i + 1) = o.take i ++ [x] := by
  rw [List.take_add_one]
  simp [h,List.take_set_of_le]
theorem drop_set_succ {o:List Int} {i:Nat} (x:Int):(o.set i x).drop (i + 1) = o.drop (i + 1) := by
  rw [List.drop_set_of_lt (by omega)]
/-! Of. -/
noncomputable abbrev of_S1 (y1 y2:Int) (y3:Bool) (y4:List Int) (y5:Bool) (y6:List Int):St := St.mk (none :: none :: some (SV.ptr (nat_lit 0) (nat_lit 0)) :: some (SV.ptr (nat_lit 1) (nat_lit 0)) :: some (SV.int IntKind.u64 y1) :: some (SV.int .i64 y2) :: nn 22 ([])) [.cells [SV.bool y3,SV.arr (K.int IntKind.i64) y4 (nat_lit 8)] (nat_lit 124),.cells [SV.bool y5,SV.arr (K.int IntKind.i64) y6 (nat_lit 8)] (nat_lit 124)]
noncomputable abbrev of_S2 (y1:Bool) (y2:List Int) (y3:Bool) (y4:List Int):St := St.mk (none :: none :: some (SV.ptr (nat_lit 0) (nat_lit 0)) :: some (SV.ptr (nat_lit 1) (nat_lit 0)) :: nn 24 ([])) [.cells [SV.bool y1,SV.arr (K.int IntKind.i64) y2 (nat_lit 8)] (nat_lit 124),.cells [SV.bool y3,SV.arr (K.int IntKind.i64) y4 (nat_lit 8)] (nat_lit 124)]
noncomputable abbrev of_S3:St := St.mk (none :: none :: some (SV.ptr (nat_lit 0) (nat_lit 0)) :: some (SV.ptr (nat_lit 1) (nat_lit 0)) :: some (SV.int IntKind.u64 (0:Int)) :: some (SV.int .i64 (0:Int)) :: nn 22 ([])) [.cells [SV.bool false,SV.arr (K.int IntKind.i64) [] (nat_lit 8)] (nat_lit 124),.cells [SV.bool false,SV.arr (K.int IntKind.i64) [] (nat_lit 8)] (nat_lit 124)]
abbrev of_P1:List Bool := [false,true,false,true,true,true,true,true]
noncomputable def _root_.Go.Proofs.Ytlagndfhibkjpaa.M.of_l0_step {α:Type} (kn:Int → Int → List Int → Option α) (k1:List Int → Option α) (x6 x7:Int) (x11:List Int):Option α := if cLt x7 (8:Int) = true then if (0:Int) ≤ x7 ∧ x7 < (8:Int) then kn (IntKind.wrap IntKind.u64 (Int.tdiv x6 (16777216:Int))) (IntKind.wrap .i64 (x7 + (1:Int))) (List.set x11 (Int.toNat x7) (IntKind.wrap .i64 (Int.tmod x6 (16777216:Int)))) else none else k1 x11
noncomputable def _root_.Go.Proofs.Ytlagndfhibkjpaa.M.of_l0 {α:Type} (k1:List Int → Option α):Nat → Int → Int → List Int → Option α
  | 0,_,_,_ => none
  | n + 1,x6,x7,x11 => M.of_l0_step (M.of_l0 k1 n) k1 x6 x7 x11
theorem of_l0_step_eq {α:Type} (x6 x7:Int) (x8:Bool) (x9:List Int) (x10:Bool) (x11:List Int) (Q:Ex → St → Option α):(loopStep E (exec E look_rgreat noLps 400) 109 of_P1 0 (codeAt E.P 109 of_P1)) (of_S1 x6 x7 x8 x9 x10 x11) Q = M.of_l0_step (fun (x13 x14:Int) (x15:List Int) => Q .normal (of_S1 x13 x14 x8 x9 x10 x15)) (fun (x12:List Int) => Q (.exit 0) (of_S2 x8 x9 x10 x12)) x6 x7 x11 := by kernel_rfl
theorem of_l0_iter {α:Type} (x8:Bool) (x9:List Int) (x10:Bool) (Q:Ex → St → Option α):∀ (n:Nat) (x6 x7:Int) (x11:List Int),iter (loopStep E (exec E look_rgreat noLps 400) 109 of_P1 0 (codeAt E.P 109 of_P1)) n (of_S1 x6 x7 x8 x9 x10 x11) Q = M.of_l0 (fun (x12:List Int) => Q (.exit 0) (of_S2 x8 x9 x10 x12)) n x6 x7 x11
  | 0,_,_,_ => rfl
  | n + 1,x6,x7,x11 => (of_l0_step_eq x6 x7 x8 x9 x10 x11 (iterK (loopStep E (exec E look_rgreat noLps 400) 109 of_P1 0 (codeAt E.P 109 of_P1)) n Q)).trans (congrArg (fun kn => M.of_l0_step kn (fun (x12:List Int) => Q (.exit 0) (of_S2 x8 x9 x10 x12)) x6 x7 x11) (funext fun x6 => funext fun x7 => funext fun x11 => of_l0_iter x8 x9 x10 Q n x6 x7 x11))
noncomputable def of_l0_go {α:Type} (ds:List D) (Q:Ex → St → Option α):Option α :=
  dI ds fun x6 ds => dI ds fun x7 ds => dB ds fun x8 ds => dL (K.int IntKind.i64) ds fun x9 ds => dB ds fun x10 ds => dL (K.int IntKind.i64) ds fun x11 ds => dE ds (M.of_l0 (fun (x12:List Int) => Q (.exit 0) (of_S2 x8 x9 x10 x12)) (100 + x9.length + x11.length) x6 x7 x11)
theorem of_l0_ok {α:Type}:LoopOk E.P 109 of_P1 0 (lEnt (α := α) (of_S3) of_l0_go) :=
  lEnt_ok E (exec_sound E E_ok (look_rgreat_ok) (noLps_ok _) 400) fun ds Q r h S hS => by
    unfold of_l0_go at h
    obtain ⟨x6,ds,rfl,h1⟩ := dI_inv h
    obtain ⟨x7,ds,rfl,h2⟩ := dI_inv h1
    obtain ⟨x8,ds,rfl,h3⟩ := dB_inv h2
    obtain ⟨x9,ds,rfl,h4⟩ := dL_inv h3
    obtain ⟨x10,ds,rfl,h5⟩ := dB_inv h4
    obtain ⟨x11,ds,rfl,h6⟩ := dL_inv h5
    obtain ⟨rfl,hE⟩ := dE_inv h6
    have e:fillS (of_S3) [.i x6,.i x7,.b x8,.l (K.int IntKind.i64) x9,.b x10,.l (K.int IntKind.i64) x11] = some (of_S1 x6 x7 x8 x9 x10 x11) := by kernel_rfl
    rw [e] at hS
    cases hS
    exact ⟨_,(of_l0_iter x8 x9 x10 Q _ x6 x7 x11).trans hE⟩
noncomputable def of_l0_lps {α:Type}:LookL α := addLp 109 of_P1 0 (lEnt (of_S3) of_l0_go) noLps
theorem of_l0_lps_ok {α:Type}:LoopsOk E.P (of_l0_lps (α := α)) := addLp_ok of_l0_ok (noLps_ok _)

noncomputable def _root_.Go.Proofs.Ytlagndfhibkjpaa.M.of {α:Type} (n:Int) (k0:Bool → List Int → Option α):Option α := if cLt n (0:Int) = true then M.of_l0 (fun (x16:List Int) ↦ k0 (cLt n (0:Int)) x16) (116:Nat) (IntKind.wrap IntKind.u64 ((0:Int) - IntKind.wrap IntKind.u64 n)) (0:Int) (List.replicate (8:Nat) (0:Int)) else M.of_l0 (fun (x17:List Int) ↦ k0 (cLt n (0:Int)) x17) (116:Nat) (IntKind.wrap IntKind.u64 n) (0:Int) (List.replicate (8:Nat) (0:Int))
theorem of_eq {α:Type} (n:Int) (Q:SV → Hp → Option α):callI E look_rgreat (exec E look_rgreat of_l0_lps 400) 109 ([SV.int .i64 n]) ([]) Q = M.of n (fun (x18:Bool) (x19:List Int) => Q (SV.agg [SV.bool x18,SV.arr (K.int IntKind.i64) x19 (nat_lit 8)]) ([])) := by kernel_rfl
def of_sp:List AS := [.val (.int .i64 0)]
noncomputable def of_go {α:Type} (ds:List D) (Q:SV → Hp → Option α):Option α :=
  dI ds fun n ds => dE ds (M.of n (fun (x18:Bool) (x19:List Int) => Q (SV.agg [SV.bool x18,SV.arr (K.int IntKind.i64) x19 (nat_lit 8)]) ([])))
theorem of_ok {α:Type}:FnOk E.P 109 (fEnt (α := α) of_sp of_go) :=
  fEnt_ok E (look_rgreat_ok) (exec_sound E E_ok (look_rgreat_ok) (of_l0_lps_ok) 400) fun ds Q r h => by
    unfold of_go at h
    obtain ⟨n,ds,rfl,h1⟩ := dI_inv h
    obtain ⟨rfl,hE⟩ := dE_inv h1
    exact ⟨[SV.int .i64 n],[],fun vs => by kernel_rfl,(of_eq n Q).trans hE⟩
def ofD:Nat → Int → List Int
  | 0,_ => []
  | k + 1,u => u % 16777216 :: ofD k (u / 16777216)
theorem ofD_len:∀ (k:Nat) (u:Int),(ofD k u).length = k
  | 0,_ => rfl
  | k + 1,u => by simp [ofD,ofD_len k]
theorem ofD_ok:∀ (k:Nat) (u:Int),okD (ofD k u) = true
  | 0,_ => rfl
  | k + 1,u => by rw [ofD,okD_cons]; exact ⟨by omega,ofD_ok k _⟩
theorem ofD_val:∀ (k:Nat) (u:Int),val (ofD k u) = u % 16777216 ^ k
  | 0,u => by simp [ofD,val]
  | k + 1,u => by
    rw [ofD,val,ofD_val k,pB1]
    have := mod_split u 0 (16777216 ^ k) (pB k)
    simp only [Int.mul_zero,Int.add_zero,Int.zero_add] at this
    rw [this]
theorem of_l0_val {α:Type} (k1:List Int → Option α):∀ (fuel i:Nat) (u:Int) (o:List Int),i ≤ 8 → 8 - i < fuel → o.length = 8 → 0 ≤ u → u < 18446744073709551616 →
    M.of_l0 k1 fuel u (i:Int) o = k1 (o.take i ++ ofD (8 - i) u)
  | 0,i,u,o,h1,h2,_,_,_ => by omega
  | n + 1,i,u,o,h1,h2,ho,hu0,hu1 => by
    unfold M.of_l0 M.of_l0_step
    rw [cLt_eq]
    by_cases hi:i < 8
    · have c1 : (i : Int) < 8 := by omega
      have c2:(0:Int) ≤ (i:Int) := by omega
      simp only [c1,c2,decide_true,if_true,and_self]
      rw [Int.tdiv_eq_ediv_of_nonneg hu0,Int.tmod_eq_emod_of_nonneg hu0,u64_in' (by omega) (by omega),IntWalk.i64_in ((i:Int) + 1) (by omega),IntWalk.i64_in (u % 16777216) (by omega)]
      have := of_l0_val k1 n (i + 1) (u / 16777216) (o.set i (u % 16777216)) (by omega) (by omega) (by simpa using ho) (by omega) (by omega)
      push_cast at this
      rw [Int.toNat_natCast,this,take_set_succ _ (by omega)]
      rw [show 8 - i = (7 - i) + 1 by omega,ofD,List.append_assoc,List.singleton_append]
    · have : i = 8 := by omega
      subst this
      have e:¬ ((8:Nat):Int) < 8 := by omega
      simp only [e,decide_false,Bool.false_eq_true,if_false,Nat.sub_self,ofD,List.append_nil]
      rw [List.take_of_length_le (by omega)]
/-- The digits of a number's size. -/
def _root_.Go.Proofs.Ytlagndfhibkjpaa.V.ofN (n:Int):List Int := ofD 8 (if n < 0 then -n else n)
theorem of_v {α:Type} (n:Int) (h:-9223372036854775808 ≤ n ∧ n < 9223372036854775808) (k0:Bool → List Int → Option α):M.of n k0 = k0 (decide (n < 0)) (V.ofN n) := by
  unfold M.of V.ofN
  rw [cLt_eq]
  have len:(List.replicate 8 (0:Int)).length = 8 := rfl
  by_cases hn:n < 0
  · have e : IntKind.wrap .u64 (0 - IntKind.wrap .u64 n) = -n := by simp only [IntKind.wrap_u64]; omega
    simp only [hn,decide_true,if_true]
    have := of_l0_val (fun x => k0 true x) 116 0 (-n) (List.replicate 8 0) (by omega) (by omega) len (by omega) (by omega)
    rw [Int.natCast_zero] at this
    rw [e,this]; rfl
  · have e : IntKind.wrap .u64 n = n := u64_in' (by omega) (by omega)
    simp only [hn,decide_false,Bool.false_eq_true,if_false]
    have := of_l0_val (fun x => k0 false x) 116 0 n (List.replicate 8 0) (by omega) (by omega) len (by omega) (by omega)
    rw [Int.natCast_zero] at this
    rw [e,this]; rfl
theorem ofN_ok (n:Int):V.ok8 (V.ofN n) = true := by unfold V.ok8 V.ofN; rw [ofD_len,ofD_ok]; rfl
theorem ofN_val {n:Int} (h:-9223372036854775808 ≤ n ∧ n < 9223372036854775808):val (V.ofN n) = if n < 0 then -n else n := by
  unfold V.ofN
  rw [ofD_val]
  have e:(16777216:Int) ^ 8 = 6277101735386680763835789423207666416102355444464034512896 := by kernel_rfl
  rw [e]
  split <;> omega
noncomputable def of_h {α:Type} (ds:List D) (Q:SV → Hp → Option α):Option α :=
  dI ds fun n ds => dE ds (if -9223372036854775808 ≤ n ∧ n < 9223372036854775808 then Q (.agg [.bool (decide (n < 0)),.arr (.int .i64) (V.ofN n) 8]) ([]) else none)
theorem of_h_ok {α:Type}:FnOk E.P 109 (fEnt (α := α) of_sp of_h) :=
  fEnt_ok E (look_rgreat_ok) (exec_sound E E_ok (look_rgreat_ok) (of_l0_lps_ok) 400) fun ds Q r h => by
    unfold of_h at h
    obtain ⟨n,ds,rfl,h1⟩ := dI_inv h
    obtain ⟨rfl,hE⟩ := dE_inv h1
    split at hE
    · rename_i hg
      exact ⟨[SV.int .i64 n],[],fun vs => by kernel_rfl,(of_eq n Q).trans ((of_v n hg _).trans hE)⟩
    · cases hE
noncomputable def look_of {α:Type}:LookF α := addFn 109 (fEnt of_sp of_h) look_rgreat
theorem look_of_ok {α:Type}:LookOk E.P (look_of (α := α)) := addFn_ok of_h_ok (look_rgreat_ok)
/-! size. -/
noncomputable abbrev rsize_S1 (y1:Int) (y2:Bool) (y3:List Int) (y4:Bool) (y5:List Int):St := St.mk (none :: none :: some (SV.ptr (nat_lit 0) (nat_lit 0)) :: some (SV.ptr (nat_lit 1) (nat_lit 0)) :: none :: some (SV.int .i64 y1) :: nn 22 ([])) [.cells [SV.bool y2,SV.arr (K.int IntKind.i64) y3 (nat_lit 8)] (nat_lit 124),.cells [SV.bool y4,SV.arr (K.int IntKind.i64) y5 (nat_lit 8)] (nat_lit 124)]
noncomputable abbrev rsize_S2:St := St.mk (none :: none :: some (SV.ptr (nat_lit 0) (nat_lit 0)) :: some (SV.ptr (nat_lit 1) (nat_lit 0)) :: none :: some (SV.int .i64 (0:Int)) :: nn 22 ([])) [.cells [SV.bool false,SV.arr (K.int IntKind.i64) [] (nat_lit 8)] (nat_lit 124),.cells [SV.bool false,SV.arr (K.int IntKind.i64) [] (nat_lit 8)] (nat_lit 124)]
noncomputable def _root_.Go.Proofs.Ytlagndfhibkjpaa.M.rsize_l0_step {α:Type} (x27:List Int) (x29:List Int) (kn:Int → Option α) (k0:Int → Option α) (k2:Option α) (x25:Int):Option α := if cLe (0:Int) x25 = true then if (0:Int) ≤ x25 ∧ x25 < (8:Int) then if (0:Int) ≤ x25 ∧ x25 < (8:Int) then if cLt (List.getD x27 (Int.toNat x25) (0:Int)) (List.getD x29 (Int.toNat x25) (0:Int)) = true then k0 (-1:Int) else if (0:Int) ≤ x25 ∧ x25 < (8:Int) then if (0:Int) ≤ x25 ∧ x25 < (8:Int) then if cLt (List.getD x29 (Int.toNat x25) (0:Int)) (List.getD x27 (Int.toNat x25) (0:Int)) = true then k0 (1:Int) else kn (IntKind.wrap .i64 (x25 - (1:Int))) else none else none else none else none else k2
noncomputable def _root_.Go.Proofs.Ytlagndfhibkjpaa.M.rsize_l0 {α:Type} (x27:List Int) (x29:List Int) (k0:Int → Option α) (k2:Option α):Nat → Int → Option α
  | 0,_ => none
  | n + 1,x25 => M.rsize_l0_step x27 x29 (M.rsize_l0 x27 x29 k0 k2 n) k0 k2 x25
theorem rsize_l0_step_eq {α:Type} (x25:Int) (x26:Bool) (x27:List Int) (x28:Bool) (x29:List Int) (Q:Ex → St → Option α):(loopStep E (exec E look_of noLps 400) 115 [false,true,false,true] 0 (codeAt E.P 115 [false,true,false,true])) (rsize_S1 x25 x26 x27 x28 x29) Q = M.rsize_l0_step x27 x29 (fun (x31:Int) => Q .normal (rsize_S1 x31 x26 x27 x28 x29)) (fun (x30:Int) => Q .ret (St.mk (nn 4 (some (SV.int .i64 x30) :: nn 23 ([]))) [])) (Q (.exit 0) (St.mk (nn 28 ([])) [])) x25 := by kernel_rfl
theorem rsize_l0_iter {α:Type} (x26:Bool) (x27:List Int) (x28:Bool) (x29:List Int) (Q:Ex → St → Option α):∀ (n:Nat) (x25:Int),iter (loopStep E (exec E look_of noLps 400) 115 [false,true,false,true] 0 (codeAt E.P 115 [false,true,false,true])) n (rsize_S1 x25 x26 x27 x28 x29) Q = M.rsize_l0 x27 x29 (fun (x30:Int) => Q .ret (St.mk (nn 4 (some (SV.int .i64 x30) :: nn 23 ([]))) [])) (Q (.exit 0) (St.mk (nn 28 ([])) [])) n x25
  | 0,_ => rfl
  | n + 1,x25 => (rsize_l0_step_eq x25 x26 x27 x28 x29 (iterK (loopStep E (exec E look_of noLps 400) 115 [false,true,false,true] 0 (codeAt E.P 115 [false,true,false,true])) n Q)).trans (congrArg (fun kn => M.rsize_l0_step x27 x29 kn (fun (x30:Int) => Q .ret (St.mk (nn 4 (some (SV.int .i64 x30) :: nn 23 ([]))) [])) (Q (.exit 0) (St.mk (nn 28 ([])) [])) x25) (funext fun x25 => rsize_l0_iter x26 x27 x28 x29 Q n x25))
noncomputable def rsize_l0_go {α:Type} (ds:List D) (Q:Ex → St → Option α):Option α :=
  dI ds fun x25 ds => dB ds fun x26 ds => dL (K.int IntKind.i64) ds fun x27 ds => dB ds fun x28 ds => dL (K.int IntKind.i64) ds fun x29 ds => dE ds (M.rsize_l0 x27 x29 (fun (x30:Int) => Q .ret (St.mk (nn 4 (some (SV.int .i64 x30) :: nn 23 ([]))) [])) (Q (.exit 0) (St.mk (nn 28 ([])) [])) (100 + x27.length + x29.length) x25)
theorem rsize_l0_ok {α:Type}:LoopOk E.P 115 [false,true,false,true] 0 (lEnt (α := α) (rsize_S2) rsize_l0_go) :=
  lEnt_ok E (exec_sound E E_ok (look_of_ok) (noLps_ok _) 400) fun ds Q r h S hS => by
    unfold rsize_l0_go at h
    obtain ⟨x25,ds,rfl,h1⟩ := dI_inv h
    obtain ⟨x26,ds,rfl,h2⟩ := dB_inv h1
    obtain ⟨x27,ds,rfl,h3⟩ := dL_inv h2
    obtain ⟨x28,ds,rfl,h4⟩ := dB_inv h3
    obtain ⟨x29,ds,rfl,h5⟩ := dL_inv h4
    obtain ⟨rfl,hE⟩ := dE_inv h5
    have e:fillS (rsize_S2) [.i x25,.b x26,.l (K.int IntKind.i64) x27,.b x28,.l (K.int IntKind.i64) x29] = some (rsize_S1 x25 x26 x27 x28 x29) := by kernel_rfl
    rw [e] at hS
    cases hS
    exact ⟨_,(rsize_l0_iter x26 x27 x28 x29 Q _ x25).trans hE⟩
noncomputable def rsize_l0_lps {α:Type}:LookL α := addLp 115 [false,true,false,true] 0 (lEnt (rsize_S2) rsize_l0_go) noLps
theorem rsize_l0_lps_ok {α:Type}:LoopsOk E.P (rsize_l0_lps (α := α)) := addLp_ok rsize_l0_ok (noLps_ok _)

noncomputable def _root_.Go.Proofs.Ytlagndfhibkjpaa.M.rsize {α:Type} (an:Bool) (ad:List Int) (bn:Bool) (bd:List Int) (k0:Int → Option α):Option α := M.rsize_l0 ad bd (fun (x32:Int) ↦ k0 x32) (k0 (0:Int)) ((100:Nat) + List.length ad + List.length bd) (7:Int)
theorem rsize_eq {α:Type} (an:Bool) (ad:List Int) (bn:Bool) (bd:List Int) (Q:SV → Hp → Option α):callI E look_of (exec E look_of rsize_l0_lps 400) 115 ([SV.agg [SV.bool an,SV.arr (K.int IntKind.i64) ad (nat_lit 8)],SV.agg [SV.bool bn,SV.arr (K.int IntKind.i64) bd (nat_lit 8)]]) ([]) Q = M.rsize an ad bn bd (fun (x33:Int) => Q (SV.int .i64 x33) ([])) := by kernel_rfl
def rsize_sp:List AS := [.val (.agg [.bool false,.arr (.int .i64) [] 8]),.val (.agg [.bool false,.arr (.int .i64) [] 8])]
noncomputable def rsize_go {α:Type} (ds:List D) (Q:SV → Hp → Option α):Option α :=
  dB ds fun an ds => dL (K.int IntKind.i64) ds fun ad ds => dB ds fun bn ds => dL (K.int IntKind.i64) ds fun bd ds => dE ds (M.rsize an ad bn bd (fun (x33:Int) => Q (SV.int .i64 x33) ([])))
theorem rsize_ok {α:Type}:FnOk E.P 115 (fEnt (α := α) rsize_sp rsize_go) :=
  fEnt_ok E (look_of_ok) (exec_sound E E_ok (look_of_ok) (rsize_l0_lps_ok) 400) fun ds Q r h => by
    unfold rsize_go at h
    obtain ⟨an,ds,rfl,h1⟩ := dB_inv h
    obtain ⟨ad,ds,rfl,h2⟩ := dL_inv h1
    obtain ⟨bn,ds,rfl,h3⟩ := dB_inv h2
    obtain ⟨bd,ds,rfl,h4⟩ := dL_inv h3
    obtain ⟨rfl,hE⟩ := dE_inv h4
    exact ⟨[SV.agg [SV.bool an,SV.arr (K.int IntKind.i64) ad (nat_lit 8)],SV.agg [SV.bool bn,SV.arr (K.int IntKind.i64) bd (nat_lit 8)]],[],fun vs => by kernel_rfl,(rsize_eq an ad bn bd Q).trans hE⟩
theorem val_take_succ {D:List Int} {m:Nat} (h:m < D.length):val (D.take (m + 1)) = val (D.take m) + 16777216 ^ m * D.getD m 0 := by
  rw [List.take_add_one,val_append]
  simp [h,val,List.length_take,Nat.min_eq_left (Nat.le_of_lt h),List.getD_eq_getElem?_getD]
theorem rsize_l0_val {α:Type} (a b:List Int) (ha:okD a = true) (hb:okD b = true) (la:a.length = 8) (lb:b.length = 8) (k0:Int → Option α) (k2:Option α):∀ (fuel m:Nat),m ≤ 8 → m < fuel →
    M.rsize_l0 a b k0 k2 fuel ((m:Int) - 1) = if val (a.take m) < val (b.take m) then k0 (-1) else if val (b.take m) < val (a.take m) then k0 1 else k2
  | 0,m,h1,h2 => by omega
  | n + 1,0,h1,h2 => by
    unfold M.rsize_l0 M.rsize_l0_step
    have e:¬ (0:Int) ≤ ((0:Nat):Int) - 1 := by omega
    rw [cLe_eq]
    simp only [e,decide_false,Bool.false_eq_true,if_false,List.take_zero,Int.lt_irrefl]
  | n + 1,m + 1,h1,h2 => by
    unfold M.rsize_l0 M.rsize_l0_step
    have e0:(((m + 1:Nat):Int) - 1) = (m:Int) := by omega
    rw [e0]
    have c1:(0:Int) ≤ (m:Int) := by omega
    have c2:(m:Int) < 8 := by omega
    simp only [cLe_eq,cLt_eq,c1,c2,decide_true,if_true,and_self,Int.toNat_natCast]
    rw [IntWalk.i64_in _ (by omega),rsize_l0_val a b ha hb la lb k0 k2 n m (by omega) (by omega)]
    rw [val_take_succ (by omega:m < a.length),val_take_succ (by omega:m < b.length)]
    have ba := val_bound (okD_take ha m)
    have bb := val_bound (okD_take hb m)
    rw [List.length_take,Nat.min_eq_left (by omega)] at ba bb
    have P := pB m
    have cmp:∀ x y u v:Int,x < y → 0 ≤ v → u < 16777216 ^ m → u + 16777216 ^ m * x < v + 16777216 ^ m * y := by
      intro x y u v hxy hv hu
      have:16777216 ^ m * (x + 1) ≤ 16777216 ^ m * y := Int.mul_le_mul_of_nonneg_left (by omega) (by omega)
      rw [Int.mul_add,Int.mul_one] at this
      omega
    generalize a.getD m 0 = p at *
    generalize b.getD m 0 = q at *
    rcases Int.lt_trichotomy p q with h | h | h
    · have := cmp _ _ (val (a.take m)) (val (b.take m)) h bb.1 ba.2
      simp [h,this]
    · rw [h]
      simp only [Int.lt_irrefl,decide_false,Bool.false_eq_true,if_false,Int.add_lt_add_iff_right]
    · have := cmp _ _ (val (b.take m)) (val (a.take m)) h ba.1 bb.2
      have n1:¬ p < q := by omega
      have n2:¬ val (a.take m) + 16777216 ^ m * p < val (b.take m) + 16777216 ^ m * q := by omega
      simp [h,this,n1,n2]
def _root_.Go.Proofs.Ytlagndfhibkjpaa.V.cmp (x y:Int):Int := if x < y then -1 else if y < x then 1 else 0
noncomputable def _root_.Go.Proofs.Ytlagndfhibkjpaa.V.szD (a b:List Int):Int := V.cmp (val a) (val b)
theorem ok8_iff {D:List Int}:V.ok8 D = true ↔ D.length = 8 ∧ okD D = true := by simp [V.ok8]
theorem rsize_v {α:Type} (an:Bool) (a:List Int) (bn:Bool) (b:List Int) (ha:V.ok8 a = true) (hb:V.ok8 b = true) (k0:Int → Option α):M.rsize an a bn b k0 = k0 (V.szD a b) := by
  rw [ok8_iff] at ha hb
  unfold M.rsize V.szD V.cmp
  have := rsize_l0_val a b ha.2 hb.2 ha.1 hb.1 (fun x => k0 x) (k0 0) (100 + a.length + b.length) 8 (by omega) (by omega)
  rw [List.take_of_length_le (by omega),List.take_of_length_le (by omega)] at this
  rw [show (7:Int) = ((8:Nat):Int) - 1 by rfl,this]
  split
  · rfl
  · split <;> rfl
noncomputable def rsize_h {α:Type} (ds:List D) (Q:SV → Hp → Option α):Option α :=
  dB ds fun an ds => dL (K.int IntKind.i64) ds fun ad ds => dB ds fun bn ds => dL (K.int IntKind.i64) ds fun bd ds => dE ds (if V.ok8 ad = true ∧ V.ok8 bd = true then Q (.int .i64 (V.szD ad bd)) ([]) else none)
theorem rsize_h_ok {α:Type}:FnOk E.P 115 (fEnt (α := α) rsize_sp rsize_h) :=
  fEnt_ok E (look_of_ok) (exec_sound E E_ok (look_of_ok) (rsize_l0_lps_ok) 400) fun ds Q r h => by
    unfold rsize_h at h
    obtain ⟨an,ds,rfl,h1⟩ := dB_inv h
    obtain ⟨ad,ds,rfl,h2⟩ := dL_inv h1
    obtain ⟨bn,ds,rfl,h3⟩ := dB_inv h2
    obtain ⟨bd,ds,rfl,h4⟩ := dL_inv h3
    obtain ⟨rfl,hE⟩ := dE_inv h4
    split at hE
    · rename_i hg
      exact ⟨[SV.agg [SV.bool an,SV.arr (K.int IntKind.i64) ad (nat_lit 8)],SV.agg [SV.bool bn,SV.arr (K.int IntKind.i64) bd (nat_lit 8)]],[],fun vs => by kernel_rfl,(rsize_eq an ad bn bd Q).trans ((rsize_v an ad bn bd hg.1 hg.2 _).trans hE)⟩
    · cases hE
noncomputable def look_rsize {α:Type}:LookF α := addFn 115 (fEnt rsize_sp rsize_h) look_of
theorem look_rsize_ok {α:Type}:LookOk E.P (look_rsize (α := α)) := addFn_ok rsize_h_ok (look_of_ok)
end Go.Proofs.Ytlagndfhibkjpaa.Sx
end

section
/- The document's own numbers: Plus. -/
namespace Go.Proofs.Ytlagndfhibkjpaa.Sx
open Go
set_option maxRecDepth 20000
set_option linter.unusedVariables false
set_option linter.unusedSimpArgs false
noncomputable abbrev plus_S1 (y1 y2:Int) (y3:Bool) (y4:List Int) (y5:Bool) (y6:List Int) (y7:Bool) (y8:List Int) (y9:Bool) (y10:List Int):St := St.mk (none :: none :: some (SV.ptr (nat_lit 0) (nat_lit 0)) :: some (SV.ptr (nat_lit 1) (nat_lit 0)) :: some (SV.ptr (nat_lit 2) (nat_lit 0)) :: some (SV.int .i64 y1) :: some (SV.ptr (nat_lit 3) (nat_lit 0)) :: some (SV.int .i64 y2) :: nn 67 ([])) [.cells [SV.bool y3,SV.arr (K.int IntKind.i64) y4 (nat_lit 8)] (nat_lit 124),.cells [SV.bool y5,SV.arr (K.int IntKind.i64) y6 (nat_lit 8)] (nat_lit 124),.cells [SV.bool y7,SV.arr (K.int IntKind.i64) y8 (nat_lit 8)] (nat_lit 124),.cells [SV.bool y9,SV.arr (K.int IntKind.i64) y10 (nat_lit 8)] (nat_lit 124)]
noncomputable abbrev plus_S2 (y1:Bool) (y2:List Int) (y3:Bool) (y4:List Int):St := St.mk (nn 4 (some (SV.ptr (nat_lit 0) (nat_lit 0)) :: none :: some (SV.ptr (nat_lit 1) (nat_lit 0)) :: nn 68 ([]))) [.cells [SV.bool y1,SV.arr (K.int IntKind.i64) y2 (nat_lit 8)] (nat_lit 124),.cells [SV.bool y3,SV.arr (K.int IntKind.i64) y4 (nat_lit 8)] (nat_lit 124)]
noncomputable abbrev plus_S3:St := St.mk (none :: none :: some (SV.ptr (nat_lit 0) (nat_lit 0)) :: some (SV.ptr (nat_lit 1) (nat_lit 0)) :: some (SV.ptr (nat_lit 2) (nat_lit 0)) :: some (SV.int .i64 (0:Int)) :: some (SV.ptr (nat_lit 3) (nat_lit 0)) :: some (SV.int .i64 (0:Int)) :: nn 67 ([])) [.cells [SV.bool false,SV.arr (K.int IntKind.i64) [] (nat_lit 8)] (nat_lit 124),.cells [SV.bool false,SV.arr (K.int IntKind.i64) [] (nat_lit 8)] (nat_lit 124),.cells [SV.bool false,SV.arr (K.int IntKind.i64) [] (nat_lit 8)] (nat_lit 124),.cells [SV.bool false,SV.arr (K.int IntKind.i64) [] (nat_lit 8)] (nat_lit 124)]
noncomputable abbrev plus_S4 (y1 y2:Int) (y3:Bool) (y4:List Int) (y5:Bool) (y6:List Int) (y7:Bool) (y8:List Int) (y9:Bool) (y10:List Int):St := St.mk (none :: none :: some (SV.ptr (nat_lit 0) (nat_lit 0)) :: some (SV.ptr (nat_lit 1) (nat_lit 0)) :: some (SV.ptr (nat_lit 2) (nat_lit 0)) :: nn 5 (some (SV.ptr (nat_lit 3) (nat_lit 0)) :: some (SV.int .i64 y1) :: some (SV.int .i64 y2) :: nn 62 ([]))) [.cells [SV.bool y3,SV.arr (K.int IntKind.i64) y4 (nat_lit 8)] (nat_lit 124),.cells [SV.bool y5,SV.arr (K.int IntKind.i64) y6 (nat_lit 8)] (nat_lit 124),.cells [SV.bool y7,SV.arr (K.int IntKind.i64) y8 (nat_lit 8)] (nat_lit 124),.cells [SV.bool y9,SV.arr (K.int IntKind.i64) y10 (nat_lit 8)] (nat_lit 124)]
noncomputable abbrev plus_S5 (y1:Bool) (y2:List Int) (y3:Bool) (y4:List Int):St := St.mk (nn 4 (some (SV.ptr (nat_lit 0) (nat_lit 0)) :: nn 5 (some (SV.ptr (nat_lit 1) (nat_lit 0)) :: nn 64 ([])))) [.cells [SV.bool y1,SV.arr (K.int IntKind.i64) y2 (nat_lit 8)] (nat_lit 124),.cells [SV.bool y3,SV.arr (K.int IntKind.i64) y4 (nat_lit 8)] (nat_lit 124)]
noncomputable abbrev plus_S6:St := St.mk (none :: none :: some (SV.ptr (nat_lit 0) (nat_lit 0)) :: some (SV.ptr (nat_lit 1) (nat_lit 0)) :: some (SV.ptr (nat_lit 2) (nat_lit 0)) :: nn 5 (some (SV.ptr (nat_lit 3) (nat_lit 0)) :: some (SV.int .i64 (0:Int)) :: some (SV.int .i64 (0:Int)) :: nn 62 ([]))) [.cells [SV.bool false,SV.arr (K.int IntKind.i64) [] (nat_lit 8)] (nat_lit 124),.cells [SV.bool false,SV.arr (K.int IntKind.i64) [] (nat_lit 8)] (nat_lit 124),.cells [SV.bool false,SV.arr (K.int IntKind.i64) [] (nat_lit 8)] (nat_lit 124),.cells [SV.bool false,SV.arr (K.int IntKind.i64) [] (nat_lit 8)] (nat_lit 124)]
abbrev plus_P1:List Bool := [false,true,false,true,true,false,true,false,true]
abbrev plus_P2:List Bool := [false,true,false,true,true,true,true,true]
noncomputable def _root_.Go.Proofs.Ytlagndfhibkjpaa.M.plus_l0_step {α:Type} (x13:List Int) (x15:List Int) (kn:Int → Int → List Int → Option α) (k1:List Int → Option α) (x10 x11:Int) (x19:List Int):Option α := if cLt x11 (8:Int) = true then if (0:Int) ≤ x11 ∧ x11 < (8:Int) then if (0:Int) ≤ x11 ∧ x11 < (8:Int) then if (0:Int) ≤ x11 ∧ x11 < (8:Int) then kn (IntKind.wrap .i64 (Int.tdiv (IntKind.wrap .i64 (IntKind.wrap .i64 (List.getD x13 (Int.toNat x11) (0:Int) + List.getD x15 (Int.toNat x11) (0:Int)) + x10)) (16777216:Int))) (IntKind.wrap .i64 (x11 + (1:Int))) (List.set x19 (Int.toNat x11) (Int.tmod (IntKind.wrap .i64 (IntKind.wrap .i64 (List.getD x13 (Int.toNat x11) (0:Int) + List.getD x15 (Int.toNat x11) (0:Int)) + x10)) (16777216:Int))) else none else none else none else k1 x19
noncomputable def _root_.Go.Proofs.Ytlagndfhibkjpaa.M.plus_l0 {α:Type} (x13:List Int) (x15:List Int) (k1:List Int → Option α):Nat → Int → Int → List Int → Option α
  | 0,_,_,_ => none
  | n + 1,x10,x11,x19 => M.plus_l0_step x13 x15 (M.plus_l0 x13 x15 k1 n) k1 x10 x11 x19
theorem plus_l0_step_eq {α:Type} (x10 x11:Int) (x12:Bool) (x13:List Int) (x14:Bool) (x15:List Int) (x16:Bool) (x17:List Int) (x18:Bool) (x19:List Int) (Q:Ex → St → Option α):(loopStep E (exec E look_rsize noLps 400) 111 plus_P1 0 (codeAt E.P 111 plus_P1)) (plus_S1 x10 x11 x12 x13 x14 x15 x16 x17 x18 x19) Q = M.plus_l0_step x13 x15 (fun (x21 x22:Int) (x23:List Int) => Q .normal (plus_S1 x21 x22 x12 x13 x14 x15 x16 x17 x18 x23)) (fun (x20:List Int) => Q (.exit 0) (plus_S2 x16 x17 x18 x20)) x10 x11 x19 := by kernel_rfl
theorem plus_l0_iter {α:Type} (x12:Bool) (x13:List Int) (x14:Bool) (x15:List Int) (x16:Bool) (x17:List Int) (x18:Bool) (Q:Ex → St → Option α):∀ (n:Nat) (x10 x11:Int) (x19:List Int),iter (loopStep E (exec E look_rsize noLps 400) 111 plus_P1 0 (codeAt E.P 111 plus_P1)) n (plus_S1 x10 x11 x12 x13 x14 x15 x16 x17 x18 x19) Q = M.plus_l0 x13 x15 (fun (x20:List Int) => Q (.exit 0) (plus_S2 x16 x17 x18 x20)) n x10 x11 x19
  | 0,_,_,_ => rfl
  | n + 1,x10,x11,x19 => (plus_l0_step_eq x10 x11 x12 x13 x14 x15 x16 x17 x18 x19 (iterK (loopStep E (exec E look_rsize noLps 400) 111 plus_P1 0 (codeAt E.P 111 plus_P1)) n Q)).trans (congrArg (fun kn => M.plus_l0_step x13 x15 kn (fun (x20:List Int) => Q (.exit 0) (plus_S2 x16 x17 x18 x20)) x10 x11 x19) (funext fun x10 => funext fun x11 => funext fun x19 => plus_l0_iter x12 x13 x14 x15 x16 x17 x18 Q n x10 x11 x19))
noncomputable def plus_l0_go {α:Type} (ds:List D) (Q:Ex → St → Option α):Option α :=
  dI ds fun x10 ds => dI ds fun x11 ds => dB ds fun x12 ds => dL (K.int IntKind.i64) ds fun x13 ds => dB ds fun x14 ds => dL (K.int IntKind.i64) ds fun x15 ds => dB ds fun x16 ds => dL (K.int IntKind.i64) ds fun x17 ds => dB ds fun x18 ds => dL (K.int IntKind.i64) ds fun x19 ds => dE ds (M.plus_l0 x13 x15 (fun (x20:List Int) => Q (.exit 0) (plus_S2 x16 x17 x18 x20)) (100 + x13.length + x15.length + x17.length + x19.length) x10 x11 x19)
theorem plus_l0_ok {α:Type}:LoopOk E.P 111 plus_P1 0 (lEnt (α := α) (plus_S3) plus_l0_go) :=
  lEnt_ok E (exec_sound E E_ok (look_rsize_ok) (noLps_ok _) 400) fun ds Q r h S hS => by
    unfold plus_l0_go at h
    obtain ⟨x10,ds,rfl,h1⟩ := dI_inv h
    obtain ⟨x11,ds,rfl,h2⟩ := dI_inv h1
    obtain ⟨x12,ds,rfl,h3⟩ := dB_inv h2
    obtain ⟨x13,ds,rfl,h4⟩ := dL_inv h3
    obtain ⟨x14,ds,rfl,h5⟩ := dB_inv h4
    obtain ⟨x15,ds,rfl,h6⟩ := dL_inv h5
    obtain ⟨x16,ds,rfl,h7⟩ := dB_inv h6
    obtain ⟨x17,ds,rfl,h8⟩ := dL_inv h7
    obtain ⟨x18,ds,rfl,h9⟩ := dB_inv h8
    obtain ⟨x19,ds,rfl,h10⟩ := dL_inv h9
    obtain ⟨rfl,hE⟩ := dE_inv h10
    have e:fillS (plus_S3) [.i x10,.i x11,.b x12,.l (K.int IntKind.i64) x13,.b x14,.l (K.int IntKind.i64) x15,.b x16,.l (K.int IntKind.i64) x17,.b x18,.l (K.int IntKind.i64) x19] = some (plus_S1 x10 x11 x12 x13 x14 x15 x16 x17 x18 x19) := by kernel_rfl
    rw [e] at hS
    cases hS
    exact ⟨_,(plus_l0_iter x12 x13 x14 x15 x16 x17 x18 Q _ x10 x11 x19).trans hE⟩
noncomputable def plus_l0_lps {α:Type}:LookL α := addLp 111 plus_P1 0 (lEnt (plus_S3) plus_l0_go) noLps
theorem plus_l0_lps_ok {α:Type}:LoopsOk E.P (plus_l0_lps (α := α)) := addLp_ok plus_l0_ok (noLps_ok _)

noncomputable def _root_.Go.Proofs.Ytlagndfhibkjpaa.M.plus_l1_step {α:Type} (x38:List Int) (x40:List Int) (kn:Int → Int → List Int → Option α) (k1:List Int → Option α) (x35 x36:Int) (x44:List Int):Option α := if cLt x36 (8:Int) = true then if (0:Int) ≤ x36 ∧ x36 < (8:Int) then if (0:Int) ≤ x36 ∧ x36 < (8:Int) then if cLt (IntKind.wrap .i64 (IntKind.wrap .i64 (List.getD x38 (Int.toNat x36) (0:Int) - List.getD x40 (Int.toNat x36) (0:Int)) - x35)) (0:Int) = true then if (0:Int) ≤ x36 ∧ x36 < (8:Int) then kn (1:Int) (IntKind.wrap .i64 (x36 + (1:Int))) (List.set x44 (Int.toNat x36) (IntKind.wrap .i64 (IntKind.wrap .i64 (IntKind.wrap .i64 (List.getD x38 (Int.toNat x36) (0:Int) - List.getD x40 (Int.toNat x36) (0:Int)) - x35) + (16777216:Int)))) else none else if (0:Int) ≤ x36 ∧ x36 < (8:Int) then kn (0:Int) (IntKind.wrap .i64 (x36 + (1:Int))) (List.set x44 (Int.toNat x36) (IntKind.wrap .i64 (IntKind.wrap .i64 (List.getD x38 (Int.toNat x36) (0:Int) - List.getD x40 (Int.toNat x36) (0:Int)) - x35))) else none else none else none else k1 x44
noncomputable def _root_.Go.Proofs.Ytlagndfhibkjpaa.M.plus_l1 {α:Type} (x38:List Int) (x40:List Int) (k1:List Int → Option α):Nat → Int → Int → List Int → Option α
  | 0,_,_,_ => none
  | n + 1,x35,x36,x44 => M.plus_l1_step x38 x40 (M.plus_l1 x38 x40 k1 n) k1 x35 x36 x44
theorem plus_l1_step_eq {α:Type} (x35 x36:Int) (x37:Bool) (x38:List Int) (x39:Bool) (x40:List Int) (x41:Bool) (x42:List Int) (x43:Bool) (x44:List Int) (Q:Ex → St → Option α):(loopStep E (exec E look_rsize plus_l0_lps 400) 111 plus_P2 0 (codeAt E.P 111 plus_P2)) (plus_S4 x35 x36 x37 x38 x39 x40 x41 x42 x43 x44) Q = M.plus_l1_step x38 x40 (fun (x46 x47:Int) (x48:List Int) => Q .normal (plus_S4 x46 x47 x37 x38 x39 x40 x41 x42 x43 x48)) (fun (x45:List Int) => Q (.exit 2) (plus_S5 x41 x42 x43 x45)) x35 x36 x44 := by kernel_rfl
theorem plus_l1_iter {α:Type} (x37:Bool) (x38:List Int) (x39:Bool) (x40:List Int) (x41:Bool) (x42:List Int) (x43:Bool) (Q:Ex → St → Option α):∀ (n:Nat) (x35 x36:Int) (x44:List Int),iter (loopStep E (exec E look_rsize plus_l0_lps 400) 111 plus_P2 0 (codeAt E.P 111 plus_P2)) n (plus_S4 x35 x36 x37 x38 x39 x40 x41 x42 x43 x44) Q = M.plus_l1 x38 x40 (fun (x45:List Int) => Q (.exit 2) (plus_S5 x41 x42 x43 x45)) n x35 x36 x44
  | 0,_,_,_ => rfl
  | n + 1,x35,x36,x44 => (plus_l1_step_eq x35 x36 x37 x38 x39 x40 x41 x42 x43 x44 (iterK (loopStep E (exec E look_rsize plus_l0_lps 400) 111 plus_P2 0 (codeAt E.P 111 plus_P2)) n Q)).trans (congrArg (fun kn => M.plus_l1_step x38 x40 kn (fun (x45:List Int) => Q (.exit 2) (plus_S5 x41 x42 x43 x45)) x35 x36 x44) (funext fun x35 => funext fun x36 => funext fun x44 => plus_l1_iter x37 x38 x39 x40 x41 x42 x43 Q n x35 x36 x44))
noncomputable def plus_l1_go {α:Type} (ds:List D) (Q:Ex → St → Option α):Option α :=
  dI ds fun x35 ds => dI ds fun x36 ds => dB ds fun x37 ds => dL (K.int IntKind.i64) ds fun x38 ds => dB ds fun x39 ds => dL (K.int IntKind.i64) ds fun x40 ds => dB ds fun x41 ds => dL (K.int IntKind.i64) ds fun x42 ds => dB ds fun x43 ds => dL (K.int IntKind.i64) ds fun x44 ds => dE ds (M.plus_l1 x38 x40 (fun (x45:List Int) => Q (.exit 2) (plus_S5 x41 x42 x43 x45)) (100 + x38.length + x40.length + x42.length + x44.length) x35 x36 x44)
theorem plus_l1_ok {α:Type}:LoopOk E.P 111 plus_P2 0 (lEnt (α := α) (plus_S6) plus_l1_go) :=
  lEnt_ok E (exec_sound E E_ok (look_rsize_ok) (plus_l0_lps_ok) 400) fun ds Q r h S hS => by
    unfold plus_l1_go at h
    obtain ⟨x35,ds,rfl,h1⟩ := dI_inv h
    obtain ⟨x36,ds,rfl,h2⟩ := dI_inv h1
    obtain ⟨x37,ds,rfl,h3⟩ := dB_inv h2
    obtain ⟨x38,ds,rfl,h4⟩ := dL_inv h3
    obtain ⟨x39,ds,rfl,h5⟩ := dB_inv h4
    obtain ⟨x40,ds,rfl,h6⟩ := dL_inv h5
    obtain ⟨x41,ds,rfl,h7⟩ := dB_inv h6
    obtain ⟨x42,ds,rfl,h8⟩ := dL_inv h7
    obtain ⟨x43,ds,rfl,h9⟩ := dB_inv h8
    obtain ⟨x44,ds,rfl,h10⟩ := dL_inv h9
    obtain ⟨rfl,hE⟩ := dE_inv h10
    have e:fillS (plus_S6) [.i x35,.i x36,.b x37,.l (K.int IntKind.i64) x38,.b x39,.l (K.int IntKind.i64) x40,.b x41,.l (K.int IntKind.i64) x42,.b x43,.l (K.int IntKind.i64) x44] = some (plus_S4 x35 x36 x37 x38 x39 x40 x41 x42 x43 x44) := by kernel_rfl
    rw [e] at hS
    cases hS
    exact ⟨_,(plus_l1_iter x37 x38 x39 x40 x41 x42 x43 Q _ x35 x36 x44).trans hE⟩
noncomputable def plus_l1_lps {α:Type}:LookL α := addLp 111 plus_P2 0 (lEnt (plus_S6) plus_l1_go) plus_l0_lps
theorem plus_l1_lps_ok {α:Type}:LoopsOk E.P (plus_l1_lps (α := α)) := addLp_ok plus_l1_ok (plus_l0_lps_ok)

noncomputable def _root_.Go.Proofs.Ytlagndfhibkjpaa.M.plus {α:Type} (an:Bool) (ad:List Int) (bn:Bool) (bd:List Int) (k0:Bool → List Int → Option α):Option α := if (an == bn) = true then M.plus_l0 ad bd (fun (x49:List Int) ↦ k0 an x49) ((100:Nat) + List.length ad + List.length bd + (8:Nat) + List.length ad) (0:Int) (0:Int) ad else if V.ok8 ad = true ∧ V.ok8 bd = true then if cLt (V.szD ad bd) (0:Int) = true then M.plus_l1 bd ad (fun (x50:List Int) ↦ k0 bn x50) ((100:Nat) + List.length bd + List.length ad + (8:Nat) + List.length bd) (0:Int) (0:Int) bd else M.plus_l1 ad bd (fun (x51:List Int) ↦ k0 an x51) ((100:Nat) + List.length ad + List.length bd + (8:Nat) + List.length ad) (0:Int) (0:Int) ad else none
theorem plus_eq {α:Type} (an:Bool) (ad:List Int) (bn:Bool) (bd:List Int) (Q:SV → Hp → Option α):callI E look_rsize (exec E look_rsize plus_l1_lps 400) 111 ([SV.agg [SV.bool an,SV.arr (K.int IntKind.i64) ad (nat_lit 8)],SV.agg [SV.bool bn,SV.arr (K.int IntKind.i64) bd (nat_lit 8)]]) ([]) Q = M.plus an ad bn bd (fun (x52:Bool) (x53:List Int) => Q (SV.agg [SV.bool x52,SV.arr (K.int IntKind.i64) x53 (nat_lit 8)]) ([])) := by kernel_rfl
def plus_sp:List AS := [.val (.agg [.bool false,.arr (.int .i64) [] 8]),.val (.agg [.bool false,.arr (.int .i64) [] 8])]
noncomputable def plus_go {α:Type} (ds:List D) (Q:SV → Hp → Option α):Option α :=
  dB ds fun an ds => dL (K.int IntKind.i64) ds fun ad ds => dB ds fun bn ds => dL (K.int IntKind.i64) ds fun bd ds => dE ds (M.plus an ad bn bd (fun (x52:Bool) (x53:List Int) => Q (SV.agg [SV.bool x52,SV.arr (K.int IntKind.i64) x53 (nat_lit 8)]) ([])))
theorem plus_ok {α:Type}:FnOk E.P 111 (fEnt (α := α) plus_sp plus_go) :=
  fEnt_ok E (look_rsize_ok) (exec_sound E E_ok (look_rsize_ok) (plus_l1_lps_ok) 400) fun ds Q r h => by
    unfold plus_go at h
    obtain ⟨an,ds,rfl,h1⟩ := dB_inv h
    obtain ⟨ad,ds,rfl,h2⟩ := dL_inv h1
    obtain ⟨bn,ds,rfl,h3⟩ := dB_inv h2
    obtain ⟨bd,ds,rfl,h4⟩ := dL_inv h3
    obtain ⟨rfl,hE⟩ := dE_inv h4
    exact ⟨[SV.agg [SV.bool an,SV.arr (K.int IntKind.i64) ad (nat_lit 8)],SV.agg [SV.bool bn,SV.arr (K.int IntKind.i64) bd (nat_lit 8)]],[],fun vs => by kernel_rfl,(plus_eq an ad bn bd Q).trans hE⟩
/-- Digit by digit: xs and m times ys and c. -/
def linL (m:Int):List Int → List Int → Int → List Int
  | x :: xs,y :: ys,c => (x + m * y + c) % 16777216 :: linL m xs ys ((x + m * y + c) / 16777216)
  | _,_,_ => []
theorem linL_len (m:Int):∀ (xs ys:List Int) (c:Int),xs.length ≤ ys.length → (linL m xs ys c).length = xs.length
  | [],ys,c,_ => by simp [linL]
  | x :: xs,[],c,h => by simp at h
  | x :: xs,y :: ys,c,h => by simp only [linL,List.length_cons]; rw [linL_len m xs ys _ (by simpa using h)]
theorem linL_ok (m:Int):∀ (xs ys:List Int) (c:Int),okD (linL m xs ys c) = true
  | [],ys,c => by simp [linL,okD]
  | x :: xs,[],c => by simp [linL,okD]
  | x :: xs,y :: ys,c => by rw [linL,okD_cons]; exact ⟨by omega,linL_ok m xs ys _⟩
theorem linL_val (m:Int):∀ (xs ys:List Int) (c:Int),xs.length ≤ ys.length → val (linL m xs ys c) = (val xs + m * val ys + c) % 16777216 ^ xs.length
  | [],ys,c,_ => by simp [linL,val,Int.emod_one]
  | x :: xs,[],c,h => by simp at h
  | x :: xs,y :: ys,c,h => by
    rw [linL,val,linL_val m xs ys _ (by simpa using h),List.length_cons,pB1,← mod_split _ _ _ (pB _)]
    congr 1
    simp only [val]
    grind
theorem drop_getD {a:List Int} {i:Nat} (h:i < a.length):a.drop i = a.getD i 0 :: a.drop (i + 1) := by
  rw [List.drop_eq_getElem_cons h]; simp [List.getD_eq_getElem?_getD,h]
theorem linL_drop (m:Int) {a b:List Int} {i:Nat} (h1:i < a.length) (h2:i < b.length) (c:Int) :
    linL m (a.drop i) (b.drop i) c = (a.getD i 0 + m * b.getD i 0 + c) % 16777216 :: linL m (a.drop (i + 1)) (b.drop (i + 1)) ((a.getD i 0 + m * b.getD i 0 + c) / 16777216) := by
  rw [drop_getD h1,drop_getD h2,linL]
theorem plus_l0_val {α:Type} (a b:List Int) (ha:okD a = true) (hb:okD b = true) (la:a.length = 8) (lb:b.length = 8) (k1:List Int → Option α):∀ (fuel i:Nat) (c:Int) (o:List Int),i ≤ 8 → 8 - i < fuel → o.length = 8 → 0 ≤ c → c ≤ 1 →
    M.plus_l0 a b k1 fuel c (i:Int) o = k1 (o.take i ++ linL 1 (a.drop i) (b.drop i) c)
  | 0,i,c,o,h1,h2,_,_,_ => by omega
  | n + 1,i,c,o,h1,h2,ho,hc0,hc1 => by
    unfold M.plus_l0 M.plus_l0_step
    rw [cLt_eq]
    by_cases hi:i < 8
    · have c1 : (i : Int) < 8 := by omega
      have c2:(0:Int) ≤ (i:Int) := by omega
      have da := okD_get ha i
      have db := okD_get hb i
      simp only [c1,c2,decide_true,if_true,and_self,Int.toNat_natCast]
      rw [linL_drop 1 (by omega) (by omega),Int.one_mul]
      generalize a.getD i 0 = x at *
      generalize b.getD i 0 = y at *
      rw [IntWalk.i64_in (x + y) (by omega),IntWalk.i64_in (x + y + c) (by omega),Int.tdiv_eq_ediv_of_nonneg (by omega),Int.tmod_eq_emod_of_nonneg (by omega),IntWalk.i64_in ((x + y + c) / 16777216) (by omega),IntWalk.i64_in ((i:Int) + 1) (by omega)]
      have := plus_l0_val a b ha hb la lb k1 n (i + 1) ((x + y + c) / 16777216) (o.set i ((x + y + c) % 16777216)) (by omega) (by omega) (by simpa using ho) (by omega) (by omega)
      push_cast at this
      rw [this,take_set_succ _ (by omega),List.append_assoc,List.singleton_append]
    · have : i = 8 := by omega
      subst this
      have e:¬ ((8:Nat):Int) < 8 := by omega
      simp only [e,decide_false,Bool.false_eq_true,if_false]
      rw [List.take_of_length_le (by omega),List.drop_of_length_le (by omega:a.length ≤ 8),linL,List.append_nil]
      · intro _ _ _ _ _; simp_all
theorem plus_l1_val {α:Type} (a b:List Int) (ha:okD a = true) (hb:okD b = true) (la:a.length = 8) (lb:b.length = 8) (k1:List Int → Option α):∀ (fuel i:Nat) (c:Int) (o:List Int),i ≤ 8 → 8 - i < fuel → o.length = 8 → 0 ≤ c → c ≤ 1 →
    M.plus_l1 a b k1 fuel c (i:Int) o = k1 (o.take i ++ linL (-1) (a.drop i) (b.drop i) (-c))
  | 0,i,c,o,h1,h2,_,_,_ => by omega
  | n + 1,i,c,o,h1,h2,ho,hc0,hc1 => by
    unfold M.plus_l1 M.plus_l1_step
    rw [cLt_eq]
    by_cases hi:i < 8
    · have c1 : (i : Int) < 8 := by omega
      have c2:(0:Int) ≤ (i:Int) := by omega
      have da := okD_get ha i
      have db := okD_get hb i
      simp only [c1,c2,decide_true,if_true,and_self,Int.toNat_natCast]
      rw [linL_drop (-1) (by omega) (by omega)]
      generalize a.getD i 0 = x at *
      generalize b.getD i 0 = y at *
      rw [IntWalk.i64_in (x - y) (by omega),IntWalk.i64_in (x - y - c) (by omega),cLt_eq,IntWalk.i64_in ((i:Int) + 1) (by omega),show x + -1 * y + -c = x - y - c by omega]
      by_cases hn:x - y - c < 0
      · simp only [hn, decide_true, if_true]
        rw [IntWalk.i64_in (x - y - c + 16777216) (by omega)]
        have := plus_l1_val a b ha hb la lb k1 n (i + 1) 1 (o.set i (x - y - c + 16777216)) (by omega) (by omega) (by simpa using ho) (by omega) (by omega)
        push_cast at this
        rw [this,take_set_succ _ (by omega),List.append_assoc,List.singleton_append,show (x - y - c) % 16777216 = x - y - c + 16777216 by omega,show (x - y - c) / 16777216 = -1 by omega]
      · simp only [hn, decide_false, Bool.false_eq_true, if_false]
        have := plus_l1_val a b ha hb la lb k1 n (i + 1) 0 (o.set i (x - y - c)) (by omega) (by omega) (by simpa using ho) (by omega) (by omega)
        push_cast at this
        rw [this,take_set_succ _ (by omega),List.append_assoc,List.singleton_append,show (x - y - c) % 16777216 = x - y - c by omega,show (x - y - c) / 16777216 = 0 by omega]
        rfl
    · have : i = 8 := by omega
      subst this
      have e:¬ ((8:Nat):Int) < 8 := by omega
      simp only [e,decide_false,Bool.false_eq_true,if_false]
      rw [List.take_of_length_le (by omega),List.drop_of_length_le (by omega:a.length ≤ 8),linL,List.append_nil]
      · intro _ _ _ _ _; simp_all
/-- A sum's sign and digits. -/
noncomputable def _root_.Go.Proofs.Ytlagndfhibkjpaa.V.plN (an:Bool) (a:List Int) (bn:Bool) (b:List Int):Bool := if an == bn then an else if val a < val b then bn else an
noncomputable def _root_.Go.Proofs.Ytlagndfhibkjpaa.V.plD (an:Bool) (a:List Int) (bn:Bool) (b:List Int):List Int := if an == bn then linL 1 a b 0 else if val a < val b then linL (-1) b a 0 else linL (-1) a b 0
theorem plus_v {α:Type} (an:Bool) (a:List Int) (bn:Bool) (b:List Int) (ha:V.ok8 a = true) (hb:V.ok8 b = true) (k0:Bool → List Int → Option α):M.plus an a bn b k0 = k0 (V.plN an a bn b) (V.plD an a bn b) := by
  unfold M.plus V.plN V.plD
  have hab := And.intro ha hb
  rw [ok8_iff] at ha hb
  cases hs:(an == bn) with
  | true =>
    simp only [if_true]
    have := plus_l0_val a b ha.2 hb.2 ha.1 hb.1 (fun x => k0 an x) (100 + a.length + b.length + 8 + a.length) 0 0 a (by omega) (by omega) ha.1 (by omega) (by omega)
    simp only [List.drop_zero,List.take_zero,List.nil_append,Int.natCast_zero] at this
    exact this
  | false =>
    simp only [Bool.false_eq_true,if_false,cLt_eq]
    rw [if_pos hab]
    unfold V.szD V.cmp
    by_cases h:val a < val b
    · simp only [h, if_true]
      rw [show decide ((-1:Int) < 0) = true by decide]
      simp only [if_true]
      have := plus_l1_val b a hb.2 ha.2 hb.1 ha.1 (fun x => k0 bn x) (100 + b.length + a.length + 8 + b.length) 0 0 b (by omega) (by omega) hb.1 (by omega) (by omega)
      simp only [List.drop_zero,List.take_zero,List.nil_append,Int.natCast_zero,Int.neg_zero] at this
      exact this
    · have hc : decide ((if val a < val b then (-1 : Int) else if val b < val a then 1 else 0) < 0) = false := by
        simp only [h,if_false]; split <;> decide
      rw [hc]
      simp only [h,Bool.false_eq_true,if_false]
      have := plus_l1_val a b ha.2 hb.2 ha.1 hb.1 (fun x => k0 an x) (100 + a.length + b.length + 8 + a.length) 0 0 a (by omega) (by omega) ha.1 (by omega) (by omega)
      simp only [List.drop_zero,List.take_zero,List.nil_append,Int.natCast_zero,Int.neg_zero] at this
      exact this
noncomputable def plus_h {α:Type} (ds:List D) (Q:SV → Hp → Option α):Option α :=
  dB ds fun an ds => dL (K.int IntKind.i64) ds fun ad ds => dB ds fun bn ds => dL (K.int IntKind.i64) ds fun bd ds => dE ds (if V.ok8 ad = true ∧ V.ok8 bd = true then Q (.agg [.bool (V.plN an ad bn bd),.arr (.int .i64) (V.plD an ad bn bd) 8]) ([]) else none)
theorem plus_h_ok {α:Type}:FnOk E.P 111 (fEnt (α := α) plus_sp plus_h) :=
  fEnt_ok E (look_rsize_ok) (exec_sound E E_ok (look_rsize_ok) (plus_l1_lps_ok) 400) fun ds Q r h => by
    unfold plus_h at h
    obtain ⟨an,ds,rfl,h1⟩ := dB_inv h
    obtain ⟨ad,ds,rfl,h2⟩ := dL_inv h1
    obtain ⟨bn,ds,rfl,h3⟩ := dB_inv h2
    obtain ⟨bd,ds,rfl,h4⟩ := dL_inv h3
    obtain ⟨rfl,hE⟩ := dE_inv h4
    split at hE
    · rename_i hg
      exact ⟨[SV.agg [SV.bool an,SV.arr (K.int IntKind.i64) ad (nat_lit 8)],SV.agg [SV.bool bn,SV.arr (K.int IntKind.i64) bd (nat_lit 8)]],[],fun vs => by kernel_rfl,(plus_eq an ad bn bd Q).trans ((plus_v an ad bn bd hg.1 hg.2 _).trans hE)⟩
    · cases hE
noncomputable def look_plus {α:Type}:LookF α := addFn 111 (fEnt plus_sp plus_h) look_rsize
theorem look_plus_ok {α:Type}:LookOk E.P (look_plus (α := α)) := addFn_ok plus_h_ok (look_rsize_ok)
/-- What a number of the document is worth. -/
def wv (n:Bool) (D:List Int):Int := if n then -val D else val D
theorem plD_ok (an:Bool) {a:List Int} (bn:Bool) {b:List Int} (ha:V.ok8 a = true) (hb:V.ok8 b = true):V.ok8 (V.plD an a bn b) = true := by
  rw [ok8_iff] at ha hb ⊢
  unfold V.plD
  split
  · exact ⟨by rw [linL_len _ _ _ _ (by omega)]; exact ha.1,linL_ok _ _ _ _⟩
  · split
    · exact ⟨by rw [linL_len _ _ _ _ (by omega)]; exact hb.1,linL_ok _ _ _ _⟩
    · exact ⟨by rw [linL_len _ _ _ _ (by omega)]; exact ha.1,linL_ok _ _ _ _⟩
theorem p8:(16777216:Int) ^ 8 = 6277101735386680763835789423207666416102355444464034512896 := by kernel_rfl
theorem pl_val (an:Bool) {a:List Int} (bn:Bool) {b:List Int} (ha:V.ok8 a = true) (hb:V.ok8 b = true) (h1:val a + val b < 6277101735386680763835789423207666416102355444464034512896) :
    wv (V.plN an a bn b) (V.plD an a bn b) = wv an a + wv bn b ∧ val (V.plD an a bn b) ≤ val a + val b := by
  rw [ok8_iff] at ha hb
  have va := val_bound ha.2
  have vb := val_bound hb.2
  unfold V.plN V.plD wv
  cases hs:(an == bn) with
  | true =>
    have:an = bn := by simpa using hs
    subst this
    simp only [if_true]
    rw [linL_val 1 a b 0 (by omega),ha.1,p8,Int.one_mul,Int.add_zero,Int.emod_eq_of_lt (by omega) h1]
    cases an <;> simp <;> omega
  | false =>
    have hne:an = !bn := by cases an <;> cases bn <;> simp_all
    subst hne
    simp only [Bool.false_eq_true,if_false]
    by_cases h:val a < val b
    · simp only [h, if_true]
      rw [linL_val (-1) b a 0 (by omega),hb.1,p8,Int.emod_eq_of_lt (by omega) (by omega)]
      cases bn <;> simp <;> omega
    · simp only [h, if_false]
      rw [linL_val (-1) a b 0 (by omega),ha.1,p8,Int.emod_eq_of_lt (by omega) (by omega)]
      cases bn <;> simp <;> omega
end Go.Proofs.Ytlagndfhibkjpaa.Sx
end

section
/- The document's own numbers: Times. -/
namespace Go.Proofs.Ytlagndfhibkjpaa.Sx
open Go
set_option maxRecDepth 20000
set_option linter.unusedVariables false
set_option linter.unusedSimpArgs false
noncomputable abbrev rtimes_S1 (y1 y2 y3:Int) (y4:Bool) (y5:List Int) (y6:Bool) (y7:List Int) (y8:Bool) (y9:List Int) (y10:Bool) (y11:List Int):St := St.mk (none :: none :: some (SV.ptr (nat_lit 0) (nat_lit 0)) :: some (SV.ptr (nat_lit 1) (nat_lit 0)) :: some (SV.ptr (nat_lit 2) (nat_lit 0)) :: some (SV.ptr (nat_lit 3) (nat_lit 0)) :: some (SV.int .i64 y1) :: some (SV.int .i64 y2) :: some (SV.int .i64 y3) :: nn 50 ([])) [.cells [SV.bool y4,SV.arr (K.int IntKind.i64) y5 (nat_lit 8)] (nat_lit 124),.cells [SV.bool y6,SV.arr (K.int IntKind.i64) y7 (nat_lit 8)] (nat_lit 124),.cells [SV.bool y8,SV.arr (K.int IntKind.i64) y9 (nat_lit 8)] (nat_lit 124),.cells [SV.bool y10,SV.arr (K.int IntKind.i64) y11 (nat_lit 8)] (nat_lit 124)]
noncomputable abbrev rtimes_S2 (y1:Int) (y2:Bool) (y3:List Int) (y4:Bool) (y5:List Int) (y6:Bool) (y7:List Int) (y8:Bool) (y9:List Int):St := St.mk (none :: none :: some (SV.ptr (nat_lit 0) (nat_lit 0)) :: some (SV.ptr (nat_lit 1) (nat_lit 0)) :: some (SV.ptr (nat_lit 2) (nat_lit 0)) :: some (SV.ptr (nat_lit 3) (nat_lit 0)) :: some (SV.int .i64 y1) :: nn 52 ([])) [.cells [SV.bool y2,SV.arr (K.int IntKind.i64) y3 (nat_lit 8)] (nat_lit 124),.cells [SV.bool y4,SV.arr (K.int IntKind.i64) y5 (nat_lit 8)] (nat_lit 124),.cells [SV.bool y6,SV.arr (K.int IntKind.i64) y7 (nat_lit 8)] (nat_lit 124),.cells [SV.bool y8,SV.arr (K.int IntKind.i64) y9 (nat_lit 8)] (nat_lit 124)]
noncomputable abbrev rtimes_S3:St := St.mk (none :: none :: some (SV.ptr (nat_lit 0) (nat_lit 0)) :: some (SV.ptr (nat_lit 1) (nat_lit 0)) :: some (SV.ptr (nat_lit 2) (nat_lit 0)) :: some (SV.ptr (nat_lit 3) (nat_lit 0)) :: some (SV.int .i64 (0:Int)) :: some (SV.int .i64 (0:Int)) :: some (SV.int .i64 (0:Int)) :: nn 50 ([])) [.cells [SV.bool false,SV.arr (K.int IntKind.i64) [] (nat_lit 8)] (nat_lit 124),.cells [SV.bool false,SV.arr (K.int IntKind.i64) [] (nat_lit 8)] (nat_lit 124),.cells [SV.bool false,SV.arr (K.int IntKind.i64) [] (nat_lit 8)] (nat_lit 124),.cells [SV.bool false,SV.arr (K.int IntKind.i64) [] (nat_lit 8)] (nat_lit 124)]
noncomputable abbrev rtimes_S4 (y1:Bool) (y2:List Int) (y3:Bool) (y4:List Int) (y5:Bool) (y6:List Int) (y7:Bool) (y8:List Int):St := St.mk (none :: none :: some (SV.ptr (nat_lit 0) (nat_lit 0)) :: some (SV.ptr (nat_lit 1) (nat_lit 0)) :: some (SV.ptr (nat_lit 2) (nat_lit 0)) :: some (SV.ptr (nat_lit 3) (nat_lit 0)) :: nn 53 ([])) [.cells [SV.bool y1,SV.arr (K.int IntKind.i64) y2 (nat_lit 8)] (nat_lit 124),.cells [SV.bool y3,SV.arr (K.int IntKind.i64) y4 (nat_lit 8)] (nat_lit 124),.cells [SV.bool y5,SV.arr (K.int IntKind.i64) y6 (nat_lit 8)] (nat_lit 124),.cells [SV.bool y7,SV.arr (K.int IntKind.i64) y8 (nat_lit 8)] (nat_lit 124)]
noncomputable abbrev rtimes_S5:St := St.mk (none :: none :: some (SV.ptr (nat_lit 0) (nat_lit 0)) :: some (SV.ptr (nat_lit 1) (nat_lit 0)) :: some (SV.ptr (nat_lit 2) (nat_lit 0)) :: some (SV.ptr (nat_lit 3) (nat_lit 0)) :: some (SV.int .i64 (0:Int)) :: nn 52 ([])) [.cells [SV.bool false,SV.arr (K.int IntKind.i64) [] (nat_lit 8)] (nat_lit 124),.cells [SV.bool false,SV.arr (K.int IntKind.i64) [] (nat_lit 8)] (nat_lit 124),.cells [SV.bool false,SV.arr (K.int IntKind.i64) [] (nat_lit 8)] (nat_lit 124),.cells [SV.bool false,SV.arr (K.int IntKind.i64) [] (nat_lit 8)] (nat_lit 124)]
abbrev rtimes_P1:List Bool := [false,true,true,true,false,false,true,false,false,true,false,true,true]
noncomputable def _root_.Go.Proofs.Ytlagndfhibkjpaa.M.rtimes_l0_step {α:Type} (x29:Int) (x33:List Int) (x35:List Int) (kn:Int → Int → List Int → Option α) (k1:List Int → Option α) (x30 x31:Int) (x39:List Int):Option α := if cLt (IntKind.wrap .i64 (x29 + x31)) (8:Int) = true then if (0:Int) ≤ IntKind.wrap .i64 (x29 + x31) ∧ IntKind.wrap .i64 (x29 + x31) < (8:Int) then if (0:Int) ≤ x29 ∧ x29 < (8:Int) then if (0:Int) ≤ x31 ∧ x31 < (8:Int) then if (0:Int) ≤ IntKind.wrap .i64 (x29 + x31) ∧ IntKind.wrap .i64 (x29 + x31) < (8:Int) then kn (IntKind.wrap .i64 (Int.tdiv (IntKind.wrap .i64 (IntKind.wrap .i64 (List.getD x39 (Int.toNat (IntKind.wrap .i64 (x29 + x31))) (0:Int) + IntKind.wrap .i64 (List.getD x33 (Int.toNat x29) (0:Int) * List.getD x35 (Int.toNat x31) (0:Int))) + x30)) (16777216:Int))) (IntKind.wrap .i64 (x31 + (1:Int))) (List.set x39 (Int.toNat (IntKind.wrap .i64 (x29 + x31))) (Int.tmod (IntKind.wrap .i64 (IntKind.wrap .i64 (List.getD x39 (Int.toNat (IntKind.wrap .i64 (x29 + x31))) (0:Int) + IntKind.wrap .i64 (List.getD x33 (Int.toNat x29) (0:Int) * List.getD x35 (Int.toNat x31) (0:Int))) + x30)) (16777216:Int))) else none else none else none else none else k1 x39
noncomputable def _root_.Go.Proofs.Ytlagndfhibkjpaa.M.rtimes_l0 {α:Type} (x29:Int) (x33:List Int) (x35:List Int) (k1:List Int → Option α):Nat → Int → Int → List Int → Option α
  | 0,_,_,_ => none
  | n + 1,x30,x31,x39 => M.rtimes_l0_step x29 x33 x35 (M.rtimes_l0 x29 x33 x35 k1 n) k1 x30 x31 x39
theorem rtimes_l0_step_eq {α:Type} (x29 x30 x31:Int) (x32:Bool) (x33:List Int) (x34:Bool) (x35:List Int) (x36:Bool) (x37:List Int) (x38:Bool) (x39:List Int) (Q:Ex → St → Option α):(loopStep E (exec E look_plus noLps 400) 108 rtimes_P1 0 (codeAt E.P 108 rtimes_P1)) (rtimes_S1 x29 x30 x31 x32 x33 x34 x35 x36 x37 x38 x39) Q = M.rtimes_l0_step x29 x33 x35 (fun (x41 x42:Int) (x43:List Int) => Q .normal (rtimes_S1 x29 x41 x42 x32 x33 x34 x35 x36 x37 x38 x43)) (fun (x40:List Int) => Q (.exit 2) (rtimes_S2 x29 x32 x33 x34 x35 x36 x37 x38 x40)) x30 x31 x39 := by kernel_rfl
theorem rtimes_l0_iter {α:Type} (x29:Int) (x32:Bool) (x33:List Int) (x34:Bool) (x35:List Int) (x36:Bool) (x37:List Int) (x38:Bool) (Q:Ex → St → Option α):∀ (n:Nat) (x30 x31:Int) (x39:List Int),iter (loopStep E (exec E look_plus noLps 400) 108 rtimes_P1 0 (codeAt E.P 108 rtimes_P1)) n (rtimes_S1 x29 x30 x31 x32 x33 x34 x35 x36 x37 x38 x39) Q = M.rtimes_l0 x29 x33 x35 (fun (x40:List Int) => Q (.exit 2) (rtimes_S2 x29 x32 x33 x34 x35 x36 x37 x38 x40)) n x30 x31 x39
  | 0,_,_,_ => rfl
  | n + 1,x30,x31,x39 => (rtimes_l0_step_eq x29 x30 x31 x32 x33 x34 x35 x36 x37 x38 x39 (iterK (loopStep E (exec E look_plus noLps 400) 108 rtimes_P1 0 (codeAt E.P 108 rtimes_P1)) n Q)).trans (congrArg (fun kn => M.rtimes_l0_step x29 x33 x35 kn (fun (x40:List Int) => Q (.exit 2) (rtimes_S2 x29 x32 x33 x34 x35 x36 x37 x38 x40)) x30 x31 x39) (funext fun x30 => funext fun x31 => funext fun x39 => rtimes_l0_iter x29 x32 x33 x34 x35 x36 x37 x38 Q n x30 x31 x39))
noncomputable def rtimes_l0_go {α:Type} (ds:List D) (Q:Ex → St → Option α):Option α :=
  dI ds fun x29 ds => dI ds fun x30 ds => dI ds fun x31 ds => dB ds fun x32 ds => dL (K.int IntKind.i64) ds fun x33 ds => dB ds fun x34 ds => dL (K.int IntKind.i64) ds fun x35 ds => dB ds fun x36 ds => dL (K.int IntKind.i64) ds fun x37 ds => dB ds fun x38 ds => dL (K.int IntKind.i64) ds fun x39 ds => dE ds (M.rtimes_l0 x29 x33 x35 (fun (x40:List Int) => Q (.exit 2) (rtimes_S2 x29 x32 x33 x34 x35 x36 x37 x38 x40)) (100 + x33.length + x35.length + x37.length + x39.length) x30 x31 x39)
theorem rtimes_l0_ok {α:Type}:LoopOk E.P 108 rtimes_P1 0 (lEnt (α := α) (rtimes_S3) rtimes_l0_go) :=
  lEnt_ok E (exec_sound E E_ok (look_plus_ok) (noLps_ok _) 400) fun ds Q r h S hS => by
    unfold rtimes_l0_go at h
    obtain ⟨x29,ds,rfl,h1⟩ := dI_inv h
    obtain ⟨x30,ds,rfl,h2⟩ := dI_inv h1
    obtain ⟨x31,ds,rfl,h3⟩ := dI_inv h2
    obtain ⟨x32,ds,rfl,h4⟩ := dB_inv h3
    obtain ⟨x33,ds,rfl,h5⟩ := dL_inv h4
    obtain ⟨x34,ds,rfl,h6⟩ := dB_inv h5
    obtain ⟨x35,ds,rfl,h7⟩ := dL_inv h6
    obtain ⟨x36,ds,rfl,h8⟩ := dB_inv h7
    obtain ⟨x37,ds,rfl,h9⟩ := dL_inv h8
    obtain ⟨x38,ds,rfl,h10⟩ := dB_inv h9
    obtain ⟨x39,ds,rfl,h11⟩ := dL_inv h10
    obtain ⟨rfl,hE⟩ := dE_inv h11
    have e:fillS (rtimes_S3) [.i x29,.i x30,.i x31,.b x32,.l (K.int IntKind.i64) x33,.b x34,.l (K.int IntKind.i64) x35,.b x36,.l (K.int IntKind.i64) x37,.b x38,.l (K.int IntKind.i64) x39] = some (rtimes_S1 x29 x30 x31 x32 x33 x34 x35 x36 x37 x38 x39) := by kernel_rfl
    rw [e] at hS
    cases hS
    exact ⟨_,(rtimes_l0_iter x29 x32 x33 x34 x35 x36 x37 x38 Q _ x30 x31 x39).trans hE⟩
noncomputable def rtimes_l0_lps {α:Type}:LookL α := addLp 108 rtimes_P1 0 (lEnt (rtimes_S3) rtimes_l0_go) noLps
theorem rtimes_l0_lps_ok {α:Type}:LoopsOk E.P (rtimes_l0_lps (α := α)) := addLp_ok rtimes_l0_ok (noLps_ok _)

noncomputable def _root_.Go.Proofs.Ytlagndfhibkjpaa.M.rtimes_l1_step {α:Type} (x46:List Int) (x48:List Int) (x50:List Int) (kn:Int → List Int → Option α) (k1:List Int → Option α) (x44:Int) (x52:List Int):Option α := if cLt x44 (8:Int) = true then if (0:Int) ≤ x44 ∧ x44 < (8:Int) then if cEq (List.getD x46 (Int.toNat x44) (0:Int)) (0:Int) = true then kn (IntKind.wrap .i64 (x44 + (1:Int))) x52 else M.rtimes_l0 x44 x46 x48 (fun (x53:List Int) ↦ kn (IntKind.wrap .i64 (x44 + (1:Int))) x53) ((100:Nat) + List.length x46 + List.length x48 + List.length x50 + List.length x52) (0:Int) (0:Int) x52 else none else k1 x52
noncomputable def _root_.Go.Proofs.Ytlagndfhibkjpaa.M.rtimes_l1 {α:Type} (x46:List Int) (x48:List Int) (x50:List Int) (k1:List Int → Option α):Nat → Int → List Int → Option α
  | 0,_,_ => none
  | n + 1,x44,x52 => M.rtimes_l1_step x46 x48 x50 (M.rtimes_l1 x46 x48 x50 k1 n) k1 x44 x52
theorem rtimes_l1_step_eq {α:Type} (x44:Int) (x45:Bool) (x46:List Int) (x47:Bool) (x48:List Int) (x49:Bool) (x50:List Int) (x51:Bool) (x52:List Int) (Q:Ex → St → Option α):(loopStep E (exec E look_plus rtimes_l0_lps 400) 108 [false,true,false,true,true] 0 (codeAt E.P 108 [false,true,false,true,true])) (rtimes_S2 x44 x45 x46 x47 x48 x49 x50 x51 x52) Q = M.rtimes_l1_step x46 x48 x50 (fun (x55:Int) (x56:List Int) => Q .normal (rtimes_S2 x55 x45 x46 x47 x48 x49 x50 x51 x56)) (fun (x54:List Int) => Q (.exit 0) (rtimes_S4 x45 x46 x47 x48 x49 x50 x51 x54)) x44 x52 := by kernel_rfl
theorem rtimes_l1_iter {α:Type} (x45:Bool) (x46:List Int) (x47:Bool) (x48:List Int) (x49:Bool) (x50:List Int) (x51:Bool) (Q:Ex → St → Option α):∀ (n:Nat) (x44:Int) (x52:List Int),iter (loopStep E (exec E look_plus rtimes_l0_lps 400) 108 [false,true,false,true,true] 0 (codeAt E.P 108 [false,true,false,true,true])) n (rtimes_S2 x44 x45 x46 x47 x48 x49 x50 x51 x52) Q = M.rtimes_l1 x46 x48 x50 (fun (x54:List Int) => Q (.exit 0) (rtimes_S4 x45 x46 x47 x48 x49 x50 x51 x54)) n x44 x52
  | 0,_,_ => rfl
  | n + 1,x44,x52 => (rtimes_l1_step_eq x44 x45 x46 x47 x48 x49 x50 x51 x52 (iterK (loopStep E (exec E look_plus rtimes_l0_lps 400) 108 [false,true,false,true,true] 0 (codeAt E.P 108 [false,true,false,true,true])) n Q)).trans (congrArg (fun kn => M.rtimes_l1_step x46 x48 x50 kn (fun (x54:List Int) => Q (.exit 0) (rtimes_S4 x45 x46 x47 x48 x49 x50 x51 x54)) x44 x52) (funext fun x44 => funext fun x52 => rtimes_l1_iter x45 x46 x47 x48 x49 x50 x51 Q n x44 x52))
noncomputable def rtimes_l1_go {α:Type} (ds:List D) (Q:Ex → St → Option α):Option α :=
  dI ds fun x44 ds => dB ds fun x45 ds => dL (K.int IntKind.i64) ds fun x46 ds => dB ds fun x47 ds => dL (K.int IntKind.i64) ds fun x48 ds => dB ds fun x49 ds => dL (K.int IntKind.i64) ds fun x50 ds => dB ds fun x51 ds => dL (K.int IntKind.i64) ds fun x52 ds => dE ds (M.rtimes_l1 x46 x48 x50 (fun (x54:List Int) => Q (.exit 0) (rtimes_S4 x45 x46 x47 x48 x49 x50 x51 x54)) (100 + x46.length + x48.length + x50.length + x52.length) x44 x52)
theorem rtimes_l1_ok {α:Type}:LoopOk E.P 108 [false,true,false,true,true] 0 (lEnt (α := α) (rtimes_S5) rtimes_l1_go) :=
  lEnt_ok E (exec_sound E E_ok (look_plus_ok) (rtimes_l0_lps_ok) 400) fun ds Q r h S hS => by
    unfold rtimes_l1_go at h
    obtain ⟨x44,ds,rfl,h1⟩ := dI_inv h
    obtain ⟨x45,ds,rfl,h2⟩ := dB_inv h1
    obtain ⟨x46,ds,rfl,h3⟩ := dL_inv h2
    obtain ⟨x47,ds,rfl,h4⟩ := dB_inv h3
    obtain ⟨x48,ds,rfl,h5⟩ := dL_inv h4
    obtain ⟨x49,ds,rfl,h6⟩ := dB_inv h5
    obtain ⟨x50,ds,rfl,h7⟩ := dL_inv h6
    obtain ⟨x51,ds,rfl,h8⟩ := dB_inv h7
    obtain ⟨x52,ds,rfl,h9⟩ := dL_inv h8
    obtain ⟨rfl,hE⟩ := dE_inv h9
    have e:fillS (rtimes_S5) [.i x44,.b x45,.l (K.int IntKind.i64) x46,.b x47,.l (K.int IntKind.i64) x48,.b x49,.l (K.int IntKind.i64) x50,.b x51,.l (K.int IntKind.i64) x52] = some (rtimes_S2 x44 x45 x46 x47 x48 x49 x50 x51 x52) := by kernel_rfl
    rw [e] at hS
    cases hS
    exact ⟨_,(rtimes_l1_iter x45 x46 x47 x48 x49 x50 x51 Q _ x44 x52).trans hE⟩
noncomputable def rtimes_l1_lps {α:Type}:LookL α := addLp 108 [false,true,false,true,true] 0 (lEnt (rtimes_S5) rtimes_l1_go) rtimes_l0_lps
theorem rtimes_l1_lps_ok {α:Type}:LoopsOk E.P (rtimes_l1_lps (α := α)) := addLp_ok rtimes_l1_ok (rtimes_l0_lps_ok)

noncomputable def _root_.Go.Proofs.Ytlagndfhibkjpaa.M.rtimes {α:Type} (an:Bool) (ad:List Int) (bn:Bool) (bd:List Int) (k0:Bool → List Int → Option α):Option α := M.rtimes_l1 ad bd (List.replicate (8:Nat) (0:Int)) (fun (x57:List Int) ↦ k0 (!an == bn) x57) ((100:Nat) + List.length ad + List.length bd + (8:Nat) + (8:Nat)) (0:Int) (List.replicate (8:Nat) (0:Int))
theorem rtimes_eq {α:Type} (an:Bool) (ad:List Int) (bn:Bool) (bd:List Int) (Q:SV → Hp → Option α):callI E look_plus (exec E look_plus rtimes_l1_lps 400) 108 ([SV.agg [SV.bool an,SV.arr (K.int IntKind.i64) ad (nat_lit 8)],SV.agg [SV.bool bn,SV.arr (K.int IntKind.i64) bd (nat_lit 8)]]) ([]) Q = M.rtimes an ad bn bd (fun (x58:Bool) (x59:List Int) => Q (SV.agg [SV.bool x58,SV.arr (K.int IntKind.i64) x59 (nat_lit 8)]) ([])) := by kernel_rfl
def rtimes_sp:List AS := [.val (.agg [.bool false,.arr (.int .i64) [] 8]),.val (.agg [.bool false,.arr (.int .i64) [] 8])]
noncomputable def rtimes_go {α:Type} (ds:List D) (Q:SV → Hp → Option α):Option α :=
  dB ds fun an ds => dL (K.int IntKind.i64) ds fun ad ds => dB ds fun bn ds => dL (K.int IntKind.i64) ds fun bd ds => dE ds (M.rtimes an ad bn bd (fun (x58:Bool) (x59:List Int) => Q (SV.agg [SV.bool x58,SV.arr (K.int IntKind.i64) x59 (nat_lit 8)]) ([])))
theorem rtimes_ok {α:Type}:FnOk E.P 108 (fEnt (α := α) rtimes_sp rtimes_go) :=
  fEnt_ok E (look_plus_ok) (exec_sound E E_ok (look_plus_ok) (rtimes_l1_lps_ok) 400) fun ds Q r h => by
    unfold rtimes_go at h
    obtain ⟨an,ds,rfl,h1⟩ := dB_inv h
    obtain ⟨ad,ds,rfl,h2⟩ := dL_inv h1
    obtain ⟨bn,ds,rfl,h3⟩ := dB_inv h2
    obtain ⟨bd,ds,rfl,h4⟩ := dL_inv h3
    obtain ⟨rfl,hE⟩ := dE_inv h4
    exact ⟨[SV.agg [SV.bool an,SV.arr (K.int IntKind.i64) ad (nat_lit 8)],SV.agg [SV.bool bn,SV.arr (K.int IntKind.i64) bd (nat_lit 8)]],[],fun vs => by kernel_rfl,(rtimes_eq an ad bn bd Q).trans hE⟩
theorem rtimes_l0_val {α:Type} (a b:List Int) (ha:okD a = true) (hb:okD b = true) (la:a.length = 8) (lb:b.length = 8) (i:Nat) (hi:i < 8) (k1:List Int → Option α):∀ (fuel k:Nat) (c:Int) (o:List Int),i + k ≤ 8 → 8 - k < fuel → o.length = 8 → okD o = true → 0 ≤ c → c < 16777216 →
    M.rtimes_l0 (i:Int) a b k1 fuel c (k:Int) o = k1 (o.take (i + k) ++ linL (a.getD i 0) (o.drop (i + k)) (b.drop k) c)
  | 0,k,c,o,h1,h2,_,_,_,_ => by omega
  | n + 1,k,c,o,h1,h2,lo,ho,hc0,hc1 => by
    unfold M.rtimes_l0 M.rtimes_l0_step
    have ew:IntKind.wrap .i64 ((i:Int) + (k:Int)) = ((i + k:Nat):Int) := by rw [IntWalk.i64_in _ (by omega)]; push_cast; rfl
    rw [ew,cLt_eq]
    by_cases hk:i + k < 8
    · have c1 : ((i + k : Nat) : Int) < 8 := by omega
      have c2:(0:Int) ≤ ((i + k:Nat):Int) := by omega
      have c3:(i:Int) < 8 := by omega
      have c4:(k:Int) < 8 := by omega
      have da := okD_get ha i
      have db := okD_get hb k
      have dd := okD_get ho (i + k)
      simp only [c1,c2,c3,c4,Int.natCast_nonneg,decide_true,if_true,and_self,Int.toNat_natCast]
      have hlin:linL (a.getD i 0) (o.drop (i + k)) (b.drop k) c = (o.getD (i + k) 0 + a.getD i 0 * b.getD k 0 + c) % 16777216 :: linL (a.getD i 0) (o.drop (i + k + 1)) (b.drop (k + 1)) ((o.getD (i + k) 0 + a.getD i 0 * b.getD k 0 + c) / 16777216) := by
        rw [drop_getD (by omega:i + k < o.length),drop_getD (by omega:k < b.length),linL]
      rw [hlin]
      generalize hx:a.getD i 0 = x at *
      generalize b.getD k 0 = y at *
      generalize o.getD (i + k) 0 = z at *
      have p1:x * y ≤ 16777215 * 16777215 := Int.mul_le_mul (by omega) (by omega) db.1 (by omega)
      have p0:0 ≤ x * y := Int.mul_nonneg da.1 db.1
      rw [IntWalk.i64_in (x * y) (by omega),IntWalk.i64_in (z + x * y) (by omega),IntWalk.i64_in (z + x * y + c) (by omega),Int.tdiv_eq_ediv_of_nonneg (by omega),Int.tmod_eq_emod_of_nonneg (by omega),IntWalk.i64_in ((z + x * y + c) / 16777216) (by omega),IntWalk.i64_in ((k:Int) + 1) (by omega)]
      have ho':okD (o.set (i + k) ((z + x * y + c) % 16777216)) = true := by
        rw [← List.take_append_drop (i + k + 1) (o.set (i + k) _),okD_append,take_set_succ _ (by omega),drop_set_succ,okD_append]
        exact ⟨⟨okD_take ho _,by rw [okD_cons]; exact ⟨by omega,rfl⟩⟩,okD_drop ho _⟩
      have := rtimes_l0_val a b ha hb la lb i hi k1 n (k + 1) ((z + x * y + c) / 16777216) (o.set (i + k) ((z + x * y + c) % 16777216)) (by omega) (by omega) (by simpa using lo) ho' (by omega) (by omega)
      rw [hx] at this
      push_cast at this
      rw [this,show i + (k + 1) = i + k + 1 by omega,take_set_succ _ (by omega),drop_set_succ,List.append_assoc,List.singleton_append]
    · have e : i + k = 8 := by omega
      rw [e]
      have e2:¬ ((8:Nat):Int) < 8 := by omega
      simp only [e2,decide_false,Bool.false_eq_true,if_false]
      rw [List.take_of_length_le (by omega),List.drop_of_length_le (by omega:o.length ≤ 8),linL,List.append_nil]
      · intro _ _ _ _ _; simp_all
def tmL:List Int → Nat → List Int → List Int → List Int
  | [],_,o,_ => o
  | x :: us,i,o,b => tmL us (i + 1) (o.take i ++ linL x (o.drop i) b 0) b
theorem linL_zero:∀ (xs ys:List Int),okD xs = true → xs.length ≤ ys.length → linL 0 xs ys 0 = xs
  | [],ys,_,_ => by simp [linL]
  | x :: xs,[],_,h => by simp at h
  | x :: xs,y :: ys,h,hl => by
    rw [okD_cons] at h
    rw [linL,Int.zero_mul,Int.add_zero,Int.add_zero,show x % 16777216 = x by omega,show x / 16777216 = 0 by omega,linL_zero xs ys h.2 (by simpa using hl)]
theorem tm_step {o b:List Int} (x:Int) {i:Nat} (lo:o.length = 8) (lb:b.length = 8) (ho:okD o = true) (hi:i ≤ 8):(o.take i ++ linL x (o.drop i) b 0).length = 8 ∧ okD (o.take i ++ linL x (o.drop i) b 0) = true := by
  refine ⟨?_,?_⟩
  · rw [List.length_append,linL_len _ _ _ _ (by rw [List.length_drop]; omega),List.length_take,List.length_drop]; omega
  · rw [okD_append]; exact ⟨okD_take ho i,linL_ok _ _ _ _⟩
theorem rtimes_l1_val {α:Type} (a b z:List Int) (ha:okD a = true) (hb:okD b = true) (la:a.length = 8) (lb:b.length = 8) (k1:List Int → Option α):∀ (fuel i:Nat) (o:List Int),i ≤ 8 → 8 - i < fuel → o.length = 8 → okD o = true →
    M.rtimes_l1 a b z k1 fuel (i:Int) o = k1 (tmL (a.drop i) i o b)
  | 0,i,o,h1,h2,_,_ => by omega
  | n + 1,i,o,h1,h2,lo,ho => by
    unfold M.rtimes_l1 M.rtimes_l1_step
    rw [cLt_eq]
    by_cases hi:i < 8
    · have c1 : (i : Int) < 8 := by omega
      have c2:(0:Int) ≤ (i:Int) := by omega
      simp only [c1,c2,decide_true,if_true,and_self,Int.toNat_natCast,cEq_eq]
      rw [IntWalk.i64_in ((i:Int) + 1) (by omega),drop_getD (by omega:i < a.length),tmL]
      obtain ⟨l',o'⟩ := tm_step (b := b) (a.getD i 0) lo lb ho h1
      have rc := rtimes_l1_val a b z ha hb la lb k1 n (i + 1) (o.take i ++ linL (a.getD i 0) (o.drop i) b 0) (by omega) (by omega) l' o'
      push_cast at rc
      by_cases h0:a.getD i 0 = 0
      · rw [h0] at rc ⊢
        rw [linL_zero _ _ (okD_drop ho i) (by rw [List.length_drop]; omega),List.take_append_drop] at rc ⊢
        simp only [beq_self_eq_true,if_true]
        exact rc
      · have : (a.getD i 0 == 0) = false := by simpa using h0
        simp only [this,Bool.false_eq_true,if_false]
        have inner := rtimes_l0_val a b ha hb la lb i hi (fun x => M.rtimes_l1 a b z k1 n ((i:Int) + 1) x) (100 + a.length + b.length + z.length + o.length) 0 0 o (by omega) (by omega) lo ho (by omega) (by omega)
        simp only [Int.natCast_zero,Nat.add_zero,List.drop_zero] at inner
        exact inner.trans rc
    · have : i = 8 := by omega
      subst this
      have e:¬ ((8:Nat):Int) < 8 := by omega
      simp only [e,decide_false,Bool.false_eq_true,if_false]
      rw [List.drop_of_length_le (by omega:a.length ≤ 8),tmL]
theorem tmL_ok (b:List Int) (lb:b.length = 8):∀ (us:List Int) (i:Nat) (o:List Int),us.length + i = 8 → o.length = 8 → okD o = true → (tmL us i o b).length = 8 ∧ okD (tmL us i o b) = true
  | [],i,o,_,lo,ho => ⟨lo,ho⟩
  | x :: us,i,o,h,lo,ho => by
    simp only [List.length_cons] at h
    obtain ⟨l',o'⟩ := tm_step (b := b) x lo lb ho (by omega:i ≤ 8)
    exact tmL_ok b lb us (i + 1) _ (by omega) l' o'
theorem tmL_val (b:List Int) (lb:b.length = 8):∀ (us:List Int) (i:Nat) (o:List Int),us.length + i = 8 → o.length = 8 → okD o = true → val (tmL us i o b) = (val o + 16777216 ^ i * val us * val b) % 16777216 ^ 8
  | [],i,o,_,lo,ho => by
    have := val_bound ho
    rw [lo] at this
    simp only [tmL,val,Int.mul_zero,Int.zero_mul,Int.add_zero]
    rw [Int.emod_eq_of_lt this.1 this.2]
  | x :: us,i,o,h,lo,ho => by
    simp only [List.length_cons] at h
    obtain ⟨l',o'⟩ := tm_step (b := b) x lo lb ho (by omega:i ≤ 8)
    rw [tmL,tmL_val b lb us (i + 1) _ (by omega) l' o',val_append,linL_val _ _ _ _ (by rw [List.length_drop]; omega),List.length_take,List.length_drop,lo,Nat.min_eq_left (by omega:i ≤ 8)]
    have e0:val o = val (o.take i) + 16777216 ^ i * val (o.drop i) := by
      have := val_append (o.take i) (o.drop i)
      rw [List.take_append_drop,List.length_take,lo,Nat.min_eq_left (by omega:i ≤ 8)] at this
      exact this
    have e1:(16777216:Int) ^ i * 16777216 ^ (8 - i) = 16777216 ^ 8 := by rw [← Int.pow_add]; exact congrArg (fun e:Nat => (16777216:Int) ^ e) (by omega)
    have e2 := Int.mul_ediv_add_emod (val (o.drop i) + x * val b + 0) (16777216 ^ (8 - i))
    rw [e0,pB1,val]
    generalize hM:(16777216:Int) ^ (8 - i) = M at *
    generalize hP:(16777216:Int) ^ i = P at *
    generalize hq:(val (o.drop i) + x * val b + 0) / M = q at *
    generalize hr:(val (o.drop i) + x * val b + 0) % M = r at *
    have:val (o.take i) + P * val (o.drop i) + P * (x + 16777216 * val us) * val b = val (o.take i) + P * r + 16777216 * P * val us * val b + 16777216 ^ 8 * q := by
      rw [← e1]
      grind
    rw [this,Int.add_mul_emod_self_left]
noncomputable def _root_.Go.Proofs.Ytlagndfhibkjpaa.V.tmD (a b:List Int):List Int := tmL a 0 (List.replicate 8 0) b
def _root_.Go.Proofs.Ytlagndfhibkjpaa.V.tmN (an bn:Bool):Bool := !(an == bn)
theorem rtimes_v {α:Type} (an:Bool) (a:List Int) (bn:Bool) (b:List Int) (ha:V.ok8 a = true) (hb:V.ok8 b = true) (k0:Bool → List Int → Option α):M.rtimes an a bn b k0 = k0 (V.tmN an bn) (V.tmD a b) := by
  rw [ok8_iff] at ha hb
  unfold M.rtimes V.tmN V.tmD
  have := rtimes_l1_val a b (List.replicate 8 0) ha.2 hb.2 ha.1 hb.1 (fun x => k0 (!(an == bn)) x) (100 + a.length + b.length + 8 + 8) 0 (List.replicate 8 0) (by omega) (by omega) rfl rfl
  simp only [Int.natCast_zero,List.drop_zero] at this
  exact this
noncomputable def rtimes_h {α:Type} (ds:List D) (Q:SV → Hp → Option α):Option α :=
  dB ds fun an ds => dL (K.int IntKind.i64) ds fun ad ds => dB ds fun bn ds => dL (K.int IntKind.i64) ds fun bd ds => dE ds (if V.ok8 ad = true ∧ V.ok8 bd = true then Q (.agg [.bool (V.tmN an bn),.arr (.int .i64) (V.tmD ad bd) 8]) ([]) else none)
theorem rtimes_h_ok {α:Type}:FnOk E.P 108 (fEnt (α := α) rtimes_sp rtimes_h) :=
  fEnt_ok E (look_plus_ok) (exec_sound E E_ok (look_plus_ok) (rtimes_l1_lps_ok) 400) fun ds Q r h => by
    unfold rtimes_h at h
    obtain ⟨an,ds,rfl,h1⟩ := dB_inv h
    obtain ⟨ad,ds,rfl,h2⟩ := dL_inv h1
    obtain ⟨bn,ds,rfl,h3⟩ := dB_inv h2
    obtain ⟨bd,ds,rfl,h4⟩ := dL_inv h3
    obtain ⟨rfl,hE⟩ := dE_inv h4
    split at hE
    · rename_i hg
      exact ⟨[SV.agg [SV.bool an,SV.arr (K.int IntKind.i64) ad (nat_lit 8)],SV.agg [SV.bool bn,SV.arr (K.int IntKind.i64) bd (nat_lit 8)]],[],fun vs => by kernel_rfl,(rtimes_eq an ad bn bd Q).trans ((rtimes_v an ad bn bd hg.1 hg.2 _).trans hE)⟩
    · cases hE
noncomputable def look_rtimes {α:Type}:LookF α := addFn 108 (fEnt rtimes_sp rtimes_h) look_plus
theorem look_rtimes_ok {α:Type}:LookOk E.P (look_rtimes (α := α)) := addFn_ok rtimes_h_ok (look_plus_ok)
theorem tmD_ok {a b:List Int} (ha:V.ok8 a = true) (hb:V.ok8 b = true):V.ok8 (V.tmD a b) = true := by
  rw [ok8_iff] at ha hb ⊢
  exact tmL_ok b hb.1 a 0 _ (by omega) rfl rfl
theorem tmD_val {a b:List Int} (ha:V.ok8 a = true) (hb:V.ok8 b = true) (h:val a * val b < 6277101735386680763835789423207666416102355444464034512896):val (V.tmD a b) = val a * val b := by
  rw [ok8_iff] at ha hb
  have va := val_bound ha.2
  have vb := val_bound hb.2
  have h0:0 ≤ val a * val b := Int.mul_nonneg va.1 vb.1
  unfold V.tmD
  rw [tmL_val b hb.1 a 0 _ (by omega) rfl rfl,p8]
  have e:val (List.replicate 8 (0:Int)) = 0 := by decide
  rw [e,Int.pow_zero,Int.one_mul,Int.zero_add,Int.emod_eq_of_lt h0 h]
theorem tm_val (an:Bool) {a:List Int} (bn:Bool) {b:List Int} (ha:V.ok8 a = true) (hb:V.ok8 b = true) (h:val a * val b < 6277101735386680763835789423207666416102355444464034512896):wv (V.tmN an bn) (V.tmD a b) = wv an a * wv bn b := by
  unfold wv V.tmN
  rw [tmD_val ha hb h]
  cases an <;> cases bn <;> simp [Int.mul_neg,Int.neg_mul]
end Go.Proofs.Ytlagndfhibkjpaa.Sx
end

section
/- The document's own numbers: Less, Down. -/
namespace Go.Proofs.Ytlagndfhibkjpaa.Sx
open Go
set_option maxRecDepth 20000
set_option linter.unusedVariables false
set_option linter.unusedSimpArgs false
noncomputable def _root_.Go.Proofs.Ytlagndfhibkjpaa.M.less {α:Type} (an:Bool) (ad:List Int) (bn:Bool) (bd:List Int) (k0:Bool → Option α):Option α := if V.ok8 ad = true ∧ V.ok8 bd = true then if V.ok8 (V.plD an ad (!bn) bd) = true ∧ V.ok8 (List.replicate (8:Nat) (0:Int)) = true then if cEq (V.szD (V.plD an ad (!bn) bd) (List.replicate (8:Nat) (0:Int))) (0:Int) = true then k0 (cLt (0:Int) (0:Int)) else if V.plN an ad (!bn) bd = true then k0 (cLt (-1:Int) (0:Int)) else k0 (cLt (1:Int) (0:Int)) else none else none
theorem less_eq {α:Type} (an:Bool) (ad:List Int) (bn:Bool) (bd:List Int) (Q:SV → Hp → Option α):callI E look_rtimes (exec E look_rtimes noLps 400) 110 ([SV.agg [SV.bool an,SV.arr (K.int IntKind.i64) ad (nat_lit 8)],SV.agg [SV.bool bn,SV.arr (K.int IntKind.i64) bd (nat_lit 8)]]) ([]) Q = M.less an ad bn bd (fun (x0:Bool) => Q (SV.bool x0) ([])) := by kernel_rfl
def less_sp:List AS := [.val (.agg [.bool false,.arr (.int .i64) [] 8]),.val (.agg [.bool false,.arr (.int .i64) [] 8])]
noncomputable def _root_.Go.Proofs.Ytlagndfhibkjpaa.V.less_g (an:Bool) (ad:List Int) (bn:Bool) (bd:List Int):Bool := if V.ok8 ad = true ∧ V.ok8 bd = true then if V.ok8 (V.plD an ad (!bn) bd) = true ∧ V.ok8 (List.replicate (8:Nat) (0:Int)) = true then if cEq (V.szD (V.plD an ad (!bn) bd) (List.replicate (8:Nat) (0:Int))) (0:Int) = true then true else if V.plN an ad (!bn) bd = true then true else true else false else false
noncomputable def _root_.Go.Proofs.Ytlagndfhibkjpaa.V.less_r0 (an:Bool) (ad:List Int) (bn:Bool) (bd:List Int):Bool := if V.ok8 ad = true ∧ V.ok8 bd = true then if V.ok8 (V.plD an ad (!bn) bd) = true ∧ V.ok8 (List.replicate (8:Nat) (0:Int)) = true then if cEq (V.szD (V.plD an ad (!bn) bd) (List.replicate (8:Nat) (0:Int))) (0:Int) = true then cLt (0:Int) (0:Int) else if V.plN an ad (!bn) bd = true then cLt (-1:Int) (0:Int) else cLt (1:Int) (0:Int) else false else false
theorem less_val {α:Type} (an:Bool) (ad:List Int) (bn:Bool) (bd:List Int) (k0:Bool → Option α):M.less an ad bn bd k0 = if V.less_g an ad bn bd = true then k0 (V.less_r0 an ad bn bd) else none := by
  unfold M.less V.less_g V.less_r0
  repeat' first | rfl | (split <;> rename_i h <;> first | simp only [if_pos h] | simp only [if_neg h] | skip)
noncomputable def less_c {α:Type} (ds:List D) (Q:SV → Hp → Option α):Option α :=
  dB ds fun an ds => dL (K.int IntKind.i64) ds fun ad ds => dB ds fun bn ds => dL (K.int IntKind.i64) ds fun bd ds => dE ds (if V.less_g an ad bn bd = true then Q (SV.bool (V.less_r0 an ad bn bd)) ([]) else none)
theorem less_c_ok {α:Type}:FnOk E.P 110 (fEnt (α := α) less_sp less_c) :=
  fEnt_ok E (look_rtimes_ok) (exec_sound E E_ok (look_rtimes_ok) (noLps_ok _) 400) fun ds Q r h => by
    unfold less_c at h
    obtain ⟨an,ds,rfl,h1⟩ := dB_inv h
    obtain ⟨ad,ds,rfl,h2⟩ := dL_inv h1
    obtain ⟨bn,ds,rfl,h3⟩ := dB_inv h2
    obtain ⟨bd,ds,rfl,h4⟩ := dL_inv h3
    obtain ⟨rfl,hE⟩ := dE_inv h4
    exact ⟨[SV.agg [SV.bool an,SV.arr (K.int IntKind.i64) ad (nat_lit 8)],SV.agg [SV.bool bn,SV.arr (K.int IntKind.i64) bd (nat_lit 8)]],[],fun vs => by kernel_rfl,(less_eq an ad bn bd Q).trans ((less_val an ad bn bd (fun (x0:Bool) => Q (SV.bool x0) ([]))).trans hE)⟩
noncomputable def less_go {α:Type} (ds:List D) (Q:SV → Hp → Option α):Option α :=
  dB ds fun an ds => dL (K.int IntKind.i64) ds fun ad ds => dB ds fun bn ds => dL (K.int IntKind.i64) ds fun bd ds => dE ds (M.less an ad bn bd (fun (x0:Bool) => Q (SV.bool x0) ([])))
theorem less_ok {α:Type}:FnOk E.P 110 (fEnt (α := α) less_sp less_go) :=
  fEnt_ok E (look_rtimes_ok) (exec_sound E E_ok (look_rtimes_ok) (noLps_ok _) 400) fun ds Q r h => by
    unfold less_go at h
    obtain ⟨an,ds,rfl,h1⟩ := dB_inv h
    obtain ⟨ad,ds,rfl,h2⟩ := dL_inv h1
    obtain ⟨bn,ds,rfl,h3⟩ := dB_inv h2
    obtain ⟨bd,ds,rfl,h4⟩ := dL_inv h3
    obtain ⟨rfl,hE⟩ := dE_inv h4
    exact ⟨[SV.agg [SV.bool an,SV.arr (K.int IntKind.i64) ad (nat_lit 8)],SV.agg [SV.bool bn,SV.arr (K.int IntKind.i64) bd (nat_lit 8)]],[],fun vs => by kernel_rfl,(less_eq an ad bn bd Q).trans hE⟩
noncomputable def _root_.Go.Proofs.Ytlagndfhibkjpaa.V.wval (n:Bool) (D:List Int):Int := wv n D
def _root_.Go.Proofs.Ytlagndfhibkjpaa.V.two (a b:List Int):Bool := V.ok8 a && V.ok8 b && decide (val a + val b < 6277101735386680763835789423207666416102355444464034512896)
noncomputable def _root_.Go.Proofs.Ytlagndfhibkjpaa.V.ls (an:Bool) (a:List Int) (bn:Bool) (b:List Int):Bool := decide (wv an a < wv bn b)
theorem less_v {α:Type} (an:Bool) (a:List Int) (bn:Bool) (b:List Int) (h:V.two a b = true) (k0:Bool → Option α):M.less an a bn b k0 = k0 (V.ls an a bn b) := by
  unfold V.two at h
  simp only [Bool.and_eq_true,decide_eq_true_eq] at h
  obtain ⟨⟨ha,hb⟩,hs⟩ := h
  unfold M.less V.ls
  have hz:V.ok8 (List.replicate 8 0) = true := by decide
  have hd := plD_ok an (!bn) ha hb
  obtain ⟨hv,_⟩ := pl_val an (!bn) ha hb hs
  rw [if_pos ⟨ha,hb⟩,if_pos ⟨hd,hz⟩]
  have hflip:wv (!bn) b = - wv bn b := by unfold wv; cases bn <;> simp
  rw [hflip] at hv
  have vd := val_bound (ok8_iff.1 hd).2
  generalize V.plD an a (!bn) b = D at *
  generalize V.plN an a (!bn) b = N at *
  have e0:val (List.replicate 8 (0:Int)) = 0 := by decide
  unfold V.szD V.cmp
  rw [e0,cEq_eq,cLt_eq,cLt_eq,cLt_eq]
  unfold wv at hv
  by_cases hD:val D = 0
  · rw [hD] at hv
    have:wv an a - wv bn b = 0 := by unfold wv; cases N <;> simp at hv <;> omega
    have hn:¬ wv an a < wv bn b := by omega
    rw [hD]
    simp [hn]
  · have h1 : ¬ val D < 0 := by omega
    have h2:0 < val D := by omega
    simp only [h1,h2,if_true,if_false]
    cases N with
    | true =>
      have hn:wv an a < wv bn b := by unfold wv; simp at hv; omega
      simp [hn]
    | false =>
      have hn:¬ wv an a < wv bn b := by unfold wv; simp at hv; omega
      simp [hn]
noncomputable def less_h {α:Type} (ds:List D) (Q:SV → Hp → Option α):Option α :=
  dB ds fun an ds => dL (K.int IntKind.i64) ds fun ad ds => dB ds fun bn ds => dL (K.int IntKind.i64) ds fun bd ds => dE ds (if V.two ad bd = true then Q (.bool (V.ls an ad bn bd)) ([]) else none)
theorem less_h_ok {α:Type}:FnOk E.P 110 (fEnt (α := α) less_sp less_h) :=
  fEnt_ok E (look_rtimes_ok) (exec_sound E E_ok (look_rtimes_ok) (noLps_ok _) 400) fun ds Q r h => by
    unfold less_h at h
    obtain ⟨an,ds,rfl,h1⟩ := dB_inv h
    obtain ⟨ad,ds,rfl,h2⟩ := dL_inv h1
    obtain ⟨bn,ds,rfl,h3⟩ := dB_inv h2
    obtain ⟨bd,ds,rfl,h4⟩ := dL_inv h3
    obtain ⟨rfl,hE⟩ := dE_inv h4
    split at hE
    · rename_i hg
      exact ⟨[SV.agg [SV.bool an,SV.arr (K.int IntKind.i64) ad (nat_lit 8)],SV.agg [SV.bool bn,SV.arr (K.int IntKind.i64) bd (nat_lit 8)]],[],fun vs => by kernel_rfl,(less_eq an ad bn bd Q).trans ((less_v an ad bn bd hg _).trans hE)⟩
    · cases hE
noncomputable def look_less {α:Type}:LookF α := addFn 110 (fEnt less_sp less_h) look_rtimes
theorem look_less_ok {α:Type}:LookOk E.P (look_less (α := α)) := addFn_ok less_h_ok (look_rtimes_ok)
noncomputable abbrev down_S1 (y1:Int) (y2:Bool) (y3 y4 y5 y6:Int) (y7:Bool) (y8:List Int):St := St.mk (none :: some (SV.int .i64 y1) :: some (SV.ptr (nat_lit 0) (nat_lit 0)) :: nn 3 (some (SV.bool y2) :: some (SV.int .i64 y3) :: some (SV.int .i64 y4) :: some (SV.int .i64 y5) :: some (SV.int .i64 y6) :: nn 66 ([]))) [.cells [SV.bool y7,SV.arr (K.int IntKind.i64) y8 (nat_lit 8)] (nat_lit 124)]
noncomputable abbrev down_S2 (y1:Int) (y2:Bool) (y3 y4 y5:Int) (y6:Bool) (y7:List Int):St := St.mk (none :: some (SV.int .i64 y1) :: some (SV.ptr (nat_lit 0) (nat_lit 0)) :: none :: some (SV.int .i64 (0:Int)) :: some (SV.bool false) :: some (SV.bool y2) :: some (SV.int .i64 y3) :: some (SV.int .i64 y4) :: some (SV.int .i64 y5) :: nn 67 ([])) [.cells [SV.bool y6,SV.arr (K.int IntKind.i64) y7 (nat_lit 8)] (nat_lit 124)]
noncomputable abbrev down_S3 (y1:Int) (y2:Bool) (y3 y4 y5:Int) (y6:Bool) (y7:List Int):St := St.mk (none :: some (SV.int .i64 y1) :: some (SV.ptr (nat_lit 0) (nat_lit 0)) :: nn 3 (some (SV.bool y2) :: some (SV.int .i64 y3) :: some (SV.int .i64 y4) :: some (SV.int .i64 y5) :: nn 67 ([]))) [.cells [SV.bool y6,SV.arr (K.int IntKind.i64) y7 (nat_lit 8)] (nat_lit 124)]
noncomputable abbrev down_S4:St := St.mk (none :: some (SV.int .i64 (0:Int)) :: some (SV.ptr (nat_lit 0) (nat_lit 0)) :: nn 3 (some (SV.bool false) :: some (SV.int .i64 (0:Int)) :: some (SV.int .i64 (0:Int)) :: some (SV.int .i64 (0:Int)) :: some (SV.int .i64 (0:Int)) :: nn 66 ([]))) [.cells [SV.bool false,SV.arr (K.int IntKind.i64) [] (nat_lit 8)] (nat_lit 124)]
noncomputable abbrev down_S5 (y1:Bool) (y2 y3:Int):St := St.mk (nn 4 (some (SV.int .i64 (0:Int)) :: some (SV.bool false) :: some (SV.bool y1) :: some (SV.int .i64 y2) :: some (SV.int .i64 y3) :: nn 68 ([]))) []
noncomputable abbrev down_S6:St := St.mk (none :: some (SV.int .i64 (0:Int)) :: some (SV.ptr (nat_lit 0) (nat_lit 0)) :: nn 3 (some (SV.bool false) :: some (SV.int .i64 (0:Int)) :: some (SV.int .i64 (0:Int)) :: some (SV.int .i64 (0:Int)) :: nn 67 ([]))) [.cells [SV.bool false,SV.arr (K.int IntKind.i64) [] (nat_lit 8)] (nat_lit 124)]
abbrev down_P1:List Bool := [false,true,true,false,false,true,false,false,true,false,true,true,true,true,true]
abbrev down_P2:List Bool := [false,true,false,true,true,true,true,true]
noncomputable def _root_.Go.Proofs.Ytlagndfhibkjpaa.M.down_l0_step {α:Type} (x23 x27:Int) (x30:List Int) (kn:Int → Int → Int → Option α) (k0:Int → Int → Option α) (k2:Int → Int → Option α) (x25 x26 x28:Int):Option α := if cLt (0:Int) x28 = true then if (0:Int) ≤ x27 ∧ x27 < (8:Int) then if x28 = (0:Int) then none else if cEq (Int.tmod (IntKind.wrap .i64 (Int.tdiv (List.getD x30 (Int.toNat x27) (0:Int)) x28)) (2:Int)) (1:Int) = true then if cLt (2305843009213693951:Int) x25 = true then k0 x25 (IntKind.wrap .i64 (IntKind.wrap .i64 ((2:Int) * x26) + (1:Int))) else if cLe x23 (IntKind.wrap .i64 (IntKind.wrap .i64 ((2:Int) * x26) + (1:Int))) = true then kn (IntKind.wrap .i64 (IntKind.wrap .i64 ((2:Int) * x25) + (1:Int))) (IntKind.wrap .i64 (IntKind.wrap .i64 (IntKind.wrap .i64 ((2:Int) * x26) + (1:Int)) - x23)) (IntKind.wrap .i64 (Int.tdiv x28 (2:Int))) else kn (IntKind.wrap .i64 ((2:Int) * x25)) (IntKind.wrap .i64 (IntKind.wrap .i64 ((2:Int) * x26) + (1:Int))) (IntKind.wrap .i64 (Int.tdiv x28 (2:Int))) else if cLt (2305843009213693951:Int) x25 = true then k0 x25 (IntKind.wrap .i64 ((2:Int) * x26)) else if cLe x23 (IntKind.wrap .i64 ((2:Int) * x26)) = true then kn (IntKind.wrap .i64 (IntKind.wrap .i64 ((2:Int) * x25) + (1:Int))) (IntKind.wrap .i64 (IntKind.wrap .i64 ((2:Int) * x26) - x23)) (IntKind.wrap .i64 (Int.tdiv x28 (2:Int))) else kn (IntKind.wrap .i64 ((2:Int) * x25)) (IntKind.wrap .i64 ((2:Int) * x26)) (IntKind.wrap .i64 (Int.tdiv x28 (2:Int))) else none else k2 x25 x26
noncomputable def _root_.Go.Proofs.Ytlagndfhibkjpaa.M.down_l0 {α:Type} (x23 x27:Int) (x30:List Int) (k0:Int → Int → Option α) (k2:Int → Int → Option α):Nat → Int → Int → Int → Option α
  | 0,_,_,_ => none
  | n + 1,x25,x26,x28 => M.down_l0_step x23 x27 x30 (M.down_l0 x23 x27 x30 k0 k2 n) k0 k2 x25 x26 x28
theorem down_l0_step_eq {α:Type} (x23:Int) (x24:Bool) (x25 x26 x27 x28:Int) (x29:Bool) (x30:List Int) (Q:Ex → St → Option α):(loopStep E (exec E look_less noLps 400) 100 down_P1 0 (codeAt E.P 100 down_P1)) (down_S1 x23 x24 x25 x26 x27 x28 x29 x30) Q = M.down_l0_step x23 x27 x30 (fun (x35 x36 x37:Int) => Q .normal (down_S1 x23 x24 x35 x36 x27 x37 x29 x30)) (fun (x31 x32:Int) => Q .ret (down_S2 x23 x24 x31 x32 x27 x29 x30)) (fun (x33 x34:Int) => Q (.exit 2) (down_S3 x23 x24 x33 x34 x27 x29 x30)) x25 x26 x28 := by kernel_rfl
theorem down_l0_iter {α:Type} (x23:Int) (x24:Bool) (x27:Int) (x29:Bool) (x30:List Int) (Q:Ex → St → Option α):∀ (n:Nat) (x25 x26 x28:Int),iter (loopStep E (exec E look_less noLps 400) 100 down_P1 0 (codeAt E.P 100 down_P1)) n (down_S1 x23 x24 x25 x26 x27 x28 x29 x30) Q = M.down_l0 x23 x27 x30 (fun (x31 x32:Int) => Q .ret (down_S2 x23 x24 x31 x32 x27 x29 x30)) (fun (x33 x34:Int) => Q (.exit 2) (down_S3 x23 x24 x33 x34 x27 x29 x30)) n x25 x26 x28
  | 0,_,_,_ => rfl
  | n + 1,x25,x26,x28 => (down_l0_step_eq x23 x24 x25 x26 x27 x28 x29 x30 (iterK (loopStep E (exec E look_less noLps 400) 100 down_P1 0 (codeAt E.P 100 down_P1)) n Q)).trans (congrArg (fun kn => M.down_l0_step x23 x27 x30 kn (fun (x31 x32:Int) => Q .ret (down_S2 x23 x24 x31 x32 x27 x29 x30)) (fun (x33 x34:Int) => Q (.exit 2) (down_S3 x23 x24 x33 x34 x27 x29 x30)) x25 x26 x28) (funext fun x25 => funext fun x26 => funext fun x28 => down_l0_iter x23 x24 x27 x29 x30 Q n x25 x26 x28))
noncomputable def down_l0_go {α:Type} (ds:List D) (Q:Ex → St → Option α):Option α :=
  dI ds fun x23 ds => dB ds fun x24 ds => dI ds fun x25 ds => dI ds fun x26 ds => dI ds fun x27 ds => dI ds fun x28 ds => dB ds fun x29 ds => dL (K.int IntKind.i64) ds fun x30 ds => dE ds (M.down_l0 x23 x27 x30 (fun (x31 x32:Int) => Q .ret (down_S2 x23 x24 x31 x32 x27 x29 x30)) (fun (x33 x34:Int) => Q (.exit 2) (down_S3 x23 x24 x33 x34 x27 x29 x30)) (100 + x30.length) x25 x26 x28)
theorem down_l0_ok {α:Type}:LoopOk E.P 100 down_P1 0 (lEnt (α := α) (down_S4) down_l0_go) :=
  lEnt_ok E (exec_sound E E_ok (look_less_ok) (noLps_ok _) 400) fun ds Q r h S hS => by
    unfold down_l0_go at h
    obtain ⟨x23,ds,rfl,h1⟩ := dI_inv h
    obtain ⟨x24,ds,rfl,h2⟩ := dB_inv h1
    obtain ⟨x25,ds,rfl,h3⟩ := dI_inv h2
    obtain ⟨x26,ds,rfl,h4⟩ := dI_inv h3
    obtain ⟨x27,ds,rfl,h5⟩ := dI_inv h4
    obtain ⟨x28,ds,rfl,h6⟩ := dI_inv h5
    obtain ⟨x29,ds,rfl,h7⟩ := dB_inv h6
    obtain ⟨x30,ds,rfl,h8⟩ := dL_inv h7
    obtain ⟨rfl,hE⟩ := dE_inv h8
    have e:fillS (down_S4) [.i x23,.b x24,.i x25,.i x26,.i x27,.i x28,.b x29,.l (K.int IntKind.i64) x30] = some (down_S1 x23 x24 x25 x26 x27 x28 x29 x30) := by kernel_rfl
    rw [e] at hS
    cases hS
    exact ⟨_,(down_l0_iter x23 x24 x27 x29 x30 Q _ x25 x26 x28).trans hE⟩
noncomputable def down_l0_lps {α:Type}:LookL α := addLp 100 down_P1 0 (lEnt (down_S4) down_l0_go) noLps
theorem down_l0_lps_ok {α:Type}:LoopsOk E.P (down_l0_lps (α := α)) := addLp_ok down_l0_ok (noLps_ok _)

noncomputable def _root_.Go.Proofs.Ytlagndfhibkjpaa.M.down_l1_step {α:Type} (x38:Int) (x44:List Int) (kn:Int → Int → Int → Option α) (k1:Int → Int → Option α) (k2:Int → Int → Option α) (x40 x41 x42:Int):Option α := if cLe (0:Int) x42 = true then if (0:Int) ≤ x42 ∧ x42 < (8:Int) then if cEq (List.getD x44 (Int.toNat x42) (0:Int)) (0:Int) = true then if cEq x40 (0:Int) = true then if cEq x41 (0:Int) = true then kn x40 x41 (IntKind.wrap .i64 (x42 - (1:Int))) else M.down_l0 x38 x42 x44 (fun (x45 x46:Int) ↦ k1 x45 x46) (fun (x47 x48:Int) ↦ kn x47 x48 (IntKind.wrap .i64 (x42 - (1:Int)))) ((100:Nat) + List.length x44) x40 x41 (8388608:Int) else M.down_l0 x38 x42 x44 (fun (x49 x50:Int) ↦ k1 x49 x50) (fun (x51 x52:Int) ↦ kn x51 x52 (IntKind.wrap .i64 (x42 - (1:Int)))) ((100:Nat) + List.length x44) x40 x41 (8388608:Int) else M.down_l0 x38 x42 x44 (fun (x53 x54:Int) ↦ k1 x53 x54) (fun (x55 x56:Int) ↦ kn x55 x56 (IntKind.wrap .i64 (x42 - (1:Int)))) ((100:Nat) + List.length x44) x40 x41 (8388608:Int) else none else k2 x40 x41
noncomputable def _root_.Go.Proofs.Ytlagndfhibkjpaa.M.down_l1 {α:Type} (x38:Int) (x44:List Int) (k1:Int → Int → Option α) (k2:Int → Int → Option α):Nat → Int → Int → Int → Option α
  | 0,_,_,_ => none
  | n + 1,x40,x41,x42 => M.down_l1_step x38 x44 (M.down_l1 x38 x44 k1 k2 n) k1 k2 x40 x41 x42
theorem down_l1_step_eq {α:Type} (x38:Int) (x39:Bool) (x40 x41 x42:Int) (x43:Bool) (x44:List Int) (Q:Ex → St → Option α):(loopStep E (exec E look_less down_l0_lps 400) 100 down_P2 0 (codeAt E.P 100 down_P2)) (down_S3 x38 x39 x40 x41 x42 x43 x44) Q = M.down_l1_step x38 x44 (fun (x61 x62 x63:Int) => Q .normal (down_S3 x38 x39 x61 x62 x63 x43 x44)) (fun (x57 x58:Int) => Q .ret (down_S5 x39 x57 x58)) (fun (x59 x60:Int) => Q (.exit 0) (St.mk (nn 6 (some (SV.bool x39) :: some (SV.int .i64 x59) :: some (SV.int .i64 x60) :: nn 68 ([])))
  [])) x40 x41 x42 := by kernel_rfl
theorem down_l1_iter {α:Type} (x38:Int) (x39 x43:Bool) (x44:List Int) (Q:Ex → St → Option α):∀ (n:Nat) (x40 x41 x42:Int),iter (loopStep E (exec E look_less down_l0_lps 400) 100 down_P2 0 (codeAt E.P 100 down_P2)) n (down_S3 x38 x39 x40 x41 x42 x43 x44) Q = M.down_l1 x38 x44 (fun (x57 x58:Int) => Q .ret (down_S5 x39 x57 x58)) (fun (x59 x60:Int) => Q (.exit 0) (St.mk (nn 6 (some (SV.bool x39) :: some (SV.int .i64 x59) :: some (SV.int .i64 x60) :: nn 68 ([])))
  [])) n x40 x41 x42
  | 0,_,_,_ => rfl
  | n + 1,x40,x41,x42 => (down_l1_step_eq x38 x39 x40 x41 x42 x43 x44 (iterK (loopStep E (exec E look_less down_l0_lps 400) 100 down_P2 0 (codeAt E.P 100 down_P2)) n Q)).trans (congrArg (fun kn => M.down_l1_step x38 x44 kn (fun (x57 x58:Int) => Q .ret (down_S5 x39 x57 x58)) (fun (x59 x60:Int) => Q (.exit 0) (St.mk (nn 6 (some (SV.bool x39) :: some (SV.int .i64 x59) :: some (SV.int .i64 x60) :: nn 68 ([])))
  [])) x40 x41 x42) (funext fun x40 => funext fun x41 => funext fun x42 => down_l1_iter x38 x39 x43 x44 Q n x40 x41 x42))
noncomputable def down_l1_go {α:Type} (ds:List D) (Q:Ex → St → Option α):Option α :=
  dI ds fun x38 ds => dB ds fun x39 ds => dI ds fun x40 ds => dI ds fun x41 ds => dI ds fun x42 ds => dB ds fun x43 ds => dL (K.int IntKind.i64) ds fun x44 ds => dE ds (M.down_l1 x38 x44 (fun (x57 x58:Int) => Q .ret (down_S5 x39 x57 x58)) (fun (x59 x60:Int) => Q (.exit 0) (St.mk (nn 6 (some (SV.bool x39) :: some (SV.int .i64 x59) :: some (SV.int .i64 x60) :: nn 68 ([])))
  [])) (100 + x44.length) x40 x41 x42)
theorem down_l1_ok {α:Type}:LoopOk E.P 100 down_P2 0 (lEnt (α := α) (down_S6) down_l1_go) :=
  lEnt_ok E (exec_sound E E_ok (look_less_ok) (down_l0_lps_ok) 400) fun ds Q r h S hS => by
    unfold down_l1_go at h
    obtain ⟨x38,ds,rfl,h1⟩ := dI_inv h
    obtain ⟨x39,ds,rfl,h2⟩ := dB_inv h1
    obtain ⟨x40,ds,rfl,h3⟩ := dI_inv h2
    obtain ⟨x41,ds,rfl,h4⟩ := dI_inv h3
    obtain ⟨x42,ds,rfl,h5⟩ := dI_inv h4
    obtain ⟨x43,ds,rfl,h6⟩ := dB_inv h5
    obtain ⟨x44,ds,rfl,h7⟩ := dL_inv h6
    obtain ⟨rfl,hE⟩ := dE_inv h7
    have e:fillS (down_S6) [.i x38,.b x39,.i x40,.i x41,.i x42,.b x43,.l (K.int IntKind.i64) x44] = some (down_S3 x38 x39 x40 x41 x42 x43 x44) := by kernel_rfl
    rw [e] at hS
    cases hS
    exact ⟨_,(down_l1_iter x38 x39 x43 x44 Q _ x40 x41 x42).trans hE⟩
noncomputable def down_l1_lps {α:Type}:LookL α := addLp 100 down_P2 0 (lEnt (down_S6) down_l1_go) down_l0_lps
theorem down_l1_lps_ok {α:Type}:LoopsOk E.P (down_l1_lps (α := α)) := addLp_ok down_l1_ok (down_l0_lps_ok)

noncomputable def _root_.Go.Proofs.Ytlagndfhibkjpaa.M.down {α:Type} (neg:Bool) (d:List Int) (c:Int) (k0:Int → Bool → Option α):Option α := if cLt c (0:Int) = true then M.down_l1 (IntKind.wrap .i64 ((0:Int) - c)) d (fun (x64 x65:Int) ↦ k0 (0:Int) false) (fun (x66 x67:Int) ↦ if (!neg) = true then if cLt (0:Int) x67 = true then if cLt (4611686018427387903:Int) (IntKind.wrap .i64 (x66 + (1:Int))) = true then k0 (0:Int) false else if (!neg) = true then k0 (IntKind.wrap .i64 ((0:Int) - IntKind.wrap .i64 (x66 + (1:Int)))) true else k0 (IntKind.wrap .i64 (x66 + (1:Int))) true else if cLt (4611686018427387903:Int) x66 = true then k0 (0:Int) false else if (!neg) = true then k0 (IntKind.wrap .i64 ((0:Int) - x66)) true else k0 x66 true else if cLt (4611686018427387903:Int) x66 = true then k0 (0:Int) false else if (!neg) = true then k0 (IntKind.wrap .i64 ((0:Int) - x66)) true else k0 x66 true) ((100:Nat) + List.length d) (0:Int) (0:Int) (7:Int) else M.down_l1 c d (fun (x68 x69:Int) ↦ k0 (0:Int) false) (fun (x70 x71:Int) ↦ if neg = true then if cLt (0:Int) x71 = true then if cLt (4611686018427387903:Int) (IntKind.wrap .i64 (x70 + (1:Int))) = true then k0 (0:Int) false else if neg = true then k0 (IntKind.wrap .i64 ((0:Int) - IntKind.wrap .i64 (x70 + (1:Int)))) true else k0 (IntKind.wrap .i64 (x70 + (1:Int))) true else if cLt (4611686018427387903:Int) x70 = true then k0 (0:Int) false else if neg = true then k0 (IntKind.wrap .i64 ((0:Int) - x70)) true else k0 x70 true else if cLt (4611686018427387903:Int) x70 = true then k0 (0:Int) false else if neg = true then k0 (IntKind.wrap .i64 ((0:Int) - x70)) true else k0 x70 true) ((100:Nat) + List.length d) (0:Int) (0:Int) (7:Int)
theorem down_eq {α:Type} (neg:Bool) (d:List Int) (c:Int) (Q:SV → Hp → Option α):callI E look_less (exec E look_less down_l1_lps 400) 100 ([SV.agg [SV.bool neg,SV.arr (K.int IntKind.i64) d (nat_lit 8)],SV.int .i64 c]) ([]) Q = M.down neg d c (fun (x72:Int) (x73:Bool) => Q (SV.tup [SV.int .i64 x72,SV.bool x73]) ([])) := by kernel_rfl
def down_sp:List AS := [.val (.agg [.bool false,.arr (.int .i64) [] 8]),.val (.int .i64 0)]
noncomputable def down_go {α:Type} (ds:List D) (Q:SV → Hp → Option α):Option α :=
  dB ds fun neg ds => dL (K.int IntKind.i64) ds fun d ds => dI ds fun c ds => dE ds (M.down neg d c (fun (x72:Int) (x73:Bool) => Q (SV.tup [SV.int .i64 x72,SV.bool x73]) ([])))
theorem down_ok {α:Type}:FnOk E.P 100 (fEnt (α := α) down_sp down_go) :=
  fEnt_ok E (look_less_ok) (exec_sound E E_ok (look_less_ok) (down_l1_lps_ok) 400) fun ds Q r h => by
    unfold down_go at h
    obtain ⟨neg,ds,rfl,h1⟩ := dB_inv h
    obtain ⟨d,ds,rfl,h2⟩ := dL_inv h1
    obtain ⟨c,ds,rfl,h3⟩ := dI_inv h2
    obtain ⟨rfl,hE⟩ := dE_inv h3
    exact ⟨[SV.agg [SV.bool neg,SV.arr (K.int IntKind.i64) d (nat_lit 8)],SV.int .i64 c],[],fun vs => by kernel_rfl,(down_eq neg d c Q).trans hE⟩
def bitOf:Nat → Int
  | 0 => 0
  | k + 1 => 2 ^ k
theorem bitOf0:bitOf 0 = 0 := rfl
theorem bitOfS (k:Nat):bitOf (k + 1) = 2 ^ k := rfl
theorem bitOf_half (k:Nat):Int.tdiv (2 ^ k) 2 = bitOf k := by
  cases k with
  | zero => decide
  | succ k =>
    rw [bitOfS,Int.tdiv_eq_ediv_of_nonneg (Int.le_of_lt (Int.pow_pos (by decide))),Int.pow_succ]
    omega
theorem p2 (k:Nat):(0:Int) < 2 ^ k := Int.pow_pos (by decide)
theorem p2le {k n:Nat} (h:k ≤ n):(2:Int) ^ k ≤ 2 ^ n := by
  obtain ⟨m,rfl⟩ := Nat.le.dest h
  rw [Int.pow_add]
  have := Int.mul_le_mul_of_nonneg_left (show (1:Int) ≤ 2 ^ m by have := p2 m; omega) (Int.le_of_lt (p2 k))
  omega
theorem p23:(2:Int) ^ 23 = 8388608 := by kernel_rfl
theorem down_l0_val {α:Type} (cc:Int) (j:Nat) (d:List Int) (hd:okD d = true) (hj:j < 8) (hc0:0 < cc) (hc1:cc ≤ 4611686018427387903) (k0 k2:Int → Int → Option α):∀ (m fuel:Nat) (T:Int),m ≤ 24 → m < fuel → 0 ≤ T → T / cc < 4611686018427387904 →
    (∃ q r,M.down_l0 cc (j:Int) d k0 k2 fuel (T / cc) (T % cc) (bitOf m) = k0 q r ∧ 4611686018427387904 ≤ (T * 2 ^ m + d.getD j 0 % 2 ^ m) / cc) ∨
    (M.down_l0 cc (j:Int) d k0 k2 fuel (T / cc) (T % cc) (bitOf m) = k2 ((T * 2 ^ m + d.getD j 0 % 2 ^ m) / cc) ((T * 2 ^ m + d.getD j 0 % 2 ^ m) % cc) ∧ (T * 2 ^ m + d.getD j 0 % 2 ^ m) / cc < 4611686018427387904)
  | 0,fuel,T,h1,h2,hT,hq => by
    obtain ⟨f,rfl⟩:∃ f,fuel = f + 1 := ⟨fuel - 1,by omega⟩
    right
    unfold M.down_l0 M.down_l0_step
    simp only [bitOf0,cLt_eq,Int.lt_irrefl,decide_false,Bool.false_eq_true,if_false,Int.pow_zero,Int.emod_one,Int.mul_one,Int.add_zero,true_and]
    exact hq
  | m + 1,fuel,T,h1,h2,hT,hq => by
    obtain ⟨f,rfl⟩:∃ f,fuel = f + 1 := ⟨fuel - 1,by omega⟩
    have da := okD_get hd j
    have hp := p2 m
    have hp24:(2:Int) ^ m ≤ 8388608 := Int.le_trans (p2le (show m ≤ 23 by omega)) (Int.le_of_eq p23)
    have hps:(2:Int) ^ (m + 1) = 2 * 2 ^ m := by rw [Int.pow_succ]; omega
    have hq0:0 ≤ T / cc := Int.ediv_nonneg hT (by omega)
    have hr0:0 ≤ T % cc := Int.emod_nonneg T (by omega)
    have hr1:T % cc < cc := Int.emod_lt_of_pos T hc0
    have hTe:T / cc * cc + T % cc = T := Int.ediv_mul_add_emod T cc
    generalize ha:d.getD j 0 = a at *
    -- the bit
    have hb0:0 ≤ a / 2 ^ m := Int.ediv_nonneg da.1 (by omega)
    have hble:a / 2 ^ m ≤ a := Int.ediv_le_self _ da.1
    have hbit:a % 2 ^ (m + 1) = a / 2 ^ m % 2 * 2 ^ m + a % 2 ^ m := by
      have e1:a / 2 ^ m * 2 ^ m + a % 2 ^ m = a := Int.ediv_mul_add_emod a _
      have e2:2 * (a / 2 ^ m / 2) + a / 2 ^ m % 2 = a / 2 ^ m := Int.mul_ediv_add_emod _ 2
      have hm0:0 ≤ a % 2 ^ m := Int.emod_nonneg a (by omega)
      have hm1:a % 2 ^ m < 2 ^ m := Int.emod_lt_of_pos a hp
      have e3:a = (a / 2 ^ m % 2 * 2 ^ m + a % 2 ^ m) + 2 ^ (m + 1) * (a / 2 ^ m / 2) := by
        rw [hps]; grind
      have e4:a / 2 ^ m % 2 = 0 ∨ a / 2 ^ m % 2 = 1 := by omega
      conv => lhs; rw [e3]
      rw [Int.add_mul_emod_self_left]
      apply Int.emod_eq_of_lt
      · rcases e4 with h | h <;> rw [h] <;> omega
      · rw [hps]; rcases e4 with h | h <;> rw [h] <;> omega
    generalize hβ:a / 2 ^ m % 2 = β at *
    have hβ':β = 0 ∨ β = 1 := by omega
    -- what comes next
    have hnext:T * 2 ^ (m + 1) + a % 2 ^ (m + 1) = (2 * T + β) * 2 ^ m + a % 2 ^ m := by rw [hbit,hps]; grind
    have hm0:0 ≤ a % 2 ^ m := Int.emod_nonneg a (by omega)
    rw [hnext]
    have hexit:2305843009213693951 < T / cc → 4611686018427387904 ≤ ((2 * T + β) * 2 ^ m + a % 2 ^ m) / cc := by
      intro h
      apply Int.le_ediv_of_mul_le hc0
      have g1:2305843009213693952 * cc ≤ T / cc * cc := Int.mul_le_mul_of_nonneg_right (by omega) (by omega)
      have g2:(2 * T + β) * 1 ≤ (2 * T + β) * 2 ^ m := Int.mul_le_mul_of_nonneg_left (by omega) (by omega)
      omega
    have hstep:T / cc ≤ 2305843009213693951 → (2 * T + β) / cc = (if cc ≤ 2 * (T % cc) + β then 2 * (T / cc) + 1 else 2 * (T / cc)) ∧ (2 * T + β) % cc = (if cc ≤ 2 * (T % cc) + β then 2 * (T % cc) + β - cc else 2 * (T % cc) + β) := by
      intro h
      split
      · have e : 2 * T + β = (2 * (T % cc) + β - cc) + cc * (2 * (T / cc) + 1) := by
          have:cc * (2 * (T / cc) + 1) = 2 * (T / cc * cc) + cc := by grind
          omega
        constructor
        · rw [e,Int.add_mul_ediv_left _ _ (by omega),Int.ediv_eq_zero_of_lt (by omega) (by omega)]; omega
        · rw [e,Int.add_mul_emod_self_left]; exact Int.emod_eq_of_lt (by omega) (by omega)
      · have e : 2 * T + β = (2 * (T % cc) + β) + cc * (2 * (T / cc)) := by
          have:cc * (2 * (T / cc)) = 2 * (T / cc * cc) := by grind
          omega
        constructor
        · rw [e,Int.add_mul_ediv_left _ _ (by omega),Int.ediv_eq_zero_of_lt (by omega) (by omega)]; omega
        · rw [e,Int.add_mul_emod_self_left]; exact Int.emod_eq_of_lt (by omega) (by omega)
    have ih := down_l0_val cc j d hd hj hc0 hc1 k0 k2 m f (2 * T + β) (by omega) (by omega) (by omega)
    rw [ha] at ih
    conv => enter [1,1,q,1,r]; lhs; unfold M.down_l0 M.down_l0_step
    conv => enter [2]; lhs; lhs; unfold M.down_l0 M.down_l0_step
    have hj0:(0:Int) ≤ (j:Int) ∧ (j:Int) < 8 := by omega
    have hbit0:¬ (2:Int) ^ m = 0 := by omega
    have hdig:Int.tmod (IntKind.wrap IntKind.i64 (Int.tdiv a (2 ^ m))) 2 = β := by
      rw [Int.tdiv_eq_ediv_of_nonneg da.1,IntWalk.i64_in _ (by omega),Int.tmod_eq_emod_of_nonneg hb0]; exact hβ
    have w2:IntKind.wrap .i64 (2 * (T % cc)) = 2 * (T % cc) := IntWalk.i64_in _ (by omega)
    have w3:IntKind.wrap .i64 (2 * (T % cc) + 1) = 2 * (T % cc) + 1 := IntWalk.i64_in _ (by omega)
    have w4:IntKind.wrap .i64 (Int.tdiv (2 ^ m) 2) = bitOf m := by
      rw [bitOf_half]
      apply IntWalk.i64_in
      cases m with
      | zero => rw [bitOf0]; omega
      | succ k => rw [bitOfS]; have g1 := p2 k; have g2:(2:Int) ^ k ≤ 8388608 := Int.le_trans (p2le (show k ≤ 23 by omega)) (Int.le_of_eq p23); omega
    simp only [bitOfS,cLt_eq,cLe_eq,cEq_eq,hp,hj0,hbit0,Int.toNat_natCast,ha,hdig,w2,w3,w4,decide_true,if_true,if_false,and_self]
    by_cases hbig:2305843009213693951 < T / cc
    · left
      rcases hβ' with h | h
      · exact ⟨T / cc,2 * (T % cc),by simp [h,hbig],hexit hbig⟩
      · exact ⟨T / cc,2 * (T % cc) + 1,by simp [h,hbig],hexit hbig⟩
    · obtain ⟨s1, s2⟩ := hstep (by omega)
      have w5:IntKind.wrap .i64 (2 * (T / cc)) = 2 * (T / cc) := IntWalk.i64_in _ (by omega)
      have w6:IntKind.wrap .i64 (2 * (T / cc) + 1) = 2 * (T / cc) + 1 := IntWalk.i64_in _ (by omega)
      have hq':(2 * T + β) / cc < 4611686018427387904 := by rw [s1]; split <;> omega
      have ih := ih hq'
      rw [s1,s2] at ih
      simp only [hbig,decide_false,Bool.false_eq_true,if_false,w5,w6]
      rcases hβ' with h | h
      · subst h
        simp only [Int.add_zero] at ih ⊢
        have e:((0:Int) == 1) = false := by decide
        simp only [e,Bool.false_eq_true,if_false]
        by_cases hge:cc ≤ 2 * (T % cc)
        · have w7 : IntKind.wrap .i64 (2 * (T % cc) - cc) = 2 * (T % cc) - cc := IntWalk.i64_in _ (by omega)
          simp only [hge,decide_true,if_true,w7] at ih ⊢
          exact ih
        · simp only [hge, decide_false, Bool.false_eq_true, if_false] at ih ⊢
          exact ih
      · subst h
        simp only [beq_self_eq_true,if_true]
        by_cases hge:cc ≤ 2 * (T % cc) + 1
        · have w7 : IntKind.wrap .i64 (2 * (T % cc) + 1 - cc) = 2 * (T % cc) + 1 - cc := IntWalk.i64_in _ (by omega)
          simp only [hge,decide_true,if_true,w7] at ih ⊢
          exact ih
        · simp only [hge, decide_false, Bool.false_eq_true, if_false] at ih ⊢
          exact ih
theorem p24:(2:Int) ^ 24 = 16777216 := by kernel_rfl
theorem val_drop_le {D:List Int} (h:okD D = true) (m:Nat):val (D.drop m) ≤ val D := by
  have e := val_append (D.take m) (D.drop m)
  rw [List.take_append_drop] at e
  have h1 := val_bound (okD_take h m)
  have h2 := val_bound (okD_drop h m)
  have := Int.mul_le_mul_of_nonneg_right (show (1:Int) ≤ 16777216 ^ (D.take m).length by have := pB (D.take m).length; omega) h2.1
  omega
theorem down_l1_val {α:Type} (cc:Int) (d:List Int) (hd:okD d = true) (ld:d.length = 8) (hc0:0 < cc) (hc1:cc ≤ 4611686018427387903) (k1 k2:Int → Int → Option α):∀ (m fuel:Nat),m ≤ 8 → m < fuel → val (d.drop m) / cc < 4611686018427387904 →
    (∃ q r,M.down_l1 cc d k1 k2 fuel (val (d.drop m) / cc) (val (d.drop m) % cc) ((m:Int) - 1) = k1 q r ∧ 4611686018427387904 ≤ val d / cc) ∨
    (M.down_l1 cc d k1 k2 fuel (val (d.drop m) / cc) (val (d.drop m) % cc) ((m:Int) - 1) = k2 (val d / cc) (val d % cc) ∧ val d / cc < 4611686018427387904)
  | 0,fuel,h1,h2,hq => by
    obtain ⟨f,rfl⟩:∃ f,fuel = f + 1 := ⟨fuel - 1,by omega⟩
    right
    unfold M.down_l1 M.down_l1_step
    have e:¬ (0:Int) ≤ ((0:Nat):Int) - 1 := by omega
    rw [List.drop_zero] at hq ⊢
    simp only [cLe_eq,e,decide_false,Bool.false_eq_true,if_false,true_and]
    exact hq
  | m + 1,fuel,h1,h2,hq => by
    obtain ⟨f,rfl⟩:∃ f,fuel = f + 1 := ⟨fuel - 1,by omega⟩
    have e0:(((m + 1:Nat):Int) - 1) = (m:Int) := by omega
    rw [e0]
    have dm := okD_get hd m
    have hT0 := (val_bound (okD_drop hd (m + 1))).1
    have hT'0 := (val_bound (okD_drop hd m)).1
    have hT':val (d.drop m) = val (d.drop (m + 1)) * 2 ^ 24 + d.getD m 0 % 2 ^ 24 := by
      rw [drop_getD (by omega:m < d.length),val,p24]; omega
    have hTe:val (d.drop (m + 1)) / cc * cc + val (d.drop (m + 1)) % cc = val (d.drop (m + 1)) := Int.ediv_mul_add_emod _ cc
    have ih := down_l1_val cc d hd ld hc0 hc1 k1 k2 m f (by omega) (by omega)
    have hle:val (d.drop m) / cc ≤ val d / cc := Int.ediv_le_ediv hc0 (val_drop_le hd m)
    have w1:IntKind.wrap .i64 ((m:Int) - 1) = (m:Int) - 1 := IntWalk.i64_in _ (by omega)
    -- the digit's bits
    have hR:(∃ q r,M.down_l0 cc (m:Int) d (fun x y => k1 x y) (fun x y => M.down_l1 cc d k1 k2 f x y ((m:Int) - 1)) (100 + d.length) (val (d.drop (m + 1)) / cc) (val (d.drop (m + 1)) % cc) 8388608 = k1 q r ∧ 4611686018427387904 ≤ val d / cc) ∨
        (M.down_l0 cc (m:Int) d (fun x y => k1 x y) (fun x y => M.down_l1 cc d k1 k2 f x y ((m:Int) - 1)) (100 + d.length) (val (d.drop (m + 1)) / cc) (val (d.drop (m + 1)) % cc) 8388608 = k2 (val d / cc) (val d % cc) ∧ val d / cc < 4611686018427387904) := by
      have hb:(8388608:Int) = bitOf 24 := p23.symm
      rw [hb]
      rcases down_l0_val cc m d hd (by omega) hc0 hc1 (fun x y => k1 x y) (fun x y => M.down_l1 cc d k1 k2 f x y ((m:Int) - 1)) 24 (100 + d.length) (val (d.drop (m + 1))) (by omega) (by omega) hT0 hq with ⟨q,r,g1,g2⟩ | ⟨g1,g2⟩
      · rw [← hT'] at g2
        exact .inl ⟨q,r,g1,by omega⟩
      · rw [← hT'] at g1 g2
        rw [g1]
        exact ih g2
    conv => enter [1,1,q,1,r]; lhs; unfold M.down_l1 M.down_l1_step
    conv => enter [2]; lhs; lhs; unfold M.down_l1 M.down_l1_step
    have c1:(0:Int) ≤ (m:Int) := by omega
    have c2:(m:Int) < 8 := by omega
    simp only [cLe_eq,cEq_eq,c1,c2,decide_true,if_true,and_self,Int.toNat_natCast,w1]
    by_cases z1:d.getD m 0 = 0
    · by_cases z2 : val (d.drop (m + 1)) / cc = 0
      · by_cases z3 : val (d.drop (m + 1)) % cc = 0
        · have hz : val (d.drop m) = 0 := by
            rw [z2,z3] at hTe
            rw [hT',z1,← hTe]; simp
          rw [hz] at ih
          have := ih (by rw [Int.zero_ediv]; omega)
          rw [Int.zero_ediv,Int.zero_emod] at this
          simp only [z1,z2,z3,beq_self_eq_true,if_true]
          exact this
        · have f3 : (val (d.drop (m + 1)) % cc == 0) = false := by simpa using z3
          rw [z2] at hR
          simp only [z1,z2,f3,beq_self_eq_true,if_true,Bool.false_eq_true,if_false]
          exact hR
      · have f2 : (val (d.drop (m + 1)) / cc == 0) = false := by simpa using z2
        simp only [z1,f2,beq_self_eq_true,if_true,Bool.false_eq_true,if_false]
        exact hR
    · have : (d.getD m 0 == 0) = false := by simpa using z1
      simp only [this,Bool.false_eq_true,if_false]
      exact hR
def _root_.Go.Proofs.Ytlagndfhibkjpaa.V.sm (o:Option Int):Bool := o.isSome
noncomputable def _root_.Go.Proofs.Ytlagndfhibkjpaa.V.dn (n:Bool) (d:List Int) (c:Int):Option Int := V.tl (Int.fdiv (wv n d) c)
/-- What Down does with a quotient and a rest. -/
theorem down_fin {α:Type} (N:Bool) (X cc:Int) (hX:0 ≤ X) (hc0:0 < cc) (hq:X / cc < 4611686018427387904) (k0:Int → Bool → Option α) :
    (if N = true then
        if cLt (0:Int) (X % cc) = true then
          if cLt (4611686018427387903:Int) (IntKind.wrap IntKind.i64 (X / cc + (1:Int))) = true then k0 (0:Int) false
          else
            if N = true then k0 (IntKind.wrap IntKind.i64 ((0:Int) - IntKind.wrap IntKind.i64 (X / cc + (1:Int)))) true
            else k0 (IntKind.wrap IntKind.i64 (X / cc + (1:Int))) true
        else
          if cLt (4611686018427387903:Int) (X / cc) = true then k0 (0:Int) false else if N = true then k0 (IntKind.wrap IntKind.i64 ((0:Int) - X / cc)) true else k0 (X / cc) true
      else
        if cLt (4611686018427387903:Int) (X / cc) = true then k0 (0:Int) false else if N = true then k0 (IntKind.wrap IntKind.i64 ((0:Int) - X / cc)) true else k0 (X / cc) true) =
      k0 (V.gv (V.tl ((if N then -X else X) / cc))) (V.sm (V.tl ((if N then -X else X) / cc))) := by
  have hq0:0 ≤ X / cc := Int.ediv_nonneg hX (by omega)
  have hm0:0 ≤ X % cc := Int.emod_nonneg X (by omega)
  have hm1:X % cc < cc := Int.emod_lt_of_pos X hc0
  have hd:X / cc * cc + X % cc = X := Int.ediv_mul_add_emod X cc
  have hneg:(-X) / cc = if 0 < X % cc then -(X / cc) - 1 else -(X / cc) := by
    split
    · rename_i h
      apply Int.ediv_eq_iff_of_pos hc0 |>.2
      have e:(-(X / cc) - 1) * cc = -(X / cc * cc) - cc := by grind
      constructor <;> grind
    · rename_i h
      have e:X = cc * (X / cc) := by rw [Int.mul_comm]; omega
      have:-X = cc * (-(X / cc)) := by rw [Int.mul_neg,← e]
      rw [this,Int.mul_ediv_cancel_left _ (by omega)]
  simp only [cLt_eq]
  unfold V.tl V.gv V.sm
  cases N with
  | false =>
    simp only [Bool.false_eq_true,if_false]
    have h1:¬ 4611686018427387903 < X / cc := by omega
    have h2:isG (X / cc) = false := by rw [isG_false]; omega
    simp [h1,h2]
  | true =>
    simp only [if_true]
    rw [hneg]
    by_cases c0:0 < X % cc
    · simp only [c0, decide_true, if_true]
      rw [IntWalk.i64_in (X / cc + 1) (by omega)]
      by_cases c1:4611686018427387903 < X / cc + 1
      · have h2 : isG (-(X / cc) - 1) = true := by rw [isG_iff]; omega
        simp [c1,h2]
      · have h2 : isG (-(X / cc) - 1) = false := by rw [isG_false]; omega
        rw [IntWalk.i64_in (0 - (X / cc + 1)) (by omega)]
        simp only [c1,h2,decide_false,Bool.false_eq_true,if_false,Option.getD_some,Option.isSome_some]
        rw [show (0:Int) - (X / cc + 1) = -(X / cc) - 1 by omega]
    · simp only [c0, decide_false, Bool.false_eq_true, if_false]
      have h1:¬ 4611686018427387903 < X / cc := by omega
      have h2:isG (-(X / cc)) = false := by rw [isG_false]; omega
      rw [IntWalk.i64_in (0 - X / cc) (by omega)]
      simp only [h1,h2,decide_false,Bool.false_eq_true,if_false,Option.getD_some,Option.isSome_some]
      rw [show (0:Int) - X / cc = -(X / cc) by omega]
theorem down_main {α:Type} (N:Bool) (cc:Int) (d:List Int) (hd:V.ok8 d = true) (hc0:0 < cc) (hc1:cc ≤ 4611686018427387903) (k0:Int → Bool → Option α) (k2:Int → Int → Option α)
    (hk:∀ X,0 ≤ X → X / cc < 4611686018427387904 → k2 (X / cc) (X % cc) = k0 (V.gv (V.tl ((if N then -X else X) / cc))) (V.sm (V.tl ((if N then -X else X) / cc)))) :
    M.down_l1 cc d (fun _ _ => k0 0 false) k2 (100 + d.length) 0 0 7 = k0 (V.gv (V.tl (wv N d / cc))) (V.sm (V.tl (wv N d / cc))) := by
  rw [ok8_iff] at hd
  have v := val_bound hd.2
  have e8:d.drop 8 = [] := List.drop_of_length_le (by omega)
  have h := down_l1_val cc d hd.2 hd.1 hc0 hc1 (fun _ _ => k0 0 false) k2 8 (100 + d.length) (by omega) (by omega) (by rw [e8,val,Int.zero_ediv]; omega)
  rw [e8,val,Int.zero_ediv,Int.zero_emod,show (((8:Nat):Int) - 1) = 7 by rfl] at h
  rcases h with ⟨_,_,g1,g2⟩ | ⟨g1,g2⟩
  · rw [g1]
    have hg:isG (wv N d / cc) = true := by
      rw [isG_iff]
      unfold wv
      cases N with
      | false => simp only [Bool.false_eq_true,if_false]; omega
      | true =>
        simp only [if_true]
        left
        have:(-val d) / cc ≤ -(val d / cc) := by
          have h1:(-val d) / cc * cc + (-val d) % cc = -val d := Int.ediv_mul_add_emod _ cc
          have h2:val d / cc * cc + val d % cc = val d := Int.ediv_mul_add_emod _ cc
          have h3:0 ≤ (-val d) % cc := Int.emod_nonneg _ (by omega)
          have h4:0 ≤ val d % cc := Int.emod_nonneg _ (by omega)
          by_cases hlt:(-val d) / cc ≤ -(val d / cc)
          · exact hlt
          · have : (-(val d / cc) + 1) * cc ≤ (-val d) / cc * cc := Int.mul_le_mul_of_nonneg_right (by omega) (by omega)
            have e:(-(val d / cc) + 1) * cc = -(val d / cc * cc) + cc := by grind
            omega
        omega
    unfold V.tl V.gv V.sm
    simp [hg]
  · rw [g1, hk _ v.1 g2]
    rfl
theorem down_v {α:Type} (n:Bool) (d:List Int) (c:Int) (hd:V.ok8 d = true) (h0:c ≠ 0) (hc:-4611686018427387903 ≤ c ∧ c ≤ 4611686018427387903) (k0:Int → Bool → Option α):M.down n d c k0 = k0 (V.gv (V.dn n d c)) (V.sm (V.dn n d c)) := by
  unfold M.down V.dn
  rw [cLt_eq]
  by_cases hn:c < 0
  · simp only [hn, decide_true, if_true]
    rw [IntWalk.i64_in (0 - c) (by omega)]
    have hf:Int.fdiv (wv n d) c = wv (!n) d / (0 - c) := by
      rw [← Int.neg_fdiv_neg,fdiv_pos _ _ (by omega),Int.zero_sub]
      unfold wv; cases n <;> simp
    rw [hf]
    exact down_main (!n) (0 - c) d hd (by omega) (by omega) k0 _ (fun X hX hq => down_fin (!n) X (0 - c) hX (by omega) hq k0)
  · simp only [hn, decide_false, Bool.false_eq_true, if_false]
    rw [fdiv_pos _ _ (by omega)]
    exact down_main n c d hd (by omega) (by omega) k0 _ (fun X hX hq => down_fin n X c hX (by omega) hq k0)
noncomputable def down_h {α:Type} (ds:List D) (Q:SV → Hp → Option α):Option α :=
  dB ds fun neg ds => dL (K.int IntKind.i64) ds fun d ds => dI ds fun c ds => dE ds (if V.ok8 d = true ∧ c ≠ 0 ∧ -4611686018427387903 ≤ c ∧ c ≤ 4611686018427387903 then Q (.tup [.int .i64 (V.gv (V.dn neg d c)),.bool (V.sm (V.dn neg d c))]) ([]) else none)
theorem down_h_ok {α:Type}:FnOk E.P 100 (fEnt (α := α) down_sp down_h) :=
  fEnt_ok E (look_less_ok) (exec_sound E E_ok (look_less_ok) (down_l1_lps_ok) 400) fun ds Q r h => by
    unfold down_h at h
    obtain ⟨neg,ds,rfl,h1⟩ := dB_inv h
    obtain ⟨d,ds,rfl,h2⟩ := dL_inv h1
    obtain ⟨c,ds,rfl,h3⟩ := dI_inv h2
    obtain ⟨rfl,hE⟩ := dE_inv h3
    split at hE
    · rename_i hg
      exact ⟨[SV.agg [SV.bool neg,SV.arr (K.int IntKind.i64) d (nat_lit 8)],SV.int .i64 c],[],fun vs => by kernel_rfl,(down_eq neg d c Q).trans ((down_v neg d c hg.1 hg.2.1 hg.2.2 _).trans hE)⟩
    · cases hE
noncomputable def look_down {α:Type}:LookF α := addFn 100 (fEnt down_sp down_h) look_less
theorem look_down_ok {α:Type}:LookOk E.P (look_down (α := α)) := addFn_ok down_h_ok (look_less_ok)
end Go.Proofs.Ytlagndfhibkjpaa.Sx
end
