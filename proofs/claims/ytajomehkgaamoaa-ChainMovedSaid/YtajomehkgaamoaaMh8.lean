/- Texts of the walk, merged. -/
import Derived.Test.YtajomehkgaamoaaMh7
set_option linter.unusedVariables false
set_option linter.unusedSimpArgs false
namespace Go.Proofs.Ytajomehkgaamoaa.Sx
section
open Go
set_option maxRecDepth 20000
noncomputable abbrev chmotion_S1 (y1 y2:Int) (y3:Bool) (y4 y5 y6 y7 y8 y9:L3) (y10:Bool) (y11 y12:L3) (y13:List L34):St := St.mk (some (SV.yld (nat_lit 17)) :: some (SV.ptr (nat_lit 16) (nat_lit 0)) :: nn 6 (some (SV.int .i64 y1) :: some (SV.int .i64 y2) :: nn 23 ([]))) [.cells [SV.bool y3] (nat_lit 27),.seq kP y4 (nat_lit 33),.seq kP y5 (nat_lit 33),.seq kP y6 (nat_lit 33),.seq kP y7 (nat_lit 33),.cells [SV.sl (nat_lit 3),SV.sl (nat_lit 4)] (nat_lit 84),.seq kP y8 (nat_lit 33),.seq kP y9 (nat_lit 33),.cells [SV.sl (nat_lit 6),SV.sl (nat_lit 7)] (nat_lit 84),.cells [SV.bool y10] (nat_lit 27),.cells [SV.ptr (nat_lit 9) (nat_lit 0),SV.sl (nat_lit 18)] (nat_lit 71),SObj.dead,.seq kP y11 (nat_lit 33),.seq kP y12 (nat_lit 33),.cells [SV.sl (nat_lit 12),SV.sl (nat_lit 13)] (nat_lit 84),.cells [SV.ptr (nat_lit 9) (nat_lit 0)] (nat_lit 25),.cells [SV.ptr (nat_lit 10) (nat_lit 0)] (nat_lit 68),SObj.lp (nat_lit 40) [false,true,true] [none,none,some (SV.ptr (nat_lit 15) (nat_lit 0)),none,none,none,none,none,none,none,none,some (SV.fn (nat_lit 89) [] [SV.ptr (nat_lit 16) (nat_lit 0)]),none,none,none,none,none,none,none,none,none,none,none,none,none,none,none,none,none,none,none,none,none,none,none,none,none,none,none,none,none,none,none,none,none,none,none,none,none,none,none,none,none,none,none,none,none,none,none,none,none,none,none,none,none,none,none,none,none,none,none,none,none,none,none,none] LSt.ready,SObj.seq (K.st (LK.i IntKind.i64) (LK.i IntKind.i64 :: LK.i IntKind.i64 :: LK.i IntKind.i64 :: LK.i IntKind.i64 :: LK.i IntKind.i64 :: LK.i IntKind.i64 :: LK.i IntKind.i64 :: LK.i IntKind.i64 :: LK.i IntKind.i64 :: LK.i IntKind.i64 :: LK.i IntKind.i64 :: LK.i IntKind.i64 :: LK.i IntKind.i64 :: LK.i IntKind.i64 :: LK.i IntKind.i64 :: LK.i IntKind.i64 :: LK.b :: LK.i IntKind.i64 :: LK.i IntKind.i64 :: LK.i IntKind.i64 :: LK.i IntKind.i64 :: LK.i IntKind.i64 :: LK.i IntKind.i64 :: LK.i IntKind.i64 :: LK.i IntKind.i64 :: LK.i IntKind.i64 :: LK.i IntKind.i64 :: LK.i IntKind.i64 :: LK.i IntKind.i64 :: LK.i IntKind.i64 :: LK.i IntKind.i64 :: LK.i IntKind.i64 :: LK.i IntKind.i64 :: List.nil)) y13 (nat_lit 73)]
noncomputable abbrev chmotion_S2 (y1:Bool) (y2 y3 y4 y5 y6 y7:L3) (y8:Bool) (y9 y10:L3) (y11:List L34):St := St.mk (nn 33 ([])) [.cells [SV.bool y1] (nat_lit 27),.seq kP y2 (nat_lit 33),.seq kP y3 (nat_lit 33),.seq kP y4 (nat_lit 33),.seq kP y5 (nat_lit 33),.cells [SV.sl (nat_lit 3),SV.sl (nat_lit 4)] (nat_lit 84),.seq kP y6 (nat_lit 33),.seq kP y7 (nat_lit 33),.cells [SV.sl (nat_lit 6),SV.sl (nat_lit 7)] (nat_lit 84),.cells [SV.bool y8] (nat_lit 27),.cells [SV.ptr (nat_lit 9) (nat_lit 0),SV.sl (nat_lit 18)] (nat_lit 71),SObj.dead,.seq kP y9 (nat_lit 33),.seq kP y10 (nat_lit 33),.cells [SV.sl (nat_lit 12),SV.sl (nat_lit 13)] (nat_lit 84),.cells [SV.ptr (nat_lit 9) (nat_lit 0)] (nat_lit 25),.cells [SV.ptr (nat_lit 10) (nat_lit 0)] (nat_lit 68),SObj.lp (nat_lit 40) [false,true,true] [none,none,some (SV.ptr (nat_lit 15) (nat_lit 0)),none,none,none,none,none,none,none,none,some (SV.fn (nat_lit 89) [] [SV.ptr (nat_lit 16) (nat_lit 0)]),none,none,none,none,none,none,none,none,none,none,none,none,none,none,none,none,none,none,none,none,none,none,none,none,none,none,none,none,none,none,none,none,none,none,none,none,none,none,none,none,none,none,none,none,none,none,none,none,none,none,none,none,none,none,none,none,none,none,none,none,none,none,none,none] LSt.ready,SObj.seq (K.st (LK.i IntKind.i64) (LK.i IntKind.i64 :: LK.i IntKind.i64 :: LK.i IntKind.i64 :: LK.i IntKind.i64 :: LK.i IntKind.i64 :: LK.i IntKind.i64 :: LK.i IntKind.i64 :: LK.i IntKind.i64 :: LK.i IntKind.i64 :: LK.i IntKind.i64 :: LK.i IntKind.i64 :: LK.i IntKind.i64 :: LK.i IntKind.i64 :: LK.i IntKind.i64 :: LK.i IntKind.i64 :: LK.i IntKind.i64 :: LK.b :: LK.i IntKind.i64 :: LK.i IntKind.i64 :: LK.i IntKind.i64 :: LK.i IntKind.i64 :: LK.i IntKind.i64 :: LK.i IntKind.i64 :: LK.i IntKind.i64 :: LK.i IntKind.i64 :: LK.i IntKind.i64 :: LK.i IntKind.i64 :: LK.i IntKind.i64 :: LK.i IntKind.i64 :: LK.i IntKind.i64 :: LK.i IntKind.i64 :: LK.i IntKind.i64 :: LK.i IntKind.i64 :: List.nil)) y11 (nat_lit 73)]
noncomputable abbrev chmotion_S3:St := St.mk (some (SV.yld (nat_lit 17)) :: some (SV.ptr (nat_lit 16) (nat_lit 0)) :: nn 6 (some (SV.int .i64 (0:Int)) :: some (SV.int .i64 (0:Int)) :: nn 23 ([]))) [.cells [SV.bool false] (nat_lit 27),.seq kP [] (nat_lit 33),.seq kP [] (nat_lit 33),.seq kP [] (nat_lit 33),.seq kP [] (nat_lit 33),.cells [SV.sl (nat_lit 3),SV.sl (nat_lit 4)] (nat_lit 84),.seq kP [] (nat_lit 33),.seq kP [] (nat_lit 33),.cells [SV.sl (nat_lit 6),SV.sl (nat_lit 7)] (nat_lit 84),.cells [SV.bool false] (nat_lit 27),.cells [SV.ptr (nat_lit 9) (nat_lit 0),SV.sl (nat_lit 18)] (nat_lit 71),SObj.dead,.seq kP [] (nat_lit 33),.seq kP [] (nat_lit 33),.cells [SV.sl (nat_lit 12),SV.sl (nat_lit 13)] (nat_lit 84),.cells [SV.ptr (nat_lit 9) (nat_lit 0)] (nat_lit 25),.cells [SV.ptr (nat_lit 10) (nat_lit 0)] (nat_lit 68),SObj.lp (nat_lit 40) [false,true,true] [none,none,some (SV.ptr (nat_lit 15) (nat_lit 0)),none,none,none,none,none,none,none,none,some (SV.fn (nat_lit 89) [] [SV.ptr (nat_lit 16) (nat_lit 0)]),none,none,none,none,none,none,none,none,none,none,none,none,none,none,none,none,none,none,none,none,none,none,none,none,none,none,none,none,none,none,none,none,none,none,none,none,none,none,none,none,none,none,none,none,none,none,none,none,none,none,none,none,none,none,none,none,none,none,none,none,none,none,none,none] LSt.ready,SObj.seq (K.st (LK.i IntKind.i64) (LK.i IntKind.i64 :: LK.i IntKind.i64 :: LK.i IntKind.i64 :: LK.i IntKind.i64 :: LK.i IntKind.i64 :: LK.i IntKind.i64 :: LK.i IntKind.i64 :: LK.i IntKind.i64 :: LK.i IntKind.i64 :: LK.i IntKind.i64 :: LK.i IntKind.i64 :: LK.i IntKind.i64 :: LK.i IntKind.i64 :: LK.i IntKind.i64 :: LK.i IntKind.i64 :: LK.i IntKind.i64 :: LK.b :: LK.i IntKind.i64 :: LK.i IntKind.i64 :: LK.i IntKind.i64 :: LK.i IntKind.i64 :: LK.i IntKind.i64 :: LK.i IntKind.i64 :: LK.i IntKind.i64 :: LK.i IntKind.i64 :: LK.i IntKind.i64 :: LK.i IntKind.i64 :: LK.i IntKind.i64 :: LK.i IntKind.i64 :: LK.i IntKind.i64 :: LK.i IntKind.i64 :: LK.i IntKind.i64 :: LK.i IntKind.i64 :: List.nil)) [] (nat_lit 73)]
noncomputable abbrev chmotion_S4 (y1 y2:Int) (y3:Bool) (y4 y5 y6 y7 y8 y9:L3) (y10:Bool) (y11:List L34) (y12 y13 y14 y15:L3):St := St.mk (some (SV.ptr (nat_lit 10) (nat_lit 0)) :: none :: some (SV.ptr (nat_lit 13) (nat_lit 0)) :: some (SV.ptr (nat_lit 16) (nat_lit 0)) :: nn 7 (some (SV.sl (nat_lit 12)) :: some (SV.int .i64 y1) :: some (SV.int .i64 y2) :: nn 23 ([]))) [.cells [SV.bool y3] (nat_lit 27),.seq kP y4 (nat_lit 33),.seq kP y5 (nat_lit 33),.seq kP y6 (nat_lit 33),.seq kP y7 (nat_lit 33),.cells [SV.sl (nat_lit 3),SV.sl (nat_lit 4)] (nat_lit 84),.seq kP y8 (nat_lit 33),.seq kP y9 (nat_lit 33),.cells [SV.sl (nat_lit 6),SV.sl (nat_lit 7)] (nat_lit 84),.cells [SV.bool y10] (nat_lit 27),.cells [SV.ptr (nat_lit 9) (nat_lit 0),SV.sl (nat_lit 12)] (nat_lit 71),SObj.dead,SObj.seq (K.st (LK.i IntKind.i64) (LK.i IntKind.i64 :: LK.i IntKind.i64 :: LK.i IntKind.i64 :: LK.i IntKind.i64 :: LK.i IntKind.i64 :: LK.i IntKind.i64 :: LK.i IntKind.i64 :: LK.i IntKind.i64 :: LK.i IntKind.i64 :: LK.i IntKind.i64 :: LK.i IntKind.i64 :: LK.i IntKind.i64 :: LK.i IntKind.i64 :: LK.i IntKind.i64 :: LK.i IntKind.i64 :: LK.i IntKind.i64 :: LK.b :: LK.i IntKind.i64 :: LK.i IntKind.i64 :: LK.i IntKind.i64 :: LK.i IntKind.i64 :: LK.i IntKind.i64 :: LK.i IntKind.i64 :: LK.i IntKind.i64 :: LK.i IntKind.i64 :: LK.i IntKind.i64 :: LK.i IntKind.i64 :: LK.i IntKind.i64 :: LK.i IntKind.i64 :: LK.i IntKind.i64 :: LK.i IntKind.i64 :: LK.i IntKind.i64 :: LK.i IntKind.i64 :: List.nil)) y11 (nat_lit 73),.cells [SV.sl (nat_lit 14),SV.sl (nat_lit 15)] (nat_lit 84),.seq kP y12 (nat_lit 33),.seq kP y13 (nat_lit 33),.cells [SV.sl (nat_lit 17),SV.sl (nat_lit 18)] (nat_lit 84),.seq kP y14 (nat_lit 33),.seq kP y15 (nat_lit 33)]
noncomputable abbrev chmotion_S5 (y1:Bool) (y2 y3 y4 y5 y6 y7:L3) (y8:Bool) (y9:List L34) (y10 y11 y12 y13:L3):St := St.mk (none :: none :: some (SV.ptr (nat_lit 13) (nat_lit 0)) :: some (SV.ptr (nat_lit 16) (nat_lit 0)) :: nn 33 ([])) [.cells [SV.bool y1] (nat_lit 27),.seq kP y2 (nat_lit 33),.seq kP y3 (nat_lit 33),.seq kP y4 (nat_lit 33),.seq kP y5 (nat_lit 33),.cells [SV.sl (nat_lit 3),SV.sl (nat_lit 4)] (nat_lit 84),.seq kP y6 (nat_lit 33),.seq kP y7 (nat_lit 33),.cells [SV.sl (nat_lit 6),SV.sl (nat_lit 7)] (nat_lit 84),.cells [SV.bool y8] (nat_lit 27),.cells [SV.ptr (nat_lit 9) (nat_lit 0),SV.sl (nat_lit 12)] (nat_lit 71),SObj.dead,SObj.seq (K.st (LK.i IntKind.i64) (LK.i IntKind.i64 :: LK.i IntKind.i64 :: LK.i IntKind.i64 :: LK.i IntKind.i64 :: LK.i IntKind.i64 :: LK.i IntKind.i64 :: LK.i IntKind.i64 :: LK.i IntKind.i64 :: LK.i IntKind.i64 :: LK.i IntKind.i64 :: LK.i IntKind.i64 :: LK.i IntKind.i64 :: LK.i IntKind.i64 :: LK.i IntKind.i64 :: LK.i IntKind.i64 :: LK.i IntKind.i64 :: LK.b :: LK.i IntKind.i64 :: LK.i IntKind.i64 :: LK.i IntKind.i64 :: LK.i IntKind.i64 :: LK.i IntKind.i64 :: LK.i IntKind.i64 :: LK.i IntKind.i64 :: LK.i IntKind.i64 :: LK.i IntKind.i64 :: LK.i IntKind.i64 :: LK.i IntKind.i64 :: LK.i IntKind.i64 :: LK.i IntKind.i64 :: LK.i IntKind.i64 :: LK.i IntKind.i64 :: LK.i IntKind.i64 :: List.nil)) y9 (nat_lit 73),.cells [SV.sl (nat_lit 14),SV.sl (nat_lit 15)] (nat_lit 84),.seq kP y10 (nat_lit 33),.seq kP y11 (nat_lit 33),.cells [SV.sl (nat_lit 17),SV.sl (nat_lit 18)] (nat_lit 84),.seq kP y12 (nat_lit 33),.seq kP y13 (nat_lit 33)]
noncomputable abbrev chmotion_S6:St := St.mk (some (SV.ptr (nat_lit 10) (nat_lit 0)) :: none :: some (SV.ptr (nat_lit 13) (nat_lit 0)) :: some (SV.ptr (nat_lit 16) (nat_lit 0)) :: nn 7 (some (SV.sl (nat_lit 12)) :: some (SV.int .i64 (0:Int)) :: some (SV.int .i64 (0:Int)) :: nn 23 ([]))) [.cells [SV.bool false] (nat_lit 27),.seq kP [] (nat_lit 33),.seq kP [] (nat_lit 33),.seq kP [] (nat_lit 33),.seq kP [] (nat_lit 33),.cells [SV.sl (nat_lit 3),SV.sl (nat_lit 4)] (nat_lit 84),.seq kP [] (nat_lit 33),.seq kP [] (nat_lit 33),.cells [SV.sl (nat_lit 6),SV.sl (nat_lit 7)] (nat_lit 84),.cells [SV.bool false] (nat_lit 27),.cells [SV.ptr (nat_lit 9) (nat_lit 0),SV.sl (nat_lit 12)] (nat_lit 71),SObj.dead,SObj.seq (K.st (LK.i IntKind.i64) (LK.i IntKind.i64 :: LK.i IntKind.i64 :: LK.i IntKind.i64 :: LK.i IntKind.i64 :: LK.i IntKind.i64 :: LK.i IntKind.i64 :: LK.i IntKind.i64 :: LK.i IntKind.i64 :: LK.i IntKind.i64 :: LK.i IntKind.i64 :: LK.i IntKind.i64 :: LK.i IntKind.i64 :: LK.i IntKind.i64 :: LK.i IntKind.i64 :: LK.i IntKind.i64 :: LK.i IntKind.i64 :: LK.b :: LK.i IntKind.i64 :: LK.i IntKind.i64 :: LK.i IntKind.i64 :: LK.i IntKind.i64 :: LK.i IntKind.i64 :: LK.i IntKind.i64 :: LK.i IntKind.i64 :: LK.i IntKind.i64 :: LK.i IntKind.i64 :: LK.i IntKind.i64 :: LK.i IntKind.i64 :: LK.i IntKind.i64 :: LK.i IntKind.i64 :: LK.i IntKind.i64 :: LK.i IntKind.i64 :: LK.i IntKind.i64 :: List.nil)) [] (nat_lit 73),.cells [SV.sl (nat_lit 14),SV.sl (nat_lit 15)] (nat_lit 84),.seq kP [] (nat_lit 33),.seq kP [] (nat_lit 33),.cells [SV.sl (nat_lit 17),SV.sl (nat_lit 18)] (nat_lit 84),.seq kP [] (nat_lit 33),.seq kP [] (nat_lit 33)]
abbrev chmotion_P1:List Bool := [false,true,false,true,true,true]
noncomputable def M.chmotion_l0_step {α:Type} (x14:Int) (kn:Int → Bool → List L34 → Option α) (k1:Bool → List L34 → Option α) (x15:Int) (x23:Bool) (x26:List L34):Option α := let s27 := (↑(List.length x26):Int); let s28 := List.getD x26 (Int.toNat x15) ((0:Int),(0:Int),(0:Int),(0:Int),(0:Int),(0:Int),(0:Int),(0:Int),(0:Int),(0:Int),(0:Int),(0:Int),(0:Int),(0:Int),(0:Int),(0:Int),(0:Int),false,(0:Int),(0:Int),(0:Int),(0:Int),(0:Int),(0:Int),(0:Int),(0:Int),(0:Int),(0:Int),(0:Int),(0:Int),(0:Int),(0:Int),(0:Int),(0:Int)); let s29 := Prod.snd s28; let s30 := Prod.snd s29; let s31 := Prod.snd s30; let s32 := Prod.snd s31; let s33 := Prod.snd s32; let s34 := Prod.snd s33; let s35 := Prod.snd s34; let s36 := Prod.fst s35; let s37 := Prod.snd s35; let s38 := Prod.snd s37; let s39 := Prod.snd s38; let s40 := Prod.snd s39; let s41 := Prod.snd s40; let s42 := Prod.snd s41; let s43 := Prod.snd s42; let s44 := Prod.snd s43; let s45 := Prod.snd s44; let s46 := Prod.snd s45; let s47 := Prod.snd s46; let s48 := Prod.snd s47; let s49 := Prod.fst s48; let s50 := Prod.snd s48; let s51 := Prod.snd s50; let s52 := Prod.snd s51; let s53 := Prod.fst s52; let s54 := Prod.snd s52; let s55 := Prod.snd s54; let s56 := Prod.fst s54; let s57 := Prod.snd s55; let s58 := Prod.fst s55; let s59 := Prod.snd s57; let s60 := Prod.snd s59; let s61 := Prod.snd (Prod.snd (Prod.snd (Prod.snd s60))); let s62 := List.getD x26 (Int.toNat s36) ((0:Int),(0:Int),(0:Int),(0:Int),(0:Int),(0:Int),(0:Int),(0:Int),(0:Int),(0:Int),(0:Int),(0:Int),(0:Int),(0:Int),(0:Int),(0:Int),(0:Int),false,(0:Int),(0:Int),(0:Int),(0:Int),(0:Int),(0:Int),(0:Int),(0:Int),(0:Int),(0:Int),(0:Int),(0:Int),(0:Int),(0:Int),(0:Int),(0:Int)); let s63 := Prod.snd s62; let s64 := Prod.snd s63; let s65 := Prod.snd (Prod.snd (Prod.snd (Prod.snd (Prod.snd (Prod.snd (Prod.snd (Prod.snd (Prod.snd (Prod.snd (Prod.snd (Prod.snd (Prod.snd (Prod.snd (Prod.snd (Prod.snd (Prod.snd (Prod.snd (Prod.snd (Prod.snd (Prod.snd (Prod.snd (Prod.snd (Prod.snd (Prod.snd (Prod.snd s64))))))))))))))))))))))))); let s66 := Prod.snd s65; let s67 := Prod.fst s65; let s68 := Prod.fst s66; let s69 := Prod.snd s66; let s70 := Prod.fst s69; let s71 := V.tScale (s53,s56,s58) s49; let s72 := V.on s71 x23; let s73 := List.set x26 (Int.toNat x15) (Prod.fst s28,Prod.fst s29,Prod.fst s30,Prod.fst s31,Prod.fst s32,Prod.fst s33,Prod.fst s34,s36,Prod.fst s37,Prod.fst s38,Prod.fst s39,Prod.fst s40,Prod.fst s41,Prod.fst s42,Prod.fst s43,Prod.fst s44,Prod.fst s45,Prod.fst s46,Prod.fst s47,s49,Prod.fst s50,Prod.fst s51,s53,s56,s58,Prod.fst s57,Prod.fst s59,Prod.fst s60,(0:Int),(0:Int),(0:Int),s61); let s74 := List.getD s73 (Int.toNat x15) ((0:Int),(0:Int),(0:Int),(0:Int),(0:Int),(0:Int),(0:Int),(0:Int),(0:Int),(0:Int),(0:Int),(0:Int),(0:Int),(0:Int),(0:Int),(0:Int),(0:Int),false,(0:Int),(0:Int),(0:Int),(0:Int),(0:Int),(0:Int),(0:Int),(0:Int),(0:Int),(0:Int),(0:Int),(0:Int),(0:Int),(0:Int),(0:Int),(0:Int)); let s75 := Prod.snd s74; let s76 := Prod.fst s74; let s77 := Prod.snd s75; let s78 := Prod.fst s75; let s79 := Prod.fst s77; let s80 := Prod.snd s77; let s81 := Prod.snd s80; let s82 := Prod.snd s81; let s83 := Prod.snd s82; let s84 := Prod.snd s83; let s85 := Prod.snd s84; let s86 := Prod.snd s85; let s87 := Prod.snd s86; let s88 := Prod.snd s87; let s89 := Prod.snd s88; let s90 := Prod.snd s89; let s91 := Prod.snd s90; let s92 := Prod.snd s91; let s93 := Prod.snd s92; let s94 := Prod.snd s93; let s95 := Prod.snd s94; let s96 := Prod.snd s95; let s97 := Prod.snd s96; let s98 := Prod.snd s97; let s99 := Prod.snd s98; let s100 := Prod.snd s99; let s101 := Prod.snd s100; let s102 := Prod.snd s101; let s103 := Prod.snd s102; let s104 := Prod.snd s103; let s105 := Prod.snd s104; let s106 := Prod.snd s105; let s107 := List.set x26 (Int.toNat x15) (Prod.fst s28,Prod.fst s29,Prod.fst s30,Prod.fst s31,Prod.fst s32,Prod.fst s33,Prod.fst s34,s36,Prod.fst s37,Prod.fst s38,Prod.fst s39,Prod.fst s40,Prod.fst s41,Prod.fst s42,Prod.fst s43,Prod.fst s44,Prod.fst s45,Prod.fst s46,Prod.fst s47,s49,Prod.fst s50,Prod.fst s51,s53,s56,s58,Prod.fst s57,Prod.fst s59,Prod.fst s60,s67,s68,s70,s61); let s108 := List.getD s107 (Int.toNat x15) ((0:Int),(0:Int),(0:Int),(0:Int),(0:Int),(0:Int),(0:Int),(0:Int),(0:Int),(0:Int),(0:Int),(0:Int),(0:Int),(0:Int),(0:Int),(0:Int),(0:Int),false,(0:Int),(0:Int),(0:Int),(0:Int),(0:Int),(0:Int),(0:Int),(0:Int),(0:Int),(0:Int),(0:Int),(0:Int),(0:Int),(0:Int),(0:Int),(0:Int)); let s109 := Prod.fst s108; let s110 := Prod.snd s108; let s111 := Prod.snd s110; let s112 := Prod.fst s110; let s113 := Prod.fst s111; let s114 := Prod.snd s111; let s115 := Prod.snd s114; let s116 := Prod.snd s115; let s117 := Prod.snd s116; let s118 := Prod.snd s117; let s119 := Prod.snd s118; let s120 := Prod.snd s119; let s121 := Prod.snd s120; let s122 := Prod.snd s121; let s123 := Prod.snd s122; let s124 := Prod.snd s123; let s125 := Prod.snd s124; let s126 := Prod.snd s125; let s127 := Prod.snd s126; let s128 := Prod.snd s127; let s129 := Prod.snd s128; let s130 := Prod.snd s129; let s131 := Prod.snd s130; let s132 := Prod.snd s131; let s133 := Prod.snd s132; let s134 := Prod.snd s133; let s135 := Prod.snd s134; let s136 := Prod.snd s135; let s137 := Prod.snd s136; let s138 := Prod.snd s137; let s139 := Prod.snd s138; let s140 := Prod.snd s139; let s141 := V.tSub (s76,s78,s79) ((0:Int),(0:Int),(0:Int)); let s142 := V.tCross ((0:Int),(0:Int),(0:Int)) (V.q3 s141); let s143 := V.tAdd ((0:Int),(0:Int),(0:Int)) (V.q3 s142); let s144 := V.tSub (s109,s112,s113) (Prod.fst s62,Prod.fst s63,Prod.fst s64); let s145 := V.tCross (s67,s68,s70) (V.q3 s144); let s146 := V.tAdd (Prod.snd s69) (V.q3 s145); let s147 := V.on s143 (V.on s142 (V.on s141 s72)); let s148 := V.on s146 (V.on s145 (V.on s144 s72)); let s149 := List.set s73 (Int.toNat x15) (s76,s78,s79,Prod.fst s80,Prod.fst s81,Prod.fst s82,Prod.fst s83,Prod.fst s84,Prod.fst s85,Prod.fst s86,Prod.fst s87,Prod.fst s88,Prod.fst s89,Prod.fst s90,Prod.fst s91,Prod.fst s92,Prod.fst s93,Prod.fst s94,Prod.fst s95,Prod.fst s96,Prod.fst s97,Prod.fst s98,Prod.fst s99,Prod.fst s100,Prod.fst s101,Prod.fst s102,Prod.fst s103,Prod.fst s104,Prod.fst s105,Prod.fst s106,Prod.fst (Prod.snd s106),V.q3 s143); let s150 := List.getD s149 (Int.toNat x15) ((0:Int),(0:Int),(0:Int),(0:Int),(0:Int),(0:Int),(0:Int),(0:Int),(0:Int),(0:Int),(0:Int),(0:Int),(0:Int),(0:Int),(0:Int),(0:Int),(0:Int),false,(0:Int),(0:Int),(0:Int),(0:Int),(0:Int),(0:Int),(0:Int),(0:Int),(0:Int),(0:Int),(0:Int),(0:Int),(0:Int),(0:Int),(0:Int),(0:Int)); let s151 := Prod.snd s150; let s152 := Prod.snd s151; let s153 := Prod.snd s152; let s154 := Prod.snd s153; let s155 := Prod.snd s154; let s156 := Prod.snd s155; let s157 := Prod.snd s156; let s158 := Prod.snd s157; let s159 := Prod.snd s158; let s160 := Prod.snd s159; let s161 := Prod.snd s160; let s162 := Prod.snd s161; let s163 := Prod.snd s162; let s164 := Prod.snd s163; let s165 := Prod.snd s164; let s166 := Prod.snd s165; let s167 := Prod.snd s166; let s168 := Prod.snd s167; let s169 := Prod.fst s167; let s170 := Prod.snd s168; let s171 := Prod.snd s170; let s172 := Prod.snd s171; let s173 := Prod.snd s172; let s174 := Prod.snd s173; let s175 := Prod.snd s174; let s176 := Prod.snd s175; let s177 := Prod.snd s176; let s178 := Prod.snd s177; let s179 := Prod.snd s178; let s180 := Prod.fst s179; let s181 := Prod.snd s179; let s182 := Prod.fst s181; let s183 := Prod.snd s181; let s184 := Prod.fst s183; let s185 := Prod.snd s183; let s186 := V.tAdd s185 (V.q3 s71); let s187 := List.set s107 (Int.toNat x15) (s109,s112,s113,Prod.fst s114,Prod.fst s115,Prod.fst s116,Prod.fst s117,Prod.fst s118,Prod.fst s119,Prod.fst s120,Prod.fst s121,Prod.fst s122,Prod.fst s123,Prod.fst s124,Prod.fst s125,Prod.fst s126,Prod.fst s127,Prod.fst s128,Prod.fst s129,Prod.fst s130,Prod.fst s131,Prod.fst s132,Prod.fst s133,Prod.fst s134,Prod.fst s135,Prod.fst s136,Prod.fst s137,Prod.fst s138,Prod.fst s139,Prod.fst s140,Prod.fst (Prod.snd s140),V.q3 s146); let s188 := List.getD s187 (Int.toNat x15) ((0:Int),(0:Int),(0:Int),(0:Int),(0:Int),(0:Int),(0:Int),(0:Int),(0:Int),(0:Int),(0:Int),(0:Int),(0:Int),(0:Int),(0:Int),(0:Int),(0:Int),false,(0:Int),(0:Int),(0:Int),(0:Int),(0:Int),(0:Int),(0:Int),(0:Int),(0:Int),(0:Int),(0:Int),(0:Int),(0:Int),(0:Int),(0:Int),(0:Int)); let s189 := Prod.snd s188; let s190 := Prod.snd s189; let s191 := Prod.snd s190; let s192 := Prod.snd s191; let s193 := Prod.snd s192; let s194 := Prod.snd s193; let s195 := Prod.snd s194; let s196 := Prod.snd s195; let s197 := Prod.snd s196; let s198 := Prod.snd s197; let s199 := Prod.snd s198; let s200 := Prod.snd s199; let s201 := Prod.snd s200; let s202 := Prod.snd s201; let s203 := Prod.snd s202; let s204 := Prod.snd s203; let s205 := Prod.snd s204; let s206 := Prod.fst s205; let s207 := Prod.snd s205; let s208 := Prod.snd s207; let s209 := Prod.snd s208; let s210 := Prod.snd s209; let s211 := Prod.snd s210; let s212 := Prod.snd s211; let s213 := Prod.snd s212; let s214 := Prod.snd s213; let s215 := Prod.snd s214; let s216 := Prod.snd s215; let s217 := Prod.snd s216; let s218 := Prod.fst s217; let s219 := Prod.snd s217; let s220 := Prod.fst s219; let s221 := Prod.snd s219; let s222 := Prod.fst s221; let s223 := Prod.snd s221; let s224 := V.tAdd s223 (V.q3 s71); let s225 := V.tAdd (s180,s182,s184) (V.q3 s71); let s226 := V.tAdd (s218,s220,s222) (V.q3 s71); if cLt x15 x14 = true then if (0:Int) ≤ x15 ∧ x15 < s27 then if (0:Int) ≤ x15 ∧ x15 < s27 then if cLt s36 (0:Int) = true then if s169 = true then kn (IntKind.wrap .i64 (x15 + (1:Int))) (V.on s186 s147) (List.set s149 (Int.toNat x15) (Prod.fst s150,Prod.fst s151,Prod.fst s152,Prod.fst s153,Prod.fst s154,Prod.fst s155,Prod.fst s156,Prod.fst s157,Prod.fst s158,Prod.fst s159,Prod.fst s160,Prod.fst s161,Prod.fst s162,Prod.fst s163,Prod.fst s164,Prod.fst s165,Prod.fst s166,s169,Prod.fst s168,Prod.fst s170,Prod.fst s171,Prod.fst s172,Prod.fst s173,Prod.fst s174,Prod.fst s175,Prod.fst s176,Prod.fst s177,Prod.fst s178,s180,s182,s184,V.q3 s186)) else kn (IntKind.wrap .i64 (x15 + (1:Int))) (V.on s225 s147) (List.set s149 (Int.toNat x15) (Prod.fst s150,Prod.fst s151,Prod.fst s152,Prod.fst s153,Prod.fst s154,Prod.fst s155,Prod.fst s156,Prod.fst s157,Prod.fst s158,Prod.fst s159,Prod.fst s160,Prod.fst s161,Prod.fst s162,Prod.fst s163,Prod.fst s164,Prod.fst s165,Prod.fst s166,s169,Prod.fst s168,Prod.fst s170,Prod.fst s171,Prod.fst s172,Prod.fst s173,Prod.fst s174,Prod.fst s175,Prod.fst s176,Prod.fst s177,Prod.fst s178,V.x3 s225,V.y3 s225,V.z3 s225,s185)) else if (0:Int) ≤ s36 ∧ s36 < s27 then if s206 = true then kn (IntKind.wrap .i64 (x15 + (1:Int))) (V.on s224 s148) (List.set s187 (Int.toNat x15) (Prod.fst s188,Prod.fst s189,Prod.fst s190,Prod.fst s191,Prod.fst s192,Prod.fst s193,Prod.fst s194,Prod.fst s195,Prod.fst s196,Prod.fst s197,Prod.fst s198,Prod.fst s199,Prod.fst s200,Prod.fst s201,Prod.fst s202,Prod.fst s203,Prod.fst s204,s206,Prod.fst s207,Prod.fst s208,Prod.fst s209,Prod.fst s210,Prod.fst s211,Prod.fst s212,Prod.fst s213,Prod.fst s214,Prod.fst s215,Prod.fst s216,s218,s220,s222,V.q3 s224)) else kn (IntKind.wrap .i64 (x15 + (1:Int))) (V.on s226 s148) (List.set s187 (Int.toNat x15) (Prod.fst s188,Prod.fst s189,Prod.fst s190,Prod.fst s191,Prod.fst s192,Prod.fst s193,Prod.fst s194,Prod.fst s195,Prod.fst s196,Prod.fst s197,Prod.fst s198,Prod.fst s199,Prod.fst s200,Prod.fst s201,Prod.fst s202,Prod.fst s203,Prod.fst s204,s206,Prod.fst s207,Prod.fst s208,Prod.fst s209,Prod.fst s210,Prod.fst s211,Prod.fst s212,Prod.fst s213,Prod.fst s214,Prod.fst s215,Prod.fst s216,V.x3 s226,V.y3 s226,V.z3 s226,s223)) else none else none else none else k1 x23 x26
noncomputable def M.chmotion_l0 {α:Type} (x14:Int) (k1:Bool → List L34 → Option α):Nat → Int → Bool → List L34 → Option α
 | 0,_,_,_ => none
 | n + 1,x15,x23,x26 => M.chmotion_l0_step x14 (M.chmotion_l0 x14 k1 n) k1 x15 x23 x26
theorem chmotion_l0_step_eq {α:Type} (x14 x15:Int) (x16:Bool) (x17 x18 x19 x20 x21 x22:L3) (x23:Bool) (x24 x25:L3) (x26:List L34) (Q:Ex → St → Option α):(loopStep E (exec E look_chloads noLps 400) 89 [false,true] 18 (codeAt E.P 89 [false,true])) (chmotion_S1 x14 x15 x16 x17 x18 x19 x20 x21 x22 x23 x24 x25 x26) Q = M.chmotion_l0_step x14 (fun (x229:Int) (x230:Bool) (x231:List L34) => Q .normal (chmotion_S1 x14 x229 x16 x17 x18 x19 x20 x21 x22 x230 x24 x25 x231)) (fun (x227:Bool) (x228:List L34) => Q (.exit 0) (chmotion_S2 x16 x17 x18 x19 x20 x21 x22 x227 x24 x25 x228)) x15 x23 x26 := by kernel_rfl
theorem chmotion_l0_iter {α:Type} (x14:Int) (x16:Bool) (x17 x18 x19 x20 x21 x22 x24 x25:L3) (Q:Ex → St → Option α):∀ (n:Nat) (x15:Int) (x23:Bool) (x26:List L34),iter (loopStep E (exec E look_chloads noLps 400) 89 [false,true] 18 (codeAt E.P 89 [false,true])) n (chmotion_S1 x14 x15 x16 x17 x18 x19 x20 x21 x22 x23 x24 x25 x26) Q = M.chmotion_l0 x14 (fun (x227:Bool) (x228:List L34) => Q (.exit 0) (chmotion_S2 x16 x17 x18 x19 x20 x21 x22 x227 x24 x25 x228)) n x15 x23 x26
 | 0,_,_,_ => rfl
 | n + 1,x15,x23,x26 => (chmotion_l0_step_eq x14 x15 x16 x17 x18 x19 x20 x21 x22 x23 x24 x25 x26 (iterK (loopStep E (exec E look_chloads noLps 400) 89 [false,true] 18 (codeAt E.P 89 [false,true])) n Q)).trans (congrArg (fun kn => M.chmotion_l0_step x14 kn (fun (x227:Bool) (x228:List L34) => Q (.exit 0) (chmotion_S2 x16 x17 x18 x19 x20 x21 x22 x227 x24 x25 x228)) x15 x23 x26) (funext fun x15 => funext fun x23 => funext fun x26 => chmotion_l0_iter x14 x16 x17 x18 x19 x20 x21 x22 x24 x25 Q n x15 x23 x26))
noncomputable def chmotion_l0_go {α:Type} (ds:List D) (Q:Ex → St → Option α):Option α :=
 dI ds fun x14 ds => dI ds fun x15 ds => dB ds fun x16 ds => dL kP ds fun x17 ds => dL kP ds fun x18 ds => dL kP ds fun x19 ds => dL kP ds fun x20 ds => dL kP ds fun x21 ds => dL kP ds fun x22 ds => dB ds fun x23 ds => dL kP ds fun x24 ds => dL kP ds fun x25 ds => dL (K.st (LK.i IntKind.i64)
 (LK.i IntKind.i64 :: LK.i IntKind.i64 :: LK.i IntKind.i64 :: LK.i IntKind.i64 :: LK.i IntKind.i64 :: LK.i IntKind.i64 :: LK.i IntKind.i64 :: LK.i IntKind.i64 :: LK.i IntKind.i64 :: LK.i IntKind.i64 :: LK.i IntKind.i64 :: LK.i IntKind.i64 :: LK.i IntKind.i64 :: LK.i IntKind.i64 :: LK.i IntKind.i64 :: LK.i IntKind.i64 :: LK.b :: LK.i IntKind.i64 :: LK.i IntKind.i64 :: LK.i IntKind.i64 :: LK.i IntKind.i64 :: LK.i IntKind.i64 :: LK.i IntKind.i64 :: LK.i IntKind.i64 :: LK.i IntKind.i64 :: LK.i IntKind.i64 :: LK.i IntKind.i64 :: LK.i IntKind.i64 :: LK.i IntKind.i64 :: LK.i IntKind.i64 :: LK.i IntKind.i64 :: LK.i IntKind.i64 :: LK.i IntKind.i64 :: List.nil)) ds fun x26 ds => dE ds (M.chmotion_l0 x14 (fun (x227:Bool) (x228:List L34) => Q (.exit 0) (chmotion_S2 x16 x17 x18 x19 x20 x21 x22 x227 x24 x25 x228)) (100 + x17.length + x18.length + x19.length + x20.length + x21.length + x22.length + x24.length + x25.length + x26.length) x15 x23 x26)
theorem chmotion_l0_ok {α:Type}:LoopOk E.P 89 [false,true] 18 (lEnt (α := α) (chmotion_S3) chmotion_l0_go) :=
 lEnt_ok E (exec_sound E E_ok (look_chloads_ok) (noLps_ok _) 400) fun ds Q r h S hS => by
   unfold chmotion_l0_go at h
   obtain ⟨x14,ds,rfl,h1⟩ := dI_inv h
   obtain ⟨x15,ds,rfl,h2⟩ := dI_inv h1
   obtain ⟨x16,ds,rfl,h3⟩ := dB_inv h2
   obtain ⟨x17,ds,rfl,h4⟩ := dL_inv h3
   obtain ⟨x18,ds,rfl,h5⟩ := dL_inv h4
   obtain ⟨x19,ds,rfl,h6⟩ := dL_inv h5
   obtain ⟨x20,ds,rfl,h7⟩ := dL_inv h6
   obtain ⟨x21,ds,rfl,h8⟩ := dL_inv h7
   obtain ⟨x22,ds,rfl,h9⟩ := dL_inv h8
   obtain ⟨x23,ds,rfl,h10⟩ := dB_inv h9
   obtain ⟨x24,ds,rfl,h11⟩ := dL_inv h10
   obtain ⟨x25,ds,rfl,h12⟩ := dL_inv h11
   obtain ⟨x26,ds,rfl,h13⟩ := dL_inv h12
   obtain ⟨rfl,hE⟩ := dE_inv h13
   have e:fillS (chmotion_S3) [.i x14,.i x15,.b x16,.l kP x17,.l kP x18,.l kP x19,.l kP x20,.l kP x21,.l kP x22,.b x23,.l kP x24,.l kP x25,.l (K.st (LK.i IntKind.i64)
 (LK.i IntKind.i64 :: LK.i IntKind.i64 :: LK.i IntKind.i64 :: LK.i IntKind.i64 :: LK.i IntKind.i64 :: LK.i IntKind.i64 :: LK.i IntKind.i64 :: LK.i IntKind.i64 :: LK.i IntKind.i64 :: LK.i IntKind.i64 :: LK.i IntKind.i64 :: LK.i IntKind.i64 :: LK.i IntKind.i64 :: LK.i IntKind.i64 :: LK.i IntKind.i64 :: LK.i IntKind.i64 :: LK.b :: LK.i IntKind.i64 :: LK.i IntKind.i64 :: LK.i IntKind.i64 :: LK.i IntKind.i64 :: LK.i IntKind.i64 :: LK.i IntKind.i64 :: LK.i IntKind.i64 :: LK.i IntKind.i64 :: LK.i IntKind.i64 :: LK.i IntKind.i64 :: LK.i IntKind.i64 :: LK.i IntKind.i64 :: LK.i IntKind.i64 :: LK.i IntKind.i64 :: LK.i IntKind.i64 :: LK.i IntKind.i64 :: List.nil)) x26] = some (chmotion_S1 x14 x15 x16 x17 x18 x19 x20 x21 x22 x23 x24 x25 x26) := by kernel_rfl
   rw [e] at hS
   cases hS
   exact ⟨_,(chmotion_l0_iter x14 x16 x17 x18 x19 x20 x21 x22 x24 x25 Q _ x15 x23 x26).trans hE⟩
noncomputable def chmotion_l0_lps {α:Type}:LookL α := addLp 89 [false,true] 18 (lEnt (chmotion_S3) chmotion_l0_go) noLps
theorem chmotion_l0_lps_ok {α:Type}:LoopsOk E.P (chmotion_l0_lps (α := α)) := addLp_ok chmotion_l0_ok (noLps_ok _)
noncomputable def M.chmotion_l1_step {α:Type} (x250:Int) (x260:List L34) (kn:Int → Bool → L3 → L3 → Option α) (k1:Bool → L3 → L3 → Option α) (x251:Int) (x259:Bool) (x263 x264:L3):Option α := let s265 := List.getD x260 (Int.toNat x251) ((0:Int),(0:Int),(0:Int),(0:Int),(0:Int),(0:Int),(0:Int),(0:Int),(0:Int),(0:Int),(0:Int),(0:Int),(0:Int),(0:Int),(0:Int),(0:Int),(0:Int),false,(0:Int),(0:Int),(0:Int),(0:Int),(0:Int),(0:Int),(0:Int),(0:Int),(0:Int),(0:Int),(0:Int),(0:Int),(0:Int),(0:Int),(0:Int),(0:Int)); let s266 := Prod.snd s265; let s267 := Prod.snd s266; let s268 := Prod.snd (Prod.snd (Prod.snd (Prod.snd (Prod.snd (Prod.snd (Prod.snd (Prod.snd (Prod.snd (Prod.snd (Prod.snd (Prod.snd (Prod.snd (Prod.snd (Prod.snd (Prod.snd (Prod.snd (Prod.snd (Prod.snd (Prod.snd (Prod.snd (Prod.snd (Prod.snd s267)))))))))))))))))))))); let s269 := Prod.snd s268; let s270 := Prod.snd s269; let s271 := Prod.snd s270; let s272 := Prod.fst s271; let s273 := Prod.snd s271; let s274 := Prod.fst s273; let s275 := Prod.snd s273; let s276 := Prod.fst s275; let s277 := V.tSub (Prod.fst s268,Prod.fst s269,Prod.fst s270) (Prod.fst s265,Prod.fst s266,Prod.fst s267); let s278 := V.tCross (s272,s274,s276) (V.q3 s277); let s279 := V.tAdd (Prod.snd s275) (V.q3 s278); if cLt x251 x250 = true then if (0:Int) ≤ x251 ∧ x251 < (↑(List.length x260):Int) then if (List.length x263 + ((0:Nat) + (1:Nat))) * (24:Nat) ≤ (140737488355328:Nat) then if (List.length x264 + ((0:Nat) + (1:Nat))) * (24:Nat) ≤ (140737488355328:Nat) then kn (IntKind.wrap .i64 (x251 + (1:Int))) (V.on s279 (V.on s278 (V.on s277 x259))) (x263 ++ [(s272,s274,s276)]) (x264 ++ [V.q3 s279]) else none else none else none else k1 x259 x263 x264
noncomputable def M.chmotion_l1 {α:Type} (x250:Int) (x260:List L34) (k1:Bool → L3 → L3 → Option α):Nat → Int → Bool → L3 → L3 → Option α
 | 0,_,_,_,_ => none
 | n + 1,x251,x259,x263,x264 => M.chmotion_l1_step x250 x260 (M.chmotion_l1 x250 x260 k1 n) k1 x251 x259 x263 x264
theorem chmotion_l1_step_eq {α:Type} (x250 x251:Int) (x252:Bool) (x253 x254 x255 x256 x257 x258:L3) (x259:Bool) (x260:List L34) (x261 x262 x263 x264:L3) (Q:Ex → St → Option α):(loopStep E (exec E look_chloads chmotion_l0_lps 400) 39 chmotion_P1 12 (codeAt E.P 39 chmotion_P1)) (chmotion_S4 x250 x251 x252 x253 x254 x255 x256 x257 x258 x259 x260 x261 x262 x263 x264) Q = M.chmotion_l1_step x250 x260 (fun (x283:Int) (x284:Bool) (x285 x286:L3) => Q .normal (chmotion_S4 x250 x283 x252 x253 x254 x255 x256 x257 x258 x284 x260 x261 x262 x285 x286)) (fun (x280:Bool) (x281 x282:L3) => Q (.exit 0) (chmotion_S5 x252 x253 x254 x255 x256 x257 x258 x280 x260 x261 x262 x281 x282)) x251 x259 x263 x264 := by kernel_rfl
theorem chmotion_l1_iter {α:Type} (x250:Int) (x252:Bool) (x253 x254 x255 x256 x257 x258:L3) (x260:List L34) (x261 x262:L3) (Q:Ex → St → Option α):∀ (n:Nat) (x251:Int) (x259:Bool) (x263 x264:L3),iter (loopStep E (exec E look_chloads chmotion_l0_lps 400) 39 chmotion_P1 12 (codeAt E.P 39 chmotion_P1)) n (chmotion_S4 x250 x251 x252 x253 x254 x255 x256 x257 x258 x259 x260 x261 x262 x263 x264) Q = M.chmotion_l1 x250 x260 (fun (x280:Bool) (x281 x282:L3) => Q (.exit 0) (chmotion_S5 x252 x253 x254 x255 x256 x257 x258 x280 x260 x261 x262 x281 x282)) n x251 x259 x263 x264
 | 0,_,_,_,_ => rfl
 | n + 1,x251,x259,x263,x264 => (chmotion_l1_step_eq x250 x251 x252 x253 x254 x255 x256 x257 x258 x259 x260 x261 x262 x263 x264 (iterK (loopStep E (exec E look_chloads chmotion_l0_lps 400) 39 chmotion_P1 12 (codeAt E.P 39 chmotion_P1)) n Q)).trans (congrArg (fun kn => M.chmotion_l1_step x250 x260 kn (fun (x280:Bool) (x281 x282:L3) => Q (.exit 0) (chmotion_S5 x252 x253 x254 x255 x256 x257 x258 x280 x260 x261 x262 x281 x282)) x251 x259 x263 x264) (funext fun x251 => funext fun x259 => funext fun x263 => funext fun x264 => chmotion_l1_iter x250 x252 x253 x254 x255 x256 x257 x258 x260 x261 x262 Q n x251 x259 x263 x264))
noncomputable def chmotion_l1_go {α:Type} (ds:List D) (Q:Ex → St → Option α):Option α :=
 dI ds fun x250 ds => dI ds fun x251 ds => dB ds fun x252 ds => dL kP ds fun x253 ds => dL kP ds fun x254 ds => dL kP ds fun x255 ds => dL kP ds fun x256 ds => dL kP ds fun x257 ds => dL kP ds fun x258 ds => dB ds fun x259 ds => dL (K.st (LK.i IntKind.i64)
 (LK.i IntKind.i64 :: LK.i IntKind.i64 :: LK.i IntKind.i64 :: LK.i IntKind.i64 :: LK.i IntKind.i64 :: LK.i IntKind.i64 :: LK.i IntKind.i64 :: LK.i IntKind.i64 :: LK.i IntKind.i64 :: LK.i IntKind.i64 :: LK.i IntKind.i64 :: LK.i IntKind.i64 :: LK.i IntKind.i64 :: LK.i IntKind.i64 :: LK.i IntKind.i64 :: LK.i IntKind.i64 :: LK.b :: LK.i IntKind.i64 :: LK.i IntKind.i64 :: LK.i IntKind.i64 :: LK.i IntKind.i64 :: LK.i IntKind.i64 :: LK.i IntKind.i64 :: LK.i IntKind.i64 :: LK.i IntKind.i64 :: LK.i IntKind.i64 :: LK.i IntKind.i64 :: LK.i IntKind.i64 :: LK.i IntKind.i64 :: LK.i IntKind.i64 :: LK.i IntKind.i64 :: LK.i IntKind.i64 :: LK.i IntKind.i64 :: List.nil)) ds fun x260 ds => dL kP ds fun x261 ds => dL kP ds fun x262 ds => dL kP ds fun x263 ds => dL kP ds fun x264 ds => dE ds (M.chmotion_l1 x250 x260 (fun (x280:Bool) (x281 x282:L3) => Q (.exit 0) (chmotion_S5 x252 x253 x254 x255 x256 x257 x258 x280 x260 x261 x262 x281 x282)) (100 + x253.length + x254.length + x255.length + x256.length + x257.length + x258.length + x260.length + x261.length + x262.length + x263.length + x264.length) x251 x259 x263 x264)
theorem chmotion_l1_ok {α:Type}:LoopOk E.P 39 chmotion_P1 12 (lEnt (α := α) (chmotion_S6) chmotion_l1_go) :=
 lEnt_ok E (exec_sound E E_ok (look_chloads_ok) (chmotion_l0_lps_ok) 400) fun ds Q r h S hS => by
   unfold chmotion_l1_go at h
   obtain ⟨x250,ds,rfl,h1⟩ := dI_inv h
   obtain ⟨x251,ds,rfl,h2⟩ := dI_inv h1
   obtain ⟨x252,ds,rfl,h3⟩ := dB_inv h2
   obtain ⟨x253,ds,rfl,h4⟩ := dL_inv h3
   obtain ⟨x254,ds,rfl,h5⟩ := dL_inv h4
   obtain ⟨x255,ds,rfl,h6⟩ := dL_inv h5
   obtain ⟨x256,ds,rfl,h7⟩ := dL_inv h6
   obtain ⟨x257,ds,rfl,h8⟩ := dL_inv h7
   obtain ⟨x258,ds,rfl,h9⟩ := dL_inv h8
   obtain ⟨x259,ds,rfl,h10⟩ := dB_inv h9
   obtain ⟨x260,ds,rfl,h11⟩ := dL_inv h10
   obtain ⟨x261,ds,rfl,h12⟩ := dL_inv h11
   obtain ⟨x262,ds,rfl,h13⟩ := dL_inv h12
   obtain ⟨x263,ds,rfl,h14⟩ := dL_inv h13
   obtain ⟨x264,ds,rfl,h15⟩ := dL_inv h14
   obtain ⟨rfl,hE⟩ := dE_inv h15
   have e:fillS (chmotion_S6) [.i x250,.i x251,.b x252,.l kP x253,.l kP x254,.l kP x255,.l kP x256,.l kP x257,.l kP x258,.b x259,.l (K.st (LK.i IntKind.i64)
 (LK.i IntKind.i64 :: LK.i IntKind.i64 :: LK.i IntKind.i64 :: LK.i IntKind.i64 :: LK.i IntKind.i64 :: LK.i IntKind.i64 :: LK.i IntKind.i64 :: LK.i IntKind.i64 :: LK.i IntKind.i64 :: LK.i IntKind.i64 :: LK.i IntKind.i64 :: LK.i IntKind.i64 :: LK.i IntKind.i64 :: LK.i IntKind.i64 :: LK.i IntKind.i64 :: LK.i IntKind.i64 :: LK.b :: LK.i IntKind.i64 :: LK.i IntKind.i64 :: LK.i IntKind.i64 :: LK.i IntKind.i64 :: LK.i IntKind.i64 :: LK.i IntKind.i64 :: LK.i IntKind.i64 :: LK.i IntKind.i64 :: LK.i IntKind.i64 :: LK.i IntKind.i64 :: LK.i IntKind.i64 :: LK.i IntKind.i64 :: LK.i IntKind.i64 :: LK.i IntKind.i64 :: LK.i IntKind.i64 :: LK.i IntKind.i64 :: List.nil)) x260,.l kP x261,.l kP x262,.l kP x263,.l kP x264] = some (chmotion_S4 x250 x251 x252 x253 x254 x255 x256 x257 x258 x259 x260 x261 x262 x263 x264) := by kernel_rfl
   rw [e] at hS
   cases hS
   exact ⟨_,(chmotion_l1_iter x250 x252 x253 x254 x255 x256 x257 x258 x260 x261 x262 Q _ x251 x259 x263 x264).trans hE⟩
noncomputable def chmotion_l1_lps {α:Type}:LookL α := addLp 39 chmotion_P1 12 (lEnt (chmotion_S6) chmotion_l1_go) chmotion_l0_lps
theorem chmotion_l1_lps_ok {α:Type}:LoopsOk E.P (chmotion_l1_lps (α := α)) := addLp_ok chmotion_l1_ok (chmotion_l0_lps_ok)
noncomputable def M.chmotion {α:Type} (bad:Bool) (l:List L15) (k0:Bool → L3 → L3 → Option α):Option α := if (!cEq (V.chC l) (0:Int)) = true then k0 bad [] [] else if V.chC l = (0:Int) then M.chmotion_l0 (↑(List.length (V.lay l)):Int) (fun (x288:Bool) (x289:List L34) ↦ M.chmotion_l1 (↑(List.length x289):Int) x289 (fun (x290:Bool) (x291 x292:L3) ↦ if x290 = true then k0 true [] [] else k0 bad x291 x292) ((100:Nat) + List.length x289 + (0:Nat) + (0:Nat) + (0:Nat) + (0:Nat)) (0:Int) x288 [] []) ((100:Nat) + List.length (V.lay l)) (0:Int) false (V.lay l) else none
theorem chmotion_eq {α:Type} (bad:Bool) (l:List L15) (v287:Value) (Q:SV → Hp → Option α):callI E look_chloads (exec E look_chloads chmotion_l1_lps 400) 16 ([SV.ptr (nat_lit 0) (nat_lit 0),SV.ros v287 (K.st (LK.i IntKind.i64) [LK.i IntKind.i64,LK.i IntKind.i64,LK.i IntKind.i64,LK.i IntKind.i64,LK.i IntKind.i64,LK.i IntKind.i64,LK.i IntKind.i64,LK.i IntKind.i64,LK.i IntKind.i64,LK.b,LK.i IntKind.i64,LK.i IntKind.i64,LK.i IntKind.i64,LK.i IntKind.i64]) l]) ([.cells [SV.bool bad] (nat_lit 27)]) Q = M.chmotion bad l (fun (x293:Bool) (x294 x295:L3) => Q (SV.tup [SV.sl (nat_lit 1),SV.sl (nat_lit 2)]) ([.cells [SV.bool x293] (nat_lit 27),.seq kP x294 (nat_lit 33),.seq kP x295 (nat_lit 33)])) := by kernel_rfl
def chmotion_sp:List AS := [.ptr 27 [.bool false],.ro (.st (.i .i64) [.i .i64,.i .i64,.i .i64,.i .i64,.i .i64,.i .i64,.i .i64,.i .i64,.i .i64,.b,.i .i64,.i .i64,.i .i64,.i .i64])]
def bAt (b:L34):V.T3 := (b.1,b.2.1,b.2.2.1)
def bPar (b:L34):Int := b.2.2.2.2.2.2.2.1
def bSl (b:L34):Bool := b.2.2.2.2.2.2.2.2.2.2.2.2.2.2.2.2.2.1
def bSpd (b:L34):Int := b.2.2.2.2.2.2.2.2.2.2.2.2.2.2.2.2.2.2.2.1
def bAxis (b:L34):V.T3 := (b.2.2.2.2.2.2.2.2.2.2.2.2.2.2.2.2.2.2.2.2.2.2.1,b.2.2.2.2.2.2.2.2.2.2.2.2.2.2.2.2.2.2.2.2.2.2.2.1,b.2.2.2.2.2.2.2.2.2.2.2.2.2.2.2.2.2.2.2.2.2.2.2.2.1)
def bSpin (b:L34):V.T3 := (b.2.2.2.2.2.2.2.2.2.2.2.2.2.2.2.2.2.2.2.2.2.2.2.2.2.2.2.2.1,b.2.2.2.2.2.2.2.2.2.2.2.2.2.2.2.2.2.2.2.2.2.2.2.2.2.2.2.2.2.1,b.2.2.2.2.2.2.2.2.2.2.2.2.2.2.2.2.2.2.2.2.2.2.2.2.2.2.2.2.2.2.1)
def bSpeed (b:L34):V.T3 := (b.2.2.2.2.2.2.2.2.2.2.2.2.2.2.2.2.2.2.2.2.2.2.2.2.2.2.2.2.2.2.2.1,b.2.2.2.2.2.2.2.2.2.2.2.2.2.2.2.2.2.2.2.2.2.2.2.2.2.2.2.2.2.2.2.2.1,b.2.2.2.2.2.2.2.2.2.2.2.2.2.2.2.2.2.2.2.2.2.2.2.2.2.2.2.2.2.2.2.2.2)
def setSpin (b:L34) (s:V.T3):L34 := (b.1,b.2.1,b.2.2.1,b.2.2.2.1,b.2.2.2.2.1,b.2.2.2.2.2.1,b.2.2.2.2.2.2.1,b.2.2.2.2.2.2.2.1,b.2.2.2.2.2.2.2.2.1,b.2.2.2.2.2.2.2.2.2.1,b.2.2.2.2.2.2.2.2.2.2.1,b.2.2.2.2.2.2.2.2.2.2.2.1,b.2.2.2.2.2.2.2.2.2.2.2.2.1,b.2.2.2.2.2.2.2.2.2.2.2.2.2.1,b.2.2.2.2.2.2.2.2.2.2.2.2.2.2.1,b.2.2.2.2.2.2.2.2.2.2.2.2.2.2.2.1,b.2.2.2.2.2.2.2.2.2.2.2.2.2.2.2.2.1,b.2.2.2.2.2.2.2.2.2.2.2.2.2.2.2.2.2.1,b.2.2.2.2.2.2.2.2.2.2.2.2.2.2.2.2.2.2.1,b.2.2.2.2.2.2.2.2.2.2.2.2.2.2.2.2.2.2.2.1,b.2.2.2.2.2.2.2.2.2.2.2.2.2.2.2.2.2.2.2.2.1,b.2.2.2.2.2.2.2.2.2.2.2.2.2.2.2.2.2.2.2.2.2.1,b.2.2.2.2.2.2.2.2.2.2.2.2.2.2.2.2.2.2.2.2.2.2.1,b.2.2.2.2.2.2.2.2.2.2.2.2.2.2.2.2.2.2.2.2.2.2.2.1,b.2.2.2.2.2.2.2.2.2.2.2.2.2.2.2.2.2.2.2.2.2.2.2.2.1,b.2.2.2.2.2.2.2.2.2.2.2.2.2.2.2.2.2.2.2.2.2.2.2.2.2.1,b.2.2.2.2.2.2.2.2.2.2.2.2.2.2.2.2.2.2.2.2.2.2.2.2.2.2.1,b.2.2.2.2.2.2.2.2.2.2.2.2.2.2.2.2.2.2.2.2.2.2.2.2.2.2.2.1,s.1,s.2.1,s.2.2,b.2.2.2.2.2.2.2.2.2.2.2.2.2.2.2.2.2.2.2.2.2.2.2.2.2.2.2.2.2.2.2.1,b.2.2.2.2.2.2.2.2.2.2.2.2.2.2.2.2.2.2.2.2.2.2.2.2.2.2.2.2.2.2.2.2.1,b.2.2.2.2.2.2.2.2.2.2.2.2.2.2.2.2.2.2.2.2.2.2.2.2.2.2.2.2.2.2.2.2.2)
def setSpeed (b:L34) (s:V.T3):L34 := (b.1,b.2.1,b.2.2.1,b.2.2.2.1,b.2.2.2.2.1,b.2.2.2.2.2.1,b.2.2.2.2.2.2.1,b.2.2.2.2.2.2.2.1,b.2.2.2.2.2.2.2.2.1,b.2.2.2.2.2.2.2.2.2.1,b.2.2.2.2.2.2.2.2.2.2.1,b.2.2.2.2.2.2.2.2.2.2.2.1,b.2.2.2.2.2.2.2.2.2.2.2.2.1,b.2.2.2.2.2.2.2.2.2.2.2.2.2.1,b.2.2.2.2.2.2.2.2.2.2.2.2.2.2.1,b.2.2.2.2.2.2.2.2.2.2.2.2.2.2.2.1,b.2.2.2.2.2.2.2.2.2.2.2.2.2.2.2.2.1,b.2.2.2.2.2.2.2.2.2.2.2.2.2.2.2.2.2.1,b.2.2.2.2.2.2.2.2.2.2.2.2.2.2.2.2.2.2.1,b.2.2.2.2.2.2.2.2.2.2.2.2.2.2.2.2.2.2.2.1,b.2.2.2.2.2.2.2.2.2.2.2.2.2.2.2.2.2.2.2.2.1,b.2.2.2.2.2.2.2.2.2.2.2.2.2.2.2.2.2.2.2.2.2.1,b.2.2.2.2.2.2.2.2.2.2.2.2.2.2.2.2.2.2.2.2.2.2.1,b.2.2.2.2.2.2.2.2.2.2.2.2.2.2.2.2.2.2.2.2.2.2.2.1,b.2.2.2.2.2.2.2.2.2.2.2.2.2.2.2.2.2.2.2.2.2.2.2.2.1,b.2.2.2.2.2.2.2.2.2.2.2.2.2.2.2.2.2.2.2.2.2.2.2.2.2.1,b.2.2.2.2.2.2.2.2.2.2.2.2.2.2.2.2.2.2.2.2.2.2.2.2.2.2.1,b.2.2.2.2.2.2.2.2.2.2.2.2.2.2.2.2.2.2.2.2.2.2.2.2.2.2.2.1,b.2.2.2.2.2.2.2.2.2.2.2.2.2.2.2.2.2.2.2.2.2.2.2.2.2.2.2.2.1,b.2.2.2.2.2.2.2.2.2.2.2.2.2.2.2.2.2.2.2.2.2.2.2.2.2.2.2.2.2.1,b.2.2.2.2.2.2.2.2.2.2.2.2.2.2.2.2.2.2.2.2.2.2.2.2.2.2.2.2.2.2.1,s.1,s.2.1,s.2.2)
noncomputable def mvK3 {α:Type} (kn:Int → Bool → List L34 → Option α) (i:Int) (Z:List L34) (a:Option V.T3) (f:Bool):Option α :=
 if bSl (Z.getD i.toNat bn0) = true then kn (IntKind.wrap .i64 (i + 1)) (V.on (V.tAdd (bSpeed (Z.getD i.toNat bn0)) (V.q3 a)) f) (Z.set i.toNat (setSpeed (Z.getD i.toNat bn0) (V.q3 (V.tAdd (bSpeed (Z.getD i.toNat bn0)) (V.q3 a)))))
 else kn (IntKind.wrap .i64 (i + 1)) (V.on (V.tAdd (bSpin (Z.getD i.toNat bn0)) (V.q3 a)) f) (Z.set i.toNat (setSpin (Z.getD i.toNat bn0) (V.q3 (V.tAdd (bSpin (Z.getD i.toNat bn0)) (V.q3 a)))))
noncomputable def mvK2 {α:Type} (kn:Int → Bool → List L34 → Option α) (i:Int) (Z:List L34) (a:Option V.T3) (f:Bool) (pat ps pv:V.T3):Option α :=
 mvK3 kn i (Z.set i.toNat (setSpeed (Z.getD i.toNat bn0) (V.q3 (V.tAdd pv (V.q3 (V.tCross ps (V.q3 (V.tSub (bAt (Z.getD i.toNat bn0)) pat)))))))) a
   (V.on (V.tAdd pv (V.q3 (V.tCross ps (V.q3 (V.tSub (bAt (Z.getD i.toNat bn0)) pat))))) (V.on (V.tCross ps (V.q3 (V.tSub (bAt (Z.getD i.toNat bn0)) pat))) (V.on (V.tSub (bAt (Z.getD i.toNat bn0)) pat) f)))
noncomputable def mvK1 {α:Type} (kn:Int → Bool → List L34 → Option α) (i:Int) (Z:List L34) (f:Bool) (pat ps pv:V.T3):Option α :=
 mvK2 kn i (Z.set i.toNat (setSpin (Z.getD i.toNat bn0) ps)) (V.tScale (bAxis (Z.getD i.toNat bn0)) (bSpd (Z.getD i.toNat bn0))) (V.on (V.tScale (bAxis (Z.getD i.toNat bn0)) (bSpd (Z.getD i.toNat bn0))) f) pat ps pv
noncomputable def mvK0 {α:Type} (n:Int) (kn:Int → Bool → List L34 → Option α) (k1:Bool → List L34 → Option α) (i:Int) (f:Bool) (Z:List L34):Option α :=
 if cLt i n = true then (if 0 ≤ i ∧ i < (Z.length:Int) then (if 0 ≤ i ∧ i < (Z.length:Int) then
   (if cLt (bPar (Z.getD i.toNat bn0)) 0 = true then mvK1 kn i Z f (0,0,0) (0,0,0) (0,0,0)
    else if 0 ≤ bPar (Z.getD i.toNat bn0) ∧ bPar (Z.getD i.toNat bn0) < (Z.length:Int) then
      mvK1 kn i Z f (bAt (Z.getD (bPar (Z.getD i.toNat bn0)).toNat bn0)) (bSpin (Z.getD (bPar (Z.getD i.toNat bn0)).toNat bn0)) (bSpeed (Z.getD (bPar (Z.getD i.toNat bn0)).toNat bn0))
    else none) else none) else none) else k1 f Z
theorem chmotion_step {α:Type} (n:Int) (kn:Int → Bool → List L34 → Option α) (k1:Bool → List L34 → Option α) (i:Int) (f:Bool) (Z:List L34):M.chmotion_l0_step n kn k1 i f Z = mvK0 n kn k1 i f Z := by kernel_rfl
theorem getD_set34 (Z:List L34) (i:Nat) (v:L34) (h:i < Z.length):(Z.set i v).getD i bn0 = v := by simp [List.getD_eq_getElem?_getD,h]
theorem mvK1_val {α:Type} (C:List L15) (P:List Pl) (acc:List MvI) (i:Nat) (hi:i < C.length) (hC:C.length ≤ 1000) (ha:acc.length = i) (q:MvI) (f:Bool) (kn:Int → Bool → List L34 → Option α) :
   mvK1 kn (i:Int) (zM C P acc) f (parP P (lnk C i).1) q.1 q.2 = kn ((i + 1:Nat):Int) (mvJ C P i q f).1 (zM C P (acc ++ [(mvJ C P i q f).2])) := by
 have hl := zM_len C P acc
 have g0 := zM_get C P acc i hi
 have g1:acc.getD i mv0 = mv0 := by rw [List.getD_eq_getElem?_getD,List.getElem?_eq_none (by omega)]; rfl
 rw [g1] at g0
 have hs := fun m => zM_set C P acc m (by omega)
 rw [ha] at hs
 unfold mvK1
 rw [toNat_natG,g0]
 unfold mvK2
 rw [toNat_natG,getD_set34 _ _ _ (by omega),List.set_set]
 unfold mvK3
 rw [toNat_natG,getD_set34 _ _ _ (by omega),List.set_set,List.set_set,w_next (by omega)]
 have e1:∀ m s,setSpin (bnM (lnk C i) (P.getD i pl0) m) s = bnM (lnk C i) (P.getD i pl0) (s,m.2) := fun m s => rfl
 have e2:∀ m s,setSpeed (bnM (lnk C i) (P.getD i pl0) m) s = bnM (lnk C i) (P.getD i pl0) (m.1,s) := fun m s => rfl
 rw [e1,e2,e1,e2,hs,hs]
 unfold mvJ
 by_cases h:lSl (lnk C i) = true
 · rw [if_pos (show bSl (bnM (lnk C i) (P.getD i pl0) _) = true from h), if_pos h]
   unfold mvE
   rw [if_pos h]
   rfl
 · rw [if_neg (show ¬ bSl (bnM (lnk C i) (P.getD i pl0) _) = true from h), if_neg h]
   unfold mvE
   rw [if_neg h]
   rfl
theorem chmotion_l0_val {α:Type} (C:List L15) (P:List Pl) (hC:C.length ≤ 1000) (ht:Tree C) (k1:Bool → List L34 → Option α):∀ (fuel i:Nat),i ≤ C.length → C.length - i < fuel →
   M.chmotion_l0 (C.length:Int) k1 fuel (i:Int) (mvL C P false i).1 (zM C P (mvL C P false i).2) = k1 (mvL C P false C.length).1 (zM C P (mvL C P false C.length).2)
 | 0,i,h1,h2 => by omega
 | f + 1,i,h1,h2 => by
   by_cases hi:i < C.length
   · have ih := chmotion_l0_val C P hC ht k1 f (i + 1) (by omega) (by omega)
     have hlen := mvL_len C P false i
     have hp := ht i _ (show C[i]? = some (lnk C i) by simp [lnk,List.getD_eq_getElem?_getD,hi])
     have g0 := zM_get C P (mvL C P false i).2 i hi
     have hz := zM_len C P (mvL C P false i).2
     have gp:bPar ((zM C P (mvL C P false i).2).getD i bn0) = (lnk C i).1 := by rw [g0]; rfl
     show M.chmotion_l0_step _ _ _ _ _ _ = _
     rw [chmotion_step]
     unfold mvK0
     rw [cLt_nat,if_pos (by simpa using hi),if_pos (by omega),if_pos (by omega),toNat_natG,gp,cLt_eq]
     by_cases h0:(lnk C i).1 < 0
     · rw [if_pos (decide_eq_true h0)]
       have hq := mvK1_val C P (mvL C P false i).2 i hi hC hlen mv0 (mvL C P false i).1 (M.chmotion_l0 (C.length:Int) k1 f)
       rw [show parP P (lnk C i).1 = (0,0,0) from if_pos h0] at hq
       refine Eq.trans hq ?_
       have e:parM (mvL C P false i).2 (lnk C i).1 = mv0 := if_pos h0
       have es:mvL C P false (i + 1) = ((mvJ C P i mv0 (mvL C P false i).1).1,(mvL C P false i).2 ++ [(mvJ C P i mv0 (mvL C P false i).1).2]) := by
         show ((mvJ C P i (parM (mvL C P false i).2 (lnk C i).1) (mvL C P false i).1).1,(mvL C P false i).2 ++ [(mvJ C P i (parM (mvL C P false i).2 (lnk C i).1) (mvL C P false i).1).2]) = _
         rw [e]
       rw [es] at ih
       exact ih
     · rw [if_neg (by rw [decide_eq_false h0]; decide), if_pos (by omega)]
       have hq0:(lnk C i).1.toNat < C.length := by omega
       have gq := zM_get C P (mvL C P false i).2 (lnk C i).1.toNat hq0
       have hq := mvK1_val C P (mvL C P false i).2 i hi hC hlen ((mvL C P false i).2.getD (lnk C i).1.toNat mv0) (mvL C P false i).1 (M.chmotion_l0 (C.length:Int) k1 f)
       rw [show parP P (lnk C i).1 = (P.getD (lnk C i).1.toNat pl0).1 from if_neg h0] at hq
       rw [gq]
       refine Eq.trans hq ?_
       have e:parM (mvL C P false i).2 (lnk C i).1 = (mvL C P false i).2.getD (lnk C i).1.toNat mv0 := if_neg h0
       have es:mvL C P false (i + 1) = ((mvJ C P i ((mvL C P false i).2.getD (lnk C i).1.toNat mv0) (mvL C P false i).1).1,(mvL C P false i).2 ++ [(mvJ C P i ((mvL C P false i).2.getD (lnk C i).1.toNat mv0) (mvL C P false i).1).2]) := by
         show ((mvJ C P i (parM (mvL C P false i).2 (lnk C i).1) (mvL C P false i).1).1,(mvL C P false i).2 ++ [(mvJ C P i (parM (mvL C P false i).2 (lnk C i).1) (mvL C P false i).1).2]) = _
         rw [e]
       rw [es] at ih
       exact ih
   · have : i = C.length := by omega
     subst this
     show M.chmotion_l0_step _ _ _ _ _ _ = _
     rw [chmotion_step]
     unfold mvK0
     rw [cLt_nat,if_neg (by simp)]
theorem chmotion_l1_val {α:Type} (C:List L15) (P:List Pl) (acc:List MvI) (bad:Bool) (hC:C.length ≤ 1000) (ha:acc.length = C.length) (k1:Bool → List V.T3 → List V.T3 → Option α):∀ (fuel i:Nat),i ≤ C.length → C.length - i < fuel →
   M.chmotion_l1 (C.length:Int) (zM C P acc) k1 fuel (i:Int) (pcL P acc bad i).1 ((acc.take i).map Prod.fst) (pcL P acc bad i).2 = k1 (pcL P acc bad C.length).1 (acc.map Prod.fst) (pcL P acc bad C.length).2
 | 0,i,h1,h2 => by omega
 | f + 1,i,h1,h2 => by
   by_cases hi:i < C.length
   · have ih := chmotion_l1_val C P acc bad hC ha k1 f (i + 1) (by omega) (by omega)
     have hl := pcL_len P acc bad i
     have g0:List.getD (zM C P acc) (Int.toNat (i:Int)) (0,0,0,0,0,0,0,0,0,0,0,0,0,0,0,0,0,false,0,0,0,0,0,0,0,0,0,0,0,0,0,0,0,0) = bnM (lnk C i) (P.getD i pl0) (acc.getD i mv0) := zM_get C P acc i hi
     have hz := zM_len C P acc
     have ht:(acc.take (i + 1)).map Prod.fst = (acc.take i).map Prod.fst ++ [(acc.getD i mv0).1] := by
       rw [List.take_add_one,List.map_append]
       simp [List.getD_eq_getElem?_getD,ha,hi]
     rw [ht] at ih
     unfold M.chmotion_l1 M.chmotion_l1_step
     simp only
     rw [cLt_nat,if_pos (by simpa using hi),g0,hz,if_pos (by omega),if_pos (by rw [List.length_map,List.length_take]; omega),if_pos (by omega),w_next (by omega)]
     exact ih
   · have : i = C.length := by omega
     subst this
     unfold M.chmotion_l1 M.chmotion_l1_step
     simp only
     rw [cLt_nat,if_neg (by simp),List.take_of_length_le (by omega)]
noncomputable def mvR (l:List L15):Bool × List MvI := mvL l (chP l) false l.length
noncomputable def pcR (l:List L15):Bool × List V.T3 := pcL (chP l) (mvR l).2 (mvR l).1 l.length
noncomputable def _root_.Go.Proofs.Ytajomehkgaamoaa.V.motB (l:List (Int × Int × Int × Int × Int × Int × Int × Int × Int × Int × Bool × Int × Int × Int × Int)) (bad:Bool):Bool := hid (if V.chC l = 0 ∧ (pcR l).1 = true then true else bad)
noncomputable def _root_.Go.Proofs.Ytajomehkgaamoaa.V.motS (l:List (Int × Int × Int × Int × Int × Int × Int × Int × Int × Int × Bool × Int × Int × Int × Int)):List (Int × Int × Int) := hid (if V.chC l = 0 ∧ (pcR l).1 = false then (mvR l).2.map Prod.fst else [])
noncomputable def _root_.Go.Proofs.Ytajomehkgaamoaa.V.motV (l:List (Int × Int × Int × Int × Int × Int × Int × Int × Int × Int × Bool × Int × Int × Int × Int)):List (Int × Int × Int) := hid (if V.chC l = 0 ∧ (pcR l).1 = false then (pcR l).2 else [])
theorem chmotion_v {α:Type} (bad:Bool) (l:List L15) (k0:Bool → List V.T3 → List V.T3 → Option α):M.chmotion bad l k0 = k0 (V.motB l bad) (V.motS l) (V.motV l) := by
 unfold M.chmotion V.motB V.motS V.motV
 try simp only
 rw [hid_eq,hid_eq,hid_eq,cEq_eq]
 by_cases h:V.chC l = 0
 · obtain ⟨e1, e2, e3, ht⟩ := lay_zip h
   have hl:(V.lay l).length = l.length := by rw [e1,List.length_zipWith]; omega
   have ez:V.lay l = zM l (chP l) [] := by rw [e1]; exact zM_nil l (chP l) e2
   rw [if_neg (by rw [h]; decide),if_pos h,hl,ez]
   refine Eq.trans (chmotion_l0_val l (chP l) (by omega) ht _ _ 0 (by omega) (by omega)) ?_
   have er:mvL l (chP l) false l.length = mvR l := rfl
   have hm := mvL_len l (chP l) false l.length
   rw [er] at hm ⊢
   simp only [zM_len]
   refine Eq.trans (chmotion_l1_val l (chP l) (mvR l).2 (mvR l).1 (by omega) hm _ _ 0 (by omega) (by omega)) ?_
   have ep:pcL (chP l) (mvR l).2 (mvR l).1 l.length = pcR l := rfl
   rw [ep]
   cases hb:(pcR l).1 with
   | true => simp [h]
   | false => simp [h]
 · rw [if_pos (by simpa using h)]
   simp [h]
noncomputable def chmotion_h {α:Type} (ds:List D) (Q:SV → Hp → Option α):Option α :=
 dB ds fun bad ds => dL (K.st (LK.i IntKind.i64) [LK.i IntKind.i64,LK.i IntKind.i64,LK.i IntKind.i64,LK.i IntKind.i64,LK.i IntKind.i64,LK.i IntKind.i64,LK.i IntKind.i64,LK.i IntKind.i64,LK.i IntKind.i64,LK.b,LK.i IntKind.i64,LK.i IntKind.i64,LK.i IntKind.i64,LK.i IntKind.i64]) ds fun l ds => dE ds (Q (.tup [.sl 1,.sl 2]) ([.cells [.bool (V.motB l bad)] 27,.seq kP (V.motS l) 33,.seq kP (V.motV l) 33]))
theorem chmotion_h_ok {α:Type}:FnOk E.P 16 (fEnt (α := α) chmotion_sp chmotion_h) :=
 fEntR_ok E (look_chloads_ok) (exec_sound E E_ok (look_chloads_ok) (chmotion_l1_lps_ok) 400) fun ds Q r h => by
   unfold chmotion_h at h
   obtain ⟨bad,ds,rfl,h1⟩ := dB_inv h
   obtain ⟨l,ds,rfl,h2⟩ := dL_inv h1
   obtain ⟨rfl,hE⟩ := dE_inv h2
   exact ⟨_,_,hE,fun vs => ⟨_,_,by kernel_rfl,(chmotion_eq bad l (vs.tail.headD undef) _).trans (chmotion_v bad l _)⟩⟩
noncomputable def look_chmotion {α:Type}:LookF α := addFn 16 (fEnt chmotion_sp chmotion_h) look_chloads
theorem look_chmotion_ok {α:Type}:LookOk E.P (look_chmotion (α := α)) := addFn_ok chmotion_h_ok (look_chloads_ok)
end
section
open Go
set_option maxRecDepth 20000
noncomputable abbrev chmomentum_S1 (y1 y2:Int) (y3:Bool) (y4 y5 y6 y7 y8 y9 y10 y11 y12:Int) (y13:Bool) (y14 y15 y16:Int) (y17:List L34):St := St.mk (some (SV.yld (nat_lit 10)) :: some (SV.ptr (nat_lit 9) (nat_lit 0)) :: nn 6 (some (SV.int .i64 y1) :: some (SV.int .i64 y2) :: nn 23 ([]))) [.cells [SV.bool y3] (nat_lit 27),.cells [SV.int .i64 y4,SV.int .i64 y5,SV.int .i64 y6] (nat_lit 33),.cells [SV.int .i64 y7,SV.int .i64 y8,SV.int .i64 y9] (nat_lit 33),.cells [SV.int .i64 y10,SV.int .i64 y11,SV.int .i64 y12] (nat_lit 33),.cells [SV.bool y13] (nat_lit 27),.cells [SV.ptr (nat_lit 4) (nat_lit 0),SV.sl (nat_lit 11)] (nat_lit 71),SObj.dead,.cells [SV.int .i64 y14,SV.int .i64 y15,SV.int .i64 y16] (nat_lit 33),.cells [SV.ptr (nat_lit 4) (nat_lit 0)] (nat_lit 25),.cells [SV.ptr (nat_lit 5) (nat_lit 0)] (nat_lit 68),SObj.lp (nat_lit 40) [false,true,true] [none,none,some (SV.ptr (nat_lit 8) (nat_lit 0)),none,none,none,none,none,none,none,none,some (SV.fn (nat_lit 89) [] [SV.ptr (nat_lit 9) (nat_lit 0)]),none,none,none,none,none,none,none,none,none,none,none,none,none,none,none,none,none,none,none,none,none,none,none,none,none,none,none,none,none,none,none,none,none,none,none,none,none,none,none,none,none,none,none,none,none,none,none,none,none,none,none,none,none,none,none,none,none,none,none,none,none,none,none,none] LSt.ready,SObj.seq (K.st (LK.i IntKind.i64) (LK.i IntKind.i64 :: LK.i IntKind.i64 :: LK.i IntKind.i64 :: LK.i IntKind.i64 :: LK.i IntKind.i64 :: LK.i IntKind.i64 :: LK.i IntKind.i64 :: LK.i IntKind.i64 :: LK.i IntKind.i64 :: LK.i IntKind.i64 :: LK.i IntKind.i64 :: LK.i IntKind.i64 :: LK.i IntKind.i64 :: LK.i IntKind.i64 :: LK.i IntKind.i64 :: LK.i IntKind.i64 :: LK.b :: LK.i IntKind.i64 :: LK.i IntKind.i64 :: LK.i IntKind.i64 :: LK.i IntKind.i64 :: LK.i IntKind.i64 :: LK.i IntKind.i64 :: LK.i IntKind.i64 :: LK.i IntKind.i64 :: LK.i IntKind.i64 :: LK.i IntKind.i64 :: LK.i IntKind.i64 :: LK.i IntKind.i64 :: LK.i IntKind.i64 :: LK.i IntKind.i64 :: LK.i IntKind.i64 :: LK.i IntKind.i64 :: List.nil)) y17 (nat_lit 73)]
noncomputable abbrev chmomentum_S2 (y1:Bool) (y2 y3 y4 y5 y6 y7 y8 y9 y10:Int) (y11:Bool) (y12 y13 y14:Int) (y15:List L34):St := St.mk (nn 33 ([])) [.cells [SV.bool y1] (nat_lit 27),.cells [SV.int .i64 y2,SV.int .i64 y3,SV.int .i64 y4] (nat_lit 33),.cells [SV.int .i64 y5,SV.int .i64 y6,SV.int .i64 y7] (nat_lit 33),.cells [SV.int .i64 y8,SV.int .i64 y9,SV.int .i64 y10] (nat_lit 33),.cells [SV.bool y11] (nat_lit 27),.cells [SV.ptr (nat_lit 4) (nat_lit 0),SV.sl (nat_lit 11)] (nat_lit 71),SObj.dead,.cells [SV.int .i64 y12,SV.int .i64 y13,SV.int .i64 y14] (nat_lit 33),.cells [SV.ptr (nat_lit 4) (nat_lit 0)] (nat_lit 25),.cells [SV.ptr (nat_lit 5) (nat_lit 0)] (nat_lit 68),SObj.lp (nat_lit 40) [false,true,true] [none,none,some (SV.ptr (nat_lit 8) (nat_lit 0)),none,none,none,none,none,none,none,none,some (SV.fn (nat_lit 89) [] [SV.ptr (nat_lit 9) (nat_lit 0)]),none,none,none,none,none,none,none,none,none,none,none,none,none,none,none,none,none,none,none,none,none,none,none,none,none,none,none,none,none,none,none,none,none,none,none,none,none,none,none,none,none,none,none,none,none,none,none,none,none,none,none,none,none,none,none,none,none,none,none,none,none,none,none,none] LSt.ready,SObj.seq (K.st (LK.i IntKind.i64) (LK.i IntKind.i64 :: LK.i IntKind.i64 :: LK.i IntKind.i64 :: LK.i IntKind.i64 :: LK.i IntKind.i64 :: LK.i IntKind.i64 :: LK.i IntKind.i64 :: LK.i IntKind.i64 :: LK.i IntKind.i64 :: LK.i IntKind.i64 :: LK.i IntKind.i64 :: LK.i IntKind.i64 :: LK.i IntKind.i64 :: LK.i IntKind.i64 :: LK.i IntKind.i64 :: LK.i IntKind.i64 :: LK.b :: LK.i IntKind.i64 :: LK.i IntKind.i64 :: LK.i IntKind.i64 :: LK.i IntKind.i64 :: LK.i IntKind.i64 :: LK.i IntKind.i64 :: LK.i IntKind.i64 :: LK.i IntKind.i64 :: LK.i IntKind.i64 :: LK.i IntKind.i64 :: LK.i IntKind.i64 :: LK.i IntKind.i64 :: LK.i IntKind.i64 :: LK.i IntKind.i64 :: LK.i IntKind.i64 :: LK.i IntKind.i64 :: List.nil)) y15 (nat_lit 73)]
noncomputable abbrev chmomentum_S3:St := St.mk (some (SV.yld (nat_lit 10)) :: some (SV.ptr (nat_lit 9) (nat_lit 0)) :: nn 6 (some (SV.int .i64 (0:Int)) :: some (SV.int .i64 (0:Int)) :: nn 23 ([]))) [.cells [SV.bool false] (nat_lit 27),.cells [SV.int .i64 (0:Int),SV.int .i64 (0:Int),SV.int .i64 (0:Int)] (nat_lit 33),.cells [SV.int .i64 (0:Int),SV.int .i64 (0:Int),SV.int .i64 (0:Int)] (nat_lit 33),.cells [SV.int .i64 (0:Int),SV.int .i64 (0:Int),SV.int .i64 (0:Int)] (nat_lit 33),.cells [SV.bool false] (nat_lit 27),.cells [SV.ptr (nat_lit 4) (nat_lit 0),SV.sl (nat_lit 11)] (nat_lit 71),SObj.dead,.cells [SV.int .i64 (0:Int),SV.int .i64 (0:Int),SV.int .i64 (0:Int)] (nat_lit 33),.cells [SV.ptr (nat_lit 4) (nat_lit 0)] (nat_lit 25),.cells [SV.ptr (nat_lit 5) (nat_lit 0)] (nat_lit 68),SObj.lp (nat_lit 40) [false,true,true] [none,none,some (SV.ptr (nat_lit 8) (nat_lit 0)),none,none,none,none,none,none,none,none,some (SV.fn (nat_lit 89) [] [SV.ptr (nat_lit 9) (nat_lit 0)]),none,none,none,none,none,none,none,none,none,none,none,none,none,none,none,none,none,none,none,none,none,none,none,none,none,none,none,none,none,none,none,none,none,none,none,none,none,none,none,none,none,none,none,none,none,none,none,none,none,none,none,none,none,none,none,none,none,none,none,none,none,none,none,none] LSt.ready,SObj.seq (K.st (LK.i IntKind.i64) (LK.i IntKind.i64 :: LK.i IntKind.i64 :: LK.i IntKind.i64 :: LK.i IntKind.i64 :: LK.i IntKind.i64 :: LK.i IntKind.i64 :: LK.i IntKind.i64 :: LK.i IntKind.i64 :: LK.i IntKind.i64 :: LK.i IntKind.i64 :: LK.i IntKind.i64 :: LK.i IntKind.i64 :: LK.i IntKind.i64 :: LK.i IntKind.i64 :: LK.i IntKind.i64 :: LK.i IntKind.i64 :: LK.b :: LK.i IntKind.i64 :: LK.i IntKind.i64 :: LK.i IntKind.i64 :: LK.i IntKind.i64 :: LK.i IntKind.i64 :: LK.i IntKind.i64 :: LK.i IntKind.i64 :: LK.i IntKind.i64 :: LK.i IntKind.i64 :: LK.i IntKind.i64 :: LK.i IntKind.i64 :: LK.i IntKind.i64 :: LK.i IntKind.i64 :: LK.i IntKind.i64 :: LK.i IntKind.i64 :: LK.i IntKind.i64 :: List.nil)) [] (nat_lit 73)]
noncomputable abbrev chmomentum_S4 (y1 y2:Int) (y3:Bool) (y4 y5 y6 y7 y8 y9 y10 y11 y12:Int) (y13:Bool) (y14:List L34) (y15 y16 y17 y18 y19 y20:Int):St := St.mk (some (SV.ptr (nat_lit 5) (nat_lit 0)) :: none :: some (SV.ptr (nat_lit 8) (nat_lit 0)) :: some (SV.ptr (nat_lit 9) (nat_lit 0)) :: nn 7 (some (SV.sl (nat_lit 7)) :: some (SV.int .i64 y1) :: some (SV.int .i64 y2) :: nn 25 ([]))) [.cells [SV.bool y3] (nat_lit 27),.cells [SV.int .i64 y4,SV.int .i64 y5,SV.int .i64 y6] (nat_lit 33),.cells [SV.int .i64 y7,SV.int .i64 y8,SV.int .i64 y9] (nat_lit 33),.cells [SV.int .i64 y10,SV.int .i64 y11,SV.int .i64 y12] (nat_lit 33),.cells [SV.bool y13] (nat_lit 27),.cells [SV.ptr (nat_lit 4) (nat_lit 0),SV.sl (nat_lit 7)] (nat_lit 71),SObj.dead,SObj.seq (K.st (LK.i IntKind.i64) (LK.i IntKind.i64 :: LK.i IntKind.i64 :: LK.i IntKind.i64 :: LK.i IntKind.i64 :: LK.i IntKind.i64 :: LK.i IntKind.i64 :: LK.i IntKind.i64 :: LK.i IntKind.i64 :: LK.i IntKind.i64 :: LK.i IntKind.i64 :: LK.i IntKind.i64 :: LK.i IntKind.i64 :: LK.i IntKind.i64 :: LK.i IntKind.i64 :: LK.i IntKind.i64 :: LK.i IntKind.i64 :: LK.b :: LK.i IntKind.i64 :: LK.i IntKind.i64 :: LK.i IntKind.i64 :: LK.i IntKind.i64 :: LK.i IntKind.i64 :: LK.i IntKind.i64 :: LK.i IntKind.i64 :: LK.i IntKind.i64 :: LK.i IntKind.i64 :: LK.i IntKind.i64 :: LK.i IntKind.i64 :: LK.i IntKind.i64 :: LK.i IntKind.i64 :: LK.i IntKind.i64 :: LK.i IntKind.i64 :: LK.i IntKind.i64 :: List.nil)) y14 (nat_lit 73),.cells [SV.int .i64 y15,SV.int .i64 y16,SV.int .i64 y17] (nat_lit 33),.cells [SV.int .i64 y18,SV.int .i64 y19,SV.int .i64 y20] (nat_lit 33)]
noncomputable abbrev chmomentum_S5 (y1:Bool) (y2 y3 y4 y5 y6 y7 y8 y9 y10:Int) (y11:Bool) (y12:List L34) (y13 y14 y15 y16 y17 y18:Int):St := St.mk (none :: none :: some (SV.ptr (nat_lit 8) (nat_lit 0)) :: some (SV.ptr (nat_lit 9) (nat_lit 0)) :: nn 35 ([])) [.cells [SV.bool y1] (nat_lit 27),.cells [SV.int .i64 y2,SV.int .i64 y3,SV.int .i64 y4] (nat_lit 33),.cells [SV.int .i64 y5,SV.int .i64 y6,SV.int .i64 y7] (nat_lit 33),.cells [SV.int .i64 y8,SV.int .i64 y9,SV.int .i64 y10] (nat_lit 33),.cells [SV.bool y11] (nat_lit 27),.cells [SV.ptr (nat_lit 4) (nat_lit 0),SV.sl (nat_lit 7)] (nat_lit 71),SObj.dead,SObj.seq (K.st (LK.i IntKind.i64) (LK.i IntKind.i64 :: LK.i IntKind.i64 :: LK.i IntKind.i64 :: LK.i IntKind.i64 :: LK.i IntKind.i64 :: LK.i IntKind.i64 :: LK.i IntKind.i64 :: LK.i IntKind.i64 :: LK.i IntKind.i64 :: LK.i IntKind.i64 :: LK.i IntKind.i64 :: LK.i IntKind.i64 :: LK.i IntKind.i64 :: LK.i IntKind.i64 :: LK.i IntKind.i64 :: LK.i IntKind.i64 :: LK.b :: LK.i IntKind.i64 :: LK.i IntKind.i64 :: LK.i IntKind.i64 :: LK.i IntKind.i64 :: LK.i IntKind.i64 :: LK.i IntKind.i64 :: LK.i IntKind.i64 :: LK.i IntKind.i64 :: LK.i IntKind.i64 :: LK.i IntKind.i64 :: LK.i IntKind.i64 :: LK.i IntKind.i64 :: LK.i IntKind.i64 :: LK.i IntKind.i64 :: LK.i IntKind.i64 :: LK.i IntKind.i64 :: List.nil)) y12 (nat_lit 73),.cells [SV.int .i64 y13,SV.int .i64 y14,SV.int .i64 y15] (nat_lit 33),.cells [SV.int .i64 y16,SV.int .i64 y17,SV.int .i64 y18] (nat_lit 33)]
noncomputable abbrev chmomentum_S6:St := St.mk (some (SV.ptr (nat_lit 5) (nat_lit 0)) :: none :: some (SV.ptr (nat_lit 8) (nat_lit 0)) :: some (SV.ptr (nat_lit 9) (nat_lit 0)) :: nn 7 (some (SV.sl (nat_lit 7)) :: some (SV.int .i64 (0:Int)) :: some (SV.int .i64 (0:Int)) :: nn 25 ([]))) [.cells [SV.bool false] (nat_lit 27),.cells [SV.int .i64 (0:Int),SV.int .i64 (0:Int),SV.int .i64 (0:Int)] (nat_lit 33),.cells [SV.int .i64 (0:Int),SV.int .i64 (0:Int),SV.int .i64 (0:Int)] (nat_lit 33),.cells [SV.int .i64 (0:Int),SV.int .i64 (0:Int),SV.int .i64 (0:Int)] (nat_lit 33),.cells [SV.bool false] (nat_lit 27),.cells [SV.ptr (nat_lit 4) (nat_lit 0),SV.sl (nat_lit 7)] (nat_lit 71),SObj.dead,SObj.seq (K.st (LK.i IntKind.i64) (LK.i IntKind.i64 :: LK.i IntKind.i64 :: LK.i IntKind.i64 :: LK.i IntKind.i64 :: LK.i IntKind.i64 :: LK.i IntKind.i64 :: LK.i IntKind.i64 :: LK.i IntKind.i64 :: LK.i IntKind.i64 :: LK.i IntKind.i64 :: LK.i IntKind.i64 :: LK.i IntKind.i64 :: LK.i IntKind.i64 :: LK.i IntKind.i64 :: LK.i IntKind.i64 :: LK.i IntKind.i64 :: LK.b :: LK.i IntKind.i64 :: LK.i IntKind.i64 :: LK.i IntKind.i64 :: LK.i IntKind.i64 :: LK.i IntKind.i64 :: LK.i IntKind.i64 :: LK.i IntKind.i64 :: LK.i IntKind.i64 :: LK.i IntKind.i64 :: LK.i IntKind.i64 :: LK.i IntKind.i64 :: LK.i IntKind.i64 :: LK.i IntKind.i64 :: LK.i IntKind.i64 :: LK.i IntKind.i64 :: LK.i IntKind.i64 :: List.nil)) [] (nat_lit 73),.cells [SV.int .i64 (0:Int),SV.int .i64 (0:Int),SV.int .i64 (0:Int)] (nat_lit 33),.cells [SV.int .i64 (0:Int),SV.int .i64 (0:Int),SV.int .i64 (0:Int)] (nat_lit 33)]
abbrev chmomentum_P1:List Bool := [false,true,false,true,true,true]
noncomputable def M.chmomentum_l0_step {α:Type} (x18:Int) (kn:Int → Bool → List L34 → Option α) (k1:Bool → List L34 → Option α) (x19:Int) (x30:Bool) (x34:List L34):Option α := let s35 := (↑(List.length x34):Int); let s36 := List.getD x34 (Int.toNat x19) ((0:Int),(0:Int),(0:Int),(0:Int),(0:Int),(0:Int),(0:Int),(0:Int),(0:Int),(0:Int),(0:Int),(0:Int),(0:Int),(0:Int),(0:Int),(0:Int),(0:Int),false,(0:Int),(0:Int),(0:Int),(0:Int),(0:Int),(0:Int),(0:Int),(0:Int),(0:Int),(0:Int),(0:Int),(0:Int),(0:Int),(0:Int),(0:Int),(0:Int)); let s37 := Prod.snd s36; let s38 := Prod.snd s37; let s39 := Prod.snd s38; let s40 := Prod.snd s39; let s41 := Prod.snd s40; let s42 := Prod.snd s41; let s43 := Prod.snd s42; let s44 := Prod.snd s43; let s45 := Prod.fst s43; let s46 := Prod.snd s44; let s47 := Prod.snd s46; let s48 := Prod.snd s47; let s49 := Prod.snd s48; let s50 := Prod.snd s49; let s51 := Prod.snd s50; let s52 := Prod.snd s51; let s53 := Prod.snd s52; let s54 := Prod.snd s53; let s55 := Prod.snd s54; let s56 := Prod.snd s55; let s57 := Prod.fst s56; let s58 := Prod.snd s56; let s59 := Prod.snd s58; let s60 := Prod.snd s59; let s61 := Prod.snd s60; let s62 := Prod.fst s60; let s63 := Prod.snd s61; let s64 := Prod.fst s61; let s65 := Prod.fst s63; let s66 := Prod.snd s63; let s67 := Prod.snd s66; let s68 := Prod.snd s67; let s69 := Prod.snd (Prod.snd (Prod.snd (Prod.snd s68))); let s70 := List.getD x34 (Int.toNat s45) ((0:Int),(0:Int),(0:Int),(0:Int),(0:Int),(0:Int),(0:Int),(0:Int),(0:Int),(0:Int),(0:Int),(0:Int),(0:Int),(0:Int),(0:Int),(0:Int),(0:Int),false,(0:Int),(0:Int),(0:Int),(0:Int),(0:Int),(0:Int),(0:Int),(0:Int),(0:Int),(0:Int),(0:Int),(0:Int),(0:Int),(0:Int),(0:Int),(0:Int)); let s71 := Prod.snd s70; let s72 := Prod.snd s71; let s73 := Prod.snd (Prod.snd (Prod.snd (Prod.snd (Prod.snd (Prod.snd (Prod.snd (Prod.snd (Prod.snd (Prod.snd (Prod.snd (Prod.snd (Prod.snd (Prod.snd (Prod.snd (Prod.snd (Prod.snd (Prod.snd (Prod.snd (Prod.snd (Prod.snd (Prod.snd (Prod.snd (Prod.snd (Prod.snd (Prod.snd s72))))))))))))))))))))))))); let s74 := Prod.snd s73; let s75 := Prod.fst s73; let s76 := Prod.fst s74; let s77 := Prod.snd s74; let s78 := Prod.fst s77; let s79 := V.tScale (s62,s64,s65) s57; let s80 := V.on s79 x30; let s81 := List.set x34 (Int.toNat x19) (Prod.fst s36,Prod.fst s37,Prod.fst s38,Prod.fst s39,Prod.fst s40,Prod.fst s41,Prod.fst s42,s45,Prod.fst s44,Prod.fst s46,Prod.fst s47,Prod.fst s48,Prod.fst s49,Prod.fst s50,Prod.fst s51,Prod.fst s52,Prod.fst s53,Prod.fst s54,Prod.fst s55,s57,Prod.fst s58,Prod.fst s59,s62,s64,s65,Prod.fst s66,Prod.fst s67,Prod.fst s68,(0:Int),(0:Int),(0:Int),s69); let s82 := List.getD s81 (Int.toNat x19) ((0:Int),(0:Int),(0:Int),(0:Int),(0:Int),(0:Int),(0:Int),(0:Int),(0:Int),(0:Int),(0:Int),(0:Int),(0:Int),(0:Int),(0:Int),(0:Int),(0:Int),false,(0:Int),(0:Int),(0:Int),(0:Int),(0:Int),(0:Int),(0:Int),(0:Int),(0:Int),(0:Int),(0:Int),(0:Int),(0:Int),(0:Int),(0:Int),(0:Int)); let s83 := Prod.snd s82; let s84 := Prod.fst s82; let s85 := Prod.snd s83; let s86 := Prod.fst s83; let s87 := Prod.fst s85; let s88 := Prod.snd s85; let s89 := Prod.snd s88; let s90 := Prod.snd s89; let s91 := Prod.snd s90; let s92 := Prod.snd s91; let s93 := Prod.snd s92; let s94 := Prod.snd s93; let s95 := Prod.snd s94; let s96 := Prod.snd s95; let s97 := Prod.snd s96; let s98 := Prod.snd s97; let s99 := Prod.snd s98; let s100 := Prod.snd s99; let s101 := Prod.snd s100; let s102 := Prod.snd s101; let s103 := Prod.snd s102; let s104 := Prod.snd s103; let s105 := Prod.snd s104; let s106 := Prod.snd s105; let s107 := Prod.snd s106; let s108 := Prod.snd s107; let s109 := Prod.snd s108; let s110 := Prod.snd s109; let s111 := Prod.snd s110; let s112 := Prod.snd s111; let s113 := Prod.snd s112; let s114 := Prod.snd s113; let s115 := List.set x34 (Int.toNat x19) (Prod.fst s36,Prod.fst s37,Prod.fst s38,Prod.fst s39,Prod.fst s40,Prod.fst s41,Prod.fst s42,s45,Prod.fst s44,Prod.fst s46,Prod.fst s47,Prod.fst s48,Prod.fst s49,Prod.fst s50,Prod.fst s51,Prod.fst s52,Prod.fst s53,Prod.fst s54,Prod.fst s55,s57,Prod.fst s58,Prod.fst s59,s62,s64,s65,Prod.fst s66,Prod.fst s67,Prod.fst s68,s75,s76,s78,s69); let s116 := List.getD s115 (Int.toNat x19) ((0:Int),(0:Int),(0:Int),(0:Int),(0:Int),(0:Int),(0:Int),(0:Int),(0:Int),(0:Int),(0:Int),(0:Int),(0:Int),(0:Int),(0:Int),(0:Int),(0:Int),false,(0:Int),(0:Int),(0:Int),(0:Int),(0:Int),(0:Int),(0:Int),(0:Int),(0:Int),(0:Int),(0:Int),(0:Int),(0:Int),(0:Int),(0:Int),(0:Int)); let s117 := Prod.fst s116; let s118 := Prod.snd s116; let s119 := Prod.fst s118; let s120 := Prod.snd s118; let s121 := Prod.snd s120; let s122 := Prod.fst s120; let s123 := Prod.snd s121; let s124 := Prod.snd s123; let s125 := Prod.snd s124; let s126 := Prod.snd s125; let s127 := Prod.snd s126; let s128 := Prod.snd s127; let s129 := Prod.snd s128; let s130 := Prod.snd s129; let s131 := Prod.snd s130; let s132 := Prod.snd s131; let s133 := Prod.snd s132; let s134 := Prod.snd s133; let s135 := Prod.snd s134; let s136 := Prod.snd s135; let s137 := Prod.snd s136; let s138 := Prod.snd s137; let s139 := Prod.snd s138; let s140 := Prod.snd s139; let s141 := Prod.snd s140; let s142 := Prod.snd s141; let s143 := Prod.snd s142; let s144 := Prod.snd s143; let s145 := Prod.snd s144; let s146 := Prod.snd s145; let s147 := Prod.snd s146; let s148 := Prod.snd s147; let s149 := V.tSub (s84,s86,s87) ((0:Int),(0:Int),(0:Int)); let s150 := V.tCross ((0:Int),(0:Int),(0:Int)) (V.q3 s149); let s151 := V.tAdd ((0:Int),(0:Int),(0:Int)) (V.q3 s150); let s152 := V.tSub (s117,s119,s122) (Prod.fst s70,Prod.fst s71,Prod.fst s72); let s153 := V.tCross (s75,s76,s78) (V.q3 s152); let s154 := V.tAdd (Prod.snd s77) (V.q3 s153); let s155 := V.on s151 (V.on s150 (V.on s149 s80)); let s156 := V.on s154 (V.on s153 (V.on s152 s80)); let s157 := List.set s81 (Int.toNat x19) (s84,s86,s87,Prod.fst s88,Prod.fst s89,Prod.fst s90,Prod.fst s91,Prod.fst s92,Prod.fst s93,Prod.fst s94,Prod.fst s95,Prod.fst s96,Prod.fst s97,Prod.fst s98,Prod.fst s99,Prod.fst s100,Prod.fst s101,Prod.fst s102,Prod.fst s103,Prod.fst s104,Prod.fst s105,Prod.fst s106,Prod.fst s107,Prod.fst s108,Prod.fst s109,Prod.fst s110,Prod.fst s111,Prod.fst s112,Prod.fst s113,Prod.fst s114,Prod.fst (Prod.snd s114),V.q3 s151); let s158 := List.getD s157 (Int.toNat x19) ((0:Int),(0:Int),(0:Int),(0:Int),(0:Int),(0:Int),(0:Int),(0:Int),(0:Int),(0:Int),(0:Int),(0:Int),(0:Int),(0:Int),(0:Int),(0:Int),(0:Int),false,(0:Int),(0:Int),(0:Int),(0:Int),(0:Int),(0:Int),(0:Int),(0:Int),(0:Int),(0:Int),(0:Int),(0:Int),(0:Int),(0:Int),(0:Int),(0:Int)); let s159 := Prod.snd s158; let s160 := Prod.snd s159; let s161 := Prod.snd s160; let s162 := Prod.snd s161; let s163 := Prod.snd s162; let s164 := Prod.snd s163; let s165 := Prod.snd s164; let s166 := Prod.snd s165; let s167 := Prod.snd s166; let s168 := Prod.snd s167; let s169 := Prod.snd s168; let s170 := Prod.snd s169; let s171 := Prod.snd s170; let s172 := Prod.snd s171; let s173 := Prod.snd s172; let s174 := Prod.snd s173; let s175 := Prod.snd s174; let s176 := Prod.snd s175; let s177 := Prod.fst s175; let s178 := Prod.snd s176; let s179 := Prod.snd s178; let s180 := Prod.snd s179; let s181 := Prod.snd s180; let s182 := Prod.snd s181; let s183 := Prod.snd s182; let s184 := Prod.snd s183; let s185 := Prod.snd s184; let s186 := Prod.snd s185; let s187 := Prod.snd s186; let s188 := Prod.snd s187; let s189 := Prod.fst s187; let s190 := Prod.fst s188; let s191 := Prod.snd s188; let s192 := Prod.fst s191; let s193 := Prod.snd s191; let s194 := V.tAdd s193 (V.q3 s79); let s195 := List.set s115 (Int.toNat x19) (s117,s119,s122,Prod.fst s121,Prod.fst s123,Prod.fst s124,Prod.fst s125,Prod.fst s126,Prod.fst s127,Prod.fst s128,Prod.fst s129,Prod.fst s130,Prod.fst s131,Prod.fst s132,Prod.fst s133,Prod.fst s134,Prod.fst s135,Prod.fst s136,Prod.fst s137,Prod.fst s138,Prod.fst s139,Prod.fst s140,Prod.fst s141,Prod.fst s142,Prod.fst s143,Prod.fst s144,Prod.fst s145,Prod.fst s146,Prod.fst s147,Prod.fst s148,Prod.fst (Prod.snd s148),V.q3 s154); let s196 := List.getD s195 (Int.toNat x19) ((0:Int),(0:Int),(0:Int),(0:Int),(0:Int),(0:Int),(0:Int),(0:Int),(0:Int),(0:Int),(0:Int),(0:Int),(0:Int),(0:Int),(0:Int),(0:Int),(0:Int),false,(0:Int),(0:Int),(0:Int),(0:Int),(0:Int),(0:Int),(0:Int),(0:Int),(0:Int),(0:Int),(0:Int),(0:Int),(0:Int),(0:Int),(0:Int),(0:Int)); let s197 := Prod.snd s196; let s198 := Prod.snd s197; let s199 := Prod.snd s198; let s200 := Prod.snd s199; let s201 := Prod.snd s200; let s202 := Prod.snd s201; let s203 := Prod.snd s202; let s204 := Prod.snd s203; let s205 := Prod.snd s204; let s206 := Prod.snd s205; let s207 := Prod.snd s206; let s208 := Prod.snd s207; let s209 := Prod.snd s208; let s210 := Prod.snd s209; let s211 := Prod.snd s210; let s212 := Prod.snd s211; let s213 := Prod.snd s212; let s214 := Prod.fst s213; let s215 := Prod.snd s213; let s216 := Prod.snd s215; let s217 := Prod.snd s216; let s218 := Prod.snd s217; let s219 := Prod.snd s218; let s220 := Prod.snd s219; let s221 := Prod.snd s220; let s222 := Prod.snd s221; let s223 := Prod.snd s222; let s224 := Prod.snd s223; let s225 := Prod.snd s224; let s226 := Prod.fst s225; let s227 := Prod.snd s225; let s228 := Prod.snd s227; let s229 := Prod.fst s227; let s230 := Prod.snd s228; let s231 := Prod.fst s228; let s232 := V.tAdd s230 (V.q3 s79); let s233 := V.tAdd (s189,s190,s192) (V.q3 s79); let s234 := V.tAdd (s226,s229,s231) (V.q3 s79); if cLt x19 x18 = true then if (0:Int) ≤ x19 ∧ x19 < s35 then if (0:Int) ≤ x19 ∧ x19 < s35 then if cLt s45 (0:Int) = true then if s177 = true then kn (IntKind.wrap .i64 (x19 + (1:Int))) (V.on s194 s155) (List.set s157 (Int.toNat x19) (Prod.fst s158,Prod.fst s159,Prod.fst s160,Prod.fst s161,Prod.fst s162,Prod.fst s163,Prod.fst s164,Prod.fst s165,Prod.fst s166,Prod.fst s167,Prod.fst s168,Prod.fst s169,Prod.fst s170,Prod.fst s171,Prod.fst s172,Prod.fst s173,Prod.fst s174,s177,Prod.fst s176,Prod.fst s178,Prod.fst s179,Prod.fst s180,Prod.fst s181,Prod.fst s182,Prod.fst s183,Prod.fst s184,Prod.fst s185,Prod.fst s186,s189,s190,s192,V.q3 s194)) else kn (IntKind.wrap .i64 (x19 + (1:Int))) (V.on s233 s155) (List.set s157 (Int.toNat x19) (Prod.fst s158,Prod.fst s159,Prod.fst s160,Prod.fst s161,Prod.fst s162,Prod.fst s163,Prod.fst s164,Prod.fst s165,Prod.fst s166,Prod.fst s167,Prod.fst s168,Prod.fst s169,Prod.fst s170,Prod.fst s171,Prod.fst s172,Prod.fst s173,Prod.fst s174,s177,Prod.fst s176,Prod.fst s178,Prod.fst s179,Prod.fst s180,Prod.fst s181,Prod.fst s182,Prod.fst s183,Prod.fst s184,Prod.fst s185,Prod.fst s186,V.x3 s233,V.y3 s233,V.z3 s233,s193)) else if (0:Int) ≤ s45 ∧ s45 < s35 then if s214 = true then kn (IntKind.wrap .i64 (x19 + (1:Int))) (V.on s232 s156) (List.set s195 (Int.toNat x19) (Prod.fst s196,Prod.fst s197,Prod.fst s198,Prod.fst s199,Prod.fst s200,Prod.fst s201,Prod.fst s202,Prod.fst s203,Prod.fst s204,Prod.fst s205,Prod.fst s206,Prod.fst s207,Prod.fst s208,Prod.fst s209,Prod.fst s210,Prod.fst s211,Prod.fst s212,s214,Prod.fst s215,Prod.fst s216,Prod.fst s217,Prod.fst s218,Prod.fst s219,Prod.fst s220,Prod.fst s221,Prod.fst s222,Prod.fst s223,Prod.fst s224,s226,s229,s231,V.q3 s232)) else kn (IntKind.wrap .i64 (x19 + (1:Int))) (V.on s234 s156) (List.set s195 (Int.toNat x19) (Prod.fst s196,Prod.fst s197,Prod.fst s198,Prod.fst s199,Prod.fst s200,Prod.fst s201,Prod.fst s202,Prod.fst s203,Prod.fst s204,Prod.fst s205,Prod.fst s206,Prod.fst s207,Prod.fst s208,Prod.fst s209,Prod.fst s210,Prod.fst s211,Prod.fst s212,s214,Prod.fst s215,Prod.fst s216,Prod.fst s217,Prod.fst s218,Prod.fst s219,Prod.fst s220,Prod.fst s221,Prod.fst s222,Prod.fst s223,Prod.fst s224,V.x3 s234,V.y3 s234,V.z3 s234,s230)) else none else none else none else k1 x30 x34
noncomputable def M.chmomentum_l0 {α:Type} (x18:Int) (k1:Bool → List L34 → Option α):Nat → Int → Bool → List L34 → Option α
 | 0,_,_,_ => none
 | n + 1,x19,x30,x34 => M.chmomentum_l0_step x18 (M.chmomentum_l0 x18 k1 n) k1 x19 x30 x34
theorem chmomentum_l0_step_eq {α:Type} (x18 x19:Int) (x20:Bool) (x21 x22 x23 x24 x25 x26 x27 x28 x29:Int) (x30:Bool) (x31 x32 x33:Int) (x34:List L34) (Q:Ex → St → Option α):(loopStep E (exec E look_chmotion noLps 400) 89 [false,true] 11 (codeAt E.P 89 [false,true])) (chmomentum_S1 x18 x19 x20 x21 x22 x23 x24 x25 x26 x27 x28 x29 x30 x31 x32 x33 x34) Q = M.chmomentum_l0_step x18 (fun (x237:Int) (x238:Bool) (x239:List L34) => Q .normal (chmomentum_S1 x18 x237 x20 x21 x22 x23 x24 x25 x26 x27 x28 x29 x238 x31 x32 x33 x239)) (fun (x235:Bool) (x236:List L34) => Q (.exit 0) (chmomentum_S2 x20 x21 x22 x23 x24 x25 x26 x27 x28 x29 x235 x31 x32 x33 x236)) x19 x30 x34 := by kernel_rfl
theorem chmomentum_l0_iter {α:Type} (x18:Int) (x20:Bool) (x21 x22 x23 x24 x25 x26 x27 x28 x29 x31 x32 x33:Int) (Q:Ex → St → Option α):∀ (n:Nat) (x19:Int) (x30:Bool) (x34:List L34),iter (loopStep E (exec E look_chmotion noLps 400) 89 [false,true] 11 (codeAt E.P 89 [false,true])) n (chmomentum_S1 x18 x19 x20 x21 x22 x23 x24 x25 x26 x27 x28 x29 x30 x31 x32 x33 x34) Q = M.chmomentum_l0 x18 (fun (x235:Bool) (x236:List L34) => Q (.exit 0) (chmomentum_S2 x20 x21 x22 x23 x24 x25 x26 x27 x28 x29 x235 x31 x32 x33 x236)) n x19 x30 x34
 | 0,_,_,_ => rfl
 | n + 1,x19,x30,x34 => (chmomentum_l0_step_eq x18 x19 x20 x21 x22 x23 x24 x25 x26 x27 x28 x29 x30 x31 x32 x33 x34 (iterK (loopStep E (exec E look_chmotion noLps 400) 89 [false,true] 11 (codeAt E.P 89 [false,true])) n Q)).trans (congrArg (fun kn => M.chmomentum_l0_step x18 kn (fun (x235:Bool) (x236:List L34) => Q (.exit 0) (chmomentum_S2 x20 x21 x22 x23 x24 x25 x26 x27 x28 x29 x235 x31 x32 x33 x236)) x19 x30 x34) (funext fun x19 => funext fun x30 => funext fun x34 => chmomentum_l0_iter x18 x20 x21 x22 x23 x24 x25 x26 x27 x28 x29 x31 x32 x33 Q n x19 x30 x34))
noncomputable def chmomentum_l0_go {α:Type} (ds:List D) (Q:Ex → St → Option α):Option α :=
 dI ds fun x18 ds => dI ds fun x19 ds => dB ds fun x20 ds => dI ds fun x21 ds => dI ds fun x22 ds => dI ds fun x23 ds => dI ds fun x24 ds => dI ds fun x25 ds => dI ds fun x26 ds => dI ds fun x27 ds => dI ds fun x28 ds => dI ds fun x29 ds => dB ds fun x30 ds => dI ds fun x31 ds => dI ds fun x32 ds => dI ds fun x33 ds => dL (K.st (LK.i IntKind.i64)
 (LK.i IntKind.i64 :: LK.i IntKind.i64 :: LK.i IntKind.i64 :: LK.i IntKind.i64 :: LK.i IntKind.i64 :: LK.i IntKind.i64 :: LK.i IntKind.i64 :: LK.i IntKind.i64 :: LK.i IntKind.i64 :: LK.i IntKind.i64 :: LK.i IntKind.i64 :: LK.i IntKind.i64 :: LK.i IntKind.i64 :: LK.i IntKind.i64 :: LK.i IntKind.i64 :: LK.i IntKind.i64 :: LK.b :: LK.i IntKind.i64 :: LK.i IntKind.i64 :: LK.i IntKind.i64 :: LK.i IntKind.i64 :: LK.i IntKind.i64 :: LK.i IntKind.i64 :: LK.i IntKind.i64 :: LK.i IntKind.i64 :: LK.i IntKind.i64 :: LK.i IntKind.i64 :: LK.i IntKind.i64 :: LK.i IntKind.i64 :: LK.i IntKind.i64 :: LK.i IntKind.i64 :: LK.i IntKind.i64 :: LK.i IntKind.i64 :: List.nil)) ds fun x34 ds => dE ds (M.chmomentum_l0 x18 (fun (x235:Bool) (x236:List L34) => Q (.exit 0) (chmomentum_S2 x20 x21 x22 x23 x24 x25 x26 x27 x28 x29 x235 x31 x32 x33 x236)) (100 + x34.length) x19 x30 x34)
theorem chmomentum_l0_ok {α:Type}:LoopOk E.P 89 [false,true] 11 (lEnt (α := α) (chmomentum_S3) chmomentum_l0_go) :=
 lEnt_ok E (exec_sound E E_ok (look_chmotion_ok) (noLps_ok _) 400) fun ds Q r h S hS => by
   unfold chmomentum_l0_go at h
   obtain ⟨x18,ds,rfl,h1⟩ := dI_inv h
   obtain ⟨x19,ds,rfl,h2⟩ := dI_inv h1
   obtain ⟨x20,ds,rfl,h3⟩ := dB_inv h2
   obtain ⟨x21,ds,rfl,h4⟩ := dI_inv h3
   obtain ⟨x22,ds,rfl,h5⟩ := dI_inv h4
   obtain ⟨x23,ds,rfl,h6⟩ := dI_inv h5
   obtain ⟨x24,ds,rfl,h7⟩ := dI_inv h6
   obtain ⟨x25,ds,rfl,h8⟩ := dI_inv h7
   obtain ⟨x26,ds,rfl,h9⟩ := dI_inv h8
   obtain ⟨x27,ds,rfl,h10⟩ := dI_inv h9
   obtain ⟨x28,ds,rfl,h11⟩ := dI_inv h10
   obtain ⟨x29,ds,rfl,h12⟩ := dI_inv h11
   obtain ⟨x30,ds,rfl,h13⟩ := dB_inv h12
   obtain ⟨x31,ds,rfl,h14⟩ := dI_inv h13
   obtain ⟨x32,ds,rfl,h15⟩ := dI_inv h14
   obtain ⟨x33,ds,rfl,h16⟩ := dI_inv h15
   obtain ⟨x34,ds,rfl,h17⟩ := dL_inv h16
   obtain ⟨rfl,hE⟩ := dE_inv h17
   have e:fillS (chmomentum_S3) [.i x18,.i x19,.b x20,.i x21,.i x22,.i x23,.i x24,.i x25,.i x26,.i x27,.i x28,.i x29,.b x30,.i x31,.i x32,.i x33,.l (K.st (LK.i IntKind.i64)
 (LK.i IntKind.i64 :: LK.i IntKind.i64 :: LK.i IntKind.i64 :: LK.i IntKind.i64 :: LK.i IntKind.i64 :: LK.i IntKind.i64 :: LK.i IntKind.i64 :: LK.i IntKind.i64 :: LK.i IntKind.i64 :: LK.i IntKind.i64 :: LK.i IntKind.i64 :: LK.i IntKind.i64 :: LK.i IntKind.i64 :: LK.i IntKind.i64 :: LK.i IntKind.i64 :: LK.i IntKind.i64 :: LK.b :: LK.i IntKind.i64 :: LK.i IntKind.i64 :: LK.i IntKind.i64 :: LK.i IntKind.i64 :: LK.i IntKind.i64 :: LK.i IntKind.i64 :: LK.i IntKind.i64 :: LK.i IntKind.i64 :: LK.i IntKind.i64 :: LK.i IntKind.i64 :: LK.i IntKind.i64 :: LK.i IntKind.i64 :: LK.i IntKind.i64 :: LK.i IntKind.i64 :: LK.i IntKind.i64 :: LK.i IntKind.i64 :: List.nil)) x34] = some (chmomentum_S1 x18 x19 x20 x21 x22 x23 x24 x25 x26 x27 x28 x29 x30 x31 x32 x33 x34) := by kernel_rfl
   rw [e] at hS
   cases hS
   exact ⟨_,(chmomentum_l0_iter x18 x20 x21 x22 x23 x24 x25 x26 x27 x28 x29 x31 x32 x33 Q _ x19 x30 x34).trans hE⟩
noncomputable def chmomentum_l0_lps {α:Type}:LookL α := addLp 89 [false,true] 11 (lEnt (chmomentum_S3) chmomentum_l0_go) noLps
theorem chmomentum_l0_lps_ok {α:Type}:LoopsOk E.P (chmomentum_l0_lps (α := α)) := addLp_ok chmomentum_l0_ok (noLps_ok _)
noncomputable def M.chmomentum_l1_step {α:Type} (x263:Int) (x276:List L34) (kn:Int → Bool → Int → Int → Int → Option α) (k1:Bool → Int → Int → Int → Option α) (x264:Int) (x275:Bool) (x280 x281 x282:Int):Option α := let s283 := List.getD x276 (Int.toNat x264) ((0:Int),(0:Int),(0:Int),(0:Int),(0:Int),(0:Int),(0:Int),(0:Int),(0:Int),(0:Int),(0:Int),(0:Int),(0:Int),(0:Int),(0:Int),(0:Int),(0:Int),false,(0:Int),(0:Int),(0:Int),(0:Int),(0:Int),(0:Int),(0:Int),(0:Int),(0:Int),(0:Int),(0:Int),(0:Int),(0:Int),(0:Int),(0:Int),(0:Int)); let s284 := Prod.snd s283; let s285 := Prod.snd s284; let s286 := Prod.snd (Prod.snd (Prod.snd (Prod.snd (Prod.snd (Prod.snd (Prod.snd (Prod.snd (Prod.snd (Prod.snd (Prod.snd (Prod.snd (Prod.snd (Prod.snd (Prod.snd (Prod.snd (Prod.snd (Prod.snd (Prod.snd s285)))))))))))))))))); let s287 := Prod.snd (Prod.snd (Prod.snd (Prod.snd s286))); let s288 := Prod.snd s287; let s289 := Prod.snd s288; let s290 := Prod.snd s289; let s291 := Prod.snd s290; let s292 := Prod.snd s291; let s293 := V.tSub (Prod.fst s287,Prod.fst s288,Prod.fst s289) (Prod.fst s283,Prod.fst s284,Prod.fst s285); let s294 := V.tCross (Prod.fst s290,Prod.fst s291,Prod.fst s292) (V.q3 s293); let s295 := V.tAdd (Prod.snd s292) (V.q3 s294); let s296 := V.tScale (V.q3 s295) (Prod.fst s286); let s297 := V.tAdd (x280,x281,x282) (V.q3 s296); if cLt x264 x263 = true then if (0:Int) ≤ x264 ∧ x264 < (↑(List.length x276):Int) then kn (IntKind.wrap .i64 (x264 + (1:Int))) (V.on s297 (V.on s296 (V.on s295 (V.on s294 (V.on s293 x275))))) (V.x3 s297) (V.y3 s297) (V.z3 s297) else none else k1 x275 x280 x281 x282
noncomputable def M.chmomentum_l1 {α:Type} (x263:Int) (x276:List L34) (k1:Bool → Int → Int → Int → Option α):Nat → Int → Bool → Int → Int → Int → Option α
 | 0,_,_,_,_,_ => none
 | n + 1,x264,x275,x280,x281,x282 => M.chmomentum_l1_step x263 x276 (M.chmomentum_l1 x263 x276 k1 n) k1 x264 x275 x280 x281 x282
theorem chmomentum_l1_step_eq {α:Type} (x263 x264:Int) (x265:Bool) (x266 x267 x268 x269 x270 x271 x272 x273 x274:Int) (x275:Bool) (x276:List L34) (x277 x278 x279 x280 x281 x282:Int) (Q:Ex → St → Option α):(loopStep E (exec E look_chmotion chmomentum_l0_lps 400) 43 chmomentum_P1 7 (codeAt E.P 43 chmomentum_P1)) (chmomentum_S4 x263 x264 x265 x266 x267 x268 x269 x270 x271 x272 x273 x274 x275 x276 x277 x278 x279 x280 x281 x282) Q = M.chmomentum_l1_step x263 x276 (fun (x302:Int) (x303:Bool) (x304 x305 x306:Int) => Q .normal (chmomentum_S4 x263 x302 x265 x266 x267 x268 x269 x270 x271 x272 x273 x274 x303 x276 x277 x278 x279 x304 x305 x306)) (fun (x298:Bool) (x299 x300 x301:Int) => Q (.exit 0) (chmomentum_S5 x265 x266 x267 x268 x269 x270 x271 x272 x273 x274 x298 x276 x277 x278 x279 x299 x300 x301)) x264 x275 x280 x281 x282 := by kernel_rfl
theorem chmomentum_l1_iter {α:Type} (x263:Int) (x265:Bool) (x266 x267 x268 x269 x270 x271 x272 x273 x274:Int) (x276:List L34) (x277 x278 x279:Int) (Q:Ex → St → Option α):∀ (n:Nat) (x264:Int) (x275:Bool) (x280 x281 x282:Int),iter (loopStep E (exec E look_chmotion chmomentum_l0_lps 400) 43 chmomentum_P1 7 (codeAt E.P 43 chmomentum_P1)) n (chmomentum_S4 x263 x264 x265 x266 x267 x268 x269 x270 x271 x272 x273 x274 x275 x276 x277 x278 x279 x280 x281 x282) Q = M.chmomentum_l1 x263 x276 (fun (x298:Bool) (x299 x300 x301:Int) => Q (.exit 0) (chmomentum_S5 x265 x266 x267 x268 x269 x270 x271 x272 x273 x274 x298 x276 x277 x278 x279 x299 x300 x301)) n x264 x275 x280 x281 x282
 | 0,_,_,_,_,_ => rfl
 | n + 1,x264,x275,x280,x281,x282 => (chmomentum_l1_step_eq x263 x264 x265 x266 x267 x268 x269 x270 x271 x272 x273 x274 x275 x276 x277 x278 x279 x280 x281 x282 (iterK (loopStep E (exec E look_chmotion chmomentum_l0_lps 400) 43 chmomentum_P1 7 (codeAt E.P 43 chmomentum_P1)) n Q)).trans (congrArg (fun kn => M.chmomentum_l1_step x263 x276 kn (fun (x298:Bool) (x299 x300 x301:Int) => Q (.exit 0) (chmomentum_S5 x265 x266 x267 x268 x269 x270 x271 x272 x273 x274 x298 x276 x277 x278 x279 x299 x300 x301)) x264 x275 x280 x281 x282) (funext fun x264 => funext fun x275 => funext fun x280 => funext fun x281 => funext fun x282 => chmomentum_l1_iter x263 x265 x266 x267 x268 x269 x270 x271 x272 x273 x274 x276 x277 x278 x279 Q n x264 x275 x280 x281 x282))
noncomputable def chmomentum_l1_go {α:Type} (ds:List D) (Q:Ex → St → Option α):Option α :=
 dI ds fun x263 ds => dI ds fun x264 ds => dB ds fun x265 ds => dI ds fun x266 ds => dI ds fun x267 ds => dI ds fun x268 ds => dI ds fun x269 ds => dI ds fun x270 ds => dI ds fun x271 ds => dI ds fun x272 ds => dI ds fun x273 ds => dI ds fun x274 ds => dB ds fun x275 ds => dL (K.st (LK.i IntKind.i64)
 (LK.i IntKind.i64 :: LK.i IntKind.i64 :: LK.i IntKind.i64 :: LK.i IntKind.i64 :: LK.i IntKind.i64 :: LK.i IntKind.i64 :: LK.i IntKind.i64 :: LK.i IntKind.i64 :: LK.i IntKind.i64 :: LK.i IntKind.i64 :: LK.i IntKind.i64 :: LK.i IntKind.i64 :: LK.i IntKind.i64 :: LK.i IntKind.i64 :: LK.i IntKind.i64 :: LK.i IntKind.i64 :: LK.b :: LK.i IntKind.i64 :: LK.i IntKind.i64 :: LK.i IntKind.i64 :: LK.i IntKind.i64 :: LK.i IntKind.i64 :: LK.i IntKind.i64 :: LK.i IntKind.i64 :: LK.i IntKind.i64 :: LK.i IntKind.i64 :: LK.i IntKind.i64 :: LK.i IntKind.i64 :: LK.i IntKind.i64 :: LK.i IntKind.i64 :: LK.i IntKind.i64 :: LK.i IntKind.i64 :: LK.i IntKind.i64 :: List.nil)) ds fun x276 ds => dI ds fun x277 ds => dI ds fun x278 ds => dI ds fun x279 ds => dI ds fun x280 ds => dI ds fun x281 ds => dI ds fun x282 ds => dE ds (M.chmomentum_l1 x263 x276 (fun (x298:Bool) (x299 x300 x301:Int) => Q (.exit 0) (chmomentum_S5 x265 x266 x267 x268 x269 x270 x271 x272 x273 x274 x298 x276 x277 x278 x279 x299 x300 x301)) (100 + x276.length) x264 x275 x280 x281 x282)
theorem chmomentum_l1_ok {α:Type}:LoopOk E.P 43 chmomentum_P1 7 (lEnt (α := α) (chmomentum_S6) chmomentum_l1_go) :=
 lEnt_ok E (exec_sound E E_ok (look_chmotion_ok) (chmomentum_l0_lps_ok) 400) fun ds Q r h S hS => by
   unfold chmomentum_l1_go at h
   obtain ⟨x263,ds,rfl,h1⟩ := dI_inv h
   obtain ⟨x264,ds,rfl,h2⟩ := dI_inv h1
   obtain ⟨x265,ds,rfl,h3⟩ := dB_inv h2
   obtain ⟨x266,ds,rfl,h4⟩ := dI_inv h3
   obtain ⟨x267,ds,rfl,h5⟩ := dI_inv h4
   obtain ⟨x268,ds,rfl,h6⟩ := dI_inv h5
   obtain ⟨x269,ds,rfl,h7⟩ := dI_inv h6
   obtain ⟨x270,ds,rfl,h8⟩ := dI_inv h7
   obtain ⟨x271,ds,rfl,h9⟩ := dI_inv h8
   obtain ⟨x272,ds,rfl,h10⟩ := dI_inv h9
   obtain ⟨x273,ds,rfl,h11⟩ := dI_inv h10
   obtain ⟨x274,ds,rfl,h12⟩ := dI_inv h11
   obtain ⟨x275,ds,rfl,h13⟩ := dB_inv h12
   obtain ⟨x276,ds,rfl,h14⟩ := dL_inv h13
   obtain ⟨x277,ds,rfl,h15⟩ := dI_inv h14
   obtain ⟨x278,ds,rfl,h16⟩ := dI_inv h15
   obtain ⟨x279,ds,rfl,h17⟩ := dI_inv h16
   obtain ⟨x280,ds,rfl,h18⟩ := dI_inv h17
   obtain ⟨x281,ds,rfl,h19⟩ := dI_inv h18
   obtain ⟨x282,ds,rfl,h20⟩ := dI_inv h19
   obtain ⟨rfl,hE⟩ := dE_inv h20
   have e:fillS (chmomentum_S6) [.i x263,.i x264,.b x265,.i x266,.i x267,.i x268,.i x269,.i x270,.i x271,.i x272,.i x273,.i x274,.b x275,.l (K.st (LK.i IntKind.i64)
 (LK.i IntKind.i64 :: LK.i IntKind.i64 :: LK.i IntKind.i64 :: LK.i IntKind.i64 :: LK.i IntKind.i64 :: LK.i IntKind.i64 :: LK.i IntKind.i64 :: LK.i IntKind.i64 :: LK.i IntKind.i64 :: LK.i IntKind.i64 :: LK.i IntKind.i64 :: LK.i IntKind.i64 :: LK.i IntKind.i64 :: LK.i IntKind.i64 :: LK.i IntKind.i64 :: LK.i IntKind.i64 :: LK.b :: LK.i IntKind.i64 :: LK.i IntKind.i64 :: LK.i IntKind.i64 :: LK.i IntKind.i64 :: LK.i IntKind.i64 :: LK.i IntKind.i64 :: LK.i IntKind.i64 :: LK.i IntKind.i64 :: LK.i IntKind.i64 :: LK.i IntKind.i64 :: LK.i IntKind.i64 :: LK.i IntKind.i64 :: LK.i IntKind.i64 :: LK.i IntKind.i64 :: LK.i IntKind.i64 :: LK.i IntKind.i64 :: List.nil)) x276,.i x277,.i x278,.i x279,.i x280,.i x281,.i x282] = some (chmomentum_S4 x263 x264 x265 x266 x267 x268 x269 x270 x271 x272 x273 x274 x275 x276 x277 x278 x279 x280 x281 x282) := by kernel_rfl
   rw [e] at hS
   cases hS
   exact ⟨_,(chmomentum_l1_iter x263 x265 x266 x267 x268 x269 x270 x271 x272 x273 x274 x276 x277 x278 x279 Q _ x264 x275 x280 x281 x282).trans hE⟩
noncomputable def chmomentum_l1_lps {α:Type}:LookL α := addLp 43 chmomentum_P1 7 (lEnt (chmomentum_S6) chmomentum_l1_go) chmomentum_l0_lps
theorem chmomentum_l1_lps_ok {α:Type}:LoopsOk E.P (chmomentum_l1_lps (α := α)) := addLp_ok chmomentum_l1_ok (chmomentum_l0_lps_ok)
noncomputable def M.chmomentum {α:Type} (bad:Bool) (l:List L15) (k0:Int → Int → Int → Bool → Option α):Option α := if (!cEq (V.chC l) (0:Int)) = true then k0 (0:Int) (0:Int) (0:Int) bad else if V.chC l = (0:Int) then M.chmomentum_l0 (↑(List.length (V.lay l)):Int) (fun (x308:Bool) (x309:List L34) ↦ M.chmomentum_l1 (↑(List.length x309):Int) x309 (fun (x310:Bool) (x311 x312 x313:Int) ↦ if x310 = true then k0 (0:Int) (0:Int) (0:Int) true else k0 x311 x312 x313 bad) ((100:Nat) + List.length x309) (0:Int) x308 (0:Int) (0:Int) (0:Int)) ((100:Nat) + List.length (V.lay l)) (0:Int) false (V.lay l) else none
theorem chmomentum_eq {α:Type} (bad:Bool) (l:List L15) (v307:Value) (Q:SV → Hp → Option α):callI E look_chmotion (exec E look_chmotion chmomentum_l1_lps 400) 17 ([SV.ptr (nat_lit 0) (nat_lit 0),SV.ros v307 (K.st (LK.i IntKind.i64) [LK.i IntKind.i64,LK.i IntKind.i64,LK.i IntKind.i64,LK.i IntKind.i64,LK.i IntKind.i64,LK.i IntKind.i64,LK.i IntKind.i64,LK.i IntKind.i64,LK.i IntKind.i64,LK.b,LK.i IntKind.i64,LK.i IntKind.i64,LK.i IntKind.i64,LK.i IntKind.i64]) l]) ([.cells [SV.bool bad] (nat_lit 27)]) Q = M.chmomentum bad l (fun (x314 x315 x316:Int) (x317:Bool) => Q (SV.agg [SV.int .i64 x314,SV.int .i64 x315,SV.int .i64 x316]) ([.cells [SV.bool x317] (nat_lit 27)])) := by kernel_rfl
def chmomentum_sp:List AS := [.ptr 27 [.bool false],.ro (.st (.i .i64) [.i .i64,.i .i64,.i .i64,.i .i64,.i .i64,.i .i64,.i .i64,.i .i64,.i .i64,.b,.i .i64,.i .i64,.i .i64,.i .i64])]
theorem chmomentum_step {α:Type} (n:Int) (kn:Int → Bool → List L34 → Option α) (k1:Bool → List L34 → Option α) (i:Int) (f:Bool) (Z:List L34):M.chmomentum_l0_step n kn k1 i f Z = mvK0 n kn k1 i f Z := by kernel_rfl
theorem chmomentum_l0_eq {α:Type} (n:Int) (k1:Bool → List L34 → Option α):∀ (fuel:Nat) (i:Int) (f:Bool) (Z:List L34),M.chmomentum_l0 n k1 fuel i f Z = M.chmotion_l0 n k1 fuel i f Z
 | 0,i,f,Z => rfl
 | m + 1,i,f,Z => by
   show M.chmomentum_l0_step n (M.chmomentum_l0 n k1 m) k1 i f Z = M.chmotion_l0_step n (M.chmotion_l0 n k1 m) k1 i f Z
   rw [chmomentum_step,chmotion_step,show M.chmomentum_l0 n k1 m = M.chmotion_l0 n k1 m from funext fun i => funext fun f => funext fun Z => chmomentum_l0_eq n k1 m i f Z]
theorem chmomentum_l1_val {α:Type} (C:List L15) (P:List Pl) (acc:List MvI) (bad:Bool) (hC:C.length ≤ 1000) (ha:acc.length = C.length) (k1:Bool → Int → Int → Int → Option α):∀ (fuel i:Nat),i ≤ C.length → C.length - i < fuel →
   M.chmomentum_l1 (C.length:Int) (zM C P acc) k1 fuel (i:Int) (smL C P acc bad i).1 (smL C P acc bad i).2.1 (smL C P acc bad i).2.2.1 (smL C P acc bad i).2.2.2 = k1 (smL C P acc bad C.length).1 (smL C P acc bad C.length).2.1 (smL C P acc bad C.length).2.2.1 (smL C P acc bad C.length).2.2.2
 | 0,i,h1,h2 => by omega
 | f + 1,i,h1,h2 => by
   by_cases hi:i < C.length
   · have ih := chmomentum_l1_val C P acc bad hC ha k1 f (i + 1) (by omega) (by omega)
     have g0:List.getD (zM C P acc) (Int.toNat (i:Int)) (0,0,0,0,0,0,0,0,0,0,0,0,0,0,0,0,0,false,0,0,0,0,0,0,0,0,0,0,0,0,0,0,0,0) = bnM (lnk C i) (P.getD i pl0) (acc.getD i mv0) := zM_get C P acc i hi
     have hz := zM_len C P acc
     unfold M.chmomentum_l1 M.chmomentum_l1_step
     try simp only
     rw [cLt_nat,if_pos (by simpa using hi),g0,hz,if_pos (by omega),w_next (by omega)]
     exact ih
   · have : i = C.length := by omega
     subst this
     unfold M.chmomentum_l1 M.chmomentum_l1_step
     try simp only
     rw [cLt_nat,if_neg (by simp)]
noncomputable def smR (l:List L15):Bool × V.T3 := smL l (chP l) (mvR l).2 (mvR l).1 l.length
noncomputable def _root_.Go.Proofs.Ytajomehkgaamoaa.V.momB (l:List (Int × Int × Int × Int × Int × Int × Int × Int × Int × Int × Bool × Int × Int × Int × Int)) (bad:Bool):Bool := hid (if V.chC l = 0 ∧ (smR l).1 = true then true else bad)
noncomputable def _root_.Go.Proofs.Ytajomehkgaamoaa.V.mom (l:List (Int × Int × Int × Int × Int × Int × Int × Int × Int × Int × Bool × Int × Int × Int × Int)):Int × Int × Int := hid (if V.chC l = 0 ∧ (smR l).1 = false then (smR l).2 else (0,0,0))
theorem chmomentum_v {α:Type} (bad:Bool) (l:List L15) (k0:Int → Int → Int → Bool → Option α):M.chmomentum bad l k0 = k0 (V.mom l).1 (V.mom l).2.1 (V.mom l).2.2 (V.momB l bad) := by
 unfold M.chmomentum V.momB V.mom
 try simp only
 rw [hid_eq,hid_eq,cEq_eq]
 by_cases h:V.chC l = 0
 · obtain ⟨e1, e2, e3, ht⟩ := lay_zip h
   have hl:(V.lay l).length = l.length := by rw [e1,List.length_zipWith]; omega
   have ez:V.lay l = zM l (chP l) [] := by rw [e1]; exact zM_nil l (chP l) e2
   rw [if_neg (by rw [h]; decide),if_pos h,hl,ez,chmomentum_l0_eq]
   refine Eq.trans (chmotion_l0_val l (chP l) (by omega) ht _ _ 0 (by omega) (by omega)) ?_
   have er:mvL l (chP l) false l.length = mvR l := rfl
   have hm := mvL_len l (chP l) false l.length
   rw [er] at hm ⊢
   simp only [zM_len]
   refine Eq.trans (chmomentum_l1_val l (chP l) (mvR l).2 (mvR l).1 (by omega) hm _ _ 0 (by omega) (by omega)) ?_
   have ep:smL l (chP l) (mvR l).2 (mvR l).1 l.length = smR l := rfl
   rw [ep]
   cases hb:(smR l).1 with
   | true => simp [h]
   | false => simp [h]
 · rw [if_pos (by simpa using h)]
   simp [h]
noncomputable def chmomentum_h {α:Type} (ds:List D) (Q:SV → Hp → Option α):Option α :=
 dB ds fun bad ds => dL (K.st (LK.i IntKind.i64) [LK.i IntKind.i64,LK.i IntKind.i64,LK.i IntKind.i64,LK.i IntKind.i64,LK.i IntKind.i64,LK.i IntKind.i64,LK.i IntKind.i64,LK.i IntKind.i64,LK.i IntKind.i64,LK.b,LK.i IntKind.i64,LK.i IntKind.i64,LK.i IntKind.i64,LK.i IntKind.i64]) ds fun l ds => dE ds (Q (.agg [.int .i64 (V.mom l).1,.int .i64 (V.mom l).2.1,.int .i64 (V.mom l).2.2]) ([.cells [.bool (V.momB l bad)] 27]))
theorem chmomentum_h_ok {α:Type}:FnOk E.P 17 (fEnt (α := α) chmomentum_sp chmomentum_h) :=
 fEntR_ok E (look_chmotion_ok) (exec_sound E E_ok (look_chmotion_ok) (chmomentum_l1_lps_ok) 400) fun ds Q r h => by
   unfold chmomentum_h at h
   obtain ⟨bad,ds,rfl,h1⟩ := dB_inv h
   obtain ⟨l,ds,rfl,h2⟩ := dL_inv h1
   obtain ⟨rfl,hE⟩ := dE_inv h2
   exact ⟨_,_,hE,fun vs => ⟨_,_,by kernel_rfl,(chmomentum_eq bad l (vs.tail.headD undef) _).trans (chmomentum_v bad l _)⟩⟩
noncomputable def look_chmomentum {α:Type}:LookF α := addFn 17 (fEnt chmomentum_sp chmomentum_h) look_chmotion
theorem look_chmomentum_ok {α:Type}:LookOk E.P (look_chmomentum (α := α)) := addFn_ok chmomentum_h_ok (look_chmotion_ok)
end
section
open Go
set_option maxRecDepth 20000
noncomputable abbrev chvecs_S1 (y1:Value) (y2:L3) (y3:Value) (y4:L3) (y5:Int):St := St.mk (some (SV.ros y1 kP y2) :: some (SV.ros y3 kP y4) :: nn 3 (some (SV.int .i64 y5) :: nn 20 ([]))) []
noncomputable def M.chvecs_l0_step {α:Type} (x8 x10:L3) (kn:Int → Option α) (k0:Option α) (k2:Option α) (x11:Int):Option α := if cLt x11 (↑(List.length x8):Int) = true then if (0:Int) ≤ x11 ∧ x11 < (↑(List.length x8):Int) then if (0:Int) ≤ x11 ∧ x11 < (↑(List.length x10):Int) then if (!(cEq (Prod.fst (List.getD x8 (Int.toNat x11) ((0:Int),(0:Int),(0:Int)))) (Prod.fst (List.getD x10 (Int.toNat x11) ((0:Int),(0:Int),(0:Int)))) && (cEq (Prod.fst (Prod.snd (List.getD x8 (Int.toNat x11) ((0:Int),(0:Int),(0:Int))))) (Prod.fst (Prod.snd (List.getD x10 (Int.toNat x11) ((0:Int),(0:Int),(0:Int))))) && (cEq (Prod.snd (Prod.snd (List.getD x8 (Int.toNat x11) ((0:Int),(0:Int),(0:Int))))) (Prod.snd (Prod.snd (List.getD x10 (Int.toNat x11) ((0:Int),(0:Int),(0:Int))))) && true)))) = true then k0 else kn (IntKind.wrap .i64 (x11 + (1:Int))) else none else none else k2
noncomputable def M.chvecs_l0 {α:Type} (x8 x10:L3) (k0:Option α) (k2:Option α):Nat → Int → Option α
 | 0,_ => none
 | n + 1,x11 => M.chvecs_l0_step x8 x10 (M.chvecs_l0 x8 x10 k0 k2 n) k0 k2 x11
theorem chvecs_l0_step_eq {α:Type} (x7:Value) (x8:L3) (x9:Value) (x10:L3) (x11:Int) (Q:Ex → St → Option α):(loopStep E (exec E look_chmomentum noLps 400) 21 [false,true,false,true,true] 0 (codeAt E.P 21 [false,true,false,true,true])) (chvecs_S1 x7 x8 x9 x10 x11) Q = M.chvecs_l0_step x8 x10 (fun (x12:Int) => Q .normal (chvecs_S1 x7 x8 x9 x10 x12)) (Q .ret (St.mk (nn 4 (some (SV.bool false) :: nn 21 ([]))) [])) (Q (.exit 0) (St.mk (nn 26 ([])) [])) x11 := by kernel_rfl
theorem chvecs_l0_iter {α:Type} (x7:Value) (x8:L3) (x9:Value) (x10:L3) (Q:Ex → St → Option α):∀ (n:Nat) (x11:Int),iter (loopStep E (exec E look_chmomentum noLps 400) 21 [false,true,false,true,true] 0 (codeAt E.P 21 [false,true,false,true,true])) n (chvecs_S1 x7 x8 x9 x10 x11) Q = M.chvecs_l0 x8 x10 (Q .ret (St.mk (nn 4 (some (SV.bool false) :: nn 21 ([]))) [])) (Q (.exit 0) (St.mk (nn 26 ([])) [])) n x11
 | 0,_ => rfl
 | n + 1,x11 => (chvecs_l0_step_eq x7 x8 x9 x10 x11 (iterK (loopStep E (exec E look_chmomentum noLps 400) 21 [false,true,false,true,true] 0 (codeAt E.P 21 [false,true,false,true,true])) n Q)).trans (congrArg (fun kn => M.chvecs_l0_step x8 x10 kn (Q .ret (St.mk (nn 4 (some (SV.bool false) :: nn 21 ([]))) [])) (Q (.exit 0) (St.mk (nn 26 ([])) [])) x11) (funext fun x11 => chvecs_l0_iter x7 x8 x9 x10 Q n x11))
noncomputable def chvecs_l0_go {α:Type} (ds:List D) (Q:Ex → St → Option α):Option α :=
 dV ds fun x7 ds => dL kP ds fun x8 ds => dV ds fun x9 ds => dL kP ds fun x10 ds => dI ds fun x11 ds => dE ds (M.chvecs_l0 x8 x10 (Q .ret (St.mk (nn 4 (some (SV.bool false) :: nn 21 ([]))) [])) (Q (.exit 0) (St.mk (nn 26 ([])) [])) (100 + x8.length + x10.length) x11)
theorem chvecs_l0_ok {α:Type}:LoopOk E.P 21 [false,true,false,true,true] 0 (lEnt (α := α) (St.mk (some (SV.ros undef kP []) :: some (SV.ros undef kP []) :: nn 3 (some (SV.int .i64 (0:Int)) :: nn 20 ([]))) []) chvecs_l0_go) :=
 lEnt_ok E (exec_sound E E_ok (look_chmomentum_ok) (noLps_ok _) 400) fun ds Q r h S hS => by
   unfold chvecs_l0_go at h
   obtain ⟨x7,ds,rfl,h1⟩ := dV_inv h
   obtain ⟨x8,ds,rfl,h2⟩ := dL_inv h1
   obtain ⟨x9,ds,rfl,h3⟩ := dV_inv h2
   obtain ⟨x10,ds,rfl,h4⟩ := dL_inv h3
   obtain ⟨x11,ds,rfl,h5⟩ := dI_inv h4
   obtain ⟨rfl,hE⟩ := dE_inv h5
   have e:fillS (St.mk (some (SV.ros undef kP []) :: some (SV.ros undef kP []) :: nn 3 (some (SV.int .i64 (0:Int)) :: nn 20 ([]))) []) [.v x7,.l kP x8,.v x9,.l kP x10,.i x11] = some (chvecs_S1 x7 x8 x9 x10 x11) := by kernel_rfl
   rw [e] at hS
   cases hS
   exact ⟨_,(chvecs_l0_iter x7 x8 x9 x10 Q _ x11).trans hE⟩
noncomputable def chvecs_l0_lps {α:Type}:LookL α := addLp 21 [false,true,false,true,true] 0 (lEnt (St.mk (some (SV.ros undef kP []) :: some (SV.ros undef kP []) :: nn 3 (some (SV.int .i64 (0:Int)) :: nn 20 ([]))) []) chvecs_l0_go) noLps
theorem chvecs_l0_lps_ok {α:Type}:LoopsOk E.P (chvecs_l0_lps (α := α)) := addLp_ok chvecs_l0_ok (noLps_ok _)
noncomputable def M.chvecs {α:Type} (a:L3) (b:L3) (k0:Bool → Option α):Option α := if (!cEq (↑(List.length a):Int) (↑(List.length b):Int)) = true then k0 false else M.chvecs_l0 a b (k0 false) (k0 true) ((100:Nat) + List.length a + List.length b) (0:Int)
theorem chvecs_eq {α:Type} (a:L3) (b:L3) (v13:Value) (v14:Value) (Q:SV → Hp → Option α):callI E look_chmomentum (exec E look_chmomentum chvecs_l0_lps 400) 21 ([SV.ros v13 kP a,SV.ros v14 kP b]) ([]) Q = M.chvecs a b (fun (x15:Bool) => Q (SV.bool x15) ([])) := by kernel_rfl
def chvecs_sp:List AS := [.ro kP,.ro kP]
noncomputable def _root_.Go.Proofs.Ytajomehkgaamoaa.V.vsEq (a b:List (Int × Int × Int)):Bool := exB (a = b)
theorem eq3 (p q:V.T3):(cEq p.1 q.1 && (cEq p.2.1 q.2.1 && (cEq p.2.2 q.2.2 && true))) = exB (p = q) := by
 obtain ⟨a,b,c⟩ := p
 obtain ⟨a',b',c'⟩ := q
 simp only [cEq_eq]
 rw [Bool.eq_iff_iff]
 simp only [Bool.and_eq_true,beq_iff_eq,exB_iff,Prod.mk.injEq,and_true]
theorem drop3 (l:List V.T3) (i:Nat) (h:i < l.length):l.drop i = l.getD i v30 :: l.drop (i + 1) := by
 rw [List.drop_eq_getElem_cons h]; simp [List.getD_eq_getElem?_getD,h]
theorem chvecs_l0_val {α:Type} (a b:List V.T3) (hl:a.length = b.length) (ha:a.length < 1099511627776) (k0 k2:Option α):∀ (fuel i:Nat),i ≤ a.length → a.length - i < fuel → M.chvecs_l0 a b k0 k2 fuel (i:Int) = if exB (a.drop i = b.drop i) = true then k2 else k0
 | 0,i,h1,h2 => by omega
 | f + 1,i,h1,h2 => by
   unfold M.chvecs_l0 M.chvecs_l0_step
   try simp only
   rw [cLt_nat]
   by_cases hi:i < a.length
   · rw [if_pos (by simpa using hi),if_pos (by omega),if_pos (by omega),drop3 a i hi,drop3 b i (by omega),w_next (by omega),chvecs_l0_val a b hl ha k0 k2 f (i + 1) (by omega) (by omega)]
     have e := eq3 (a.getD i v30) (b.getD i v30)
     have e':∀ x:List V.T3,List.getD x (Int.toNat (i:Int)) (0,0,0) = x.getD i v30 := fun x => rfl
     rw [e',e',e]
     by_cases h:a.getD i v30 = b.getD i v30
     · rw [if_neg (by rw [exB_true h]; decide), h]
       by_cases h2:a.drop (i + 1) = b.drop (i + 1)
       · rw [if_pos (exB_true h2),if_pos (exB_true (by rw [h2]))]
       · rw [if_neg (by rw [exB_false h2]; decide),if_neg (by rw [exB_false (fun hc => h2 (List.cons.inj hc).2)]; decide)]
     · rw [if_pos (by rw [exB_false h]; rfl),if_neg (by rw [exB_false (fun hc => h (List.cons.inj hc).1)]; decide)]
   · have : i = a.length := by omega
     subst this
     rw [if_neg (by simp),List.drop_length,List.drop_of_length_le (by omega),if_pos (exB_true rfl)]
theorem chvecs_v {α:Type} (a b:List V.T3) (hg:V.lenC a.length = true) (k0:Bool → Option α):M.chvecs a b k0 = k0 (V.vsEq a b) := by
 have ha := lenC_lt hg
 unfold M.chvecs V.vsEq
 rw [cEq_eq]
 by_cases hl:a.length = b.length
 · rw [if_neg (by simp [hl])]
   refine Eq.trans (chvecs_l0_val a b hl ha _ _ _ 0 (by omega) (by omega)) ?_
   rw [List.drop_zero,List.drop_zero]
   by_cases h:a = b
   · rw [if_pos (exB_true h),exB_true h]
   · rw [if_neg (by rw [exB_false h]; decide),exB_false h]
 · rw [if_pos (by simp; omega),exB_false (fun h => hl (by rw [h]))]
noncomputable def chvecs_h {α:Type} (ds:List D) (Q:SV → Hp → Option α):Option α :=
 dL kP ds fun a ds => dL kP ds fun b ds => dE ds (if V.lenC a.length = true then Q (.bool (V.vsEq a b)) ([]) else none)
theorem chvecs_h_ok {α:Type}:FnOk E.P 21 (fEnt (α := α) chvecs_sp chvecs_h) :=
 fEntR_ok E (look_chmomentum_ok) (exec_sound E E_ok (look_chmomentum_ok) (chvecs_l0_lps_ok) 400) fun ds Q r h => by
   unfold chvecs_h at h
   obtain ⟨a,ds,rfl,h1⟩ := dL_inv h
   obtain ⟨b,ds,rfl,h2⟩ := dL_inv h1
   obtain ⟨rfl,hE⟩ := dE_inv h2
   split at hE
   · rename_i hg
     exact ⟨_,_,hE,fun vs => ⟨_,_,by kernel_rfl,(chvecs_eq a b (vs.headD undef) (vs.tail.headD undef) _).trans (chvecs_v a b hg _)⟩⟩
   · cases hE
noncomputable def look_chvecs {α:Type}:LookF α := addFn 21 (fEnt chvecs_sp chvecs_h) look_chmomentum
theorem look_chvecs_ok {α:Type}:LookOk E.P (look_chvecs (α := α)) := addFn_ok chvecs_h_ok (look_chmomentum_ok)
noncomputable abbrev chnums_S1 (y1:Value) (y2:List Int) (y3:Value) (y4:List Int) (y5:Int):St := St.mk (some (SV.ros y1 (K.int IntKind.i64) y2) :: some (SV.ros y3 (K.int IntKind.i64) y4) :: nn 3 (some (SV.int .i64 y5) :: nn 20 ([]))) []
noncomputable abbrev chnums_S2:St := St.mk (some (SV.ros undef (K.int IntKind.i64) []) :: some (SV.ros undef (K.int IntKind.i64) []) :: nn 3 (some (SV.int .i64 (0:Int)) :: nn 20 ([]))) []
noncomputable def M.chnums_l0_step {α:Type} (x24:List Int) (x26:List Int) (kn:Int → Option α) (k0:Option α) (k2:Option α) (x27:Int):Option α := if cLt x27 (↑(List.length x24):Int) = true then if (0:Int) ≤ x27 ∧ x27 < (↑(List.length x24):Int) then if (0:Int) ≤ x27 ∧ x27 < (↑(List.length x26):Int) then if (!cEq (List.getD x24 (Int.toNat x27) (0:Int)) (List.getD x26 (Int.toNat x27) (0:Int))) = true then k0 else kn (IntKind.wrap .i64 (x27 + (1:Int))) else none else none else k2
noncomputable def M.chnums_l0 {α:Type} (x24:List Int) (x26:List Int) (k0:Option α) (k2:Option α):Nat → Int → Option α
 | 0,_ => none
 | n + 1,x27 => M.chnums_l0_step x24 x26 (M.chnums_l0 x24 x26 k0 k2 n) k0 k2 x27
theorem chnums_l0_step_eq {α:Type} (x23:Value) (x24:List Int) (x25:Value) (x26:List Int) (x27:Int) (Q:Ex → St → Option α):(loopStep E (exec E look_chvecs noLps 400) 22 [false,true,false,true,true] 0 (codeAt E.P 22 [false,true,false,true,true])) (chnums_S1 x23 x24 x25 x26 x27) Q = M.chnums_l0_step x24 x26 (fun (x28:Int) => Q .normal (chnums_S1 x23 x24 x25 x26 x28)) (Q .ret (St.mk (nn 4 (some (SV.bool false) :: nn 21 ([]))) [])) (Q (.exit 0) (St.mk (nn 26 ([])) [])) x27 := by kernel_rfl
theorem chnums_l0_iter {α:Type} (x23:Value) (x24:List Int) (x25:Value) (x26:List Int) (Q:Ex → St → Option α):∀ (n:Nat) (x27:Int),iter (loopStep E (exec E look_chvecs noLps 400) 22 [false,true,false,true,true] 0 (codeAt E.P 22 [false,true,false,true,true])) n (chnums_S1 x23 x24 x25 x26 x27) Q = M.chnums_l0 x24 x26 (Q .ret (St.mk (nn 4 (some (SV.bool false) :: nn 21 ([]))) [])) (Q (.exit 0) (St.mk (nn 26 ([])) [])) n x27
 | 0,_ => rfl
 | n + 1,x27 => (chnums_l0_step_eq x23 x24 x25 x26 x27 (iterK (loopStep E (exec E look_chvecs noLps 400) 22 [false,true,false,true,true] 0 (codeAt E.P 22 [false,true,false,true,true])) n Q)).trans (congrArg (fun kn => M.chnums_l0_step x24 x26 kn (Q .ret (St.mk (nn 4 (some (SV.bool false) :: nn 21 ([]))) [])) (Q (.exit 0) (St.mk (nn 26 ([])) [])) x27) (funext fun x27 => chnums_l0_iter x23 x24 x25 x26 Q n x27))
noncomputable def chnums_l0_go {α:Type} (ds:List D) (Q:Ex → St → Option α):Option α :=
 dV ds fun x23 ds => dL (K.int IntKind.i64) ds fun x24 ds => dV ds fun x25 ds => dL (K.int IntKind.i64) ds fun x26 ds => dI ds fun x27 ds => dE ds (M.chnums_l0 x24 x26 (Q .ret (St.mk (nn 4 (some (SV.bool false) :: nn 21 ([]))) [])) (Q (.exit 0) (St.mk (nn 26 ([])) [])) (100 + x24.length + x26.length) x27)
theorem chnums_l0_ok {α:Type}:LoopOk E.P 22 [false,true,false,true,true] 0 (lEnt (α := α) (chnums_S2) chnums_l0_go) :=
 lEnt_ok E (exec_sound E E_ok (look_chvecs_ok) (noLps_ok _) 400) fun ds Q r h S hS => by
   unfold chnums_l0_go at h
   obtain ⟨x23,ds,rfl,h1⟩ := dV_inv h
   obtain ⟨x24,ds,rfl,h2⟩ := dL_inv h1
   obtain ⟨x25,ds,rfl,h3⟩ := dV_inv h2
   obtain ⟨x26,ds,rfl,h4⟩ := dL_inv h3
   obtain ⟨x27,ds,rfl,h5⟩ := dI_inv h4
   obtain ⟨rfl,hE⟩ := dE_inv h5
   have e:fillS (chnums_S2) [.v x23,.l (K.int IntKind.i64) x24,.v x25,.l (K.int IntKind.i64) x26,.i x27] = some (chnums_S1 x23 x24 x25 x26 x27) := by kernel_rfl
   rw [e] at hS
   cases hS
   exact ⟨_,(chnums_l0_iter x23 x24 x25 x26 Q _ x27).trans hE⟩
noncomputable def chnums_l0_lps {α:Type}:LookL α := addLp 22 [false,true,false,true,true] 0 (lEnt (chnums_S2) chnums_l0_go) noLps
theorem chnums_l0_lps_ok {α:Type}:LoopsOk E.P (chnums_l0_lps (α := α)) := addLp_ok chnums_l0_ok (noLps_ok _)
noncomputable def M.chnums {α:Type} (a:List Int) (b:List Int) (k0:Bool → Option α):Option α := if (!cEq (↑(List.length a):Int) (↑(List.length b):Int)) = true then k0 false else M.chnums_l0 a b (k0 false) (k0 true) ((100:Nat) + List.length a + List.length b) (0:Int)
theorem chnums_eq {α:Type} (a:List Int) (b:List Int) (v29:Value) (v30:Value) (Q:SV → Hp → Option α):callI E look_chvecs (exec E look_chvecs chnums_l0_lps 400) 22 ([SV.ros v29 (K.int IntKind.i64) a,SV.ros v30 (K.int IntKind.i64) b]) ([]) Q = M.chnums a b (fun (x31:Bool) => Q (SV.bool x31) ([])) := by kernel_rfl
def chnums_sp:List AS := [.ro (.int .i64),.ro (.int .i64)]
noncomputable def _root_.Go.Proofs.Ytajomehkgaamoaa.V.nsEq (a b:List Int):Bool := exB (a = b)
theorem drop1 (l:List Int) (i:Nat) (h:i < l.length):l.drop i = l.getD i 0 :: l.drop (i + 1) := by
 rw [List.drop_eq_getElem_cons h]; simp [List.getD_eq_getElem?_getD,h]
theorem chnums_l0_val {α:Type} (a b:List Int) (hl:a.length = b.length) (ha:a.length < 1099511627776) (k0 k2:Option α):∀ (fuel i:Nat),i ≤ a.length → a.length - i < fuel → M.chnums_l0 a b k0 k2 fuel (i:Int) = if exB (a.drop i = b.drop i) = true then k2 else k0
 | 0,i,h1,h2 => by omega
 | f + 1,i,h1,h2 => by
   unfold M.chnums_l0 M.chnums_l0_step
   try simp only
   rw [cLt_nat]
   by_cases hi:i < a.length
   · rw [if_pos (by simpa using hi),if_pos (by omega),if_pos (by omega),drop1 a i hi,drop1 b i (by omega),w_next (by omega),chnums_l0_val a b hl ha k0 k2 f (i + 1) (by omega) (by omega)]
     have e':∀ x:List Int,List.getD x (Int.toNat (i:Int)) 0 = x.getD i 0 := fun x => rfl
     rw [e',e',cEq_eq]
     by_cases h:a.getD i 0 = b.getD i 0
     · rw [if_neg (by rw [h]; simp), h]
       by_cases h2:a.drop (i + 1) = b.drop (i + 1)
       · rw [if_pos (exB_true h2),if_pos (exB_true (by rw [h2]))]
       · rw [if_neg (by rw [exB_false h2]; decide),if_neg (by rw [exB_false (fun hc => h2 (List.cons.inj hc).2)]; decide)]
     · rw [if_pos (by simp only [Bool.not_eq_true',beq_eq_false_iff_ne]; exact h),if_neg (by rw [exB_false (fun hc => h (List.cons.inj hc).1)]; decide)]
   · have : i = a.length := by omega
     subst this
     rw [if_neg (by simp),List.drop_length,List.drop_of_length_le (by omega),if_pos (exB_true rfl)]
theorem chnums_v {α:Type} (a b:List Int) (hg:V.lenC a.length = true) (k0:Bool → Option α):M.chnums a b k0 = k0 (V.nsEq a b) := by
 have ha := lenC_lt hg
 unfold M.chnums V.nsEq
 rw [cEq_eq]
 by_cases hl:a.length = b.length
 · rw [if_neg (by simp [hl])]
   refine Eq.trans (chnums_l0_val a b hl ha _ _ _ 0 (by omega) (by omega)) ?_
   rw [List.drop_zero,List.drop_zero]
   by_cases h:a = b
   · rw [if_pos (exB_true h),exB_true h]
   · rw [if_neg (by rw [exB_false h]; decide),exB_false h]
 · rw [if_pos (by simp; omega),exB_false (fun h => hl (by rw [h]))]
noncomputable def chnums_h {α:Type} (ds:List D) (Q:SV → Hp → Option α):Option α :=
 dL (K.int IntKind.i64) ds fun a ds => dL (K.int IntKind.i64) ds fun b ds => dE ds (if V.lenC a.length = true then Q (.bool (V.nsEq a b)) ([]) else none)
theorem chnums_h_ok {α:Type}:FnOk E.P 22 (fEnt (α := α) chnums_sp chnums_h) :=
 fEntR_ok E (look_chvecs_ok) (exec_sound E E_ok (look_chvecs_ok) (chnums_l0_lps_ok) 400) fun ds Q r h => by
   unfold chnums_h at h
   obtain ⟨a,ds,rfl,h1⟩ := dL_inv h
   obtain ⟨b,ds,rfl,h2⟩ := dL_inv h1
   obtain ⟨rfl,hE⟩ := dE_inv h2
   split at hE
   · rename_i hg
     exact ⟨_,_,hE,fun vs => ⟨_,_,by kernel_rfl,(chnums_eq a b (vs.headD undef) (vs.tail.headD undef) _).trans (chnums_v a b hg _)⟩⟩
   · cases hE
noncomputable def look_chnums {α:Type}:LookF α := addFn 22 (fEnt chnums_sp chnums_h) look_chvecs
theorem look_chnums_ok {α:Type}:LookOk E.P (look_chnums (α := α)) := addFn_ok chnums_h_ok (look_chvecs_ok)
end
section
open Go
def updTo (f:Nat → L15 → L15) (C:List L15) (i:Nat):List L15 := (List.range C.length).map fun j => if j < i then f j (lnk C j) else lnk C j
theorem updTo_len (f:Nat → L15 → L15) (C:List L15) (i:Nat):(updTo f C i).length = C.length := by simp [updTo]
theorem updTo_get (f:Nat → L15 → L15) (C:List L15) (i j:Nat) (h:j < C.length):lnk (updTo f C i) j = if j < i then f j (lnk C j) else lnk C j := by
 unfold updTo
 rw [lnk,List.getD_eq_getElem?_getD,List.getElem?_map,List.getElem?_range h]
 rfl
theorem updTo_zero (f:Nat → L15 → L15) (C:List L15):updTo f C 0 = C := by
 refine List.ext_getElem? fun j => ?_
 by_cases hj:j < C.length
 · rw [lnk_get (C := updTo f C 0) (by rw [updTo_len]; exact hj),lnk_get hj,updTo_get f C 0 j hj,if_neg (by omega)]
 · rw [List.getElem?_eq_none (by rw [updTo_len]; omega),List.getElem?_eq_none (by omega)]
theorem updTo_set (f:Nat → L15 → L15) (C:List L15) (i:Nat) (h:i < C.length):(updTo f C i).set i (f i (lnk C i)) = updTo f C (i + 1) := by
 refine List.ext_getElem? fun j => ?_
 by_cases hj:j < C.length
 · rw [lnk_get (C := updTo f C (i + 1)) (by rw [updTo_len]; exact hj), updTo_get f C (i + 1) j hj]
   by_cases e:j = i
   · subst e
     rw [List.getElem?_set_self (by rw [updTo_len]; exact h),if_pos (by omega)]
   · rw [List.getElem?_set_ne (Ne.symm e), lnk_get (C := updTo f C i) (by rw [updTo_len]; exact hj), updTo_get f C i j hj]
     by_cases hl:j < i
     · rw [if_pos hl,if_pos (by omega)]
     · rw [if_neg hl,if_neg (by omega)]
 · rw [List.getElem?_eq_none (by rw [List.length_set,updTo_len]; omega),List.getElem?_eq_none (by rw [updTo_len]; omega)]
end
section
open Go
set_option maxRecDepth 20000
noncomputable abbrev chmoved_S1 (y1:Bool) (y2 y3 y4 y5 y6 y7 y8:Int) (y9:List L15) (y10:Bool) (y11:List (Int × Int × Int × Int × Int × Int × Int)) (y12 y13 y14 y15:L3) (y16:List Int):St := St.mk (nn 4 (some (SV.ptr (nat_lit 0) (nat_lit 0)) :: some (SV.ptr (nat_lit 1) (nat_lit 0)) :: none :: some (SV.bool y1) :: some (SV.sl (nat_lit 2)) :: some (SV.ptr (nat_lit 3) (nat_lit 0)) :: some (SV.sl (nat_lit 4)) :: some (SV.sl (nat_lit 5)) :: some (SV.sl (nat_lit 6)) :: some (SV.sl (nat_lit 7)) :: some (SV.sl (nat_lit 8)) :: some (SV.sl (nat_lit 9)) :: some (SV.int .i64 y2) :: nn 201 ([]))) [.cells [SV.int .i64 y3,SV.int .i64 y4,SV.int .i64 y5] (nat_lit 33),.cells [SV.int .i64 y6,SV.int .i64 y7,SV.int .i64 y8] (nat_lit 33),.seq (K.st (LK.i IntKind.i64) [LK.i IntKind.i64,LK.i IntKind.i64,LK.i IntKind.i64,LK.i IntKind.i64,LK.i IntKind.i64,LK.i IntKind.i64,LK.i IntKind.i64,LK.i IntKind.i64,LK.i IntKind.i64,LK.b,LK.i IntKind.i64,LK.i IntKind.i64,LK.i IntKind.i64,LK.i IntKind.i64]) y9 (nat_lit 35),.cells [SV.bool y10] (nat_lit 27),.seq (K.st (LK.i IntKind.i64) [LK.i IntKind.i64,LK.i IntKind.i64,LK.i IntKind.i64,LK.i IntKind.i64,LK.i IntKind.i64,LK.i IntKind.i64]) y11 (nat_lit 40),.seq kP y12 (nat_lit 33),.seq kP y13 (nat_lit 33),.seq kP y14 (nat_lit 33),.seq kP y15 (nat_lit 33),.seq (K.int IntKind.i64) y16 (nat_lit 3)]
noncomputable abbrev chmoved_S2 (y1:Bool) (y2 y3 y4 y5 y6 y7:Int) (y8:List L15) (y9:Bool) (y10:List (Int × Int × Int × Int × Int × Int × Int)) (y11 y12 y13 y14:L3) (y15:List Int):St := St.mk (nn 4 (some (SV.ptr (nat_lit 0) (nat_lit 0)) :: some (SV.ptr (nat_lit 1) (nat_lit 0)) :: none :: some (SV.bool y1) :: some (SV.sl (nat_lit 2)) :: some (SV.ptr (nat_lit 3) (nat_lit 0)) :: some (SV.sl (nat_lit 4)) :: some (SV.sl (nat_lit 5)) :: some (SV.sl (nat_lit 6)) :: some (SV.sl (nat_lit 7)) :: some (SV.sl (nat_lit 8)) :: some (SV.sl (nat_lit 9)) :: nn 202 ([]))) [.cells [SV.int .i64 y2,SV.int .i64 y3,SV.int .i64 y4] (nat_lit 33),.cells [SV.int .i64 y5,SV.int .i64 y6,SV.int .i64 y7] (nat_lit 33),.seq (K.st (LK.i IntKind.i64) [LK.i IntKind.i64,LK.i IntKind.i64,LK.i IntKind.i64,LK.i IntKind.i64,LK.i IntKind.i64,LK.i IntKind.i64,LK.i IntKind.i64,LK.i IntKind.i64,LK.i IntKind.i64,LK.b,LK.i IntKind.i64,LK.i IntKind.i64,LK.i IntKind.i64,LK.i IntKind.i64]) y8 (nat_lit 35),.cells [SV.bool y9] (nat_lit 27),.seq (K.st (LK.i IntKind.i64) [LK.i IntKind.i64,LK.i IntKind.i64,LK.i IntKind.i64,LK.i IntKind.i64,LK.i IntKind.i64,LK.i IntKind.i64]) y10 (nat_lit 40),.seq kP y11 (nat_lit 33),.seq kP y12 (nat_lit 33),.seq kP y13 (nat_lit 33),.seq kP y14 (nat_lit 33),.seq (K.int IntKind.i64) y15 (nat_lit 3)]
noncomputable abbrev chmoved_S3:St := St.mk (nn 4 (some (SV.ptr (nat_lit 0) (nat_lit 0)) :: some (SV.ptr (nat_lit 1) (nat_lit 0)) :: none :: some (SV.bool false) :: some (SV.sl (nat_lit 2)) :: some (SV.ptr (nat_lit 3) (nat_lit 0)) :: some (SV.sl (nat_lit 4)) :: some (SV.sl (nat_lit 5)) :: some (SV.sl (nat_lit 6)) :: some (SV.sl (nat_lit 7)) :: some (SV.sl (nat_lit 8)) :: some (SV.sl (nat_lit 9)) :: some (SV.int .i64 (0:Int)) :: nn 201 ([]))) [.cells [SV.int .i64 (0:Int),SV.int .i64 (0:Int),SV.int .i64 (0:Int)] (nat_lit 33),.cells [SV.int .i64 (0:Int),SV.int .i64 (0:Int),SV.int .i64 (0:Int)] (nat_lit 33),.seq (K.st (LK.i IntKind.i64) [LK.i IntKind.i64,LK.i IntKind.i64,LK.i IntKind.i64,LK.i IntKind.i64,LK.i IntKind.i64,LK.i IntKind.i64,LK.i IntKind.i64,LK.i IntKind.i64,LK.i IntKind.i64,LK.b,LK.i IntKind.i64,LK.i IntKind.i64,LK.i IntKind.i64,LK.i IntKind.i64]) [] (nat_lit 35),.cells [SV.bool false] (nat_lit 27),.seq (K.st (LK.i IntKind.i64) [LK.i IntKind.i64,LK.i IntKind.i64,LK.i IntKind.i64,LK.i IntKind.i64,LK.i IntKind.i64,LK.i IntKind.i64]) [] (nat_lit 40),.seq kP [] (nat_lit 33),.seq kP [] (nat_lit 33),.seq kP [] (nat_lit 33),.seq kP [] (nat_lit 33),.seq (K.int IntKind.i64) [] (nat_lit 3)]
noncomputable abbrev chmoved_S4 (y1 y2 y3 y4:Int) (y5:List (Int × Int × Int × Int × Int × Int × Int)) (y6 y7 y8 y9:L3) (y10:List Int) (y11:List (Int × Int × Int × Int × Int × Int × Int)) (y12 y13 y14 y15:L3) (y16:List Int):St := St.mk (nn 4 (some (SV.ptr (nat_lit 0) (nat_lit 0)) :: nn 5 (some (SV.sl (nat_lit 1)) :: some (SV.sl (nat_lit 2)) :: some (SV.sl (nat_lit 3)) :: some (SV.sl (nat_lit 4)) :: some (SV.sl (nat_lit 5)) :: some (SV.sl (nat_lit 6)) :: none :: none :: some (SV.sl (nat_lit 7)) :: some (SV.sl (nat_lit 8)) :: some (SV.sl (nat_lit 9)) :: some (SV.sl (nat_lit 10)) :: some (SV.sl (nat_lit 11)) :: some (SV.sl (nat_lit 12)) :: some (SV.int .i64 y1) :: nn 193 ([])))) [.cells [SV.int .i64 y2,SV.int .i64 y3,SV.int .i64 y4] (nat_lit 33),.seq (K.st (LK.i IntKind.i64) [LK.i IntKind.i64,LK.i IntKind.i64,LK.i IntKind.i64,LK.i IntKind.i64,LK.i IntKind.i64,LK.i IntKind.i64]) y5 (nat_lit 40),.seq kP y6 (nat_lit 33),.seq kP y7 (nat_lit 33),.seq kP y8 (nat_lit 33),.seq kP y9 (nat_lit 33),.seq (K.int IntKind.i64) y10 (nat_lit 3),.seq (K.st (LK.i IntKind.i64) [LK.i IntKind.i64,LK.i IntKind.i64,LK.i IntKind.i64,LK.i IntKind.i64,LK.i IntKind.i64,LK.i IntKind.i64]) y11 (nat_lit 40),.seq kP y12 (nat_lit 33),.seq kP y13 (nat_lit 33),.seq kP y14 (nat_lit 33),.seq kP y15 (nat_lit 33),.seq (K.int IntKind.i64) y16 (nat_lit 3)]
noncomputable abbrev chmoved_S5 (y1 y2 y3 y4:L3) (y5:List Int) (y6 y7 y8 y9:L3) (y10:List Int):St := St.mk (nn 6 (some (SV.bool false) :: nn 4 (some (SV.sl (nat_lit 0)) :: some (SV.sl (nat_lit 1)) :: some (SV.sl (nat_lit 2)) :: some (SV.sl (nat_lit 3)) :: some (SV.sl (nat_lit 4)) :: nn 3 (some (SV.sl (nat_lit 5)) :: some (SV.sl (nat_lit 6)) :: some (SV.sl (nat_lit 7)) :: some (SV.sl (nat_lit 8)) :: some (SV.sl (nat_lit 9)) :: nn 194 ([]))))) [.seq kP y1 (nat_lit 33),.seq kP y2 (nat_lit 33),.seq kP y3 (nat_lit 33),.seq kP y4 (nat_lit 33),.seq (K.int IntKind.i64) y5 (nat_lit 3),.seq kP y6 (nat_lit 33),.seq kP y7 (nat_lit 33),.seq kP y8 (nat_lit 33),.seq kP y9 (nat_lit 33),.seq (K.int IntKind.i64) y10 (nat_lit 3)]
noncomputable abbrev chmoved_S6 (y1 y2 y3 y4:L3) (y5:List Int) (y6 y7 y8 y9:L3) (y10:List Int):St := St.mk (nn 11 (some (SV.sl (nat_lit 0)) :: some (SV.sl (nat_lit 1)) :: some (SV.sl (nat_lit 2)) :: some (SV.sl (nat_lit 3)) :: some (SV.sl (nat_lit 4)) :: nn 3 (some (SV.sl (nat_lit 5)) :: some (SV.sl (nat_lit 6)) :: some (SV.sl (nat_lit 7)) :: some (SV.sl (nat_lit 8)) :: some (SV.sl (nat_lit 9)) :: nn 194 ([])))) [.seq kP y1 (nat_lit 33),.seq kP y2 (nat_lit 33),.seq kP y3 (nat_lit 33),.seq kP y4 (nat_lit 33),.seq (K.int IntKind.i64) y5 (nat_lit 3),.seq kP y6 (nat_lit 33),.seq kP y7 (nat_lit 33),.seq kP y8 (nat_lit 33),.seq kP y9 (nat_lit 33),.seq (K.int IntKind.i64) y10 (nat_lit 3)]
noncomputable abbrev chmoved_S7:St := St.mk (nn 4 (some (SV.ptr (nat_lit 0) (nat_lit 0)) :: nn 5 (some (SV.sl (nat_lit 1)) :: some (SV.sl (nat_lit 2)) :: some (SV.sl (nat_lit 3)) :: some (SV.sl (nat_lit 4)) :: some (SV.sl (nat_lit 5)) :: some (SV.sl (nat_lit 6)) :: none :: none :: some (SV.sl (nat_lit 7)) :: some (SV.sl (nat_lit 8)) :: some (SV.sl (nat_lit 9)) :: some (SV.sl (nat_lit 10)) :: some (SV.sl (nat_lit 11)) :: some (SV.sl (nat_lit 12)) :: some (SV.int .i64 (0:Int)) :: nn 193 ([])))) [.cells [SV.int .i64 (0:Int),SV.int .i64 (0:Int),SV.int .i64 (0:Int)] (nat_lit 33),.seq (K.st (LK.i IntKind.i64) [LK.i IntKind.i64,LK.i IntKind.i64,LK.i IntKind.i64,LK.i IntKind.i64,LK.i IntKind.i64,LK.i IntKind.i64]) [] (nat_lit 40),.seq kP [] (nat_lit 33),.seq kP [] (nat_lit 33),.seq kP [] (nat_lit 33),.seq kP [] (nat_lit 33),.seq (K.int IntKind.i64) [] (nat_lit 3),.seq (K.st (LK.i IntKind.i64) [LK.i IntKind.i64,LK.i IntKind.i64,LK.i IntKind.i64,LK.i IntKind.i64,LK.i IntKind.i64,LK.i IntKind.i64]) [] (nat_lit 40),.seq kP [] (nat_lit 33),.seq kP [] (nat_lit 33),.seq kP [] (nat_lit 33),.seq kP [] (nat_lit 33),.seq (K.int IntKind.i64) [] (nat_lit 3)]
abbrev chmoved_P1:List Bool := [false,true,false,true,true,true,true,true,true,true,true,true,true,true,true,true,true,true]
abbrev chmoved_P2:List Bool := [false,true,false,true,true,true,true,true,true,true,true,true]
noncomputable def M.chmoved_l0_step {α:Type} (x19 x20 x21:Int) (kn:Int → List L15 → Option α) (k1:List L15 → Option α) (x18:Int) (x25:List L15):Option α := let s33 := (↑(List.length x25):Int); let s34 := List.getD x25 (Int.toNat x18) ((0:Int),(0:Int),(0:Int),(0:Int),(0:Int),(0:Int),(0:Int),(0:Int),(0:Int),(0:Int),false,(0:Int),(0:Int),(0:Int),(0:Int)); let s35 := Prod.fst s34; let s36 := Prod.snd s34; let s37 := Prod.snd s36; let s38 := Prod.snd s37; let s39 := Prod.snd s38; let s40 := Prod.snd s39; let s41 := Prod.snd s40; if cLt x18 s33 = true then if (0:Int) ≤ x18 ∧ x18 < s33 then if cLt s35 (0:Int) = true then if (0:Int) ≤ x18 ∧ x18 < s33 then if (0:Int) ≤ x18 ∧ x18 < s33 then if (0:Int) ≤ x18 ∧ x18 < s33 then if (0:Int) ≤ x18 ∧ x18 < s33 then kn (IntKind.wrap .i64 (x18 + (1:Int))) (List.set x25 (Int.toNat x18) (s35,Prod.fst s36,Prod.fst s37,Prod.fst s38,IntKind.wrap .i64 (Prod.fst s39 + x19),IntKind.wrap .i64 (Prod.fst s40 + x20),IntKind.wrap .i64 (Prod.fst s41 + x21),Prod.snd s41)) else none else none else none else none else kn (IntKind.wrap .i64 (x18 + (1:Int))) x25 else none else k1 x25
noncomputable def M.chmoved_l0 {α:Type} (x19 x20 x21:Int) (k1:List L15 → Option α):Nat → Int → List L15 → Option α
 | 0,_,_ => none
 | n + 1,x18,x25 => M.chmoved_l0_step x19 x20 x21 (M.chmoved_l0 x19 x20 x21 k1 n) k1 x18 x25
theorem chmoved_l0_step_eq {α:Type} (x17:Bool) (x18 x19 x20 x21 x22 x23 x24:Int) (x25:List L15) (x26:Bool) (x27:List (Int × Int × Int × Int × Int × Int × Int)) (x28 x29 x30 x31:L3) (x32:List Int) (Q:Ex → St → Option α):(loopStep E (exec E look_chnums noLps 400) 6 chmoved_P2 0 (codeAt E.P 6 chmoved_P2)) (chmoved_S1 x17 x18 x19 x20 x21 x22 x23 x24 x25 x26 x27 x28 x29 x30 x31 x32) Q = M.chmoved_l0_step x19 x20 x21 (fun (x43:Int) (x44:List L15) => Q .normal (chmoved_S1 x17 x43 x19 x20 x21 x22 x23 x24 x44 x26 x27 x28 x29 x30 x31 x32)) (fun (x42:List L15) => Q (.exit 0) (chmoved_S2 x17 x19 x20 x21 x22 x23 x24 x42 x26 x27 x28 x29 x30 x31 x32)) x18 x25 := by kernel_rfl
theorem chmoved_l0_iter {α:Type} (x17:Bool) (x19 x20 x21 x22 x23 x24:Int) (x26:Bool) (x27:List (Int × Int × Int × Int × Int × Int × Int)) (x28 x29 x30 x31:L3) (x32:List Int) (Q:Ex → St → Option α):∀ (n:Nat) (x18:Int) (x25:List L15),iter (loopStep E (exec E look_chnums noLps 400) 6 chmoved_P2 0 (codeAt E.P 6 chmoved_P2)) n (chmoved_S1 x17 x18 x19 x20 x21 x22 x23 x24 x25 x26 x27 x28 x29 x30 x31 x32) Q = M.chmoved_l0 x19 x20 x21 (fun (x42:List L15) => Q (.exit 0) (chmoved_S2 x17 x19 x20 x21 x22 x23 x24 x42 x26 x27 x28 x29 x30 x31 x32)) n x18 x25
 | 0,_,_ => rfl
 | n + 1,x18,x25 => (chmoved_l0_step_eq x17 x18 x19 x20 x21 x22 x23 x24 x25 x26 x27 x28 x29 x30 x31 x32 (iterK (loopStep E (exec E look_chnums noLps 400) 6 chmoved_P2 0 (codeAt E.P 6 chmoved_P2)) n Q)).trans (congrArg (fun kn => M.chmoved_l0_step x19 x20 x21 kn (fun (x42:List L15) => Q (.exit 0) (chmoved_S2 x17 x19 x20 x21 x22 x23 x24 x42 x26 x27 x28 x29 x30 x31 x32)) x18 x25) (funext fun x18 => funext fun x25 => chmoved_l0_iter x17 x19 x20 x21 x22 x23 x24 x26 x27 x28 x29 x30 x31 x32 Q n x18 x25))
noncomputable def chmoved_l0_go {α:Type} (ds:List D) (Q:Ex → St → Option α):Option α :=
 dB ds fun x17 ds => dI ds fun x18 ds => dI ds fun x19 ds => dI ds fun x20 ds => dI ds fun x21 ds => dI ds fun x22 ds => dI ds fun x23 ds => dI ds fun x24 ds => dL (K.st (LK.i IntKind.i64) [LK.i IntKind.i64,LK.i IntKind.i64,LK.i IntKind.i64,LK.i IntKind.i64,LK.i IntKind.i64,LK.i IntKind.i64,LK.i IntKind.i64,LK.i IntKind.i64,LK.i IntKind.i64,LK.b,LK.i IntKind.i64,LK.i IntKind.i64,LK.i IntKind.i64,LK.i IntKind.i64]) ds fun x25 ds => dB ds fun x26 ds => dL (K.st (LK.i IntKind.i64) [LK.i IntKind.i64,LK.i IntKind.i64,LK.i IntKind.i64,LK.i IntKind.i64,LK.i IntKind.i64,LK.i IntKind.i64]) ds fun x27 ds => dL kP ds fun x28 ds => dL kP ds fun x29 ds => dL kP ds fun x30 ds => dL kP ds fun x31 ds => dL (K.int IntKind.i64) ds fun x32 ds => dE ds (M.chmoved_l0 x19 x20 x21 (fun (x42:List L15) => Q (.exit 0) (chmoved_S2 x17 x19 x20 x21 x22 x23 x24 x42 x26 x27 x28 x29 x30 x31 x32)) (100 + x25.length + x27.length + x28.length + x29.length + x30.length + x31.length + x32.length) x18 x25)
theorem chmoved_l0_ok {α:Type}:LoopOk E.P 6 chmoved_P2 0 (lEnt (α := α) (chmoved_S3) chmoved_l0_go) :=
 lEnt_ok E (exec_sound E E_ok (look_chnums_ok) (noLps_ok _) 400) fun ds Q r h S hS => by
   unfold chmoved_l0_go at h
   obtain ⟨x17,ds,rfl,h1⟩ := dB_inv h
   obtain ⟨x18,ds,rfl,h2⟩ := dI_inv h1
   obtain ⟨x19,ds,rfl,h3⟩ := dI_inv h2
   obtain ⟨x20,ds,rfl,h4⟩ := dI_inv h3
   obtain ⟨x21,ds,rfl,h5⟩ := dI_inv h4
   obtain ⟨x22,ds,rfl,h6⟩ := dI_inv h5
   obtain ⟨x23,ds,rfl,h7⟩ := dI_inv h6
   obtain ⟨x24,ds,rfl,h8⟩ := dI_inv h7
   obtain ⟨x25,ds,rfl,h9⟩ := dL_inv h8
   obtain ⟨x26,ds,rfl,h10⟩ := dB_inv h9
   obtain ⟨x27,ds,rfl,h11⟩ := dL_inv h10
   obtain ⟨x28,ds,rfl,h12⟩ := dL_inv h11
   obtain ⟨x29,ds,rfl,h13⟩ := dL_inv h12
   obtain ⟨x30,ds,rfl,h14⟩ := dL_inv h13
   obtain ⟨x31,ds,rfl,h15⟩ := dL_inv h14
   obtain ⟨x32,ds,rfl,h16⟩ := dL_inv h15
   obtain ⟨rfl,hE⟩ := dE_inv h16
   have e:fillS (chmoved_S3) [.b x17,.i x18,.i x19,.i x20,.i x21,.i x22,.i x23,.i x24,.l (K.st (LK.i IntKind.i64) [LK.i IntKind.i64,LK.i IntKind.i64,LK.i IntKind.i64,LK.i IntKind.i64,LK.i IntKind.i64,LK.i IntKind.i64,LK.i IntKind.i64,LK.i IntKind.i64,LK.i IntKind.i64,LK.b,LK.i IntKind.i64,LK.i IntKind.i64,LK.i IntKind.i64,LK.i IntKind.i64]) x25,.b x26,.l (K.st (LK.i IntKind.i64) [LK.i IntKind.i64,LK.i IntKind.i64,LK.i IntKind.i64,LK.i IntKind.i64,LK.i IntKind.i64,LK.i IntKind.i64]) x27,.l kP x28,.l kP x29,.l kP x30,.l kP x31,.l (K.int IntKind.i64) x32] = some (chmoved_S1 x17 x18 x19 x20 x21 x22 x23 x24 x25 x26 x27 x28 x29 x30 x31 x32) := by kernel_rfl
   rw [e] at hS
   cases hS
   exact ⟨_,(chmoved_l0_iter x17 x19 x20 x21 x22 x23 x24 x26 x27 x28 x29 x30 x31 x32 Q _ x18 x25).trans hE⟩
noncomputable def chmoved_l0_lps {α:Type}:LookL α := addLp 6 chmoved_P2 0 (lEnt (chmoved_S3) chmoved_l0_go) noLps
theorem chmoved_l0_lps_ok {α:Type}:LoopsOk E.P (chmoved_l0_lps (α := α)) := addLp_ok chmoved_l0_ok (noLps_ok _)
noncomputable def M.chmoved_l1_step {α:Type} (x64 x65 x66:Int) (x67:List (Int × Int × Int × Int × Int × Int × Int)) (x73:List (Int × Int × Int × Int × Int × Int × Int)) (kn:Int → Option α) (k0:Option α) (k2:Option α) (x63:Int):Option α := let s79 := (↑(List.length x67):Int); let s80 := List.getD x73 (Int.toNat x63) ((0:Int),(0:Int),(0:Int),(0:Int),(0:Int),(0:Int),(0:Int)); let s81 := List.getD x67 (Int.toNat x63) ((0:Int),(0:Int),(0:Int),(0:Int),(0:Int),(0:Int),(0:Int)); let s82 := Prod.snd s81; let s83 := Prod.snd s80; let s84 := Prod.snd s83; let s85 := Prod.snd s82; let s86 := Prod.snd s84; let s87 := Prod.snd s85; let s88 := Prod.snd s87; let s89 := Prod.snd s86; let s90 := Prod.snd s89; let s91 := Prod.snd s88; if cLt x63 s79 = true then if (0:Int) ≤ x63 ∧ x63 < (↑(List.length x73):Int) then if (0:Int) ≤ x63 ∧ x63 < (↑(List.length x73):Int) then if (0:Int) ≤ x63 ∧ x63 < s79 then if (!(cEq (Prod.fst s86) (Prod.fst s87) && (cEq (Prod.fst s89) (Prod.fst s88) && (cEq (Prod.fst s90) (Prod.fst s91) && (cEq (Prod.snd s90) (Prod.snd s91) && true))))) = true then k0 else if (0:Int) ≤ x63 ∧ x63 < s79 then if (!(cEq (Prod.fst s81) (IntKind.wrap .i64 (Prod.fst s80 - x64)) && (cEq (Prod.fst s82) (IntKind.wrap .i64 (Prod.fst s83 - x65)) && (cEq (Prod.fst s85) (IntKind.wrap .i64 (Prod.fst s84 - x66)) && true)))) = true then k0 else kn (IntKind.wrap .i64 (x63 + (1:Int))) else none else none else none else none else k2
noncomputable def M.chmoved_l1 {α:Type} (x64 x65 x66:Int) (x67:List (Int × Int × Int × Int × Int × Int × Int)) (x73:List (Int × Int × Int × Int × Int × Int × Int)) (k0:Option α) (k2:Option α):Nat → Int → Option α
 | 0,_ => none
 | n + 1,x63 => M.chmoved_l1_step x64 x65 x66 x67 x73 (M.chmoved_l1 x64 x65 x66 x67 x73 k0 k2 n) k0 k2 x63
theorem chmoved_l1_step_eq {α:Type} (x63 x64 x65 x66:Int) (x67:List (Int × Int × Int × Int × Int × Int × Int)) (x68 x69 x70 x71:L3) (x72:List Int) (x73:List (Int × Int × Int × Int × Int × Int × Int)) (x74 x75 x76 x77:L3) (x78:List Int) (Q:Ex → St → Option α):(loopStep E (exec E look_chnums chmoved_l0_lps 400) 6 chmoved_P1 0 (codeAt E.P 6 chmoved_P1)) (chmoved_S4 x63 x64 x65 x66 x67 x68 x69 x70 x71 x72 x73 x74 x75 x76 x77 x78) Q = M.chmoved_l1_step x64 x65 x66 x67 x73 (fun (x92:Int) => Q .normal (chmoved_S4 x92 x64 x65 x66 x67 x68 x69 x70 x71 x72 x73 x74 x75 x76 x77 x78)) (Q .ret (chmoved_S5 x68 x69 x70 x71 x72 x74 x75 x76 x77 x78)) (Q (.exit 2) (chmoved_S6 x68 x69 x70 x71 x72 x74 x75 x76 x77 x78)) x63 := by kernel_rfl
theorem chmoved_l1_iter {α:Type} (x64 x65 x66:Int) (x67:List (Int × Int × Int × Int × Int × Int × Int)) (x68 x69 x70 x71:L3) (x72:List Int) (x73:List (Int × Int × Int × Int × Int × Int × Int)) (x74 x75 x76 x77:L3) (x78:List Int) (Q:Ex → St → Option α):∀ (n:Nat) (x63:Int),iter (loopStep E (exec E look_chnums chmoved_l0_lps 400) 6 chmoved_P1 0 (codeAt E.P 6 chmoved_P1)) n (chmoved_S4 x63 x64 x65 x66 x67 x68 x69 x70 x71 x72 x73 x74 x75 x76 x77 x78) Q = M.chmoved_l1 x64 x65 x66 x67 x73 (Q .ret (chmoved_S5 x68 x69 x70 x71 x72 x74 x75 x76 x77 x78)) (Q (.exit 2) (chmoved_S6 x68 x69 x70 x71 x72 x74 x75 x76 x77 x78)) n x63
 | 0,_ => rfl
 | n + 1,x63 => (chmoved_l1_step_eq x63 x64 x65 x66 x67 x68 x69 x70 x71 x72 x73 x74 x75 x76 x77 x78 (iterK (loopStep E (exec E look_chnums chmoved_l0_lps 400) 6 chmoved_P1 0 (codeAt E.P 6 chmoved_P1)) n Q)).trans (congrArg (fun kn => M.chmoved_l1_step x64 x65 x66 x67 x73 kn (Q .ret (chmoved_S5 x68 x69 x70 x71 x72 x74 x75 x76 x77 x78)) (Q (.exit 2) (chmoved_S6 x68 x69 x70 x71 x72 x74 x75 x76 x77 x78)) x63) (funext fun x63 => chmoved_l1_iter x64 x65 x66 x67 x68 x69 x70 x71 x72 x73 x74 x75 x76 x77 x78 Q n x63))
noncomputable def chmoved_l1_go {α:Type} (ds:List D) (Q:Ex → St → Option α):Option α :=
 dI ds fun x63 ds => dI ds fun x64 ds => dI ds fun x65 ds => dI ds fun x66 ds => dL (K.st (LK.i IntKind.i64) [LK.i IntKind.i64,LK.i IntKind.i64,LK.i IntKind.i64,LK.i IntKind.i64,LK.i IntKind.i64,LK.i IntKind.i64]) ds fun x67 ds => dL kP ds fun x68 ds => dL kP ds fun x69 ds => dL kP ds fun x70 ds => dL kP ds fun x71 ds => dL (K.int IntKind.i64) ds fun x72 ds => dL (K.st (LK.i IntKind.i64) [LK.i IntKind.i64,LK.i IntKind.i64,LK.i IntKind.i64,LK.i IntKind.i64,LK.i IntKind.i64,LK.i IntKind.i64]) ds fun x73 ds => dL kP ds fun x74 ds => dL kP ds fun x75 ds => dL kP ds fun x76 ds => dL kP ds fun x77 ds => dL (K.int IntKind.i64) ds fun x78 ds => dE ds (M.chmoved_l1 x64 x65 x66 x67 x73 (Q .ret (chmoved_S5 x68 x69 x70 x71 x72 x74 x75 x76 x77 x78)) (Q (.exit 2) (chmoved_S6 x68 x69 x70 x71 x72 x74 x75 x76 x77 x78)) (100 + x67.length + x68.length + x69.length + x70.length + x71.length + x72.length + x73.length + x74.length + x75.length + x76.length + x77.length + x78.length) x63)
theorem chmoved_l1_ok {α:Type}:LoopOk E.P 6 chmoved_P1 0 (lEnt (α := α) (chmoved_S7) chmoved_l1_go) :=
 lEnt_ok E (exec_sound E E_ok (look_chnums_ok) (chmoved_l0_lps_ok) 400) fun ds Q r h S hS => by
   unfold chmoved_l1_go at h
   obtain ⟨x63,ds,rfl,h1⟩ := dI_inv h
   obtain ⟨x64,ds,rfl,h2⟩ := dI_inv h1
   obtain ⟨x65,ds,rfl,h3⟩ := dI_inv h2
   obtain ⟨x66,ds,rfl,h4⟩ := dI_inv h3
   obtain ⟨x67,ds,rfl,h5⟩ := dL_inv h4
   obtain ⟨x68,ds,rfl,h6⟩ := dL_inv h5
   obtain ⟨x69,ds,rfl,h7⟩ := dL_inv h6
   obtain ⟨x70,ds,rfl,h8⟩ := dL_inv h7
   obtain ⟨x71,ds,rfl,h9⟩ := dL_inv h8
   obtain ⟨x72,ds,rfl,h10⟩ := dL_inv h9
   obtain ⟨x73,ds,rfl,h11⟩ := dL_inv h10
   obtain ⟨x74,ds,rfl,h12⟩ := dL_inv h11
   obtain ⟨x75,ds,rfl,h13⟩ := dL_inv h12
   obtain ⟨x76,ds,rfl,h14⟩ := dL_inv h13
   obtain ⟨x77,ds,rfl,h15⟩ := dL_inv h14
   obtain ⟨x78,ds,rfl,h16⟩ := dL_inv h15
   obtain ⟨rfl,hE⟩ := dE_inv h16
   have e:fillS (chmoved_S7) [.i x63,.i x64,.i x65,.i x66,.l (K.st (LK.i IntKind.i64) [LK.i IntKind.i64,LK.i IntKind.i64,LK.i IntKind.i64,LK.i IntKind.i64,LK.i IntKind.i64,LK.i IntKind.i64]) x67,.l kP x68,.l kP x69,.l kP x70,.l kP x71,.l (K.int IntKind.i64) x72,.l (K.st (LK.i IntKind.i64) [LK.i IntKind.i64,LK.i IntKind.i64,LK.i IntKind.i64,LK.i IntKind.i64,LK.i IntKind.i64,LK.i IntKind.i64]) x73,.l kP x74,.l kP x75,.l kP x76,.l kP x77,.l (K.int IntKind.i64) x78] = some (chmoved_S4 x63 x64 x65 x66 x67 x68 x69 x70 x71 x72 x73 x74 x75 x76 x77 x78) := by kernel_rfl
   rw [e] at hS
   cases hS
   exact ⟨_,(chmoved_l1_iter x64 x65 x66 x67 x68 x69 x70 x71 x72 x73 x74 x75 x76 x77 x78 Q _ x63).trans hE⟩
noncomputable def chmoved_l1_lps {α:Type}:LookL α := addLp 6 chmoved_P1 0 (lEnt (chmoved_S7) chmoved_l1_go) chmoved_l0_lps
theorem chmoved_l1_lps_ok {α:Type}:LoopsOk E.P (chmoved_l1_lps (α := α)) := addLp_ok chmoved_l1_ok (chmoved_l0_lps_ok)
noncomputable def M.chmoved {α:Type} (l:List L15) (bx:Int) (b_y:Int) (bz:Int) (px:Int) (p_y:Int) (pz:Int) (k0:Bool → Option α):Option α := if V.lvec_g bx b_y bz (34359738368:Int) = true then if V.lvec_g px p_y pz (68719476736:Int) = true then M.chmoved_l0 (V.lvec_r0 bx b_y bz (34359738368:Int)) (V.lvec_r1 bx b_y bz (34359738368:Int)) (V.lvec_r2 bx b_y bz (34359738368:Int)) (fun (x94:List L15) ↦ if V.ldsB (V.rtC l) (V.lvec_r0 px p_y pz (68719476736:Int)) (V.lvec_r1 px p_y pz (68719476736:Int)) (V.lvec_r2 px p_y pz (68719476736:Int)) (V.motB (V.rtC l) false) = true then if V.ldsB (V.rtC l) (V.lvec_r0 px p_y pz (68719476736:Int)) (V.lvec_r1 px p_y pz (68719476736:Int)) (V.lvec_r2 px p_y pz (68719476736:Int)) (V.motB (V.rtC l) false) = true then k0 true else k0 (V.ldsB x94 (V.lvec_r0 px p_y pz (68719476736:Int)) (V.lvec_r1 px p_y pz (68719476736:Int)) (V.lvec_r2 px p_y pz (68719476736:Int)) (V.motB x94 false)) else if V.ldsB x94 (V.lvec_r0 px p_y pz (68719476736:Int)) (V.lvec_r1 px p_y pz (68719476736:Int)) (V.lvec_r2 px p_y pz (68719476736:Int)) (V.motB x94 false) = true then if V.ldsB (V.rtC l) (V.lvec_r0 px p_y pz (68719476736:Int)) (V.lvec_r1 px p_y pz (68719476736:Int)) (V.lvec_r2 px p_y pz (68719476736:Int)) (V.motB (V.rtC l) false) = true then k0 true else k0 (V.ldsB x94 (V.lvec_r0 px p_y pz (68719476736:Int)) (V.lvec_r1 px p_y pz (68719476736:Int)) (V.lvec_r2 px p_y pz (68719476736:Int)) (V.motB x94 false)) else if (!cEq (↑(List.length (V.plcs (V.rtC l))):Int) (↑(List.length (V.plcs x94)):Int)) = true then if V.ldsB (V.rtC l) (V.lvec_r0 px p_y pz (68719476736:Int)) (V.lvec_r1 px p_y pz (68719476736:Int)) (V.lvec_r2 px p_y pz (68719476736:Int)) (V.motB (V.rtC l) false) = true then k0 true else k0 (V.ldsB x94 (V.lvec_r0 px p_y pz (68719476736:Int)) (V.lvec_r1 px p_y pz (68719476736:Int)) (V.lvec_r2 px p_y pz (68719476736:Int)) (V.motB x94 false)) else M.chmoved_l1 (V.lvec_r0 bx b_y bz (34359738368:Int)) (V.lvec_r1 bx b_y bz (34359738368:Int)) (V.lvec_r2 bx b_y bz (34359738368:Int)) (V.plcs (V.rtC l)) (V.plcs x94) (k0 false) (if V.lenC (List.length (V.motS (V.rtC l))) = true then if V.vsEq (V.motS (V.rtC l)) (V.motS x94) = true then if V.lenC (List.length (V.motV (V.rtC l))) = true then if V.vsEq (V.motV (V.rtC l)) (V.motV x94) = true then if V.lenC (List.length (V.ldsF (V.rtC l) (V.lvec_r0 px p_y pz (68719476736:Int)) (V.lvec_r1 px p_y pz (68719476736:Int)) (V.lvec_r2 px p_y pz (68719476736:Int)))) = true then if V.vsEq (V.ldsF (V.rtC l) (V.lvec_r0 px p_y pz (68719476736:Int)) (V.lvec_r1 px p_y pz (68719476736:Int)) (V.lvec_r2 px p_y pz (68719476736:Int))) (V.ldsF x94 (V.lvec_r0 px p_y pz (68719476736:Int)) (V.lvec_r1 px p_y pz (68719476736:Int)) (V.lvec_r2 px p_y pz (68719476736:Int))) = true then if V.lenC (List.length (V.ldsT (V.rtC l) (V.lvec_r0 px p_y pz (68719476736:Int)) (V.lvec_r1 px p_y pz (68719476736:Int)) (V.lvec_r2 px p_y pz (68719476736:Int)))) = true then if V.vsEq (V.ldsT (V.rtC l) (V.lvec_r0 px p_y pz (68719476736:Int)) (V.lvec_r1 px p_y pz (68719476736:Int)) (V.lvec_r2 px p_y pz (68719476736:Int))) (V.ldsT x94 (V.lvec_r0 px p_y pz (68719476736:Int)) (V.lvec_r1 px p_y pz (68719476736:Int)) (V.lvec_r2 px p_y pz (68719476736:Int))) = true then if V.lenC (List.length (V.ldsN (V.rtC l) (V.lvec_r0 px p_y pz (68719476736:Int)) (V.lvec_r1 px p_y pz (68719476736:Int)) (V.lvec_r2 px p_y pz (68719476736:Int)))) = true then k0 (V.nsEq (V.ldsN (V.rtC l) (V.lvec_r0 px p_y pz (68719476736:Int)) (V.lvec_r1 px p_y pz (68719476736:Int)) (V.lvec_r2 px p_y pz (68719476736:Int))) (V.ldsN x94 (V.lvec_r0 px p_y pz (68719476736:Int)) (V.lvec_r1 px p_y pz (68719476736:Int)) (V.lvec_r2 px p_y pz (68719476736:Int)))) else none else k0 false else none else k0 false else none else k0 false else none else k0 false else none) ((100:Nat) + List.length (V.plcs (V.rtC l)) + List.length (V.motS (V.rtC l)) + List.length (V.motV (V.rtC l)) + List.length (V.ldsF (V.rtC l) (V.lvec_r0 px p_y pz (68719476736:Int)) (V.lvec_r1 px p_y pz (68719476736:Int)) (V.lvec_r2 px p_y pz (68719476736:Int))) + List.length (V.ldsT (V.rtC l) (V.lvec_r0 px p_y pz (68719476736:Int)) (V.lvec_r1 px p_y pz (68719476736:Int)) (V.lvec_r2 px p_y pz (68719476736:Int))) + List.length (V.ldsN (V.rtC l) (V.lvec_r0 px p_y pz (68719476736:Int)) (V.lvec_r1 px p_y pz (68719476736:Int)) (V.lvec_r2 px p_y pz (68719476736:Int))) + List.length (V.plcs x94) + List.length (V.motS x94) + List.length (V.motV x94) + List.length (V.ldsF x94 (V.lvec_r0 px p_y pz (68719476736:Int)) (V.lvec_r1 px p_y pz (68719476736:Int)) (V.lvec_r2 px p_y pz (68719476736:Int))) + List.length (V.ldsT x94 (V.lvec_r0 px p_y pz (68719476736:Int)) (V.lvec_r1 px p_y pz (68719476736:Int)) (V.lvec_r2 px p_y pz (68719476736:Int))) + List.length (V.ldsN x94 (V.lvec_r0 px p_y pz (68719476736:Int)) (V.lvec_r1 px p_y pz (68719476736:Int)) (V.lvec_r2 px p_y pz (68719476736:Int)))) (0:Int)) ((100:Nat) + List.length (V.rtC l) + List.length (V.plcs (V.rtC l)) + List.length (V.motS (V.rtC l)) + List.length (V.motV (V.rtC l)) + List.length (V.ldsF (V.rtC l) (V.lvec_r0 px p_y pz (68719476736:Int)) (V.lvec_r1 px p_y pz (68719476736:Int)) (V.lvec_r2 px p_y pz (68719476736:Int))) + List.length (V.ldsT (V.rtC l) (V.lvec_r0 px p_y pz (68719476736:Int)) (V.lvec_r1 px p_y pz (68719476736:Int)) (V.lvec_r2 px p_y pz (68719476736:Int))) + List.length (V.ldsN (V.rtC l) (V.lvec_r0 px p_y pz (68719476736:Int)) (V.lvec_r1 px p_y pz (68719476736:Int)) (V.lvec_r2 px p_y pz (68719476736:Int)))) (0:Int) (V.rtC l) else none else none
theorem chmoved_eq {α:Type} (l:List L15) (bx:Int) (b_y:Int) (bz:Int) (px:Int) (p_y:Int) (pz:Int) (v93:Value) (Q:SV → Hp → Option α):callI E look_chnums (exec E look_chnums chmoved_l1_lps 400) 6 ([SV.ros v93 (K.st (LK.i IntKind.i64) [LK.i IntKind.i64,LK.i IntKind.i64,LK.i IntKind.i64,LK.i IntKind.i64,LK.i IntKind.i64,LK.i IntKind.i64,LK.i IntKind.i64,LK.i IntKind.i64,LK.i IntKind.i64,LK.b,LK.i IntKind.i64,LK.i IntKind.i64,LK.i IntKind.i64,LK.i IntKind.i64]) l,SV.agg [SV.int .i64 bx,SV.int .i64 b_y,SV.int .i64 bz],SV.agg [SV.int .i64 px,SV.int .i64 p_y,SV.int .i64 pz]]) ([]) Q = M.chmoved l bx b_y bz px p_y pz (fun (x95:Bool) => Q (SV.bool x95) ([])) := by kernel_rfl
def chmoved_sp:List AS := [.ro (.st (.i .i64) [.i .i64,.i .i64,.i .i64,.i .i64,.i .i64,.i .i64,.i .i64,.i .i64,.i .i64,.b,.i .i64,.i .i64,.i .i64,.i .i64]),.val (.agg [.int .i64 0,.int .i64 0,.int .i64 0]),.val (.agg [.int .i64 0,.int .i64 0,.int .i64 0])]
theorem updTo_same (f:Nat → L15 → L15) (C:List L15) (i:Nat) (h:i < C.length) (e:f i (lnk C i) = lnk C i):updTo f C i = updTo f C (i + 1) := by
 refine List.ext_getElem? fun j => ?_
 by_cases hj:j < C.length
 · rw [lnk_get (C := updTo f C (i + 1)) (by rw [updTo_len]; exact hj),lnk_get (C := updTo f C i) (by rw [updTo_len]; exact hj),updTo_get f C (i + 1) j hj,updTo_get f C i j hj]
   by_cases e2:j = i
   · subst e2
     rw [if_neg (by omega),if_pos (by omega),e]
   · by_cases hl : j < i
     · rw [if_pos hl,if_pos (by omega)]
     · rw [if_neg hl,if_neg (by omega)]
 · rw [List.getElem?_eq_none (by rw [updTo_len]; omega),List.getElem?_eq_none (by rw [updTo_len]; omega)]
theorem chmoved_l0_val {α:Type} (C:List L15) (b:V.T3) (hC:C.length ≤ 1000) (hb:In3 b 34359738368) (hat:∀ i,i < C.length → In3 (lAt (lnk C i)) 34359738368) (k1:List L15 → Option α):∀ (fuel i:Nat),i ≤ C.length → C.length - i < fuel →
   M.chmoved_l0 b.1 b.2.1 b.2.2 k1 fuel (i:Int) (updTo (fun _ x => mvBy b x) C i) = k1 (updTo (fun _ x => mvBy b x) C C.length)
 | 0,i,h1,h2 => by omega
 | f + 1,i,h1,h2 => by
   by_cases hi:i < C.length
   · have ih := chmoved_l0_val C b hC hb hat k1 f (i + 1) (by omega) (by omega)
     have hl := updTo_len (fun _ x => mvBy b x) C i
     have g0 : List.getD (updTo (fun _ x => mvBy b x) C i) (Int.toNat (i : Int)) (0, 0, 0, 0, 0, 0, 0, 0, 0, 0, false, 0, 0, 0, 0) = lnk C i := by
       have := updTo_get (fun _ x => mvBy b x) C i i hi
       rw [if_neg (by omega)] at this
       exact this
     have b0:(0:Int) ≤ (i:Int) ∧ (i:Int) < (C.length:Int) := by omega
     by_cases h0:(lnk C i).1 < 0
     · rw [← updTo_set _ C i hi] at ih
       generalize updTo (fun _ x => mvBy b x) C i = X at *
       have hw:∀ {x y:Int},Inn x 34359738368 → Inn y 34359738368 → IntKind.wrap .i64 (x + y) = x + y := fun hx hy => IntWalk.i64_in _ (by unfold Inn at hx hy; omega)
       obtain ⟨a1,a2,a3⟩ := hat i hi
       obtain ⟨b1,b2,b3⟩ := hb
       have w1:IntKind.wrap .i64 ((lnk C i).2.2.2.2.1 + b.1) = (lnk C i).2.2.2.2.1 + b.1 := hw a1 b1
       have w2:IntKind.wrap .i64 ((lnk C i).2.2.2.2.2.1 + b.2.1) = (lnk C i).2.2.2.2.2.1 + b.2.1 := hw a2 b2
       have w3:IntKind.wrap .i64 ((lnk C i).2.2.2.2.2.2.1 + b.2.2) = (lnk C i).2.2.2.2.2.2.1 + b.2.2 := hw a3 b3
       unfold M.chmoved_l0 M.chmoved_l0_step
       try simp only
       rw [hl,cLt_nat,if_pos (by simpa using hi),g0,if_pos b0,cLt_eq,if_pos (decide_eq_true h0),if_pos b0,if_pos b0,if_pos b0,if_pos b0,w1,w2,w3,toNat_natG,w_next (by omega)]
       unfold mvBy at ih
       rw [if_pos h0] at ih
       exact ih
     · rw [← updTo_same _ C i hi (by unfold mvBy; rw [if_neg h0])] at ih
       unfold M.chmoved_l0 M.chmoved_l0_step
       try simp only
       rw [hl,cLt_nat,if_pos (by simpa using hi),g0,if_pos b0,cLt_eq,if_neg (by rw [decide_eq_false h0]; decide),w_next (by omega)]
       exact ih
   · have : i = C.length := by omega
     subst this
     unfold M.chmoved_l0 M.chmoved_l0_step
     try simp only
     rw [updTo_len,cLt_nat,if_neg (by simp)]
theorem chmoved_l0_at {α:Type} (C:List L15) (b:V.T3) (hC:C.length ≤ 1000) (hb:In3 b 34359738368) (hat:∀ i,i < C.length → In3 (lAt (lnk C i)) 34359738368) (k1:List L15 → Option α) (fuel:Nat) (hf:C.length < fuel) :
   M.chmoved_l0 b.1 b.2.1 b.2.2 k1 fuel 0 C = k1 (updTo (fun _ x => mvBy b x) C C.length) := by
 have h := chmoved_l0_val C b hC hb hat k1 fuel 0 (by omega) (by omega)
 rw [updTo_zero] at h
 exact h
theorem chmoved_l1_val {α:Type} (P Q:List T7) (b:V.T3) (hP:P.length ≤ 1000) (hl:Q.length = P.length) (h:∀ i,i < P.length → (Q.getD i t70).2.2.2 = (P.getD i t70).2.2.2 ∧ IntKind.wrap .i64 ((Q.getD i t70).1 - b.1) = (P.getD i t70).1 ∧ IntKind.wrap .i64 ((Q.getD i t70).2.1 - b.2.1) = (P.getD i t70).2.1 ∧ IntKind.wrap .i64 ((Q.getD i t70).2.2.1 - b.2.2) = (P.getD i t70).2.2.1) (k0 k2:Option α):∀ (fuel i:Nat),i ≤ P.length → P.length - i < fuel →
   M.chmoved_l1 b.1 b.2.1 b.2.2 P Q k0 k2 fuel (i:Int) = k2
 | 0,i,h1,h2 => by omega
 | f + 1,i,h1,h2 => by
   by_cases hi:i < P.length
   · have ih := chmoved_l1_val P Q b hP hl h k0 k2 f (i + 1) (by omega) (by omega)
     obtain ⟨e1,e2,e3,e4⟩ := h i hi
     have g0:List.getD P (Int.toNat (i:Int)) (0,0,0,0,0,0,0) = P.getD i t70 := rfl
     have g1:List.getD Q (Int.toNat (i:Int)) (0,0,0,0,0,0,0) = Q.getD i t70 := rfl
     have b0:(0:Int) ≤ (i:Int) ∧ (i:Int) < (P.length:Int) := by omega
     unfold M.chmoved_l1 M.chmoved_l1_step
     try simp only
     rw [g0,g1,hl,cLt_nat,if_pos (by simpa using hi),if_pos b0,if_pos b0,if_pos b0,e1,e2,e3,e4,if_neg (by simp [cEq_eq]),if_pos b0,if_neg (by simp [cEq_eq]),w_next (by omega)]
     exact ih
   · have : i = P.length := by omega
     subst this
     unfold M.chmoved_l1 M.chmoved_l1_step
     try simp only
     rw [cLt_nat,if_neg (by simp)]
theorem layO_gd {pp:V.T3} {pq:V.T4} {x:L15} {r:Pl} (h:layO pp pq x = some r):Gd r.1.1 ∧ Gd r.1.2.1 ∧ Gd r.1.2.2 := by
 have hg:∀ {a c t:V.T3},V.tAdd a c = some t → Gd t.1 ∧ Gd t.2.1 ∧ Gd t.2.2 := by
   intro a c t ht
   obtain ⟨h1,h2,h3⟩ := tAdd_some.1 ht
   rw [mAdd_some] at h1 h2 h3
   exact ⟨h1.2.2.1,h2.2.2.1,h3.2.2.1⟩
 rw [layO_R] at h
 simp only [Option.bind_eq_some_iff] at h
 obtain ⟨m,hm,u,hu,a0,ha0,hr⟩ := h
 unfold layR at hr
 simp only [Option.bind_eq_some_iff] at hr
 obtain ⟨ax,hax,aq,haq,m2,hm2,t,ht,md,hmd,hre⟩ := hr
 simp only [Option.some.injEq] at hre
 rw [← hre]
 by_cases hs:lSl x = true
 · rw [if_pos hs] at haq
   simp only [Option.bind_eq_some_iff,Option.some.injEq] at haq
   obtain ⟨s,_,a,ha,rfl⟩ := haq
   exact hg ha
 · rw [if_neg hs] at haq
   simp only [Option.bind_eq_some_iff,Option.some.injEq] at haq
   obtain ⟨v,_,w,_,q,_,rfl⟩ := haq
   exact hg ha0
theorem mvBy_ok {i:Nat} {x:L15} {b:V.T3} (h:LkC i x) (hx:In3 (lAt x) 34359738368) (hb:In3 b 34359738368):LkC i (mvBy b x) := by
 unfold mvBy
 split
 · refine ⟨h.par, h.len, h.mass, h.ang, ?_, h.mid, h.spd, h.qck⟩
   obtain ⟨a1,a2,a3⟩ := hx
   obtain ⟨b1,b2,b3⟩ := hb
   have hw:∀ {x y:Int},Inn x 34359738368 → Inn y 34359738368 → Inn (x + y) 68719476736 := fun hx hy => by unfold Inn at *; omega
   exact ⟨hw a1 b1,hw a2 b2,hw a3 b3⟩
 · exact h
theorem motT_F {C:List L15} (hb:(pcR C).1 = false):(mvL C (chP C) false C.length).1 = false ∧ (mvR C).1 = false ∧ ∀ i,i < C.length → pcB (chP C) i ((mvR C).2.getD i mv0) false = false := by
 obtain ⟨h1,h2⟩ := pcL_F hb
 exact ⟨h1,h1,h2⟩
theorem chmoved_v {α:Type} (l:List L15) (bx b_y bz px p_y pz:Int) (hg:((l.length < 9223372036854775808 ∧ ∀ x ∈ l,(RT.good (.i .i64) [.i .i64,.i .i64,.i .i64,.i .i64,.i .i64,.i .i64,.i .i64,.i .i64,.i .i64,.b,.i .i64,.i .i64,.i .i64,.i .i64]) x) ∧ (-9223372036854775808 ≤ bx ∧ bx < 9223372036854775808) ∧ (-9223372036854775808 ≤ b_y ∧ b_y < 9223372036854775808) ∧ (-9223372036854775808 ≤ bz ∧ bz < 9223372036854775808) ∧ (-9223372036854775808 ≤ px ∧ px < 9223372036854775808) ∧ (-9223372036854775808 ≤ p_y ∧ p_y < 9223372036854775808) ∧ (-9223372036854775808 ≤ pz ∧ pz < 9223372036854775808))) (k0:Bool → Option α):M.chmoved l bx b_y bz px p_y pz k0 = k0 true := by
 obtain ⟨⟨gl,gp⟩,hb1,hb2,hb3,_⟩ := hg
 obtain ⟨r1,r2,r3⟩ := rtC_facts gp
 have hbi:In3 (V.lvec_r0 bx b_y bz 34359738368,V.lvec_r1 bx b_y bz 34359738368,V.lvec_r2 bx b_y bz 34359738368) 34359738368 := by
   have e := lvec_is (x := bx) (y := b_y) (z := bz) (m := 34359738368) (by omega)
   rw [e.1,e.2.1,e.2.2]
   exact ⟨part_bd hb1 (by omega),part_bd hb2 (by omega),part_bd hb3 (by omega)⟩
 unfold M.chmoved
 try simp only
 rw [if_pos (lvec_ge (by omega)),if_pos (lvec_ge (by omega))]
 generalize V.rtC l = C at *
 generalize V.lvec_r0 bx b_y bz 34359738368 = b1 at *
 generalize V.lvec_r1 bx b_y bz 34359738368 = b2 at *
 generalize V.lvec_r2 bx b_y bz 34359738368 = b3 at *
 generalize V.lvec_r0 px p_y pz 68719476736 = p1 at *
 generalize V.lvec_r1 px p_y pz 68719476736 = p2 at *
 generalize V.lvec_r2 px p_y pz 68719476736 = p3 at *
 obtain ⟨_,ep,h12,ht⟩ := lay_zip r2
 have hat:∀ i,i < C.length → In3 (lAt (lnk C i)) 34359738368 := fun i hi => (r3 i _ (lnk_get hi)).2.2.2.2
 refine Eq.trans (chmoved_l0_at C (b1,b2,b3) (by omega) hbi hat _ _ (by omega)) ?_
 have hn := updTo_len (fun _ x => mvBy (b1,b2,b3) x) C C.length
 have hD:∀ i,i < C.length → lnk (updTo (fun _ x => mvBy (b1,b2,b3) x) C C.length) i = mvBy (b1,b2,b3) (lnk C i) := fun i hi => by rw [updTo_get _ C C.length i hi,if_pos hi]
 generalize updTo (fun _ x => mvBy (b1,b2,b3) x) C C.length = D at *
 have c2 : V.chC D = 0 := (chC_iff D).2 ⟨by omega, fun i x hx => by
   have hi:i < C.length := by rw [← hn]; exact (List.getElem?_eq_some_iff.1 hx).1
   have h2 := lnk_get (C := D) (i := i) (by omega)
   rw [hx] at h2
   rw [Option.some.inj h2,hD i hi]
   exact mvBy_ok (r3 i _ (lnk_get hi)).2.1 (hat i hi) hbi⟩
 obtain ⟨P,hP,_,hPl,_⟩ := lay_some r2
 obtain ⟨Q,hQ,_,hQl,htQ⟩ := lay_some c2
 have eP:chP C = P := by unfold chP; rw [hP]; rfl
 have eQ:chP D = Q := by unfold chP; rw [hQ]; rfl
 have hsh := lay_moved (b := (b1, b2, b3)) hP hQ ht htQ hn (fun i x hx => by
   have hi := (List.getElem?_eq_some_iff.1 hx).1
   have h2 := lnk_get (C := C) (i := i) hi
   rw [hx] at h2
   rw [Option.some.inj h2,lnk_get (C := D) (by omega),hD i hi])
 have fin:∀ A B:Bool,A = true ∨ B = true → ∀ X:Option α,(if A = true then (if A = true then k0 true else k0 B) else if B = true then (if A = true then k0 true else k0 B) else X) = k0 true := by
   intro A B h X
   cases A <;> cases B <;> simp at h ⊢
 have fin2:∀ A B:Bool,A = false → B = false → ∀ X Y:Option α,(if A = true then Y else if B = true then Y else X) = X := by
   intro A B h1 h2 X Y
   rw [h1,h2]; rfl
 by_cases hbad:V.ldsB C p1 p2 p3 (V.motB C false) = true ∨ V.ldsB D p1 p2 p3 (V.motB D false) = true
 · exact fin _ _ hbad _
 · have hA : V.ldsB C p1 p2 p3 (V.motB C false) = false := by
     cases h:V.ldsB C p1 p2 p3 (V.motB C false) with
     | false => rfl
     | true => exact absurd (.inl h) hbad
   have hB:V.ldsB D p1 p2 p3 (V.motB D false) = false := by
     cases h:V.ldsB D p1 p2 p3 (V.motB D false) with
     | false => rfl
     | true => exact absurd (.inr h) hbad
   refine Eq.trans (fin2 _ _ hA hB _ _) ?_
   have bad2:∀ {E:List L15},V.chC E = 0 → V.ldsB E p1 p2 p3 (V.motB E false) = false → (ldR E (p1,p2,p3)).1 = false ∧ (pcR E).1 = false := by
     intro E hE h
     unfold V.ldsB V.motB at h
     rw [hid_eq,hid_eq] at h
     cases h1:(ldR E (p1,p2,p3)).1 with
     | true => rw [h1,if_pos ⟨hE,rfl⟩] at h; cases h
     | false =>
       cases h2:(pcR E).1 with
       | true => rw [h1,h2,if_neg (by simp),if_pos ⟨hE,rfl⟩] at h; cases h
       | false => exact ⟨rfl,rfl⟩
   obtain ⟨l1,m1⟩ := bad2 r2 hA
   obtain ⟨l2,m2⟩ := bad2 c2 hB
   clear hA hB fin fin2 hbad
   have hpl:V.plcs C = P.map pl7 := plcs_some r2 hP
   have hql:V.plcs D = Q.map pl7 := plcs_some c2 hQ
   rw [hpl,hql,if_neg (by rw [cEq_eq]; simp [hPl,hQl,hn])]
   have hgd:∀ i,i < C.length → Gd (P.getD i pl0).1.1 ∧ Gd (P.getD i pl0).1.2.1 ∧ Gd (P.getD i pl0).1.2.2 := by
     intro i hi
     obtain ⟨_,_,h1⟩ := layL_spec C [] P hP (Tree.lt ht)
     have := h1 i _ (lnk_get hi)
     rw [List.length_nil,Nat.zero_add] at this
     exact layO_gd this
   refine Eq.trans (chmoved_l1_val (P.map pl7) (Q.map pl7) (b1,b2,b3) (by rw [List.length_map]; omega) (by simp [hPl,hQl,hn]) (fun i hi => ?_) _ _ _ 0 (by omega) (by omega)) ?_
   · rw [List.length_map] at hi
     have hi2:i < C.length := by omega
     rw [getD_pl7 _ _ hi,getD_pl7 _ _ (by omega),hsh i hi2]
     obtain ⟨q1,q2,q3⟩ := hgd i hi2
     have hw : ∀ {x y : Int}, Gd x → IntKind.wrap .i64 (x + y - y) = x := fun hx => by
       rw [Int.add_sub_cancel]
       exact IntWalk.i64_in _ (by unfold Gd at hx; omega)
     exact ⟨rfl,hw q1,hw q2,hw q3⟩
   · -- moves and carries as it did
     have hmC := motT_F m1
     have hmD := motT_F m2
     have hs0:∀ i,i < C.length → (lnk D i).1 = (lnk C i).1 ∧ lSl (lnk D i) = lSl (lnk C i) ∧ lSpd (lnk D i) = lSpd (lnk C i) ∧ lMass (lnk D i) = lMass (lnk C i) ∧ pAx Q i = pAx P i := by
       intro i hi
       obtain ⟨g1,_,g3,_,_,g6,g7,_⟩ := mvBy_same (b1,b2,b3) (lnk C i)
       rw [hD i hi]
       refine ⟨g1,g3,g6,g7,?_⟩
       unfold pAx
       rw [hsh i hi]
       rfl
     have hpar:∀ i,i < C.length → (lnk C i).1 < (i:Int) := fun i hi => (ht i _ (lnk_get hi)).2
     have hsub:∀ i k,i < C.length → k < C.length → ∀ d d',V.tSub (pAt P k) (pAt P i) = some d → V.tSub (pAt Q k) (pAt Q i) = some d' → d' = d := by
       intro i k hi hk d d' h1 h2
       unfold pAt at h1 h2
       rw [hsh i hi,hsh k hk] at h2
       exact vsub_shf h1 h2
     have hpcD:∀ i,i < C.length → ∀ d d',pcD P i = some d → pcD Q i = some d' → d' = d := fun i hi d d' h1 h2 => shf_pcD (hsh i hi) h1 h2
     have eM:(mvR D).2 = (mvR C).2 := by
       have h1 := hmC.1
       have h2 := hmD.1
       rw [hn,eQ] at h2
       rw [eP] at h1
       have := moved_mv (C := C) (C' := D) (P := P) (P' := Q) (n := C.length) (fun i hi => ⟨(hs0 i hi).1,(hs0 i hi).2.1,(hs0 i hi).2.2.1,(hs0 i hi).2.2.2.2⟩) (fun i hi h0 d d' e e' => by
         have hp := hpar i hi
         unfold mvD at e e'
         rw [(hs0 i hi).1] at e'
         rw [show parP P (lnk C i).1 = pAt P (lnk C i).1.toNat from if_neg (by omega)] at e
         rw [show parP Q (lnk C i).1 = pAt Q (lnk C i).1.toNat from if_neg (by omega)] at e'
         exact hsub _ _ (by omega) hi d d' e e') h1 h2
       unfold mvR
       rw [hn,eP,eQ]
       exact this
     have eV:(pcR D).2 = (pcR C).2 := by
       have h1 := m1
       have h2 := m2
       unfold pcR at h1 h2 ⊢
       rw [hmC.2.1,eP] at h1 ⊢
       rw [hmD.2.1,eQ,hn,eM] at h2 ⊢
       exact moved_pl hpcD h1 h2
     have eL:(ldR D (p1,p2,p3)).2 = (ldR C (p1,p2,p3)).2 := by
       have h1 := l1
       have h2 := l2
       unfold ldR at h1 h2 ⊢
       rw [eP] at h1 ⊢
       rw [eQ,hn] at h2 ⊢
       exact ldA_moved hn (fun i hi => ⟨(hs0 i hi).1,(hs0 i hi).2.2.2.1,(hs0 i hi).2.1,(hs0 i hi).2.2.2.2⟩) (fun i k hi hk _ d d' e e' => hsub i k hi hk d d' e e') hpcD (Nat.le_refl _) rfl h1 h2
     have lM:(mvR C).2.length = C.length := mvL_len C (chP C) false C.length
     have lV:(pcR C).2.length = C.length := pcL_len _ _ _ _
     have lL := ldA_len C (chP C) (p1,p2,p3) C.length (ldZ C.length)
     have lL1:(ldR C (p1,p2,p3)).2.1.length = C.length := lL.1.trans (by simp [ldZ])
     have lL2:(ldR C (p1,p2,p3)).2.2.1.length = C.length := lL.2.1.trans (by simp [ldZ])
     have lL3:(ldR C (p1,p2,p3)).2.2.2.length = C.length := lL.2.2.trans (by simp [ldZ])
     have s1:V.motS C = (mvR C).2.map Prod.fst := by unfold V.motS; rw [hid_eq,m1,if_pos ⟨r2,rfl⟩]
     have s2:V.motS D = (mvR C).2.map Prod.fst := by unfold V.motS; rw [hid_eq,m2,if_pos ⟨c2,rfl⟩,eM]
     have s3:V.motV C = (pcR C).2 := by unfold V.motV; rw [hid_eq,m1,if_pos ⟨r2,rfl⟩]
     have s4:V.motV D = (pcR C).2 := by unfold V.motV; rw [hid_eq,m2,if_pos ⟨c2,rfl⟩,eV]
     have t1:V.ldsF C p1 p2 p3 = (ldR C (p1,p2,p3)).2.1 := by unfold V.ldsF; rw [hid_eq,l1,if_pos ⟨r2,rfl⟩]
     have t2:V.ldsF D p1 p2 p3 = (ldR C (p1,p2,p3)).2.1 := by unfold V.ldsF; rw [hid_eq,l2,if_pos ⟨c2,rfl⟩,eL]
     have t3:V.ldsT C p1 p2 p3 = (ldR C (p1,p2,p3)).2.2.1 := by unfold V.ldsT; rw [hid_eq,l1,if_pos ⟨r2,rfl⟩]
     have t4:V.ldsT D p1 p2 p3 = (ldR C (p1,p2,p3)).2.2.1 := by unfold V.ldsT; rw [hid_eq,l2,if_pos ⟨c2,rfl⟩,eL]
     have t5:V.ldsN C p1 p2 p3 = (ldR C (p1,p2,p3)).2.2.2 := by unfold V.ldsN; rw [hid_eq,l1,if_pos ⟨r2,rfl⟩]
     have t6:V.ldsN D p1 p2 p3 = (ldR C (p1,p2,p3)).2.2.2 := by unfold V.ldsN; rw [hid_eq,l2,if_pos ⟨c2,rfl⟩,eL]
     have vs:∀ a:List V.T3,V.vsEq a a = true := fun a => exB_true rfl
     have ns:∀ a:List Int,V.nsEq a a = true := fun a => exB_true rfl
     rw [s1,s2,s3,s4,t1,t2,t3,t4,t5,t6,vs,vs,vs,vs,ns,if_pos (lenC_of (by rw [List.length_map]; omega)),if_pos rfl,if_pos (lenC_of (by omega)),if_pos rfl,if_pos (lenC_of (by omega)),if_pos rfl,if_pos (lenC_of (by omega)),if_pos rfl,if_pos (lenC_of (by omega))]
noncomputable def chmoved_h {α:Type} (ds:List D) (Q:SV → Hp → Option α):Option α :=
 dL (K.st (LK.i IntKind.i64) [LK.i IntKind.i64,LK.i IntKind.i64,LK.i IntKind.i64,LK.i IntKind.i64,LK.i IntKind.i64,LK.i IntKind.i64,LK.i IntKind.i64,LK.i IntKind.i64,LK.i IntKind.i64,LK.b,LK.i IntKind.i64,LK.i IntKind.i64,LK.i IntKind.i64,LK.i IntKind.i64]) ds fun l ds => dI ds fun bx ds => dI ds fun b_y ds => dI ds fun bz ds => dI ds fun px ds => dI ds fun p_y ds => dI ds fun pz ds => dE ds (if V.gB ((l.length < 9223372036854775808 ∧ ∀ x ∈ l,(RT.good (.i .i64) [.i .i64,.i .i64,.i .i64,.i .i64,.i .i64,.i .i64,.i .i64,.i .i64,.i .i64,.b,.i .i64,.i .i64,.i .i64,.i .i64]) x) ∧ (-9223372036854775808 ≤ bx ∧ bx < 9223372036854775808) ∧ (-9223372036854775808 ≤ b_y ∧ b_y < 9223372036854775808) ∧ (-9223372036854775808 ≤ bz ∧ bz < 9223372036854775808) ∧ (-9223372036854775808 ≤ px ∧ px < 9223372036854775808) ∧ (-9223372036854775808 ≤ p_y ∧ p_y < 9223372036854775808) ∧ (-9223372036854775808 ≤ pz ∧ pz < 9223372036854775808)) = true then Q (.bool true) ([]) else none)
theorem chmoved_h_ok {α:Type}:FnOk E.P 6 (fEnt (α := α) chmoved_sp chmoved_h) :=
 fEntR_ok E (look_chnums_ok) (exec_sound E E_ok (look_chnums_ok) (chmoved_l1_lps_ok) 400) fun ds Q r h => by
   unfold chmoved_h at h
   obtain ⟨l,ds,rfl,h1⟩ := dL_inv h
   obtain ⟨bx,ds,rfl,h2⟩ := dI_inv h1
   obtain ⟨b_y,ds,rfl,h3⟩ := dI_inv h2
   obtain ⟨bz,ds,rfl,h4⟩ := dI_inv h3
   obtain ⟨px,ds,rfl,h5⟩ := dI_inv h4
   obtain ⟨p_y,ds,rfl,h6⟩ := dI_inv h5
   obtain ⟨pz,ds,rfl,h7⟩ := dI_inv h6
   obtain ⟨rfl,hE⟩ := dE_inv h7
   split at hE
   · rename_i hg
     exact ⟨_,_,hE,fun vs => ⟨_,_,by kernel_rfl,(chmoved_eq l bx b_y bz px p_y pz (vs.headD undef) _).trans (chmoved_v l bx b_y bz px p_y pz (gB_iff hg) _)⟩⟩
   · cases hE
end
end Go.Proofs.Ytajomehkgaamoaa.Sx
