/- Texts of the walk, merged. -/
import Derived.Test.YtajomehkgaamoaaGreatMh7
import Derived.Test.YtajomehkgaamoaaGreatMh6
set_option linter.unusedVariables false
set_option linter.unusedSimpArgs false
namespace Go.Proofs.YtajomehkgaamoaaGreat.Sx
section
open Go
set_option maxRecDepth 20000
noncomputable abbrev chmotion_S1 (y1 y2:Int) (y3:Bool) (y4 y5 y6 y7 y8 y9:L3) (y10:Bool) (y11 y12:L3) (y13:List L34):St := St.mk (some (SV.yld (nat_lit 17)) :: some (SV.ptr (nat_lit 16) (nat_lit 0)) :: nn 6 (some (SV.int .i64 y1) :: some (SV.int .i64 y2) :: nn 23 ([]))) [.cells [SV.bool y3] (nat_lit 28),.seq kP y4 (nat_lit 24),.seq kP y5 (nat_lit 24),.seq kP y6 (nat_lit 24),.seq kP y7 (nat_lit 24),.cells [SV.sl (nat_lit 3),SV.sl (nat_lit 4)] (nat_lit 77),.seq kP y8 (nat_lit 24),.seq kP y9 (nat_lit 24),.cells [SV.sl (nat_lit 6),SV.sl (nat_lit 7)] (nat_lit 77),.cells [SV.bool y10] (nat_lit 28),.cells [SV.ptr (nat_lit 9) (nat_lit 0),SV.sl (nat_lit 18)] (nat_lit 69),SObj.dead,.seq kP y11 (nat_lit 24),.seq kP y12 (nat_lit 24),.cells [SV.sl (nat_lit 12),SV.sl (nat_lit 13)] (nat_lit 77),.cells [SV.ptr (nat_lit 9) (nat_lit 0)] (nat_lit 26),.cells [SV.ptr (nat_lit 10) (nat_lit 0)] (nat_lit 66),SObj.lp (nat_lit 37) [false,true,true] [none,none,some (SV.ptr (nat_lit 15) (nat_lit 0)),none,none,none,none,none,none,none,none,some (SV.fn (nat_lit 103) [] [SV.ptr (nat_lit 16) (nat_lit 0)]),none,none,none,none,none,none,none,none,none,none,none,none,none,none,none,none,none,none,none,none,none,none,none,none,none,none,none,none,none,none,none,none,none,none,none,none,none,none,none,none,none,none,none,none,none,none,none,none,none,none,none,none,none,none,none,none,none,none,none,none,none,none,none,none] LSt.ready,SObj.seq (K.st (LK.i IntKind.i64) (LK.i IntKind.i64 :: LK.i IntKind.i64 :: LK.i IntKind.i64 :: LK.i IntKind.i64 :: LK.i IntKind.i64 :: LK.i IntKind.i64 :: LK.i IntKind.i64 :: LK.i IntKind.i64 :: LK.i IntKind.i64 :: LK.i IntKind.i64 :: LK.i IntKind.i64 :: LK.i IntKind.i64 :: LK.i IntKind.i64 :: LK.i IntKind.i64 :: LK.i IntKind.i64 :: LK.i IntKind.i64 :: LK.b :: LK.i IntKind.i64 :: LK.i IntKind.i64 :: LK.i IntKind.i64 :: LK.i IntKind.i64 :: LK.i IntKind.i64 :: LK.i IntKind.i64 :: LK.i IntKind.i64 :: LK.i IntKind.i64 :: LK.i IntKind.i64 :: LK.i IntKind.i64 :: LK.i IntKind.i64 :: LK.i IntKind.i64 :: LK.i IntKind.i64 :: LK.i IntKind.i64 :: LK.i IntKind.i64 :: LK.i IntKind.i64 :: List.nil)) y13 (nat_lit 71)]
noncomputable abbrev chmotion_S2 (y1:Bool) (y2 y3 y4 y5 y6 y7:L3) (y8:Bool) (y9 y10:L3) (y11:List L34):St := St.mk (nn 33 ([])) [.cells [SV.bool y1] (nat_lit 28),.seq kP y2 (nat_lit 24),.seq kP y3 (nat_lit 24),.seq kP y4 (nat_lit 24),.seq kP y5 (nat_lit 24),.cells [SV.sl (nat_lit 3),SV.sl (nat_lit 4)] (nat_lit 77),.seq kP y6 (nat_lit 24),.seq kP y7 (nat_lit 24),.cells [SV.sl (nat_lit 6),SV.sl (nat_lit 7)] (nat_lit 77),.cells [SV.bool y8] (nat_lit 28),.cells [SV.ptr (nat_lit 9) (nat_lit 0),SV.sl (nat_lit 18)] (nat_lit 69),SObj.dead,.seq kP y9 (nat_lit 24),.seq kP y10 (nat_lit 24),.cells [SV.sl (nat_lit 12),SV.sl (nat_lit 13)] (nat_lit 77),.cells [SV.ptr (nat_lit 9) (nat_lit 0)] (nat_lit 26),.cells [SV.ptr (nat_lit 10) (nat_lit 0)] (nat_lit 66),SObj.lp (nat_lit 37) [false,true,true] [none,none,some (SV.ptr (nat_lit 15) (nat_lit 0)),none,none,none,none,none,none,none,none,some (SV.fn (nat_lit 103) [] [SV.ptr (nat_lit 16) (nat_lit 0)]),none,none,none,none,none,none,none,none,none,none,none,none,none,none,none,none,none,none,none,none,none,none,none,none,none,none,none,none,none,none,none,none,none,none,none,none,none,none,none,none,none,none,none,none,none,none,none,none,none,none,none,none,none,none,none,none,none,none,none,none,none,none,none,none] LSt.ready,SObj.seq (K.st (LK.i IntKind.i64) (LK.i IntKind.i64 :: LK.i IntKind.i64 :: LK.i IntKind.i64 :: LK.i IntKind.i64 :: LK.i IntKind.i64 :: LK.i IntKind.i64 :: LK.i IntKind.i64 :: LK.i IntKind.i64 :: LK.i IntKind.i64 :: LK.i IntKind.i64 :: LK.i IntKind.i64 :: LK.i IntKind.i64 :: LK.i IntKind.i64 :: LK.i IntKind.i64 :: LK.i IntKind.i64 :: LK.i IntKind.i64 :: LK.b :: LK.i IntKind.i64 :: LK.i IntKind.i64 :: LK.i IntKind.i64 :: LK.i IntKind.i64 :: LK.i IntKind.i64 :: LK.i IntKind.i64 :: LK.i IntKind.i64 :: LK.i IntKind.i64 :: LK.i IntKind.i64 :: LK.i IntKind.i64 :: LK.i IntKind.i64 :: LK.i IntKind.i64 :: LK.i IntKind.i64 :: LK.i IntKind.i64 :: LK.i IntKind.i64 :: LK.i IntKind.i64 :: List.nil)) y11 (nat_lit 71)]
noncomputable abbrev chmotion_S3:St := St.mk (some (SV.yld (nat_lit 17)) :: some (SV.ptr (nat_lit 16) (nat_lit 0)) :: nn 6 (some (SV.int .i64 (0:Int)) :: some (SV.int .i64 (0:Int)) :: nn 23 ([]))) [.cells [SV.bool false] (nat_lit 28),.seq kP [] (nat_lit 24),.seq kP [] (nat_lit 24),.seq kP [] (nat_lit 24),.seq kP [] (nat_lit 24),.cells [SV.sl (nat_lit 3),SV.sl (nat_lit 4)] (nat_lit 77),.seq kP [] (nat_lit 24),.seq kP [] (nat_lit 24),.cells [SV.sl (nat_lit 6),SV.sl (nat_lit 7)] (nat_lit 77),.cells [SV.bool false] (nat_lit 28),.cells [SV.ptr (nat_lit 9) (nat_lit 0),SV.sl (nat_lit 18)] (nat_lit 69),SObj.dead,.seq kP [] (nat_lit 24),.seq kP [] (nat_lit 24),.cells [SV.sl (nat_lit 12),SV.sl (nat_lit 13)] (nat_lit 77),.cells [SV.ptr (nat_lit 9) (nat_lit 0)] (nat_lit 26),.cells [SV.ptr (nat_lit 10) (nat_lit 0)] (nat_lit 66),SObj.lp (nat_lit 37) [false,true,true] [none,none,some (SV.ptr (nat_lit 15) (nat_lit 0)),none,none,none,none,none,none,none,none,some (SV.fn (nat_lit 103) [] [SV.ptr (nat_lit 16) (nat_lit 0)]),none,none,none,none,none,none,none,none,none,none,none,none,none,none,none,none,none,none,none,none,none,none,none,none,none,none,none,none,none,none,none,none,none,none,none,none,none,none,none,none,none,none,none,none,none,none,none,none,none,none,none,none,none,none,none,none,none,none,none,none,none,none,none,none] LSt.ready,SObj.seq (K.st (LK.i IntKind.i64) (LK.i IntKind.i64 :: LK.i IntKind.i64 :: LK.i IntKind.i64 :: LK.i IntKind.i64 :: LK.i IntKind.i64 :: LK.i IntKind.i64 :: LK.i IntKind.i64 :: LK.i IntKind.i64 :: LK.i IntKind.i64 :: LK.i IntKind.i64 :: LK.i IntKind.i64 :: LK.i IntKind.i64 :: LK.i IntKind.i64 :: LK.i IntKind.i64 :: LK.i IntKind.i64 :: LK.i IntKind.i64 :: LK.b :: LK.i IntKind.i64 :: LK.i IntKind.i64 :: LK.i IntKind.i64 :: LK.i IntKind.i64 :: LK.i IntKind.i64 :: LK.i IntKind.i64 :: LK.i IntKind.i64 :: LK.i IntKind.i64 :: LK.i IntKind.i64 :: LK.i IntKind.i64 :: LK.i IntKind.i64 :: LK.i IntKind.i64 :: LK.i IntKind.i64 :: LK.i IntKind.i64 :: LK.i IntKind.i64 :: LK.i IntKind.i64 :: List.nil)) [] (nat_lit 71)]
noncomputable abbrev chmotion_S4 (y1 y2:Int) (y3:Bool) (y4 y5 y6 y7 y8 y9:L3) (y10:Bool) (y11:List L34) (y12 y13 y14 y15:L3):St := St.mk (some (SV.ptr (nat_lit 10) (nat_lit 0)) :: none :: some (SV.ptr (nat_lit 13) (nat_lit 0)) :: some (SV.ptr (nat_lit 16) (nat_lit 0)) :: nn 7 (some (SV.sl (nat_lit 12)) :: some (SV.int .i64 y1) :: some (SV.int .i64 y2) :: nn 23 ([]))) [.cells [SV.bool y3] (nat_lit 28),.seq kP y4 (nat_lit 24),.seq kP y5 (nat_lit 24),.seq kP y6 (nat_lit 24),.seq kP y7 (nat_lit 24),.cells [SV.sl (nat_lit 3),SV.sl (nat_lit 4)] (nat_lit 77),.seq kP y8 (nat_lit 24),.seq kP y9 (nat_lit 24),.cells [SV.sl (nat_lit 6),SV.sl (nat_lit 7)] (nat_lit 77),.cells [SV.bool y10] (nat_lit 28),.cells [SV.ptr (nat_lit 9) (nat_lit 0),SV.sl (nat_lit 12)] (nat_lit 69),SObj.dead,SObj.seq (K.st (LK.i IntKind.i64) (LK.i IntKind.i64 :: LK.i IntKind.i64 :: LK.i IntKind.i64 :: LK.i IntKind.i64 :: LK.i IntKind.i64 :: LK.i IntKind.i64 :: LK.i IntKind.i64 :: LK.i IntKind.i64 :: LK.i IntKind.i64 :: LK.i IntKind.i64 :: LK.i IntKind.i64 :: LK.i IntKind.i64 :: LK.i IntKind.i64 :: LK.i IntKind.i64 :: LK.i IntKind.i64 :: LK.i IntKind.i64 :: LK.b :: LK.i IntKind.i64 :: LK.i IntKind.i64 :: LK.i IntKind.i64 :: LK.i IntKind.i64 :: LK.i IntKind.i64 :: LK.i IntKind.i64 :: LK.i IntKind.i64 :: LK.i IntKind.i64 :: LK.i IntKind.i64 :: LK.i IntKind.i64 :: LK.i IntKind.i64 :: LK.i IntKind.i64 :: LK.i IntKind.i64 :: LK.i IntKind.i64 :: LK.i IntKind.i64 :: LK.i IntKind.i64 :: List.nil)) y11 (nat_lit 71),.cells [SV.sl (nat_lit 14),SV.sl (nat_lit 15)] (nat_lit 77),.seq kP y12 (nat_lit 24),.seq kP y13 (nat_lit 24),.cells [SV.sl (nat_lit 17),SV.sl (nat_lit 18)] (nat_lit 77),.seq kP y14 (nat_lit 24),.seq kP y15 (nat_lit 24)]
noncomputable abbrev chmotion_S5 (y1:Bool) (y2 y3 y4 y5 y6 y7:L3) (y8:Bool) (y9:List L34) (y10 y11 y12 y13:L3):St := St.mk (none :: none :: some (SV.ptr (nat_lit 13) (nat_lit 0)) :: some (SV.ptr (nat_lit 16) (nat_lit 0)) :: nn 33 ([])) [.cells [SV.bool y1] (nat_lit 28),.seq kP y2 (nat_lit 24),.seq kP y3 (nat_lit 24),.seq kP y4 (nat_lit 24),.seq kP y5 (nat_lit 24),.cells [SV.sl (nat_lit 3),SV.sl (nat_lit 4)] (nat_lit 77),.seq kP y6 (nat_lit 24),.seq kP y7 (nat_lit 24),.cells [SV.sl (nat_lit 6),SV.sl (nat_lit 7)] (nat_lit 77),.cells [SV.bool y8] (nat_lit 28),.cells [SV.ptr (nat_lit 9) (nat_lit 0),SV.sl (nat_lit 12)] (nat_lit 69),SObj.dead,SObj.seq (K.st (LK.i IntKind.i64) (LK.i IntKind.i64 :: LK.i IntKind.i64 :: LK.i IntKind.i64 :: LK.i IntKind.i64 :: LK.i IntKind.i64 :: LK.i IntKind.i64 :: LK.i IntKind.i64 :: LK.i IntKind.i64 :: LK.i IntKind.i64 :: LK.i IntKind.i64 :: LK.i IntKind.i64 :: LK.i IntKind.i64 :: LK.i IntKind.i64 :: LK.i IntKind.i64 :: LK.i IntKind.i64 :: LK.i IntKind.i64 :: LK.b :: LK.i IntKind.i64 :: LK.i IntKind.i64 :: LK.i IntKind.i64 :: LK.i IntKind.i64 :: LK.i IntKind.i64 :: LK.i IntKind.i64 :: LK.i IntKind.i64 :: LK.i IntKind.i64 :: LK.i IntKind.i64 :: LK.i IntKind.i64 :: LK.i IntKind.i64 :: LK.i IntKind.i64 :: LK.i IntKind.i64 :: LK.i IntKind.i64 :: LK.i IntKind.i64 :: LK.i IntKind.i64 :: List.nil)) y9 (nat_lit 71),.cells [SV.sl (nat_lit 14),SV.sl (nat_lit 15)] (nat_lit 77),.seq kP y10 (nat_lit 24),.seq kP y11 (nat_lit 24),.cells [SV.sl (nat_lit 17),SV.sl (nat_lit 18)] (nat_lit 77),.seq kP y12 (nat_lit 24),.seq kP y13 (nat_lit 24)]
noncomputable abbrev chmotion_S6:St := St.mk (some (SV.ptr (nat_lit 10) (nat_lit 0)) :: none :: some (SV.ptr (nat_lit 13) (nat_lit 0)) :: some (SV.ptr (nat_lit 16) (nat_lit 0)) :: nn 7 (some (SV.sl (nat_lit 12)) :: some (SV.int .i64 (0:Int)) :: some (SV.int .i64 (0:Int)) :: nn 23 ([]))) [.cells [SV.bool false] (nat_lit 28),.seq kP [] (nat_lit 24),.seq kP [] (nat_lit 24),.seq kP [] (nat_lit 24),.seq kP [] (nat_lit 24),.cells [SV.sl (nat_lit 3),SV.sl (nat_lit 4)] (nat_lit 77),.seq kP [] (nat_lit 24),.seq kP [] (nat_lit 24),.cells [SV.sl (nat_lit 6),SV.sl (nat_lit 7)] (nat_lit 77),.cells [SV.bool false] (nat_lit 28),.cells [SV.ptr (nat_lit 9) (nat_lit 0),SV.sl (nat_lit 12)] (nat_lit 69),SObj.dead,SObj.seq (K.st (LK.i IntKind.i64) (LK.i IntKind.i64 :: LK.i IntKind.i64 :: LK.i IntKind.i64 :: LK.i IntKind.i64 :: LK.i IntKind.i64 :: LK.i IntKind.i64 :: LK.i IntKind.i64 :: LK.i IntKind.i64 :: LK.i IntKind.i64 :: LK.i IntKind.i64 :: LK.i IntKind.i64 :: LK.i IntKind.i64 :: LK.i IntKind.i64 :: LK.i IntKind.i64 :: LK.i IntKind.i64 :: LK.i IntKind.i64 :: LK.b :: LK.i IntKind.i64 :: LK.i IntKind.i64 :: LK.i IntKind.i64 :: LK.i IntKind.i64 :: LK.i IntKind.i64 :: LK.i IntKind.i64 :: LK.i IntKind.i64 :: LK.i IntKind.i64 :: LK.i IntKind.i64 :: LK.i IntKind.i64 :: LK.i IntKind.i64 :: LK.i IntKind.i64 :: LK.i IntKind.i64 :: LK.i IntKind.i64 :: LK.i IntKind.i64 :: LK.i IntKind.i64 :: List.nil)) [] (nat_lit 71),.cells [SV.sl (nat_lit 14),SV.sl (nat_lit 15)] (nat_lit 77),.seq kP [] (nat_lit 24),.seq kP [] (nat_lit 24),.cells [SV.sl (nat_lit 17),SV.sl (nat_lit 18)] (nat_lit 77),.seq kP [] (nat_lit 24),.seq kP [] (nat_lit 24)]
abbrev chmotion_P1:List Bool := [false,true,false,true,true,true]
noncomputable def M.chmotion_l0_step {α:Type} (x14:Int) (kn:Int → Bool → List L34 → Option α) (k1:Bool → List L34 → Option α) (x15:Int) (x23:Bool) (x26:List L34):Option α := let s27 := (↑(List.length x26):Int); let s28 := List.getD x26 (Int.toNat x15) ((0:Int),(0:Int),(0:Int),(0:Int),(0:Int),(0:Int),(0:Int),(0:Int),(0:Int),(0:Int),(0:Int),(0:Int),(0:Int),(0:Int),(0:Int),(0:Int),(0:Int),false,(0:Int),(0:Int),(0:Int),(0:Int),(0:Int),(0:Int),(0:Int),(0:Int),(0:Int),(0:Int),(0:Int),(0:Int),(0:Int),(0:Int),(0:Int),(0:Int)); let s29 := Prod.snd s28; let s30 := Prod.snd s29; let s31 := Prod.snd s30; let s32 := Prod.snd s31; let s33 := Prod.snd s32; let s34 := Prod.snd s33; let s35 := Prod.snd s34; let s36 := Prod.fst s35; let s37 := Prod.snd s35; let s38 := Prod.snd s37; let s39 := Prod.snd s38; let s40 := Prod.snd s39; let s41 := Prod.snd s40; let s42 := Prod.snd s41; let s43 := Prod.snd s42; let s44 := Prod.snd s43; let s45 := Prod.snd s44; let s46 := Prod.snd s45; let s47 := Prod.snd s46; let s48 := Prod.snd s47; let s49 := Prod.snd s48; let s50 := Prod.fst s48; let s51 := Prod.snd s49; let s52 := Prod.snd s51; let s53 := Prod.fst s52; let s54 := Prod.snd s52; let s55 := Prod.snd s54; let s56 := Prod.fst s54; let s57 := Prod.snd s55; let s58 := Prod.fst s55; let s59 := Prod.snd s57; let s60 := Prod.snd s59; let s61 := Prod.snd (Prod.snd (Prod.snd (Prod.snd s60))); let s62 := List.getD x26 (Int.toNat s36) ((0:Int),(0:Int),(0:Int),(0:Int),(0:Int),(0:Int),(0:Int),(0:Int),(0:Int),(0:Int),(0:Int),(0:Int),(0:Int),(0:Int),(0:Int),(0:Int),(0:Int),false,(0:Int),(0:Int),(0:Int),(0:Int),(0:Int),(0:Int),(0:Int),(0:Int),(0:Int),(0:Int),(0:Int),(0:Int),(0:Int),(0:Int),(0:Int),(0:Int)); let s63 := Prod.snd s62; let s64 := Prod.snd s63; let s65 := Prod.snd (Prod.snd (Prod.snd (Prod.snd (Prod.snd (Prod.snd (Prod.snd (Prod.snd (Prod.snd (Prod.snd (Prod.snd (Prod.snd (Prod.snd (Prod.snd (Prod.snd (Prod.snd (Prod.snd (Prod.snd (Prod.snd (Prod.snd (Prod.snd (Prod.snd (Prod.snd (Prod.snd (Prod.snd (Prod.snd s64))))))))))))))))))))))))); let s66 := Prod.fst s65; let s67 := Prod.snd s65; let s68 := Prod.snd s67; let s69 := Prod.fst s67; let s70 := Prod.fst s68; let s71 := V.tScale (s53,s56,s58) s50; let s72 := V.on s71 x23; let s73 := List.set x26 (Int.toNat x15) (Prod.fst s28,Prod.fst s29,Prod.fst s30,Prod.fst s31,Prod.fst s32,Prod.fst s33,Prod.fst s34,s36,Prod.fst s37,Prod.fst s38,Prod.fst s39,Prod.fst s40,Prod.fst s41,Prod.fst s42,Prod.fst s43,Prod.fst s44,Prod.fst s45,Prod.fst s46,Prod.fst s47,s50,Prod.fst s49,Prod.fst s51,s53,s56,s58,Prod.fst s57,Prod.fst s59,Prod.fst s60,(0:Int),(0:Int),(0:Int),s61); let s74 := List.getD s73 (Int.toNat x15) ((0:Int),(0:Int),(0:Int),(0:Int),(0:Int),(0:Int),(0:Int),(0:Int),(0:Int),(0:Int),(0:Int),(0:Int),(0:Int),(0:Int),(0:Int),(0:Int),(0:Int),false,(0:Int),(0:Int),(0:Int),(0:Int),(0:Int),(0:Int),(0:Int),(0:Int),(0:Int),(0:Int),(0:Int),(0:Int),(0:Int),(0:Int),(0:Int),(0:Int)); let s75 := Prod.snd s74; let s76 := Prod.fst s74; let s77 := Prod.fst s75; let s78 := Prod.snd s75; let s79 := Prod.snd s78; let s80 := Prod.fst s78; let s81 := Prod.snd s79; let s82 := Prod.snd s81; let s83 := Prod.snd s82; let s84 := Prod.snd s83; let s85 := Prod.snd s84; let s86 := Prod.snd s85; let s87 := Prod.snd s86; let s88 := Prod.snd s87; let s89 := Prod.snd s88; let s90 := Prod.snd s89; let s91 := Prod.snd s90; let s92 := Prod.snd s91; let s93 := Prod.snd s92; let s94 := Prod.snd s93; let s95 := Prod.snd s94; let s96 := Prod.snd s95; let s97 := Prod.snd s96; let s98 := Prod.snd s97; let s99 := Prod.snd s98; let s100 := Prod.snd s99; let s101 := Prod.snd s100; let s102 := Prod.snd s101; let s103 := Prod.snd s102; let s104 := Prod.snd s103; let s105 := Prod.snd s104; let s106 := Prod.snd s105; let s107 := List.set x26 (Int.toNat x15) (Prod.fst s28,Prod.fst s29,Prod.fst s30,Prod.fst s31,Prod.fst s32,Prod.fst s33,Prod.fst s34,s36,Prod.fst s37,Prod.fst s38,Prod.fst s39,Prod.fst s40,Prod.fst s41,Prod.fst s42,Prod.fst s43,Prod.fst s44,Prod.fst s45,Prod.fst s46,Prod.fst s47,s50,Prod.fst s49,Prod.fst s51,s53,s56,s58,Prod.fst s57,Prod.fst s59,Prod.fst s60,s66,s69,s70,s61); let s108 := List.getD s107 (Int.toNat x15) ((0:Int),(0:Int),(0:Int),(0:Int),(0:Int),(0:Int),(0:Int),(0:Int),(0:Int),(0:Int),(0:Int),(0:Int),(0:Int),(0:Int),(0:Int),(0:Int),(0:Int),false,(0:Int),(0:Int),(0:Int),(0:Int),(0:Int),(0:Int),(0:Int),(0:Int),(0:Int),(0:Int),(0:Int),(0:Int),(0:Int),(0:Int),(0:Int),(0:Int)); let s109 := Prod.fst s108; let s110 := Prod.snd s108; let s111 := Prod.fst s110; let s112 := Prod.snd s110; let s113 := Prod.fst s112; let s114 := Prod.snd s112; let s115 := Prod.snd s114; let s116 := Prod.snd s115; let s117 := Prod.snd s116; let s118 := Prod.snd s117; let s119 := Prod.snd s118; let s120 := Prod.snd s119; let s121 := Prod.snd s120; let s122 := Prod.snd s121; let s123 := Prod.snd s122; let s124 := Prod.snd s123; let s125 := Prod.snd s124; let s126 := Prod.snd s125; let s127 := Prod.snd s126; let s128 := Prod.snd s127; let s129 := Prod.snd s128; let s130 := Prod.snd s129; let s131 := Prod.snd s130; let s132 := Prod.snd s131; let s133 := Prod.snd s132; let s134 := Prod.snd s133; let s135 := Prod.snd s134; let s136 := Prod.snd s135; let s137 := Prod.snd s136; let s138 := Prod.snd s137; let s139 := Prod.snd s138; let s140 := Prod.snd s139; let s141 := V.tSub (s76,s77,s80) ((0:Int),(0:Int),(0:Int)); let s142 := V.tCross ((0:Int),(0:Int),(0:Int)) (V.q3 s141); let s143 := V.tAdd ((0:Int),(0:Int),(0:Int)) (V.q3 s142); let s144 := V.tSub (s109,s111,s113) (Prod.fst s62,Prod.fst s63,Prod.fst s64); let s145 := V.tCross (s66,s69,s70) (V.q3 s144); let s146 := V.tAdd (Prod.snd s68) (V.q3 s145); let s147 := V.on s143 (V.on s142 (V.on s141 s72)); let s148 := V.on s146 (V.on s145 (V.on s144 s72)); let s149 := List.set s73 (Int.toNat x15) (s76,s77,s80,Prod.fst s79,Prod.fst s81,Prod.fst s82,Prod.fst s83,Prod.fst s84,Prod.fst s85,Prod.fst s86,Prod.fst s87,Prod.fst s88,Prod.fst s89,Prod.fst s90,Prod.fst s91,Prod.fst s92,Prod.fst s93,Prod.fst s94,Prod.fst s95,Prod.fst s96,Prod.fst s97,Prod.fst s98,Prod.fst s99,Prod.fst s100,Prod.fst s101,Prod.fst s102,Prod.fst s103,Prod.fst s104,Prod.fst s105,Prod.fst s106,Prod.fst (Prod.snd s106),V.q3 s143); let s150 := List.getD s149 (Int.toNat x15) ((0:Int),(0:Int),(0:Int),(0:Int),(0:Int),(0:Int),(0:Int),(0:Int),(0:Int),(0:Int),(0:Int),(0:Int),(0:Int),(0:Int),(0:Int),(0:Int),(0:Int),false,(0:Int),(0:Int),(0:Int),(0:Int),(0:Int),(0:Int),(0:Int),(0:Int),(0:Int),(0:Int),(0:Int),(0:Int),(0:Int),(0:Int),(0:Int),(0:Int)); let s151 := Prod.snd s150; let s152 := Prod.snd s151; let s153 := Prod.snd s152; let s154 := Prod.snd s153; let s155 := Prod.snd s154; let s156 := Prod.snd s155; let s157 := Prod.snd s156; let s158 := Prod.snd s157; let s159 := Prod.snd s158; let s160 := Prod.snd s159; let s161 := Prod.snd s160; let s162 := Prod.snd s161; let s163 := Prod.snd s162; let s164 := Prod.snd s163; let s165 := Prod.snd s164; let s166 := Prod.snd s165; let s167 := Prod.snd s166; let s168 := Prod.fst s167; let s169 := Prod.snd s167; let s170 := Prod.snd s169; let s171 := Prod.snd s170; let s172 := Prod.snd s171; let s173 := Prod.snd s172; let s174 := Prod.snd s173; let s175 := Prod.snd s174; let s176 := Prod.snd s175; let s177 := Prod.snd s176; let s178 := Prod.snd s177; let s179 := Prod.snd s178; let s180 := Prod.fst s179; let s181 := Prod.snd s179; let s182 := Prod.fst s181; let s183 := Prod.snd s181; let s184 := Prod.snd s183; let s185 := Prod.fst s183; let s186 := V.tAdd s184 (V.q3 s71); let s187 := List.set s107 (Int.toNat x15) (s109,s111,s113,Prod.fst s114,Prod.fst s115,Prod.fst s116,Prod.fst s117,Prod.fst s118,Prod.fst s119,Prod.fst s120,Prod.fst s121,Prod.fst s122,Prod.fst s123,Prod.fst s124,Prod.fst s125,Prod.fst s126,Prod.fst s127,Prod.fst s128,Prod.fst s129,Prod.fst s130,Prod.fst s131,Prod.fst s132,Prod.fst s133,Prod.fst s134,Prod.fst s135,Prod.fst s136,Prod.fst s137,Prod.fst s138,Prod.fst s139,Prod.fst s140,Prod.fst (Prod.snd s140),V.q3 s146); let s188 := List.getD s187 (Int.toNat x15) ((0:Int),(0:Int),(0:Int),(0:Int),(0:Int),(0:Int),(0:Int),(0:Int),(0:Int),(0:Int),(0:Int),(0:Int),(0:Int),(0:Int),(0:Int),(0:Int),(0:Int),false,(0:Int),(0:Int),(0:Int),(0:Int),(0:Int),(0:Int),(0:Int),(0:Int),(0:Int),(0:Int),(0:Int),(0:Int),(0:Int),(0:Int),(0:Int),(0:Int)); let s189 := Prod.snd s188; let s190 := Prod.snd s189; let s191 := Prod.snd s190; let s192 := Prod.snd s191; let s193 := Prod.snd s192; let s194 := Prod.snd s193; let s195 := Prod.snd s194; let s196 := Prod.snd s195; let s197 := Prod.snd s196; let s198 := Prod.snd s197; let s199 := Prod.snd s198; let s200 := Prod.snd s199; let s201 := Prod.snd s200; let s202 := Prod.snd s201; let s203 := Prod.snd s202; let s204 := Prod.snd s203; let s205 := Prod.snd s204; let s206 := Prod.fst s205; let s207 := Prod.snd s205; let s208 := Prod.snd s207; let s209 := Prod.snd s208; let s210 := Prod.snd s209; let s211 := Prod.snd s210; let s212 := Prod.snd s211; let s213 := Prod.snd s212; let s214 := Prod.snd s213; let s215 := Prod.snd s214; let s216 := Prod.snd s215; let s217 := Prod.snd s216; let s218 := Prod.snd s217; let s219 := Prod.fst s217; let s220 := Prod.fst s218; let s221 := Prod.snd s218; let s222 := Prod.fst s221; let s223 := Prod.snd s221; let s224 := V.tAdd s223 (V.q3 s71); let s225 := V.tAdd (s180,s182,s185) (V.q3 s71); let s226 := V.tAdd (s219,s220,s222) (V.q3 s71); if cLt x15 x14 = true then if (0:Int) ≤ x15 ∧ x15 < s27 then if (0:Int) ≤ x15 ∧ x15 < s27 then if cLt s36 (0:Int) = true then if s168 = true then kn (IntKind.wrap .i64 (x15 + (1:Int))) (V.on s186 s147) (List.set s149 (Int.toNat x15) (Prod.fst s150,Prod.fst s151,Prod.fst s152,Prod.fst s153,Prod.fst s154,Prod.fst s155,Prod.fst s156,Prod.fst s157,Prod.fst s158,Prod.fst s159,Prod.fst s160,Prod.fst s161,Prod.fst s162,Prod.fst s163,Prod.fst s164,Prod.fst s165,Prod.fst s166,s168,Prod.fst s169,Prod.fst s170,Prod.fst s171,Prod.fst s172,Prod.fst s173,Prod.fst s174,Prod.fst s175,Prod.fst s176,Prod.fst s177,Prod.fst s178,s180,s182,s185,V.q3 s186)) else kn (IntKind.wrap .i64 (x15 + (1:Int))) (V.on s225 s147) (List.set s149 (Int.toNat x15) (Prod.fst s150,Prod.fst s151,Prod.fst s152,Prod.fst s153,Prod.fst s154,Prod.fst s155,Prod.fst s156,Prod.fst s157,Prod.fst s158,Prod.fst s159,Prod.fst s160,Prod.fst s161,Prod.fst s162,Prod.fst s163,Prod.fst s164,Prod.fst s165,Prod.fst s166,s168,Prod.fst s169,Prod.fst s170,Prod.fst s171,Prod.fst s172,Prod.fst s173,Prod.fst s174,Prod.fst s175,Prod.fst s176,Prod.fst s177,Prod.fst s178,V.x3 s225,V.y3 s225,V.z3 s225,s184)) else if (0:Int) ≤ s36 ∧ s36 < s27 then if s206 = true then kn (IntKind.wrap .i64 (x15 + (1:Int))) (V.on s224 s148) (List.set s187 (Int.toNat x15) (Prod.fst s188,Prod.fst s189,Prod.fst s190,Prod.fst s191,Prod.fst s192,Prod.fst s193,Prod.fst s194,Prod.fst s195,Prod.fst s196,Prod.fst s197,Prod.fst s198,Prod.fst s199,Prod.fst s200,Prod.fst s201,Prod.fst s202,Prod.fst s203,Prod.fst s204,s206,Prod.fst s207,Prod.fst s208,Prod.fst s209,Prod.fst s210,Prod.fst s211,Prod.fst s212,Prod.fst s213,Prod.fst s214,Prod.fst s215,Prod.fst s216,s219,s220,s222,V.q3 s224)) else kn (IntKind.wrap .i64 (x15 + (1:Int))) (V.on s226 s148) (List.set s187 (Int.toNat x15) (Prod.fst s188,Prod.fst s189,Prod.fst s190,Prod.fst s191,Prod.fst s192,Prod.fst s193,Prod.fst s194,Prod.fst s195,Prod.fst s196,Prod.fst s197,Prod.fst s198,Prod.fst s199,Prod.fst s200,Prod.fst s201,Prod.fst s202,Prod.fst s203,Prod.fst s204,s206,Prod.fst s207,Prod.fst s208,Prod.fst s209,Prod.fst s210,Prod.fst s211,Prod.fst s212,Prod.fst s213,Prod.fst s214,Prod.fst s215,Prod.fst s216,V.x3 s226,V.y3 s226,V.z3 s226,s223)) else none else none else none else k1 x23 x26
noncomputable def M.chmotion_l0 {α:Type} (x14:Int) (k1:Bool → List L34 → Option α):Nat → Int → Bool → List L34 → Option α
 | 0,_,_,_ => none
 | n + 1,x15,x23,x26 => M.chmotion_l0_step x14 (M.chmotion_l0 x14 k1 n) k1 x15 x23 x26
theorem chmotion_l0_step_eq {α:Type} (x14 x15:Int) (x16:Bool) (x17 x18 x19 x20 x21 x22:L3) (x23:Bool) (x24 x25:L3) (x26:List L34) (Q:Ex → St → Option α):(loopStep E (exec E look_chloads noLps 400) 103 [false,true] 18 (codeAt E.P 103 [false,true])) (chmotion_S1 x14 x15 x16 x17 x18 x19 x20 x21 x22 x23 x24 x25 x26) Q = M.chmotion_l0_step x14 (fun (x229:Int) (x230:Bool) (x231:List L34) => Q .normal (chmotion_S1 x14 x229 x16 x17 x18 x19 x20 x21 x22 x230 x24 x25 x231)) (fun (x227:Bool) (x228:List L34) => Q (.exit 0) (chmotion_S2 x16 x17 x18 x19 x20 x21 x22 x227 x24 x25 x228)) x15 x23 x26 := by kernel_rfl
theorem chmotion_l0_iter {α:Type} (x14:Int) (x16:Bool) (x17 x18 x19 x20 x21 x22 x24 x25:L3) (Q:Ex → St → Option α):∀ (n:Nat) (x15:Int) (x23:Bool) (x26:List L34),iter (loopStep E (exec E look_chloads noLps 400) 103 [false,true] 18 (codeAt E.P 103 [false,true])) n (chmotion_S1 x14 x15 x16 x17 x18 x19 x20 x21 x22 x23 x24 x25 x26) Q = M.chmotion_l0 x14 (fun (x227:Bool) (x228:List L34) => Q (.exit 0) (chmotion_S2 x16 x17 x18 x19 x20 x21 x22 x227 x24 x25 x228)) n x15 x23 x26
 | 0,_,_,_ => rfl
 | n + 1,x15,x23,x26 => (chmotion_l0_step_eq x14 x15 x16 x17 x18 x19 x20 x21 x22 x23 x24 x25 x26 (iterK (loopStep E (exec E look_chloads noLps 400) 103 [false,true] 18 (codeAt E.P 103 [false,true])) n Q)).trans (congrArg (fun kn => M.chmotion_l0_step x14 kn (fun (x227:Bool) (x228:List L34) => Q (.exit 0) (chmotion_S2 x16 x17 x18 x19 x20 x21 x22 x227 x24 x25 x228)) x15 x23 x26) (funext fun x15 => funext fun x23 => funext fun x26 => chmotion_l0_iter x14 x16 x17 x18 x19 x20 x21 x22 x24 x25 Q n x15 x23 x26))
noncomputable def chmotion_l0_go {α:Type} (ds:List D) (Q:Ex → St → Option α):Option α :=
 dI ds fun x14 ds => dI ds fun x15 ds => dB ds fun x16 ds => dL kP ds fun x17 ds => dL kP ds fun x18 ds => dL kP ds fun x19 ds => dL kP ds fun x20 ds => dL kP ds fun x21 ds => dL kP ds fun x22 ds => dB ds fun x23 ds => dL kP ds fun x24 ds => dL kP ds fun x25 ds => dL (K.st (LK.i IntKind.i64)
 (LK.i IntKind.i64 :: LK.i IntKind.i64 :: LK.i IntKind.i64 :: LK.i IntKind.i64 :: LK.i IntKind.i64 :: LK.i IntKind.i64 :: LK.i IntKind.i64 :: LK.i IntKind.i64 :: LK.i IntKind.i64 :: LK.i IntKind.i64 :: LK.i IntKind.i64 :: LK.i IntKind.i64 :: LK.i IntKind.i64 :: LK.i IntKind.i64 :: LK.i IntKind.i64 :: LK.i IntKind.i64 :: LK.b :: LK.i IntKind.i64 :: LK.i IntKind.i64 :: LK.i IntKind.i64 :: LK.i IntKind.i64 :: LK.i IntKind.i64 :: LK.i IntKind.i64 :: LK.i IntKind.i64 :: LK.i IntKind.i64 :: LK.i IntKind.i64 :: LK.i IntKind.i64 :: LK.i IntKind.i64 :: LK.i IntKind.i64 :: LK.i IntKind.i64 :: LK.i IntKind.i64 :: LK.i IntKind.i64 :: LK.i IntKind.i64 :: List.nil)) ds fun x26 ds => dE ds (M.chmotion_l0 x14 (fun (x227:Bool) (x228:List L34) => Q (.exit 0) (chmotion_S2 x16 x17 x18 x19 x20 x21 x22 x227 x24 x25 x228)) (100 + x17.length + x18.length + x19.length + x20.length + x21.length + x22.length + x24.length + x25.length + x26.length) x15 x23 x26)
theorem chmotion_l0_ok {α:Type}:LoopOk E.P 103 [false,true] 18 (lEnt (α := α) (chmotion_S3) chmotion_l0_go) :=
 lEnt_ok E (exec_sound E E_ok (look_chloads_ok) (noLps_ok _) 400) fun ds Q r h S hS => by
   unfold chmotion_l0_go at h
   obtain ⟨x14,ds,rfl,h1⟩ := dI_inv h
   obtain ⟨x15,ds,rfl,h2⟩ := dI_inv h1
   obtain ⟨x16,ds,rfl,h3⟩ := dB_inv h2
   obtain ⟨x17,ds,rfl,h4⟩ := dL_inv h3
   obtain ⟨x18,ds,rfl,h5⟩ := dL_inv h4
   obtain ⟨x19,ds,rfl,h6⟩ := dL_inv h5
   obtain ⟨x20,ds,rfl,h7⟩ := dL_inv h6
   obtain ⟨x21,ds,rfl,h8⟩ := dL_inv h7
   obtain ⟨x22,ds,rfl,h9⟩ := dL_inv h8
   obtain ⟨x23,ds,rfl,h10⟩ := dB_inv h9
   obtain ⟨x24,ds,rfl,h11⟩ := dL_inv h10
   obtain ⟨x25,ds,rfl,h12⟩ := dL_inv h11
   obtain ⟨x26,ds,rfl,h13⟩ := dL_inv h12
   obtain ⟨rfl,hE⟩ := dE_inv h13
   have e:fillS (chmotion_S3) [.i x14,.i x15,.b x16,.l kP x17,.l kP x18,.l kP x19,.l kP x20,.l kP x21,.l kP x22,.b x23,.l kP x24,.l kP x25,.l (K.st (LK.i IntKind.i64)
 (LK.i IntKind.i64 :: LK.i IntKind.i64 :: LK.i IntKind.i64 :: LK.i IntKind.i64 :: LK.i IntKind.i64 :: LK.i IntKind.i64 :: LK.i IntKind.i64 :: LK.i IntKind.i64 :: LK.i IntKind.i64 :: LK.i IntKind.i64 :: LK.i IntKind.i64 :: LK.i IntKind.i64 :: LK.i IntKind.i64 :: LK.i IntKind.i64 :: LK.i IntKind.i64 :: LK.i IntKind.i64 :: LK.b :: LK.i IntKind.i64 :: LK.i IntKind.i64 :: LK.i IntKind.i64 :: LK.i IntKind.i64 :: LK.i IntKind.i64 :: LK.i IntKind.i64 :: LK.i IntKind.i64 :: LK.i IntKind.i64 :: LK.i IntKind.i64 :: LK.i IntKind.i64 :: LK.i IntKind.i64 :: LK.i IntKind.i64 :: LK.i IntKind.i64 :: LK.i IntKind.i64 :: LK.i IntKind.i64 :: LK.i IntKind.i64 :: List.nil)) x26] = some (chmotion_S1 x14 x15 x16 x17 x18 x19 x20 x21 x22 x23 x24 x25 x26) := by kernel_rfl
   rw [e] at hS
   cases hS
   exact ⟨_,(chmotion_l0_iter x14 x16 x17 x18 x19 x20 x21 x22 x24 x25 Q _ x15 x23 x26).trans hE⟩
noncomputable def chmotion_l0_lps {α:Type}:LookL α := addLp 103 [false,true] 18 (lEnt (chmotion_S3) chmotion_l0_go) noLps
theorem chmotion_l0_lps_ok {α:Type}:LoopsOk E.P (chmotion_l0_lps (α := α)) := addLp_ok chmotion_l0_ok (noLps_ok _)
noncomputable def M.chmotion_l1_step {α:Type} (x250:Int) (x260:List L34) (kn:Int → Bool → L3 → L3 → Option α) (k1:Bool → L3 → L3 → Option α) (x251:Int) (x259:Bool) (x263 x264:L3):Option α := let s265 := List.getD x260 (Int.toNat x251) ((0:Int),(0:Int),(0:Int),(0:Int),(0:Int),(0:Int),(0:Int),(0:Int),(0:Int),(0:Int),(0:Int),(0:Int),(0:Int),(0:Int),(0:Int),(0:Int),(0:Int),false,(0:Int),(0:Int),(0:Int),(0:Int),(0:Int),(0:Int),(0:Int),(0:Int),(0:Int),(0:Int),(0:Int),(0:Int),(0:Int),(0:Int),(0:Int),(0:Int)); let s266 := Prod.snd s265; let s267 := Prod.snd s266; let s268 := Prod.snd (Prod.snd (Prod.snd (Prod.snd (Prod.snd (Prod.snd (Prod.snd (Prod.snd (Prod.snd (Prod.snd (Prod.snd (Prod.snd (Prod.snd (Prod.snd (Prod.snd (Prod.snd (Prod.snd (Prod.snd (Prod.snd (Prod.snd (Prod.snd (Prod.snd (Prod.snd s267)))))))))))))))))))))); let s269 := Prod.snd s268; let s270 := Prod.snd s269; let s271 := Prod.snd s270; let s272 := Prod.fst s271; let s273 := Prod.snd s271; let s274 := Prod.snd s273; let s275 := Prod.fst s273; let s276 := Prod.fst s274; let s277 := V.tSub (Prod.fst s268,Prod.fst s269,Prod.fst s270) (Prod.fst s265,Prod.fst s266,Prod.fst s267); let s278 := V.tCross (s272,s275,s276) (V.q3 s277); let s279 := V.tAdd (Prod.snd s274) (V.q3 s278); if cLt x251 x250 = true then if (0:Int) ≤ x251 ∧ x251 < (↑(List.length x260):Int) then if (List.length x263 + ((0:Nat) + (1:Nat))) * (24:Nat) ≤ (140737488355328:Nat) then if (List.length x264 + ((0:Nat) + (1:Nat))) * (24:Nat) ≤ (140737488355328:Nat) then kn (IntKind.wrap .i64 (x251 + (1:Int))) (V.on s279 (V.on s278 (V.on s277 x259))) (x263 ++ [(s272,s275,s276)]) (x264 ++ [V.q3 s279]) else none else none else none else k1 x259 x263 x264
noncomputable def M.chmotion_l1 {α:Type} (x250:Int) (x260:List L34) (k1:Bool → L3 → L3 → Option α):Nat → Int → Bool → L3 → L3 → Option α
 | 0,_,_,_,_ => none
 | n + 1,x251,x259,x263,x264 => M.chmotion_l1_step x250 x260 (M.chmotion_l1 x250 x260 k1 n) k1 x251 x259 x263 x264
theorem chmotion_l1_step_eq {α:Type} (x250 x251:Int) (x252:Bool) (x253 x254 x255 x256 x257 x258:L3) (x259:Bool) (x260:List L34) (x261 x262 x263 x264:L3) (Q:Ex → St → Option α):(loopStep E (exec E look_chloads chmotion_l0_lps 400) 36 chmotion_P1 12 (codeAt E.P 36 chmotion_P1)) (chmotion_S4 x250 x251 x252 x253 x254 x255 x256 x257 x258 x259 x260 x261 x262 x263 x264) Q = M.chmotion_l1_step x250 x260 (fun (x283:Int) (x284:Bool) (x285 x286:L3) => Q .normal (chmotion_S4 x250 x283 x252 x253 x254 x255 x256 x257 x258 x284 x260 x261 x262 x285 x286)) (fun (x280:Bool) (x281 x282:L3) => Q (.exit 0) (chmotion_S5 x252 x253 x254 x255 x256 x257 x258 x280 x260 x261 x262 x281 x282)) x251 x259 x263 x264 := by kernel_rfl
theorem chmotion_l1_iter {α:Type} (x250:Int) (x252:Bool) (x253 x254 x255 x256 x257 x258:L3) (x260:List L34) (x261 x262:L3) (Q:Ex → St → Option α):∀ (n:Nat) (x251:Int) (x259:Bool) (x263 x264:L3),iter (loopStep E (exec E look_chloads chmotion_l0_lps 400) 36 chmotion_P1 12 (codeAt E.P 36 chmotion_P1)) n (chmotion_S4 x250 x251 x252 x253 x254 x255 x256 x257 x258 x259 x260 x261 x262 x263 x264) Q = M.chmotion_l1 x250 x260 (fun (x280:Bool) (x281 x282:L3) => Q (.exit 0) (chmotion_S5 x252 x253 x254 x255 x256 x257 x258 x280 x260 x261 x262 x281 x282)) n x251 x259 x263 x264
 | 0,_,_,_,_ => rfl
 | n + 1,x251,x259,x263,x264 => (chmotion_l1_step_eq x250 x251 x252 x253 x254 x255 x256 x257 x258 x259 x260 x261 x262 x263 x264 (iterK (loopStep E (exec E look_chloads chmotion_l0_lps 400) 36 chmotion_P1 12 (codeAt E.P 36 chmotion_P1)) n Q)).trans (congrArg (fun kn => M.chmotion_l1_step x250 x260 kn (fun (x280:Bool) (x281 x282:L3) => Q (.exit 0) (chmotion_S5 x252 x253 x254 x255 x256 x257 x258 x280 x260 x261 x262 x281 x282)) x251 x259 x263 x264) (funext fun x251 => funext fun x259 => funext fun x263 => funext fun x264 => chmotion_l1_iter x250 x252 x253 x254 x255 x256 x257 x258 x260 x261 x262 Q n x251 x259 x263 x264))
noncomputable def chmotion_l1_go {α:Type} (ds:List D) (Q:Ex → St → Option α):Option α :=
 dI ds fun x250 ds => dI ds fun x251 ds => dB ds fun x252 ds => dL kP ds fun x253 ds => dL kP ds fun x254 ds => dL kP ds fun x255 ds => dL kP ds fun x256 ds => dL kP ds fun x257 ds => dL kP ds fun x258 ds => dB ds fun x259 ds => dL (K.st (LK.i IntKind.i64)
 (LK.i IntKind.i64 :: LK.i IntKind.i64 :: LK.i IntKind.i64 :: LK.i IntKind.i64 :: LK.i IntKind.i64 :: LK.i IntKind.i64 :: LK.i IntKind.i64 :: LK.i IntKind.i64 :: LK.i IntKind.i64 :: LK.i IntKind.i64 :: LK.i IntKind.i64 :: LK.i IntKind.i64 :: LK.i IntKind.i64 :: LK.i IntKind.i64 :: LK.i IntKind.i64 :: LK.i IntKind.i64 :: LK.b :: LK.i IntKind.i64 :: LK.i IntKind.i64 :: LK.i IntKind.i64 :: LK.i IntKind.i64 :: LK.i IntKind.i64 :: LK.i IntKind.i64 :: LK.i IntKind.i64 :: LK.i IntKind.i64 :: LK.i IntKind.i64 :: LK.i IntKind.i64 :: LK.i IntKind.i64 :: LK.i IntKind.i64 :: LK.i IntKind.i64 :: LK.i IntKind.i64 :: LK.i IntKind.i64 :: LK.i IntKind.i64 :: List.nil)) ds fun x260 ds => dL kP ds fun x261 ds => dL kP ds fun x262 ds => dL kP ds fun x263 ds => dL kP ds fun x264 ds => dE ds (M.chmotion_l1 x250 x260 (fun (x280:Bool) (x281 x282:L3) => Q (.exit 0) (chmotion_S5 x252 x253 x254 x255 x256 x257 x258 x280 x260 x261 x262 x281 x282)) (100 + x253.length + x254.length + x255.length + x256.length + x257.length + x258.length + x260.length + x261.length + x262.length + x263.length + x264.length) x251 x259 x263 x264)
theorem chmotion_l1_ok {α:Type}:LoopOk E.P 36 chmotion_P1 12 (lEnt (α := α) (chmotion_S6) chmotion_l1_go) :=
 lEnt_ok E (exec_sound E E_ok (look_chloads_ok) (chmotion_l0_lps_ok) 400) fun ds Q r h S hS => by
   unfold chmotion_l1_go at h
   obtain ⟨x250,ds,rfl,h1⟩ := dI_inv h
   obtain ⟨x251,ds,rfl,h2⟩ := dI_inv h1
   obtain ⟨x252,ds,rfl,h3⟩ := dB_inv h2
   obtain ⟨x253,ds,rfl,h4⟩ := dL_inv h3
   obtain ⟨x254,ds,rfl,h5⟩ := dL_inv h4
   obtain ⟨x255,ds,rfl,h6⟩ := dL_inv h5
   obtain ⟨x256,ds,rfl,h7⟩ := dL_inv h6
   obtain ⟨x257,ds,rfl,h8⟩ := dL_inv h7
   obtain ⟨x258,ds,rfl,h9⟩ := dL_inv h8
   obtain ⟨x259,ds,rfl,h10⟩ := dB_inv h9
   obtain ⟨x260,ds,rfl,h11⟩ := dL_inv h10
   obtain ⟨x261,ds,rfl,h12⟩ := dL_inv h11
   obtain ⟨x262,ds,rfl,h13⟩ := dL_inv h12
   obtain ⟨x263,ds,rfl,h14⟩ := dL_inv h13
   obtain ⟨x264,ds,rfl,h15⟩ := dL_inv h14
   obtain ⟨rfl,hE⟩ := dE_inv h15
   have e:fillS (chmotion_S6) [.i x250,.i x251,.b x252,.l kP x253,.l kP x254,.l kP x255,.l kP x256,.l kP x257,.l kP x258,.b x259,.l (K.st (LK.i IntKind.i64)
 (LK.i IntKind.i64 :: LK.i IntKind.i64 :: LK.i IntKind.i64 :: LK.i IntKind.i64 :: LK.i IntKind.i64 :: LK.i IntKind.i64 :: LK.i IntKind.i64 :: LK.i IntKind.i64 :: LK.i IntKind.i64 :: LK.i IntKind.i64 :: LK.i IntKind.i64 :: LK.i IntKind.i64 :: LK.i IntKind.i64 :: LK.i IntKind.i64 :: LK.i IntKind.i64 :: LK.i IntKind.i64 :: LK.b :: LK.i IntKind.i64 :: LK.i IntKind.i64 :: LK.i IntKind.i64 :: LK.i IntKind.i64 :: LK.i IntKind.i64 :: LK.i IntKind.i64 :: LK.i IntKind.i64 :: LK.i IntKind.i64 :: LK.i IntKind.i64 :: LK.i IntKind.i64 :: LK.i IntKind.i64 :: LK.i IntKind.i64 :: LK.i IntKind.i64 :: LK.i IntKind.i64 :: LK.i IntKind.i64 :: LK.i IntKind.i64 :: List.nil)) x260,.l kP x261,.l kP x262,.l kP x263,.l kP x264] = some (chmotion_S4 x250 x251 x252 x253 x254 x255 x256 x257 x258 x259 x260 x261 x262 x263 x264) := by kernel_rfl
   rw [e] at hS
   cases hS
   exact ⟨_,(chmotion_l1_iter x250 x252 x253 x254 x255 x256 x257 x258 x260 x261 x262 Q _ x251 x259 x263 x264).trans hE⟩
noncomputable def chmotion_l1_lps {α:Type}:LookL α := addLp 36 chmotion_P1 12 (lEnt (chmotion_S6) chmotion_l1_go) chmotion_l0_lps
theorem chmotion_l1_lps_ok {α:Type}:LoopsOk E.P (chmotion_l1_lps (α := α)) := addLp_ok chmotion_l1_ok (chmotion_l0_lps_ok)
noncomputable def M.chmotion {α:Type} (bad:Bool) (l:List L15) (k0:Bool → L3 → L3 → Option α):Option α := if (!cEq (V.chC l) (0:Int)) = true then k0 bad [] [] else if V.chC l = (0:Int) then M.chmotion_l0 (↑(List.length (V.lay l)):Int) (fun (x288:Bool) (x289:List L34) ↦ M.chmotion_l1 (↑(List.length x289):Int) x289 (fun (x290:Bool) (x291 x292:L3) ↦ if x290 = true then k0 true [] [] else k0 bad x291 x292) ((100:Nat) + List.length x289 + (0:Nat) + (0:Nat) + (0:Nat) + (0:Nat)) (0:Int) x288 [] []) ((100:Nat) + List.length (V.lay l)) (0:Int) false (V.lay l) else none
theorem chmotion_eq {α:Type} (bad:Bool) (l:List L15) (v287:Value) (Q:SV → Hp → Option α):callI E look_chloads (exec E look_chloads chmotion_l1_lps 400) 14 ([SV.ptr (nat_lit 0) (nat_lit 0),SV.ros v287 (K.st (LK.i IntKind.i64) [LK.i IntKind.i64,LK.i IntKind.i64,LK.i IntKind.i64,LK.i IntKind.i64,LK.i IntKind.i64,LK.i IntKind.i64,LK.i IntKind.i64,LK.i IntKind.i64,LK.i IntKind.i64,LK.b,LK.i IntKind.i64,LK.i IntKind.i64,LK.i IntKind.i64,LK.i IntKind.i64]) l]) ([.cells [SV.bool bad] (nat_lit 28)]) Q = M.chmotion bad l (fun (x293:Bool) (x294 x295:L3) => Q (SV.tup [SV.sl (nat_lit 1),SV.sl (nat_lit 2)]) ([.cells [SV.bool x293] (nat_lit 28),.seq kP x294 (nat_lit 24),.seq kP x295 (nat_lit 24)])) := by kernel_rfl
def chmotion_sp:List AS := [.ptr 28 [.bool false],.ro (.st (.i .i64) [.i .i64,.i .i64,.i .i64,.i .i64,.i .i64,.i .i64,.i .i64,.i .i64,.i .i64,.b,.i .i64,.i .i64,.i .i64,.i .i64])]
def bAt (b:L34):V.T3 := (b.1,b.2.1,b.2.2.1)
def bPar (b:L34):Int := b.2.2.2.2.2.2.2.1
def bSl (b:L34):Bool := b.2.2.2.2.2.2.2.2.2.2.2.2.2.2.2.2.2.1
def bSpd (b:L34):Int := b.2.2.2.2.2.2.2.2.2.2.2.2.2.2.2.2.2.2.2.1
def bAxis (b:L34):V.T3 := (b.2.2.2.2.2.2.2.2.2.2.2.2.2.2.2.2.2.2.2.2.2.2.1,b.2.2.2.2.2.2.2.2.2.2.2.2.2.2.2.2.2.2.2.2.2.2.2.1,b.2.2.2.2.2.2.2.2.2.2.2.2.2.2.2.2.2.2.2.2.2.2.2.2.1)
def bSpin (b:L34):V.T3 := (b.2.2.2.2.2.2.2.2.2.2.2.2.2.2.2.2.2.2.2.2.2.2.2.2.2.2.2.2.1,b.2.2.2.2.2.2.2.2.2.2.2.2.2.2.2.2.2.2.2.2.2.2.2.2.2.2.2.2.2.1,b.2.2.2.2.2.2.2.2.2.2.2.2.2.2.2.2.2.2.2.2.2.2.2.2.2.2.2.2.2.2.1)
def bSpeed (b:L34):V.T3 := (b.2.2.2.2.2.2.2.2.2.2.2.2.2.2.2.2.2.2.2.2.2.2.2.2.2.2.2.2.2.2.2.1,b.2.2.2.2.2.2.2.2.2.2.2.2.2.2.2.2.2.2.2.2.2.2.2.2.2.2.2.2.2.2.2.2.1,b.2.2.2.2.2.2.2.2.2.2.2.2.2.2.2.2.2.2.2.2.2.2.2.2.2.2.2.2.2.2.2.2.2)
def setSpin (b:L34) (s:V.T3):L34 := (b.1,b.2.1,b.2.2.1,b.2.2.2.1,b.2.2.2.2.1,b.2.2.2.2.2.1,b.2.2.2.2.2.2.1,b.2.2.2.2.2.2.2.1,b.2.2.2.2.2.2.2.2.1,b.2.2.2.2.2.2.2.2.2.1,b.2.2.2.2.2.2.2.2.2.2.1,b.2.2.2.2.2.2.2.2.2.2.2.1,b.2.2.2.2.2.2.2.2.2.2.2.2.1,b.2.2.2.2.2.2.2.2.2.2.2.2.2.1,b.2.2.2.2.2.2.2.2.2.2.2.2.2.2.1,b.2.2.2.2.2.2.2.2.2.2.2.2.2.2.2.1,b.2.2.2.2.2.2.2.2.2.2.2.2.2.2.2.2.1,b.2.2.2.2.2.2.2.2.2.2.2.2.2.2.2.2.2.1,b.2.2.2.2.2.2.2.2.2.2.2.2.2.2.2.2.2.2.1,b.2.2.2.2.2.2.2.2.2.2.2.2.2.2.2.2.2.2.2.1,b.2.2.2.2.2.2.2.2.2.2.2.2.2.2.2.2.2.2.2.2.1,b.2.2.2.2.2.2.2.2.2.2.2.2.2.2.2.2.2.2.2.2.2.1,b.2.2.2.2.2.2.2.2.2.2.2.2.2.2.2.2.2.2.2.2.2.2.1,b.2.2.2.2.2.2.2.2.2.2.2.2.2.2.2.2.2.2.2.2.2.2.2.1,b.2.2.2.2.2.2.2.2.2.2.2.2.2.2.2.2.2.2.2.2.2.2.2.2.1,b.2.2.2.2.2.2.2.2.2.2.2.2.2.2.2.2.2.2.2.2.2.2.2.2.2.1,b.2.2.2.2.2.2.2.2.2.2.2.2.2.2.2.2.2.2.2.2.2.2.2.2.2.2.1,b.2.2.2.2.2.2.2.2.2.2.2.2.2.2.2.2.2.2.2.2.2.2.2.2.2.2.2.1,s.1,s.2.1,s.2.2,b.2.2.2.2.2.2.2.2.2.2.2.2.2.2.2.2.2.2.2.2.2.2.2.2.2.2.2.2.2.2.2.1,b.2.2.2.2.2.2.2.2.2.2.2.2.2.2.2.2.2.2.2.2.2.2.2.2.2.2.2.2.2.2.2.2.1,b.2.2.2.2.2.2.2.2.2.2.2.2.2.2.2.2.2.2.2.2.2.2.2.2.2.2.2.2.2.2.2.2.2)
def setSpeed (b:L34) (s:V.T3):L34 := (b.1,b.2.1,b.2.2.1,b.2.2.2.1,b.2.2.2.2.1,b.2.2.2.2.2.1,b.2.2.2.2.2.2.1,b.2.2.2.2.2.2.2.1,b.2.2.2.2.2.2.2.2.1,b.2.2.2.2.2.2.2.2.2.1,b.2.2.2.2.2.2.2.2.2.2.1,b.2.2.2.2.2.2.2.2.2.2.2.1,b.2.2.2.2.2.2.2.2.2.2.2.2.1,b.2.2.2.2.2.2.2.2.2.2.2.2.2.1,b.2.2.2.2.2.2.2.2.2.2.2.2.2.2.1,b.2.2.2.2.2.2.2.2.2.2.2.2.2.2.2.1,b.2.2.2.2.2.2.2.2.2.2.2.2.2.2.2.2.1,b.2.2.2.2.2.2.2.2.2.2.2.2.2.2.2.2.2.1,b.2.2.2.2.2.2.2.2.2.2.2.2.2.2.2.2.2.2.1,b.2.2.2.2.2.2.2.2.2.2.2.2.2.2.2.2.2.2.2.1,b.2.2.2.2.2.2.2.2.2.2.2.2.2.2.2.2.2.2.2.2.1,b.2.2.2.2.2.2.2.2.2.2.2.2.2.2.2.2.2.2.2.2.2.1,b.2.2.2.2.2.2.2.2.2.2.2.2.2.2.2.2.2.2.2.2.2.2.1,b.2.2.2.2.2.2.2.2.2.2.2.2.2.2.2.2.2.2.2.2.2.2.2.1,b.2.2.2.2.2.2.2.2.2.2.2.2.2.2.2.2.2.2.2.2.2.2.2.2.1,b.2.2.2.2.2.2.2.2.2.2.2.2.2.2.2.2.2.2.2.2.2.2.2.2.2.1,b.2.2.2.2.2.2.2.2.2.2.2.2.2.2.2.2.2.2.2.2.2.2.2.2.2.2.1,b.2.2.2.2.2.2.2.2.2.2.2.2.2.2.2.2.2.2.2.2.2.2.2.2.2.2.2.1,b.2.2.2.2.2.2.2.2.2.2.2.2.2.2.2.2.2.2.2.2.2.2.2.2.2.2.2.2.1,b.2.2.2.2.2.2.2.2.2.2.2.2.2.2.2.2.2.2.2.2.2.2.2.2.2.2.2.2.2.1,b.2.2.2.2.2.2.2.2.2.2.2.2.2.2.2.2.2.2.2.2.2.2.2.2.2.2.2.2.2.2.1,s.1,s.2.1,s.2.2)
noncomputable def mvK3 {α:Type} (kn:Int → Bool → List L34 → Option α) (i:Int) (Z:List L34) (a:Option V.T3) (f:Bool):Option α :=
 if bSl (Z.getD i.toNat bn0) = true then kn (IntKind.wrap .i64 (i + 1)) (V.on (V.tAdd (bSpeed (Z.getD i.toNat bn0)) (V.q3 a)) f) (Z.set i.toNat (setSpeed (Z.getD i.toNat bn0) (V.q3 (V.tAdd (bSpeed (Z.getD i.toNat bn0)) (V.q3 a)))))
 else kn (IntKind.wrap .i64 (i + 1)) (V.on (V.tAdd (bSpin (Z.getD i.toNat bn0)) (V.q3 a)) f) (Z.set i.toNat (setSpin (Z.getD i.toNat bn0) (V.q3 (V.tAdd (bSpin (Z.getD i.toNat bn0)) (V.q3 a)))))
noncomputable def mvK2 {α:Type} (kn:Int → Bool → List L34 → Option α) (i:Int) (Z:List L34) (a:Option V.T3) (f:Bool) (pat ps pv:V.T3):Option α :=
 mvK3 kn i (Z.set i.toNat (setSpeed (Z.getD i.toNat bn0) (V.q3 (V.tAdd pv (V.q3 (V.tCross ps (V.q3 (V.tSub (bAt (Z.getD i.toNat bn0)) pat)))))))) a
   (V.on (V.tAdd pv (V.q3 (V.tCross ps (V.q3 (V.tSub (bAt (Z.getD i.toNat bn0)) pat))))) (V.on (V.tCross ps (V.q3 (V.tSub (bAt (Z.getD i.toNat bn0)) pat))) (V.on (V.tSub (bAt (Z.getD i.toNat bn0)) pat) f)))
noncomputable def mvK1 {α:Type} (kn:Int → Bool → List L34 → Option α) (i:Int) (Z:List L34) (f:Bool) (pat ps pv:V.T3):Option α :=
 mvK2 kn i (Z.set i.toNat (setSpin (Z.getD i.toNat bn0) ps)) (V.tScale (bAxis (Z.getD i.toNat bn0)) (bSpd (Z.getD i.toNat bn0))) (V.on (V.tScale (bAxis (Z.getD i.toNat bn0)) (bSpd (Z.getD i.toNat bn0))) f) pat ps pv
noncomputable def mvK0 {α:Type} (n:Int) (kn:Int → Bool → List L34 → Option α) (k1:Bool → List L34 → Option α) (i:Int) (f:Bool) (Z:List L34):Option α :=
 if cLt i n = true then (if 0 ≤ i ∧ i < (Z.length:Int) then (if 0 ≤ i ∧ i < (Z.length:Int) then
   (if cLt (bPar (Z.getD i.toNat bn0)) 0 = true then mvK1 kn i Z f (0,0,0) (0,0,0) (0,0,0)
    else if 0 ≤ bPar (Z.getD i.toNat bn0) ∧ bPar (Z.getD i.toNat bn0) < (Z.length:Int) then
      mvK1 kn i Z f (bAt (Z.getD (bPar (Z.getD i.toNat bn0)).toNat bn0)) (bSpin (Z.getD (bPar (Z.getD i.toNat bn0)).toNat bn0)) (bSpeed (Z.getD (bPar (Z.getD i.toNat bn0)).toNat bn0))
    else none) else none) else none) else k1 f Z
theorem chmotion_step {α:Type} (n:Int) (kn:Int → Bool → List L34 → Option α) (k1:Bool → List L34 → Option α) (i:Int) (f:Bool) (Z:List L34):M.chmotion_l0_step n kn k1 i f Z = mvK0 n kn k1 i f Z := by kernel_rfl
theorem getD_set34 (Z:List L34) (i:Nat) (v:L34) (h:i < Z.length):(Z.set i v).getD i bn0 = v := by simp [List.getD_eq_getElem?_getD,h]
theorem mvK1_val {α:Type} (C:List L15) (P:List Pl) (acc:List MvI) (i:Nat) (hi:i < C.length) (hC:C.length ≤ 1000) (ha:acc.length = i) (q:MvI) (f:Bool) (kn:Int → Bool → List L34 → Option α) :
   mvK1 kn (i:Int) (zM C P acc) f (parP P (lnk C i).1) q.1 q.2 = kn ((i + 1:Nat):Int) (mvJ C P i q f).1 (zM C P (acc ++ [(mvJ C P i q f).2])) := by
 have hl := zM_len C P acc
 have g0 := zM_get C P acc i hi
 have g1:acc.getD i mv0 = mv0 := by rw [List.getD_eq_getElem?_getD,List.getElem?_eq_none (by omega)]; rfl
 rw [g1] at g0
 have hs := fun m => zM_set C P acc m (by omega)
 rw [ha] at hs
 unfold mvK1
 rw [toNat_natG,g0]
 unfold mvK2
 rw [toNat_natG,getD_set34 _ _ _ (by omega),List.set_set]
 unfold mvK3
 rw [toNat_natG,getD_set34 _ _ _ (by omega),List.set_set,List.set_set,w_next (by omega)]
 have e1:∀ m s,setSpin (bnM (lnk C i) (P.getD i pl0) m) s = bnM (lnk C i) (P.getD i pl0) (s,m.2) := fun m s => rfl
 have e2:∀ m s,setSpeed (bnM (lnk C i) (P.getD i pl0) m) s = bnM (lnk C i) (P.getD i pl0) (m.1,s) := fun m s => rfl
 rw [e1,e2,e1,e2,hs,hs]
 unfold mvJ
 by_cases h:lSl (lnk C i) = true
 · rw [if_pos (show bSl (bnM (lnk C i) (P.getD i pl0) _) = true from h), if_pos h]
   unfold mvE
   rw [if_pos h]
   rfl
 · rw [if_neg (show ¬ bSl (bnM (lnk C i) (P.getD i pl0) _) = true from h), if_neg h]
   unfold mvE
   rw [if_neg h]
   rfl
theorem chmotion_l0_val {α:Type} (C:List L15) (P:List Pl) (hC:C.length ≤ 1000) (ht:Tree C) (k1:Bool → List L34 → Option α):∀ (fuel i:Nat),i ≤ C.length → C.length - i < fuel →
   M.chmotion_l0 (C.length:Int) k1 fuel (i:Int) (mvL C P false i).1 (zM C P (mvL C P false i).2) = k1 (mvL C P false C.length).1 (zM C P (mvL C P false C.length).2)
 | 0,i,h1,h2 => by omega
 | f + 1,i,h1,h2 => by
   by_cases hi:i < C.length
   · have ih := chmotion_l0_val C P hC ht k1 f (i + 1) (by omega) (by omega)
     have hlen := mvL_len C P false i
     have hp := ht i _ (show C[i]? = some (lnk C i) by simp [lnk,List.getD_eq_getElem?_getD,hi])
     have g0 := zM_get C P (mvL C P false i).2 i hi
     have hz := zM_len C P (mvL C P false i).2
     have gp:bPar ((zM C P (mvL C P false i).2).getD i bn0) = (lnk C i).1 := by rw [g0]; rfl
     show M.chmotion_l0_step _ _ _ _ _ _ = _
     rw [chmotion_step]
     unfold mvK0
     rw [cLt_nat,if_pos (by simpa using hi),if_pos (by omega),if_pos (by omega),toNat_natG,gp,cLt_eq]
     by_cases h0:(lnk C i).1 < 0
     · rw [if_pos (decide_eq_true h0)]
       have hq := mvK1_val C P (mvL C P false i).2 i hi hC hlen mv0 (mvL C P false i).1 (M.chmotion_l0 (C.length:Int) k1 f)
       rw [show parP P (lnk C i).1 = (0,0,0) from if_pos h0] at hq
       refine Eq.trans hq ?_
       have e:parM (mvL C P false i).2 (lnk C i).1 = mv0 := if_pos h0
       have es:mvL C P false (i + 1) = ((mvJ C P i mv0 (mvL C P false i).1).1,(mvL C P false i).2 ++ [(mvJ C P i mv0 (mvL C P false i).1).2]) := by
         show ((mvJ C P i (parM (mvL C P false i).2 (lnk C i).1) (mvL C P false i).1).1,(mvL C P false i).2 ++ [(mvJ C P i (parM (mvL C P false i).2 (lnk C i).1) (mvL C P false i).1).2]) = _
         rw [e]
       rw [es] at ih
       exact ih
     · rw [if_neg (by rw [decide_eq_false h0]; decide), if_pos (by omega)]
       have hq0:(lnk C i).1.toNat < C.length := by omega
       have gq := zM_get C P (mvL C P false i).2 (lnk C i).1.toNat hq0
       have hq := mvK1_val C P (mvL C P false i).2 i hi hC hlen ((mvL C P false i).2.getD (lnk C i).1.toNat mv0) (mvL C P false i).1 (M.chmotion_l0 (C.length:Int) k1 f)
       rw [show parP P (lnk C i).1 = (P.getD (lnk C i).1.toNat pl0).1 from if_neg h0] at hq
       rw [gq]
       refine Eq.trans hq ?_
       have e:parM (mvL C P false i).2 (lnk C i).1 = (mvL C P false i).2.getD (lnk C i).1.toNat mv0 := if_neg h0
       have es:mvL C P false (i + 1) = ((mvJ C P i ((mvL C P false i).2.getD (lnk C i).1.toNat mv0) (mvL C P false i).1).1,(mvL C P false i).2 ++ [(mvJ C P i ((mvL C P false i).2.getD (lnk C i).1.toNat mv0) (mvL C P false i).1).2]) := by
         show ((mvJ C P i (parM (mvL C P false i).2 (lnk C i).1) (mvL C P false i).1).1,(mvL C P false i).2 ++ [(mvJ C P i (parM (mvL C P false i).2 (lnk C i).1) (mvL C P false i).1).2]) = _
         rw [e]
       rw [es] at ih
       exact ih
   · have : i = C.length := by omega
     subst this
     show M.chmotion_l0_step _ _ _ _ _ _ = _
     rw [chmotion_step]
     unfold mvK0
     rw [cLt_nat,if_neg (by simp)]
theorem chmotion_l1_val {α:Type} (C:List L15) (P:List Pl) (acc:List MvI) (bad:Bool) (hC:C.length ≤ 1000) (ha:acc.length = C.length) (k1:Bool → List V.T3 → List V.T3 → Option α):∀ (fuel i:Nat),i ≤ C.length → C.length - i < fuel →
   M.chmotion_l1 (C.length:Int) (zM C P acc) k1 fuel (i:Int) (pcL P acc bad i).1 ((acc.take i).map Prod.fst) (pcL P acc bad i).2 = k1 (pcL P acc bad C.length).1 (acc.map Prod.fst) (pcL P acc bad C.length).2
 | 0,i,h1,h2 => by omega
 | f + 1,i,h1,h2 => by
   by_cases hi:i < C.length
   · have ih := chmotion_l1_val C P acc bad hC ha k1 f (i + 1) (by omega) (by omega)
     have hl := pcL_len P acc bad i
     have g0:List.getD (zM C P acc) (Int.toNat (i:Int)) (0,0,0,0,0,0,0,0,0,0,0,0,0,0,0,0,0,false,0,0,0,0,0,0,0,0,0,0,0,0,0,0,0,0) = bnM (lnk C i) (P.getD i pl0) (acc.getD i mv0) := zM_get C P acc i hi
     have hz := zM_len C P acc
     have ht:(acc.take (i + 1)).map Prod.fst = (acc.take i).map Prod.fst ++ [(acc.getD i mv0).1] := by
       rw [List.take_add_one,List.map_append]
       simp [List.getD_eq_getElem?_getD,ha,hi]
     rw [ht] at ih
     unfold M.chmotion_l1 M.chmotion_l1_step
     simp only
     rw [cLt_nat,if_pos (by simpa using hi),g0,hz,if_pos (by omega),if_pos (by rw [List.length_map,List.length_take]; omega),if_pos (by omega),w_next (by omega)]
     exact ih
   · have : i = C.length := by omega
     subst this
     unfold M.chmotion_l1 M.chmotion_l1_step
     simp only
     rw [cLt_nat,if_neg (by simp),List.take_of_length_le (by omega)]
noncomputable def mvR (l:List L15):Bool × List MvI := mvL l (chP l) false l.length
noncomputable def pcR (l:List L15):Bool × List V.T3 := pcL (chP l) (mvR l).2 (mvR l).1 l.length
noncomputable def _root_.Go.Proofs.YtajomehkgaamoaaGreat.V.motB (l:List (Int × Int × Int × Int × Int × Int × Int × Int × Int × Int × Bool × Int × Int × Int × Int)) (bad:Bool):Bool := hid (if V.chC l = 0 ∧ (pcR l).1 = true then true else bad)
noncomputable def _root_.Go.Proofs.YtajomehkgaamoaaGreat.V.motS (l:List (Int × Int × Int × Int × Int × Int × Int × Int × Int × Int × Bool × Int × Int × Int × Int)):List (Int × Int × Int) := hid (if V.chC l = 0 ∧ (pcR l).1 = false then (mvR l).2.map Prod.fst else [])
noncomputable def _root_.Go.Proofs.YtajomehkgaamoaaGreat.V.motV (l:List (Int × Int × Int × Int × Int × Int × Int × Int × Int × Int × Bool × Int × Int × Int × Int)):List (Int × Int × Int) := hid (if V.chC l = 0 ∧ (pcR l).1 = false then (pcR l).2 else [])
theorem chmotion_v {α:Type} (bad:Bool) (l:List L15) (k0:Bool → List V.T3 → List V.T3 → Option α):M.chmotion bad l k0 = k0 (V.motB l bad) (V.motS l) (V.motV l) := by
 unfold M.chmotion V.motB V.motS V.motV
 try simp only
 rw [hid_eq,hid_eq,hid_eq,cEq_eq]
 by_cases h:V.chC l = 0
 · obtain ⟨e1, e2, e3, ht⟩ := lay_zip h
   have hl:(V.lay l).length = l.length := by rw [e1,List.length_zipWith]; omega
   have ez:V.lay l = zM l (chP l) [] := by rw [e1]; exact zM_nil l (chP l) e2
   rw [if_neg (by rw [h]; decide),if_pos h,hl,ez]
   refine Eq.trans (chmotion_l0_val l (chP l) (by omega) ht _ _ 0 (by omega) (by omega)) ?_
   have er:mvL l (chP l) false l.length = mvR l := rfl
   have hm := mvL_len l (chP l) false l.length
   rw [er] at hm ⊢
   simp only [zM_len]
   refine Eq.trans (chmotion_l1_val l (chP l) (mvR l).2 (mvR l).1 (by omega) hm _ _ 0 (by omega) (by omega)) ?_
   have ep:pcL (chP l) (mvR l).2 (mvR l).1 l.length = pcR l := rfl
   rw [ep]
   cases hb:(pcR l).1 with
   | true => simp [h]
   | false => simp [h]
 · rw [if_pos (by simpa using h)]
   simp [h]
noncomputable def chmotion_h {α:Type} (ds:List D) (Q:SV → Hp → Option α):Option α :=
 dB ds fun bad ds => dL (K.st (LK.i IntKind.i64) [LK.i IntKind.i64,LK.i IntKind.i64,LK.i IntKind.i64,LK.i IntKind.i64,LK.i IntKind.i64,LK.i IntKind.i64,LK.i IntKind.i64,LK.i IntKind.i64,LK.i IntKind.i64,LK.b,LK.i IntKind.i64,LK.i IntKind.i64,LK.i IntKind.i64,LK.i IntKind.i64]) ds fun l ds => dE ds (Q (.tup [.sl 1,.sl 2]) ([.cells [.bool (V.motB l bad)] 28,.seq kP (V.motS l) 24,.seq kP (V.motV l) 24]))
theorem chmotion_h_ok {α:Type}:FnOk E.P 14 (fEnt (α := α) chmotion_sp chmotion_h) :=
 fEntR_ok E (look_chloads_ok) (exec_sound E E_ok (look_chloads_ok) (chmotion_l1_lps_ok) 400) fun ds Q r h => by
   unfold chmotion_h at h
   obtain ⟨bad,ds,rfl,h1⟩ := dB_inv h
   obtain ⟨l,ds,rfl,h2⟩ := dL_inv h1
   obtain ⟨rfl,hE⟩ := dE_inv h2
   exact ⟨_,_,hE,fun vs => ⟨_,_,by kernel_rfl,(chmotion_eq bad l (vs.tail.headD undef) _).trans (chmotion_v bad l _)⟩⟩
noncomputable def look_chmotion {α:Type}:LookF α := addFn 14 (fEnt chmotion_sp chmotion_h) look_chloads
theorem look_chmotion_ok {α:Type}:LookOk E.P (look_chmotion (α := α)) := addFn_ok chmotion_h_ok (look_chloads_ok)
end
section
open Go
set_option maxRecDepth 20000
noncomputable abbrev chmomentum_S1 (y1 y2:Int) (y3:Bool) (y4 y5 y6 y7 y8 y9 y10 y11 y12:Int) (y13:Bool) (y14 y15 y16:Int) (y17:List L34):St := St.mk (some (SV.yld (nat_lit 10)) :: some (SV.ptr (nat_lit 9) (nat_lit 0)) :: nn 6 (some (SV.int .i64 y1) :: some (SV.int .i64 y2) :: nn 23 ([]))) [.cells [SV.bool y3] (nat_lit 28),.cells [SV.int .i64 y4,SV.int .i64 y5,SV.int .i64 y6] (nat_lit 24),.cells [SV.int .i64 y7,SV.int .i64 y8,SV.int .i64 y9] (nat_lit 24),.cells [SV.int .i64 y10,SV.int .i64 y11,SV.int .i64 y12] (nat_lit 24),.cells [SV.bool y13] (nat_lit 28),.cells [SV.ptr (nat_lit 4) (nat_lit 0),SV.sl (nat_lit 11)] (nat_lit 69),SObj.dead,.cells [SV.int .i64 y14,SV.int .i64 y15,SV.int .i64 y16] (nat_lit 24),.cells [SV.ptr (nat_lit 4) (nat_lit 0)] (nat_lit 26),.cells [SV.ptr (nat_lit 5) (nat_lit 0)] (nat_lit 66),SObj.lp (nat_lit 37) [false,true,true] [none,none,some (SV.ptr (nat_lit 8) (nat_lit 0)),none,none,none,none,none,none,none,none,some (SV.fn (nat_lit 103) [] [SV.ptr (nat_lit 9) (nat_lit 0)]),none,none,none,none,none,none,none,none,none,none,none,none,none,none,none,none,none,none,none,none,none,none,none,none,none,none,none,none,none,none,none,none,none,none,none,none,none,none,none,none,none,none,none,none,none,none,none,none,none,none,none,none,none,none,none,none,none,none,none,none,none,none,none,none] LSt.ready,SObj.seq (K.st (LK.i IntKind.i64) (LK.i IntKind.i64 :: LK.i IntKind.i64 :: LK.i IntKind.i64 :: LK.i IntKind.i64 :: LK.i IntKind.i64 :: LK.i IntKind.i64 :: LK.i IntKind.i64 :: LK.i IntKind.i64 :: LK.i IntKind.i64 :: LK.i IntKind.i64 :: LK.i IntKind.i64 :: LK.i IntKind.i64 :: LK.i IntKind.i64 :: LK.i IntKind.i64 :: LK.i IntKind.i64 :: LK.i IntKind.i64 :: LK.b :: LK.i IntKind.i64 :: LK.i IntKind.i64 :: LK.i IntKind.i64 :: LK.i IntKind.i64 :: LK.i IntKind.i64 :: LK.i IntKind.i64 :: LK.i IntKind.i64 :: LK.i IntKind.i64 :: LK.i IntKind.i64 :: LK.i IntKind.i64 :: LK.i IntKind.i64 :: LK.i IntKind.i64 :: LK.i IntKind.i64 :: LK.i IntKind.i64 :: LK.i IntKind.i64 :: LK.i IntKind.i64 :: List.nil)) y17 (nat_lit 71)]
noncomputable abbrev chmomentum_S2 (y1:Bool) (y2 y3 y4 y5 y6 y7 y8 y9 y10:Int) (y11:Bool) (y12 y13 y14:Int) (y15:List L34):St := St.mk (nn 33 ([])) [.cells [SV.bool y1] (nat_lit 28),.cells [SV.int .i64 y2,SV.int .i64 y3,SV.int .i64 y4] (nat_lit 24),.cells [SV.int .i64 y5,SV.int .i64 y6,SV.int .i64 y7] (nat_lit 24),.cells [SV.int .i64 y8,SV.int .i64 y9,SV.int .i64 y10] (nat_lit 24),.cells [SV.bool y11] (nat_lit 28),.cells [SV.ptr (nat_lit 4) (nat_lit 0),SV.sl (nat_lit 11)] (nat_lit 69),SObj.dead,.cells [SV.int .i64 y12,SV.int .i64 y13,SV.int .i64 y14] (nat_lit 24),.cells [SV.ptr (nat_lit 4) (nat_lit 0)] (nat_lit 26),.cells [SV.ptr (nat_lit 5) (nat_lit 0)] (nat_lit 66),SObj.lp (nat_lit 37) [false,true,true] [none,none,some (SV.ptr (nat_lit 8) (nat_lit 0)),none,none,none,none,none,none,none,none,some (SV.fn (nat_lit 103) [] [SV.ptr (nat_lit 9) (nat_lit 0)]),none,none,none,none,none,none,none,none,none,none,none,none,none,none,none,none,none,none,none,none,none,none,none,none,none,none,none,none,none,none,none,none,none,none,none,none,none,none,none,none,none,none,none,none,none,none,none,none,none,none,none,none,none,none,none,none,none,none,none,none,none,none,none,none] LSt.ready,SObj.seq (K.st (LK.i IntKind.i64) (LK.i IntKind.i64 :: LK.i IntKind.i64 :: LK.i IntKind.i64 :: LK.i IntKind.i64 :: LK.i IntKind.i64 :: LK.i IntKind.i64 :: LK.i IntKind.i64 :: LK.i IntKind.i64 :: LK.i IntKind.i64 :: LK.i IntKind.i64 :: LK.i IntKind.i64 :: LK.i IntKind.i64 :: LK.i IntKind.i64 :: LK.i IntKind.i64 :: LK.i IntKind.i64 :: LK.i IntKind.i64 :: LK.b :: LK.i IntKind.i64 :: LK.i IntKind.i64 :: LK.i IntKind.i64 :: LK.i IntKind.i64 :: LK.i IntKind.i64 :: LK.i IntKind.i64 :: LK.i IntKind.i64 :: LK.i IntKind.i64 :: LK.i IntKind.i64 :: LK.i IntKind.i64 :: LK.i IntKind.i64 :: LK.i IntKind.i64 :: LK.i IntKind.i64 :: LK.i IntKind.i64 :: LK.i IntKind.i64 :: LK.i IntKind.i64 :: List.nil)) y15 (nat_lit 71)]
noncomputable abbrev chmomentum_S3:St := St.mk (some (SV.yld (nat_lit 10)) :: some (SV.ptr (nat_lit 9) (nat_lit 0)) :: nn 6 (some (SV.int .i64 (0:Int)) :: some (SV.int .i64 (0:Int)) :: nn 23 ([]))) [.cells [SV.bool false] (nat_lit 28),.cells [SV.int .i64 (0:Int),SV.int .i64 (0:Int),SV.int .i64 (0:Int)] (nat_lit 24),.cells [SV.int .i64 (0:Int),SV.int .i64 (0:Int),SV.int .i64 (0:Int)] (nat_lit 24),.cells [SV.int .i64 (0:Int),SV.int .i64 (0:Int),SV.int .i64 (0:Int)] (nat_lit 24),.cells [SV.bool false] (nat_lit 28),.cells [SV.ptr (nat_lit 4) (nat_lit 0),SV.sl (nat_lit 11)] (nat_lit 69),SObj.dead,.cells [SV.int .i64 (0:Int),SV.int .i64 (0:Int),SV.int .i64 (0:Int)] (nat_lit 24),.cells [SV.ptr (nat_lit 4) (nat_lit 0)] (nat_lit 26),.cells [SV.ptr (nat_lit 5) (nat_lit 0)] (nat_lit 66),SObj.lp (nat_lit 37) [false,true,true] [none,none,some (SV.ptr (nat_lit 8) (nat_lit 0)),none,none,none,none,none,none,none,none,some (SV.fn (nat_lit 103) [] [SV.ptr (nat_lit 9) (nat_lit 0)]),none,none,none,none,none,none,none,none,none,none,none,none,none,none,none,none,none,none,none,none,none,none,none,none,none,none,none,none,none,none,none,none,none,none,none,none,none,none,none,none,none,none,none,none,none,none,none,none,none,none,none,none,none,none,none,none,none,none,none,none,none,none,none,none] LSt.ready,SObj.seq (K.st (LK.i IntKind.i64) (LK.i IntKind.i64 :: LK.i IntKind.i64 :: LK.i IntKind.i64 :: LK.i IntKind.i64 :: LK.i IntKind.i64 :: LK.i IntKind.i64 :: LK.i IntKind.i64 :: LK.i IntKind.i64 :: LK.i IntKind.i64 :: LK.i IntKind.i64 :: LK.i IntKind.i64 :: LK.i IntKind.i64 :: LK.i IntKind.i64 :: LK.i IntKind.i64 :: LK.i IntKind.i64 :: LK.i IntKind.i64 :: LK.b :: LK.i IntKind.i64 :: LK.i IntKind.i64 :: LK.i IntKind.i64 :: LK.i IntKind.i64 :: LK.i IntKind.i64 :: LK.i IntKind.i64 :: LK.i IntKind.i64 :: LK.i IntKind.i64 :: LK.i IntKind.i64 :: LK.i IntKind.i64 :: LK.i IntKind.i64 :: LK.i IntKind.i64 :: LK.i IntKind.i64 :: LK.i IntKind.i64 :: LK.i IntKind.i64 :: LK.i IntKind.i64 :: List.nil)) [] (nat_lit 71)]
noncomputable abbrev chmomentum_S4 (y1 y2:Int) (y3:Bool) (y4 y5 y6 y7 y8 y9 y10 y11 y12:Int) (y13:Bool) (y14:List L34) (y15 y16 y17 y18 y19 y20:Int):St := St.mk (some (SV.ptr (nat_lit 5) (nat_lit 0)) :: none :: some (SV.ptr (nat_lit 8) (nat_lit 0)) :: some (SV.ptr (nat_lit 9) (nat_lit 0)) :: nn 7 (some (SV.sl (nat_lit 7)) :: some (SV.int .i64 y1) :: some (SV.int .i64 y2) :: nn 25 ([]))) [.cells [SV.bool y3] (nat_lit 28),.cells [SV.int .i64 y4,SV.int .i64 y5,SV.int .i64 y6] (nat_lit 24),.cells [SV.int .i64 y7,SV.int .i64 y8,SV.int .i64 y9] (nat_lit 24),.cells [SV.int .i64 y10,SV.int .i64 y11,SV.int .i64 y12] (nat_lit 24),.cells [SV.bool y13] (nat_lit 28),.cells [SV.ptr (nat_lit 4) (nat_lit 0),SV.sl (nat_lit 7)] (nat_lit 69),SObj.dead,SObj.seq (K.st (LK.i IntKind.i64) (LK.i IntKind.i64 :: LK.i IntKind.i64 :: LK.i IntKind.i64 :: LK.i IntKind.i64 :: LK.i IntKind.i64 :: LK.i IntKind.i64 :: LK.i IntKind.i64 :: LK.i IntKind.i64 :: LK.i IntKind.i64 :: LK.i IntKind.i64 :: LK.i IntKind.i64 :: LK.i IntKind.i64 :: LK.i IntKind.i64 :: LK.i IntKind.i64 :: LK.i IntKind.i64 :: LK.i IntKind.i64 :: LK.b :: LK.i IntKind.i64 :: LK.i IntKind.i64 :: LK.i IntKind.i64 :: LK.i IntKind.i64 :: LK.i IntKind.i64 :: LK.i IntKind.i64 :: LK.i IntKind.i64 :: LK.i IntKind.i64 :: LK.i IntKind.i64 :: LK.i IntKind.i64 :: LK.i IntKind.i64 :: LK.i IntKind.i64 :: LK.i IntKind.i64 :: LK.i IntKind.i64 :: LK.i IntKind.i64 :: LK.i IntKind.i64 :: List.nil)) y14 (nat_lit 71),.cells [SV.int .i64 y15,SV.int .i64 y16,SV.int .i64 y17] (nat_lit 24),.cells [SV.int .i64 y18,SV.int .i64 y19,SV.int .i64 y20] (nat_lit 24)]
noncomputable abbrev chmomentum_S5 (y1:Bool) (y2 y3 y4 y5 y6 y7 y8 y9 y10:Int) (y11:Bool) (y12:List L34) (y13 y14 y15 y16 y17 y18:Int):St := St.mk (none :: none :: some (SV.ptr (nat_lit 8) (nat_lit 0)) :: some (SV.ptr (nat_lit 9) (nat_lit 0)) :: nn 35 ([])) [.cells [SV.bool y1] (nat_lit 28),.cells [SV.int .i64 y2,SV.int .i64 y3,SV.int .i64 y4] (nat_lit 24),.cells [SV.int .i64 y5,SV.int .i64 y6,SV.int .i64 y7] (nat_lit 24),.cells [SV.int .i64 y8,SV.int .i64 y9,SV.int .i64 y10] (nat_lit 24),.cells [SV.bool y11] (nat_lit 28),.cells [SV.ptr (nat_lit 4) (nat_lit 0),SV.sl (nat_lit 7)] (nat_lit 69),SObj.dead,SObj.seq (K.st (LK.i IntKind.i64) (LK.i IntKind.i64 :: LK.i IntKind.i64 :: LK.i IntKind.i64 :: LK.i IntKind.i64 :: LK.i IntKind.i64 :: LK.i IntKind.i64 :: LK.i IntKind.i64 :: LK.i IntKind.i64 :: LK.i IntKind.i64 :: LK.i IntKind.i64 :: LK.i IntKind.i64 :: LK.i IntKind.i64 :: LK.i IntKind.i64 :: LK.i IntKind.i64 :: LK.i IntKind.i64 :: LK.i IntKind.i64 :: LK.b :: LK.i IntKind.i64 :: LK.i IntKind.i64 :: LK.i IntKind.i64 :: LK.i IntKind.i64 :: LK.i IntKind.i64 :: LK.i IntKind.i64 :: LK.i IntKind.i64 :: LK.i IntKind.i64 :: LK.i IntKind.i64 :: LK.i IntKind.i64 :: LK.i IntKind.i64 :: LK.i IntKind.i64 :: LK.i IntKind.i64 :: LK.i IntKind.i64 :: LK.i IntKind.i64 :: LK.i IntKind.i64 :: List.nil)) y12 (nat_lit 71),.cells [SV.int .i64 y13,SV.int .i64 y14,SV.int .i64 y15] (nat_lit 24),.cells [SV.int .i64 y16,SV.int .i64 y17,SV.int .i64 y18] (nat_lit 24)]
noncomputable abbrev chmomentum_S6:St := St.mk (some (SV.ptr (nat_lit 5) (nat_lit 0)) :: none :: some (SV.ptr (nat_lit 8) (nat_lit 0)) :: some (SV.ptr (nat_lit 9) (nat_lit 0)) :: nn 7 (some (SV.sl (nat_lit 7)) :: some (SV.int .i64 (0:Int)) :: some (SV.int .i64 (0:Int)) :: nn 25 ([]))) [.cells [SV.bool false] (nat_lit 28),.cells [SV.int .i64 (0:Int),SV.int .i64 (0:Int),SV.int .i64 (0:Int)] (nat_lit 24),.cells [SV.int .i64 (0:Int),SV.int .i64 (0:Int),SV.int .i64 (0:Int)] (nat_lit 24),.cells [SV.int .i64 (0:Int),SV.int .i64 (0:Int),SV.int .i64 (0:Int)] (nat_lit 24),.cells [SV.bool false] (nat_lit 28),.cells [SV.ptr (nat_lit 4) (nat_lit 0),SV.sl (nat_lit 7)] (nat_lit 69),SObj.dead,SObj.seq (K.st (LK.i IntKind.i64) (LK.i IntKind.i64 :: LK.i IntKind.i64 :: LK.i IntKind.i64 :: LK.i IntKind.i64 :: LK.i IntKind.i64 :: LK.i IntKind.i64 :: LK.i IntKind.i64 :: LK.i IntKind.i64 :: LK.i IntKind.i64 :: LK.i IntKind.i64 :: LK.i IntKind.i64 :: LK.i IntKind.i64 :: LK.i IntKind.i64 :: LK.i IntKind.i64 :: LK.i IntKind.i64 :: LK.i IntKind.i64 :: LK.b :: LK.i IntKind.i64 :: LK.i IntKind.i64 :: LK.i IntKind.i64 :: LK.i IntKind.i64 :: LK.i IntKind.i64 :: LK.i IntKind.i64 :: LK.i IntKind.i64 :: LK.i IntKind.i64 :: LK.i IntKind.i64 :: LK.i IntKind.i64 :: LK.i IntKind.i64 :: LK.i IntKind.i64 :: LK.i IntKind.i64 :: LK.i IntKind.i64 :: LK.i IntKind.i64 :: LK.i IntKind.i64 :: List.nil)) [] (nat_lit 71),.cells [SV.int .i64 (0:Int),SV.int .i64 (0:Int),SV.int .i64 (0:Int)] (nat_lit 24),.cells [SV.int .i64 (0:Int),SV.int .i64 (0:Int),SV.int .i64 (0:Int)] (nat_lit 24)]
abbrev chmomentum_P1:List Bool := [false,true,false,true,true,true]
noncomputable def M.chmomentum_l0_step {α:Type} (x18:Int) (kn:Int → Bool → List L34 → Option α) (k1:Bool → List L34 → Option α) (x19:Int) (x30:Bool) (x34:List L34):Option α := let s35 := (↑(List.length x34):Int); let s36 := List.getD x34 (Int.toNat x19) ((0:Int),(0:Int),(0:Int),(0:Int),(0:Int),(0:Int),(0:Int),(0:Int),(0:Int),(0:Int),(0:Int),(0:Int),(0:Int),(0:Int),(0:Int),(0:Int),(0:Int),false,(0:Int),(0:Int),(0:Int),(0:Int),(0:Int),(0:Int),(0:Int),(0:Int),(0:Int),(0:Int),(0:Int),(0:Int),(0:Int),(0:Int),(0:Int),(0:Int)); let s37 := Prod.snd s36; let s38 := Prod.snd s37; let s39 := Prod.snd s38; let s40 := Prod.snd s39; let s41 := Prod.snd s40; let s42 := Prod.snd s41; let s43 := Prod.snd s42; let s44 := Prod.snd s43; let s45 := Prod.fst s43; let s46 := Prod.snd s44; let s47 := Prod.snd s46; let s48 := Prod.snd s47; let s49 := Prod.snd s48; let s50 := Prod.snd s49; let s51 := Prod.snd s50; let s52 := Prod.snd s51; let s53 := Prod.snd s52; let s54 := Prod.snd s53; let s55 := Prod.snd s54; let s56 := Prod.snd s55; let s57 := Prod.snd s56; let s58 := Prod.fst s56; let s59 := Prod.snd s57; let s60 := Prod.snd s59; let s61 := Prod.snd s60; let s62 := Prod.fst s60; let s63 := Prod.snd s61; let s64 := Prod.fst s61; let s65 := Prod.snd s63; let s66 := Prod.fst s63; let s67 := Prod.snd s65; let s68 := Prod.snd s67; let s69 := Prod.snd (Prod.snd (Prod.snd (Prod.snd s68))); let s70 := List.getD x34 (Int.toNat s45) ((0:Int),(0:Int),(0:Int),(0:Int),(0:Int),(0:Int),(0:Int),(0:Int),(0:Int),(0:Int),(0:Int),(0:Int),(0:Int),(0:Int),(0:Int),(0:Int),(0:Int),false,(0:Int),(0:Int),(0:Int),(0:Int),(0:Int),(0:Int),(0:Int),(0:Int),(0:Int),(0:Int),(0:Int),(0:Int),(0:Int),(0:Int),(0:Int),(0:Int)); let s71 := Prod.snd s70; let s72 := Prod.snd s71; let s73 := Prod.snd (Prod.snd (Prod.snd (Prod.snd (Prod.snd (Prod.snd (Prod.snd (Prod.snd (Prod.snd (Prod.snd (Prod.snd (Prod.snd (Prod.snd (Prod.snd (Prod.snd (Prod.snd (Prod.snd (Prod.snd (Prod.snd (Prod.snd (Prod.snd (Prod.snd (Prod.snd (Prod.snd (Prod.snd (Prod.snd s72))))))))))))))))))))))))); let s74 := Prod.snd s73; let s75 := Prod.fst s73; let s76 := Prod.fst s74; let s77 := Prod.snd s74; let s78 := Prod.fst s77; let s79 := V.tScale (s62,s64,s66) s58; let s80 := V.on s79 x30; let s81 := List.set x34 (Int.toNat x19) (Prod.fst s36,Prod.fst s37,Prod.fst s38,Prod.fst s39,Prod.fst s40,Prod.fst s41,Prod.fst s42,s45,Prod.fst s44,Prod.fst s46,Prod.fst s47,Prod.fst s48,Prod.fst s49,Prod.fst s50,Prod.fst s51,Prod.fst s52,Prod.fst s53,Prod.fst s54,Prod.fst s55,s58,Prod.fst s57,Prod.fst s59,s62,s64,s66,Prod.fst s65,Prod.fst s67,Prod.fst s68,(0:Int),(0:Int),(0:Int),s69); let s82 := List.getD s81 (Int.toNat x19) ((0:Int),(0:Int),(0:Int),(0:Int),(0:Int),(0:Int),(0:Int),(0:Int),(0:Int),(0:Int),(0:Int),(0:Int),(0:Int),(0:Int),(0:Int),(0:Int),(0:Int),false,(0:Int),(0:Int),(0:Int),(0:Int),(0:Int),(0:Int),(0:Int),(0:Int),(0:Int),(0:Int),(0:Int),(0:Int),(0:Int),(0:Int),(0:Int),(0:Int)); let s83 := Prod.fst s82; let s84 := Prod.snd s82; let s85 := Prod.snd s84; let s86 := Prod.fst s84; let s87 := Prod.snd s85; let s88 := Prod.fst s85; let s89 := Prod.snd s87; let s90 := Prod.snd s89; let s91 := Prod.snd s90; let s92 := Prod.snd s91; let s93 := Prod.snd s92; let s94 := Prod.snd s93; let s95 := Prod.snd s94; let s96 := Prod.snd s95; let s97 := Prod.snd s96; let s98 := Prod.snd s97; let s99 := Prod.snd s98; let s100 := Prod.snd s99; let s101 := Prod.snd s100; let s102 := Prod.snd s101; let s103 := Prod.snd s102; let s104 := Prod.snd s103; let s105 := Prod.snd s104; let s106 := Prod.snd s105; let s107 := Prod.snd s106; let s108 := Prod.snd s107; let s109 := Prod.snd s108; let s110 := Prod.snd s109; let s111 := Prod.snd s110; let s112 := Prod.snd s111; let s113 := Prod.snd s112; let s114 := Prod.snd s113; let s115 := List.set x34 (Int.toNat x19) (Prod.fst s36,Prod.fst s37,Prod.fst s38,Prod.fst s39,Prod.fst s40,Prod.fst s41,Prod.fst s42,s45,Prod.fst s44,Prod.fst s46,Prod.fst s47,Prod.fst s48,Prod.fst s49,Prod.fst s50,Prod.fst s51,Prod.fst s52,Prod.fst s53,Prod.fst s54,Prod.fst s55,s58,Prod.fst s57,Prod.fst s59,s62,s64,s66,Prod.fst s65,Prod.fst s67,Prod.fst s68,s75,s76,s78,s69); let s116 := List.getD s115 (Int.toNat x19) ((0:Int),(0:Int),(0:Int),(0:Int),(0:Int),(0:Int),(0:Int),(0:Int),(0:Int),(0:Int),(0:Int),(0:Int),(0:Int),(0:Int),(0:Int),(0:Int),(0:Int),false,(0:Int),(0:Int),(0:Int),(0:Int),(0:Int),(0:Int),(0:Int),(0:Int),(0:Int),(0:Int),(0:Int),(0:Int),(0:Int),(0:Int),(0:Int),(0:Int)); let s117 := Prod.fst s116; let s118 := Prod.snd s116; let s119 := Prod.snd s118; let s120 := Prod.fst s118; let s121 := Prod.snd s119; let s122 := Prod.fst s119; let s123 := Prod.snd s121; let s124 := Prod.snd s123; let s125 := Prod.snd s124; let s126 := Prod.snd s125; let s127 := Prod.snd s126; let s128 := Prod.snd s127; let s129 := Prod.snd s128; let s130 := Prod.snd s129; let s131 := Prod.snd s130; let s132 := Prod.snd s131; let s133 := Prod.snd s132; let s134 := Prod.snd s133; let s135 := Prod.snd s134; let s136 := Prod.snd s135; let s137 := Prod.snd s136; let s138 := Prod.snd s137; let s139 := Prod.snd s138; let s140 := Prod.snd s139; let s141 := Prod.snd s140; let s142 := Prod.snd s141; let s143 := Prod.snd s142; let s144 := Prod.snd s143; let s145 := Prod.snd s144; let s146 := Prod.snd s145; let s147 := Prod.snd s146; let s148 := Prod.snd s147; let s149 := V.tSub (s83,s86,s88) ((0:Int),(0:Int),(0:Int)); let s150 := V.tCross ((0:Int),(0:Int),(0:Int)) (V.q3 s149); let s151 := V.tAdd ((0:Int),(0:Int),(0:Int)) (V.q3 s150); let s152 := V.tSub (s117,s120,s122) (Prod.fst s70,Prod.fst s71,Prod.fst s72); let s153 := V.tCross (s75,s76,s78) (V.q3 s152); let s154 := V.tAdd (Prod.snd s77) (V.q3 s153); let s155 := V.on s151 (V.on s150 (V.on s149 s80)); let s156 := V.on s154 (V.on s153 (V.on s152 s80)); let s157 := List.set s81 (Int.toNat x19) (s83,s86,s88,Prod.fst s87,Prod.fst s89,Prod.fst s90,Prod.fst s91,Prod.fst s92,Prod.fst s93,Prod.fst s94,Prod.fst s95,Prod.fst s96,Prod.fst s97,Prod.fst s98,Prod.fst s99,Prod.fst s100,Prod.fst s101,Prod.fst s102,Prod.fst s103,Prod.fst s104,Prod.fst s105,Prod.fst s106,Prod.fst s107,Prod.fst s108,Prod.fst s109,Prod.fst s110,Prod.fst s111,Prod.fst s112,Prod.fst s113,Prod.fst s114,Prod.fst (Prod.snd s114),V.q3 s151); let s158 := List.getD s157 (Int.toNat x19) ((0:Int),(0:Int),(0:Int),(0:Int),(0:Int),(0:Int),(0:Int),(0:Int),(0:Int),(0:Int),(0:Int),(0:Int),(0:Int),(0:Int),(0:Int),(0:Int),(0:Int),false,(0:Int),(0:Int),(0:Int),(0:Int),(0:Int),(0:Int),(0:Int),(0:Int),(0:Int),(0:Int),(0:Int),(0:Int),(0:Int),(0:Int),(0:Int),(0:Int)); let s159 := Prod.snd s158; let s160 := Prod.snd s159; let s161 := Prod.snd s160; let s162 := Prod.snd s161; let s163 := Prod.snd s162; let s164 := Prod.snd s163; let s165 := Prod.snd s164; let s166 := Prod.snd s165; let s167 := Prod.snd s166; let s168 := Prod.snd s167; let s169 := Prod.snd s168; let s170 := Prod.snd s169; let s171 := Prod.snd s170; let s172 := Prod.snd s171; let s173 := Prod.snd s172; let s174 := Prod.snd s173; let s175 := Prod.snd s174; let s176 := Prod.snd s175; let s177 := Prod.fst s175; let s178 := Prod.snd s176; let s179 := Prod.snd s178; let s180 := Prod.snd s179; let s181 := Prod.snd s180; let s182 := Prod.snd s181; let s183 := Prod.snd s182; let s184 := Prod.snd s183; let s185 := Prod.snd s184; let s186 := Prod.snd s185; let s187 := Prod.snd s186; let s188 := Prod.snd s187; let s189 := Prod.fst s187; let s190 := Prod.snd s188; let s191 := Prod.fst s188; let s192 := Prod.snd s190; let s193 := Prod.fst s190; let s194 := V.tAdd s192 (V.q3 s79); let s195 := List.set s115 (Int.toNat x19) (s117,s120,s122,Prod.fst s121,Prod.fst s123,Prod.fst s124,Prod.fst s125,Prod.fst s126,Prod.fst s127,Prod.fst s128,Prod.fst s129,Prod.fst s130,Prod.fst s131,Prod.fst s132,Prod.fst s133,Prod.fst s134,Prod.fst s135,Prod.fst s136,Prod.fst s137,Prod.fst s138,Prod.fst s139,Prod.fst s140,Prod.fst s141,Prod.fst s142,Prod.fst s143,Prod.fst s144,Prod.fst s145,Prod.fst s146,Prod.fst s147,Prod.fst s148,Prod.fst (Prod.snd s148),V.q3 s154); let s196 := List.getD s195 (Int.toNat x19) ((0:Int),(0:Int),(0:Int),(0:Int),(0:Int),(0:Int),(0:Int),(0:Int),(0:Int),(0:Int),(0:Int),(0:Int),(0:Int),(0:Int),(0:Int),(0:Int),(0:Int),false,(0:Int),(0:Int),(0:Int),(0:Int),(0:Int),(0:Int),(0:Int),(0:Int),(0:Int),(0:Int),(0:Int),(0:Int),(0:Int),(0:Int),(0:Int),(0:Int)); let s197 := Prod.snd s196; let s198 := Prod.snd s197; let s199 := Prod.snd s198; let s200 := Prod.snd s199; let s201 := Prod.snd s200; let s202 := Prod.snd s201; let s203 := Prod.snd s202; let s204 := Prod.snd s203; let s205 := Prod.snd s204; let s206 := Prod.snd s205; let s207 := Prod.snd s206; let s208 := Prod.snd s207; let s209 := Prod.snd s208; let s210 := Prod.snd s209; let s211 := Prod.snd s210; let s212 := Prod.snd s211; let s213 := Prod.snd s212; let s214 := Prod.fst s213; let s215 := Prod.snd s213; let s216 := Prod.snd s215; let s217 := Prod.snd s216; let s218 := Prod.snd s217; let s219 := Prod.snd s218; let s220 := Prod.snd s219; let s221 := Prod.snd s220; let s222 := Prod.snd s221; let s223 := Prod.snd s222; let s224 := Prod.snd s223; let s225 := Prod.snd s224; let s226 := Prod.snd s225; let s227 := Prod.fst s225; let s228 := Prod.fst s226; let s229 := Prod.snd s226; let s230 := Prod.fst s229; let s231 := Prod.snd s229; let s232 := V.tAdd s231 (V.q3 s79); let s233 := V.tAdd (s189,s191,s193) (V.q3 s79); let s234 := V.tAdd (s227,s228,s230) (V.q3 s79); if cLt x19 x18 = true then if (0:Int) ≤ x19 ∧ x19 < s35 then if (0:Int) ≤ x19 ∧ x19 < s35 then if cLt s45 (0:Int) = true then if s177 = true then kn (IntKind.wrap .i64 (x19 + (1:Int))) (V.on s194 s155) (List.set s157 (Int.toNat x19) (Prod.fst s158,Prod.fst s159,Prod.fst s160,Prod.fst s161,Prod.fst s162,Prod.fst s163,Prod.fst s164,Prod.fst s165,Prod.fst s166,Prod.fst s167,Prod.fst s168,Prod.fst s169,Prod.fst s170,Prod.fst s171,Prod.fst s172,Prod.fst s173,Prod.fst s174,s177,Prod.fst s176,Prod.fst s178,Prod.fst s179,Prod.fst s180,Prod.fst s181,Prod.fst s182,Prod.fst s183,Prod.fst s184,Prod.fst s185,Prod.fst s186,s189,s191,s193,V.q3 s194)) else kn (IntKind.wrap .i64 (x19 + (1:Int))) (V.on s233 s155) (List.set s157 (Int.toNat x19) (Prod.fst s158,Prod.fst s159,Prod.fst s160,Prod.fst s161,Prod.fst s162,Prod.fst s163,Prod.fst s164,Prod.fst s165,Prod.fst s166,Prod.fst s167,Prod.fst s168,Prod.fst s169,Prod.fst s170,Prod.fst s171,Prod.fst s172,Prod.fst s173,Prod.fst s174,s177,Prod.fst s176,Prod.fst s178,Prod.fst s179,Prod.fst s180,Prod.fst s181,Prod.fst s182,Prod.fst s183,Prod.fst s184,Prod.fst s185,Prod.fst s186,V.x3 s233,V.y3 s233,V.z3 s233,s192)) else if (0:Int) ≤ s45 ∧ s45 < s35 then if s214 = true then kn (IntKind.wrap .i64 (x19 + (1:Int))) (V.on s232 s156) (List.set s195 (Int.toNat x19) (Prod.fst s196,Prod.fst s197,Prod.fst s198,Prod.fst s199,Prod.fst s200,Prod.fst s201,Prod.fst s202,Prod.fst s203,Prod.fst s204,Prod.fst s205,Prod.fst s206,Prod.fst s207,Prod.fst s208,Prod.fst s209,Prod.fst s210,Prod.fst s211,Prod.fst s212,s214,Prod.fst s215,Prod.fst s216,Prod.fst s217,Prod.fst s218,Prod.fst s219,Prod.fst s220,Prod.fst s221,Prod.fst s222,Prod.fst s223,Prod.fst s224,s227,s228,s230,V.q3 s232)) else kn (IntKind.wrap .i64 (x19 + (1:Int))) (V.on s234 s156) (List.set s195 (Int.toNat x19) (Prod.fst s196,Prod.fst s197,Prod.fst s198,Prod.fst s199,Prod.fst s200,Prod.fst s201,Prod.fst s202,Prod.fst s203,Prod.fst s204,Prod.fst s205,Prod.fst s206,Prod.fst s207,Prod.fst s208,Prod.fst s209,Prod.fst s210,Prod.fst s211,Prod.fst s212,s214,Prod.fst s215,Prod.fst s216,Prod.fst s217,Prod.fst s218,Prod.fst s219,Prod.fst s220,Prod.fst s221,Prod.fst s222,Prod.fst s223,Prod.fst s224,V.x3 s234,V.y3 s234,V.z3 s234,s231)) else none else none else none else k1 x30 x34
noncomputable def M.chmomentum_l0 {α:Type} (x18:Int) (k1:Bool → List L34 → Option α):Nat → Int → Bool → List L34 → Option α
 | 0,_,_,_ => none
 | n + 1,x19,x30,x34 => M.chmomentum_l0_step x18 (M.chmomentum_l0 x18 k1 n) k1 x19 x30 x34
theorem chmomentum_l0_step_eq {α:Type} (x18 x19:Int) (x20:Bool) (x21 x22 x23 x24 x25 x26 x27 x28 x29:Int) (x30:Bool) (x31 x32 x33:Int) (x34:List L34) (Q:Ex → St → Option α):(loopStep E (exec E look_chmotion noLps 400) 103 [false,true] 11 (codeAt E.P 103 [false,true])) (chmomentum_S1 x18 x19 x20 x21 x22 x23 x24 x25 x26 x27 x28 x29 x30 x31 x32 x33 x34) Q = M.chmomentum_l0_step x18 (fun (x237:Int) (x238:Bool) (x239:List L34) => Q .normal (chmomentum_S1 x18 x237 x20 x21 x22 x23 x24 x25 x26 x27 x28 x29 x238 x31 x32 x33 x239)) (fun (x235:Bool) (x236:List L34) => Q (.exit 0) (chmomentum_S2 x20 x21 x22 x23 x24 x25 x26 x27 x28 x29 x235 x31 x32 x33 x236)) x19 x30 x34 := by kernel_rfl
theorem chmomentum_l0_iter {α:Type} (x18:Int) (x20:Bool) (x21 x22 x23 x24 x25 x26 x27 x28 x29 x31 x32 x33:Int) (Q:Ex → St → Option α):∀ (n:Nat) (x19:Int) (x30:Bool) (x34:List L34),iter (loopStep E (exec E look_chmotion noLps 400) 103 [false,true] 11 (codeAt E.P 103 [false,true])) n (chmomentum_S1 x18 x19 x20 x21 x22 x23 x24 x25 x26 x27 x28 x29 x30 x31 x32 x33 x34) Q = M.chmomentum_l0 x18 (fun (x235:Bool) (x236:List L34) => Q (.exit 0) (chmomentum_S2 x20 x21 x22 x23 x24 x25 x26 x27 x28 x29 x235 x31 x32 x33 x236)) n x19 x30 x34
 | 0,_,_,_ => rfl
 | n + 1,x19,x30,x34 => (chmomentum_l0_step_eq x18 x19 x20 x21 x22 x23 x24 x25 x26 x27 x28 x29 x30 x31 x32 x33 x34 (iterK (loopStep E (exec E look_chmotion noLps 400) 103 [false,true] 11 (codeAt E.P 103 [false,true])) n Q)).trans (congrArg (fun kn => M.chmomentum_l0_step x18 kn (fun (x235:Bool) (x236:List L34) => Q (.exit 0) (chmomentum_S2 x20 x21 x22 x23 x24 x25 x26 x27 x28 x29 x235 x31 x32 x33 x236)) x19 x30 x34) (funext fun x19 => funext fun x30 => funext fun x34 => chmomentum_l0_iter x18 x20 x21 x22 x23 x24 x25 x26 x27 x28 x29 x31 x32 x33 Q n x19 x30 x34))
noncomputable def chmomentum_l0_go {α:Type} (ds:List D) (Q:Ex → St → Option α):Option α :=
 dI ds fun x18 ds => dI ds fun x19 ds => dB ds fun x20 ds => dI ds fun x21 ds => dI ds fun x22 ds => dI ds fun x23 ds => dI ds fun x24 ds => dI ds fun x25 ds => dI ds fun x26 ds => dI ds fun x27 ds => dI ds fun x28 ds => dI ds fun x29 ds => dB ds fun x30 ds => dI ds fun x31 ds => dI ds fun x32 ds => dI ds fun x33 ds => dL (K.st (LK.i IntKind.i64)
 (LK.i IntKind.i64 :: LK.i IntKind.i64 :: LK.i IntKind.i64 :: LK.i IntKind.i64 :: LK.i IntKind.i64 :: LK.i IntKind.i64 :: LK.i IntKind.i64 :: LK.i IntKind.i64 :: LK.i IntKind.i64 :: LK.i IntKind.i64 :: LK.i IntKind.i64 :: LK.i IntKind.i64 :: LK.i IntKind.i64 :: LK.i IntKind.i64 :: LK.i IntKind.i64 :: LK.i IntKind.i64 :: LK.b :: LK.i IntKind.i64 :: LK.i IntKind.i64 :: LK.i IntKind.i64 :: LK.i IntKind.i64 :: LK.i IntKind.i64 :: LK.i IntKind.i64 :: LK.i IntKind.i64 :: LK.i IntKind.i64 :: LK.i IntKind.i64 :: LK.i IntKind.i64 :: LK.i IntKind.i64 :: LK.i IntKind.i64 :: LK.i IntKind.i64 :: LK.i IntKind.i64 :: LK.i IntKind.i64 :: LK.i IntKind.i64 :: List.nil)) ds fun x34 ds => dE ds (M.chmomentum_l0 x18 (fun (x235:Bool) (x236:List L34) => Q (.exit 0) (chmomentum_S2 x20 x21 x22 x23 x24 x25 x26 x27 x28 x29 x235 x31 x32 x33 x236)) (100 + x34.length) x19 x30 x34)
theorem chmomentum_l0_ok {α:Type}:LoopOk E.P 103 [false,true] 11 (lEnt (α := α) (chmomentum_S3) chmomentum_l0_go) :=
 lEnt_ok E (exec_sound E E_ok (look_chmotion_ok) (noLps_ok _) 400) fun ds Q r h S hS => by
   unfold chmomentum_l0_go at h
   obtain ⟨x18,ds,rfl,h1⟩ := dI_inv h
   obtain ⟨x19,ds,rfl,h2⟩ := dI_inv h1
   obtain ⟨x20,ds,rfl,h3⟩ := dB_inv h2
   obtain ⟨x21,ds,rfl,h4⟩ := dI_inv h3
   obtain ⟨x22,ds,rfl,h5⟩ := dI_inv h4
   obtain ⟨x23,ds,rfl,h6⟩ := dI_inv h5
   obtain ⟨x24,ds,rfl,h7⟩ := dI_inv h6
   obtain ⟨x25,ds,rfl,h8⟩ := dI_inv h7
   obtain ⟨x26,ds,rfl,h9⟩ := dI_inv h8
   obtain ⟨x27,ds,rfl,h10⟩ := dI_inv h9
   obtain ⟨x28,ds,rfl,h11⟩ := dI_inv h10
   obtain ⟨x29,ds,rfl,h12⟩ := dI_inv h11
   obtain ⟨x30,ds,rfl,h13⟩ := dB_inv h12
   obtain ⟨x31,ds,rfl,h14⟩ := dI_inv h13
   obtain ⟨x32,ds,rfl,h15⟩ := dI_inv h14
   obtain ⟨x33,ds,rfl,h16⟩ := dI_inv h15
   obtain ⟨x34,ds,rfl,h17⟩ := dL_inv h16
   obtain ⟨rfl,hE⟩ := dE_inv h17
   have e:fillS (chmomentum_S3) [.i x18,.i x19,.b x20,.i x21,.i x22,.i x23,.i x24,.i x25,.i x26,.i x27,.i x28,.i x29,.b x30,.i x31,.i x32,.i x33,.l (K.st (LK.i IntKind.i64)
 (LK.i IntKind.i64 :: LK.i IntKind.i64 :: LK.i IntKind.i64 :: LK.i IntKind.i64 :: LK.i IntKind.i64 :: LK.i IntKind.i64 :: LK.i IntKind.i64 :: LK.i IntKind.i64 :: LK.i IntKind.i64 :: LK.i IntKind.i64 :: LK.i IntKind.i64 :: LK.i IntKind.i64 :: LK.i IntKind.i64 :: LK.i IntKind.i64 :: LK.i IntKind.i64 :: LK.i IntKind.i64 :: LK.b :: LK.i IntKind.i64 :: LK.i IntKind.i64 :: LK.i IntKind.i64 :: LK.i IntKind.i64 :: LK.i IntKind.i64 :: LK.i IntKind.i64 :: LK.i IntKind.i64 :: LK.i IntKind.i64 :: LK.i IntKind.i64 :: LK.i IntKind.i64 :: LK.i IntKind.i64 :: LK.i IntKind.i64 :: LK.i IntKind.i64 :: LK.i IntKind.i64 :: LK.i IntKind.i64 :: LK.i IntKind.i64 :: List.nil)) x34] = some (chmomentum_S1 x18 x19 x20 x21 x22 x23 x24 x25 x26 x27 x28 x29 x30 x31 x32 x33 x34) := by kernel_rfl
   rw [e] at hS
   cases hS
   exact ⟨_,(chmomentum_l0_iter x18 x20 x21 x22 x23 x24 x25 x26 x27 x28 x29 x31 x32 x33 Q _ x19 x30 x34).trans hE⟩
noncomputable def chmomentum_l0_lps {α:Type}:LookL α := addLp 103 [false,true] 11 (lEnt (chmomentum_S3) chmomentum_l0_go) noLps
theorem chmomentum_l0_lps_ok {α:Type}:LoopsOk E.P (chmomentum_l0_lps (α := α)) := addLp_ok chmomentum_l0_ok (noLps_ok _)
noncomputable def M.chmomentum_l1_step {α:Type} (x263:Int) (x276:List L34) (kn:Int → Bool → Int → Int → Int → Option α) (k1:Bool → Int → Int → Int → Option α) (x264:Int) (x275:Bool) (x280 x281 x282:Int):Option α := let s283 := List.getD x276 (Int.toNat x264) ((0:Int),(0:Int),(0:Int),(0:Int),(0:Int),(0:Int),(0:Int),(0:Int),(0:Int),(0:Int),(0:Int),(0:Int),(0:Int),(0:Int),(0:Int),(0:Int),(0:Int),false,(0:Int),(0:Int),(0:Int),(0:Int),(0:Int),(0:Int),(0:Int),(0:Int),(0:Int),(0:Int),(0:Int),(0:Int),(0:Int),(0:Int),(0:Int),(0:Int)); let s284 := Prod.snd s283; let s285 := Prod.snd s284; let s286 := Prod.snd (Prod.snd (Prod.snd (Prod.snd (Prod.snd (Prod.snd (Prod.snd (Prod.snd (Prod.snd (Prod.snd (Prod.snd (Prod.snd (Prod.snd (Prod.snd (Prod.snd (Prod.snd (Prod.snd (Prod.snd (Prod.snd s285)))))))))))))))))); let s287 := Prod.snd (Prod.snd (Prod.snd (Prod.snd s286))); let s288 := Prod.snd s287; let s289 := Prod.snd s288; let s290 := Prod.snd s289; let s291 := Prod.snd s290; let s292 := Prod.snd s291; let s293 := V.tSub (Prod.fst s287,Prod.fst s288,Prod.fst s289) (Prod.fst s283,Prod.fst s284,Prod.fst s285); let s294 := V.tCross (Prod.fst s290,Prod.fst s291,Prod.fst s292) (V.q3 s293); let s295 := V.tAdd (Prod.snd s292) (V.q3 s294); let s296 := V.tScale (V.q3 s295) (Prod.fst s286); let s297 := V.tAdd (x280,x281,x282) (V.q3 s296); if cLt x264 x263 = true then if (0:Int) ≤ x264 ∧ x264 < (↑(List.length x276):Int) then kn (IntKind.wrap .i64 (x264 + (1:Int))) (V.on s297 (V.on s296 (V.on s295 (V.on s294 (V.on s293 x275))))) (V.x3 s297) (V.y3 s297) (V.z3 s297) else none else k1 x275 x280 x281 x282
noncomputable def M.chmomentum_l1 {α:Type} (x263:Int) (x276:List L34) (k1:Bool → Int → Int → Int → Option α):Nat → Int → Bool → Int → Int → Int → Option α
 | 0,_,_,_,_,_ => none
 | n + 1,x264,x275,x280,x281,x282 => M.chmomentum_l1_step x263 x276 (M.chmomentum_l1 x263 x276 k1 n) k1 x264 x275 x280 x281 x282
theorem chmomentum_l1_step_eq {α:Type} (x263 x264:Int) (x265:Bool) (x266 x267 x268 x269 x270 x271 x272 x273 x274:Int) (x275:Bool) (x276:List L34) (x277 x278 x279 x280 x281 x282:Int) (Q:Ex → St → Option α):(loopStep E (exec E look_chmotion chmomentum_l0_lps 400) 41 chmomentum_P1 7 (codeAt E.P 41 chmomentum_P1)) (chmomentum_S4 x263 x264 x265 x266 x267 x268 x269 x270 x271 x272 x273 x274 x275 x276 x277 x278 x279 x280 x281 x282) Q = M.chmomentum_l1_step x263 x276 (fun (x302:Int) (x303:Bool) (x304 x305 x306:Int) => Q .normal (chmomentum_S4 x263 x302 x265 x266 x267 x268 x269 x270 x271 x272 x273 x274 x303 x276 x277 x278 x279 x304 x305 x306)) (fun (x298:Bool) (x299 x300 x301:Int) => Q (.exit 0) (chmomentum_S5 x265 x266 x267 x268 x269 x270 x271 x272 x273 x274 x298 x276 x277 x278 x279 x299 x300 x301)) x264 x275 x280 x281 x282 := by kernel_rfl
theorem chmomentum_l1_iter {α:Type} (x263:Int) (x265:Bool) (x266 x267 x268 x269 x270 x271 x272 x273 x274:Int) (x276:List L34) (x277 x278 x279:Int) (Q:Ex → St → Option α):∀ (n:Nat) (x264:Int) (x275:Bool) (x280 x281 x282:Int),iter (loopStep E (exec E look_chmotion chmomentum_l0_lps 400) 41 chmomentum_P1 7 (codeAt E.P 41 chmomentum_P1)) n (chmomentum_S4 x263 x264 x265 x266 x267 x268 x269 x270 x271 x272 x273 x274 x275 x276 x277 x278 x279 x280 x281 x282) Q = M.chmomentum_l1 x263 x276 (fun (x298:Bool) (x299 x300 x301:Int) => Q (.exit 0) (chmomentum_S5 x265 x266 x267 x268 x269 x270 x271 x272 x273 x274 x298 x276 x277 x278 x279 x299 x300 x301)) n x264 x275 x280 x281 x282
 | 0,_,_,_,_,_ => rfl
 | n + 1,x264,x275,x280,x281,x282 => (chmomentum_l1_step_eq x263 x264 x265 x266 x267 x268 x269 x270 x271 x272 x273 x274 x275 x276 x277 x278 x279 x280 x281 x282 (iterK (loopStep E (exec E look_chmotion chmomentum_l0_lps 400) 41 chmomentum_P1 7 (codeAt E.P 41 chmomentum_P1)) n Q)).trans (congrArg (fun kn => M.chmomentum_l1_step x263 x276 kn (fun (x298:Bool) (x299 x300 x301:Int) => Q (.exit 0) (chmomentum_S5 x265 x266 x267 x268 x269 x270 x271 x272 x273 x274 x298 x276 x277 x278 x279 x299 x300 x301)) x264 x275 x280 x281 x282) (funext fun x264 => funext fun x275 => funext fun x280 => funext fun x281 => funext fun x282 => chmomentum_l1_iter x263 x265 x266 x267 x268 x269 x270 x271 x272 x273 x274 x276 x277 x278 x279 Q n x264 x275 x280 x281 x282))
noncomputable def chmomentum_l1_go {α:Type} (ds:List D) (Q:Ex → St → Option α):Option α :=
 dI ds fun x263 ds => dI ds fun x264 ds => dB ds fun x265 ds => dI ds fun x266 ds => dI ds fun x267 ds => dI ds fun x268 ds => dI ds fun x269 ds => dI ds fun x270 ds => dI ds fun x271 ds => dI ds fun x272 ds => dI ds fun x273 ds => dI ds fun x274 ds => dB ds fun x275 ds => dL (K.st (LK.i IntKind.i64)
 (LK.i IntKind.i64 :: LK.i IntKind.i64 :: LK.i IntKind.i64 :: LK.i IntKind.i64 :: LK.i IntKind.i64 :: LK.i IntKind.i64 :: LK.i IntKind.i64 :: LK.i IntKind.i64 :: LK.i IntKind.i64 :: LK.i IntKind.i64 :: LK.i IntKind.i64 :: LK.i IntKind.i64 :: LK.i IntKind.i64 :: LK.i IntKind.i64 :: LK.i IntKind.i64 :: LK.i IntKind.i64 :: LK.b :: LK.i IntKind.i64 :: LK.i IntKind.i64 :: LK.i IntKind.i64 :: LK.i IntKind.i64 :: LK.i IntKind.i64 :: LK.i IntKind.i64 :: LK.i IntKind.i64 :: LK.i IntKind.i64 :: LK.i IntKind.i64 :: LK.i IntKind.i64 :: LK.i IntKind.i64 :: LK.i IntKind.i64 :: LK.i IntKind.i64 :: LK.i IntKind.i64 :: LK.i IntKind.i64 :: LK.i IntKind.i64 :: List.nil)) ds fun x276 ds => dI ds fun x277 ds => dI ds fun x278 ds => dI ds fun x279 ds => dI ds fun x280 ds => dI ds fun x281 ds => dI ds fun x282 ds => dE ds (M.chmomentum_l1 x263 x276 (fun (x298:Bool) (x299 x300 x301:Int) => Q (.exit 0) (chmomentum_S5 x265 x266 x267 x268 x269 x270 x271 x272 x273 x274 x298 x276 x277 x278 x279 x299 x300 x301)) (100 + x276.length) x264 x275 x280 x281 x282)
theorem chmomentum_l1_ok {α:Type}:LoopOk E.P 41 chmomentum_P1 7 (lEnt (α := α) (chmomentum_S6) chmomentum_l1_go) :=
 lEnt_ok E (exec_sound E E_ok (look_chmotion_ok) (chmomentum_l0_lps_ok) 400) fun ds Q r h S hS => by
   unfold chmomentum_l1_go at h
   obtain ⟨x263,ds,rfl,h1⟩ := dI_inv h
   obtain ⟨x264,ds,rfl,h2⟩ := dI_inv h1
   obtain ⟨x265,ds,rfl,h3⟩ := dB_inv h2
   obtain ⟨x266,ds,rfl,h4⟩ := dI_inv h3
   obtain ⟨x267,ds,rfl,h5⟩ := dI_inv h4
   obtain ⟨x268,ds,rfl,h6⟩ := dI_inv h5
   obtain ⟨x269,ds,rfl,h7⟩ := dI_inv h6
   obtain ⟨x270,ds,rfl,h8⟩ := dI_inv h7
   obtain ⟨x271,ds,rfl,h9⟩ := dI_inv h8
   obtain ⟨x272,ds,rfl,h10⟩ := dI_inv h9
   obtain ⟨x273,ds,rfl,h11⟩ := dI_inv h10
   obtain ⟨x274,ds,rfl,h12⟩ := dI_inv h11
   obtain ⟨x275,ds,rfl,h13⟩ := dB_inv h12
   obtain ⟨x276,ds,rfl,h14⟩ := dL_inv h13
   obtain ⟨x277,ds,rfl,h15⟩ := dI_inv h14
   obtain ⟨x278,ds,rfl,h16⟩ := dI_inv h15
   obtain ⟨x279,ds,rfl,h17⟩ := dI_inv h16
   obtain ⟨x280,ds,rfl,h18⟩ := dI_inv h17
   obtain ⟨x281,ds,rfl,h19⟩ := dI_inv h18
   obtain ⟨x282,ds,rfl,h20⟩ := dI_inv h19
   obtain ⟨rfl,hE⟩ := dE_inv h20
   have e:fillS (chmomentum_S6) [.i x263,.i x264,.b x265,.i x266,.i x267,.i x268,.i x269,.i x270,.i x271,.i x272,.i x273,.i x274,.b x275,.l (K.st (LK.i IntKind.i64)
 (LK.i IntKind.i64 :: LK.i IntKind.i64 :: LK.i IntKind.i64 :: LK.i IntKind.i64 :: LK.i IntKind.i64 :: LK.i IntKind.i64 :: LK.i IntKind.i64 :: LK.i IntKind.i64 :: LK.i IntKind.i64 :: LK.i IntKind.i64 :: LK.i IntKind.i64 :: LK.i IntKind.i64 :: LK.i IntKind.i64 :: LK.i IntKind.i64 :: LK.i IntKind.i64 :: LK.i IntKind.i64 :: LK.b :: LK.i IntKind.i64 :: LK.i IntKind.i64 :: LK.i IntKind.i64 :: LK.i IntKind.i64 :: LK.i IntKind.i64 :: LK.i IntKind.i64 :: LK.i IntKind.i64 :: LK.i IntKind.i64 :: LK.i IntKind.i64 :: LK.i IntKind.i64 :: LK.i IntKind.i64 :: LK.i IntKind.i64 :: LK.i IntKind.i64 :: LK.i IntKind.i64 :: LK.i IntKind.i64 :: LK.i IntKind.i64 :: List.nil)) x276,.i x277,.i x278,.i x279,.i x280,.i x281,.i x282] = some (chmomentum_S4 x263 x264 x265 x266 x267 x268 x269 x270 x271 x272 x273 x274 x275 x276 x277 x278 x279 x280 x281 x282) := by kernel_rfl
   rw [e] at hS
   cases hS
   exact ⟨_,(chmomentum_l1_iter x263 x265 x266 x267 x268 x269 x270 x271 x272 x273 x274 x276 x277 x278 x279 Q _ x264 x275 x280 x281 x282).trans hE⟩
noncomputable def chmomentum_l1_lps {α:Type}:LookL α := addLp 41 chmomentum_P1 7 (lEnt (chmomentum_S6) chmomentum_l1_go) chmomentum_l0_lps
theorem chmomentum_l1_lps_ok {α:Type}:LoopsOk E.P (chmomentum_l1_lps (α := α)) := addLp_ok chmomentum_l1_ok (chmomentum_l0_lps_ok)
noncomputable def M.chmomentum {α:Type} (bad:Bool) (l:List L15) (k0:Int → Int → Int → Bool → Option α):Option α := if (!cEq (V.chC l) (0:Int)) = true then k0 (0:Int) (0:Int) (0:Int) bad else if V.chC l = (0:Int) then M.chmomentum_l0 (↑(List.length (V.lay l)):Int) (fun (x308:Bool) (x309:List L34) ↦ M.chmomentum_l1 (↑(List.length x309):Int) x309 (fun (x310:Bool) (x311 x312 x313:Int) ↦ if x310 = true then k0 (0:Int) (0:Int) (0:Int) true else k0 x311 x312 x313 bad) ((100:Nat) + List.length x309) (0:Int) x308 (0:Int) (0:Int) (0:Int)) ((100:Nat) + List.length (V.lay l)) (0:Int) false (V.lay l) else none
theorem chmomentum_eq {α:Type} (bad:Bool) (l:List L15) (v307:Value) (Q:SV → Hp → Option α):callI E look_chmotion (exec E look_chmotion chmomentum_l1_lps 400) 16 ([SV.ptr (nat_lit 0) (nat_lit 0),SV.ros v307 (K.st (LK.i IntKind.i64) [LK.i IntKind.i64,LK.i IntKind.i64,LK.i IntKind.i64,LK.i IntKind.i64,LK.i IntKind.i64,LK.i IntKind.i64,LK.i IntKind.i64,LK.i IntKind.i64,LK.i IntKind.i64,LK.b,LK.i IntKind.i64,LK.i IntKind.i64,LK.i IntKind.i64,LK.i IntKind.i64]) l]) ([.cells [SV.bool bad] (nat_lit 28)]) Q = M.chmomentum bad l (fun (x314 x315 x316:Int) (x317:Bool) => Q (SV.agg [SV.int .i64 x314,SV.int .i64 x315,SV.int .i64 x316]) ([.cells [SV.bool x317] (nat_lit 28)])) := by kernel_rfl
def chmomentum_sp:List AS := [.ptr 28 [.bool false],.ro (.st (.i .i64) [.i .i64,.i .i64,.i .i64,.i .i64,.i .i64,.i .i64,.i .i64,.i .i64,.i .i64,.b,.i .i64,.i .i64,.i .i64,.i .i64])]
theorem chmomentum_step {α:Type} (n:Int) (kn:Int → Bool → List L34 → Option α) (k1:Bool → List L34 → Option α) (i:Int) (f:Bool) (Z:List L34):M.chmomentum_l0_step n kn k1 i f Z = mvK0 n kn k1 i f Z := by kernel_rfl
theorem chmomentum_l0_eq {α:Type} (n:Int) (k1:Bool → List L34 → Option α):∀ (fuel:Nat) (i:Int) (f:Bool) (Z:List L34),M.chmomentum_l0 n k1 fuel i f Z = M.chmotion_l0 n k1 fuel i f Z
 | 0,i,f,Z => rfl
 | m + 1,i,f,Z => by
   show M.chmomentum_l0_step n (M.chmomentum_l0 n k1 m) k1 i f Z = M.chmotion_l0_step n (M.chmotion_l0 n k1 m) k1 i f Z
   rw [chmomentum_step,chmotion_step,show M.chmomentum_l0 n k1 m = M.chmotion_l0 n k1 m from funext fun i => funext fun f => funext fun Z => chmomentum_l0_eq n k1 m i f Z]
theorem chmomentum_l1_val {α:Type} (C:List L15) (P:List Pl) (acc:List MvI) (bad:Bool) (hC:C.length ≤ 1000) (ha:acc.length = C.length) (k1:Bool → Int → Int → Int → Option α):∀ (fuel i:Nat),i ≤ C.length → C.length - i < fuel →
   M.chmomentum_l1 (C.length:Int) (zM C P acc) k1 fuel (i:Int) (smL C P acc bad i).1 (smL C P acc bad i).2.1 (smL C P acc bad i).2.2.1 (smL C P acc bad i).2.2.2 = k1 (smL C P acc bad C.length).1 (smL C P acc bad C.length).2.1 (smL C P acc bad C.length).2.2.1 (smL C P acc bad C.length).2.2.2
 | 0,i,h1,h2 => by omega
 | f + 1,i,h1,h2 => by
   by_cases hi:i < C.length
   · have ih := chmomentum_l1_val C P acc bad hC ha k1 f (i + 1) (by omega) (by omega)
     have g0:List.getD (zM C P acc) (Int.toNat (i:Int)) (0,0,0,0,0,0,0,0,0,0,0,0,0,0,0,0,0,false,0,0,0,0,0,0,0,0,0,0,0,0,0,0,0,0) = bnM (lnk C i) (P.getD i pl0) (acc.getD i mv0) := zM_get C P acc i hi
     have hz := zM_len C P acc
     unfold M.chmomentum_l1 M.chmomentum_l1_step
     try simp only
     rw [cLt_nat,if_pos (by simpa using hi),g0,hz,if_pos (by omega),w_next (by omega)]
     exact ih
   · have : i = C.length := by omega
     subst this
     unfold M.chmomentum_l1 M.chmomentum_l1_step
     try simp only
     rw [cLt_nat,if_neg (by simp)]
noncomputable def smR (l:List L15):Bool × V.T3 := smL l (chP l) (mvR l).2 (mvR l).1 l.length
noncomputable def _root_.Go.Proofs.YtajomehkgaamoaaGreat.V.momB (l:List (Int × Int × Int × Int × Int × Int × Int × Int × Int × Int × Bool × Int × Int × Int × Int)) (bad:Bool):Bool := hid (if V.chC l = 0 ∧ (smR l).1 = true then true else bad)
noncomputable def _root_.Go.Proofs.YtajomehkgaamoaaGreat.V.mom (l:List (Int × Int × Int × Int × Int × Int × Int × Int × Int × Int × Bool × Int × Int × Int × Int)):Int × Int × Int := hid (if V.chC l = 0 ∧ (smR l).1 = false then (smR l).2 else (0,0,0))
theorem chmomentum_v {α:Type} (bad:Bool) (l:List L15) (k0:Int → Int → Int → Bool → Option α):M.chmomentum bad l k0 = k0 (V.mom l).1 (V.mom l).2.1 (V.mom l).2.2 (V.momB l bad) := by
 unfold M.chmomentum V.momB V.mom
 try simp only
 rw [hid_eq,hid_eq,cEq_eq]
 by_cases h:V.chC l = 0
 · obtain ⟨e1, e2, e3, ht⟩ := lay_zip h
   have hl:(V.lay l).length = l.length := by rw [e1,List.length_zipWith]; omega
   have ez:V.lay l = zM l (chP l) [] := by rw [e1]; exact zM_nil l (chP l) e2
   rw [if_neg (by rw [h]; decide),if_pos h,hl,ez,chmomentum_l0_eq]
   refine Eq.trans (chmotion_l0_val l (chP l) (by omega) ht _ _ 0 (by omega) (by omega)) ?_
   have er:mvL l (chP l) false l.length = mvR l := rfl
   have hm := mvL_len l (chP l) false l.length
   rw [er] at hm ⊢
   simp only [zM_len]
   refine Eq.trans (chmomentum_l1_val l (chP l) (mvR l).2 (mvR l).1 (by omega) hm _ _ 0 (by omega) (by omega)) ?_
   have ep:smL l (chP l) (mvR l).2 (mvR l).1 l.length = smR l := rfl
   rw [ep]
   cases hb:(smR l).1 with
   | true => simp [h]
   | false => simp [h]
 · rw [if_pos (by simpa using h)]
   simp [h]
noncomputable def chmomentum_h {α:Type} (ds:List D) (Q:SV → Hp → Option α):Option α :=
 dB ds fun bad ds => dL (K.st (LK.i IntKind.i64) [LK.i IntKind.i64,LK.i IntKind.i64,LK.i IntKind.i64,LK.i IntKind.i64,LK.i IntKind.i64,LK.i IntKind.i64,LK.i IntKind.i64,LK.i IntKind.i64,LK.i IntKind.i64,LK.b,LK.i IntKind.i64,LK.i IntKind.i64,LK.i IntKind.i64,LK.i IntKind.i64]) ds fun l ds => dE ds (Q (.agg [.int .i64 (V.mom l).1,.int .i64 (V.mom l).2.1,.int .i64 (V.mom l).2.2]) ([.cells [.bool (V.momB l bad)] 28]))
theorem chmomentum_h_ok {α:Type}:FnOk E.P 16 (fEnt (α := α) chmomentum_sp chmomentum_h) :=
 fEntR_ok E (look_chmotion_ok) (exec_sound E E_ok (look_chmotion_ok) (chmomentum_l1_lps_ok) 400) fun ds Q r h => by
   unfold chmomentum_h at h
   obtain ⟨bad,ds,rfl,h1⟩ := dB_inv h
   obtain ⟨l,ds,rfl,h2⟩ := dL_inv h1
   obtain ⟨rfl,hE⟩ := dE_inv h2
   exact ⟨_,_,hE,fun vs => ⟨_,_,by kernel_rfl,(chmomentum_eq bad l (vs.tail.headD undef) _).trans (chmomentum_v bad l _)⟩⟩
noncomputable def look_chmomentum {α:Type}:LookF α := addFn 16 (fEnt chmomentum_sp chmomentum_h) look_chmotion
theorem look_chmomentum_ok {α:Type}:LookOk E.P (look_chmomentum (α := α)) := addFn_ok chmomentum_h_ok (look_chmotion_ok)
end
section
open Go
set_option maxRecDepth 20000
noncomputable abbrev chvecs_S1 (y1:Value) (y2:L3) (y3:Value) (y4:L3) (y5:Int):St := St.mk (some (SV.ros y1 kP y2) :: some (SV.ros y3 kP y4) :: nn 3 (some (SV.int .i64 y5) :: nn 20 ([]))) []
noncomputable def M.chvecs_l0_step {α:Type} (x8 x10:L3) (kn:Int → Option α) (k0:Option α) (k2:Option α) (x11:Int):Option α := if cLt x11 (↑(List.length x8):Int) = true then if (0:Int) ≤ x11 ∧ x11 < (↑(List.length x8):Int) then if (0:Int) ≤ x11 ∧ x11 < (↑(List.length x10):Int) then if (!(cEq (Prod.fst (List.getD x8 (Int.toNat x11) ((0:Int),(0:Int),(0:Int)))) (Prod.fst (List.getD x10 (Int.toNat x11) ((0:Int),(0:Int),(0:Int)))) && (cEq (Prod.fst (Prod.snd (List.getD x8 (Int.toNat x11) ((0:Int),(0:Int),(0:Int))))) (Prod.fst (Prod.snd (List.getD x10 (Int.toNat x11) ((0:Int),(0:Int),(0:Int))))) && (cEq (Prod.snd (Prod.snd (List.getD x8 (Int.toNat x11) ((0:Int),(0:Int),(0:Int))))) (Prod.snd (Prod.snd (List.getD x10 (Int.toNat x11) ((0:Int),(0:Int),(0:Int))))) && true)))) = true then k0 else kn (IntKind.wrap .i64 (x11 + (1:Int))) else none else none else k2
noncomputable def M.chvecs_l0 {α:Type} (x8 x10:L3) (k0:Option α) (k2:Option α):Nat → Int → Option α
 | 0,_ => none
 | n + 1,x11 => M.chvecs_l0_step x8 x10 (M.chvecs_l0 x8 x10 k0 k2 n) k0 k2 x11
theorem chvecs_l0_step_eq {α:Type} (x7:Value) (x8:L3) (x9:Value) (x10:L3) (x11:Int) (Q:Ex → St → Option α):(loopStep E (exec E look_chmomentum noLps 400) 11 [false,true,false,true,true] 0 (codeAt E.P 11 [false,true,false,true,true])) (chvecs_S1 x7 x8 x9 x10 x11) Q = M.chvecs_l0_step x8 x10 (fun (x12:Int) => Q .normal (chvecs_S1 x7 x8 x9 x10 x12)) (Q .ret (St.mk (nn 4 (some (SV.bool false) :: nn 21 ([]))) [])) (Q (.exit 0) (St.mk (nn 26 ([])) [])) x11 := by kernel_rfl
theorem chvecs_l0_iter {α:Type} (x7:Value) (x8:L3) (x9:Value) (x10:L3) (Q:Ex → St → Option α):∀ (n:Nat) (x11:Int),iter (loopStep E (exec E look_chmomentum noLps 400) 11 [false,true,false,true,true] 0 (codeAt E.P 11 [false,true,false,true,true])) n (chvecs_S1 x7 x8 x9 x10 x11) Q = M.chvecs_l0 x8 x10 (Q .ret (St.mk (nn 4 (some (SV.bool false) :: nn 21 ([]))) [])) (Q (.exit 0) (St.mk (nn 26 ([])) [])) n x11
 | 0,_ => rfl
 | n + 1,x11 => (chvecs_l0_step_eq x7 x8 x9 x10 x11 (iterK (loopStep E (exec E look_chmomentum noLps 400) 11 [false,true,false,true,true] 0 (codeAt E.P 11 [false,true,false,true,true])) n Q)).trans (congrArg (fun kn => M.chvecs_l0_step x8 x10 kn (Q .ret (St.mk (nn 4 (some (SV.bool false) :: nn 21 ([]))) [])) (Q (.exit 0) (St.mk (nn 26 ([])) [])) x11) (funext fun x11 => chvecs_l0_iter x7 x8 x9 x10 Q n x11))
noncomputable def chvecs_l0_go {α:Type} (ds:List D) (Q:Ex → St → Option α):Option α :=
 dV ds fun x7 ds => dL kP ds fun x8 ds => dV ds fun x9 ds => dL kP ds fun x10 ds => dI ds fun x11 ds => dE ds (M.chvecs_l0 x8 x10 (Q .ret (St.mk (nn 4 (some (SV.bool false) :: nn 21 ([]))) [])) (Q (.exit 0) (St.mk (nn 26 ([])) [])) (100 + x8.length + x10.length) x11)
theorem chvecs_l0_ok {α:Type}:LoopOk E.P 11 [false,true,false,true,true] 0 (lEnt (α := α) (St.mk (some (SV.ros undef kP []) :: some (SV.ros undef kP []) :: nn 3 (some (SV.int .i64 (0:Int)) :: nn 20 ([]))) []) chvecs_l0_go) :=
 lEnt_ok E (exec_sound E E_ok (look_chmomentum_ok) (noLps_ok _) 400) fun ds Q r h S hS => by
   unfold chvecs_l0_go at h
   obtain ⟨x7,ds,rfl,h1⟩ := dV_inv h
   obtain ⟨x8,ds,rfl,h2⟩ := dL_inv h1
   obtain ⟨x9,ds,rfl,h3⟩ := dV_inv h2
   obtain ⟨x10,ds,rfl,h4⟩ := dL_inv h3
   obtain ⟨x11,ds,rfl,h5⟩ := dI_inv h4
   obtain ⟨rfl,hE⟩ := dE_inv h5
   have e:fillS (St.mk (some (SV.ros undef kP []) :: some (SV.ros undef kP []) :: nn 3 (some (SV.int .i64 (0:Int)) :: nn 20 ([]))) []) [.v x7,.l kP x8,.v x9,.l kP x10,.i x11] = some (chvecs_S1 x7 x8 x9 x10 x11) := by kernel_rfl
   rw [e] at hS
   cases hS
   exact ⟨_,(chvecs_l0_iter x7 x8 x9 x10 Q _ x11).trans hE⟩
noncomputable def chvecs_l0_lps {α:Type}:LookL α := addLp 11 [false,true,false,true,true] 0 (lEnt (St.mk (some (SV.ros undef kP []) :: some (SV.ros undef kP []) :: nn 3 (some (SV.int .i64 (0:Int)) :: nn 20 ([]))) []) chvecs_l0_go) noLps
theorem chvecs_l0_lps_ok {α:Type}:LoopsOk E.P (chvecs_l0_lps (α := α)) := addLp_ok chvecs_l0_ok (noLps_ok _)
noncomputable def M.chvecs {α:Type} (a:L3) (b:L3) (k0:Bool → Option α):Option α := if (!cEq (↑(List.length a):Int) (↑(List.length b):Int)) = true then k0 false else M.chvecs_l0 a b (k0 false) (k0 true) ((100:Nat) + List.length a + List.length b) (0:Int)
theorem chvecs_eq {α:Type} (a:L3) (b:L3) (v13:Value) (v14:Value) (Q:SV → Hp → Option α):callI E look_chmomentum (exec E look_chmomentum chvecs_l0_lps 400) 11 ([SV.ros v13 kP a,SV.ros v14 kP b]) ([]) Q = M.chvecs a b (fun (x15:Bool) => Q (SV.bool x15) ([])) := by kernel_rfl
def chvecs_sp:List AS := [.ro kP,.ro kP]
noncomputable def _root_.Go.Proofs.YtajomehkgaamoaaGreat.V.vsEq (a b:List (Int × Int × Int)):Bool := exB (a = b)
theorem eq3 (p q:V.T3):(cEq p.1 q.1 && (cEq p.2.1 q.2.1 && (cEq p.2.2 q.2.2 && true))) = exB (p = q) := by
 obtain ⟨a,b,c⟩ := p
 obtain ⟨a',b',c'⟩ := q
 simp only [cEq_eq]
 rw [Bool.eq_iff_iff]
 simp only [Bool.and_eq_true,beq_iff_eq,exB_iff,Prod.mk.injEq,and_true]
theorem drop3 (l:List V.T3) (i:Nat) (h:i < l.length):l.drop i = l.getD i v30 :: l.drop (i + 1) := by
 rw [List.drop_eq_getElem_cons h]; simp [List.getD_eq_getElem?_getD,h]
theorem chvecs_l0_val {α:Type} (a b:List V.T3) (hl:a.length = b.length) (ha:a.length < 1099511627776) (k0 k2:Option α):∀ (fuel i:Nat),i ≤ a.length → a.length - i < fuel → M.chvecs_l0 a b k0 k2 fuel (i:Int) = if exB (a.drop i = b.drop i) = true then k2 else k0
 | 0,i,h1,h2 => by omega
 | f + 1,i,h1,h2 => by
   unfold M.chvecs_l0 M.chvecs_l0_step
   try simp only
   rw [cLt_nat]
   by_cases hi:i < a.length
   · rw [if_pos (by simpa using hi),if_pos (by omega),if_pos (by omega),drop3 a i hi,drop3 b i (by omega),w_next (by omega),chvecs_l0_val a b hl ha k0 k2 f (i + 1) (by omega) (by omega)]
     have e := eq3 (a.getD i v30) (b.getD i v30)
     have e':∀ x:List V.T3,List.getD x (Int.toNat (i:Int)) (0,0,0) = x.getD i v30 := fun x => rfl
     rw [e',e',e]
     by_cases h:a.getD i v30 = b.getD i v30
     · rw [if_neg (by rw [exB_true h]; decide), h]
       by_cases h2:a.drop (i + 1) = b.drop (i + 1)
       · rw [if_pos (exB_true h2),if_pos (exB_true (by rw [h2]))]
       · rw [if_neg (by rw [exB_false h2]; decide),if_neg (by rw [exB_false (fun hc => h2 (List.cons.inj hc).2)]; decide)]
     · rw [if_pos (by rw [exB_false h]; rfl),if_neg (by rw [exB_false (fun hc => h (List.cons.inj hc).1)]; decide)]
   · have : i = a.length := by omega
     subst this
     rw [if_neg (by simp),List.drop_length,List.drop_of_length_le (by omega),if_pos (exB_true rfl)]
theorem chvecs_v {α:Type} (a b:List V.T3) (hg:V.lenC a.length = true) (k0:Bool → Option α):M.chvecs a b k0 = k0 (V.vsEq a b) := by
 have ha := lenC_lt hg
 unfold M.chvecs V.vsEq
 rw [cEq_eq]
 by_cases hl:a.length = b.length
 · rw [if_neg (by simp [hl])]
   refine Eq.trans (chvecs_l0_val a b hl ha _ _ _ 0 (by omega) (by omega)) ?_
   rw [List.drop_zero,List.drop_zero]
   by_cases h:a = b
   · rw [if_pos (exB_true h),exB_true h]
   · rw [if_neg (by rw [exB_false h]; decide),exB_false h]
 · rw [if_pos (by simp; omega),exB_false (fun h => hl (by rw [h]))]
noncomputable def chvecs_h {α:Type} (ds:List D) (Q:SV → Hp → Option α):Option α :=
 dL kP ds fun a ds => dL kP ds fun b ds => dE ds (if V.lenC a.length = true then Q (.bool (V.vsEq a b)) ([]) else none)
theorem chvecs_h_ok {α:Type}:FnOk E.P 11 (fEnt (α := α) chvecs_sp chvecs_h) :=
 fEntR_ok E (look_chmomentum_ok) (exec_sound E E_ok (look_chmomentum_ok) (chvecs_l0_lps_ok) 400) fun ds Q r h => by
   unfold chvecs_h at h
   obtain ⟨a,ds,rfl,h1⟩ := dL_inv h
   obtain ⟨b,ds,rfl,h2⟩ := dL_inv h1
   obtain ⟨rfl,hE⟩ := dE_inv h2
   split at hE
   · rename_i hg
     exact ⟨_,_,hE,fun vs => ⟨_,_,by kernel_rfl,(chvecs_eq a b (vs.headD undef) (vs.tail.headD undef) _).trans (chvecs_v a b hg _)⟩⟩
   · cases hE
noncomputable def look_chvecs {α:Type}:LookF α := addFn 11 (fEnt chvecs_sp chvecs_h) look_chmomentum
theorem look_chvecs_ok {α:Type}:LookOk E.P (look_chvecs (α := α)) := addFn_ok chvecs_h_ok (look_chmomentum_ok)
noncomputable abbrev chnums_S1 (y1:Value) (y2:List Int) (y3:Value) (y4:List Int) (y5:Int):St := St.mk (some (SV.ros y1 (K.int IntKind.i64) y2) :: some (SV.ros y3 (K.int IntKind.i64) y4) :: nn 3 (some (SV.int .i64 y5) :: nn 20 ([]))) []
noncomputable abbrev chnums_S2:St := St.mk (some (SV.ros undef (K.int IntKind.i64) []) :: some (SV.ros undef (K.int IntKind.i64) []) :: nn 3 (some (SV.int .i64 (0:Int)) :: nn 20 ([]))) []
noncomputable def M.chnums_l0_step {α:Type} (x24:List Int) (x26:List Int) (kn:Int → Option α) (k0:Option α) (k2:Option α) (x27:Int):Option α := if cLt x27 (↑(List.length x24):Int) = true then if (0:Int) ≤ x27 ∧ x27 < (↑(List.length x24):Int) then if (0:Int) ≤ x27 ∧ x27 < (↑(List.length x26):Int) then if (!cEq (List.getD x24 (Int.toNat x27) (0:Int)) (List.getD x26 (Int.toNat x27) (0:Int))) = true then k0 else kn (IntKind.wrap .i64 (x27 + (1:Int))) else none else none else k2
noncomputable def M.chnums_l0 {α:Type} (x24:List Int) (x26:List Int) (k0:Option α) (k2:Option α):Nat → Int → Option α
 | 0,_ => none
 | n + 1,x27 => M.chnums_l0_step x24 x26 (M.chnums_l0 x24 x26 k0 k2 n) k0 k2 x27
theorem chnums_l0_step_eq {α:Type} (x23:Value) (x24:List Int) (x25:Value) (x26:List Int) (x27:Int) (Q:Ex → St → Option α):(loopStep E (exec E look_chvecs noLps 400) 20 [false,true,false,true,true] 0 (codeAt E.P 20 [false,true,false,true,true])) (chnums_S1 x23 x24 x25 x26 x27) Q = M.chnums_l0_step x24 x26 (fun (x28:Int) => Q .normal (chnums_S1 x23 x24 x25 x26 x28)) (Q .ret (St.mk (nn 4 (some (SV.bool false) :: nn 21 ([]))) [])) (Q (.exit 0) (St.mk (nn 26 ([])) [])) x27 := by kernel_rfl
theorem chnums_l0_iter {α:Type} (x23:Value) (x24:List Int) (x25:Value) (x26:List Int) (Q:Ex → St → Option α):∀ (n:Nat) (x27:Int),iter (loopStep E (exec E look_chvecs noLps 400) 20 [false,true,false,true,true] 0 (codeAt E.P 20 [false,true,false,true,true])) n (chnums_S1 x23 x24 x25 x26 x27) Q = M.chnums_l0 x24 x26 (Q .ret (St.mk (nn 4 (some (SV.bool false) :: nn 21 ([]))) [])) (Q (.exit 0) (St.mk (nn 26 ([])) [])) n x27
 | 0,_ => rfl
 | n + 1,x27 => (chnums_l0_step_eq x23 x24 x25 x26 x27 (iterK (loopStep E (exec E look_chvecs noLps 400) 20 [false,true,false,true,true] 0 (codeAt E.P 20 [false,true,false,true,true])) n Q)).trans (congrArg (fun kn => M.chnums_l0_step x24 x26 kn (Q .ret (St.mk (nn 4 (some (SV.bool false) :: nn 21 ([]))) [])) (Q (.exit 0) (St.mk (nn 26 ([])) [])) x27) (funext fun x27 => chnums_l0_iter x23 x24 x25 x26 Q n x27))
noncomputable def chnums_l0_go {α:Type} (ds:List D) (Q:Ex → St → Option α):Option α :=
 dV ds fun x23 ds => dL (K.int IntKind.i64) ds fun x24 ds => dV ds fun x25 ds => dL (K.int IntKind.i64) ds fun x26 ds => dI ds fun x27 ds => dE ds (M.chnums_l0 x24 x26 (Q .ret (St.mk (nn 4 (some (SV.bool false) :: nn 21 ([]))) [])) (Q (.exit 0) (St.mk (nn 26 ([])) [])) (100 + x24.length + x26.length) x27)
theorem chnums_l0_ok {α:Type}:LoopOk E.P 20 [false,true,false,true,true] 0 (lEnt (α := α) (chnums_S2) chnums_l0_go) :=
 lEnt_ok E (exec_sound E E_ok (look_chvecs_ok) (noLps_ok _) 400) fun ds Q r h S hS => by
   unfold chnums_l0_go at h
   obtain ⟨x23,ds,rfl,h1⟩ := dV_inv h
   obtain ⟨x24,ds,rfl,h2⟩ := dL_inv h1
   obtain ⟨x25,ds,rfl,h3⟩ := dV_inv h2
   obtain ⟨x26,ds,rfl,h4⟩ := dL_inv h3
   obtain ⟨x27,ds,rfl,h5⟩ := dI_inv h4
   obtain ⟨rfl,hE⟩ := dE_inv h5
   have e:fillS (chnums_S2) [.v x23,.l (K.int IntKind.i64) x24,.v x25,.l (K.int IntKind.i64) x26,.i x27] = some (chnums_S1 x23 x24 x25 x26 x27) := by kernel_rfl
   rw [e] at hS
   cases hS
   exact ⟨_,(chnums_l0_iter x23 x24 x25 x26 Q _ x27).trans hE⟩
noncomputable def chnums_l0_lps {α:Type}:LookL α := addLp 20 [false,true,false,true,true] 0 (lEnt (chnums_S2) chnums_l0_go) noLps
theorem chnums_l0_lps_ok {α:Type}:LoopsOk E.P (chnums_l0_lps (α := α)) := addLp_ok chnums_l0_ok (noLps_ok _)
noncomputable def M.chnums {α:Type} (a:List Int) (b:List Int) (k0:Bool → Option α):Option α := if (!cEq (↑(List.length a):Int) (↑(List.length b):Int)) = true then k0 false else M.chnums_l0 a b (k0 false) (k0 true) ((100:Nat) + List.length a + List.length b) (0:Int)
theorem chnums_eq {α:Type} (a:List Int) (b:List Int) (v29:Value) (v30:Value) (Q:SV → Hp → Option α):callI E look_chvecs (exec E look_chvecs chnums_l0_lps 400) 20 ([SV.ros v29 (K.int IntKind.i64) a,SV.ros v30 (K.int IntKind.i64) b]) ([]) Q = M.chnums a b (fun (x31:Bool) => Q (SV.bool x31) ([])) := by kernel_rfl
def chnums_sp:List AS := [.ro (.int .i64),.ro (.int .i64)]
noncomputable def _root_.Go.Proofs.YtajomehkgaamoaaGreat.V.nsEq (a b:List Int):Bool := exB (a = b)
theorem drop1 (l:List Int) (i:Nat) (h:i < l.length):l.drop i = l.getD i 0 :: l.drop (i + 1) := by
 rw [List.drop_eq_getElem_cons h]; simp [List.getD_eq_getElem?_getD,h]
theorem chnums_l0_val {α:Type} (a b:List Int) (hl:a.length = b.length) (ha:a.length < 1099511627776) (k0 k2:Option α):∀ (fuel i:Nat),i ≤ a.length → a.length - i < fuel → M.chnums_l0 a b k0 k2 fuel (i:Int) = if exB (a.drop i = b.drop i) = true then k2 else k0
 | 0,i,h1,h2 => by omega
 | f + 1,i,h1,h2 => by
   unfold M.chnums_l0 M.chnums_l0_step
   try simp only
   rw [cLt_nat]
   by_cases hi:i < a.length
   · rw [if_pos (by simpa using hi),if_pos (by omega),if_pos (by omega),drop1 a i hi,drop1 b i (by omega),w_next (by omega),chnums_l0_val a b hl ha k0 k2 f (i + 1) (by omega) (by omega)]
     have e':∀ x:List Int,List.getD x (Int.toNat (i:Int)) 0 = x.getD i 0 := fun x => rfl
     rw [e',e',cEq_eq]
     by_cases h:a.getD i 0 = b.getD i 0
     · rw [if_neg (by rw [h]; simp), h]
       by_cases h2:a.drop (i + 1) = b.drop (i + 1)
       · rw [if_pos (exB_true h2),if_pos (exB_true (by rw [h2]))]
       · rw [if_neg (by rw [exB_false h2]; decide),if_neg (by rw [exB_false (fun hc => h2 (List.cons.inj hc).2)]; decide)]
     · rw [if_pos (by simp only [Bool.not_eq_true',beq_eq_false_iff_ne]; exact h),if_neg (by rw [exB_false (fun hc => h (List.cons.inj hc).1)]; decide)]
   · have : i = a.length := by omega
     subst this
     rw [if_neg (by simp),List.drop_length,List.drop_of_length_le (by omega),if_pos (exB_true rfl)]
theorem chnums_v {α:Type} (a b:List Int) (hg:V.lenC a.length = true) (k0:Bool → Option α):M.chnums a b k0 = k0 (V.nsEq a b) := by
 have ha := lenC_lt hg
 unfold M.chnums V.nsEq
 rw [cEq_eq]
 by_cases hl:a.length = b.length
 · rw [if_neg (by simp [hl])]
   refine Eq.trans (chnums_l0_val a b hl ha _ _ _ 0 (by omega) (by omega)) ?_
   rw [List.drop_zero,List.drop_zero]
   by_cases h:a = b
   · rw [if_pos (exB_true h),exB_true h]
   · rw [if_neg (by rw [exB_false h]; decide),exB_false h]
 · rw [if_pos (by simp; omega),exB_false (fun h => hl (by rw [h]))]
noncomputable def chnums_h {α:Type} (ds:List D) (Q:SV → Hp → Option α):Option α :=
 dL (K.int IntKind.i64) ds fun a ds => dL (K.int IntKind.i64) ds fun b ds => dE ds (if V.lenC a.length = true then Q (.bool (V.nsEq a b)) ([]) else none)
theorem chnums_h_ok {α:Type}:FnOk E.P 20 (fEnt (α := α) chnums_sp chnums_h) :=
 fEntR_ok E (look_chvecs_ok) (exec_sound E E_ok (look_chvecs_ok) (chnums_l0_lps_ok) 400) fun ds Q r h => by
   unfold chnums_h at h
   obtain ⟨a,ds,rfl,h1⟩ := dL_inv h
   obtain ⟨b,ds,rfl,h2⟩ := dL_inv h1
   obtain ⟨rfl,hE⟩ := dE_inv h2
   split at hE
   · rename_i hg
     exact ⟨_,_,hE,fun vs => ⟨_,_,by kernel_rfl,(chnums_eq a b (vs.headD undef) (vs.tail.headD undef) _).trans (chnums_v a b hg _)⟩⟩
   · cases hE
noncomputable def look_chnums {α:Type}:LookF α := addFn 20 (fEnt chnums_sp chnums_h) look_chvecs
theorem look_chnums_ok {α:Type}:LookOk E.P (look_chnums (α := α)) := addFn_ok chnums_h_ok (look_chvecs_ok)
end
section
open Go
set_option maxRecDepth 20000
noncomputable def look_ChXa_dvadd {α:Type}:LookF α := addFn 44 (fEnt dvadd_sp dvadd_h) look_chnums
theorem look_ChXa_dvadd_ok {α:Type}:LookOk E.P (look_ChXa_dvadd (α := α)) := addFn_ok dvadd_h_ok (look_chnums_ok)
noncomputable def look_ChXa_dvsub {α:Type}:LookF α := addFn 52 (fEnt dvsub_sp dvsub_h) look_ChXa_dvadd
theorem look_ChXa_dvsub_ok {α:Type}:LookOk E.P (look_ChXa_dvsub (α := α)) := addFn_ok dvsub_h_ok (look_ChXa_dvadd_ok)
noncomputable def look_ChXa_dvscale {α:Type}:LookF α := addFn 45 (fEnt dvscale_sp dvscale_h) look_ChXa_dvsub
theorem look_ChXa_dvscale_ok {α:Type}:LookOk E.P (look_ChXa_dvscale (α := α)) := addFn_ok dvscale_h_ok (look_ChXa_dvsub_ok)
noncomputable def look_ChXa_dvdot {α:Type}:LookF α := addFn 53 (fEnt dvdot_sp dvdot_h) look_ChXa_dvscale
theorem look_ChXa_dvdot_ok {α:Type}:LookOk E.P (look_ChXa_dvdot (α := α)) := addFn_ok dvdot_h_ok (look_ChXa_dvscale_ok)
noncomputable def look_ChXa_dvcross {α:Type}:LookF α := addFn 51 (fEnt dvcross_sp dvcross_h) look_ChXa_dvdot
theorem look_ChXa_dvcross_ok {α:Type}:LookOk E.P (look_ChXa_dvcross (α := α)) := addFn_ok dvcross_h_ok (look_ChXa_dvdot_ok)
noncomputable def look_ChXa_dvturn {α:Type}:LookF α := addFn 68 (fEnt dvturn_sp dvturn_h) look_ChXa_dvcross
theorem look_ChXa_dvturn_ok {α:Type}:LookOk E.P (look_ChXa_dvturn (α := α)) := addFn_ok dvturn_h_ok (look_ChXa_dvcross_ok)
noncomputable def look_ChXa_dvtimes {α:Type}:LookF α := addFn 70 (fEnt dvtimes_sp dvtimes_h) look_ChXa_dvturn
theorem look_ChXa_dvtimes_ok {α:Type}:LookOk E.P (look_ChXa_dvtimes (α := α)) := addFn_ok dvtimes_h_ok (look_ChXa_dvturn_ok)
noncomputable def look_ChXa_dvwhole {α:Type}:LookF α := addFn 69 (fEnt dvwhole_sp dvwhole_h) look_ChXa_dvtimes
theorem look_ChXa_dvwhole_ok {α:Type}:LookOk E.P (look_ChXa_dvwhole (α := α)) := addFn_ok dvwhole_h_ok (look_ChXa_dvtimes_ok)
noncomputable def look_ChXa_dvrows {α:Type}:LookF α := addFn 67 (fEnt dvrows_sp dvrows_h) look_ChXa_dvwhole
theorem look_ChXa_dvrows_ok {α:Type}:LookOk E.P (look_ChXa_dvrows (α := α)) := addFn_ok dvrows_h_ok (look_ChXa_dvwhole_ok)
noncomputable abbrev chmiddles_S1 (y1 y2:Int) (y3:Bool) (y4 y5 y6:L3) (y7:Bool) (y8:List L34) (y9:L3):St := St.mk (nn 3 (some (SV.sl (nat_lit 7)) :: nn 5 (some (SV.sl (nat_lit 6)) :: some (SV.int .i64 y1) :: some (SV.int .i64 y2) :: nn 10 ([])))) [.cells [SV.bool y3] (nat_lit 28),.seq kP y4 (nat_lit 24),.seq kP y5 (nat_lit 24),.seq kP y6 (nat_lit 24),.cells [SV.bool y7] (nat_lit 28),.cells [SV.ptr (nat_lit 4) (nat_lit 0),SV.sl (nat_lit 6)] (nat_lit 69),SObj.seq (K.st (LK.i IntKind.i64) (LK.i IntKind.i64 :: LK.i IntKind.i64 :: LK.i IntKind.i64 :: LK.i IntKind.i64 :: LK.i IntKind.i64 :: LK.i IntKind.i64 :: LK.i IntKind.i64 :: LK.i IntKind.i64 :: LK.i IntKind.i64 :: LK.i IntKind.i64 :: LK.i IntKind.i64 :: LK.i IntKind.i64 :: LK.i IntKind.i64 :: LK.i IntKind.i64 :: LK.i IntKind.i64 :: LK.i IntKind.i64 :: LK.b :: LK.i IntKind.i64 :: LK.i IntKind.i64 :: LK.i IntKind.i64 :: LK.i IntKind.i64 :: LK.i IntKind.i64 :: LK.i IntKind.i64 :: LK.i IntKind.i64 :: LK.i IntKind.i64 :: LK.i IntKind.i64 :: LK.i IntKind.i64 :: LK.i IntKind.i64 :: LK.i IntKind.i64 :: LK.i IntKind.i64 :: LK.i IntKind.i64 :: LK.i IntKind.i64 :: LK.i IntKind.i64 :: List.nil)) y8 (nat_lit 71),.seq kP y9 (nat_lit 24)]
noncomputable abbrev chmiddles_S2 (y1:Bool) (y2 y3 y4:L3) (y5:Bool) (y6:List L34) (y7:L3):St := St.mk (nn 3 (some (SV.sl (nat_lit 7)) :: nn 18 ([]))) [.cells [SV.bool y1] (nat_lit 28),.seq kP y2 (nat_lit 24),.seq kP y3 (nat_lit 24),.seq kP y4 (nat_lit 24),.cells [SV.bool y5] (nat_lit 28),.cells [SV.ptr (nat_lit 4) (nat_lit 0),SV.sl (nat_lit 6)] (nat_lit 69),SObj.seq (K.st (LK.i IntKind.i64) (LK.i IntKind.i64 :: LK.i IntKind.i64 :: LK.i IntKind.i64 :: LK.i IntKind.i64 :: LK.i IntKind.i64 :: LK.i IntKind.i64 :: LK.i IntKind.i64 :: LK.i IntKind.i64 :: LK.i IntKind.i64 :: LK.i IntKind.i64 :: LK.i IntKind.i64 :: LK.i IntKind.i64 :: LK.i IntKind.i64 :: LK.i IntKind.i64 :: LK.i IntKind.i64 :: LK.i IntKind.i64 :: LK.b :: LK.i IntKind.i64 :: LK.i IntKind.i64 :: LK.i IntKind.i64 :: LK.i IntKind.i64 :: LK.i IntKind.i64 :: LK.i IntKind.i64 :: LK.i IntKind.i64 :: LK.i IntKind.i64 :: LK.i IntKind.i64 :: LK.i IntKind.i64 :: LK.i IntKind.i64 :: LK.i IntKind.i64 :: LK.i IntKind.i64 :: LK.i IntKind.i64 :: LK.i IntKind.i64 :: LK.i IntKind.i64 :: List.nil)) y6 (nat_lit 71),.seq kP y7 (nat_lit 24)]
noncomputable abbrev chmiddles_S3:St := St.mk (nn 3 (some (SV.sl (nat_lit 7)) :: nn 5 (some (SV.sl (nat_lit 6)) :: some (SV.int .i64 (0:Int)) :: some (SV.int .i64 (0:Int)) :: nn 10 ([])))) [.cells [SV.bool false] (nat_lit 28),.seq kP [] (nat_lit 24),.seq kP [] (nat_lit 24),.seq kP [] (nat_lit 24),.cells [SV.bool false] (nat_lit 28),.cells [SV.ptr (nat_lit 4) (nat_lit 0),SV.sl (nat_lit 6)] (nat_lit 69),SObj.seq (K.st (LK.i IntKind.i64) (LK.i IntKind.i64 :: LK.i IntKind.i64 :: LK.i IntKind.i64 :: LK.i IntKind.i64 :: LK.i IntKind.i64 :: LK.i IntKind.i64 :: LK.i IntKind.i64 :: LK.i IntKind.i64 :: LK.i IntKind.i64 :: LK.i IntKind.i64 :: LK.i IntKind.i64 :: LK.i IntKind.i64 :: LK.i IntKind.i64 :: LK.i IntKind.i64 :: LK.i IntKind.i64 :: LK.i IntKind.i64 :: LK.b :: LK.i IntKind.i64 :: LK.i IntKind.i64 :: LK.i IntKind.i64 :: LK.i IntKind.i64 :: LK.i IntKind.i64 :: LK.i IntKind.i64 :: LK.i IntKind.i64 :: LK.i IntKind.i64 :: LK.i IntKind.i64 :: LK.i IntKind.i64 :: LK.i IntKind.i64 :: LK.i IntKind.i64 :: LK.i IntKind.i64 :: LK.i IntKind.i64 :: LK.i IntKind.i64 :: LK.i IntKind.i64 :: List.nil)) [] (nat_lit 71),.seq kP [] (nat_lit 24)]
noncomputable def M.chmiddles_l0_step {α:Type} (x10:Int) (x17:List L34) (kn:Int → L3 → Option α) (k1:L3 → Option α) (x11:Int) (x18:L3):Option α := let s19 := Prod.snd (Prod.snd (Prod.snd (Prod.snd (Prod.snd (Prod.snd (Prod.snd (Prod.snd (Prod.snd (Prod.snd (Prod.snd (Prod.snd (Prod.snd (Prod.snd (Prod.snd (Prod.snd (Prod.snd (Prod.snd (Prod.snd (Prod.snd (Prod.snd (Prod.snd (Prod.snd (Prod.snd (Prod.snd (List.getD x17 (Int.toNat x11) ((0:Int),(0:Int),(0:Int),(0:Int),(0:Int),(0:Int),(0:Int),(0:Int),(0:Int),(0:Int),(0:Int),(0:Int),(0:Int),(0:Int),(0:Int),(0:Int),(0:Int),false,(0:Int),(0:Int),(0:Int),(0:Int),(0:Int),(0:Int),(0:Int),(0:Int),(0:Int),(0:Int),(0:Int),(0:Int),(0:Int),(0:Int),(0:Int),(0:Int))))))))))))))))))))))))))); let s20 := Prod.snd s19; if cLt x11 x10 = true then if (0:Int) ≤ x11 ∧ x11 < (↑(List.length x17):Int) then if (List.length x18 + ((0:Nat) + (1:Nat))) * (24:Nat) ≤ (140737488355328:Nat) then kn (IntKind.wrap .i64 (x11 + (1:Int))) (x18 ++ [(Prod.fst s19,Prod.fst s20,Prod.fst (Prod.snd s20))]) else none else none else k1 x18
noncomputable def M.chmiddles_l0 {α:Type} (x10:Int) (x17:List L34) (k1:L3 → Option α):Nat → Int → L3 → Option α
 | 0,_,_ => none
 | n + 1,x11,x18 => M.chmiddles_l0_step x10 x17 (M.chmiddles_l0 x10 x17 k1 n) k1 x11 x18
theorem chmiddles_l0_step_eq {α:Type} (x10 x11:Int) (x12:Bool) (x13 x14 x15:L3) (x16:Bool) (x17:List L34) (x18:L3) (Q:Ex → St → Option α):(loopStep E (exec E look_ChXa_dvrows noLps 400) 33 [false,true,false,true,true] 7 (codeAt E.P 33 [false,true,false,true,true])) (chmiddles_S1 x10 x11 x12 x13 x14 x15 x16 x17 x18) Q = M.chmiddles_l0_step x10 x17 (fun (x22:Int) (x23:L3) => Q .normal (chmiddles_S1 x10 x22 x12 x13 x14 x15 x16 x17 x23)) (fun (x21:L3) => Q (.exit 0) (chmiddles_S2 x12 x13 x14 x15 x16 x17 x21)) x11 x18 := by kernel_rfl
theorem chmiddles_l0_iter {α:Type} (x10:Int) (x12:Bool) (x13 x14 x15:L3) (x16:Bool) (x17:List L34) (Q:Ex → St → Option α):∀ (n:Nat) (x11:Int) (x18:L3),iter (loopStep E (exec E look_ChXa_dvrows noLps 400) 33 [false,true,false,true,true] 7 (codeAt E.P 33 [false,true,false,true,true])) n (chmiddles_S1 x10 x11 x12 x13 x14 x15 x16 x17 x18) Q = M.chmiddles_l0 x10 x17 (fun (x21:L3) => Q (.exit 0) (chmiddles_S2 x12 x13 x14 x15 x16 x17 x21)) n x11 x18
 | 0,_,_ => rfl
 | n + 1,x11,x18 => (chmiddles_l0_step_eq x10 x11 x12 x13 x14 x15 x16 x17 x18 (iterK (loopStep E (exec E look_ChXa_dvrows noLps 400) 33 [false,true,false,true,true] 7 (codeAt E.P 33 [false,true,false,true,true])) n Q)).trans (congrArg (fun kn => M.chmiddles_l0_step x10 x17 kn (fun (x21:L3) => Q (.exit 0) (chmiddles_S2 x12 x13 x14 x15 x16 x17 x21)) x11 x18) (funext fun x11 => funext fun x18 => chmiddles_l0_iter x10 x12 x13 x14 x15 x16 x17 Q n x11 x18))
noncomputable def chmiddles_l0_go {α:Type} (ds:List D) (Q:Ex → St → Option α):Option α :=
 dI ds fun x10 ds => dI ds fun x11 ds => dB ds fun x12 ds => dL kP ds fun x13 ds => dL kP ds fun x14 ds => dL kP ds fun x15 ds => dB ds fun x16 ds => dL (K.st (LK.i IntKind.i64)
 (LK.i IntKind.i64 :: LK.i IntKind.i64 :: LK.i IntKind.i64 :: LK.i IntKind.i64 :: LK.i IntKind.i64 :: LK.i IntKind.i64 :: LK.i IntKind.i64 :: LK.i IntKind.i64 :: LK.i IntKind.i64 :: LK.i IntKind.i64 :: LK.i IntKind.i64 :: LK.i IntKind.i64 :: LK.i IntKind.i64 :: LK.i IntKind.i64 :: LK.i IntKind.i64 :: LK.i IntKind.i64 :: LK.b :: LK.i IntKind.i64 :: LK.i IntKind.i64 :: LK.i IntKind.i64 :: LK.i IntKind.i64 :: LK.i IntKind.i64 :: LK.i IntKind.i64 :: LK.i IntKind.i64 :: LK.i IntKind.i64 :: LK.i IntKind.i64 :: LK.i IntKind.i64 :: LK.i IntKind.i64 :: LK.i IntKind.i64 :: LK.i IntKind.i64 :: LK.i IntKind.i64 :: LK.i IntKind.i64 :: LK.i IntKind.i64 :: List.nil)) ds fun x17 ds => dL kP ds fun x18 ds => dE ds (M.chmiddles_l0 x10 x17 (fun (x21:L3) => Q (.exit 0) (chmiddles_S2 x12 x13 x14 x15 x16 x17 x21)) (100 + x13.length + x14.length + x15.length + x17.length + x18.length) x11 x18)
theorem chmiddles_l0_ok {α:Type}:LoopOk E.P 33 [false,true,false,true,true] 7 (lEnt (α := α) (chmiddles_S3) chmiddles_l0_go) :=
 lEnt_ok E (exec_sound E E_ok (look_ChXa_dvrows_ok) (noLps_ok _) 400) fun ds Q r h S hS => by
   unfold chmiddles_l0_go at h
   obtain ⟨x10,ds,rfl,h1⟩ := dI_inv h
   obtain ⟨x11,ds,rfl,h2⟩ := dI_inv h1
   obtain ⟨x12,ds,rfl,h3⟩ := dB_inv h2
   obtain ⟨x13,ds,rfl,h4⟩ := dL_inv h3
   obtain ⟨x14,ds,rfl,h5⟩ := dL_inv h4
   obtain ⟨x15,ds,rfl,h6⟩ := dL_inv h5
   obtain ⟨x16,ds,rfl,h7⟩ := dB_inv h6
   obtain ⟨x17,ds,rfl,h8⟩ := dL_inv h7
   obtain ⟨x18,ds,rfl,h9⟩ := dL_inv h8
   obtain ⟨rfl,hE⟩ := dE_inv h9
   have e:fillS (chmiddles_S3) [.i x10,.i x11,.b x12,.l kP x13,.l kP x14,.l kP x15,.b x16,.l (K.st (LK.i IntKind.i64)
 (LK.i IntKind.i64 :: LK.i IntKind.i64 :: LK.i IntKind.i64 :: LK.i IntKind.i64 :: LK.i IntKind.i64 :: LK.i IntKind.i64 :: LK.i IntKind.i64 :: LK.i IntKind.i64 :: LK.i IntKind.i64 :: LK.i IntKind.i64 :: LK.i IntKind.i64 :: LK.i IntKind.i64 :: LK.i IntKind.i64 :: LK.i IntKind.i64 :: LK.i IntKind.i64 :: LK.i IntKind.i64 :: LK.b :: LK.i IntKind.i64 :: LK.i IntKind.i64 :: LK.i IntKind.i64 :: LK.i IntKind.i64 :: LK.i IntKind.i64 :: LK.i IntKind.i64 :: LK.i IntKind.i64 :: LK.i IntKind.i64 :: LK.i IntKind.i64 :: LK.i IntKind.i64 :: LK.i IntKind.i64 :: LK.i IntKind.i64 :: LK.i IntKind.i64 :: LK.i IntKind.i64 :: LK.i IntKind.i64 :: LK.i IntKind.i64 :: List.nil)) x17,.l kP x18] = some (chmiddles_S1 x10 x11 x12 x13 x14 x15 x16 x17 x18) := by kernel_rfl
   rw [e] at hS
   cases hS
   exact ⟨_,(chmiddles_l0_iter x10 x12 x13 x14 x15 x16 x17 Q _ x11 x18).trans hE⟩
noncomputable def chmiddles_l0_lps {α:Type}:LookL α := addLp 33 [false,true,false,true,true] 7 (lEnt (chmiddles_S3) chmiddles_l0_go) noLps
theorem chmiddles_l0_lps_ok {α:Type}:LoopsOk E.P (chmiddles_l0_lps (α := α)) := addLp_ok chmiddles_l0_ok (noLps_ok _)
noncomputable def M.chmiddles {α:Type} (bad:Bool) (l:List L15) (k0:Bool → L3 → Option α):Option α := if (!cEq (V.chC l) (0:Int)) = true then k0 bad [] else if V.chC l = (0:Int) then M.chmiddles_l0 (↑(List.length (V.lay l)):Int) (V.lay l) (fun (x25:L3) ↦ k0 bad x25) ((100:Nat) + List.length (V.lay l) + (0:Nat)) (0:Int) [] else none
theorem chmiddles_eq {α:Type} (bad:Bool) (l:List L15) (v24:Value) (Q:SV → Hp → Option α):callI E look_ChXa_dvrows (exec E look_ChXa_dvrows chmiddles_l0_lps 400) 12 ([SV.ptr (nat_lit 0) (nat_lit 0),SV.ros v24 (K.st (LK.i IntKind.i64) [LK.i IntKind.i64,LK.i IntKind.i64,LK.i IntKind.i64,LK.i IntKind.i64,LK.i IntKind.i64,LK.i IntKind.i64,LK.i IntKind.i64,LK.i IntKind.i64,LK.i IntKind.i64,LK.b,LK.i IntKind.i64,LK.i IntKind.i64,LK.i IntKind.i64,LK.i IntKind.i64]) l]) ([.cells [SV.bool bad] (nat_lit 28)]) Q = M.chmiddles bad l (fun (x26:Bool) (x27:L3) => Q (SV.sl (nat_lit 1)) ([.cells [SV.bool x26] (nat_lit 28),.seq kP x27 (nat_lit 24)])) := by kernel_rfl
def chmiddles_sp:List AS := [.ptr 28 [.bool false],.ro (.st (.i .i64) [.i .i64,.i .i64,.i .i64,.i .i64,.i .i64,.i .i64,.i .i64,.i .i64,.i .i64,.b,.i .i64,.i .i64,.i .i64,.i .i64])]
def bMid (b:L34):V.T3 := (b.2.2.2.2.2.2.2.2.2.2.2.2.2.2.2.2.2.2.2.2.2.2.2.2.2.1,b.2.2.2.2.2.2.2.2.2.2.2.2.2.2.2.2.2.2.2.2.2.2.2.2.2.2.1,b.2.2.2.2.2.2.2.2.2.2.2.2.2.2.2.2.2.2.2.2.2.2.2.2.2.2.2.1)
noncomputable def _root_.Go.Proofs.YtajomehkgaamoaaGreat.V.mdls (l:List (Int × Int × Int × Int × Int × Int × Int × Int × Int × Int × Bool × Int × Int × Int × Int)):List (Int × Int × Int) := hid (if V.chC l = 0 then (V.lay l).map bMid else [])
theorem zip_mid : ∀ (l : List L15) (P : List Pl), P.length = l.length → (List.zipWith bnT l P).map bMid = P.map (fun r => r.2.2.2)
 | [],[],_ => rfl
 | x :: l,r :: P,h => by
   simp only [List.zipWith_cons_cons,List.map_cons]
   rw [zip_mid l P (by simpa using h)]
   rfl
 | [],_ :: _,h => by simp at h
 | _ :: _,[],h => by simp at h
theorem mdls_eq {l : List L15} (h : V.chC l = 0) : V.mdls l = (chP l).map (fun r => r.2.2.2) := by
 obtain ⟨e1,e2,_⟩ := lay_zip h
 unfold V.mdls
 rw [hid_eq,if_pos h,e1,zip_mid l (chP l) e2]
theorem plcs_eq {l:List L15} (h:V.chC l = 0):V.plcs l = (chP l).map pl7 := by
 obtain ⟨P,hP,_⟩ := lay_some h
 rw [plcs_some h hP]
 unfold chP
 rw [hP]; rfl
theorem chmiddles_l0_val {α:Type} (Z:List L34) (hZ:Z.length ≤ 1000) (k1:List V.T3 → Option α):∀ (fuel i:Nat),i ≤ Z.length → Z.length - i < fuel →
   M.chmiddles_l0 (Z.length:Int) Z k1 fuel (i:Int) ((Z.take i).map bMid) = k1 (Z.map bMid)
 | 0,i,h1,h2 => by omega
 | f + 1,i,h1,h2 => by
   unfold M.chmiddles_l0 M.chmiddles_l0_step
   try simp only
   rw [cLt_nat]
   by_cases hi:i < Z.length
   · have hl : ((Z.take i).map bMid).length = i := by rw [List.length_map, List.length_take]; omega
     rw [if_pos (by simpa using hi),if_pos (by omega),hl,if_pos (by omega),w_next (by omega)]
     have ih := chmiddles_l0_val Z hZ k1 f (i + 1) (by omega) (by omega)
     have e:(Z.take (i + 1)).map bMid = (Z.take i).map bMid ++ [bMid (Z.getD i bn0)] := by
       rw [List.take_add_one,List.map_append]
       simp [List.getD_eq_getElem?_getD,hi]
     rw [e] at ih
     exact ih
   · have : i = Z.length := by omega
     subst this
     rw [if_neg (by simp),List.take_length]
theorem chmiddles_v {α:Type} (bad:Bool) (l:List L15) (k0:Bool → List V.T3 → Option α):M.chmiddles bad l k0 = k0 bad (V.mdls l) := by
 unfold M.chmiddles V.mdls
 try simp only
 rw [hid_eq,cEq_eq]
 by_cases h:V.chC l = 0
 · obtain ⟨e1, e2, e3, _⟩ := lay_zip h
   have hl:(V.lay l).length ≤ 1000 := by rw [e1,List.length_zipWith]; omega
   rw [if_neg (by rw [h]; decide),if_pos h,if_pos h]
   exact chmiddles_l0_val (V.lay l) hl (fun z => k0 bad z) (100 + (V.lay l).length + 0) 0 (by omega) (by omega)
 · rw [if_pos (by simpa using h),if_neg h]
noncomputable def chmiddles_h {α:Type} (ds:List D) (Q:SV → Hp → Option α):Option α :=
 dB ds fun bad ds => dL (K.st (LK.i IntKind.i64) [LK.i IntKind.i64,LK.i IntKind.i64,LK.i IntKind.i64,LK.i IntKind.i64,LK.i IntKind.i64,LK.i IntKind.i64,LK.i IntKind.i64,LK.i IntKind.i64,LK.i IntKind.i64,LK.b,LK.i IntKind.i64,LK.i IntKind.i64,LK.i IntKind.i64,LK.i IntKind.i64]) ds fun l ds => dE ds (Q (.sl 1) ([.cells [.bool bad] 28,.seq kP (V.mdls l) 24]))
theorem chmiddles_h_ok {α:Type}:FnOk E.P 12 (fEnt (α := α) chmiddles_sp chmiddles_h) :=
 fEntR_ok E (look_ChXa_dvrows_ok) (exec_sound E E_ok (look_ChXa_dvrows_ok) (chmiddles_l0_lps_ok) 400) fun ds Q r h => by
   unfold chmiddles_h at h
   obtain ⟨bad,ds,rfl,h1⟩ := dB_inv h
   obtain ⟨l,ds,rfl,h2⟩ := dL_inv h1
   obtain ⟨rfl,hE⟩ := dE_inv h2
   exact ⟨_,_,hE,fun vs => ⟨_,_,by kernel_rfl,(chmiddles_eq bad l (vs.tail.headD undef) _).trans (chmiddles_v bad l _)⟩⟩
noncomputable def look_chmiddles {α:Type}:LookF α := addFn 12 (fEnt chmiddles_sp chmiddles_h) look_ChXa_dvrows
theorem look_chmiddles_ok {α:Type}:LookOk E.P (look_chmiddles (α := α)) := addFn_ok chmiddles_h_ok (look_ChXa_dvrows_ok)
noncomputable def M.rin {α:Type} (n:Int) (most:Int) (k0:Bool → Option α):Option α := if cLe (IntKind.wrap .i64 ((0:Int) - most)) n = true then k0 (cLe n most) else k0 false
theorem rin_eq {α:Type} (n:Int) (most:Int) (Q:SV → Hp → Option α):callI E look_chmiddles (exec E look_chmiddles noLps 400) 27 ([SV.int .i64 n,SV.int .i64 most]) ([]) Q = M.rin n most (fun (x28:Bool) => Q (SV.bool x28) ([])) := by kernel_rfl
def rin_sp:List AS := [.val (.int .i64 0),.val (.int .i64 0)]
noncomputable def _root_.Go.Proofs.YtajomehkgaamoaaGreat.V.rin_r0 (n:Int) (most:Int):Bool := if cLe (IntKind.wrap .i64 ((0:Int) - most)) n = true then cLe n most else false
theorem rin_val {α:Type} (n:Int) (most:Int) (k0:Bool → Option α):M.rin n most k0 = k0 (V.rin_r0 n most) := by
 unfold M.rin V.rin_r0
 repeat' first | rfl | (split <;> rename_i h <;> first | simp only [if_pos h] | simp only [if_neg h] | skip)
noncomputable def rin_c {α:Type} (ds:List D) (Q:SV → Hp → Option α):Option α :=
 dI ds fun n ds => dI ds fun most ds => dE ds (Q (SV.bool (V.rin_r0 n most)) ([]))
theorem rin_c_ok {α:Type}:FnOk E.P 27 (fEnt (α := α) rin_sp rin_c) :=
 fEnt_ok E (look_chmiddles_ok) (exec_sound E E_ok (look_chmiddles_ok) (noLps_ok _) 400) fun ds Q r h => by
   unfold rin_c at h
   obtain ⟨n,ds,rfl,h1⟩ := dI_inv h
   obtain ⟨most,ds,rfl,h2⟩ := dI_inv h1
   obtain ⟨rfl,hE⟩ := dE_inv h2
   exact ⟨[SV.int .i64 n,SV.int .i64 most],[],fun vs => by kernel_rfl,(rin_eq n most Q).trans ((rin_val n most (fun (x28:Bool) => Q (SV.bool x28) ([]))).trans hE)⟩
noncomputable def look_rin {α:Type}:LookF α := addFn 27 (fEnt rin_sp rin_c) look_chmiddles
theorem look_rin_ok {α:Type}:LookOk E.P (look_rin (α := α)) := addFn_ok rin_c_ok (look_chmiddles_ok)
noncomputable def M.rsmall {α:Type} (x:Int) (y:Int) (z:Int) (most:Int) (k0:Bool → Option α):Option α := if V.rin_r0 x most = true then if V.rin_r0 y most = true then k0 (V.rin_r0 z most) else k0 false else k0 false
theorem rsmall_eq {α:Type} (x:Int) (y:Int) (z:Int) (most:Int) (Q:SV → Hp → Option α):callI E look_rin (exec E look_rin noLps 400) 26 ([SV.agg [SV.int .i64 x,SV.int .i64 y,SV.int .i64 z],SV.int .i64 most]) ([]) Q = M.rsmall x y z most (fun (x29:Bool) => Q (SV.bool x29) ([])) := by kernel_rfl
def rsmall_sp:List AS := [.val (.agg [.int .i64 0,.int .i64 0,.int .i64 0]),.val (.int .i64 0)]
noncomputable def _root_.Go.Proofs.YtajomehkgaamoaaGreat.V.rsmall_r0 (x:Int) (y:Int) (z:Int) (most:Int):Bool := if V.rin_r0 x most = true then if V.rin_r0 y most = true then V.rin_r0 z most else false else false
theorem rsmall_val {α:Type} (x:Int) (y:Int) (z:Int) (most:Int) (k0:Bool → Option α):M.rsmall x y z most k0 = k0 (V.rsmall_r0 x y z most) := by
 unfold M.rsmall V.rsmall_r0
 repeat' first | rfl | (split <;> rename_i h <;> first | simp only [if_pos h] | simp only [if_neg h] | skip)
noncomputable def rsmall_c {α:Type} (ds:List D) (Q:SV → Hp → Option α):Option α :=
 dI ds fun x ds => dI ds fun y ds => dI ds fun z ds => dI ds fun most ds => dE ds (Q (SV.bool (V.rsmall_r0 x y z most)) ([]))
theorem rsmall_c_ok {α:Type}:FnOk E.P 26 (fEnt (α := α) rsmall_sp rsmall_c) :=
 fEnt_ok E (look_rin_ok) (exec_sound E E_ok (look_rin_ok) (noLps_ok _) 400) fun ds Q r h => by
   unfold rsmall_c at h
   obtain ⟨x,ds,rfl,h1⟩ := dI_inv h
   obtain ⟨y,ds,rfl,h2⟩ := dI_inv h1
   obtain ⟨z,ds,rfl,h3⟩ := dI_inv h2
   obtain ⟨most,ds,rfl,h4⟩ := dI_inv h3
   obtain ⟨rfl,hE⟩ := dE_inv h4
   exact ⟨[SV.agg [SV.int .i64 x,SV.int .i64 y,SV.int .i64 z],SV.int .i64 most],[],fun vs => by kernel_rfl,(rsmall_eq x y z most Q).trans ((rsmall_val x y z most (fun (x29:Bool) => Q (SV.bool x29) ([]))).trans hE)⟩
noncomputable def look_rsmall {α:Type}:LookF α := addFn 26 (fEnt rsmall_sp rsmall_c) look_rin
theorem look_rsmall_ok {α:Type}:LookOk E.P (look_rsmall (α := α)) := addFn_ok rsmall_c_ok (look_rin_ok)
noncomputable abbrev rcheck_S1 (y1:Value) (y2:List L15) (y3:Int):St := St.mk (some (SV.ros y1 (K.st (LK.i IntKind.i64) [LK.i IntKind.i64,LK.i IntKind.i64,LK.i IntKind.i64,LK.i IntKind.i64,LK.i IntKind.i64,LK.i IntKind.i64,LK.i IntKind.i64,LK.i IntKind.i64,LK.i IntKind.i64,LK.b,LK.i IntKind.i64,LK.i IntKind.i64,LK.i IntKind.i64,LK.i IntKind.i64]) y2) :: none :: none :: some (SV.int .i64 y3) :: nn 90 ([])) []
noncomputable abbrev rcheck_S2:St := St.mk (some (SV.ros undef (K.st (LK.i IntKind.i64) [LK.i IntKind.i64,LK.i IntKind.i64,LK.i IntKind.i64,LK.i IntKind.i64,LK.i IntKind.i64,LK.i IntKind.i64,LK.i IntKind.i64,LK.i IntKind.i64,LK.i IntKind.i64,LK.b,LK.i IntKind.i64,LK.i IntKind.i64,LK.i IntKind.i64,LK.i IntKind.i64]) []) :: none :: none :: some (SV.int .i64 (0:Int)) :: nn 90 ([])) []
noncomputable def M.rcheck_l0_step {α:Type} (x35:List L15) (kn:Int → Option α) (k0:Option α) (k2:Option α) (x36:Int):Option α := let s37 := (↑(List.length x35):Int); let s38 := List.getD x35 (Int.toNat x36) ((0:Int),(0:Int),(0:Int),(0:Int),(0:Int),(0:Int),(0:Int),(0:Int),(0:Int),(0:Int),false,(0:Int),(0:Int),(0:Int),(0:Int)); let s39 := Prod.fst s38; let s40 := Prod.snd s38; let s41 := Prod.snd s40; let s42 := Prod.snd s41; let s43 := Prod.snd s42; let s44 := Prod.snd s43; let s45 := Prod.snd s44; let s46 := Prod.snd s45; let s47 := Prod.snd s46; let s48 := Prod.snd s47; let s49 := Prod.snd s48; let s50 := Prod.snd s49; let s51 := Prod.snd s50; let s52 := Prod.snd s51; let s53 := Prod.snd s52; let s54 := V.gv (V.tLen (Prod.fst s40,Prod.fst s41,Prod.fst s42)); if cLt x36 s37 = true then if (0:Int) ≤ x36 ∧ x36 < s37 then if Prod.fst s49 = true then if cLt s39 (-1:Int) = true then k0 else if cLe x36 s39 = true then k0 else if cLt s54 (4294967288:Int) = true then k0 else if cLt (4294967304:Int) s54 = true then k0 else if (!V.rsmall_r0 (Prod.fst s43) (Prod.fst s44) (Prod.fst s45) (68719476736:Int)) = true then k0 else if (!V.rsmall_r0 (Prod.fst s46) (Prod.fst s47) (Prod.fst s48) (68719476736:Int)) = true then k0 else if (!V.rin_r0 (Prod.fst s50) (68719476736:Int)) = true then k0 else if (!V.rin_r0 (Prod.fst s51) (68719476736:Int)) = true then k0 else if (!V.rin_r0 (Prod.fst s52) (68719476736:Int)) = true then k0 else if cLt s53 (16777216:Int) = true then k0 else if cLt (1099511627776:Int) s53 = true then k0 else kn (IntKind.wrap .i64 (x36 + (1:Int))) else if cLt s39 (-1:Int) = true then k0 else if cLe x36 s39 = true then k0 else if cLt s54 (4294967288:Int) = true then k0 else if cLt (4294967304:Int) s54 = true then k0 else if (!V.rsmall_r0 (Prod.fst s43) (Prod.fst s44) (Prod.fst s45) (68719476736:Int)) = true then k0 else if (!V.rsmall_r0 (Prod.fst s46) (Prod.fst s47) (Prod.fst s48) (68719476736:Int)) = true then k0 else if (!V.rin_r0 (Prod.fst s50) (17179869184:Int)) = true then k0 else if (!V.rin_r0 (Prod.fst s51) (68719476736:Int)) = true then k0 else if (!V.rin_r0 (Prod.fst s52) (68719476736:Int)) = true then k0 else if cLt s53 (16777216:Int) = true then k0 else if cLt (1099511627776:Int) s53 = true then k0 else kn (IntKind.wrap .i64 (x36 + (1:Int))) else none else k2
noncomputable def M.rcheck_l0 {α:Type} (x35:List L15) (k0:Option α) (k2:Option α):Nat → Int → Option α
 | 0,_ => none
 | n + 1,x36 => M.rcheck_l0_step x35 (M.rcheck_l0 x35 k0 k2 n) k0 k2 x36
theorem rcheck_l0_step_eq {α:Type} (x34:Value) (x35:List L15) (x36:Int) (Q:Ex → St → Option α):(loopStep E (exec E look_rsmall noLps 400) 7 [false,true,false,true,true] 0 (codeAt E.P 7 [false,true,false,true,true])) (rcheck_S1 x34 x35 x36) Q = M.rcheck_l0_step x35 (fun (x55:Int) => Q .normal (rcheck_S1 x34 x35 x55)) (Q .ret (St.mk (none :: none :: some (SV.int .i64 (160:Int)) :: nn 91 ([]))
 [])) (Q (.exit 0) (St.mk (nn 94 ([]))
 [])) x36 := by kernel_rfl
theorem rcheck_l0_iter {α:Type} (x34:Value) (x35:List L15) (Q:Ex → St → Option α):∀ (n:Nat) (x36:Int),iter (loopStep E (exec E look_rsmall noLps 400) 7 [false,true,false,true,true] 0 (codeAt E.P 7 [false,true,false,true,true])) n (rcheck_S1 x34 x35 x36) Q = M.rcheck_l0 x35 (Q .ret (St.mk (none :: none :: some (SV.int .i64 (160:Int)) :: nn 91 ([]))
 [])) (Q (.exit 0) (St.mk (nn 94 ([]))
 [])) n x36
 | 0,_ => rfl
 | n + 1,x36 => (rcheck_l0_step_eq x34 x35 x36 (iterK (loopStep E (exec E look_rsmall noLps 400) 7 [false,true,false,true,true] 0 (codeAt E.P 7 [false,true,false,true,true])) n Q)).trans (congrArg (fun kn => M.rcheck_l0_step x35 kn (Q .ret (St.mk (none :: none :: some (SV.int .i64 (160:Int)) :: nn 91 ([]))
 [])) (Q (.exit 0) (St.mk (nn 94 ([]))
 [])) x36) (funext fun x36 => rcheck_l0_iter x34 x35 Q n x36))
noncomputable def rcheck_l0_go {α:Type} (ds:List D) (Q:Ex → St → Option α):Option α :=
 dV ds fun x34 ds => dL (K.st (LK.i IntKind.i64) [LK.i IntKind.i64,LK.i IntKind.i64,LK.i IntKind.i64,LK.i IntKind.i64,LK.i IntKind.i64,LK.i IntKind.i64,LK.i IntKind.i64,LK.i IntKind.i64,LK.i IntKind.i64,LK.b,LK.i IntKind.i64,LK.i IntKind.i64,LK.i IntKind.i64,LK.i IntKind.i64]) ds fun x35 ds => dI ds fun x36 ds => dE ds (M.rcheck_l0 x35 (Q .ret (St.mk (none :: none :: some (SV.int .i64 (160:Int)) :: nn 91 ([]))
 [])) (Q (.exit 0) (St.mk (nn 94 ([]))
 [])) (100 + x35.length) x36)
theorem rcheck_l0_ok {α:Type}:LoopOk E.P 7 [false,true,false,true,true] 0 (lEnt (α := α) (rcheck_S2) rcheck_l0_go) :=
 lEnt_ok E (exec_sound E E_ok (look_rsmall_ok) (noLps_ok _) 400) fun ds Q r h S hS => by
   unfold rcheck_l0_go at h
   obtain ⟨x34,ds,rfl,h1⟩ := dV_inv h
   obtain ⟨x35,ds,rfl,h2⟩ := dL_inv h1
   obtain ⟨x36,ds,rfl,h3⟩ := dI_inv h2
   obtain ⟨rfl,hE⟩ := dE_inv h3
   have e:fillS (rcheck_S2) [.v x34,.l (K.st (LK.i IntKind.i64) [LK.i IntKind.i64,LK.i IntKind.i64,LK.i IntKind.i64,LK.i IntKind.i64,LK.i IntKind.i64,LK.i IntKind.i64,LK.i IntKind.i64,LK.i IntKind.i64,LK.i IntKind.i64,LK.b,LK.i IntKind.i64,LK.i IntKind.i64,LK.i IntKind.i64,LK.i IntKind.i64]) x35,.i x36] = some (rcheck_S1 x34 x35 x36) := by kernel_rfl
   rw [e] at hS
   cases hS
   exact ⟨_,(rcheck_l0_iter x34 x35 Q _ x36).trans hE⟩
noncomputable def rcheck_l0_lps {α:Type}:LookL α := addLp 7 [false,true,false,true,true] 0 (lEnt (rcheck_S2) rcheck_l0_go) noLps
theorem rcheck_l0_lps_ok {α:Type}:LoopsOk E.P (rcheck_l0_lps (α := α)) := addLp_ok rcheck_l0_ok (noLps_ok _)
noncomputable def M.rcheck {α:Type} (l:List L15) (k0:Int → Option α):Option α := if cLt (12:Int) (↑(List.length l):Int) = true then k0 (160:Int) else M.rcheck_l0 l (k0 (160:Int)) (k0 (0:Int)) ((100:Nat) + List.length l) (0:Int)
theorem rcheck_eq {α:Type} (l:List L15) (v56:Value) (Q:SV → Hp → Option α):callI E look_rsmall (exec E look_rsmall rcheck_l0_lps 400) 7 ([SV.ros v56 (K.st (LK.i IntKind.i64) [LK.i IntKind.i64,LK.i IntKind.i64,LK.i IntKind.i64,LK.i IntKind.i64,LK.i IntKind.i64,LK.i IntKind.i64,LK.i IntKind.i64,LK.i IntKind.i64,LK.i IntKind.i64,LK.b,LK.i IntKind.i64,LK.i IntKind.i64,LK.i IntKind.i64,LK.i IntKind.i64]) l]) ([]) Q = M.rcheck l (fun (x57:Int) => Q (SV.int .i64 x57) ([])) := by kernel_rfl
def rcheck_sp:List AS := [.ro (.st (.i .i64) [.i .i64,.i .i64,.i .i64,.i .i64,.i .i64,.i .i64,.i .i64,.i .i64,.i .i64,.b,.i .i64,.i .i64,.i .i64,.i .i64])]
theorem rin_inn {n m:Int} (h:0 ≤ m ∧ m ≤ 1099511627776):V.rin_r0 n m = true ↔ Inn n m := by
 unfold V.rin_r0 Inn
 rw [IntWalk.i64_in _ (by omega),cLe_eq,cLe_eq]
 by_cases h0:0 - m ≤ n
 · rw [if_pos (decide_eq_true h0),decide_eq_true_iff]; omega
 · rw [if_neg (by rw [decide_eq_false h0]; decide)]
   exact ⟨fun h => absurd h (by decide),fun h => by omega⟩
theorem rsmall_in3 {v:V.T3} {m:Int} (h:0 ≤ m ∧ m ≤ 1099511627776):V.rsmall_r0 v.1 v.2.1 v.2.2 m = true ↔ In3 v m := by
 unfold V.rsmall_r0 In3
 rw [← rin_inn h,← rin_inn h,← rin_inn h]
 cases V.rin_r0 v.1 m <;> cases V.rin_r0 v.2.1 m <;> simp
noncomputable def rBad (i:Nat) (x:L15):Bool :=
 cLt x.1 (-1) || (cLe (i:Int) x.1 || (cLt (V.gv (V.tLen (lAx x))) 4294967288 || (cLt 4294967304 (V.gv (V.tLen (lAx x))) || ((!V.rsmall_r0 (lAt x).1 (lAt x).2.1 (lAt x).2.2 68719476736) || ((!V.rsmall_r0 (lMid x).1 (lMid x).2.1 (lMid x).2.2 68719476736) ||
   ((!V.rin_r0 (lAng x) (if lSl x = true then 68719476736 else 17179869184)) || ((!V.rin_r0 (lSpd x) 68719476736) || ((!V.rin_r0 (lQck x) 68719476736) || (cLt (lMass x) 16777216 || cLt 1099511627776 (lMass x))))))))))
theorem rBad_iff {i:Nat} {x:L15}:rBad i x = false ↔ LkC i x := by
 have hang:0 ≤ (if lSl x = true then (68719476736:Int) else 17179869184) ∧ (if lSl x = true then (68719476736:Int) else 17179869184) ≤ 1099511627776 := by split <;> omega
 unfold rBad
 simp only [cLt_eq,cLe_eq,Bool.or_eq_false_iff,decide_eq_false_iff_not,Bool.not_eq_false',rin_inn hang,rin_inn (m := 68719476736) (by omega),rsmall_in3 (m := 68719476736) (by omega)]
 constructor
 · rintro ⟨h1, h2, h3, h4, h5, h6, h7, h8, h9, h10, h11⟩
   refine ⟨by omega,?_,by omega,h7,h5,h6,h8,h9⟩
   cases hn:V.tLen (lAx x) with
   | none => rw [hn] at h3; exact absurd (show V.gv none < 4294967288 by show (0:Int) < _; omega) h3
   | some n => rw [hn,gv_some] at h3 h4; exact ⟨n,rfl,by omega,by omega⟩
 · rintro ⟨h1, ⟨n, hn, h3⟩, h5, h7, h8, h9, h14, h15⟩
   rw [hn,gv_some]
   exact ⟨by omega,by omega,by omega,by omega,h8,h9,h7,h14,h15,by omega,by omega⟩
theorem rBad_eq (i:Nat) (x:L15):rBad i x = linkBad i x := by
 cases h:linkBad i x with
 | false => exact rBad_iff.2 (linkBad_iff.1 h)
 | true =>
   cases h2:rBad i x with
   | true => rfl
   | false =>
     have := linkBad_iff.2 (rBad_iff.1 h2)
     rw [h] at this; cases this
theorem rcheck_v {α:Type} (l:List L15) (k0:Int → Option α):M.rcheck l k0 = k0 (V.chC l) := by
 unfold M.rcheck V.chC
 rw [hid_eq,show cLt (12:Int) (l.length:Int) = decide (12 < l.length) by rw [cLt_eq]; congr 1; exact propext (by omega)]
 by_cases hl:12 < l.length
 · rw [if_pos (by simpa using hl),if_pos (.inl hl)]
 · rw [if_neg (by simpa using hl)]
   have h := scan (fun f i => M.rcheck_l0 l (k0 160) (k0 0) f i) l.length (fun i => linkBad i (lnk l i)) (k0 160) (k0 0) ?_ ?_ (100 + l.length) 0 (by omega) (by omega)
   · refine Eq.trans h ?_
     by_cases hb:∃ j,0 ≤ j ∧ j < l.length ∧ linkBad j (lnk l j) = true
     · rw [if_pos (exB_true hb),if_pos (.inr hb)]
     · rw [if_neg (by rw [exB_false hb]; decide),if_neg (fun h => h.elim hl hb)]
   · intro f i hi
     show M.rcheck_l0_step _ _ _ _ _ = _
     unfold M.rcheck_l0_step
     try simp only
     have e:List.getD l (Int.toNat (i:Int)) (0,0,0,0,0,0,0,0,0,0,false,0,0,0,0) = lnk l i := rfl
     rw [cLt_nat,if_pos (by simpa using hi),if_pos (by omega:(0:Int) ≤ (i:Int) ∧ (i:Int) < (l.length:Int)),w_next (by omega),e,← rBad_eq]
     generalize lnk l i = x
     unfold rBad
     by_cases h:lSl x = true
     · rw [if_pos (show x.2.2.2.2.2.2.2.2.2.2.1 = true from h),if_pos h,or_ite,or_ite,or_ite,or_ite,or_ite,or_ite,or_ite,or_ite,or_ite,or_ite]
       congr 2
       simp only [Bool.or_assoc]
       rfl
     · rw [if_neg (show ¬ x.2.2.2.2.2.2.2.2.2.2.1 = true from h),if_neg h,or_ite,or_ite,or_ite,or_ite,or_ite,or_ite,or_ite,or_ite,or_ite,or_ite]
       congr 2
       simp only [Bool.or_assoc]
       rfl
   · intro f
     show M.rcheck_l0_step _ _ _ _ _ = _
     unfold M.rcheck_l0_step
     try simp only
     rw [cLt_nat,if_neg (by simp)]
noncomputable def rcheck_h {α:Type} (ds:List D) (Q:SV → Hp → Option α):Option α :=
 dL (K.st (LK.i IntKind.i64) [LK.i IntKind.i64,LK.i IntKind.i64,LK.i IntKind.i64,LK.i IntKind.i64,LK.i IntKind.i64,LK.i IntKind.i64,LK.i IntKind.i64,LK.i IntKind.i64,LK.i IntKind.i64,LK.b,LK.i IntKind.i64,LK.i IntKind.i64,LK.i IntKind.i64,LK.i IntKind.i64]) ds fun l ds => dE ds (if true = true then Q (.int .i64 (V.chC l)) ([]) else none)
theorem rcheck_h_ok {α:Type}:FnOk E.P 7 (fEnt (α := α) rcheck_sp rcheck_h) :=
 fEntR_ok E (look_rsmall_ok) (exec_sound E E_ok (look_rsmall_ok) (rcheck_l0_lps_ok) 400) fun ds Q r h => by
   unfold rcheck_h at h
   obtain ⟨l,ds,rfl,h1⟩ := dL_inv h
   obtain ⟨rfl,hE⟩ := dE_inv h1
   split at hE
   · rename_i hg
     exact ⟨_,_,hE,fun vs => ⟨_,_,by kernel_rfl,(rcheck_eq l (vs.headD undef) _).trans (rcheck_v l _)⟩⟩
   · cases hE
noncomputable def look_rcheck {α:Type}:LookF α := addFn 7 (fEnt rcheck_sp rcheck_h) look_rsmall
theorem look_rcheck_ok {α:Type}:LookOk E.P (look_rcheck (α := α)) := addFn_ok rcheck_h_ok (look_rsmall_ok)
end
section
open Go
set_option maxRecDepth 20000
noncomputable abbrev rplaces_S1 (y1:Value) (y2:List L15) (y3:Int) (y4:Bool) (y5:List (Int × Int × Int × Int × Int × Int × Int)):St := St.mk (some (SV.ptr (nat_lit 0) (nat_lit 0)) :: some (SV.ros y1 (K.st (LK.i IntKind.i64) [LK.i IntKind.i64,LK.i IntKind.i64,LK.i IntKind.i64,LK.i IntKind.i64,LK.i IntKind.i64,LK.i IntKind.i64,LK.i IntKind.i64,LK.i IntKind.i64,LK.i IntKind.i64,LK.b,LK.i IntKind.i64,LK.i IntKind.i64,LK.i IntKind.i64,LK.i IntKind.i64]) y2) :: nn 3 (some (SV.sl (nat_lit 1)) :: some (SV.int .i64 y3) :: nn 94 ([]))) [.cells [SV.bool y4] (nat_lit 30),.seq (K.st (LK.i IntKind.i64) [LK.i IntKind.i64,LK.i IntKind.i64,LK.i IntKind.i64,LK.i IntKind.i64,LK.i IntKind.i64,LK.i IntKind.i64]) y5 (nat_lit 59)]
noncomputable abbrev rplaces_S2 (y1:Bool) (y2:List (Int × Int × Int × Int × Int × Int × Int)):St := St.mk (nn 5 (some (SV.sl (nat_lit 1)) :: nn 95 ([]))) [.cells [SV.bool y1] (nat_lit 30),.seq (K.st (LK.i IntKind.i64) [LK.i IntKind.i64,LK.i IntKind.i64,LK.i IntKind.i64,LK.i IntKind.i64,LK.i IntKind.i64,LK.i IntKind.i64]) y2 (nat_lit 59)]
noncomputable abbrev rplaces_S3:St := St.mk (some (SV.ptr (nat_lit 0) (nat_lit 0)) :: some (SV.ros undef (K.st (LK.i IntKind.i64) [LK.i IntKind.i64,LK.i IntKind.i64,LK.i IntKind.i64,LK.i IntKind.i64,LK.i IntKind.i64,LK.i IntKind.i64,LK.i IntKind.i64,LK.i IntKind.i64,LK.i IntKind.i64,LK.b,LK.i IntKind.i64,LK.i IntKind.i64,LK.i IntKind.i64,LK.i IntKind.i64]) []) :: nn 3 (some (SV.sl (nat_lit 1)) :: some (SV.int .i64 (0:Int)) :: nn 94 ([]))) [.cells [SV.bool false] (nat_lit 30),.seq (K.st (LK.i IntKind.i64) [LK.i IntKind.i64,LK.i IntKind.i64,LK.i IntKind.i64,LK.i IntKind.i64,LK.i IntKind.i64,LK.i IntKind.i64]) [] (nat_lit 59)]
noncomputable def M.rplaces_l0_step {α:Type} (x7:List L15) (kn:Int → Bool → List (Int × Int × Int × Int × Int × Int × Int) → Option α) (k1:Bool → List (Int × Int × Int × Int × Int × Int × Int) → Option α) (x8:Int) (x9:Bool) (x10:List (Int × Int × Int × Int × Int × Int × Int)):Option α := let s11 := List.length x10; let s12 := (↑(List.length x7):Int); let s13 := List.getD x7 (Int.toNat x8) ((0:Int),(0:Int),(0:Int),(0:Int),(0:Int),(0:Int),(0:Int),(0:Int),(0:Int),(0:Int),false,(0:Int),(0:Int),(0:Int),(0:Int)); let s14 := Prod.fst s13; let s15 := Prod.snd s13; let s16 := Prod.snd s15; let s17 := Prod.snd s16; let s18 := Prod.snd s17; let s19 := List.getD x10 (Int.toNat s14) ((0:Int),(0:Int),(0:Int),(0:Int),(0:Int),(0:Int),(0:Int)); let s20 := Prod.snd s18; let s21 := Prod.snd s19; let s22 := Prod.snd s21; let s23 := Prod.snd s20; let s24 := Prod.snd s22; let s25 := V.tRows s24; let s26 := Prod.snd (Prod.snd (Prod.snd (Prod.snd s23))); let s27 := Prod.fst (Prod.snd s26); let s28 := (Prod.fst s15,Prod.fst s16,Prod.fst s17); let s29 := V.tTurn (V.q9 (V.tRows ((4294967296:Int),(0:Int),(0:Int),(0:Int)))) s28; let s30 := (Prod.fst s18,Prod.fst s20,Prod.fst s23); let s31 := V.tTurn (V.q9 (V.tRows ((4294967296:Int),(0:Int),(0:Int),(0:Int)))) s30; let s32 := V.tAdd ((0:Int),(0:Int),(0:Int)) (V.q3 s31); let s33 := V.tTurn (V.q9 s25) s28; let s34 := V.tScale s28 s27; let s35 := V.tWhole ((4294967296:Int),V.q3 s34); let s36 := V.tScale (V.q3 s29) s27; let s37 := V.tTimes ((4294967296:Int),(0:Int),(0:Int),(0:Int)) (V.q4 s35); let s38 := V.tTurn (V.q9 s25) s30; let s39 := V.tScale (V.q3 s33) s27; let s40 := V.tTimes s24 (V.q4 s35); let s41 := V.on s32 (V.on s31 (V.on (V.tRows ((4294967296:Int),(0:Int),(0:Int),(0:Int))) x9)); let s42 := V.tAdd (V.q3 s32) (V.q3 s36); let s43 := V.tAdd (Prod.fst s19,Prod.fst s21,Prod.fst s22) (V.q3 s38); let s44 := V.tAdd (V.q3 s43) (V.q3 s39); let s45 := V.on s43 (V.on s38 (V.on s25 x9)); if cLt x8 s12 = true then if (0:Int) ≤ x8 ∧ x8 < s12 then if cLt s14 (0:Int) = true then if (0:Int) ≤ x8 ∧ x8 < s12 then if (0:Int) ≤ x8 ∧ x8 < s12 then if Prod.fst s26 = true then if (0:Int) ≤ x8 ∧ x8 < s12 then if (0:Int) ≤ x8 ∧ x8 < s12 then if (s11 + ((0:Nat) + (1:Nat))) * (56:Nat) ≤ (140737488355328:Nat) then kn (IntKind.wrap .i64 (x8 + (1:Int))) (V.on s42 (V.on s36 (V.on s29 s41))) (x10 ++ [(V.x3 s42,V.y3 s42,V.z3 s42,(4294967296:Int),(0:Int),(0:Int),(0:Int))]) else none else none else none else if (0:Int) ≤ x8 ∧ x8 < s12 then if (0:Int) ≤ x8 ∧ x8 < s12 then if (s11 + ((0:Nat) + (1:Nat))) * (56:Nat) ≤ (140737488355328:Nat) then kn (IntKind.wrap .i64 (x8 + (1:Int))) (V.on s37 (V.on s35 (V.on s34 s41))) (x10 ++ [(V.x3 s32,V.y3 s32,V.z3 s32,V.q4 s37)]) else none else none else none else none else none else if (0:Int) ≤ x8 ∧ x8 < s12 then if (0:Int) ≤ s14 ∧ s14 < (↑s11:Int) then if (0:Int) ≤ x8 ∧ x8 < s12 then if (0:Int) ≤ x8 ∧ x8 < s12 then if Prod.fst s26 = true then if (0:Int) ≤ x8 ∧ x8 < s12 then if (0:Int) ≤ x8 ∧ x8 < s12 then if (s11 + ((0:Nat) + (1:Nat))) * (56:Nat) ≤ (140737488355328:Nat) then kn (IntKind.wrap .i64 (x8 + (1:Int))) (V.on s44 (V.on s39 (V.on s33 s45))) (x10 ++ [(V.x3 s44,V.y3 s44,V.z3 s44,s24)]) else none else none else none else if (0:Int) ≤ x8 ∧ x8 < s12 then if (0:Int) ≤ x8 ∧ x8 < s12 then if (s11 + ((0:Nat) + (1:Nat))) * (56:Nat) ≤ (140737488355328:Nat) then kn (IntKind.wrap .i64 (x8 + (1:Int))) (V.on s40 (V.on s35 (V.on s34 s45))) (x10 ++ [(V.x3 s43,V.y3 s43,V.z3 s43,V.q4 s40)]) else none else none else none else none else none else none else none else none else k1 x9 x10
noncomputable def M.rplaces_l0 {α:Type} (x7:List L15) (k1:Bool → List (Int × Int × Int × Int × Int × Int × Int) → Option α):Nat → Int → Bool → List (Int × Int × Int × Int × Int × Int × Int) → Option α
 | 0,_,_,_ => none
 | n + 1,x8,x9,x10 => M.rplaces_l0_step x7 (M.rplaces_l0 x7 k1 n) k1 x8 x9 x10
theorem rplaces_l0_step_eq {α:Type} (x6:Value) (x7:List L15) (x8:Int) (x9:Bool) (x10:List (Int × Int × Int × Int × Int × Int × Int)) (Q:Ex → St → Option α):(loopStep E (exec E look_rcheck noLps 400) 30 [false,true,false,true,true] 1 (codeAt E.P 30 [false,true,false,true,true])) (rplaces_S1 x6 x7 x8 x9 x10) Q = M.rplaces_l0_step x7 (fun (x48:Int) (x49:Bool) (x50:List (Int × Int × Int × Int × Int × Int × Int)) => Q .normal (rplaces_S1 x6 x7 x48 x49 x50)) (fun (x46:Bool) (x47:List (Int × Int × Int × Int × Int × Int × Int)) => Q (.exit 0) (rplaces_S2 x46 x47)) x8 x9 x10 := by kernel_rfl
theorem rplaces_l0_iter {α:Type} (x6:Value) (x7:List L15) (Q:Ex → St → Option α):∀ (n:Nat) (x8:Int) (x9:Bool) (x10:List (Int × Int × Int × Int × Int × Int × Int)),iter (loopStep E (exec E look_rcheck noLps 400) 30 [false,true,false,true,true] 1 (codeAt E.P 30 [false,true,false,true,true])) n (rplaces_S1 x6 x7 x8 x9 x10) Q = M.rplaces_l0 x7 (fun (x46:Bool) (x47:List (Int × Int × Int × Int × Int × Int × Int)) => Q (.exit 0) (rplaces_S2 x46 x47)) n x8 x9 x10
 | 0,_,_,_ => rfl
 | n + 1,x8,x9,x10 => (rplaces_l0_step_eq x6 x7 x8 x9 x10 (iterK (loopStep E (exec E look_rcheck noLps 400) 30 [false,true,false,true,true] 1 (codeAt E.P 30 [false,true,false,true,true])) n Q)).trans (congrArg (fun kn => M.rplaces_l0_step x7 kn (fun (x46:Bool) (x47:List (Int × Int × Int × Int × Int × Int × Int)) => Q (.exit 0) (rplaces_S2 x46 x47)) x8 x9 x10) (funext fun x8 => funext fun x9 => funext fun x10 => rplaces_l0_iter x6 x7 Q n x8 x9 x10))
noncomputable def rplaces_l0_go {α:Type} (ds:List D) (Q:Ex → St → Option α):Option α :=
 dV ds fun x6 ds => dL (K.st (LK.i IntKind.i64) [LK.i IntKind.i64,LK.i IntKind.i64,LK.i IntKind.i64,LK.i IntKind.i64,LK.i IntKind.i64,LK.i IntKind.i64,LK.i IntKind.i64,LK.i IntKind.i64,LK.i IntKind.i64,LK.b,LK.i IntKind.i64,LK.i IntKind.i64,LK.i IntKind.i64,LK.i IntKind.i64]) ds fun x7 ds => dI ds fun x8 ds => dB ds fun x9 ds => dL (K.st (LK.i IntKind.i64) [LK.i IntKind.i64,LK.i IntKind.i64,LK.i IntKind.i64,LK.i IntKind.i64,LK.i IntKind.i64,LK.i IntKind.i64]) ds fun x10 ds => dE ds (M.rplaces_l0 x7 (fun (x46:Bool) (x47:List (Int × Int × Int × Int × Int × Int × Int)) => Q (.exit 0) (rplaces_S2 x46 x47)) (100 + x7.length + x10.length) x8 x9 x10)
theorem rplaces_l0_ok {α:Type}:LoopOk E.P 30 [false,true,false,true,true] 1 (lEnt (α := α) (rplaces_S3) rplaces_l0_go) :=
 lEnt_ok E (exec_sound E E_ok (look_rcheck_ok) (noLps_ok _) 400) fun ds Q r h S hS => by
   unfold rplaces_l0_go at h
   obtain ⟨x6,ds,rfl,h1⟩ := dV_inv h
   obtain ⟨x7,ds,rfl,h2⟩ := dL_inv h1
   obtain ⟨x8,ds,rfl,h3⟩ := dI_inv h2
   obtain ⟨x9,ds,rfl,h4⟩ := dB_inv h3
   obtain ⟨x10,ds,rfl,h5⟩ := dL_inv h4
   obtain ⟨rfl,hE⟩ := dE_inv h5
   have e:fillS (rplaces_S3) [.v x6,.l (K.st (LK.i IntKind.i64) [LK.i IntKind.i64,LK.i IntKind.i64,LK.i IntKind.i64,LK.i IntKind.i64,LK.i IntKind.i64,LK.i IntKind.i64,LK.i IntKind.i64,LK.i IntKind.i64,LK.i IntKind.i64,LK.b,LK.i IntKind.i64,LK.i IntKind.i64,LK.i IntKind.i64,LK.i IntKind.i64]) x7,.i x8,.b x9,.l (K.st (LK.i IntKind.i64) [LK.i IntKind.i64,LK.i IntKind.i64,LK.i IntKind.i64,LK.i IntKind.i64,LK.i IntKind.i64,LK.i IntKind.i64]) x10] = some (rplaces_S1 x6 x7 x8 x9 x10) := by kernel_rfl
   rw [e] at hS
   cases hS
   exact ⟨_,(rplaces_l0_iter x6 x7 Q _ x8 x9 x10).trans hE⟩
noncomputable def rplaces_l0_lps {α:Type}:LookL α := addLp 30 [false,true,false,true,true] 1 (lEnt (rplaces_S3) rplaces_l0_go) noLps
theorem rplaces_l0_lps_ok {α:Type}:LoopsOk E.P (rplaces_l0_lps (α := α)) := addLp_ok rplaces_l0_ok (noLps_ok _)
noncomputable def M.rplaces {α:Type} (bad:Bool) (l:List L15) (k0:Bool → List (Int × Int × Int × Int × Int × Int × Int) → Option α):Option α := M.rplaces_l0 l (fun (x52:Bool) (x53:List (Int × Int × Int × Int × Int × Int × Int)) ↦ k0 x52 x53) ((100:Nat) + List.length l + (0:Nat)) (0:Int) bad []
theorem rplaces_eq {α:Type} (bad:Bool) (l:List L15) (v51:Value) (Q:SV → Hp → Option α):callI E look_rcheck (exec E look_rcheck rplaces_l0_lps 400) 30 ([SV.ptr (nat_lit 0) (nat_lit 0),SV.ros v51 (K.st (LK.i IntKind.i64) [LK.i IntKind.i64,LK.i IntKind.i64,LK.i IntKind.i64,LK.i IntKind.i64,LK.i IntKind.i64,LK.i IntKind.i64,LK.i IntKind.i64,LK.i IntKind.i64,LK.i IntKind.i64,LK.b,LK.i IntKind.i64,LK.i IntKind.i64,LK.i IntKind.i64,LK.i IntKind.i64]) l]) ([.cells [SV.bool bad] (nat_lit 30)]) Q = M.rplaces bad l (fun (x54:Bool) (x55:List (Int × Int × Int × Int × Int × Int × Int)) => Q (SV.sl (nat_lit 1)) ([.cells [SV.bool x54] (nat_lit 30),.seq (K.st (LK.i IntKind.i64) [LK.i IntKind.i64,LK.i IntKind.i64,LK.i IntKind.i64,LK.i IntKind.i64,LK.i IntKind.i64,LK.i IntKind.i64]) x55 (nat_lit 59)])) := by kernel_rfl
def rplaces_sp:List AS := [.ptr 30 [.bool false],.ro (.st (.i .i64) [.i .i64,.i .i64,.i .i64,.i .i64,.i .i64,.i .i64,.i .i64,.i .i64,.i .i64,.b,.i .i64,.i .i64,.i .i64,.i .i64])]
theorem rplaces_l0_val {α:Type} (l:List L15) (ht:Tree l) (hl:l.length ≤ 1000) (bad:Bool) (k1:Bool → List T7 → Option α) (R:List Pl):∀ (fuel i:Nat) (P:List Pl),i ≤ l.length → l.length - i < fuel → P.length = i → layL (l.drop i) P = some R →
   M.rplaces_l0 l k1 fuel (i:Int) bad (P.map pl7) = k1 bad (R.map pl7)
 | 0,i,P,h1,h2,h3,h4 => by omega
 | f + 1,i,P,h1,h2,h3,h4 => by
   have hzl:(P.map pl7).length = i := by rw [List.length_map,h3]
   by_cases hi:i < l.length
   · rw [drop_lnk l i hi] at h4
     have hp := ht i _ (lnk_get hi)
     unfold layL at h4
     rw [Option.bind_eq_some_iff] at h4
     obtain ⟨r,hr,h5⟩ := h4
     have ih := rplaces_l0_val l ht hl bad k1 R f (i + 1) (P ++ [r]) (by omega) (by omega) (by rw [List.length_append,List.length_singleton,h3]) h5
     rw [List.map_append,List.map_cons,List.map_nil] at ih
     have hsz:(i + (0 + 1)) * 56 ≤ 140737488355328 := by omega
     have b0:(0:Int) ≤ (i:Int) ∧ (i:Int) < (l.length:Int) := by omega
     have hgd:∀ q:Nat,q < i → (P.map pl7).getD q t70 = pl7 (P.getD q pl0) := fun q hq => getD_pl7 P q (by omega)
     unfold M.rplaces_l0 M.rplaces_l0_step
     try simp only
     have e0:List.getD l (Int.toNat (i:Int)) (0,0,0,0,0,0,0,0,0,0,false,0,0,0,0) = lnk l i := rfl
     rw [cLt_nat,if_pos (by simpa using hi),if_pos b0,w_next (by omega),hzl,e0]
     generalize P.map pl7 = Z at *
     generalize lnk l i = x at *
     have fin:∀ (y:T7) (b:Bool),y = pl7 r → b = bad → M.rplaces_l0 l k1 f ((i + 1:Nat):Int) b (Z ++ [y]) = k1 bad (R.map pl7) := by
       intro y b hy hb
       rw [hy,hb]; exact ih
     by_cases h0:x.1 < 0
     · have e1 : parP P x.1 = (0, 0, 0) := if_pos h0
       have e2:parQ P x.1 = (4294967296,0,0,0) := if_pos h0
       rw [e1,e2] at hr
       unfold layO at hr
       simp only [Option.bind_eq_some_iff] at hr
       obtain ⟨m,hm,u,hu,a0,ha0,ax,hax,aq,haq,m2,hm2,t,hmt,md,hmd,hre⟩ := hr
       have hu':V.tTurn m (x.2.2.2.2.1,x.2.2.2.2.2.1,x.2.2.2.2.2.2.1) = some u := hu
       have hax':V.tTurn m (x.2.1,x.2.2.1,x.2.2.2.1) = some ax := hax
       rw [if_pos (by rw [cLt_eq]; exact decide_eq_true h0),if_pos b0,if_pos b0]
       by_cases hs:x.2.2.2.2.2.2.2.2.2.2.1 = true
       · have hs' : lSl x = true := hs
         rw [if_pos hs'] at haq
         simp only [Option.bind_eq_some_iff,Option.some.injEq] at haq
         obtain ⟨s,hsc,a,ha,rfl⟩ := haq
         have hsc':V.tScale ax x.2.2.2.2.2.2.2.2.2.2.2.1 = some s := hsc
         cases hre
         rw [if_pos hs,if_pos b0,if_pos b0,if_pos hsz]
         refine fin _ _ ?_ ?_
         · simp only [hm,q9_some,hu',q3_some,ha0,hax',hsc',ha,V.x3,V.y3,V.z3,pl7]
         · simp only [hm,q9_some,hu',q3_some,ha0,hax',hsc',ha,on_some]
       · have hs' : ¬ lSl x = true := hs
         rw [if_neg hs'] at haq
         simp only [Option.bind_eq_some_iff,Option.some.injEq] at haq
         obtain ⟨v,hv,w,hw,q,hq,rfl⟩ := haq
         have hv':V.tScale (x.2.1,x.2.2.1,x.2.2.2.1) x.2.2.2.2.2.2.2.2.2.2.2.1 = some v := hv
         cases hre
         rw [if_neg hs,if_pos b0,if_pos b0,if_pos hsz]
         refine fin _ _ ?_ ?_
         · simp only [hm,q9_some,hu',q3_some,q4_some,ha0,hv',hw,hq,V.x3,V.y3,V.z3,pl7]
         · simp only [hm,q9_some,hu',q3_some,q4_some,ha0,hv',hw,hq,on_some]
     · have hq0 : x.1.toNat < i := by omega
       have hg := hgd _ hq0
       have e1:parP P x.1 = (P.getD x.1.toNat pl0).1 := if_neg h0
       have e2:parQ P x.1 = (P.getD x.1.toNat pl0).2.1 := if_neg h0
       rw [e1,e2] at hr
       rw [if_neg (by rw [cLt_eq]; simpa using h0),if_pos b0,if_pos (show (0:Int) ≤ x.1 ∧ x.1 < (i:Int) by omega),if_pos b0,if_pos b0,show List.getD Z (Int.toNat x.1) (0,0,0,0,0,0,0) = pl7 (P.getD x.1.toNat pl0) from hg]
       generalize P.getD x.1.toNat pl0 = p at *
       unfold layO at hr
       simp only [Option.bind_eq_some_iff] at hr
       obtain ⟨m,hm,u,hu,a0,ha0,ax,hax,aq,haq,m2,hm2,t,hmt,md,hmd,hre⟩ := hr
       have hm':V.tRows (pl7 p).2.2.2 = some m := hm
       have hu':V.tTurn m (x.2.2.2.2.1,x.2.2.2.2.2.1,x.2.2.2.2.2.2.1) = some u := hu
       have ha0':V.tAdd ((pl7 p).1,(pl7 p).2.1,(pl7 p).2.2.1) u = some a0 := ha0
       have hax':V.tTurn m (x.2.1,x.2.2.1,x.2.2.2.1) = some ax := hax
       by_cases hs:x.2.2.2.2.2.2.2.2.2.2.1 = true
       · have hs' : lSl x = true := hs
         rw [if_pos hs'] at haq
         simp only [Option.bind_eq_some_iff,Option.some.injEq] at haq
         obtain ⟨s,hsc,a,ha,rfl⟩ := haq
         have hsc':V.tScale ax x.2.2.2.2.2.2.2.2.2.2.2.1 = some s := hsc
         cases hre
         rw [if_pos hs,if_pos b0,if_pos b0,if_pos hsz]
         refine fin _ _ ?_ ?_
         · simp only [hm', q9_some, hu', q3_some, ha0', hax', hsc', ha, V.x3, V.y3, V.z3]
           rfl
         · simp only [hm',q9_some,hu',q3_some,ha0',hax',hsc',ha,on_some]
       · have hs' : ¬ lSl x = true := hs
         rw [if_neg hs'] at haq
         simp only [Option.bind_eq_some_iff,Option.some.injEq] at haq
         obtain ⟨v,hv,w,hw,q,hq,rfl⟩ := haq
         have hv':V.tScale (x.2.1,x.2.2.1,x.2.2.2.1) x.2.2.2.2.2.2.2.2.2.2.2.1 = some v := hv
         have hq':V.tTimes (pl7 p).2.2.2 w = some q := hq
         cases hre
         rw [if_neg hs,if_pos b0,if_pos b0,if_pos hsz]
         refine fin _ _ ?_ ?_
         · simp only [hm', q9_some, hu', q3_some, q4_some, ha0', hv', hw, hq', V.x3, V.y3, V.z3]
           rfl
         · simp only [hm',q9_some,hu',q3_some,q4_some,ha0',hv',hw,hq',on_some]
   · have : i = l.length := by omega
     subst this
     rw [List.drop_length] at h4
     simp only [layL,Option.some.injEq] at h4
     subst h4
     unfold M.rplaces_l0 M.rplaces_l0_step
     try simp only
     rw [cLt_nat,if_neg (by simp)]
theorem rplaces_v {α:Type} (bad:Bool) (l:List L15) (hg:V.chC l = 0) (k0:Bool → List T7 → Option α):M.rplaces bad l k0 = k0 bad (V.plcs l) := by
 obtain ⟨P,hP,_,_,ht⟩ := lay_some hg
 have h12 := ((chC_iff l).1 hg).1
 rw [plcs_some hg hP]
 unfold M.rplaces
 exact rplaces_l0_val l ht (by omega) bad (fun b z => k0 b z) P (100 + l.length + 0) 0 [] (by omega) (by omega) rfl hP
noncomputable def rplaces_h {α:Type} (ds:List D) (Q:SV → Hp → Option α):Option α :=
 dB ds fun bad ds => dL (K.st (LK.i IntKind.i64) [LK.i IntKind.i64,LK.i IntKind.i64,LK.i IntKind.i64,LK.i IntKind.i64,LK.i IntKind.i64,LK.i IntKind.i64,LK.i IntKind.i64,LK.i IntKind.i64,LK.i IntKind.i64,LK.b,LK.i IntKind.i64,LK.i IntKind.i64,LK.i IntKind.i64,LK.i IntKind.i64]) ds fun l ds => dE ds (if V.chC l = 0 then Q (.sl 1) ([.cells [.bool bad] 30,.seq kPs (V.plcs l) 59]) else none)
theorem rplaces_h_ok {α:Type}:FnOk E.P 30 (fEnt (α := α) rplaces_sp rplaces_h) :=
 fEntR_ok E (look_rcheck_ok) (exec_sound E E_ok (look_rcheck_ok) (rplaces_l0_lps_ok) 400) fun ds Q r h => by
   unfold rplaces_h at h
   obtain ⟨bad,ds,rfl,h1⟩ := dB_inv h
   obtain ⟨l,ds,rfl,h2⟩ := dL_inv h1
   obtain ⟨rfl,hE⟩ := dE_inv h2
   split at hE
   · rename_i hg
     exact ⟨_,_,hE,fun vs => ⟨_,_,by kernel_rfl,(rplaces_eq bad l (vs.tail.headD undef) _).trans (rplaces_v bad l hg _)⟩⟩
   · cases hE
noncomputable def look_rplaces {α:Type}:LookF α := addFn 30 (fEnt rplaces_sp rplaces_h) look_rcheck
theorem look_rplaces_ok {α:Type}:LookOk E.P (look_rplaces (α := α)) := addFn_ok rplaces_h_ok (look_rcheck_ok)
noncomputable abbrev rmiddles_S1 (y1:Value) (y2:List L15) (y3:Value) (y4:List (Int × Int × Int × Int × Int × Int × Int)) (y5:Int) (y6:Bool) (y7:L3):St := St.mk (some (SV.ptr (nat_lit 0) (nat_lit 0)) :: some (SV.ros y1 (K.st (LK.i IntKind.i64) [LK.i IntKind.i64,LK.i IntKind.i64,LK.i IntKind.i64,LK.i IntKind.i64,LK.i IntKind.i64,LK.i IntKind.i64,LK.i IntKind.i64,LK.i IntKind.i64,LK.i IntKind.i64,LK.b,LK.i IntKind.i64,LK.i IntKind.i64,LK.i IntKind.i64,LK.i IntKind.i64]) y2) :: some (SV.ros y3 (K.st (LK.i IntKind.i64) [LK.i IntKind.i64,LK.i IntKind.i64,LK.i IntKind.i64,LK.i IntKind.i64,LK.i IntKind.i64,LK.i IntKind.i64]) y4) :: nn 4 (some (SV.sl (nat_lit 1)) :: some (SV.int .i64 y5) :: nn 33 ([]))) [.cells [SV.bool y6] (nat_lit 30),.seq kP y7 (nat_lit 24)]
noncomputable abbrev rmiddles_S2 (y1:Bool) (y2:L3):St := St.mk (nn 7 (some (SV.sl (nat_lit 1)) :: nn 34 ([]))) [.cells [SV.bool y1] (nat_lit 30),.seq kP y2 (nat_lit 24)]
noncomputable abbrev rmiddles_S3:St := St.mk (some (SV.ptr (nat_lit 0) (nat_lit 0)) :: some (SV.ros undef (K.st (LK.i IntKind.i64) [LK.i IntKind.i64,LK.i IntKind.i64,LK.i IntKind.i64,LK.i IntKind.i64,LK.i IntKind.i64,LK.i IntKind.i64,LK.i IntKind.i64,LK.i IntKind.i64,LK.i IntKind.i64,LK.b,LK.i IntKind.i64,LK.i IntKind.i64,LK.i IntKind.i64,LK.i IntKind.i64]) []) :: some (SV.ros undef (K.st (LK.i IntKind.i64) [LK.i IntKind.i64,LK.i IntKind.i64,LK.i IntKind.i64,LK.i IntKind.i64,LK.i IntKind.i64,LK.i IntKind.i64]) []) :: nn 4 (some (SV.sl (nat_lit 1)) :: some (SV.int .i64 (0:Int)) :: nn 33 ([]))) [.cells [SV.bool false] (nat_lit 30),.seq kP [] (nat_lit 24)]
noncomputable def M.rmiddles_l0_step {α:Type} (x66:List L15) (x68:List (Int × Int × Int × Int × Int × Int × Int)) (kn:Int → Bool → L3 → Option α) (k1:Bool → L3 → Option α) (x69:Int) (x70:Bool) (x71:L3):Option α := let s72 := (↑(List.length x66):Int); let s73 := List.getD x68 (Int.toNat x69) ((0:Int),(0:Int),(0:Int),(0:Int),(0:Int),(0:Int),(0:Int)); let s74 := Prod.snd s73; let s75 := Prod.snd s74; let s76 := V.tRows (Prod.snd s75); let s77 := Prod.snd (Prod.snd (Prod.snd (Prod.snd (Prod.snd (Prod.snd (Prod.snd (List.getD x66 (Int.toNat x69) ((0:Int),(0:Int),(0:Int),(0:Int),(0:Int),(0:Int),(0:Int),(0:Int),(0:Int),(0:Int),false,(0:Int),(0:Int),(0:Int),(0:Int))))))))); let s78 := Prod.snd s77; let s79 := V.tTurn (V.q9 s76) (Prod.fst s77,Prod.fst s78,Prod.fst (Prod.snd s78)); let s80 := V.tAdd (Prod.fst s73,Prod.fst s74,Prod.fst s75) (V.q3 s79); if cLt x69 s72 = true then if (0:Int) ≤ x69 ∧ x69 < (↑(List.length x68):Int) then if (0:Int) ≤ x69 ∧ x69 < s72 then if (0:Int) ≤ x69 ∧ x69 < (↑(List.length x68):Int) then if (List.length x71 + ((0:Nat) + (1:Nat))) * (24:Nat) ≤ (140737488355328:Nat) then kn (IntKind.wrap .i64 (x69 + (1:Int))) (V.on s80 (V.on s79 (V.on s76 x70))) (x71 ++ [V.q3 s80]) else none else none else none else none else k1 x70 x71
noncomputable def M.rmiddles_l0 {α:Type} (x66:List L15) (x68:List (Int × Int × Int × Int × Int × Int × Int)) (k1:Bool → L3 → Option α):Nat → Int → Bool → L3 → Option α
 | 0,_,_,_ => none
 | n + 1,x69,x70,x71 => M.rmiddles_l0_step x66 x68 (M.rmiddles_l0 x66 x68 k1 n) k1 x69 x70 x71
theorem rmiddles_l0_step_eq {α:Type} (x65:Value) (x66:List L15) (x67:Value) (x68:List (Int × Int × Int × Int × Int × Int × Int)) (x69:Int) (x70:Bool) (x71:L3) (Q:Ex → St → Option α):(loopStep E (exec E look_rplaces noLps 400) 34 [false,true,false,true,true] 1 (codeAt E.P 34 [false,true,false,true,true])) (rmiddles_S1 x65 x66 x67 x68 x69 x70 x71) Q = M.rmiddles_l0_step x66 x68 (fun (x83:Int) (x84:Bool) (x85:L3) => Q .normal (rmiddles_S1 x65 x66 x67 x68 x83 x84 x85)) (fun (x81:Bool) (x82:L3) => Q (.exit 0) (rmiddles_S2 x81 x82)) x69 x70 x71 := by kernel_rfl
theorem rmiddles_l0_iter {α:Type} (x65:Value) (x66:List L15) (x67:Value) (x68:List (Int × Int × Int × Int × Int × Int × Int)) (Q:Ex → St → Option α):∀ (n:Nat) (x69:Int) (x70:Bool) (x71:L3),iter (loopStep E (exec E look_rplaces noLps 400) 34 [false,true,false,true,true] 1 (codeAt E.P 34 [false,true,false,true,true])) n (rmiddles_S1 x65 x66 x67 x68 x69 x70 x71) Q = M.rmiddles_l0 x66 x68 (fun (x81:Bool) (x82:L3) => Q (.exit 0) (rmiddles_S2 x81 x82)) n x69 x70 x71
 | 0,_,_,_ => rfl
 | n + 1,x69,x70,x71 => (rmiddles_l0_step_eq x65 x66 x67 x68 x69 x70 x71 (iterK (loopStep E (exec E look_rplaces noLps 400) 34 [false,true,false,true,true] 1 (codeAt E.P 34 [false,true,false,true,true])) n Q)).trans (congrArg (fun kn => M.rmiddles_l0_step x66 x68 kn (fun (x81:Bool) (x82:L3) => Q (.exit 0) (rmiddles_S2 x81 x82)) x69 x70 x71) (funext fun x69 => funext fun x70 => funext fun x71 => rmiddles_l0_iter x65 x66 x67 x68 Q n x69 x70 x71))
noncomputable def rmiddles_l0_go {α:Type} (ds:List D) (Q:Ex → St → Option α):Option α :=
 dV ds fun x65 ds => dL (K.st (LK.i IntKind.i64) [LK.i IntKind.i64,LK.i IntKind.i64,LK.i IntKind.i64,LK.i IntKind.i64,LK.i IntKind.i64,LK.i IntKind.i64,LK.i IntKind.i64,LK.i IntKind.i64,LK.i IntKind.i64,LK.b,LK.i IntKind.i64,LK.i IntKind.i64,LK.i IntKind.i64,LK.i IntKind.i64]) ds fun x66 ds => dV ds fun x67 ds => dL (K.st (LK.i IntKind.i64) [LK.i IntKind.i64,LK.i IntKind.i64,LK.i IntKind.i64,LK.i IntKind.i64,LK.i IntKind.i64,LK.i IntKind.i64]) ds fun x68 ds => dI ds fun x69 ds => dB ds fun x70 ds => dL kP ds fun x71 ds => dE ds (M.rmiddles_l0 x66 x68 (fun (x81:Bool) (x82:L3) => Q (.exit 0) (rmiddles_S2 x81 x82)) (100 + x66.length + x68.length + x71.length) x69 x70 x71)
theorem rmiddles_l0_ok {α:Type}:LoopOk E.P 34 [false,true,false,true,true] 1 (lEnt (α := α) (rmiddles_S3) rmiddles_l0_go) :=
 lEnt_ok E (exec_sound E E_ok (look_rplaces_ok) (noLps_ok _) 400) fun ds Q r h S hS => by
   unfold rmiddles_l0_go at h
   obtain ⟨x65,ds,rfl,h1⟩ := dV_inv h
   obtain ⟨x66,ds,rfl,h2⟩ := dL_inv h1
   obtain ⟨x67,ds,rfl,h3⟩ := dV_inv h2
   obtain ⟨x68,ds,rfl,h4⟩ := dL_inv h3
   obtain ⟨x69,ds,rfl,h5⟩ := dI_inv h4
   obtain ⟨x70,ds,rfl,h6⟩ := dB_inv h5
   obtain ⟨x71,ds,rfl,h7⟩ := dL_inv h6
   obtain ⟨rfl,hE⟩ := dE_inv h7
   have e:fillS (rmiddles_S3) [.v x65,.l (K.st (LK.i IntKind.i64) [LK.i IntKind.i64,LK.i IntKind.i64,LK.i IntKind.i64,LK.i IntKind.i64,LK.i IntKind.i64,LK.i IntKind.i64,LK.i IntKind.i64,LK.i IntKind.i64,LK.i IntKind.i64,LK.b,LK.i IntKind.i64,LK.i IntKind.i64,LK.i IntKind.i64,LK.i IntKind.i64]) x66,.v x67,.l (K.st (LK.i IntKind.i64) [LK.i IntKind.i64,LK.i IntKind.i64,LK.i IntKind.i64,LK.i IntKind.i64,LK.i IntKind.i64,LK.i IntKind.i64]) x68,.i x69,.b x70,.l kP x71] = some (rmiddles_S1 x65 x66 x67 x68 x69 x70 x71) := by kernel_rfl
   rw [e] at hS
   cases hS
   exact ⟨_,(rmiddles_l0_iter x65 x66 x67 x68 Q _ x69 x70 x71).trans hE⟩
noncomputable def rmiddles_l0_lps {α:Type}:LookL α := addLp 34 [false,true,false,true,true] 1 (lEnt (rmiddles_S3) rmiddles_l0_go) noLps
theorem rmiddles_l0_lps_ok {α:Type}:LoopsOk E.P (rmiddles_l0_lps (α := α)) := addLp_ok rmiddles_l0_ok (noLps_ok _)
noncomputable def M.rmiddles {α:Type} (bad:Bool) (l:List L15) (p:List (Int × Int × Int × Int × Int × Int × Int)) (k0:Bool → L3 → Option α):Option α := M.rmiddles_l0 l p (fun (x88:Bool) (x89:L3) ↦ k0 x88 x89) ((100:Nat) + List.length l + List.length p + (0:Nat)) (0:Int) bad []
theorem rmiddles_eq {α:Type} (bad:Bool) (l:List L15) (p:List (Int × Int × Int × Int × Int × Int × Int)) (v86:Value) (v87:Value) (Q:SV → Hp → Option α):callI E look_rplaces (exec E look_rplaces rmiddles_l0_lps 400) 34 ([SV.ptr (nat_lit 0) (nat_lit 0),SV.ros v86 (K.st (LK.i IntKind.i64) [LK.i IntKind.i64,LK.i IntKind.i64,LK.i IntKind.i64,LK.i IntKind.i64,LK.i IntKind.i64,LK.i IntKind.i64,LK.i IntKind.i64,LK.i IntKind.i64,LK.i IntKind.i64,LK.b,LK.i IntKind.i64,LK.i IntKind.i64,LK.i IntKind.i64,LK.i IntKind.i64]) l,SV.ros v87 (K.st (LK.i IntKind.i64) [LK.i IntKind.i64,LK.i IntKind.i64,LK.i IntKind.i64,LK.i IntKind.i64,LK.i IntKind.i64,LK.i IntKind.i64]) p]) ([.cells [SV.bool bad] (nat_lit 30)]) Q = M.rmiddles bad l p (fun (x90:Bool) (x91:L3) => Q (SV.sl (nat_lit 1)) ([.cells [SV.bool x90] (nat_lit 30),.seq kP x91 (nat_lit 24)])) := by kernel_rfl
def rmiddles_sp:List AS := [.ptr 30 [.bool false],.ro (.st (.i .i64) [.i .i64,.i .i64,.i .i64,.i .i64,.i .i64,.i .i64,.i .i64,.i .i64,.i .i64,.b,.i .i64,.i .i64,.i .i64,.i .i64]),.ro kPs]
theorem layO_mid {pp:V.T3} {pq:V.T4} {x:L15} {r:Pl} (h:layO pp pq x = some r):∃ m2 t,V.tRows r.2.1 = some m2 ∧ V.tTurn m2 (lMid x) = some t ∧ V.tAdd r.1 t = some r.2.2.2 := by
 unfold layO at h
 simp only [Option.bind_eq_some_iff] at h
 obtain ⟨m,hm,u,hu,a0,ha0,ax,hax,aq,haq,m2,hm2,t,hmt,md,hmd,hre⟩ := h
 cases hre
 exact ⟨m2,t,hm2,hmt,hmd⟩
theorem layO_ax {pp:V.T3} {pq:V.T4} {x:L15} {r:Pl} (h:layO pp pq x = some r):∃ m,V.tRows pq = some m ∧ V.tTurn m (lAx x) = some r.2.2.1 := by
 unfold layO at h
 simp only [Option.bind_eq_some_iff] at h
 obtain ⟨m,hm,u,hu,a0,ha0,ax,hax,aq,haq,m2,hm2,t,hmt,md,hmd,hre⟩ := h
 cases hre
 exact ⟨m,hm,hax⟩
theorem chP_lay {l:List L15} (h:V.chC l = 0):∀ i,i < l.length → layO (parP (chP l) (lnk l i).1) (parQ (chP l) (lnk l i).1) (lnk l i) = some ((chP l).getD i pl0) := by
 obtain ⟨P,hP,_,_,ht⟩ := lay_some h
 have e:chP l = P := by unfold chP; rw [hP]; rfl
 rw [e]
 obtain ⟨_,_,h1⟩ := layL_spec l [] P hP (Tree.lt ht)
 intro i hi
 have := h1 i _ (lnk_get hi)
 rwa [List.length_nil,Nat.zero_add] at this
theorem rmiddles_l0_val {α:Type} (l:List L15) (P:List Pl) (hl:l.length ≤ 1000) (hP:P.length = l.length) (hm:∀ i,i < l.length → ∃ m2 t,V.tRows (P.getD i pl0).2.1 = some m2 ∧ V.tTurn m2 (lMid (lnk l i)) = some t ∧ V.tAdd (P.getD i pl0).1 t = some (P.getD i pl0).2.2.2) (bad:Bool) (k1:Bool → List V.T3 → Option α):∀ (fuel i:Nat),i ≤ l.length → l.length - i < fuel →
   M.rmiddles_l0 l (P.map pl7) k1 fuel (i:Int) bad ((P.take i).map (fun r => r.2.2.2)) = k1 bad (P.map (fun r => r.2.2.2))
 | 0,i,h1,h2 => by omega
 | f + 1,i,h1,h2 => by
   by_cases hi:i < l.length
   · have ih := rmiddles_l0_val l P hl hP hm bad k1 f (i + 1) (by omega) (by omega)
     have e : (P.take (i + 1)).map (fun r => r.2.2.2) = (P.take i).map (fun r => r.2.2.2) ++ [(P.getD i pl0).2.2.2] := by
       rw [List.take_add_one,List.map_append]
       simp [List.getD_eq_getElem?_getD,hP,hi]
     rw [e] at ih
     have hlen:((P.take i).map (fun r => r.2.2.2)).length = i := by rw [List.length_map,List.length_take]; omega
     have hpl:(P.map pl7).length = l.length := by rw [List.length_map,hP]
     obtain ⟨m2,t,g1,g2,g3⟩ := hm i hi
     have e0:List.getD l (Int.toNat (i:Int)) (0,0,0,0,0,0,0,0,0,0,false,0,0,0,0) = lnk l i := rfl
     have e1:List.getD (P.map pl7) (Int.toNat (i:Int)) (0,0,0,0,0,0,0) = pl7 (P.getD i pl0) := getD_pl7 P i (by omega)
     have b0:(0:Int) ≤ (i:Int) ∧ (i:Int) < (l.length:Int) := by omega
     have g1':V.tRows (pl7 (P.getD i pl0)).2.2.2 = some m2 := g1
     have g2':V.tTurn m2 ((lnk l i).2.2.2.2.2.2.2.1,(lnk l i).2.2.2.2.2.2.2.2.1,(lnk l i).2.2.2.2.2.2.2.2.2.1) = some t := g2
     have g3':V.tAdd ((pl7 (P.getD i pl0)).1,(pl7 (P.getD i pl0)).2.1,(pl7 (P.getD i pl0)).2.2.1) t = some (P.getD i pl0).2.2.2 := g3
     unfold M.rmiddles_l0 M.rmiddles_l0_step
     try simp only
     rw [cLt_nat,if_pos (by simpa using hi),hpl,e0,e1,if_pos b0,if_pos b0,if_pos b0,hlen,if_pos (by omega),w_next (by omega),g1',q9_some,g2',q3_some,g3',q3_some,on_some,on_some,on_some]
     exact ih
   · have : i = l.length := by omega
     subst this
     unfold M.rmiddles_l0 M.rmiddles_l0_step
     try simp only
     rw [cLt_nat,if_neg (by simp),List.take_of_length_le (by omega)]
theorem rmiddles_v {α:Type} (bad:Bool) (l:List L15) (p:List T7) (hg:V.chC l = 0 ∧ p = V.plcs l) (k0:Bool → List V.T3 → Option α):M.rmiddles bad l p k0 = k0 bad (V.mdls l) := by
 obtain ⟨h,rfl⟩ := hg
 obtain ⟨_,e2,e3,_⟩ := lay_zip h
 rw [mdls_eq h,plcs_eq h]
 unfold M.rmiddles
 exact rmiddles_l0_val l (chP l) (by omega) e2 (fun i hi => layO_mid (chP_lay h i hi)) bad (fun b z => k0 b z) (100 + l.length + ((chP l).map pl7).length + 0) 0 (by omega) (by omega)
noncomputable def rmiddles_h {α:Type} (ds:List D) (Q:SV → Hp → Option α):Option α :=
 dB ds fun bad ds => dL (K.st (LK.i IntKind.i64) [LK.i IntKind.i64,LK.i IntKind.i64,LK.i IntKind.i64,LK.i IntKind.i64,LK.i IntKind.i64,LK.i IntKind.i64,LK.i IntKind.i64,LK.i IntKind.i64,LK.i IntKind.i64,LK.b,LK.i IntKind.i64,LK.i IntKind.i64,LK.i IntKind.i64,LK.i IntKind.i64]) ds fun l ds => dL (K.st (LK.i IntKind.i64) [LK.i IntKind.i64,LK.i IntKind.i64,LK.i IntKind.i64,LK.i IntKind.i64,LK.i IntKind.i64,LK.i IntKind.i64]) ds fun p ds => dE ds (if V.gB (V.chC l = 0 ∧ p = V.plcs l) = true then Q (.sl 1) ([.cells [.bool bad] 30,.seq kP (V.mdls l) 24]) else none)
theorem rmiddles_h_ok {α:Type}:FnOk E.P 34 (fEnt (α := α) rmiddles_sp rmiddles_h) :=
 fEntR_ok E (look_rplaces_ok) (exec_sound E E_ok (look_rplaces_ok) (rmiddles_l0_lps_ok) 400) fun ds Q r h => by
   unfold rmiddles_h at h
   obtain ⟨bad,ds,rfl,h1⟩ := dB_inv h
   obtain ⟨l,ds,rfl,h2⟩ := dL_inv h1
   obtain ⟨p,ds,rfl,h3⟩ := dL_inv h2
   obtain ⟨rfl,hE⟩ := dE_inv h3
   split at hE
   · rename_i hg
     exact ⟨_,_,hE,fun vs => ⟨_,_,by kernel_rfl,(rmiddles_eq bad l p (vs.tail.headD undef) (vs.tail.tail.headD undef) _).trans (rmiddles_v bad l p (gB_iff hg) _)⟩⟩
   · cases hE
noncomputable def look_rmiddles {α:Type}:LookF α := addFn 34 (fEnt rmiddles_sp rmiddles_h) look_rplaces
theorem look_rmiddles_ok {α:Type}:LookOk E.P (look_rmiddles (α := α)) := addFn_ok rmiddles_h_ok (look_rplaces_ok)
noncomputable def M.raxis {α:Type} (bad:Bool) (l:List L15) (p:List (Int × Int × Int × Int × Int × Int × Int)) (i:Int) (k0:Int → Int → Int → Bool → Option α):Option α := let s94 := List.getD l (Int.toNat i) ((0:Int),(0:Int),(0:Int),(0:Int),(0:Int),(0:Int),(0:Int),(0:Int),(0:Int),(0:Int),false,(0:Int),(0:Int),(0:Int),(0:Int)); let s95 := Prod.snd s94; let s96 := Prod.fst s94; let s97 := Prod.snd s95; let s98 := V.tRows (Prod.snd (Prod.snd (Prod.snd (List.getD p (Int.toNat s96) ((0:Int),(0:Int),(0:Int),(0:Int),(0:Int),(0:Int),(0:Int)))))); let s99 := (Prod.fst s95,Prod.fst s97,Prod.fst (Prod.snd s97)); let s100 := V.tTurn (V.q9 (V.tRows ((4294967296:Int),(0:Int),(0:Int),(0:Int)))) s99; let s101 := V.tTurn (V.q9 s98) s99; if (0:Int) ≤ i ∧ i < (↑(List.length l):Int) then if cLt s96 (0:Int) = true then if (0:Int) ≤ i ∧ i < (↑(List.length l):Int) then k0 (V.x3 s100) (V.y3 s100) (V.z3 s100) (V.on s100 (V.on (V.tRows ((4294967296:Int),(0:Int),(0:Int),(0:Int))) bad)) else none else if (0:Int) ≤ i ∧ i < (↑(List.length l):Int) then if (0:Int) ≤ s96 ∧ s96 < (↑(List.length p):Int) then if (0:Int) ≤ i ∧ i < (↑(List.length l):Int) then k0 (V.x3 s101) (V.y3 s101) (V.z3 s101) (V.on s101 (V.on s98 bad)) else none else none else none else none
theorem raxis_eq {α:Type} (bad:Bool) (l:List L15) (p:List (Int × Int × Int × Int × Int × Int × Int)) (i:Int) (v92:Value) (v93:Value) (Q:SV → Hp → Option α):callI E look_rmiddles (exec E look_rmiddles noLps 400) 54 ([SV.ptr (nat_lit 0) (nat_lit 0),SV.ros v92 (K.st (LK.i IntKind.i64) [LK.i IntKind.i64,LK.i IntKind.i64,LK.i IntKind.i64,LK.i IntKind.i64,LK.i IntKind.i64,LK.i IntKind.i64,LK.i IntKind.i64,LK.i IntKind.i64,LK.i IntKind.i64,LK.b,LK.i IntKind.i64,LK.i IntKind.i64,LK.i IntKind.i64,LK.i IntKind.i64]) l,SV.ros v93 (K.st (LK.i IntKind.i64) [LK.i IntKind.i64,LK.i IntKind.i64,LK.i IntKind.i64,LK.i IntKind.i64,LK.i IntKind.i64,LK.i IntKind.i64]) p,SV.int .i64 i]) ([.cells [SV.bool bad] (nat_lit 30)]) Q = M.raxis bad l p i (fun (x102 x103 x104:Int) (x105:Bool) => Q (SV.agg [SV.int .i64 x102,SV.int .i64 x103,SV.int .i64 x104]) ([.cells [SV.bool x105] (nat_lit 30)])) := by kernel_rfl
def raxis_sp:List AS := [.ptr 30 [.bool false],.ro (.st (.i .i64) [.i .i64,.i .i64,.i .i64,.i .i64,.i .i64,.i .i64,.i .i64,.i .i64,.i .i64,.b,.i .i64,.i .i64,.i .i64,.i .i64]),.ro kPs,.val (.int .i64 0)]
noncomputable def _root_.Go.Proofs.YtajomehkgaamoaaGreat.V.axs (l:List (Int × Int × Int × Int × Int × Int × Int × Int × Int × Int × Bool × Int × Int × Int × Int)) (i:Int):Int × Int × Int := hid (pAx (chP l) i.toNat)
theorem raxis_v {α:Type} (bad:Bool) (l:List L15) (p:List T7) (i:Int) (hg:V.chC l = 0 ∧ p = V.plcs l ∧ 0 ≤ i ∧ i < (l.length:Int)) (k0:Int → Int → Int → Bool → Option α):M.raxis bad l p i k0 = k0 (V.axs l i).1 (V.axs l i).2.1 (V.axs l i).2.2 bad := by
 obtain ⟨h,rfl,h0,h1⟩ := hg
 obtain ⟨n,rfl⟩:∃ n:Nat,i = (n:Int) := ⟨i.toNat,by omega⟩
 obtain ⟨_,e2,e3,ht⟩ := lay_zip h
 have hn:n < l.length := by omega
 have hp := ht n _ (lnk_get hn)
 obtain ⟨m,g1,g2⟩ := layO_ax (chP_lay h n hn)
 have e0:List.getD l (Int.toNat (n:Int)) (0,0,0,0,0,0,0,0,0,0,false,0,0,0,0) = lnk l n := rfl
 have ea:V.axs l (n:Int) = ((chP l).getD n pl0).2.2.1 := by unfold V.axs; rw [hid_eq]; rfl
 have g2':V.tTurn m ((lnk l n).2.1,(lnk l n).2.2.1,(lnk l n).2.2.2.1) = some ((chP l).getD n pl0).2.2.1 := g2
 rw [plcs_eq h,ea]
 unfold M.raxis
 try simp only
 rw [e0,if_pos ⟨h0,h1⟩,cLt_eq]
 by_cases hx:(lnk l n).1 < 0
 · rw [show parQ (chP l) (lnk l n).1 = (4294967296, 0, 0, 0) from if_pos hx] at g1
   rw [if_pos (decide_eq_true hx),if_pos ⟨h0,h1⟩,g1,q9_some,g2',on_some,on_some]
   rfl
 · rw [show parQ (chP l) (lnk l n).1 = ((chP l).getD (lnk l n).1.toNat pl0).2.1 from if_neg hx] at g1
   have hq:(lnk l n).1.toNat < (chP l).length := by omega
   have e1:List.getD ((chP l).map pl7) (Int.toNat (lnk l n).1) (0,0,0,0,0,0,0) = pl7 ((chP l).getD (lnk l n).1.toNat pl0) := getD_pl7 (chP l) _ hq
   have g1':V.tRows (pl7 ((chP l).getD (lnk l n).1.toNat pl0)).2.2.2 = some m := g1
   rw [if_neg (by rw [decide_eq_false hx]; decide),if_pos ⟨h0,h1⟩,if_pos (show (0:Int) ≤ (lnk l n).1 ∧ (lnk l n).1 < ((((chP l).map pl7).length:Nat):Int) from ⟨by omega,by rw [List.length_map]; omega⟩),if_pos ⟨h0,h1⟩,e1,g1',q9_some,g2',on_some,on_some]
   rfl
noncomputable def raxis_h {α:Type} (ds:List D) (Q:SV → Hp → Option α):Option α :=
 dB ds fun bad ds => dL (K.st (LK.i IntKind.i64) [LK.i IntKind.i64,LK.i IntKind.i64,LK.i IntKind.i64,LK.i IntKind.i64,LK.i IntKind.i64,LK.i IntKind.i64,LK.i IntKind.i64,LK.i IntKind.i64,LK.i IntKind.i64,LK.b,LK.i IntKind.i64,LK.i IntKind.i64,LK.i IntKind.i64,LK.i IntKind.i64]) ds fun l ds => dL (K.st (LK.i IntKind.i64) [LK.i IntKind.i64,LK.i IntKind.i64,LK.i IntKind.i64,LK.i IntKind.i64,LK.i IntKind.i64,LK.i IntKind.i64]) ds fun p ds => dI ds fun i ds => dE ds (if V.gB (V.chC l = 0 ∧ p = V.plcs l ∧ 0 ≤ i ∧ i < (l.length:Int)) = true then Q (.agg [.int .i64 (V.axs l i).1,.int .i64 (V.axs l i).2.1,.int .i64 (V.axs l i).2.2]) ([.cells [.bool bad] 30]) else none)
theorem raxis_h_ok {α:Type}:FnOk E.P 54 (fEnt (α := α) raxis_sp raxis_h) :=
 fEntR_ok E (look_rmiddles_ok) (exec_sound E E_ok (look_rmiddles_ok) (noLps_ok _) 400) fun ds Q r h => by
   unfold raxis_h at h
   obtain ⟨bad,ds,rfl,h1⟩ := dB_inv h
   obtain ⟨l,ds,rfl,h2⟩ := dL_inv h1
   obtain ⟨p,ds,rfl,h3⟩ := dL_inv h2
   obtain ⟨i,ds,rfl,h4⟩ := dI_inv h3
   obtain ⟨rfl,hE⟩ := dE_inv h4
   split at hE
   · rename_i hg
     exact ⟨_,_,hE,fun vs => ⟨_,_,by kernel_rfl,(raxis_eq bad l p i (vs.tail.headD undef) (vs.tail.tail.headD undef) _).trans (raxis_v bad l p i (gB_iff hg) _)⟩⟩
   · cases hE
noncomputable def look_raxis {α:Type}:LookF α := addFn 54 (fEnt raxis_sp raxis_h) look_rmiddles
theorem look_raxis_ok {α:Type}:LookOk E.P (look_raxis (α := α)) := addFn_ok raxis_h_ok (look_rmiddles_ok)
end
section
open Go
theorem on_or {β:Type} (o:Option β) (a b:Bool):V.on o (a || b) = (a || V.on o b) := by
 cases o with
 | none => rw [on_none,on_none,Bool.or_true]
 | some n => rfl
theorem or_swap (a b:Bool):(a || b) = (b || a) := Bool.or_comm a b
theorem pcB_or (P:List Pl) (i:Nat) (m:MvI) (a b:Bool):pcB P i m (a || b) = (a || pcB P i m b) := by
 unfold pcB
 rw [on_or,on_or,on_or]
theorem mvJ_or (C:List L15) (P:List Pl) (i:Nat) (q:MvI) (a b:Bool):(mvJ C P i q (a || b)).1 = (a || (mvJ C P i q b).1) := by
 unfold mvJ
 simp only
 rw [on_or,on_or,on_or,on_or,on_or]
theorem pcL_or (P:List Pl) (M:List MvI) (a b:Bool):∀ n,(pcL P M (a || b) n).1 = (a || (pcL P M b n).1)
 | 0 => rfl
 | n + 1 => by
   show pcB P n (M.getD n mv0) (pcL P M (a || b) n).1 = (a || pcB P n (M.getD n mv0) (pcL P M b n).1)
   rw [pcL_or P M a b n,pcB_or]
theorem pcL_snd (P:List Pl) (M:List MvI) (a b:Bool):∀ n,(pcL P M a n).2 = (pcL P M b n).2
 | 0 => rfl
 | n + 1 => by
   show (pcL P M a n).2 ++ [_] = (pcL P M b n).2 ++ [_]
   rw [pcL_snd P M a b n]
theorem pcL_app (P:List Pl) (M:List MvI) (m:MvI) (b:Bool):∀ n,n ≤ M.length → pcL P (M ++ [m]) b n = pcL P M b n
 | 0,_ => rfl
 | n + 1,h => by
   show (pcB P n ((M ++ [m]).getD n mv0) (pcL P (M ++ [m]) b n).1,(pcL P (M ++ [m]) b n).2 ++ [V.q3 (pcV P n ((M ++ [m]).getD n mv0))]) = _
   rw [pcL_app P M m b n (by omega),getD_append_lt _ _ _ _ (by omega)]
   rfl
noncomputable def dmL (C:List L15) (P:List Pl) (bad:Bool):Nat → Bool × List MvI × List V.T3
 | 0 => (bad,[],[])
 | i + 1 => (pcB P i (mvJ C P i (parM (dmL C P bad i).2.1 (lnk C i).1) (dmL C P bad i).1).2 (mvJ C P i (parM (dmL C P bad i).2.1 (lnk C i).1) (dmL C P bad i).1).1,
     (dmL C P bad i).2.1 ++ [(mvJ C P i (parM (dmL C P bad i).2.1 (lnk C i).1) (dmL C P bad i).1).2],
     (dmL C P bad i).2.2 ++ [V.q3 (pcV P i (mvJ C P i (parM (dmL C P bad i).2.1 (lnk C i).1) (dmL C P bad i).1).2)])
theorem dmL_eq (C:List L15) (P:List Pl) (bad:Bool):∀ n,dmL C P bad n = (bad || ((mvL C P false n).1 || (pcL P (mvL C P false n).2 false n).1),(mvL C P false n).2,(pcL P (mvL C P false n).2 false n).2)
 | 0 => by
   show (bad,[],[]) = (bad || (false || false),[],[])
   simp
 | n + 1 => by
   have hl := mvL_len C P false n
   have ih := dmL_eq C P bad n
   have e2:(mvL C P false (n + 1)).2 = (mvL C P false n).2 ++ [(mvJ C P n (parM (mvL C P false n).2 (lnk C n).1) (mvL C P false n).1).2] := rfl
   have e1:(mvL C P false (n + 1)).1 = (mvJ C P n (parM (mvL C P false n).2 (lnk C n).1) (mvL C P false n).1).1 := rfl
   have em:∀ b:Bool,(mvJ C P n (parM (mvL C P false n).2 (lnk C n).1) b).2 = (mvJ C P n (parM (mvL C P false n).2 (lnk C n).1) (mvL C P false n).1).2 := fun b => rfl
   show (pcB P n (mvJ C P n (parM (dmL C P bad n).2.1 (lnk C n).1) (dmL C P bad n).1).2 (mvJ C P n (parM (dmL C P bad n).2.1 (lnk C n).1) (dmL C P bad n).1).1,
     (dmL C P bad n).2.1 ++ [(mvJ C P n (parM (dmL C P bad n).2.1 (lnk C n).1) (dmL C P bad n).1).2],
     (dmL C P bad n).2.2 ++ [V.q3 (pcV P n (mvJ C P n (parM (dmL C P bad n).2.1 (lnk C n).1) (dmL C P bad n).1).2)]) = _
   rw [ih]
   simp only
   rw [em]
   have ep:pcL P (mvL C P false (n + 1)).2 false (n + 1) = (pcB P n ((mvL C P false (n + 1)).2.getD n mv0) (pcL P (mvL C P false (n + 1)).2 false n).1,(pcL P (mvL C P false (n + 1)).2 false n).2 ++ [V.q3 (pcV P n ((mvL C P false (n + 1)).2.getD n mv0))]) := rfl
   rw [ep,e2,pcL_app P _ _ false n (by omega),getD_last _ _ _ _ hl,e1]
   generalize (mvJ C P n (parM (mvL C P false n).2 (lnk C n).1) (mvL C P false n).1).2 = m
   refine Prod.ext ?_ rfl
   simp only
   have hsw:(bad || ((mvL C P false n).1 || (pcL P (mvL C P false n).2 false n).1)) = ((bad || (pcL P (mvL C P false n).2 false n).1) || (mvL C P false n).1) := by
     cases bad <;> cases (mvL C P false n).1 <;> cases (pcL P (mvL C P false n).2 false n).1 <;> rfl
   rw [hsw,mvJ_or]
   generalize (mvJ C P n (parM (mvL C P false n).2 (lnk C n).1) (mvL C P false n).1).1 = A
   have hsw2:(bad || (pcL P (mvL C P false n).2 false n).1 || A) = ((bad || A) || (pcL P (mvL C P false n).2 false n).1) := by
     cases bad <;> cases A <;> cases (pcL P (mvL C P false n).2 false n).1 <;> rfl
   rw [hsw2,pcB_or,Bool.or_assoc]
theorem dmL_end (C:List L15) (bad:Bool):dmL C (chP C) bad C.length = (bad || (pcR C).1,(mvR C).2,(pcR C).2) := by
 rw [dmL_eq]
 have e:(pcR C).1 = ((mvL C (chP C) false C.length).1 || (pcL (chP C) (mvL C (chP C) false C.length).2 false C.length).1) := by
   have := pcL_or (chP C) (mvL C (chP C) false C.length).2 (mvL C (chP C) false C.length).1 false C.length
   rw [Bool.or_false] at this
   exact this
 rw [← e]
 have e2:(pcL (chP C) (mvL C (chP C) false C.length).2 false C.length).2 = (pcR C).2 := pcL_snd _ _ _ _ _
 rw [e2]
 rfl
noncomputable def dsL (C:List L15) (W:List V.T3) (bad:Bool):Nat → Bool × V.T3
 | 0 => (bad,v30)
 | i + 1 => (V.on (V.tAdd (dsL C W bad i).2 (V.q3 (V.tScale (W.getD i v30) (lMass (lnk C i))))) (V.on (V.tScale (W.getD i v30) (lMass (lnk C i))) (dsL C W bad i).1),V.q3 (V.tAdd (dsL C W bad i).2 (V.q3 (V.tScale (W.getD i v30) (lMass (lnk C i))))))
theorem dsL_snd (C:List L15) (W:List V.T3) (a b:Bool):∀ n,(dsL C W a n).2 = (dsL C W b n).2
 | 0 => rfl
 | n + 1 => by
   show V.q3 (V.tAdd (dsL C W a n).2 _) = V.q3 (V.tAdd (dsL C W b n).2 _)
   rw [dsL_snd C W a b n]
theorem dsL_or (C:List L15) (W:List V.T3) (a b:Bool):∀ n,(dsL C W (a || b) n).1 = (a || (dsL C W b n).1)
 | 0 => rfl
 | n + 1 => by
   show V.on (V.tAdd (dsL C W (a || b) n).2 _) (V.on _ (dsL C W (a || b) n).1) = (a || V.on (V.tAdd (dsL C W b n).2 _) (V.on _ (dsL C W b n).1))
   rw [dsL_snd C W (a || b) b n,dsL_or C W a b n,on_or,on_or]
theorem smL_eq (C:List L15) (P:List Pl) (M:List MvI) (W:List V.T3) (a:Bool):∀ n,(∀ i,i < n → W.getD i v30 = V.q3 (pcV P i (M.getD i mv0))) → (smL C P M a n).2 = (dsL C W false n).2 ∧ (smL C P M a n).1 = ((pcL P M a n).1 || (dsL C W false n).1)
 | 0,_ => ⟨rfl,by show a = (a || false); simp⟩
 | n + 1,h => by
   obtain ⟨h1,h2⟩ := smL_eq C P M W a n (fun i hi => h i (by omega))
   have hw := h n (by omega)
   constructor
   · show V.q3 (V.tAdd (smL C P M a n).2 _) = V.q3 (V.tAdd (dsL C W false n).2 _)
     rw [h1,hw]
   · show V.on (V.tAdd (smL C P M a n).2 _) (V.on _ (pcB P n (M.getD n mv0) (smL C P M a n).1)) = (pcB P n (M.getD n mv0) (pcL P M a n).1 || V.on (V.tAdd (dsL C W false n).2 _) (V.on _ (dsL C W false n).1))
     rw [h1,h2,hw,or_swap (pcL P M a n).1,pcB_or,or_swap (dsL C W false n).1,on_or,on_or]
theorem dsL_end (C:List L15) (bad:Bool) (hl:(pcR C).2.length = C.length):dsL C (pcR C).2 (bad || (pcR C).1) C.length = (bad || (smR C).1,(smR C).2) := by
 obtain ⟨h1,h2⟩ := smL_eq C (chP C) (mvR C).2 (pcR C).2 (mvR C).1 C.length (fun i hi => pcL_get _ _ _ _ _ hi)
 refine Prod.ext ?_ ?_
 · show (dsL C (pcR C).2 (bad || (pcR C).1) C.length).1 = (bad || (smR C).1)
   have e:(smR C).1 = ((pcR C).1 || (dsL C (pcR C).2 false C.length).1) := h2
   rw [e,← Bool.or_assoc]
   have := dsL_or C (pcR C).2 (bad || (pcR C).1) false C.length
   rw [Bool.or_false] at this
   exact this
 · show (dsL C (pcR C).2 (bad || (pcR C).1) C.length).2 = (smR C).2
   rw [dsL_snd C _ _ false]
   exact h1.symm
end
section
open Go
set_option maxRecDepth 20000
noncomputable abbrev rmotion_S1 (y1:Value) (y2:List L15) (y3:Int) (y4:Bool) (y5:List (Int × Int × Int × Int × Int × Int × Int)) (y6 y7 y8 y9:L3):St := St.mk (some (SV.ptr (nat_lit 0) (nat_lit 0)) :: some (SV.ros y1 (K.st (LK.i IntKind.i64) [LK.i IntKind.i64,LK.i IntKind.i64,LK.i IntKind.i64,LK.i IntKind.i64,LK.i IntKind.i64,LK.i IntKind.i64,LK.i IntKind.i64,LK.i IntKind.i64,LK.i IntKind.i64,LK.b,LK.i IntKind.i64,LK.i IntKind.i64,LK.i IntKind.i64,LK.i IntKind.i64]) y2) :: nn 4 (some (SV.sl (nat_lit 1)) :: some (SV.sl (nat_lit 2)) :: some (SV.sl (nat_lit 3)) :: some (SV.sl (nat_lit 4)) :: some (SV.sl (nat_lit 5)) :: some (SV.int .i64 y3) :: nn 113 ([]))) [.cells [SV.bool y4] (nat_lit 30),.seq (K.st (LK.i IntKind.i64) [LK.i IntKind.i64,LK.i IntKind.i64,LK.i IntKind.i64,LK.i IntKind.i64,LK.i IntKind.i64,LK.i IntKind.i64]) y5 (nat_lit 59),.seq kP y6 (nat_lit 24),.seq kP y7 (nat_lit 24),.seq kP y8 (nat_lit 24),.seq kP y9 (nat_lit 24)]
noncomputable abbrev rmotion_S2 (y1:Bool) (y2 y3:L3):St := St.mk (nn 8 (some (SV.sl (nat_lit 1)) :: none :: some (SV.sl (nat_lit 2)) :: nn 114 ([]))) [.cells [SV.bool y1] (nat_lit 30),.seq kP y2 (nat_lit 24),.seq kP y3 (nat_lit 24)]
noncomputable abbrev rmotion_S3:St := St.mk (some (SV.ptr (nat_lit 0) (nat_lit 0)) :: some (SV.ros undef (K.st (LK.i IntKind.i64) [LK.i IntKind.i64,LK.i IntKind.i64,LK.i IntKind.i64,LK.i IntKind.i64,LK.i IntKind.i64,LK.i IntKind.i64,LK.i IntKind.i64,LK.i IntKind.i64,LK.i IntKind.i64,LK.b,LK.i IntKind.i64,LK.i IntKind.i64,LK.i IntKind.i64,LK.i IntKind.i64]) []) :: nn 4 (some (SV.sl (nat_lit 1)) :: some (SV.sl (nat_lit 2)) :: some (SV.sl (nat_lit 3)) :: some (SV.sl (nat_lit 4)) :: some (SV.sl (nat_lit 5)) :: some (SV.int .i64 (0:Int)) :: nn 113 ([]))) [.cells [SV.bool false] (nat_lit 30),.seq (K.st (LK.i IntKind.i64) [LK.i IntKind.i64,LK.i IntKind.i64,LK.i IntKind.i64,LK.i IntKind.i64,LK.i IntKind.i64,LK.i IntKind.i64]) [] (nat_lit 59),.seq kP [] (nat_lit 24),.seq kP [] (nat_lit 24),.seq kP [] (nat_lit 24),.seq kP [] (nat_lit 24)]
abbrev rmotion_P1:List Bool := [false,true,false,true,true,true,true,true,true]
noncomputable def M.rmotion_l0_step {α:Type} (x11:List L15) (x14:List (Int × Int × Int × Int × Int × Int × Int)) (x15:L3) (kn:Int → Bool → L3 → L3 → L3 → Option α) (k1:Bool → L3 → L3 → Option α) (x12:Int) (x13:Bool) (x16 x17 x18:L3):Option α := let s19 := List.length x17; let s20 := List.length x16; let s21 := (↑(List.length x14):Int); let s22 := (↑(List.length x11):Int); let s23 := x16 ++ [((0:Int),(0:Int),(0:Int))]; let s24 := List.getD x14 (Int.toNat x12) ((0:Int),(0:Int),(0:Int),(0:Int),(0:Int),(0:Int),(0:Int)); let s25 := Prod.snd s24; let s26 := List.getD x11 (Int.toNat x12) ((0:Int),(0:Int),(0:Int),(0:Int),(0:Int),(0:Int),(0:Int),(0:Int),(0:Int),(0:Int),false,(0:Int),(0:Int),(0:Int),(0:Int)); let s27 := Prod.fst s26; let s28 := Int.toNat s27; let s29 := (Prod.fst s24,Prod.fst s25,Prod.fst (Prod.snd s25)); let s30 := List.getD x16 s28 ((0:Int),(0:Int),(0:Int)); let s31 := V.tSub s29 ((0:Int),(0:Int),(0:Int)); let s32 := V.tCross ((0:Int),(0:Int),(0:Int)) (V.q3 s31); let s33 := V.tSub (List.getD x15 (Int.toNat x12) ((0:Int),(0:Int),(0:Int))) s29; let s34 := V.tAdd ((0:Int),(0:Int),(0:Int)) (V.q3 s32); let s35 := V.tCross ((0:Int),(0:Int),(0:Int)) (V.q3 s33); let s36 := x16 ++ [s30]; let s37 := List.getD x14 s28 ((0:Int),(0:Int),(0:Int),(0:Int),(0:Int),(0:Int),(0:Int)); let s38 := Prod.snd s37; let s39 := Prod.snd (Prod.snd (Prod.snd (Prod.snd (Prod.snd (Prod.snd (Prod.snd (Prod.snd (Prod.snd (Prod.snd s26))))))))); let s40 := V.tScale (V.axs x11 x12) (Prod.fst (Prod.snd (Prod.snd s39))); let s41 := V.on s40 x13; let s42 := V.tAdd ((0:Int),(0:Int),(0:Int)) (V.q3 s40); let s43 := x16 ++ [V.q3 s42]; let s44 := V.tCross s30 (V.q3 s31); let s45 := V.tCross s30 (V.q3 s33); let s46 := V.tAdd s30 (V.q3 s40); let s47 := V.on s31 s41; let s48 := V.tAdd (V.q3 s34) (V.q3 s40); let s49 := V.tCross (V.q3 s42) (V.q3 s33); let s50 := x16 ++ [V.q3 s46]; let s51 := V.tAdd (List.getD x17 s28 ((0:Int),(0:Int),(0:Int))) (V.q3 s44); let s52 := V.tCross (V.q3 s46) (V.q3 s33); let s53 := V.tAdd (V.q3 s34) (V.q3 s49); let s54 := V.tAdd (V.q3 s48) (V.q3 s35); let s55 := V.tAdd (V.q3 s51) (V.q3 s40); let s56 := V.on s34 (V.on s32 s47); let s57 := V.tSub s29 (Prod.fst s37,Prod.fst s38,Prod.fst (Prod.snd s38)); let s58 := V.tCross ((0:Int),(0:Int),(0:Int)) (V.q3 s57); let s59 := V.tAdd ((0:Int),(0:Int),(0:Int)) (V.q3 s58); let s60 := V.tCross s30 (V.q3 s57); let s61 := V.on s57 s41; let s62 := V.tAdd (V.q3 s59) (V.q3 s40); let s63 := V.tAdd (V.q3 s55) (V.q3 s45); let s64 := V.tAdd (V.q3 s51) (V.q3 s52); let s65 := V.tAdd (List.getD x17 s28 ((0:Int),(0:Int),(0:Int))) (V.q3 s60); let s66 := V.tAdd (V.q3 s59) (V.q3 s49); let s67 := V.tAdd (V.q3 s62) (V.q3 s35); let s68 := V.on s51 (V.on s44 s47); let s69 := V.tAdd (V.q3 s65) (V.q3 s40); let s70 := V.tAdd (V.q3 s65) (V.q3 s52); let s71 := V.tAdd (V.q3 s69) (V.q3 s45); let s72 := V.on s59 (V.on s58 s61); let s73 := V.on s65 (V.on s60 s61); if cLt x12 s22 = true then if V.gB (V.chC x11 = (0:Int) ∧ x14 = V.plcs x11 ∧ (0:Int) ≤ x12 ∧ x12 < s22) = true then if (0:Int) ≤ x12 ∧ x12 < s22 then if (0:Int) ≤ x12 ∧ x12 < s22 then if cLt s27 (0:Int) = true then if (0:Int) ≤ x12 ∧ x12 < s22 then if cLe (0:Int) s27 = true then if (0:Int) ≤ x12 ∧ x12 < s22 then if (0:Int) ≤ s27 ∧ s27 < (↑s20:Int) then if (0:Int) ≤ x12 ∧ x12 < s22 then if (0:Int) ≤ s27 ∧ s27 < (↑s19:Int) then if (0:Int) ≤ x12 ∧ x12 < s21 then if (0:Int) ≤ x12 ∧ x12 < s22 then if Prod.fst s39 = true then if (s20 + ((0:Nat) + (1:Nat))) * (24:Nat) ≤ (140737488355328:Nat) then if (s19 + ((0:Nat) + (1:Nat))) * (24:Nat) ≤ (140737488355328:Nat) then if (0:Int) ≤ x12 ∧ x12 < (↑(List.length x15):Int) then if (0:Int) ≤ x12 ∧ x12 < s21 then if (List.length x18 + ((0:Nat) + (1:Nat))) * (24:Nat) ≤ (140737488355328:Nat) then kn (IntKind.wrap .i64 (x12 + (1:Int))) (V.on s63 (V.on s45 (V.on s33 (V.on s55 s68)))) s36 (x17 ++ [V.q3 s55]) (x18 ++ [V.q3 s63]) else none else none else none else none else none else if (s20 + ((0:Nat) + (1:Nat))) * (24:Nat) ≤ (140737488355328:Nat) then if (s19 + ((0:Nat) + (1:Nat))) * (24:Nat) ≤ (140737488355328:Nat) then if (0:Int) ≤ x12 ∧ x12 < (↑(List.length x15):Int) then if (0:Int) ≤ x12 ∧ x12 < s21 then if (List.length x18 + ((0:Nat) + (1:Nat))) * (24:Nat) ≤ (140737488355328:Nat) then kn (IntKind.wrap .i64 (x12 + (1:Int))) (V.on s64 (V.on s52 (V.on s33 (V.on s46 s68)))) s50 (x17 ++ [V.q3 s51]) (x18 ++ [V.q3 s64]) else none else none else none else none else none else none else none else none else none else none else none else if (0:Int) ≤ x12 ∧ x12 < s21 then if (0:Int) ≤ x12 ∧ x12 < s22 then if Prod.fst s39 = true then if (s20 + (1:Nat)) * (24:Nat) ≤ (140737488355328:Nat) then if (s19 + ((0:Nat) + (1:Nat))) * (24:Nat) ≤ (140737488355328:Nat) then if (0:Int) ≤ x12 ∧ x12 < (↑(List.length x15):Int) then if (0:Int) ≤ x12 ∧ x12 < s21 then if (List.length x18 + ((0:Nat) + (1:Nat))) * (24:Nat) ≤ (140737488355328:Nat) then kn (IntKind.wrap .i64 (x12 + (1:Int))) (V.on s54 (V.on s35 (V.on s33 (V.on s48 s56)))) s23 (x17 ++ [V.q3 s48]) (x18 ++ [V.q3 s54]) else none else none else none else none else none else if (s20 + ((0:Nat) + (1:Nat))) * (24:Nat) ≤ (140737488355328:Nat) then if (s19 + ((0:Nat) + (1:Nat))) * (24:Nat) ≤ (140737488355328:Nat) then if (0:Int) ≤ x12 ∧ x12 < (↑(List.length x15):Int) then if (0:Int) ≤ x12 ∧ x12 < s21 then if (List.length x18 + ((0:Nat) + (1:Nat))) * (24:Nat) ≤ (140737488355328:Nat) then kn (IntKind.wrap .i64 (x12 + (1:Int))) (V.on s53 (V.on s49 (V.on s33 (V.on s42 s56)))) s43 (x17 ++ [V.q3 s34]) (x18 ++ [V.q3 s53]) else none else none else none else none else none else none else none else none else if (0:Int) ≤ x12 ∧ x12 < s22 then if (0:Int) ≤ s27 ∧ s27 < s21 then if (0:Int) ≤ x12 ∧ x12 < s22 then if cLe (0:Int) s27 = true then if (0:Int) ≤ x12 ∧ x12 < s22 then if (0:Int) ≤ s27 ∧ s27 < (↑s20:Int) then if (0:Int) ≤ x12 ∧ x12 < s22 then if (0:Int) ≤ s27 ∧ s27 < (↑s19:Int) then if (0:Int) ≤ x12 ∧ x12 < s21 then if (0:Int) ≤ x12 ∧ x12 < s22 then if Prod.fst s39 = true then if (s20 + ((0:Nat) + (1:Nat))) * (24:Nat) ≤ (140737488355328:Nat) then if (s19 + ((0:Nat) + (1:Nat))) * (24:Nat) ≤ (140737488355328:Nat) then if (0:Int) ≤ x12 ∧ x12 < (↑(List.length x15):Int) then if (0:Int) ≤ x12 ∧ x12 < s21 then if (List.length x18 + ((0:Nat) + (1:Nat))) * (24:Nat) ≤ (140737488355328:Nat) then kn (IntKind.wrap .i64 (x12 + (1:Int))) (V.on s71 (V.on s45 (V.on s33 (V.on s69 s73)))) s36 (x17 ++ [V.q3 s69]) (x18 ++ [V.q3 s71]) else none else none else none else none else none else if (s20 + ((0:Nat) + (1:Nat))) * (24:Nat) ≤ (140737488355328:Nat) then if (s19 + ((0:Nat) + (1:Nat))) * (24:Nat) ≤ (140737488355328:Nat) then if (0:Int) ≤ x12 ∧ x12 < (↑(List.length x15):Int) then if (0:Int) ≤ x12 ∧ x12 < s21 then if (List.length x18 + ((0:Nat) + (1:Nat))) * (24:Nat) ≤ (140737488355328:Nat) then kn (IntKind.wrap .i64 (x12 + (1:Int))) (V.on s70 (V.on s52 (V.on s33 (V.on s46 s73)))) s50 (x17 ++ [V.q3 s65]) (x18 ++ [V.q3 s70]) else none else none else none else none else none else none else none else none else none else none else none else if (0:Int) ≤ x12 ∧ x12 < s21 then if (0:Int) ≤ x12 ∧ x12 < s22 then if Prod.fst s39 = true then if (s20 + (1:Nat)) * (24:Nat) ≤ (140737488355328:Nat) then if (s19 + ((0:Nat) + (1:Nat))) * (24:Nat) ≤ (140737488355328:Nat) then if (0:Int) ≤ x12 ∧ x12 < (↑(List.length x15):Int) then if (0:Int) ≤ x12 ∧ x12 < s21 then if (List.length x18 + ((0:Nat) + (1:Nat))) * (24:Nat) ≤ (140737488355328:Nat) then kn (IntKind.wrap .i64 (x12 + (1:Int))) (V.on s67 (V.on s35 (V.on s33 (V.on s62 s72)))) s23 (x17 ++ [V.q3 s62]) (x18 ++ [V.q3 s67]) else none else none else none else none else none else if (s20 + ((0:Nat) + (1:Nat))) * (24:Nat) ≤ (140737488355328:Nat) then if (s19 + ((0:Nat) + (1:Nat))) * (24:Nat) ≤ (140737488355328:Nat) then if (0:Int) ≤ x12 ∧ x12 < (↑(List.length x15):Int) then if (0:Int) ≤ x12 ∧ x12 < s21 then if (List.length x18 + ((0:Nat) + (1:Nat))) * (24:Nat) ≤ (140737488355328:Nat) then kn (IntKind.wrap .i64 (x12 + (1:Int))) (V.on s66 (V.on s49 (V.on s33 (V.on s42 s72)))) s43 (x17 ++ [V.q3 s59]) (x18 ++ [V.q3 s66]) else none else none else none else none else none else none else none else none else none else none else none else none else none else k1 x13 x16 x18
noncomputable def M.rmotion_l0 {α:Type} (x11:List L15) (x14:List (Int × Int × Int × Int × Int × Int × Int)) (x15:L3) (k1:Bool → L3 → L3 → Option α):Nat → Int → Bool → L3 → L3 → L3 → Option α
 | 0,_,_,_,_,_ => none
 | n + 1,x12,x13,x16,x17,x18 => M.rmotion_l0_step x11 x14 x15 (M.rmotion_l0 x11 x14 x15 k1 n) k1 x12 x13 x16 x17 x18
theorem rmotion_l0_step_eq {α:Type} (x10:Value) (x11:List L15) (x12:Int) (x13:Bool) (x14:List (Int × Int × Int × Int × Int × Int × Int)) (x15 x16 x17 x18:L3) (Q:Ex → St → Option α):(loopStep E (exec E look_raxis noLps 400) 39 rmotion_P1 1 (codeAt E.P 39 rmotion_P1)) (rmotion_S1 x10 x11 x12 x13 x14 x15 x16 x17 x18) Q = M.rmotion_l0_step x11 x14 x15 (fun (x77:Int) (x78:Bool) (x79 x80 x81:L3) => Q .normal (rmotion_S1 x10 x11 x77 x78 x14 x15 x79 x80 x81)) (fun (x74:Bool) (x75 x76:L3) => Q (.exit 0) (rmotion_S2 x74 x75 x76)) x12 x13 x16 x17 x18 := by kernel_rfl
theorem rmotion_l0_iter {α:Type} (x10:Value) (x11:List L15) (x14:List (Int × Int × Int × Int × Int × Int × Int)) (x15:L3) (Q:Ex → St → Option α):∀ (n:Nat) (x12:Int) (x13:Bool) (x16 x17 x18:L3),iter (loopStep E (exec E look_raxis noLps 400) 39 rmotion_P1 1 (codeAt E.P 39 rmotion_P1)) n (rmotion_S1 x10 x11 x12 x13 x14 x15 x16 x17 x18) Q = M.rmotion_l0 x11 x14 x15 (fun (x74:Bool) (x75 x76:L3) => Q (.exit 0) (rmotion_S2 x74 x75 x76)) n x12 x13 x16 x17 x18
 | 0,_,_,_,_,_ => rfl
 | n + 1,x12,x13,x16,x17,x18 => (rmotion_l0_step_eq x10 x11 x12 x13 x14 x15 x16 x17 x18 (iterK (loopStep E (exec E look_raxis noLps 400) 39 rmotion_P1 1 (codeAt E.P 39 rmotion_P1)) n Q)).trans (congrArg (fun kn => M.rmotion_l0_step x11 x14 x15 kn (fun (x74:Bool) (x75 x76:L3) => Q (.exit 0) (rmotion_S2 x74 x75 x76)) x12 x13 x16 x17 x18) (funext fun x12 => funext fun x13 => funext fun x16 => funext fun x17 => funext fun x18 => rmotion_l0_iter x10 x11 x14 x15 Q n x12 x13 x16 x17 x18))
noncomputable def rmotion_l0_go {α:Type} (ds:List D) (Q:Ex → St → Option α):Option α :=
 dV ds fun x10 ds => dL (K.st (LK.i IntKind.i64) [LK.i IntKind.i64,LK.i IntKind.i64,LK.i IntKind.i64,LK.i IntKind.i64,LK.i IntKind.i64,LK.i IntKind.i64,LK.i IntKind.i64,LK.i IntKind.i64,LK.i IntKind.i64,LK.b,LK.i IntKind.i64,LK.i IntKind.i64,LK.i IntKind.i64,LK.i IntKind.i64]) ds fun x11 ds => dI ds fun x12 ds => dB ds fun x13 ds => dL (K.st (LK.i IntKind.i64) [LK.i IntKind.i64,LK.i IntKind.i64,LK.i IntKind.i64,LK.i IntKind.i64,LK.i IntKind.i64,LK.i IntKind.i64]) ds fun x14 ds => dL kP ds fun x15 ds => dL kP ds fun x16 ds => dL kP ds fun x17 ds => dL kP ds fun x18 ds => dE ds (M.rmotion_l0 x11 x14 x15 (fun (x74:Bool) (x75 x76:L3) => Q (.exit 0) (rmotion_S2 x74 x75 x76)) (100 + x11.length + x14.length + x15.length + x16.length + x17.length + x18.length) x12 x13 x16 x17 x18)
theorem rmotion_l0_ok {α:Type}:LoopOk E.P 39 rmotion_P1 1 (lEnt (α := α) (rmotion_S3) rmotion_l0_go) :=
 lEnt_ok E (exec_sound E E_ok (look_raxis_ok) (noLps_ok _) 400) fun ds Q r h S hS => by
   unfold rmotion_l0_go at h
   obtain ⟨x10,ds,rfl,h1⟩ := dV_inv h
   obtain ⟨x11,ds,rfl,h2⟩ := dL_inv h1
   obtain ⟨x12,ds,rfl,h3⟩ := dI_inv h2
   obtain ⟨x13,ds,rfl,h4⟩ := dB_inv h3
   obtain ⟨x14,ds,rfl,h5⟩ := dL_inv h4
   obtain ⟨x15,ds,rfl,h6⟩ := dL_inv h5
   obtain ⟨x16,ds,rfl,h7⟩ := dL_inv h6
   obtain ⟨x17,ds,rfl,h8⟩ := dL_inv h7
   obtain ⟨x18,ds,rfl,h9⟩ := dL_inv h8
   obtain ⟨rfl,hE⟩ := dE_inv h9
   have e:fillS (rmotion_S3) [.v x10,.l (K.st (LK.i IntKind.i64) [LK.i IntKind.i64,LK.i IntKind.i64,LK.i IntKind.i64,LK.i IntKind.i64,LK.i IntKind.i64,LK.i IntKind.i64,LK.i IntKind.i64,LK.i IntKind.i64,LK.i IntKind.i64,LK.b,LK.i IntKind.i64,LK.i IntKind.i64,LK.i IntKind.i64,LK.i IntKind.i64]) x11,.i x12,.b x13,.l (K.st (LK.i IntKind.i64) [LK.i IntKind.i64,LK.i IntKind.i64,LK.i IntKind.i64,LK.i IntKind.i64,LK.i IntKind.i64,LK.i IntKind.i64]) x14,.l kP x15,.l kP x16,.l kP x17,.l kP x18] = some (rmotion_S1 x10 x11 x12 x13 x14 x15 x16 x17 x18) := by kernel_rfl
   rw [e] at hS
   cases hS
   exact ⟨_,(rmotion_l0_iter x10 x11 x14 x15 Q _ x12 x13 x16 x17 x18).trans hE⟩
noncomputable def rmotion_l0_lps {α:Type}:LookL α := addLp 39 rmotion_P1 1 (lEnt (rmotion_S3) rmotion_l0_go) noLps
theorem rmotion_l0_lps_ok {α:Type}:LoopsOk E.P (rmotion_l0_lps (α := α)) := addLp_ok rmotion_l0_ok (noLps_ok _)
noncomputable def M.rmotion {α:Type} (bad:Bool) (l:List L15) (k0:Bool → L3 → L3 → Option α):Option α := if V.chC l = (0:Int) then if V.gB (V.chC l = (0:Int) ∧ V.plcs l = V.plcs l) = true then M.rmotion_l0 l (V.plcs l) (V.mdls l) (fun (x83:Bool) (x84 x85:L3) ↦ k0 x83 x84 x85) ((100:Nat) + List.length l + List.length (V.plcs l) + List.length (V.mdls l) + (0:Nat) + (0:Nat) + (0:Nat)) (0:Int) bad [] [] [] else none else none
theorem rmotion_eq {α:Type} (bad:Bool) (l:List L15) (v82:Value) (Q:SV → Hp → Option α):callI E look_raxis (exec E look_raxis rmotion_l0_lps 400) 39 ([SV.ptr (nat_lit 0) (nat_lit 0),SV.ros v82 (K.st (LK.i IntKind.i64) [LK.i IntKind.i64,LK.i IntKind.i64,LK.i IntKind.i64,LK.i IntKind.i64,LK.i IntKind.i64,LK.i IntKind.i64,LK.i IntKind.i64,LK.i IntKind.i64,LK.i IntKind.i64,LK.b,LK.i IntKind.i64,LK.i IntKind.i64,LK.i IntKind.i64,LK.i IntKind.i64]) l]) ([.cells [SV.bool bad] (nat_lit 30)]) Q = M.rmotion bad l (fun (x86:Bool) (x87 x88:L3) => Q (SV.tup [SV.sl (nat_lit 1),SV.sl (nat_lit 2)]) ([.cells [SV.bool x86] (nat_lit 30),.seq kP x87 (nat_lit 24),.seq kP x88 (nat_lit 24)])) := by kernel_rfl
def rmotion_sp:List AS := [.ptr 30 [.bool false],.ro (.st (.i .i64) [.i .i64,.i .i64,.i .i64,.i .i64,.i .i64,.i .i64,.i .i64,.i .i64,.i .i64,.b,.i .i64,.i .i64,.i .i64,.i .i64])]
theorem mvJ_sl {C:List L15} {P:List Pl} {i:Nat} (h:lSl (lnk C i) = true) (q:MvI) (f:Bool):mvJ C P i q f =
   (V.on (V.tAdd (V.q3 (mvV C P i q)) (V.q3 (mvA C P i))) (V.on (mvV C P i q) (V.on (mvX C P i q) (V.on (mvD C P i) (V.on (mvA C P i) f)))),(q.1,V.q3 (V.tAdd (V.q3 (mvV C P i q)) (V.q3 (mvA C P i))))) := by
 unfold mvJ mvE
 rw [if_pos h,if_pos h]
theorem mvJ_tn {C:List L15} {P:List Pl} {i:Nat} (h:¬ lSl (lnk C i) = true) (q:MvI) (f:Bool):mvJ C P i q f =
   (V.on (V.tAdd q.1 (V.q3 (mvA C P i))) (V.on (mvV C P i q) (V.on (mvX C P i q) (V.on (mvD C P i) (V.on (mvA C P i) f)))),(V.q3 (V.tAdd q.1 (V.q3 (mvA C P i))),V.q3 (mvV C P i q))) := by
 unfold mvJ mvE
 rw [if_neg h,if_neg h]
theorem mapsnd_get (M:List MvI) (j:Nat):(M.map Prod.snd).getD j v30 = (M.getD j mv0).2 := by
 rw [List.getD_eq_getElem?_getD,List.getD_eq_getElem?_getD,List.getElem?_map]
 cases M[j]? <;> rfl
theorem mapfst_getX (M:List MvI) (j:Nat):(M.map Prod.fst).getD j v30 = (M.getD j mv0).1 := by
 rw [List.getD_eq_getElem?_getD,List.getD_eq_getElem?_getD,List.getElem?_map]
 cases M[j]? <;> rfl
theorem dmL_len (C:List L15) (P:List Pl) (bad:Bool) (n:Nat):(dmL C P bad n).2.1.length = n ∧ (dmL C P bad n).2.2.length = n := by
 rw [dmL_eq]
 exact ⟨mvL_len C P false n,pcL_len _ _ _ n⟩
theorem axs_at (C:List L15) (i:Nat):V.axs C (i:Int) = pAx (chP C) i := by unfold V.axs; rw [hid_eq]; rfl
theorem rmotion_l0_val {α:Type} (C:List L15) (h:V.chC C = 0) (bad:Bool) (k1:Bool → List V.T3 → List V.T3 → Option α):∀ (fuel i:Nat),i ≤ C.length → C.length - i < fuel →
   M.rmotion_l0 C (V.plcs C) (V.mdls C) k1 fuel (i:Int) (dmL C (chP C) bad i).1 ((dmL C (chP C) bad i).2.1.map Prod.fst) ((dmL C (chP C) bad i).2.1.map Prod.snd) (dmL C (chP C) bad i).2.2 = k1 (dmL C (chP C) bad C.length).1 ((dmL C (chP C) bad C.length).2.1.map Prod.fst) (dmL C (chP C) bad C.length).2.2
 | 0,i,h1,h2 => by omega
 | f + 1,i,h1,h2 => by
   obtain ⟨_,e2,e3,ht⟩ := lay_zip h
   by_cases hi:i < C.length
   · have ih := rmotion_l0_val C h bad k1 f (i + 1) (by omega) (by omega)
     obtain ⟨hl1,hl2⟩ := dmL_len C (chP C) bad i
     have hp := ht i _ (lnk_get hi)
     have es:dmL C (chP C) bad (i + 1) = (pcB (chP C) i (mvJ C (chP C) i (parM (dmL C (chP C) bad i).2.1 (lnk C i).1) (dmL C (chP C) bad i).1).2 (mvJ C (chP C) i (parM (dmL C (chP C) bad i).2.1 (lnk C i).1) (dmL C (chP C) bad i).1).1,
       (dmL C (chP C) bad i).2.1 ++ [(mvJ C (chP C) i (parM (dmL C (chP C) bad i).2.1 (lnk C i).1) (dmL C (chP C) bad i).1).2],
       (dmL C (chP C) bad i).2.2 ++ [V.q3 (pcV (chP C) i (mvJ C (chP C) i (parM (dmL C (chP C) bad i).2.1 (lnk C i).1) (dmL C (chP C) bad i).1).2)]) := rfl
     rw [es] at ih
     simp only [List.map_append,List.map_cons,List.map_nil] at ih
     generalize hR:k1 (dmL C (chP C) bad C.length).1 _ _ = R at *
     generalize dmL C (chP C) bad i = D at *
     obtain ⟨fl,acc,out⟩ := D
     simp only at hl1 hl2 ih ⊢
     have b0:(0:Int) ≤ (i:Int) ∧ (i:Int) < (C.length:Int) := by omega
     have g0:List.getD C (Int.toNat (i:Int)) (0,0,0,0,0,0,0,0,0,0,false,0,0,0,0) = lnk C i := rfl
     have g1:List.getD (V.plcs C) (Int.toNat (i:Int)) (0,0,0,0,0,0,0) = pl7 ((chP C).getD i pl0) := by
       rw [plcs_eq h]; exact getD_pl7 (chP C) i (by omega)
     have g2:List.getD (V.mdls C) (Int.toNat (i:Int)) (0,0,0) = pMid (chP C) i := by
       rw [mdls_eq h]
       show ((chP C).map (fun r => r.2.2.2)).getD i (0,0,0) = ((chP C).getD i pl0).2.2.2
       simp [List.getD_eq_getElem?_getD,e2,hi]
     have lp:(V.plcs C).length = C.length := by rw [plcs_eq h,List.length_map,e2]
     have lm:(V.mdls C).length = C.length := by rw [mdls_eq h,List.length_map,e2]
     have a1:(acc.map Prod.fst).length = i := by rw [List.length_map,hl1]
     have a2:(acc.map Prod.snd).length = i := by rw [List.length_map,hl1]
     have sz:(i + (0 + 1)) * 24 ≤ 140737488355328 := by omega
     have sz1:(i + 1) * 24 ≤ 140737488355328 := by omega
     unfold M.rmotion_l0 M.rmotion_l0_step
     try simp only
     rw [cLt_nat,if_pos (by simpa using hi),if_pos (by first | exact gB_of ⟨h,trivial,b0.1,b0.2⟩ | exact gB_of ⟨h,rfl,b0.1,b0.2⟩),if_pos b0,if_pos b0,g0,g1,g2,axs_at,w_next (by omega),a1,a2,hl2,lp,lm,cLt_eq,cLe_eq]
     by_cases h0:(lnk C i).1 < 0
     · rw [show parM acc (lnk C i).1 = mv0 from if_pos h0] at ih
       rw [if_pos (decide_eq_true h0),if_pos b0,if_neg (by rw [decide_eq_false (by omega)]; decide),if_pos b0,if_pos b0]
       have ed:mvD C (chP C) i = V.tSub (pAt (chP C) i) (0,0,0) := by
         unfold mvD; rw [show parP (chP C) (lnk C i).1 = (0,0,0) from if_pos h0]
       by_cases hs:lSl (lnk C i) = true
       · rw [mvJ_sl hs] at ih
         unfold mvV mvX at ih
         rw [ed] at ih
         rw [if_pos (show (lnk C i).2.2.2.2.2.2.2.2.2.2.1 = true from hs),if_pos sz1,if_pos sz,if_pos b0,if_pos b0,if_pos sz]
         exact ih
       · rw [mvJ_tn hs] at ih
         unfold mvV mvX at ih
         rw [ed] at ih
         rw [if_neg (show ¬ (lnk C i).2.2.2.2.2.2.2.2.2.2.1 = true from hs),if_pos sz,if_pos sz,if_pos b0,if_pos b0,if_pos sz]
         exact ih
     · have hq0 : (lnk C i).1.toNat < i := by omega
       have bq:(0:Int) ≤ (lnk C i).1 ∧ (lnk C i).1 < (i:Int) := by omega
       have bn:(0:Int) ≤ (lnk C i).1 ∧ (lnk C i).1 < (C.length:Int) := by omega
       rw [show parM acc (lnk C i).1 = acc.getD (lnk C i).1.toNat mv0 from if_neg h0] at ih
       have k1':List.getD (acc.map Prod.fst) (Int.toNat (lnk C i).1) (0,0,0) = (acc.getD (lnk C i).1.toNat mv0).1 := mapfst_getX acc _
       have k2':List.getD (acc.map Prod.snd) (Int.toNat (lnk C i).1) (0,0,0) = (acc.getD (lnk C i).1.toNat mv0).2 := mapsnd_get acc _
       have k3':List.getD (V.plcs C) (Int.toNat (lnk C i).1) (0,0,0,0,0,0,0) = pl7 ((chP C).getD (lnk C i).1.toNat pl0) := by
         rw [plcs_eq h]; exact getD_pl7 (chP C) _ (by omega)
       rw [if_neg (by rw [decide_eq_false h0]; decide),if_pos b0,if_pos bn,if_pos b0,if_pos (decide_eq_true (by omega)),if_pos b0,if_pos bq,if_pos b0,if_pos bq,if_pos b0,if_pos b0,k1',k2',k3']
       have ed:mvD C (chP C) i = V.tSub (pAt (chP C) i) ((chP C).getD (lnk C i).1.toNat pl0).1 := by
         unfold mvD; rw [show parP (chP C) (lnk C i).1 = ((chP C).getD (lnk C i).1.toNat pl0).1 from if_neg h0]
       by_cases hs:lSl (lnk C i) = true
       · rw [mvJ_sl hs] at ih
         unfold mvV mvX at ih
         rw [ed] at ih
         rw [if_pos (show (lnk C i).2.2.2.2.2.2.2.2.2.2.1 = true from hs),if_pos sz,if_pos sz,if_pos b0,if_pos b0,if_pos sz]
         exact ih
       · rw [mvJ_tn hs] at ih
         unfold mvV mvX at ih
         rw [ed] at ih
         rw [if_neg (show ¬ (lnk C i).2.2.2.2.2.2.2.2.2.2.1 = true from hs),if_pos sz,if_pos sz,if_pos b0,if_pos b0,if_pos sz]
         exact ih
   · have : i = C.length := by omega
     subst this
     unfold M.rmotion_l0 M.rmotion_l0_step
     try simp only
     rw [cLt_nat,if_neg (by simp)]
noncomputable def _root_.Go.Proofs.YtajomehkgaamoaaGreat.V.rmB (l:List (Int × Int × Int × Int × Int × Int × Int × Int × Int × Int × Bool × Int × Int × Int × Int)) (bad:Bool):Bool := hid (bad || (pcR l).1)
noncomputable def _root_.Go.Proofs.YtajomehkgaamoaaGreat.V.rmS (l:List (Int × Int × Int × Int × Int × Int × Int × Int × Int × Int × Bool × Int × Int × Int × Int)):List (Int × Int × Int) := hid ((mvR l).2.map Prod.fst)
noncomputable def _root_.Go.Proofs.YtajomehkgaamoaaGreat.V.rmV (l:List (Int × Int × Int × Int × Int × Int × Int × Int × Int × Int × Bool × Int × Int × Int × Int)):List (Int × Int × Int) := hid (pcR l).2
theorem rmotion_v {α:Type} (bad:Bool) (l:List L15) (h:V.chC l = 0) (k0:Bool → List V.T3 → List V.T3 → Option α):M.rmotion bad l k0 = k0 (V.rmB l bad) (V.rmS l) (V.rmV l) := by
 unfold M.rmotion V.rmB V.rmS V.rmV
 rw [hid_eq,hid_eq,hid_eq,if_pos h,if_pos (gB_of ⟨h,rfl⟩)]
 refine Eq.trans (rmotion_l0_val l h bad (fun x83 x84 x85 => k0 x83 x84 x85) (100 + l.length + (V.plcs l).length + (V.mdls l).length + 0 + 0 + 0) 0 (by omega) (by omega)) ?_
 rw [dmL_end]
noncomputable def rmotion_h {α:Type} (ds:List D) (Q:SV → Hp → Option α):Option α :=
 dB ds fun bad ds => dL (K.st (LK.i IntKind.i64) [LK.i IntKind.i64,LK.i IntKind.i64,LK.i IntKind.i64,LK.i IntKind.i64,LK.i IntKind.i64,LK.i IntKind.i64,LK.i IntKind.i64,LK.i IntKind.i64,LK.i IntKind.i64,LK.b,LK.i IntKind.i64,LK.i IntKind.i64,LK.i IntKind.i64,LK.i IntKind.i64]) ds fun l ds => dE ds (if V.chC l = 0 then Q (.tup [.sl 1,.sl 2]) ([.cells [.bool (V.rmB l bad)] 30,.seq kP (V.rmS l) 24,.seq kP (V.rmV l) 24]) else none)
theorem rmotion_h_ok {α:Type}:FnOk E.P 39 (fEnt (α := α) rmotion_sp rmotion_h) :=
 fEntR_ok E (look_raxis_ok) (exec_sound E E_ok (look_raxis_ok) (rmotion_l0_lps_ok) 400) fun ds Q r h => by
   unfold rmotion_h at h
   obtain ⟨bad,ds,rfl,h1⟩ := dB_inv h
   obtain ⟨l,ds,rfl,h2⟩ := dL_inv h1
   obtain ⟨rfl,hE⟩ := dE_inv h2
   split at hE
   · rename_i hg
     exact ⟨_,_,hE,fun vs => ⟨_,_,by kernel_rfl,(rmotion_eq bad l (vs.tail.headD undef) _).trans (rmotion_v bad l hg _)⟩⟩
   · cases hE
noncomputable def look_rmotion {α:Type}:LookF α := addFn 39 (fEnt rmotion_sp rmotion_h) look_raxis
theorem look_rmotion_ok {α:Type}:LookOk E.P (look_rmotion (α := α)) := addFn_ok rmotion_h_ok (look_raxis_ok)
end
end Go.Proofs.YtajomehkgaamoaaGreat.Sx
