/- What the functions of this seat that lie on the laws' road compute (part LX), each for every input. By AI agents. -/
import Derived.Test.YtmodfifkcbpibaaGreatProg
import Derived.KernelRfl
import Derived.Test.YtmodfifkcbpibaaGreatAbFun
import Derived.Test.YtmodfifkcbpibaaGreatLE
set_option linter.all false
set_option linter.all false
set_option maxRecDepth 20000
set_option maxHeartbeats 2000000
namespace Go.Ab
open Go.Proofs
structure GA37 where
 e0 : GDirectory
 e1 : GDirectory
instance : Inhabited GA37 := ⟨⟨default, default⟩⟩
def GA37.v (x : GA37) : V := .agg [.sl (x.e0.Kinds.map (V.int .i64)), .sl (x.e0.Events.map GMember.v), .sl (x.e1.Kinds.map (V.int .i64)), .sl (x.e1.Events.map GMember.v)]
structure GA38 where
 e0 : GEstate
 e1 : GEstate
instance : Inhabited GA38 := ⟨⟨default, default⟩⟩
def GA38.v (x : GA38) : V := .agg [.int .i64 x.e0.Places, .sl (x.e0.Events.map GAccess.v), .int .i64 x.e1.Places, .sl (x.e1.Events.map GAccess.v)]
structure GA39 where
 e0 : Int
 e1 : Int
 e2 : Int
instance : Inhabited GA39 := ⟨⟨default, default, default⟩⟩
def GA39.v (x : GA39) : V := .agg [.int .i64 x.e0, .int .i64 x.e1, .int .i64 x.e2]
structure GA42 where
 e0 : GA39
 e1 : GA39
 e2 : GA39
instance : Inhabited GA42 := ⟨⟨default, default, default⟩⟩
def GA42.v (x : GA42) : V := .agg [.int .i64 x.e0.e0, .int .i64 x.e0.e1, .int .i64 x.e0.e2, .int .i64 x.e1.e0, .int .i64 x.e1.e1, .int .i64 x.e1.e2, .int .i64 x.e2.e0, .int .i64 x.e2.e1, .int .i64 x.e2.e2]
structure GA53 where
 e0 : GReading
 e1 : GReading
 e2 : GReading
instance : Inhabited GA53 := ⟨⟨default, default, default⟩⟩
def GA53.v (x : GA53) : V := .agg [.int .i64 x.e0.Place, .int .i64 x.e0.Time, .int .i64 x.e0.Link, .int .i64 x.e0.Grant, .sl (x.e0.Chain.map (V.int .i64)), .int .i64 x.e1.Place, .int .i64 x.e1.Time, .int .i64 x.e1.Link, .int .i64 x.e1.Grant, .sl (x.e1.Chain.map (V.int .i64)), .int .i64 x.e2.Place, .int .i64 x.e2.Time, .int .i64 x.e2.Link, .int .i64 x.e2.Grant, .sl (x.e2.Chain.map (V.int .i64))]
structure GA56 where
 e0 : List Int
 e1 : List Int
 e2 : List Int
instance : Inhabited GA56 := ⟨⟨default, default, default⟩⟩
def GA56.v (x : GA56) : V := .agg [.sl (x.e0.map (V.int .i64)), .sl (x.e1.map (V.int .i64)), .sl (x.e2.map (V.int .i64))]
theorem inb_0_2 : inb 0 2 = true := inb_iff.2 (by decide)
attribute [go_sem] inb_0_2
theorem inb_0_3 : inb 0 3 = true := inb_iff.2 (by decide)
attribute [go_sem] inb_0_3
theorem inb_1_3 : inb 1 3 = true := inb_iff.2 (by decide)
attribute [go_sem] inb_1_3
theorem inb_2_3 : inb 2 3 = true := inb_iff.2 (by decide)
attribute [go_sem] inb_2_3
attribute [go_sem] GA37.v GA38.v GA39.v GA42.v GA53.v GA56.v
noncomputable def F_3f (a124506 : GDirectory) (a157844 : GEstate) (a162010 : GA39) (k162524 : Int) (a162525 : GReading) (x162523 : Unit) : Option (Fl Unit Bool) :=
 (F_1d a124506 a157844 a162010.e0 a162525).bind fun y162540 => (F_b a124506 a157844 a162010.e0 a162525).bind fun y162541 => bif (!(y162540 == y162541)) then some (.ex false) else some (.nx ())
noncomputable def F_3g (a124506 : GDirectory) (a157844 : GEstate) (a162010 : GA39) (k162567 : Int) (a162568 : List Int) (x162566 : Unit) : Option (Fl Unit Bool) :=
 (F_1e a124506 a157844 a162010.e0 a162010.e1 a162010.e2 a162568).bind fun y162583 => (F_12 a124506 a157844 a162010.e0 a162010.e1 a162010.e2 a162568).bind fun y162584 => bif (!(y162583 == y162584)) then some (.ex false) else some (.nx ())
noncomputable def F_2v (r_ : GReading) (set_ : List Int) (a124506 : GDirectory) (a157844 : GEstate) (k162009 : Int) (a162010 : GA39) (x162008 : GTape) : Option (Fl GTape Bool) :=
 (F_q a124506 a157844 a162010.e0 a162010.e1 a162010.e2).bind fun y162420 => (F_n a124506 a157844 a162010.e1 a162010.e2).bind fun y162422 => (F_u a124506 a157844 a162010.e1 a162010.e2).bind fun y162424 => (F_i a124506 a157844 a162010.e0 a162010.e1 a162010.e2).bind fun y162426 => jn (α := Fl Unit Bool) ((F_9 a124506 a157844 a162010.e0 a162010.e1 a162010.e2).bind fun y162443 => grp (((!(y162443 == y162420)) || (!decide (y162422.2 = y162424.2)))) fun b162444 => bif b162444 then grp (true) fun b162445 => bif b162445 then some (.ex false) else some (.nx ()) else (F_1z y162422.1 y162424.1).bind fun y162446 => grp (((!y162446) || (!(y162426.2 == y162420)))) fun b162447 => bif b162447 then some (.ex false) else some (.nx ())) fun o => o.elim (fun j162437 => jn (α := Bool) (bif y162426.2 then bif (!decide (y162426.1.Place = a162010.e1)) then some true else bif (!decide (y162426.1.Time = a162010.e2)) then some true else (F_b a124506 a157844 a162010.e0 y162426.1).bind fun y162458 => some (!y162458) else some false) fun j162459 => grp ((j162459 || ((!y162426.2) && (((((!decide (y162426.1.Place = 0)) || (!decide (y162426.1.Time = 0))) || (!decide (y162426.1.Link = 0))) || (!decide (y162426.1.Grant = 0))) || decide (0 < (y162426.1.Chain.length : Int)))))) fun b162460 => bif b162460 then some (.ex false) else jn (α := GReading × GTape) ((F_0 x162008 4).bind fun y162469 => bif decide (y162469.1 = 0) then (F_0 y162469.2 32).bind fun y162470 => some ((GReading.mk y162426.1.Place y162470.1 y162426.1.Link y162426.1.Grant y162426.1.Chain), y162470.2) else bif decide (y162469.1 = 1) then (F_e y162469.2 (-1) 12).bind fun y162471 => some ((GReading.mk y162426.1.Place y162426.1.Time y162471.1 y162426.1.Grant y162426.1.Chain), y162471.2) else bif decide (y162469.1 = 2) then (F_e y162469.2 (-1) 12).bind fun y162472 => some ((GReading.mk y162426.1.Place y162426.1.Time y162426.1.Link y162472.1 y162426.1.Chain), y162472.2) else chk (room y162426.1.Chain.length 8) ((F_0 y162469.2 7).bind fun y162473 => chk (room (y162426.1.Chain.length + [y162473.1].length) 8) (some ((GReading.mk y162426.1.Place y162426.1.Time y162426.1.Link y162426.1.Grant (y162426.1.Chain ++ [y162473.1])), y162473.2)))) fun j162467 => (forL (F_3f a124506 a157844 a162010) [r_, y162426.1, j162467.1] 0 ()).bind fun o => o.elim (fun x162542 => (F_22 j162467.2 7 2).bind fun y162546 => (F_k a124506 a162010.e0 a162010.e2).bind fun y162547 => (forL (F_3g a124506 a157844 a162010) [set_, y162546.1, y162547] 0 ()).bind fun o => o.elim (fun x162585 => some (.nx y162546.2)) (fun r162586 => some (.ex r162586))) (fun r162543 => some (.ex r162543))) (fun r162587 => some (.ex r162587))
noncomputable def F_3h (r_ : GReading) (p_ : Int) (place_ : Int) (t_ : Int) (set_ : List Int) (a124506 : GDirectory) (k157843 : Int) (a157844 : GEstate) (x157842 : GTape) : Option (Fl GTape Bool) :=
 (F_0 x157842 7).bind fun y161181 => (F_0 y161181.2 4).bind fun y161182 => (F_0 y161182.2 32).bind fun y161183 => (F_e y161183.2 (-1) 7).bind fun y161184 => (F_e y161184.2 (-1) 4).bind fun y161185 => (F_0 y161185.2 32).bind fun y161186 => (forL (F_2v r_ set_ a124506 a157844) [(GA39.mk p_ place_ t_), (GA39.mk y161181.1 y161182.1 y161183.1), (GA39.mk y161184.1 y161185.1 y161186.1)] 0 y161186.2).bind fun o => o.elim (fun x162588 => some (.nx x162588)) (fun r162589 => some (.ex r162589))
noncomputable def F_3i (b_ : GEstate) (r_ : GReading) (p_ : Int) (place_ : Int) (t_ : Int) (set_ : List Int) (y28 : GEstate × GTape) (k124505 : Int) (a124506 : GDirectory) (x124504 : GTape) : Option (Fl GTape Bool) :=
 (forL (F_3h r_ p_ place_ t_ set_ a124506) [y28.1, b_] 0 x124504).bind fun o => o.elim (fun x162590 => some (.nx x162590)) (fun r162591 => some (.ex r162591))
noncomputable def F_2a (l_ : List Int) (raw_ : GDirectory) (b_ : GEstate) (r_ : GReading) (p_ : Int) (place_ : Int) (t_ : Int) (set_ : List Int) : Option Bool :=
 grp ((decide (400 < (l_.length : Int)) || decide (30 < (raw_.Kinds.length : Int)))) fun b18 => grp ((b18 || decide (30 < (raw_.Events.length : Int)))) fun b19 => grp ((b19 || decide (30 < (b_.Events.length : Int)))) fun b20 => grp ((b20 || decide (12 < (r_.Chain.length : Int)))) fun b21 => grp ((b21 || decide (30 < (set_.length : Int)))) fun b22 => bif b22 then F_1a.bind fun y24 => some y24 else (F_1o (GTape.mk l_ 0)).bind fun y26 => (F_1p y26.2 y26.1).bind fun y28 => (forL (F_3i b_ r_ p_ place_ t_ set_ y28) [y26.1, raw_] 0 y28.2).bind fun o => o.elim (fun x162592 => F_1a.bind fun y162595 => some y162595) (fun r162593 => some r162593)
@[irreducible] def mg_68 : List MOp := [⟨.fad 0 (.t 9), (some 42), (some (41, false))⟩,
 ⟨.ld none (.t 42), (some 43), (some (41, false))⟩,
 ⟨.len false (.t 43), (some 44), (some (41, false))⟩,
 ⟨.bin false .gtr (.t 44) (.c (.int .i64 30)), (some 45), (some (41, false))⟩,
 mo (.pick (.t 41) (.c (.bool true)) (.t 45)) 46]
@[irreducible] def mg_69 : List MOp := [⟨.fad 1 (.t 9), (some 48), (some (47, false))⟩,
 ⟨.ld none (.t 48), (some 49), (some (47, false))⟩,
 ⟨.len false (.t 49), (some 50), (some (47, false))⟩,
 ⟨.bin false .gtr (.t 50) (.c (.int .i64 30)), (some 51), (some (47, false))⟩,
 mo (.pick (.t 47) (.c (.bool true)) (.t 51)) 52]
@[irreducible] def mg_6a : List MOp := [⟨.fad 1 (.t 10), (some 54), (some (53, false))⟩,
 ⟨.ld none (.t 54), (some 55), (some (53, false))⟩,
 ⟨.len false (.t 55), (some 56), (some (53, false))⟩,
 ⟨.bin false .gtr (.t 56) (.c (.int .i64 30)), (some 57), (some (53, false))⟩,
 mo (.pick (.t 53) (.c (.bool true)) (.t 57)) 58]
@[irreducible] def mg_6b : List MOp := [⟨.fad 4 (.t 11), (some 60), (some (59, false))⟩,
 ⟨.ld none (.t 60), (some 61), (some (59, false))⟩,
 ⟨.len false (.t 61), (some 62), (some (59, false))⟩,
 ⟨.bin false .gtr (.t 62) (.c (.int .i64 12)), (some 63), (some (59, false))⟩,
 mo (.pick (.t 59) (.c (.bool true)) (.t 63)) 64]
@[irreducible] def mg_6c : List MOp := [⟨.mv (.t 7), (some 66), (some (65, false))⟩,
 ⟨.len false (.t 66), (some 67), (some (65, false))⟩,
 ⟨.bin false .gtr (.t 67) (.c (.int .i64 30)), (some 68), (some (65, false))⟩,
 mo (.pick (.t 65) (.c (.bool true)) (.t 68)) 69]
@[irreducible] def mg_6d : List MOp := [⟨.mv (.t 28), (some 166), (some (165, false))⟩,
 ⟨.mv (.t 30), (some 167), (some (165, false))⟩,
 ⟨.bin false .neq (.t 166) (.t 167), (some 168), (some (165, false))⟩,
 mo (.pick (.t 165) (.c (.bool true)) (.t 168)) 169]
@[irreducible] def mg_3r : List MOp := [⟨.mv (.t 32), (some 177), (some (176, false))⟩,
 ⟨.mv (.t 26), (some 178), (some (176, false))⟩,
 ⟨.beq true (.t 177) (.t 178), (some 179), (some (176, false))⟩,
 mo (.pick (.t 176) (.c (.bool true)) (.t 179)) 180]
@[irreducible] def mg_6e : List MOp := [⟨.fad 0 (.t 31), (some 183), (some (182, true))⟩,
 ⟨.ld none (.t 183), (some 184), (some (182, true))⟩,
 ⟨.aad 1 3 (.t 25) (.c (.int .i64 1)), (some 185), (some (182, true))⟩,
 ⟨.ld none (.t 185), (some 186), (some (182, true))⟩,
 ⟨.bin false .neq (.t 184) (.t 186), (some 187), (some (182, true))⟩,
 ⟨.mv (.t 187), (some 188), (some (182, true))⟩,
 ⟨.fad 1 (.t 31), (some 189), (some (188, false))⟩,
 ⟨.ld none (.t 189), (some 190), (some (188, false))⟩,
 ⟨.aad 1 3 (.t 25) (.c (.int .i64 2)), (some 191), (some (188, false))⟩,
 ⟨.ld none (.t 191), (some 192), (some (188, false))⟩,
 ⟨.bin false .neq (.t 190) (.t 192), (some 193), (some (188, false))⟩,
 ⟨.pick (.t 188) (.c (.bool true)) (.t 193), (some 194), (some (182, true))⟩,
 ⟨.mv (.t 194), (some 195), (some (182, true))⟩,
 ⟨.ld (some 2) (.t 21), (some 196), (some (195, false))⟩,
 ⟨.ld (some 2) (.t 23), (some 197), (some (195, false))⟩,
 ⟨.aad 1 3 (.t 25) (.c (.int .i64 0)), (some 198), (some (195, false))⟩,
 ⟨.ld none (.t 198), (some 199), (some (195, false))⟩,
 ⟨.ld (some 5) (.t 31), (some 200), (some (195, false))⟩,
 ⟨.call (.f 16) [(.t 196),(.t 197),(.t 199),(.t 200)] [] [], (some 201), (some (195, false))⟩,
 ⟨.not (.t 201), (some 202), (some (195, false))⟩,
 ⟨.pick (.t 195) (.c (.bool true)) (.t 202), (some 203), (some (182, true))⟩,
 mo (.pick (.t 182) (.t 203) (.c (.bool false))) 204]
@[irreducible] def mg_6f : List MOp := [⟨.mv (.t 32), (some 206), (some (205, false))⟩,
 ⟨.not (.t 206), (some 207), (some (205, false))⟩,
 ⟨.mv (.t 207), (some 208), (some (205, false))⟩,
 ⟨.fad 0 (.t 31), (some 209), (some (208, true))⟩,
 ⟨.ld none (.t 209), (some 210), (some (208, true))⟩,
 ⟨.bin false .neq (.t 210) (.c (.int .i64 0)), (some 211), (some (208, true))⟩,
 ⟨.mv (.t 211), (some 212), (some (208, true))⟩,
 ⟨.fad 1 (.t 31), (some 213), (some (212, false))⟩,
 ⟨.ld none (.t 213), (some 214), (some (212, false))⟩,
 ⟨.bin false .neq (.t 214) (.c (.int .i64 0)), (some 215), (some (212, false))⟩,
 ⟨.pick (.t 212) (.c (.bool true)) (.t 215), (some 216), (some (208, true))⟩,
 ⟨.mv (.t 216), (some 217), (some (208, true))⟩,
 ⟨.fad 2 (.t 31), (some 218), (some (217, false))⟩,
 ⟨.ld none (.t 218), (some 219), (some (217, false))⟩,
 ⟨.bin false .neq (.t 219) (.c (.int .i64 0)), (some 220), (some (217, false))⟩,
 ⟨.pick (.t 217) (.c (.bool true)) (.t 220), (some 221), (some (208, true))⟩,
 ⟨.mv (.t 221), (some 222), (some (208, true))⟩,
 ⟨.fad 3 (.t 31), (some 223), (some (222, false))⟩,
 ⟨.ld none (.t 223), (some 224), (some (222, false))⟩,
 ⟨.bin false .neq (.t 224) (.c (.int .i64 0)), (some 225), (some (222, false))⟩,
 ⟨.pick (.t 222) (.c (.bool true)) (.t 225), (some 226), (some (208, true))⟩,
 ⟨.mv (.t 226), (some 227), (some (208, true))⟩,
 ⟨.fad 4 (.t 31), (some 228), (some (227, false))⟩,
 ⟨.ld none (.t 228), (some 229), (some (227, false))⟩,
 ⟨.len false (.t 229), (some 230), (some (227, false))⟩,
 ⟨.bin false .gtr (.t 230) (.c (.int .i64 0)), (some 231), (some (227, false))⟩,
 ⟨.pick (.t 227) (.c (.bool true)) (.t 231), (some 232), (some (208, true))⟩,
 ⟨.pick (.t 208) (.t 232) (.c (.bool false)), (some 233), (some (205, false))⟩,
 mo (.pick (.t 205) (.c (.bool true)) (.t 233)) 234]
@[irreducible] def mc_3f : MC :=
 (.seq (.reg [mo (.bin false .lss (.t 265) (.c (.int .i64 3))) 266])
 (.seq (.cond (.t 266)
 .skip
 (.exit 7))
 (.seq (.block 8
 (.seq (.reg [mo (.aix (some 5) 5 3 (.t 264) (.t 265)) 267,
 mo (.alloc [(.int .i64 0),(.int .i64 0),(.int .i64 0),(.int .i64 0),(.sl [])]) 35,
 ⟨.st 5 (.t 35) (.t 267), none, none⟩])
 (.seq (.regD [mo (.ld (some 2) (.t 21)) 268,
 mo (.ld (some 2) (.t 23)) 269,
 mo (.aad 1 3 (.t 25) (.c (.int .i64 0))) 270,
 mo (.ld none (.t 270)) 271,
 mo (.ld (some 5) (.t 35)) 272,
 mo (.call (.f 17) [(.t 268),(.t 269),(.t 271),(.t 272)] [] []) 273,
 mo (.ld (some 2) (.t 21)) 274,
 mo (.ld (some 2) (.t 23)) 275,
 mo (.aad 1 3 (.t 25) (.c (.int .i64 0))) 276,
 mo (.ld none (.t 276)) 277,
 mo (.ld (some 5) (.t 35)) 278,
 mo (.call (.f 16) [(.t 274),(.t 275),(.t 277),(.t 278)] [] []) 279,
 mo (.beq true (.t 273) (.t 279)) 280]
 [[],[],[],[2],[],[0,1,3,4],[],[],[],[8],[],[6,7,9,10,5],[5,11]]
 [[],[],[],[2],[],[0,1,2,3,4],[],[],[],[8],[],[0,1,2,3,4,5,6,7,8,9,10],[0,1,2,3,4,5,6,7,8,9,10,11]])
 (.cond (.t 280)
 (.seq (.reg [mo (.mv (.c (.bool false))) 16])
 .ret)
 .skip))))
 (.reg [mo (.bin true .add (.t 265) (.c (.int .i64 1))) 281,
 mo (.mv (.t 281)) 265]))))
@[irreducible] def mc_3g : MC :=
 (.seq (.reg [mo (.bin false .lss (.t 292) (.c (.int .i64 3))) 293])
 (.seq (.cond (.t 293)
 .skip
 (.exit 9))
 (.seq (.block 10
 (.seq (.reg [mo (.aix none 1 3 (.t 291) (.t 292)) 294,
 mo (.mv (.t 294)) 37])
 (.seq (.regD [mo (.ld (some 2) (.t 21)) 295,
 mo (.ld (some 2) (.t 23)) 296,
 mo (.aad 1 3 (.t 25) (.c (.int .i64 0))) 297,
 mo (.ld none (.t 297)) 298,
 mo (.aad 1 3 (.t 25) (.c (.int .i64 1))) 299,
 mo (.ld none (.t 299)) 300,
 mo (.aad 1 3 (.t 25) (.c (.int .i64 2))) 301,
 mo (.ld none (.t 301)) 302,
 mo (.mv (.t 37)) 303,
 mo (.call (.f 20) [(.t 295),(.t 296),(.t 298),(.t 300),(.t 302),(.t 303)] [] []) 304,
 mo (.ld (some 2) (.t 21)) 305,
 mo (.ld (some 2) (.t 23)) 306,
 mo (.aad 1 3 (.t 25) (.c (.int .i64 0))) 307,
 mo (.ld none (.t 307)) 308,
 mo (.aad 1 3 (.t 25) (.c (.int .i64 1))) 309,
 mo (.ld none (.t 309)) 310,
 mo (.aad 1 3 (.t 25) (.c (.int .i64 2))) 311,
 mo (.ld none (.t 311)) 312,
 mo (.mv (.t 37)) 313,
 mo (.call (.f 21) [(.t 305),(.t 306),(.t 308),(.t 310),(.t 312),(.t 313)] [] []) 314,
 mo (.beq true (.t 304) (.t 314)) 315]
 [[],[],[],[2],[],[4],[],[6],[],[0,1,3,5,7,8],[],[],[],[12],[],[14],[],[16],[],[10,11,13,15,17,18,9],[9,19]]
 [[],[],[],[2],[],[4],[],[6],[],[0,1,2,3,4,5,6,7,8],[],[],[],[12],[],[14],[],[16],[],[0,1,2,3,4,5,6,7,8,9,10,11,12,13,14,15,16,17,18],[0,1,2,3,4,5,6,7,8,9,10,11,12,13,14,15,16,17,18,19]])
 (.cond (.t 315)
 (.seq (.reg [mo (.mv (.c (.bool false))) 16])
 .ret)
 .skip))))
 (.reg [mo (.bin true .add (.t 292) (.c (.int .i64 1))) 316,
 mo (.mv (.t 316)) 292]))))
@[irreducible] def mc_6g : MC :=
 (.seq (.seq (.reg [mo (.ld (some 5) (.t 11)) 261,
 mo (.ld (some 5) (.t 31)) 262,
 mo (.ld (some 5) (.t 33)) 263,
 mo (.barr 5 [(.int .i64 0),(.int .i64 0),(.int .i64 0),(.int .i64 0),(.sl []),(.int .i64 0),(.int .i64 0),(.int .i64 0),(.int .i64 0),(.sl []),(.int .i64 0),(.int .i64 0),(.int .i64 0),(.int .i64 0),(.sl [])] [(.t 261),(.t 262),(.t 263)]) 264,
 mo (.mv (.c (.int .i64 0))) 265])
 (.block 7
 (.loop mc_3f)))
 (.seq (.regD [mo (.mv (.t 7)) 282,
 mo (.mv (.t 17)) 283,
 mo (.call (.f 18) [(.t 283),(.c (.int .i64 7)),(.c (.int .i64 2))] [73] []) 284,
 mo (.ld (some 2) (.t 21)) 285,
 mo (.aad 1 3 (.t 25) (.c (.int .i64 0))) 286,
 mo (.ld none (.t 286)) 287,
 mo (.aad 1 3 (.t 25) (.c (.int .i64 2))) 288,
 mo (.ld none (.t 288)) 289,
 mo (.call (.f 19) [(.t 285),(.t 287),(.t 289)] [] []) 290,
 mo (.barr 1 [(.sl []),(.sl []),(.sl [])] [(.t 282),(.t 284),(.t 290)]) 291,
 mo (.mv (.c (.int .i64 0))) 292]
 [[],[],[1],[],[],[4],[],[6],[3,5,7,2],[0,2,8],[]]
 [[],[],[1],[],[],[4],[],[6],[1,2,3,4,5,6,7],[0,1,2,3,4,5,6,7,8],[]])
 (.block 9
 (.loop mc_3g))))
@[irreducible] def mc_6h : MC :=
 (.seq (.seq (.regI [.op (mo (.mv (.t 32)) 181),
 .op (mo (.mv (.t 181)) 182),
 .grp mg_6e,
 .op (mo (.mv (.t 204)) 205),
 .grp mg_6f])
 (.cond (.t 234)
 (.seq (.reg [mo (.mv (.c (.bool false))) 16])
 .ret)
 .skip))
 (.seq (.reg [mo (.ld (some 5) (.t 31)) 235,
 mo (.alloc [(.int .i64 0),(.int .i64 0),(.int .i64 0),(.int .i64 0),(.sl [])]) 33,
 ⟨.st 5 (.t 33) (.t 235), none, none⟩])
 (.cut (.seq (.reg [mo (.mv (.t 17)) 236,
 mo (.call (.f 8) [(.t 236),(.c (.int .i64 4))] [73] []) 237])
 (.block 6
 (.seq (.reg [mo (.bin false .eql (.t 237) (.c (.int .i64 0))) 247,
 mo (.mv (.t 247)) 246])
 (.cond (.t 246)
 (.note (.gc [4,5,6,7,10,11,17,19,21,23,25,31,33,81,82,87,88,109,110,166,167,168,171,172,173,174,177,178,179,183,184,185,186,187,188,189,190,191,192,193,194,195,196,197,198,199,200,201,202,203,206,207,208,209,210,211,212,213,214,215,216,217,218,219,220,221,222,223,224,225,226,227,228,229,230,231,232,233]) (.reg [mo (.mv (.t 17)) 248,
 mo (.call (.f 8) [(.t 248),(.c (.int .i64 32))] [73] []) 249,
 mo (.fad 1 (.t 33)) 250,
 ⟨.st 1 (.t 250) (.t 249), none, none⟩]))
 (.seq (.reg [mo (.bin false .eql (.t 237) (.c (.int .i64 1))) 252,
 mo (.mv (.t 252)) 251])
 (.cond (.t 251)
 (.note (.gc [4,5,6,7,10,11,17,19,21,23,25,31,33,81,82,87,88,109,110,166,167,168,171,172,173,174,177,178,179,183,184,185,186,187,188,189,190,191,192,193,194,195,196,197,198,199,200,201,202,203,206,207,208,209,210,211,212,213,214,215,216,217,218,219,220,221,222,223,224,225,226,227,228,229,230,231,232,233]) (.reg [mo (.mv (.t 17)) 253,
 mo (.call (.f 9) [(.t 253),(.c (.int .i64 (-1))),(.c (.int .i64 12))] [73] []) 254,
 mo (.fad 2 (.t 33)) 255,
 ⟨.st 1 (.t 255) (.t 254), none, none⟩]))
 (.seq (.reg [mo (.bin false .eql (.t 237) (.c (.int .i64 2))) 257,
 mo (.mv (.t 257)) 256])
 (.cond (.t 256)
 (.note (.gc [4,5,6,7,10,11,17,19,21,23,25,31,33,81,82,87,88,109,110,166,167,168,171,172,173,174,177,178,179,183,184,185,186,187,188,189,190,191,192,193,194,195,196,197,198,199,200,201,202,203,206,207,208,209,210,211,212,213,214,215,216,217,218,219,220,221,222,223,224,225,226,227,228,229,230,231,232,233]) (.reg [mo (.mv (.t 17)) 258,
 mo (.call (.f 9) [(.t 258),(.c (.int .i64 (-1))),(.c (.int .i64 12))] [73] []) 259,
 mo (.fad 3 (.t 33)) 260,
 ⟨.st 1 (.t 260) (.t 259), none, none⟩]))
 (.note (.gc [4,5,6,7,10,11,17,19,21,23,25,31,33,81,82,87,88,109,110,166,167,168,171,172,173,174,177,178,179,183,184,185,186,187,188,189,190,191,192,193,194,195,196,197,198,199,200,201,202,203,206,207,208,209,210,211,212,213,214,215,216,217,218,219,220,221,222,223,224,225,226,227,228,229,230,231,232,233]) (.reg [mo (.fad 4 (.t 31)) 238,
 mo (.ld none (.t 238)) 239,
 mo (.app 1 8 (.c .nils) (.t 239)) 240,
 mo (.mv (.t 17)) 241,
 mo (.call (.f 8) [(.t 241),(.c (.int .i64 7))] [73] []) 242,
 mo (.bslice 1 [(.t 242)]) 243,
 mo (.app 1 8 (.t 240) (.t 243)) 244,
 mo (.fad 4 (.t 33)) 245,
 ⟨.st 1 (.t 245) (.t 244), none, none⟩]))))))))))
 mc_6g)))
@[irreducible] def mc_2v : MC :=
 (.seq (.reg [mo (.bin false .lss (.t 110) (.c (.int .i64 3))) 111])
 (.seq (.cond (.t 111)
 .skip
 (.exit 4))
 (.seq (.block 5
 (.seq (.reg [mo (.aix (some 3) 3 3 (.t 109) (.t 110)) 112,
 mo (.alloc [(.int .i64 0),(.int .i64 0),(.int .i64 0)]) 25,
 ⟨.st 3 (.t 25) (.t 112), none, none⟩])
 (.seq (.reg [mo (.ld (some 2) (.t 21)) 113,
 mo (.ld (some 2) (.t 23)) 114,
 mo (.aad 1 3 (.t 25) (.c (.int .i64 0))) 115,
 mo (.ld none (.t 115)) 116,
 mo (.aad 1 3 (.t 25) (.c (.int .i64 1))) 117,
 mo (.ld none (.t 117)) 118,
 mo (.aad 1 3 (.t 25) (.c (.int .i64 2))) 119,
 mo (.ld none (.t 119)) 120,
 mo (.call (.f 10) [(.t 113),(.t 114),(.t 116),(.t 118),(.t 120)] [] []) 121,
 mo (.mv (.t 121)) 26])
 (.seq (.note (.gc [4,5,6,7,10,11,17,19,21,23,25,26,81,82,87,88,109,110,166,167,168,171,172,173,174,177,178,179,183,184,185,186,187,188,189,190,191,192,193,194,195,196,197,198,199,200,201,202,203,206,207,208,209,210,211,212,213,214,215,216,217,218,219,220,221,222,223,224,225,226,227,228,229,230,231,232,233]) (.reg [mo (.ld (some 2) (.t 21)) 123,
 mo (.ld (some 2) (.t 23)) 124,
 mo (.aad 1 3 (.t 25) (.c (.int .i64 1))) 125,
 mo (.ld none (.t 125)) 126,
 mo (.aad 1 3 (.t 25) (.c (.int .i64 2))) 127,
 mo (.ld none (.t 127)) 128,
 mo (.call (.f 11) [(.t 123),(.t 124),(.t 126),(.t 128)] [] []) 129,
 mo (.mv (.t 129)) 122,
 mo (.ext 0 (.t 122)) 130,
 mo (.ext 1 (.t 122)) 131,
 mo (.alloc [(.bool false),(.sl [])]) 27,
 ⟨.st 2 (.t 27) (.t 130), none, none⟩,
 mo (.mv (.t 131)) 28]))
 (.seq (.note (.gc [4,5,6,7,10,11,17,19,21,23,25,26,27,28,81,82,87,88,109,110,166,167,168,171,172,173,174,177,178,179,183,184,185,186,187,188,189,190,191,192,193,194,195,196,197,198,199,200,201,202,203,206,207,208,209,210,211,212,213,214,215,216,217,218,219,220,221,222,223,224,225,226,227,228,229,230,231,232,233]) (.reg [mo (.ld (some 2) (.t 21)) 133,
 mo (.ld (some 2) (.t 23)) 134,
 mo (.aad 1 3 (.t 25) (.c (.int .i64 1))) 135,
 mo (.ld none (.t 135)) 136,
 mo (.aad 1 3 (.t 25) (.c (.int .i64 2))) 137,
 mo (.ld none (.t 137)) 138,
 mo (.call (.f 12) [(.t 133),(.t 134),(.t 136),(.t 138)] [] []) 139,
 mo (.mv (.t 139)) 132,
 mo (.ext 0 (.t 132)) 140,
 mo (.ext 1 (.t 132)) 141,
 mo (.alloc [(.bool false),(.sl [])]) 29,
 ⟨.st 2 (.t 29) (.t 140), none, none⟩,
 mo (.mv (.t 141)) 30]))
 (.seq (.note (.gc [4,5,6,7,10,11,17,19,21,23,25,26,27,28,29,30,81,82,87,88,109,110,166,167,168,171,172,173,174,177,178,179,183,184,185,186,187,188,189,190,191,192,193,194,195,196,197,198,199,200,201,202,203,206,207,208,209,210,211,212,213,214,215,216,217,218,219,220,221,222,223,224,225,226,227,228,229,230,231,232,233]) (.reg [mo (.ld (some 2) (.t 21)) 143,
 mo (.ld (some 2) (.t 23)) 144,
 mo (.aad 1 3 (.t 25) (.c (.int .i64 0))) 145,
 mo (.ld none (.t 145)) 146,
 mo (.aad 1 3 (.t 25) (.c (.int .i64 1))) 147,
 mo (.ld none (.t 147)) 148,
 mo (.aad 1 3 (.t 25) (.c (.int .i64 2))) 149,
 mo (.ld none (.t 149)) 150,
 mo (.call (.f 13) [(.t 143),(.t 144),(.t 146),(.t 148),(.t 150)] [] []) 151,
 mo (.mv (.t 151)) 142,
 mo (.ext 0 (.t 142)) 152,
 mo (.ext 1 (.t 142)) 153,
 mo (.alloc [(.int .i64 0),(.int .i64 0),(.int .i64 0),(.int .i64 0),(.sl [])]) 31,
 ⟨.st 5 (.t 31) (.t 152), none, none⟩,
 mo (.mv (.t 153)) 32]))
 (.cut (.seq (.note (.gc [4,5,6,7,10,11,17,19,21,23,25,26,27,28,29,30,31,32,81,82,87,88,109,110,166,167,168,171,172,173,174,177,178,179,183,184,185,186,187,188,189,190,191,192,193,194,195,196,197,198,199,200,201,202,203,206,207,208,209,210,211,212,213,214,215,216,217,218,219,220,221,222,223,224,225,226,227,228,229,230,231,232,233]) (.regI [.op (mo (.ld (some 2) (.t 21)) 154),
 .op (mo (.ld (some 2) (.t 23)) 155),
 .op (mo (.aad 1 3 (.t 25) (.c (.int .i64 0))) 156),
 .op (mo (.ld none (.t 156)) 157),
 .op (mo (.aad 1 3 (.t 25) (.c (.int .i64 1))) 158),
 .op (mo (.ld none (.t 158)) 159),
 .op (mo (.aad 1 3 (.t 25) (.c (.int .i64 2))) 160),
 .op (mo (.ld none (.t 160)) 161),
 .op (mo (.call (.f 14) [(.t 154),(.t 155),(.t 157),(.t 159),(.t 161)] [] []) 162),
 .op (mo (.mv (.t 26)) 163),
 .op (mo (.beq true (.t 162) (.t 163)) 164),
 .op (mo (.mv (.t 164)) 165),
 .grp mg_6d,
 .op (mo (.mv (.t 169)) 170),
 .op ⟨.ld (some 2) (.t 27), (some 171), (some (170, false))⟩,
 .op ⟨.ld (some 2) (.t 29), (some 172), (some (170, false))⟩,
 .op ⟨.call (.f 15) [(.t 171),(.t 172)] [] [], (some 173), (some (170, false))⟩,
 .op ⟨.not (.t 173), (some 174), (some (170, false))⟩,
 .op (mo (.pick (.t 170) (.c (.bool true)) (.t 174)) 175),
 .op (mo (.mv (.t 175)) 176),
 .grp mg_3r]))
 (.cond (.t 180)
 (.seq (.reg [mo (.mv (.c (.bool false))) 16])
 .ret)
 .skip))
 mc_6h)))))))
 (.reg [mo (.bin true .add (.t 110) (.c (.int .i64 1))) 317,
 mo (.mv (.t 317)) 110]))))
@[irreducible] def mc_3h : MC :=
 (.seq (.reg [mo (.bin false .lss (.t 88) (.c (.int .i64 2))) 89])
 (.seq (.cond (.t 89)
 .skip
 (.exit 2))
 (.seq (.block 3
 (.seq (.reg [mo (.aix (some 2) 2 2 (.t 87) (.t 88)) 90,
 mo (.alloc [(.int .i64 0),(.sl [])]) 23,
 ⟨.st 2 (.t 23) (.t 90), none, none⟩])
 (.seq (.reg [mo (.mv (.t 4)) 91,
 mo (.mv (.t 5)) 92,
 mo (.mv (.t 6)) 93,
 mo (.barr 1 [(.int .i64 0),(.int .i64 0),(.int .i64 0)] [(.t 91),(.t 92),(.t 93)]) 94,
 mo (.mv (.t 17)) 95,
 mo (.call (.f 8) [(.t 95),(.c (.int .i64 7))] [73] []) 96,
 mo (.mv (.t 17)) 97,
 mo (.call (.f 8) [(.t 97),(.c (.int .i64 4))] [73] []) 98,
 mo (.mv (.t 17)) 99,
 mo (.call (.f 8) [(.t 99),(.c (.int .i64 32))] [73] []) 100,
 mo (.barr 1 [(.int .i64 0),(.int .i64 0),(.int .i64 0)] [(.t 96),(.t 98),(.t 100)]) 101,
 mo (.mv (.t 17)) 102,
 mo (.call (.f 9) [(.t 102),(.c (.int .i64 (-1))),(.c (.int .i64 7))] [73] []) 103,
 mo (.mv (.t 17)) 104,
 mo (.call (.f 9) [(.t 104),(.c (.int .i64 (-1))),(.c (.int .i64 4))] [73] []) 105,
 mo (.mv (.t 17)) 106,
 mo (.call (.f 8) [(.t 106),(.c (.int .i64 32))] [73] []) 107,
 mo (.barr 1 [(.int .i64 0),(.int .i64 0),(.int .i64 0)] [(.t 103),(.t 105),(.t 107)]) 108,
 mo (.barr 3 [(.int .i64 0),(.int .i64 0),(.int .i64 0),(.int .i64 0),(.int .i64 0),(.int .i64 0),(.int .i64 0),(.int .i64 0),(.int .i64 0)] [(.t 94),(.t 101),(.t 108)]) 109,
 mo (.mv (.c (.int .i64 0))) 110])
 (.block 4
 (.loop mc_2v)))))
 (.reg [mo (.bin true .add (.t 88) (.c (.int .i64 1))) 318,
 mo (.mv (.t 318)) 88]))))
@[irreducible] def mc_3i : MC :=
 (.seq (.reg [mo (.bin false .lss (.t 82) (.c (.int .i64 2))) 83])
 (.seq (.cond (.t 83)
 .skip
 (.exit 0))
 (.seq (.block 1
 (.seq (.reg [mo (.aix (some 2) 2 2 (.t 81) (.t 82)) 84,
 mo (.alloc [(.sl []),(.sl [])]) 21,
 ⟨.st 2 (.t 21) (.t 84), none, none⟩])
 (.seq (.reg [mo (.ld (some 2) (.t 19)) 85,
 mo (.ld (some 2) (.t 10)) 86,
 mo (.barr 2 [(.int .i64 0),(.sl []),(.int .i64 0),(.sl [])] [(.t 85),(.t 86)]) 87,
 mo (.mv (.c (.int .i64 0))) 88])
 (.block 2
 (.loop mc_3h)))))
 (.reg [mo (.bin true .add (.t 82) (.c (.int .i64 1))) 319,
 mo (.mv (.t 319)) 82]))))
def mc_2a : MC :=
 (.seq (.reg [mo (.box (.t 1)) 9,
 mo (.box (.t 2)) 10,
 mo (.box (.t 3)) 11,
 mo (.mv (.c (.bool false))) 16])
 (.seq (.seq (.regI [.op (mo (.mv (.t 0)) 38),
 .op (mo (.len false (.t 38)) 39),
 .op (mo (.bin false .gtr (.t 39) (.c (.int .i64 400))) 40),
 .op (mo (.mv (.t 40)) 41),
 .grp mg_68,
 .op (mo (.mv (.t 46)) 47),
 .grp mg_69,
 .op (mo (.mv (.t 52)) 53),
 .grp mg_6a,
 .op (mo (.mv (.t 58)) 59),
 .grp mg_6b,
 .op (mo (.mv (.t 64)) 65),
 .grp mg_6c])
 (.cond (.t 69)
 (.seq (.reg [mo (.call (.f 5) [] [] []) 70,
 mo (.mv (.t 70)) 16])
 .ret)
 .skip))
 (.seq (.note (.gc [0,4,5,6,7,9,10,11,166,167,168,171,172,173,174,177,178,179,183,184,185,186,187,188,189,190,191,192,193,194,195,196,197,198,199,200,201,202,203,206,207,208,209,210,211,212,213,214,215,216,217,218,219,220,221,222,223,224,225,226,227,228,229,230,231,232,233]) (.reg [mo (.mv (.t 0)) 71,
 mo (.build [(.sl []),(.int .i64 0)] [(0,1,(.t 71))]) 72,
 mo (.box (.t 72)) 73,
 mo (.mv (.t 73)) 17]))
 (.seq (.reg [mo (.mv (.t 17)) 74,
 mo (.call (.f 6) [(.t 74)] [73] []) 75,
 mo (.alloc [(.sl []),(.sl [])]) 18,
 ⟨.st 2 (.t 18) (.t 75), none, none⟩])
 (.seq (.reg [mo (.mv (.t 17)) 76,
 mo (.ld (some 2) (.t 18)) 77,
 mo (.call (.f 7) [(.t 76),(.t 77)] [73] []) 78,
 mo (.alloc [(.int .i64 0),(.sl [])]) 19,
 ⟨.st 2 (.t 19) (.t 78), none, none⟩])
 (.seq (.seq (.note (.gc [4,5,6,7,9,10,11,17,18,19,166,167,168,171,172,173,174,177,178,179,183,184,185,186,187,188,189,190,191,192,193,194,195,196,197,198,199,200,201,202,203,206,207,208,209,210,211,212,213,214,215,216,217,218,219,220,221,222,223,224,225,226,227,228,229,230,231,232,233]) (.reg [mo (.ld (some 2) (.t 18)) 79,
 mo (.ld (some 2) (.t 9)) 80,
 mo (.barr 2 [(.sl []),(.sl []),(.sl []),(.sl [])] [(.t 79),(.t 80)]) 81,
 mo (.mv (.c (.int .i64 0))) 82]))
 (.block 0
 (.loop mc_3i)))
 (.seq (.reg [mo (.call (.f 5) [] [] []) 320,
 mo (.mv (.t 320)) 16])
 .ret)))))))
theorem Wq_2a (l_ : List Int) (raw_ : GDirectory) (b_ : GEstate) (r_ : GReading) (p_ : Int) (place_ : Int) (t_ : Int) (set_ : List Int) {Q : Bool → Prop} {Q' : V → Heap → Prop} (h : Ok (F_2a l_ raw_ b_ r_ p_ place_ t_ set_) Q) (hQ : ∀ z, Q z → Q' (.bool z) []) : ACall Tryz.prog 3 [.sl (l_.map (V.int .i64)), GDirectory.v raw_, GEstate.v b_, GReading.v r_, .int .i64 p_, .int .i64 place_, .int .i64 t_, .sl (set_.map (V.int .i64))] [] Q' := by
 refine acallM mc_2a [] [] [.t 16] Tryz.func3 fun M => ?_
 unfold F_2a at h
 unfold mc_2a
 replace h := tY h
 refine tB ?_
 repeat' (first
 | (exact tZ)
 | ((first | refine oblg h ?_ | refine roomG h ?_ | refine fork h ?_ ?_ | refine forkS h ?_ ?_) <;> clear h <;> intro hc h)
 | (obtain ⟨y, hy, h⟩ := h; (first | (with_reducible first | have hw := W_1a hy | have hw := W_q hy | have hw := W_n hy | have hw := W_u hy | have hw := W_i hy | have hw := W_9 hy | have hw := W_1z hy | have hw := W_b hy | have hw := W_1d hy | have hw := W_k hy | have hw := W_1e hy | have hw := W_12 hy) | have hw := acall_swe 1000 73 (W_1o hy) | have hw := acall_swe 1000 73 (W_1p hy) | have hw := acall_swe 1000 73 (W_0 hy) | have hw := acall_swe 1000 73 (W_e hy) | have hw := acall_swe 1000 73 (W_22 hy)); replace hw := tY hw; (first | refine M.sC hw ?_ | refine M.sD hw ?_); clear hw hy; refine tB ?_)
 | (refine M.gv1 (ms := mg_3r) 180 [177,178,179] h ?_ ?_ <;> first
 | (clear h; intro K hK1; unfold mg_3r; refine tB ?_)
 | (clear h; intro b h; replace h := tY h; refine tB ?_))
 | (refine M.gv1 (ms := mg_3r) 180 [177,178,179] h ?_ ?_ <;> first
 | (clear h; intro K hK2; unfold mg_3r; refine tB ?_)
 | (clear h; intro b h; replace h := tY h; refine tB ?_))
 | (refine M.gv1 (ms := mg_6d) 169 [166,167,168] h ?_ ?_ <;> first
 | (clear h; intro K hK3; unfold mg_6d; refine tB ?_)
 | (clear h; intro b h; replace h := tY h; refine tB ?_))
 | (refine M.for1 (b := mc_3f) 265 [4,5,6,7,10,11,17,19,21,23,25,81,82,87,88,109,110,264] [25,23,21,19,73,11,10] (fun x => []) (fun x => []) [] h ?_ ?_ ?_ <;> first
 | (clear h; intro k a x Qn K hK4 hkN4 ha4 h hf; skip; clear hf; have hkd := kD hkN4; have hkB4 := kB hkN4; have hkI4 := kI (k := k) (by (try simp only [List.length_cons, List.length_nil] at hkN4); omega); have hkd4 : decide ((k : Int) < 3) = true := decide_eq_true (by simp only [List.length_cons, List.length_nil] at hkN4; omega); have hkr4 : (0 ≤ (k : Int) ∧ (k : Int) < 3) = True := eq_true (by simp only [List.length_cons, List.length_nil] at hkN4; omega); have hle4 : (k * 5 ≤ 10) = True := eq_true (by simp only [List.length_cons, List.length_nil] at hkN4; omega); have hpt4 := take_of (sz := 5) (f := fun e : GReading => [.int .i64 e.Place, .int .i64 e.Time, .int .i64 e.Link, .int .i64 e.Grant, .sl (e.Chain.map (V.int .i64))]) (fun _ => rfl) ha4 hkN4; (try simp only [go_sem, Nat.reduceBEq, Nat.reduceAdd, Nat.reduceLeDiff, Nat.reduceSub, Nat.reduceMul, Int.reduceToNat, Int.reduceLT, Int.reduceLE, List.flatMap_cons, List.flatMap_nil, List.map_cons, List.map_nil] at hpt4); unfold F_3f at h; unfold mc_3f; replace h := tY h; refine tKA ha4 hkd hkN4 hkB4 hkI4 hkd4 hkr4 hle4 hpt4 ?_)
  |(clear h; intro x K h; replace h := And.left (And.intro h trivial); unfold mc_3f; replace h := tY h; refine tB ?_)
  |(clear h; (try refine tB ?_); exact tU0; done))
 | (refine M.for1 (b := mc_3g) 292 [4,5,6,7,10,11,17,19,21,23,25,81,82,87,88,109,110,291] [25,23,21,19,73,11,10] (fun x => []) (fun x => []) [] h ?_ ?_ ?_ <;> first
 | (clear h; intro k a x Qn K hK5 hkN5 ha5 h hf; skip; clear hf; have hkd := kD hkN5; have hkB5 := kB hkN5; have hkI5 := kI (k := k) (by (try simp only [List.length_cons, List.length_nil] at hkN5); omega); have hkd5 : decide ((k : Int) < 3) = true := decide_eq_true (by simp only [List.length_cons, List.length_nil] at hkN5; omega); have hkr5 : (0 ≤ (k : Int) ∧ (k : Int) < 3) = True := eq_true (by simp only [List.length_cons, List.length_nil] at hkN5; omega); have hle5 : (k * 1 ≤ 2) = True := eq_true (by simp only [List.length_cons, List.length_nil] at hkN5; omega); have hpt5 := drop_of (f := fun e : List Int => .sl (e.map (V.int .i64))) ha5 hkN5; (try simp only [go_sem, Nat.reduceBEq, Nat.reduceAdd, Nat.reduceLeDiff, Nat.reduceSub, Nat.reduceMul, Int.reduceToNat, Int.reduceLT, Int.reduceLE, List.flatMap_cons, List.flatMap_nil, List.map_cons, List.map_nil] at hpt5); unfold F_3g at h; unfold mc_3g; replace h := tY h; refine tKA ha5 hkd hkN5 hkB5 hkI5 hkd5 hkr5 hle5 hpt5 ?_)
  |(clear h; intro x K h; replace h := And.left (And.intro h trivial); unfold mc_3g; replace h := tY h; refine tB ?_)
  |(clear h; (try refine tB ?_); exact tU0; done))
 | (refine M.jn1 (b := mc_6g) [4,5,6,7,10,11,17,19,21,23,25,31,33,81,82,87,88,109,110] [31,25,23,21,19,11,10] (fun y => []) (fun y => [.o 33 (.cells [.int .i64 y.1.Place, .int .i64 y.1.Time, .int .i64 y.1.Link, .int .i64 y.1.Grant, .sl (y.1.Chain.map (V.int .i64))]), .o 73 (.cells [.sl (y.2.L.map (V.int .i64)), .int .i64 y.2.at_])]) [.fzc 33] h ?_ ?_ <;> first
 | (clear h; intro Qn K hK6 h; replace h := tY h; refine tB ?_)
  |(clear h; intro y h; unfold mc_6g; replace h := tY h; refine tB ?_))
 | (refine M.gv1 (ms := mg_6f) 234 [206,207,208,209,210,211,212,213,214,215,216,217,218,219,220,221,222,223,224,225,226,227,228,229,230,231,232,233] h ?_ ?_ <;> first
 | (clear h; intro K hK7; unfold mg_6f; refine tB ?_)
 | (clear h; intro b h; replace h := tY h; refine tB ?_))
 | (refine M.gj1 (ms := mg_6e) [4,5,6,7,10,11,17,19,21,23,25,31,32,81,82,87,88,109,110] [31,25,23,21,19,73,11,10] (fun y => [(204, .bool y)]) (fun y => []) h ?_ ?_ <;> first
 | (clear h; intro Qn K hK8 h; unfold mg_6e; replace h := tY h; refine tB ?_)
  |(clear h; intro y h; replace h := tY h; refine tB ?_))
 | (refine M.jnE (b := mc_6h) [4,5,6,7,10,11,17,19,21,23,25,31,32,81,82,87,88,109,110] [31,25,23,21,19,73,11,10] (fun y => []) (fun y => []) [] h ?_ ?_ <;> first
 | (clear h; intro Qn K hK9 h; replace h := tY h; refine tB ?_)
  |(clear h; intro y h; unfold mc_6h; replace h := tY h; refine tB ?_))
 | (refine M.for1 (b := mc_2v) 110 [4,5,6,7,10,11,17,19,21,23,81,82,87,88,109] [23,21,19,11,10] (fun x => []) (fun x => [.o 73 (.cells [.sl (x.L.map (V.int .i64)), .int .i64 x.at_])]) [] h ?_ ?_ ?_ <;> first
 | (clear h; intro k a x Qn K hK10 hkN10 ha10 h hf; skip; clear hf; have hkd := kD hkN10; have hkB10 := kB hkN10; have hkI10 := kI (k := k) (by (try simp only [List.length_cons, List.length_nil] at hkN10); omega); have hkd10 : decide ((k : Int) < 3) = true := decide_eq_true (by simp only [List.length_cons, List.length_nil] at hkN10; omega); have hkr10 : (0 ≤ (k : Int) ∧ (k : Int) < 3) = True := eq_true (by simp only [List.length_cons, List.length_nil] at hkN10; omega); have hle10 : (k * 3 ≤ 6) = True := eq_true (by simp only [List.length_cons, List.length_nil] at hkN10; omega); have hpt10 := take_of (sz := 3) (f := fun e : GA39 => [.int .i64 e.e0, .int .i64 e.e1, .int .i64 e.e2]) (fun _ => rfl) ha10 hkN10; (try simp only [go_sem, Nat.reduceBEq, Nat.reduceAdd, Nat.reduceLeDiff, Nat.reduceSub, Nat.reduceMul, Int.reduceToNat, Int.reduceLT, Int.reduceLE, List.flatMap_cons, List.flatMap_nil, List.map_cons, List.map_nil] at hpt10); unfold F_2v at h; unfold mc_2v; replace h := tY h; refine tKA ha10 hkd hkN10 hkB10 hkI10 hkd10 hkr10 hle10 hpt10 ?_)
  |(clear h; intro x K h; replace h := And.left (And.intro h trivial); unfold mc_2v; replace h := tY h; refine tB ?_)
  |(clear h; (try refine tB ?_); exact tU0; done))
 | (refine M.for1 (b := mc_3h) 88 [4,5,6,7,10,11,17,19,21,81,82,87] [21,19,11,10] (fun x => []) (fun x => [.o 73 (.cells [.sl (x.L.map (V.int .i64)), .int .i64 x.at_])]) [] h ?_ ?_ ?_ <;> first
 | (clear h; intro k a x Qn K hK11 hkN11 ha11 h hf; skip; clear hf; have hkd := kD hkN11; have hkB11 := kB hkN11; have hkI11 := kI (k := k) (by (try simp only [List.length_cons, List.length_nil] at hkN11); omega); have hkd11 : decide ((k : Int) < 2) = true := decide_eq_true (by simp only [List.length_cons, List.length_nil] at hkN11; omega); have hkr11 : (0 ≤ (k : Int) ∧ (k : Int) < 2) = True := eq_true (by simp only [List.length_cons, List.length_nil] at hkN11; omega); have hle11 : (k * 2 ≤ 2) = True := eq_true (by simp only [List.length_cons, List.length_nil] at hkN11; omega); have hpt11 := take_of (sz := 2) (f := fun e : GEstate => [.int .i64 e.Places, .sl (e.Events.map GAccess.v)]) (fun _ => rfl) ha11 hkN11; (try simp only [go_sem, Nat.reduceBEq, Nat.reduceAdd, Nat.reduceLeDiff, Nat.reduceSub, Nat.reduceMul, Int.reduceToNat, Int.reduceLT, Int.reduceLE, List.flatMap_cons, List.flatMap_nil, List.map_cons, List.map_nil] at hpt11); unfold F_3h at h; unfold mc_3h; replace h := tY h; refine tKA ha11 hkd hkN11 hkB11 hkI11 hkd11 hkr11 hle11 hpt11 ?_)
  |(clear h; intro x K h; replace h := And.left (And.intro h trivial); unfold mc_3h; replace h := tY h; refine tB ?_)
  |(clear h; (try refine tB ?_); exact tU0; done))
 | (refine M.for1 (b := mc_3i) 82 [4,5,6,7,10,11,17,19,81] [19,11,10] (fun x => []) (fun x => [.o 73 (.cells [.sl (x.L.map (V.int .i64)), .int .i64 x.at_])]) [] h ?_ ?_ ?_ <;> first
 | (clear h; intro k a x Qn K hK12 hkN12 ha12 h hf; skip; clear hf; have hkd := kD hkN12; have hkB12 := kB hkN12; have hkI12 := kI (k := k) (by (try simp only [List.length_cons, List.length_nil] at hkN12); omega); have hkd12 : decide ((k : Int) < 2) = true := decide_eq_true (by simp only [List.length_cons, List.length_nil] at hkN12; omega); have hkr12 : (0 ≤ (k : Int) ∧ (k : Int) < 2) = True := eq_true (by simp only [List.length_cons, List.length_nil] at hkN12; omega); have hle12 : (k * 2 ≤ 2) = True := eq_true (by simp only [List.length_cons, List.length_nil] at hkN12; omega); have hpt12 := take_of (sz := 2) (f := fun e : GDirectory => [.sl (e.Kinds.map (V.int .i64)), .sl (e.Events.map GMember.v)]) (fun _ => rfl) ha12 hkN12; (try simp only [go_sem, Nat.reduceBEq, Nat.reduceAdd, Nat.reduceLeDiff, Nat.reduceSub, Nat.reduceMul, Int.reduceToNat, Int.reduceLT, Int.reduceLE, List.flatMap_cons, List.flatMap_nil, List.map_cons, List.map_nil] at hpt12); unfold F_3i at h; unfold mc_3i; replace h := tY h; refine tKA ha12 hkd hkN12 hkB12 hkI12 hkd12 hkr12 hle12 hpt12 ?_)
  |(clear h; intro x K h; replace h := And.left (And.intro h trivial); unfold mc_3i; replace h := tY h; refine tB ?_)
  |(clear h; (try refine tB ?_); exact tU0; done))
 | (refine M.gv1 (ms := mg_6c) 69 [66,67,68] h ?_ ?_ <;> first
 | (clear h; intro K hK13; unfold mg_6c; refine tB ?_)
 | (clear h; intro b h; replace h := tY h; refine tB ?_))
 | (refine M.gv1 (ms := mg_6b) 64 [60,61,62,63] h ?_ ?_ <;> first
 | (clear h; intro K hK14; unfold mg_6b; refine tB ?_)
 | (clear h; intro b h; replace h := tY h; refine tB ?_))
 | (refine M.gv1 (ms := mg_6a) 58 [54,55,56,57] h ?_ ?_ <;> first
 | (clear h; intro K hK15; unfold mg_6a; refine tB ?_)
 | (clear h; intro b h; replace h := tY h; refine tB ?_))
 | (refine M.gv1 (ms := mg_69) 52 [48,49,50,51] h ?_ ?_ <;> first
 | (clear h; intro K hK16; unfold mg_69; refine tB ?_)
 | (clear h; intro b h; replace h := tY h; refine tB ?_))
 | (refine M.gv1 (ms := mg_68) 46 [42,43,44,45] h ?_ ?_ <;> first
 | (clear h; intro K hK17; unfold mg_68; refine tB ?_)
 | (clear h; intro b h; replace h := tY h; refine tB ?_))
 | (first | simp only [ha4] | simp only [ha5] | simp only [ha10] | simp only [ha11] | simp only [ha12])
 | ((first | refine hK1 _ ?_ | refine hK2 _ ?_ | refine hK3 _ ?_ | refine hK7 _ ?_ | refine hK13 _ ?_ | refine hK14 _ ?_ | refine hK15 _ ?_ | refine hK16 _ ?_ | refine hK17 _ ?_); exact tU; done)
 | ((first | refine hK4 _ ?_ | refine hK5 _ ?_ | refine hK6 _ ?_ | refine hK8 _ ?_ | refine hK9 _ ?_ | refine hK10 _ ?_ | refine hK11 _ ?_ | refine hK12 _ ?_); (try refine tB ?_); refine ⟨_, h, ?_⟩; exact tU0; done)
 | (refine bfork (fun hc => ?_) (fun hc => ?_))
 | (refine tE ?_; (first | rw [M.lok_compU] | rw [M.lokD_compU]); refine tB ?_)
 | (refine tA ?_))
def W_2a {l_ raw_ b_ r_ p_ place_ t_ set_ y} (hy : (F_2a l_ raw_ b_ r_ p_ place_ t_ set_) = some y) := acW (Wq_2a l_ raw_ b_ r_ p_ place_ t_ set_) hy
end Go.Ab
