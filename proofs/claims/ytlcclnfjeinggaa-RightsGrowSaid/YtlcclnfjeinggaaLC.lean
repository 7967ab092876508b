/- What the functions of this seat that lie on the laws' road compute (part LC), each for every input. By AI agents. -/
import Derived.Test.YtlcclnfjeinggaaProg
import Derived.KernelRfl
import Derived.Test.YtlcclnfjeinggaaAbFun
import Derived.Test.YtlcclnfjeinggaaLB
set_option linter.all false
set_option linter.all false
set_option maxRecDepth 20000
set_option maxHeartbeats 2000000
namespace Go.Ab
open Go.Proofs
noncomputable def F_1i (y1143 : List Int) (k1158 : Int) (a1159 : Int) (x1157 : Unit) : Option (Fl Unit Bool) :=
 chk (inb k1158 y1143.length) (bif decide ((y1143.getD (k1158).toNat default) < a1159) then some (.ex false) else some (.nx ()))
noncomputable def F_1j (y1233 : List Int) (k1237 : Int) (a1238 : Int) (x1236 : Unit) : Option (Fl Unit Bool) :=
 chk (inb k1237 y1233.length) (bif decide (a1238 < (y1233.getD (k1237).toNat default)) then some (.ex false) else some (.nx ()))
noncomputable def F_1k (y6 : GRights × GTape) (y1142 : List Int) (k1203 : Int) (a1204 : Int) (x1202 : Unit) : Option (Fl Unit Bool) :=
 (F_4 y6.1 a1204).bind fun y1233 => bif (!decide ((y1233.length : Int) = (y1142.length : Int))) then some (.ex false) else (forL (F_1j y1233) y1142 0 ()).bind fun o => o.elim (fun x1239 => some (.nx ())) (fun r1240 => some (.ex r1240))
noncomputable def F_1t (y6 : GRights × GTape) (j16 : GRights) (x884 : Int) : Option (Fl Int (Sum Unit Bool)) :=
 bif decide (x884 < y6.1.Credentials) then (F_4 y6.1 x884).bind fun y1142 => (F_4 j16 x884).bind fun y1143 => grp (((!decide ((y1142.length : Int) = y6.1.Resources)) || (!decide ((y1143.length : Int) = y6.1.Resources)))) fun b1147 => bif b1147 then some (.ex (.inr false)) else (forL (F_1i y1143) y1142 0 ()).bind fun o => o.elim (fun x1160 => (F_9 y6.1 x884).bind fun y1163 => (forL (F_1k y6 y1142) y1163 0 ()).bind fun o => o.elim (fun x1241 => chk (in64 (x884 + 1)) (some (.nx (x884 + 1)))) (fun r1242 => some (.ex (.inr r1242)))) (fun r1161 => some (.ex (.inr r1161))) else some (.ex (.inl ()))
noncomputable def F_10 (l_ : List Int) : Option Bool :=
 bif decide (300 < (l_.length : Int)) then F_i.bind fun y4 => some y4 else (F_r (GTape.mk l_ 0)).bind fun y6 => jn (α := GRights) ((F_0 y6.2 3).bind fun y18 => bif decide (y18.1 = 0) then chk (room y6.1.Grants.length 24) ((F_0 y18.2 y6.1.Credentials).bind fun y19 => (F_0 y19.2 y6.1.Resources).bind fun y20 => (F_a y20.2 1 3).bind fun y21 => chk (room (y6.1.Grants.length + [(GGrant.mk y19.1 y20.1 y21.1)].length) 24) (some (GRights.mk y6.1.Credentials y6.1.Resources (y6.1.Grants ++ [(GGrant.mk y19.1 y20.1 y21.1)]) y6.1.Stores y6.1.Mints))) else bif decide (y18.1 = 1) then chk (room y6.1.Stores.length 16) ((F_0 y18.2 y6.1.Resources).bind fun y22 => (F_0 y22.2 y6.1.Credentials).bind fun y23 => chk (room (y6.1.Stores.length + [(GStore.mk y22.1 y23.1)].length) 16) (some (GRights.mk y6.1.Credentials y6.1.Resources y6.1.Grants (y6.1.Stores ++ [(GStore.mk y22.1 y23.1)]) y6.1.Mints))) else chk (room y6.1.Mints.length 16) ((F_0 y18.2 y6.1.Credentials).bind fun y24 => (F_0 y24.2 y6.1.Credentials).bind fun y25 => chk (room (y6.1.Mints.length + [(GMint.mk y24.1 y25.1)].length) 16) (some (GRights.mk y6.1.Credentials y6.1.Resources y6.1.Grants y6.1.Stores (y6.1.Mints ++ [(GMint.mk y24.1 y25.1)]))))) fun j16 => (loop (F_1t y6 j16) 0).bind fun r1243 => Sum.elim (fun u1244 => F_i.bind fun y1247 => some y1247) (fun u1245 => some u1245) r1243
@[irreducible] def mg_2j : List MOp := [gF 94 95 (.mv (.t 8)),
 gF 94 96 (.len false (.t 95)),
 gF 94 97 (.fad 1 (.t 4)),
 gF 94 98 (.ld none (.t 97)),
 gF 94 99 (.bin false .neq (.t 96) (.t 98)),
 mo (.pick (.t 94) (.c (.bool true)) (.t 99)) 100]
@[irreducible] def mc_1i : MC :=
 (sR [mo (.bin false .lss (.t 103) (.t 102)) 104]
 (.seq (.cond (.t 104)
 .skip
 (.exit 3))
 (.seq (.block 4
 (sR [oV 103 105,
 oV 105 9]
 (.seq (.regD [oV 8 106,
 oV 9 107,
 mo (.iad 1 (.t 106) (.t 107)) 108,
 oL 108 109,
 oV 7 110,
 oV 9 111,
 mo (.iad 1 (.t 110) (.t 111)) 112,
 oL 112 113,
 mo (.bin false .lss (.t 109) (.t 113)) 114]
 [[],[],[0,1],[2],[],[],[4,5],[6],[3,7]]
 [[],[],[0,1],[0,1,2],[],[],[4,5],[4,5,6],[0,1,2,3,4,5,6,7]])
 (.cond (.t 114)
 (sR [mo (.mv (.c (.bool false))) 2]
 .ret)
 .skip))))
 (.reg [mo (.bin true .add (.t 103) (cI 1)) 115,
 oV 115 103]))))
@[irreducible] def mc_1j : MC :=
 (sR [mo (.bin false .lss (.t 134) (.t 133)) 135]
 (.seq (.cond (.t 135)
 .skip
 (.exit 7))
 (.seq (.block 8
 (sR [oV 134 136,
 oV 136 13]
 (.seq (.regD [oV 12 137,
 oV 13 138,
 mo (.iad 1 (.t 137) (.t 138)) 139,
 oL 139 140,
 oV 7 141,
 oV 13 142,
 mo (.iad 1 (.t 141) (.t 142)) 143,
 oL 143 144,
 mo (.bin false .gtr (.t 140) (.t 144)) 145]
 [[],[],[0,1],[2],[],[],[4,5],[6],[3,7]]
 [[],[],[0,1],[0,1,2],[],[],[4,5],[4,5,6],[0,1,2,3,4,5,6,7]])
 (.cond (.t 145)
 (sR [mo (.mv (.c (.bool false))) 2]
 .ret)
 .skip))))
 (.reg [mo (.bin true .add (.t 134) (cI 1)) 146,
 oV 146 134]))))
@[irreducible] def mc_1k : MC :=
 (sR [mo (.bin false .lss (.t 120) (.t 119)) 121]
 (.seq (.cond (.t 121)
 .skip
 (.exit 5))
 (.seq (.block 6
 (sR [mo (.iad 1 (.t 118) (.t 120)) 122,
 oL 122 123,
 oV 123 11]
 (sR [mo (.ld (some 5) (.t 4)) 124,
 oV 11 125,
 mo (.call (.f 11) [(.t 124),(.t 125)] [] []) 126,
 oV 126 12]
 (.seq (sR [oV 12 127,
 mo (.len false (.t 127)) 128,
 oV 7 129,
 mo (.len false (.t 129)) 130,
 mo (.bin false .neq (.t 128) (.t 130)) 131]
 (.cond (.t 131)
 (sR [mo (.mv (.c (.bool false))) 2]
 .ret)
 .skip))
 (.seq (.note (.gc [4,5,6,7,12,95,96,97,98,99,118,119,120]) (.reg [oV 7 132,
 mo (.len false (.t 132)) 133,
 oC 0 134]))
 (.block 7
 (.loop mc_1j)))))))
 (.reg [mo (.bin true .add (.t 120) (cI 1)) 147,
 oV 147 120]))))
@[irreducible] def mc_1t : MC :=
 (.seq (sR [oV 6 77,
 oF 0 4 78,
 oL 78 79,
 mo (.bin false .lss (.t 77) (.t 79)) 80]
 (.cond (.t 80)
 .skip
 (.exit 1)))
 (.seq (.block 2
 (.seq (.regD [mo (.ld (some 5) (.t 4)) 83,
 oV 6 84,
 mo (.call (.f 11) [(.t 83),(.t 84)] [] []) 85,
 mo (.ld (some 5) (.t 5)) 86,
 oV 6 87,
 mo (.call (.f 11) [(.t 86),(.t 87)] [] []) 88,
 oV 85 7,
 oV 88 8]
 [[],[],[0,1],[],[],[3,4,2],[2,5,0,1,2],[5,6,0,1,2,3,4,5,6]]
 [[],[],[0,1],[],[],[0,1,2,3,4],[0,1,2,3,4,5],[0,1,2,3,4,5,6]])
 (.seq (.seq (.note (.gc [4,5,6,7,8,95,96,97,98,99]) (.regI [.op (oV 7 89),
 .op (mo (.len false (.t 89)) 90),
 .op (oF 1 4 91),
 .op (oL 91 92),
 .op (mo (.bin false .neq (.t 90) (.t 92)) 93),
 .op (oV 93 94),
 .grp mg_2j]))
 (.cond (.t 100)
 (sR [mo (.mv (.c (.bool false))) 2]
 .ret)
 .skip))
 (.seq (sR [oV 7 101,
 mo (.len false (.t 101)) 102,
 oC 0 103]
 (.block 3
 (.loop mc_1i)))
 (sR [mo (.ld (some 5) (.t 4)) 116,
 oV 6 117,
 mo (.call (.f 10) [(.t 116),(.t 117)] [] []) 118,
 mo (.len false (.t 118)) 119,
 oC 0 120]
 (.block 5
 (.loop mc_1k)))))))
 (.reg [oV 6 81,
 mo (.bin true .add (.t 81) (cI 1)) 82,
 oV 82 6])))
@[irreducible] def mc_2k : MC :=
 (.seq (sR [oC 0 6]
 (.block 1
 (.loop mc_1t)))
 (sR [mo (.call (.f 7) [] [] []) 148,
 oV 148 2]
 .ret))
def mc_10 : MC :=
 (sR [mo (.mv (.c (.bool false))) 2]
 (.seq (sR [oV 0 14,
 mo (.len false (.t 14)) 15,
 mo (.bin false .gtr (.t 15) (cI 300)) 16]
 (.cond (.t 16)
 (sR [mo (.call (.f 7) [] [] []) 17,
 oV 17 2]
 .ret)
 .skip))
 (sR [oV 0 18,
 mo (.build [(.sl []),(.int .i64 0)] [(0,1,(.t 18))]) 19,
 mo (.box (.t 19)) 20,
 oV 20 3]
 (.seq (.note (.gc [3,95,96,97,98,99]) (.reg [oV 3 21,
 mo (.call (.f 8) [(.t 21)] [20] []) 22,
 mo (.alloc [(.int .i64 0),(.int .i64 0),(.sl []),(.sl []),(.sl [])]) 4,
 ⟨.st 5 (.t 4) (.t 22), none, none⟩]))
 (sR [mo (.ld (some 5) (.t 4)) 23,
 mo (.alloc [(.int .i64 0),(.int .i64 0),(.sl []),(.sl []),(.sl [])]) 5,
 ⟨.st 5 (.t 5) (.t 23), none, none⟩]
 (.cut (sR [oV 3 24,
 mo (.call (.f 9) [(.t 24), (cI 3)] [20] []) 25]
 (.block 0
 (sR [mo (.bin false .eql (.t 25) (cI 0)) 42,
 oV 42 41]
 (.cond (.t 41)
 (.regD [oF 2 4 43,
 oL 43 44,
 mo (.app 3 24 (.c .nils) (.t 44)) 45,
 oV 3 46,
 oF 0 4 47,
 oL 47 48,
 mo (.call (.f 9) [(.t 46),(.t 48)] [20] []) 49,
 oV 3 50,
 oF 1 4 51,
 oL 51 52,
 mo (.call (.f 9) [(.t 50),(.t 52)] [20] []) 53,
 oV 3 54,
 mo (.call (.f 17) [(.t 54), (cI 1), (cI 3)] [20] []) 55,
 mo (.build [(.int .i64 0),(.int .i64 0),(.int .i64 0)] [(0,1,(.t 49)), (1,1,(.t 53)), (2,1,(.t 55))]) 56,
 mo (.bslice 3 [(.t 56)]) 57,
 mo (.app 3 24 (.t 45) (.t 57)) 58,
 oF 2 5 59,
 ⟨.st 1 (.t 59) (.t 58), none, none⟩]
 [[],[0],[1],[],[],[4],[3,5,2],[],[],[8],[7,9,6],[],[11,10],[6,10,12],[13],[2,14,12],[0,1,2,3,4,5,6,7,8,9,10,11,12,13,14,15],[16,15,15,0,1,2,3,4,5,6,7,8,9,10,11,12,13,14,15]]
 [[],[0],[0,1],[],[],[4],[0,1,2,3,4,5],[],[],[8],[0,1,2,3,4,5,6,7,8,9],[],[0,1,2,3,4,5,6,7,8,9,10,11],[0,1,2,3,4,5,6,7,8,9,10,11,12],[0,1,2,3,4,5,6,7,8,9,10,11,12,13],[0,1,2,3,4,5,6,7,8,9,10,11,12,13,14],[0,1,2,3,4,5,6,7,8,9,10,11,12,13,14,15],[0,1,2,3,4,5,6,7,8,9,10,11,12,13,14,15,16]])
 (sR [mo (.bin false .eql (.t 25) (cI 1)) 61,
 oV 61 60]
 (.cond (.t 60)
 (.note (.gc [3,4,5,95,96,97,98,99]) (.regD [oF 3 4 62,
 oL 62 63,
 mo (.app 2 16 (.c .nils) (.t 63)) 64,
 oV 3 65,
 oF 1 4 66,
 oL 66 67,
 mo (.call (.f 9) [(.t 65),(.t 67)] [20] []) 68,
 oV 3 69,
 oF 0 4 70,
 oL 70 71,
 mo (.call (.f 9) [(.t 69),(.t 71)] [20] []) 72,
 mo (.build [(.int .i64 0),(.int .i64 0)] [(0,1,(.t 68)), (1,1,(.t 72))]) 73,
 mo (.bslice 2 [(.t 73)]) 74,
 mo (.app 2 16 (.t 64) (.t 74)) 75,
 oF 3 5 76,
 ⟨.st 1 (.t 76) (.t 75), none, none⟩]
 [[],[0],[1],[],[],[4],[3,5,2],[],[],[8],[7,9,6],[6,10],[11],[2,12,10],[0,1,2,3,4,5,6,7,8,9,10,11,12,13],[14,13,13,0,1,2,3,4,5,6,7,8,9,10,11,12,13]]
 [[],[0],[0,1],[],[],[4],[0,1,2,3,4,5],[],[],[8],[0,1,2,3,4,5,6,7,8,9],[0,1,2,3,4,5,6,7,8,9,10],[0,1,2,3,4,5,6,7,8,9,10,11],[0,1,2,3,4,5,6,7,8,9,10,11,12],[0,1,2,3,4,5,6,7,8,9,10,11,12,13],[0,1,2,3,4,5,6,7,8,9,10,11,12,13,14]]))
 (.note (.gc [3,4,5,95,96,97,98,99]) (.regD [oF 4 4 26,
 oL 26 27,
 mo (.app 2 16 (.c .nils) (.t 27)) 28,
 oV 3 29,
 oF 0 4 30,
 oL 30 31,
 mo (.call (.f 9) [(.t 29),(.t 31)] [20] []) 32,
 oV 3 33,
 oF 0 4 34,
 oL 34 35,
 mo (.call (.f 9) [(.t 33),(.t 35)] [20] []) 36,
 mo (.build [(.int .i64 0),(.int .i64 0)] [(0,1,(.t 32)), (1,1,(.t 36))]) 37,
 mo (.bslice 2 [(.t 37)]) 38,
 mo (.app 2 16 (.t 28) (.t 38)) 39,
 oF 4 5 40,
 ⟨.st 1 (.t 40) (.t 39), none, none⟩]
 [[],[0],[1],[],[],[4],[3,5,2],[],[],[8],[7,9,6],[6,10],[11],[2,12,10],[0,1,2,3,4,5,6,7,8,9,10,11,12,13],[14,13,13,0,1,2,3,4,5,6,7,8,9,10,11,12,13]]
 [[],[0],[0,1],[],[],[4],[0,1,2,3,4,5],[],[],[8],[0,1,2,3,4,5,6,7,8,9],[0,1,2,3,4,5,6,7,8,9,10],[0,1,2,3,4,5,6,7,8,9,10,11],[0,1,2,3,4,5,6,7,8,9,10,11,12],[0,1,2,3,4,5,6,7,8,9,10,11,12,13],[0,1,2,3,4,5,6,7,8,9,10,11,12,13,14]]))))))))
 mc_2k))))))
theorem Wq_10 {l_ : List Int} : Cn Try.prog 4 [.sl (l_.map (V.int .i64))] [] (F_10 l_) (fun z => .bool z) (fun z => []) := fun Q Q' h hQ => by
 refine acallM mc_10 [] [] [.t 2] Try.func4 fun M => ?_
 unfold F_10 at h
 unfold mc_10
 replace h := tY h
 refine tB ?_
 repeat' (first
 | (exact tZ)
 | ((first | refine oblg h ?_ | refine roomG h ?_ | refine fork h ?_ ?_ | refine forkS h ?_ ?_) <;> clear h <;> intro hc h)
 | (obtain ⟨y, hy, h⟩ := h; (first | (with_reducible first | have hw := Wq_i.w hy | have hw := Wq_4.w hy | have hw := Wq_9.w hy) | have hw := acall_swe 1000 20 (Wq_r.w hy) | have hw := acall_swe 1000 20 (Wq_0.w hy) | have hw := acall_swe 1000 20 (Wq_a.w hy)); replace hw := tY hw; (first | refine M.sC hw ?_ | refine M.sD hw ?_); clear hw hy; refine tB ?_)
 | (refine M.for1 (b := mc_1i) 103 [4,5,6,7,8,102] [5,4] (fun x => []) (fun x => []) [] h ?_ ?_ ?_ <;> first
 | (clear h; intro k a x Qn K hK1 hkN1 ha1 h hf; have hl := fact_int (factsE_find (n := 102) hf.1 rfl); clear hf; have hkd := kD hkN1; have hkB1 := kB hkN1; have hkI1 := kI (k := k) (by omega); unfold F_1i at h; unfold mc_1i; replace h := tY h; refine tK ha1 hkd hkN1 hkB1 hkI1 ?_)
  |(clear h; intro x K h; replace h := And.left (And.intro h trivial); unfold mc_1i; replace h := tY h; refine tB ?_)
  |(clear h; (try refine tB ?_); exact tU0; done))
 | (refine M.for1 (b := mc_1j) 134 [4,5,6,7,12,118,119,120,133] [5,4] (fun x => []) (fun x => []) [] h ?_ ?_ ?_ <;> first
 | (clear h; intro k a x Qn K hK2 hkN2 ha2 h hf; have hl := fact_int (factsE_find (n := 133) hf.1 rfl); clear hf; have hkd := kD hkN2; have hkB2 := kB hkN2; have hkI2 := kI (k := k) (by omega); unfold F_1j at h; unfold mc_1j; replace h := tY h; refine tK ha2 hkd hkN2 hkB2 hkI2 ?_)
  |(clear h; intro x K h; replace h := And.left (And.intro h trivial); unfold mc_1j; replace h := tY h; refine tB ?_)
  |(clear h; (try refine tB ?_); exact tU0; done))
 | (refine M.for1 (b := mc_1k) 120 [4,5,6,7,118,119] [5,4] (fun x => []) (fun x => []) [] h ?_ ?_ ?_ <;> first
 | (clear h; intro k a x Qn K hK3 hkN3 ha3 h hf; have hl := fact_int (factsE_find (n := 119) hf.1 rfl); clear hf; have hkd := kD hkN3; have hkB3 := kB hkN3; have hkI3 := kI (k := k) (by omega); unfold F_1k at h; unfold mc_1k; replace h := tY h; refine tK ha3 hkd hkN3 hkB3 hkI3 ?_)
  |(clear h; intro x K h; replace h := And.left (And.intro h trivial); unfold mc_1k; replace h := tY h; refine tB ?_)
  |(clear h; (try refine tB ?_); exact tU0; done))
 | (refine M.gv1 (ms := mg_2j) 100 [95,96,97,98,99] h ?_ ?_ <;> first
 | (clear h; intro K hK4; unfold mg_2j; refine tB ?_)
 | (clear h; intro b h; replace h := tY h; refine tB ?_))
 | (refine M.wh1 (b := mc_1t) [4,5] [5,4] (fun x => [(6, .int .i64 x)]) (fun x => []) [] h ?_ ?_ <;> first
 | (clear h; intro x Qn K hK5 h; unfold F_1t at h; unfold mc_1t; replace h := tY h; refine tB ?_)
  |(clear h; (try refine tB ?_); exact tU0; done))
 | (refine M.jn1 (b := mc_2k) [4,5] [4] (fun y => []) (fun y => [.o 5 (.cells [.int .i64 y.Credentials, .int .i64 y.Resources, .sl (y.Grants.map GGrant.v), .sl (y.Stores.map GStore.v), .sl (y.Mints.map GMint.v)])]) [.fzc 5] h ?_ ?_ <;> first
 | (clear h; intro Qn K hK6 h; replace h := tY h; refine tB ?_)
  |(clear h; intro y h; unfold mc_2k; replace h := tY h; refine tB ?_))
 | (first | simp only [ha1] | simp only [ha2] | simp only [ha3])
 | ((first | refine hK1 _ ?_ | refine hK2 _ ?_ | refine hK3 _ ?_ | refine hK5 _ ?_ | refine hK6 _ ?_); (try refine tB ?_); refine ⟨_, h, ?_⟩; exact tU0; done)
 | (refine hK4 _ ?_; exact tU; done)
 | (refine bfork (fun hc => ?_) (fun hc => ?_))
 | (refine tE ?_; (first | rw [M.lok_compU] | rw [M.lokD_compU]); refine tB ?_)
 | (refine tA ?_)
 | fail)
end Go.Ab
