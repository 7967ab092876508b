/- What the functions of this seat that lie on the laws' road compute (part LC), each for every input. By AI agents. -/
import Derived.Test.YtlcclnfjeinggaaProg
import Derived.KernelRfl
import Derived.Test.YtlcclnfjeinggaaAbFun
import Derived.Test.YtlcclnfjeinggaaLB
set_option linter.all false
set_option linter.all false
set_option maxRecDepth 20000
set_option maxHeartbeats 2000000
namespace Go.Ab
open Go.Proofs
noncomputable def F_1l (y390 : List Int) (k401 : Int) (a402 : Int) (x400 : Unit) : Option (Fl Unit Bool) :=
 chk (inb k401 y390.length) (bif decide ((y390.getD (k401).toNat default) < a402) then some (.ex false) else some (.nx ()))
noncomputable def F_1m (y380 : (List Int) × GTape) (k416 : Int) (a417 : Int) (x415 : Unit) : Option (Fl Unit Bool) :=
 (F_o y380.1 a417).bind fun y425 => bif (!y425) then some (.ex false) else some (.nx ())
noncomputable def F_1w (y6 : GRights × GTape) (y8 : Int × GTape) (y11 : List Int) (y12 : List Int) (x285 : Int × GTape) : Option (Fl (Int × GTape) (Sum Unit Bool)) :=
 bif decide (x285.1 < 6) then jn (α := Fl GTape Bool) ((F_u x285.2 y6.1.Credentials 2).bind fun y380 => (F_o y380.1 y8.1).bind fun y387 => bif (!y387) then some (.nx y380.2) else (F_4 y6.1 y380.1).bind fun y388 => bif (!y388) then some (.nx y380.2) else (F_c y6.1 y380.1).bind fun y390 => bif (!decide ((y390.length : Int) = (y12.length : Int))) then some (.ex false) else (forL (F_1l y390) y12 0 ()).bind fun o => o.elim (fun x403 => (forL (F_1m y380) y11 0 ()).bind fun o => o.elim (fun x426 => some (.nx y380.2)) (fun r427 => some (.ex r427))) (fun r404 => some (.ex r404))) fun o => o.elim (fun j378 => chk (in64 (x285.1 + 1)) (some (.nx ((x285.1 + 1), j378)))) (fun r428 => some (.ex (.inr r428))) else some (.ex (.inl ()))
noncomputable def F_16 (l_ : List Int) : Option Bool :=
 bif decide (300 < (l_.length : Int)) then F_j.bind fun y4 => some y4 else (F_n (GTape.mk l_ 0)).bind fun y6 => (F_2 y6.2 y6.1.Credentials).bind fun y8 => (F_a y6.1 y8.1).bind fun y11 => (F_5 y6.1 y8.1).bind fun y12 => jn (α := Fl Unit Bool) ((F_o y11 y8.1).bind fun y35 => bif (!y35) then grp (true) fun b36 => bif b36 then some (.ex false) else some (.nx ()) else (F_4 y6.1 y11).bind fun y37 => bif (!y37) then grp (true) fun b38 => bif b38 then some (.ex false) else some (.nx ()) else (F_c y6.1 y11).bind fun y39 => (F_g y39 y12).bind fun y40 => grp (((!y40) || (!decide ((y12.length : Int) = y6.1.Resources)))) fun b41 => bif b41 then some (.ex false) else some (.nx ())) fun o => o.elim (fun j27 => (loop (F_1w y6 y8 y11 y12) (0, y8.2)).bind fun r429 => Sum.elim (fun u430 => F_j.bind fun y433 => some y433) (fun u431 => some u431) r429) (fun r434 => some r434)
@[irreducible] def mg_1x : List MOp := [gF 51 52 (.mv (.t 7)),
 gF 51 53 (.len false (.t 52)),
 gF 51 54 (.fad 1 (.t 4)),
 gF 51 55 (.ld none (.t 54)),
 gF 51 56 (.bin false .neq (.t 53) (.t 55)),
 mo (.pick (.t 51) (.c (.bool true)) (.t 56)) 57]
@[irreducible] def mc_1l : MC :=
 (sR [mo (.bin false .lss (.t 86) (.t 85)) 87]
 (.seq (.cond (.t 87)
 .skip
 (.exit 2))
 (.seq (.block 3
 (sR [oV 86 88,
 oV 88 11]
 (.seq (.regD [oV 10 89,
 oV 11 90,
 mo (.iad 1 (.t 89) (.t 90)) 91,
 oL 91 92,
 oV 7 93,
 oV 11 94,
 mo (.iad 1 (.t 93) (.t 94)) 95,
 oL 95 96,
 mo (.bin false .lss (.t 92) (.t 96)) 97]
 [[],[],[0,1],[2],[],[],[4,5],[6],[3,7]]
 [[],[],[0,1],[0,1,2],[],[],[4,5],[4,5,6],[0,1,2,3,4,5,6,7]])
 (.cond (.t 97)
 (sR [mo (.mv (.c (.bool false))) 2]
 .ret)
 .skip))))
 (.reg [mo (.bin true .add (.t 86) (cI 1)) 98,
 oV 98 86]))))
@[irreducible] def mc_1m : MC :=
 (sR [mo (.bin false .lss (.t 101) (.t 100)) 102]
 (.seq (.cond (.t 102)
 .skip
 (.exit 4))
 (.seq (.block 5
 (sR [mo (.iad 1 (.t 99) (.t 101)) 103,
 oL 103 104,
 oV 104 13]
 (sR [oV 9 105,
 oV 13 106,
 mo (.call (.f 12) [(.t 105),(.t 106)] [] []) 107,
 mo (.not (.t 107)) 108]
 (.cond (.t 108)
 (sR [mo (.mv (.c (.bool false))) 2]
 .ret)
 .skip))))
 (.reg [mo (.bin true .add (.t 101) (cI 1)) 109,
 oV 109 101]))))
@[irreducible] def mc_2o : MC :=
 (.reg [oV 8 60,
 mo (.bin true .add (.t 60) (cI 1)) 61,
 oV 61 8])
@[irreducible] def mc_1w : MC :=
 (.seq (sR [oV 8 58,
 mo (.bin false .lss (.t 58) (cI 6)) 59]
 (.cond (.t 59)
 .skip
 (.exit 0)))
 (.cut (.block 1
 (sR [oV 3 62,
 oF 0 4 63,
 oL 63 64,
 mo (.call (.f 16) [(.t 62),(.t 64), (cI 2)] [20] []) 65,
 oV 65 9]
 (.seq (sR [oV 9 66,
 oV 5 67,
 mo (.call (.f 12) [(.t 66),(.t 67)] [] []) 68,
 mo (.not (.t 68)) 69,
 oV 69 70,
 gF 70 71 (.ld (some 5) (.t 4)),
 gF 70 72 (.mv (.t 9)),
 gF 70 73 (.call (.f 13) [(.t 71),(.t 72)] [] []),
 gF 70 74 (.not (.t 73)),
 mo (.pick (.t 70) (.c (.bool true)) (.t 74)) 75]
 (.cond (.t 75)
 (.exit 1)
 .skip))
 (.seq (.note (.gc [3,4,5,6,7,8,9,71,72,73,74]) (.reg [mo (.ld (some 5) (.t 4)) 76,
 oV 9 77,
 mo (.call (.f 15) [(.t 76),(.t 77)] [] []) 78,
 oV 78 10]))
 (.seq (sR [oV 10 79,
 mo (.len false (.t 79)) 80,
 oV 7 81,
 mo (.len false (.t 81)) 82,
 mo (.bin false .neq (.t 80) (.t 82)) 83]
 (.cond (.t 83)
 (sR [mo (.mv (.c (.bool false))) 2]
 .ret)
 .skip))
 (.seq (.seq (.note (.gc [3,4,5,6,7,8,9,10,71,72,73,74]) (.reg [oV 7 84,
 mo (.len false (.t 84)) 85,
 oC 0 86]))
 (.block 2
 (.loop mc_1l)))
 (sR [oV 6 99,
 mo (.len false (.t 99)) 100,
 oC 0 101]
 (.block 4
 (.loop mc_1m)))))))))
 mc_2o))
@[irreducible] def mc_2p : MC :=
 (.seq (sR [oC 0 8]
 (.block 0
 (.loop mc_1w)))
 (sR [mo (.call (.f 7) [] [] []) 110,
 oV 110 2]
 .ret))
def mc_16 : MC :=
 (sR [mo (.mv (.c (.bool false))) 2]
 (.seq (sR [oV 0 14,
 mo (.len false (.t 14)) 15,
 mo (.bin false .gtr (.t 15) (cI 300)) 16]
 (.cond (.t 16)
 (sR [mo (.call (.f 7) [] [] []) 17,
 oV 17 2]
 .ret)
 .skip))
 (sR [oV 0 18,
 mo (.build [(.sl []),(.int .i64 0)] [(0,1,(.t 18))]) 19,
 mo (.box (.t 19)) 20,
 oV 20 3]
 (.seq (.note (.gc [3,38,39,40,41,44,45,46,47,48,49,52,53,54,55,56,71,72,73,74]) (.reg [oV 3 21,
 mo (.call (.f 8) [(.t 21)] [20] []) 22,
 mo (.alloc [(.int .i64 0),(.int .i64 0),(.sl []),(.sl []),(.sl [])]) 4,
 ⟨.st 5 (.t 4) (.t 22), none, none⟩]))
 (sR [oV 3 23,
 oF 0 4 24,
 oL 24 25,
 mo (.call (.f 9) [(.t 23),(.t 25)] [20] []) 26,
 oV 26 5]
 (.seq (.regD [mo (.ld (some 5) (.t 4)) 27,
 oV 5 28,
 mo (.call (.f 10) [(.t 27),(.t 28)] [] []) 29,
 mo (.ld (some 5) (.t 4)) 30,
 oV 5 31,
 mo (.call (.f 11) [(.t 30),(.t 31)] [] []) 32,
 oV 29 6,
 oV 32 7]
 [[],[],[0,1],[],[],[3,4,2],[2,5,0,1,2],[5,6,0,1,2,3,4,5,6]]
 [[],[],[0,1],[],[],[0,1,2,3,4],[0,1,2,3,4,5],[0,1,2,3,4,5,6]])
 (.cut (.seq (.note (.gc [3,4,5,6,7,38,39,40,41,44,45,46,47,48,49,52,53,54,55,56,71,72,73,74]) (.regI [.op (oV 6 33),
 .op (oV 5 34),
 .op (mo (.call (.f 12) [(.t 33),(.t 34)] [] []) 35),
 .op (mo (.not (.t 35)) 36),
 .op (oV 36 37),
 .op (gF 37 38 (.ld (some 5) (.t 4))),
 .op (gF 37 39 (.mv (.t 6))),
 .op (gF 37 40 (.call (.f 13) [(.t 38),(.t 39)] [] [])),
 .op (gF 37 41 (.not (.t 40))),
 .op (mo (.pick (.t 37) (.c (.bool true)) (.t 41)) 42),
 .op (oV 42 43),
 .op (gF 43 44 (.ld (some 5) (.t 4))),
 .op (gF 43 45 (.mv (.t 6))),
 .op (gF 43 46 (.call (.f 15) [(.t 44),(.t 45)] [] [])),
 .op (gF 43 47 (.mv (.t 7))),
 .op (gF 43 48 (.call (.f 14) [(.t 46),(.t 47)] [] [])),
 .op (gF 43 49 (.not (.t 48))),
 .op (mo (.pick (.t 43) (.c (.bool true)) (.t 49)) 50),
 .op (oV 50 51),
 .grp mg_1x]))
 (.cond (.t 57)
 (sR [mo (.mv (.c (.bool false))) 2]
 .ret)
 .skip))
 mc_2p)))))))
theorem Wq_16 {l_ : List Int} : Cn Try.prog 3 [.sl (l_.map (V.int .i64))] [] (F_16 l_) (fun z => .bool z) (fun z => []) := fun Q Q' h hQ => by
 refine acallM mc_16 [] [] [.t 2] Try.func3 fun M => ?_
 unfold F_16 at h
 unfold mc_16
 replace h := tY h
 refine tB ?_
 repeat' (first
 | (exact tZ)
 | ((first | refine oblg h ?_ | refine roomG h ?_ | refine fork h ?_ ?_ | refine forkS h ?_ ?_) <;> clear h <;> intro hc h)
 | (obtain ⟨y, hy, h⟩ := h; (first | (with_reducible first | have hw := Wq_j.w hy | have hw := Wq_a.w hy | have hw := Wq_5.w hy | have hw := Wq_o.w hy | have hw := Wq_4.w hy | have hw := Wq_c.w hy | have hw := Wq_g.w hy) | have hw := acall_swe 1000 20 (Wq_n.w hy) | have hw := acall_swe 1000 20 (Wq_2.w hy) | have hw := acall_swe 1000 20 (Wq_u.w hy)); replace hw := tY hw; (first | refine M.sC hw ?_ | refine M.sD hw ?_); clear hw hy; refine tB ?_)
 | (refine M.gv1 (ms := mg_1x) 57 [52,53,54,55,56] h ?_ ?_ <;> first
 | (clear h; intro K hK1; unfold mg_1x; refine tB ?_)
 | (clear h; intro b h; replace h := tY h; refine tB ?_))
 | (refine M.gv1 (ms := mg_1x) 57 [52,53,54,55,56] h ?_ ?_ <;> first
 | (clear h; intro K hK2; unfold mg_1x; refine tB ?_)
 | (clear h; intro b h; replace h := tY h; refine tB ?_))
 | (refine M.gv1 (ms := mg_1x) 57 [52,53,54,55,56] h ?_ ?_ <;> first
 | (clear h; intro K hK3; unfold mg_1x; refine tB ?_)
 | (clear h; intro b h; replace h := tY h; refine tB ?_))
 | (refine M.for1 (b := mc_1l) 86 [3,4,5,6,7,8,9,10,71,72,73,74,85] [4,20] (fun x => []) (fun x => []) [] h ?_ ?_ ?_ <;> first
 | (clear h; intro k a x Qn K hK4 hkN4 ha4 h hf; have hl := fact_int (factsE_find (n := 85) hf.1 rfl); clear hf; have hkd := kD hkN4; have hkB4 := kB hkN4; have hkI4 := kI (k := k) (by omega); unfold F_1l at h; unfold mc_1l; replace h := tY h; refine tK ha4 hkd hkN4 hkB4 hkI4 ?_)
  |(clear h; intro x K h; replace h := And.left (And.intro h trivial); unfold mc_1l; replace h := tY h; refine tB ?_)
  |(clear h; (try refine tB ?_); exact tU0; done))
 | (refine M.for1 (b := mc_1m) 101 [3,4,5,6,7,8,9,71,72,73,74,99,100] [4,20] (fun x => []) (fun x => []) [] h ?_ ?_ ?_ <;> first
 | (clear h; intro k a x Qn K hK5 hkN5 ha5 h hf; have hl := fact_int (factsE_find (n := 100) hf.1 rfl); clear hf; have hkd := kD hkN5; have hkB5 := kB hkN5; have hkI5 := kI (k := k) (by omega); unfold F_1m at h; unfold mc_1m; replace h := tY h; refine tK ha5 hkd hkN5 hkB5 hkI5 ?_)
  |(clear h; intro x K h; replace h := And.left (And.intro h trivial); unfold mc_1m; replace h := tY h; refine tB ?_)
  |(clear h; (try refine tB ?_); exact tU0; done))
 | (refine M.jnE (b := mc_2o) [3,4,5,6,7,8] [4] (fun y => []) (fun y => [.o 20 (.cells [.sl (y.L.map (V.int .i64)), .int .i64 y.at_])]) [] h ?_ ?_ <;> first
 | (clear h; intro Qn K hK6 h; replace h := tY h; refine tB ?_)
  |(clear h; intro y h; unfold mc_2o; replace h := tY h; refine tB ?_))
 | (refine M.wh1 (b := mc_1w) [3,4,5,6,7] [4] (fun x => [(8, .int .i64 x.1)]) (fun x => [.o 20 (.cells [.sl (x.2.L.map (V.int .i64)), .int .i64 x.2.at_])]) [] h ?_ ?_ <;> first
 | (clear h; intro x Qn K hK7 h; unfold F_1w at h; unfold mc_1w; replace h := tY h; refine tB ?_)
  |(clear h; (try refine tB ?_); exact tU0; done))
 | (refine M.jnE (b := mc_2p) [3,4,5,6,7] [4,20] (fun y => []) (fun y => []) [] h ?_ ?_ <;> first
 | (clear h; intro Qn K hK8 h; replace h := tY h; refine tB ?_)
  |(clear h; intro y h; unfold mc_2p; replace h := tY h; refine tB ?_))
 | (first | simp only [ha4] | simp only [ha5])
 | ((first | refine hK1 _ ?_ | refine hK2 _ ?_ | refine hK3 _ ?_); exact tU; done)
 | ((first | refine hK4 _ ?_ | refine hK5 _ ?_ | refine hK6 _ ?_ | refine hK7 _ ?_ | refine hK8 _ ?_); (try refine tB ?_); refine ⟨_, h, ?_⟩; exact tU0; done)
 | (refine bfork (fun hc => ?_) (fun hc => ?_))
 | (refine tE ?_; (first | rw [M.lok_compU] | rw [M.lokD_compU]); refine tB ?_)
 | (refine tA ?_)
 | fail)
end Go.Ab
