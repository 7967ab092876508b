/- What the functions of this seat that lie on the laws' road compute (part LC), each for every input. By AI agents. -/
import Derived.Test.YtlcclnfjeinggaaProg
import Derived.KernelRfl
import Derived.Test.YtlcclnfjeinggaaAbFun
import Derived.Test.YtlcclnfjeinggaaLB
set_option linter.all false
set_option linter.all false
set_option maxRecDepth 20000
set_option maxHeartbeats 2000000
namespace Go.Ab
open Go.Proofs
noncomputable def F_1k (y1772 : List Int) (k1938 : Int) (a1939 : Int) (x1937 : Unit) : Option (Fl Unit Bool) :=
 (F_11 y1772 a1939).bind fun y1947 => bif (!y1947) then some (.ex false) else some (.nx ())
noncomputable def F_1l (y6 : GRights × GTape) (y1772 : List Int) (k1860 : Int) (a1861 : Int) (x1859 : Unit) : Option (Fl Unit Bool) :=
 (F_5 y6.1 a1861).bind fun y1926 => (forL (F_1k y1772) y1926 0 ()).bind fun o => o.elim (fun x1948 => some (.nx ())) (fun r1949 => some (.ex r1949))
noncomputable def F_1w (y6 : GRights × GTape) (x1365 : Int) : Option (Fl Int (Sum Unit Bool)) :=
 bif decide (x1365 < y6.1.Credentials) then (F_5 y6.1 x1365).bind fun y1772 => (forL (F_1l y6 y1772) y1772 0 ()).bind fun o => o.elim (fun x1950 => chk (in64 (x1365 + 1)) (some (.nx (x1365 + 1)))) (fun r1951 => some (.ex (.inr r1951))) else some (.ex (.inl ()))
noncomputable def F_1m (y1956 : Int × GTape) (k2481 : Int) (k2676 : Int) (a2677 : GGrant) (x2675 : Int) : Option Int :=
 grp ((decide (a2677.Credential = y1956.1) && decide (a2677.Resource = k2481))) fun b2685 => bif b2685 then some (max x2675 a2677.Right) else some x2675
noncomputable def F_1n (y6 : GRights × GTape) (y1956 : Int × GTape) (k2481 : Int) (a2482 : Int) (x2480 : Unit) : Option (Fl Unit Bool) :=
 (foldL (F_1m y1956 k2481) y6.1.Grants 0 0).bind fun x2686 => bif (!decide (a2482 = x2686)) then some (.ex false) else some (.nx ())
noncomputable def F_12 (l_ : List Int) : Option Bool :=
 bif decide (300 < (l_.length : Int)) then F_i.bind fun y4 => some y4 else (F_n (GTape.mk l_ 0)).bind fun y6 => (loop (F_1w y6) 0).bind fun r1952 => Sum.elim (fun u1953 => (F_2 y6.2 y6.1.Credentials).bind fun y1956 => (F_4 (GRights.mk y6.1.Credentials y6.1.Resources y6.1.Grants [] []) y1956.1).bind fun y1958 => (F_5 (GRights.mk y6.1.Credentials y6.1.Resources y6.1.Grants [] []) y1956.1).bind fun y1968 => (F_e y1968 [y1956.1]).bind fun y1969 => grp (((!y1969) || (!decide ((y1958.length : Int) = y6.1.Resources)))) fun b1970 => bif b1970 then some false else (forL (F_1n y6 y1956) y1958 0 ()).bind fun o => o.elim (fun x2687 => F_i.bind fun y2690 => some y2690) (fun r2688 => some r2688)) (fun u1954 => some u1954) r1952
@[irreducible] def mc_1k : MC :=
 (sR [mo (.bin false .lss (.t 46) (.t 45)) 47]
 (.seq (.cond (.t 47)
 .skip
 (.exit 4))
 (.seq (.block 5
 (sR [mo (.iad 1 (.t 44) (.t 46)) 48,
 oL 48 49,
 oV 49 10]
 (sR [oV 6 50,
 oV 10 51,
 mo (.call (.f 12) [(.t 50),(.t 51)] [] []) 52,
 mo (.not (.t 52)) 53]
 (.cond (.t 53)
 (sR [mo (.mv (.c (.bool false))) 2]
 .ret)
 .skip))))
 (.reg [mo (.bin true .add (.t 46) (cI 1)) 54,
 oV 54 46]))))
@[irreducible] def mc_1l : MC :=
 (sR [mo (.bin false .lss (.t 38) (.t 37)) 39]
 (.seq (.cond (.t 39)
 .skip
 (.exit 2))
 (.seq (.block 3
 (sR [mo (.iad 1 (.t 36) (.t 38)) 40,
 oL 40 41,
 oV 41 8]
 (sR [mo (.ld (some 5) (.t 4)) 42,
 oV 8 43,
 mo (.call (.f 10) [(.t 42),(.t 43)] [] []) 44,
 mo (.len false (.t 44)) 45,
 oC 0 46]
 (.block 4
 (.loop mc_1k)))))
 (.reg [mo (.bin true .add (.t 38) (cI 1)) 55,
 oV 55 38]))))
@[irreducible] def mc_1w : MC :=
 (.seq (sR [oV 5 27,
 oF 0 4 28,
 oL 28 29,
 mo (.bin false .lss (.t 27) (.t 29)) 30]
 (.cond (.t 30)
 .skip
 (.exit 0)))
 (.seq (.block 1
 (sR [mo (.ld (some 5) (.t 4)) 33,
 oV 5 34,
 mo (.call (.f 10) [(.t 33),(.t 34)] [] []) 35,
 oV 35 6]
 (sR [oV 6 36,
 mo (.len false (.t 36)) 37,
 oC 0 38]
 (.block 2
 (.loop mc_1l)))))
 (.reg [oV 5 31,
 mo (.bin true .add (.t 31) (cI 1)) 32,
 oV 32 5])))
@[irreducible] def mg_2m : List MOp := [gF 72 73 (.mv (.t 12)),
 gF 72 74 (.len false (.t 73)),
 gF 72 75 (.fad 1 (.t 4)),
 gF 72 76 (.ld none (.t 75)),
 gF 72 77 (.bin false .neq (.t 74) (.t 76)),
 mo (.pick (.t 72) (.c (.bool true)) (.t 77)) 78]
@[irreducible] def mg_2n : List MOp := [gT 97 98 (.fad 1 (.t 17)),
 gT 97 99 (.ld none (.t 98)),
 gT 97 100 (.mv (.t 13)),
 gT 97 101 (.bin false .eql (.t 99) (.t 100)),
 mo (.pick (.t 97) (.t 101) (.c (.bool false))) 102]
@[irreducible] def mc_1m : MC :=
 (sR [mo (.bin false .lss (.t 89) (.t 88)) 90]
 (.seq (.cond (.t 90)
 .skip
 (.exit 8))
 (.seq (.block 9
 (sR [mo (.iad 3 (.t 87) (.t 89)) 91,
 mo (.ld (some 3) (.t 91)) 92,
 mo (.alloc [(.int .i64 0),(.int .i64 0),(.int .i64 0)]) 17,
 ⟨.st 3 (.t 17) (.t 92), none, none⟩]
 (.seq (.regI [.op (oF 0 17 93),
 .op (oL 93 94),
 .op (oV 11 95),
 .op (mo (.bin false .eql (.t 94) (.t 95)) 96),
 .op (oV 96 97),
 .grp mg_2n])
 (.cond (.t 102)
 (.note (.gc [4,11,13,14,15,17,79,80,81,87,88,89,98,99,100,101]) (.reg [oV 15 103,
 oF 2 17 104,
 oL 104 105,
 mo (.mm true (.t 103) (.t 105)) 106,
 oV 106 15]))
 .skip))))
 (.reg [mo (.bin true .add (.t 89) (cI 1)) 107,
 oV 107 89]))))
@[irreducible] def mc_1n : MC :=
 (sR [mo (.bin false .lss (.t 81) (.t 80)) 82]
 (.seq (.cond (.t 82)
 .skip
 (.exit 6))
 (.seq (.block 7
 (sR [oV 81 83,
 mo (.iad 1 (.t 79) (.t 81)) 84,
 oL 84 85,
 oV 83 13,
 oV 85 14]
 (sR [oC 0 15]
 (.seq (sR [oF 2 4 86,
 oL 86 87,
 mo (.len false (.t 87)) 88,
 oC 0 89]
 (.block 8
 (.loop mc_1m)))
 (sR [oV 14 108,
 oV 15 109,
 mo (.bin false .neq (.t 108) (.t 109)) 110]
 (.cond (.t 110)
 (sR [mo (.mv (.c (.bool false))) 2]
 .ret)
 .skip))))))
 (.reg [mo (.bin true .add (.t 81) (cI 1)) 111,
 oV 111 81]))))
def mc_12 : MC :=
 (sR [mo (.mv (.c (.bool false))) 2]
 (.seq (sR [oV 0 18,
 mo (.len false (.t 18)) 19,
 mo (.bin false .gtr (.t 19) (cI 300)) 20]
 (.cond (.t 20)
 (sR [mo (.call (.f 7) [] [] []) 21,
 oV 21 2]
 .ret)
 .skip))
 (sR [oV 0 22,
 mo (.build [(.sl []),(.int .i64 0)] [(0,1,(.t 22))]) 23,
 mo (.box (.t 23)) 24,
 oV 24 3]
 (.seq (.note (.gc [3,73,74,75,76,77,98,99,100,101]) (.reg [oV 3 25,
 mo (.call (.f 8) [(.t 25)] [24] []) 26,
 mo (.alloc [(.int .i64 0),(.int .i64 0),(.sl []),(.sl []),(.sl [])]) 4,
 ⟨.st 5 (.t 4) (.t 26), none, none⟩]))
 (.seq (sR [oC 0 5]
 (.block 0
 (.loop mc_1w)))
 (sR [oF 3 4 56,
 ⟨.st 1 (.t 56) (.c (.sl [])), none, none⟩,
 oF 4 4 57,
 ⟨.st 1 (.t 57) (.c (.sl [])), none, none⟩]
 (sR [oV 3 58,
 oF 0 4 59,
 oL 59 60,
 mo (.call (.f 9) [(.t 58),(.t 60)] [24] []) 61,
 oV 61 11]
 (sR [mo (.ld (some 5) (.t 4)) 62,
 oV 11 63,
 mo (.call (.f 11) [(.t 62),(.t 63)] [] []) 64,
 oV 64 12]
 (.seq (.seq (.note (.gc [4,11,12,73,74,75,76,77,98,99,100,101]) (.regI [.op (mo (.ld (some 5) (.t 4)) 65),
 .op (oV 11 66),
 .op (mo (.call (.f 10) [(.t 65),(.t 66)] [] []) 67),
 .op (oV 11 68),
 .op (mo (.lsl 1 [(.t 68)]) 69),
 .op (mo (.call (.f 14) [(.t 67),(.t 69)] [] []) 70),
 .op (mo (.not (.t 70)) 71),
 .op (oV 71 72),
 .grp mg_2m]))
 (.cond (.t 78)
 (sR [mo (.mv (.c (.bool false))) 2]
 .ret)
 .skip))
 (.seq (.seq (.note (.gc [4,11,12,98,99,100,101]) (.reg [oV 12 79,
 mo (.len false (.t 79)) 80,
 oC 0 81]))
 (.block 6
 (.loop mc_1n)))
 (sR [mo (.call (.f 7) [] [] []) 112,
 oV 112 2]
 .ret)))))))))))
theorem Wq_12 {l_ : List Int} : Cn Try.prog 5 [.sl (l_.map (V.int .i64))] [] (F_12 l_) (fun z => .bool z) (fun z => []) := fun Q Q' h hQ => by
 refine acallM mc_12 [] [] [.t 2] Try.func5 fun M => ?_
 unfold F_12 at h
 unfold mc_12
 replace h := tY h
 refine tB ?_
 repeat' (first
 | (exact tZ)
 | ((first | refine oblg h ?_ | refine roomG h ?_ | refine fork h ?_ ?_ | refine forkS h ?_ ?_) <;> clear h <;> intro hc h)
 | (obtain ⟨y, hy, h⟩ := h; (first | (with_reducible first | have hw := Wq_i.w hy | have hw := Wq_5.w hy | have hw := Wq_11.w hy | have hw := Wq_4.w hy | have hw := Wq_e.w hy) | have hw := acall_swe 1000 24 (Wq_n.w hy) | have hw := acall_swe 1000 24 (Wq_2.w hy)); replace hw := tY hw; (first | refine M.sC hw ?_ | refine M.sD hw ?_); clear hw hy; refine tB ?_)
 | (refine M.for1 (b := mc_1k) 46 [3,4,5,6,36,37,38,44,45] [4,24] (fun x => []) (fun x => []) [] h ?_ ?_ ?_ <;> first
 | (clear h; intro k a x Qn K hK1 hkN1 ha1 h hf; have hl := fact_int (factsE_find (n := 45) hf.1 rfl); clear hf; have hkd := kD hkN1; have hkB1 := kB hkN1; have hkI1 := kI (k := k) (by omega); unfold F_1k at h; unfold mc_1k; replace h := tY h; refine tK ha1 hkd hkN1 hkB1 hkI1 ?_)
  |(clear h; intro x K h; replace h := And.left (And.intro h trivial); unfold mc_1k; replace h := tY h; refine tB ?_)
  |(clear h; (try refine tB ?_); exact tU0; done))
 | (refine M.for1 (b := mc_1l) 38 [3,4,5,6,36,37] [4,24] (fun x => []) (fun x => []) [] h ?_ ?_ ?_ <;> first
 | (clear h; intro k a x Qn K hK2 hkN2 ha2 h hf; have hl := fact_int (factsE_find (n := 37) hf.1 rfl); clear hf; have hkd := kD hkN2; have hkB2 := kB hkN2; have hkI2 := kI (k := k) (by omega); unfold F_1l at h; unfold mc_1l; replace h := tY h; refine tK ha2 hkd hkN2 hkB2 hkI2 ?_)
  |(clear h; intro x K h; replace h := And.left (And.intro h trivial); unfold mc_1l; replace h := tY h; refine tB ?_)
  |(clear h; (try refine tB ?_); exact tU0; done))
 | (refine M.wh1 (b := mc_1w) [3,4] [4,24] (fun x => [(5, .int .i64 x)]) (fun x => []) [] h ?_ ?_ <;> first
 | (clear h; intro x Qn K hK3 h; unfold F_1w at h; unfold mc_1w; replace h := tY h; refine tB ?_)
  |(clear h; (try refine tB ?_); exact tU0; done))
 | (refine M.gv1 (ms := mg_2n) 102 [98,99,100,101] h ?_ ?_ <;> first
 | (clear h; intro K hK4; unfold mg_2n; refine tB ?_)
 | (clear h; intro b h; replace h := tY h; refine tB ?_))
 | (refine M.fold1 (b := mc_1m) 89 [4,11,13,14,79,80,81,87,88] [4] (fun x => [(15, .int .i64 x)]) (fun x => []) [] h ?_ ?_ ?_ <;> first
 | (clear h; intro k a x Qn K hK5 hkN5 ha5 h hf; have hl := fact_int (factsE_find (n := 88) hf.1 rfl); clear hf; have hkd := kD hkN5; have hkB5 := kB hkN5; have hkI5 := kI (k := k) (by omega); unfold F_1m at h; unfold mc_1m; replace h := tY h; refine tK ha5 hkd hkN5 hkB5 hkI5 ?_)
  |(clear h; intro x K h; replace h := And.left (And.intro h trivial); unfold mc_1m; replace h := tY h; refine tB ?_)
  |(clear h; (try refine tB ?_); exact tU0; done))
 | (refine M.for1 (b := mc_1n) 81 [4,11,79,80] [4] (fun x => []) (fun x => []) [] h ?_ ?_ ?_ <;> first
 | (clear h; intro k a x Qn K hK6 hkN6 ha6 h hf; have hl := fact_int (factsE_find (n := 80) hf.1 rfl); clear hf; have hkd := kD hkN6; have hkB6 := kB hkN6; have hkI6 := kI (k := k) (by omega); unfold F_1n at h; unfold mc_1n; replace h := tY h; refine tK ha6 hkd hkN6 hkB6 hkI6 ?_)
  |(clear h; intro x K h; replace h := And.left (And.intro h trivial); unfold mc_1n; replace h := tY h; refine tB ?_)
  |(clear h; (try refine tB ?_); exact tU0; done))
 | (refine M.gv1 (ms := mg_2m) 78 [73,74,75,76,77] h ?_ ?_ <;> first
 | (clear h; intro K hK7; unfold mg_2m; refine tB ?_)
 | (clear h; intro b h; replace h := tY h; refine tB ?_))
 | (first | simp only [ha1] | simp only [ha2] | simp only [ha5] | simp only [ha6])
 | ((first | refine hK1 _ ?_ | refine hK2 _ ?_ | refine hK3 _ ?_ | refine hK5 _ ?_ | refine hK6 _ ?_); (try refine tB ?_); refine ⟨_, h, ?_⟩; exact tU0; done)
 | ((first | refine hK4 _ ?_ | refine hK7 _ ?_); exact tU; done)
 | (refine bfork (fun hc => ?_) (fun hc => ?_))
 | (refine tE ?_; (first | rw [M.lok_compU] | rw [M.lokD_compU]); refine tB ?_)
 | (refine tA ?_)
 | fail)
end Go.Ab
