/- What the functions of this seat that lie on the laws' road compute (part LC), each for every input. By AI agents. -/
import Derived.Test.YtkdkcffaohmedaaDoorProg
import Derived.KernelRfl
import Derived.Test.YtkdkcffaohmedaaDoorAbFun
import Derived.Test.YtkdkcffaohmedaaDoorLQ
set_option linter.all false
set_option linter.all false
set_option maxRecDepth 20000
set_option maxHeartbeats 2000000
namespace Go.Ab
open Go.Proofs
noncomputable def F_1t (a448 : List UInt8) (k605 : Int) (a606 : Int) (x604 : Unit) : Option (Fl Unit Bool) :=
 (F_d a606 a448).bind fun y626 => (F_g a606 a448).bind fun y628 => bif (!decide (y626.2 = y628.2)) then some (.ex false) else (F_q y626.1 y628.1).bind fun y630 => bif (!y630) then some (.ex false) else some (.nx ())
noncomputable def F_1u (id_ : Int) (k447 : Int) (a448 : List UInt8) (x446 : Unit) : Option (Fl Unit Bool) :=
 bif decide (3000 < (a448.length : Int)) then some (.nx ()) else chk (in64 (1 + (id_ % 2 ^ 8))) ((forL (F_1t a448) [id_, (1 + (id_ % 2 ^ 8))] 0 ()).bind fun o => o.elim (fun x631 => some (.nx ())) (fun r632 => some (.ex r632)))
noncomputable def F_1k (tape_ : List Int) (raw_ : List UInt8) (id_ : Int) (at_ : Int) (by_ : UInt8) : Option Bool :=
 (F_15 (GTape.mk tape_ 0)).bind fun y2 => (F_0 y2.2 (y2.1.Objects.length : Int)).bind fun y5 => chk (inb y5.1 y2.1.Objects.length) ((F_a (y2.1.Objects.getD (y5.1).toNat default)).bind fun y6 => chk (room (([] : List UInt8).length + y6.length) 1) (chk (divs (at_ % 2 ^ 8) ((([] : List UInt8) ++ y6).length : Int)) (chk (inb ((at_ % 2 ^ 8) % ((([] : List UInt8) ++ y6).length : Int)) (([] : List UInt8) ++ y6).length) (chk (room (([] : List UInt8).length + y6.length) 1) (chk (room ((([] : List UInt8) ++ y6).length + [10].length) 1) (chk (in64 ((y6.length : Int) - 1)) (chk (inc 0 ((y6.length : Int) - 1) y6.length) ((forL (F_1u id_) [raw_, y6, (([] : List UInt8) ++ y6).set ((((at_ % 2 ^ 8) % ((([] : List UInt8) ++ y6).length : Int))).toNat) ([10,32,48,47,49,97,116,57].getD (((by_.toNat : Int) % 2 ^ 3)).toNat 0), ((([] : List UInt8) ++ y6) ++ [10]), (y6.take ((((y6.length : Int) - 1)).toNat)),[99,111,109,109,105,116,10,116,114,101,101,32,49,10,116,114,101,101,32,49,10,97,117,116,104,111,114,32,97,10,116,105,109,101,32,48,10]] 0 ()).bind fun o => o.elim (fun x633 => F_y.bind fun y636 => some y636) (fun r634 => some r634)))))))))
@[irreducible] def mc_1t : MC :=
 (sR [mo (.bin false .lss (.t 81) (.t 80)) 82]
 (.seq (.cond (.t 82)
 .skip
 (.exit 2))
 (.seq (.block 3
 (sR [mo (.iad 1 (.t 79) (.t 81)) 83,
 oL 83 84,
 oV 84 18]
 (sR [oV 18 86,
 oV 16 87,
 mo (.call (.f 22) [(.t 86),(.t 87)] [] []) 88,
 oV 88 85,
 mo (.ext 0 (.t 85)) 89,
 mo (.ext 1 (.t 85)) 90,
 mo (.alloc [(.int .i64 0),(.int .i64 0),(.sl []),(.sl []),(.int .i64 0),(.sl []),(.str []),(.int .i64 0)]) 19,
 ⟨.st 8 (.t 19) (.t 89), none, none⟩,
 oV 90 20]
 (.seq (.note (.gc [2,16,18,19,20,66,67,68,79,80,81,101,102,103,104]) (.reg [oV 18 92,
 oV 16 93,
 mo (.call (.f 23) [(.t 92),(.t 93)] [] []) 94,
 oV 94 91,
 mo (.ext 0 (.t 91)) 95,
 mo (.ext 1 (.t 91)) 96,
 mo (.alloc [(.int .i64 0),(.int .i64 0),(.sl []),(.sl []),(.int .i64 0),(.sl []),(.str []),(.int .i64 0)]) 21,
 ⟨.st 8 (.t 21) (.t 95), none, none⟩,
 oV 96 22]))
 (sR [oV 20 97,
 oV 22 98,
 mo (.bin false .neq (.t 97) (.t 98)) 99,
 oV 99 100,
 gF 100 101 (.ld (some 8) (.t 19)),
 gF 100 102 (.ld (some 8) (.t 21)),
 gF 100 103 (.call (.f 19) [(.t 101),(.t 102)] [] []),
 gF 100 104 (.not (.t 103)),
 mo (.pick (.t 100) (.c (.bool true)) (.t 104)) 105]
 (.cond (.t 105)
 (sR [mo (.mv (.c (.bool false))) 10]
 .ret)
 .skip))))))
 (.reg [mo (.bin true .add (.t 81) (cI 1)) 106,
 oV 106 81]))))
@[irreducible] def mc_1u : MC :=
 (sR [mo (.bin false .lss (.t 68) (.t 67)) 69]
 (.seq (.cond (.t 69)
 .skip
 (.exit 0))
 (.seq (.block 1
 (sR [mo (.iad 1 (.t 66) (.t 68)) 70,
 oL 70 71,
 oV 71 16]
 (.seq (sR [oV 16 72,
 mo (.len false (.t 72)) 73,
 mo (.bin false .gtr (.t 73) (cI 3000)) 74]
 (.cond (.t 74)
 (.exit 1)
 .skip))
 (sR [oV 2 75,
 oV 2 76,
 mo (.mask 8 (.t 76) .i64) 77,
 mo (.bin true .add (cI 1) (.t 77)) 78,
 mo (.bslice 1 [(.t 75),(.t 78)]) 79,
 mo (.len false (.t 79)) 80,
 oC 0 81]
 (.block 2
 (.loop mc_1t))))))
 (.reg [mo (.bin true .add (.t 68) (cI 1)) 107,
 oV 107 68]))))
def mc_1k : MC :=
 (sR [mo (.mv (.c (.bool false))) 10]
 (sR [oV 0 23,
 mo (.build [(.sl []),(.int .i64 0)] [(0,1,(.t 23))]) 24,
 mo (.box (.t 24)) 25,
 oV 25 11]
 (sR [oV 11 26,
 mo (.call (.f 20) [(.t 26)] [25] []) 27,
 mo (.alloc [(.sl []),(.sl [])]) 12,
 ⟨.st 2 (.t 12) (.t 27), none, none⟩]
 (.seq (.regD [oF 0 12 28,
 oL 28 29,
 oV 11 30,
 oF 0 12 31,
 oL 31 32,
 mo (.len false (.t 32)) 33,
 mo (.call (.f 8) [(.t 30),(.t 33)] [25] []) 34,
 mo (.iad 8 (.t 29) (.t 34)) 35,
 mo (.ld (some 8) (.t 35)) 36,
 mo (.call (.f 21) [(.t 36)] [] []) 37,
 oV 37 13]
 [[],[0],[],[],[3],[4],[2,5],[1,6],[7],[8,6],[9,9,0,1,2,3,4,5,6,7,8,9]]
 [[],[0],[],[],[3],[3,4],[2,3,4,5],[0,1,2,3,4,5,6],[0,1,2,3,4,5,6,7],[0,1,2,3,4,5,6,7,8],[0,1,2,3,4,5,6,7,8,9]])
 (.seq (.note (.gc [1,2,3,4,13,101,102,103,104]) (.reg [mo (.bslice 1 []) 38,
 oV 13 39,
 mo (.app 1 1 (.t 38) (.t 39)) 40,
 oV 40 14]))
 (.seq (.regD [oV 14 41,
 oV 3 42,
 mo (.mask 8 (.t 42) .i64) 43,
 oV 14 44,
 mo (.len false (.t 44)) 45,
 mo (.bin true .rem (.t 43) (.t 45)) 46,
 oV 4 47,
 mo (.mask 3 (.t 47) .u8) 48,
 mo (.idx (.c (.str [10,32,48,47,49,97,116,57])) (.t 48)) 49,
 mo (.iad 1 (.t 41) (.t 46)) 50,
 ⟨.st 1 (.t 50) (.t 49), none, none⟩]
 [[],[],[1],[],[3],[2,4],[],[6],[7],[0,5,0,1,2,3,4,5,6,7,8],[9,8,0,1,2,3,4,5,6,7,8]]
 [[],[],[1],[],[3],[1,2,3,4],[],[6],[6,7],[0,1,2,3,4,5,6,7,8],[0,1,2,3,4,5,6,7,8,9]])
 (.seq (.seq (.note (.gc [1,2,13,14,101,102,103,104]) (.note (.fz 14) (.regD [oV 1 51,
 oV 13 52,
 oV 14 53,
 mo (.bslice 1 []) 54,
 oV 13 55,
 mo (.app 1 1 (.t 54) (.t 55)) 56,
 mo (.bslice 1 [(.c (.int .u8 10))]) 57,
 mo (.app 1 1 (.t 56) (.t 57)) 58,
 oV 13 59,
 oV 13 60,
 mo (.len false (.t 60)) 61,
 mo (.bin true .sub (.t 61) (cI 1)) 62,
 mo (.slc 1 (.t 59) none (some (.t 62))) 63,
 mo (.bslice 1 [(.c (.int .u8 99)),(.c (.int .u8 111)),(.c (.int .u8 109)),(.c (.int .u8 109)),(.c (.int .u8 105)),(.c (.int .u8 116)),(.c (.int .u8 10)),(.c (.int .u8 116)),(.c (.int .u8 114)),(.c (.int .u8 101)),(.c (.int .u8 101)),(.c (.int .u8 32)),(.c (.int .u8 49)),(.c (.int .u8 10)),(.c (.int .u8 116)),(.c (.int .u8 114)),(.c (.int .u8 101)),(.c (.int .u8 101)),(.c (.int .u8 32)),(.c (.int .u8 49)),(.c (.int .u8 10)),(.c (.int .u8 97)),(.c (.int .u8 117)),(.c (.int .u8 116)),(.c (.int .u8 104)),(.c (.int .u8 111)),(.c (.int .u8 114)),(.c (.int .u8 32)),(.c (.int .u8 97)),(.c (.int .u8 10)),(.c (.int .u8 116)),(.c (.int .u8 105)),(.c (.int .u8 109)),(.c (.int .u8 101)),(.c (.int .u8 32)),(.c (.int .u8 48)),(.c (.int .u8 10))]) 64,
 mo (.mks (.t 64)) 65,
 mo (.mp .lss [(.t 51),(.t 52),(.t 53),(.t 58),(.t 63),(.t 65)]) 66,
 mo (.len false (.t 66)) 67,
 oC 0 68]
 [[],[],[],[],[],[3,4],[],[5,6,5],[],[],[9],[10],[8,11],[],[13],[0,1,2,7,12,14],[15],[]]
 [[],[],[],[],[],[3,4],[],[3,4,5,6],[],[],[9],[9,10],[8,9,10,11],[],[13],[0,1,2,3,4,5,6,7,8,9,10,11,12,13,14],[0,1,2,3,4,5,6,7,8,9,10,11,12,13,14,15],[]])))
 (.block 0
 (.loop mc_1u)))
 (sR [mo (.call (.f 11) [] [] []) 108,
 oV 108 10]
 .ret))))))))
theorem Wq_1k {tape_ : List Int} {raw_ : List UInt8} {id_ at_ : Int} {by_ : UInt8} : Cn Tryd.prog 5 [.sl (tape_.map (V.int .i64)), .sl (raw_.map byteV), .int .i64 id_, .int .i64 at_, byteV by_] [] (F_1k tape_ raw_ id_ at_ by_) (fun z => .bool z) (fun z => []) := fun Q Q' h hQ => by
 refine acallM mc_1k [] [] [.t 10] Tryd.func5 fun M => ?_
 unfold F_1k at h
 unfold mc_1k
 replace h := tY h
 refine tB ?_
 repeat' (first
 | (exact tZ)
 | ((first | refine oblg h ?_ | refine roomG h ?_ | refine divG h ?_ | refine fork h ?_ ?_ | refine forkS h ?_ ?_) <;> clear h <;> intro hc h)
 | (obtain ⟨y, hy, h⟩ := h; (first | (with_reducible first | have hw := Wq_a.w hy | have hw := Wq_d.w hy | have hw := Wq_g.w hy | have hw := Wq_q.w hy | have hw := Wq_y.w hy) | have hw := acall_swe 1000 25 (Wq_15.w hy) | have hw := acall_swe 1000 25 (Wq_0.w hy)); replace hw := tY hw; (first | refine M.sC hw ?_ | refine M.sD hw ?_); clear hw hy; refine tB ?_)
 | (refine M.for1 (b := mc_1t) 81 [2,16,66,67,68,79,80] [79] (fun x => []) (fun x => []) [] h ?_ ?_ ?_ <;> first
 | (clear h; intro k a x Qn K hK1 hkN1 ha1 h hf; skip; clear hf; have hkd := kD hkN1; have hkB1 := kB hkN1; have hkI1 := kI (k := k) (by (try simp only [List.length_cons, List.length_nil] at hkN1); omega); have hkd1 : decide ((k : Int) < 2) = true := decide_eq_true (by simp only [List.length_cons, List.length_nil] at hkN1; omega); have hkr1 : (0 ≤ (k : Int) ∧ (k : Int) < 2) = True := eq_true (by simp only [List.length_cons, List.length_nil] at hkN1; omega); have hle1 := trivial; have hpt1 := trivial; unfold F_1t at h; unfold mc_1t; replace h := tY h; refine tKA ha1 hkd hkN1 hkB1 hkI1 hkd1 hkr1 hle1 hpt1 ?_)
  |(clear h; intro x K h; replace h := And.left (And.intro h trivial); unfold mc_1t; replace h := tY h; refine tB ?_)
  |(clear h; (try refine tB ?_); exact tU0; done))
 | (refine M.for1 (b := mc_1u) 68 [2,66,67] [] (fun x => []) (fun x => []) [] h ?_ ?_ ?_ <;> first
 | (clear h; intro k a x Qn K hK2 hkN2 ha2 h hf; skip; clear hf; have hkd := kD hkN2; have hkB2 := kB hkN2; have hkI2 := kI (k := k) (by (try simp only [List.length_cons, List.length_nil] at hkN2); omega); have hkd2 : decide ((k : Int) < 6) = true := decide_eq_true (by simp only [List.length_cons, List.length_nil] at hkN2; omega); have hkr2 : (0 ≤ (k : Int) ∧ (k : Int) < 6) = True := eq_true (by simp only [List.length_cons, List.length_nil] at hkN2; omega); have hle2 := trivial; have hpt2 := trivial; unfold F_1u at h; unfold mc_1u; replace h := tY h; refine tKA ha2 hkd hkN2 hkB2 hkI2 hkd2 hkr2 hle2 hpt2 ?_)
  |(clear h; intro x K h; replace h := And.left (And.intro h trivial); unfold mc_1u; replace h := tY h; refine tB ?_)
  |(clear h; (try refine tB ?_); exact tU0; done))
 | (first | simp only [ha1] | simp only [ha2])
 | ((first | refine hK1 _ ?_ | refine hK2 _ ?_); (try refine tB ?_); refine ⟨_, h, ?_⟩; exact tU0; done)
 | (refine tE5 (slV byteV) (by assumption) (by assumption) ?_; (first | rw [M.lok_compU] | rw [M.lokD_compU] | (simp only [V.cells]; first | rw [M.lok_comp] | rw [M.lokD_comp])); refine tB ?_)
 | (refine tE4 (V.int .i64) ?_; (first | rw [M.lok_compU] | rw [M.lokD_compU] | (simp only [V.cells]; first | rw [M.lok_comp] | rw [M.lokD_comp])); refine tB ?_)
 | (refine tE4 (slV byteV) ?_; (first | rw [M.lok_compU] | rw [M.lokD_compU] | (simp only [V.cells]; first | rw [M.lok_comp] | rw [M.lokD_comp])); refine tB ?_)
 | (refine tE ?_; (first | rw [M.lok_compU] | rw [M.lokD_compU]); refine tB ?_)
 | (refine ⟨_, getE_mapset (by first | exact inb_toNat (by assumption) | exact inb_nat (by assumption)), ?_⟩; (first | rw [M.lok_compU] | rw [M.lokD_compU] | (simp only [V.cells]; first | rw [M.lok_comp] | rw [M.lokD_comp])); refine tB ?_)
 | (refine tA ?_)
 | fail)
end Go.Ab
