/- What the functions of this seat that lie on the laws' road compute (part LP), each for every input. By AI agents. -/
import Derived.Test.YtkdkcffaohmedaaDoorProg
import Derived.KernelRfl
import Derived.Test.YtkdkcffaohmedaaDoorAbFun
import Derived.Test.YtkdkcffaohmedaaDoorLA
set_option linter.all false
set_option linter.all false
set_option maxRecDepth 20000
set_option maxHeartbeats 2000000
namespace Go.Ab
open Go.Proofs
def F_z (s_ : Str) (prefix_ : Str) : Option Bool :=
 jn (α := Bool) (bif decide ((prefix_.length : Int) ≤ (s_.length : Int)) then chk (inc 0 (prefix_.length : Int) s_.length) (some (decide ((s_.take (((prefix_.length : Int)).toNat)) = prefix_))) else some false) fun j2 => some j2
@[irreducible] def mg_3h : List MOp := [gT 10 11 (.mv (.t 0)),
 gT 10 12 (.mv (.t 1)),
 gT 10 13 (.len true (.t 12)),
 gT 10 14 (.sls (.t 11) none (some (.t 13))),
 gT 10 15 (.mv (.t 1)),
 gT 10 16 (.bin false .eql (.t 14) (.t 15)),
 mo (.pick (.t 10) (.t 16) (.c (.bool false))) 17]
def mc_z : MC :=
 (sR [mo (.mv (.c (.bool false))) 4]
 (.seq (.regI [.op (oV 0 5),
 .op (mo (.len true (.t 5)) 6),
 .op (oV 1 7),
 .op (mo (.len true (.t 7)) 8),
 .op (mo (.bin false .geq (.t 6) (.t 8)) 9),
 .op (oV 9 10),
 .grp mg_3h,
 .op (oV 17 4)])
 .ret))
theorem Wq_z {s_ prefix_ : Str} : Cn Tryd.prog 59 [.str s_, .str prefix_] [] (F_z s_ prefix_) (fun z => .bool z) (fun z => []) := fun Q Q' h hQ => by
 refine acallM mc_z [] [] [.t 4] Tryd.func59 fun M => ?_
 unfold F_z at h
 unfold mc_z
 replace h := tY h
 refine tB ?_
 repeat' (first
 | (exact tZ)
 | ((first | refine oblg h ?_ | refine roomG h ?_ | refine fork h ?_ ?_ | refine forkS h ?_ ?_) <;> clear h <;> intro hc h)
 | (refine M.gj1 (ms := mg_3h) [4] [] (fun y => [(17, .bool y)]) (fun y => []) h ?_ ?_ <;> first
 | (clear h; intro Qn K hK1 h; unfold mg_3h; replace h := tY h; refine tB ?_)
  |(clear h; intro y h; replace h := tY h; refine tB ?_))
 | (refine hK1 _ ?_; (try refine tB ?_); refine ⟨_, h, ?_⟩; exact tU0; done)
 | (refine tE ?_; (first | rw [M.lok_compU] | rw [M.lokD_compU]); refine tB ?_)
 | (refine tA ?_)
 | fail)
def F_10 (s_ : Str) (prefix_ : Str) : Option (Str × Bool) :=
 (F_z s_ prefix_).bind fun y4 => bif (!y4) then some (s_, false) else chk (inc (prefix_.length : Int) (s_.length : Int) s_.length) (some ((s_.drop (((prefix_.length : Int)).toNat)), true))
def mc_10 : MC :=
 (sR [mo (.mv (.c (.str []))) 4,
 mo (.mv (.c (.bool false))) 5]
 (.seq (sR [oV 0 6,
 oV 1 7,
 mo (.call (.f 59) [(.t 6),(.t 7)] [] []) 8,
 mo (.not (.t 8)) 9]
 (.cond (.t 9)
 (sR [oV 0 10,
 oV 10 4,
 mo (.mv (.c (.bool false))) 5]
 .ret)
 .skip))
 (sR [oV 0 11,
 oV 1 12,
 mo (.len true (.t 12)) 13,
 mo (.sls (.t 11) (some (.t 13)) none) 14,
 oV 14 4,
 mo (.mv (.c (.bool true))) 5]
 .ret)))
theorem Wq_10 {s_ prefix_ : Str} : Cn Tryd.prog 48 [.str s_, .str prefix_] [] (F_10 s_ prefix_) (fun z => .tup [.str z.1, .bool z.2]) (fun z => []) := fun Q Q' h hQ => by
 refine acallM mc_10 [] [] [.t 4, .t 5] Tryd.func48 fun M => ?_
 unfold F_10 at h
 unfold mc_10
 replace h := tY h
 refine tB ?_
 repeat' (first
 | (exact tZ)
 | ((first | refine oblg h ?_ | refine roomG h ?_ | refine fork h ?_ ?_ | refine forkS h ?_ ?_) <;> clear h <;> intro hc h)
 | (obtain ⟨y, hy, h⟩ := h; have hw := Wq_z.w hy; replace hw := tY hw; (first | refine M.sC hw ?_ | refine M.sD hw ?_); clear hw hy; refine tB ?_)
 | (refine tE ?_; (first | rw [M.lok_compU] | rw [M.lokD_compU]); refine tB ?_)
 | (refine tA ?_)
 | fail)
def F_3 (s_ : Str) (prefix_ : Str) : Option (Str × Bool) :=
 (F_10 s_ prefix_).bind fun y2 => some (y2.1, y2.2)
def mc_3 : MC :=
 (sR [mo (.mv (.c (.str []))) 4,
 mo (.mv (.c (.bool false))) 5]
 (sR [oV 0 6,
 oV 1 7,
 mo (.call (.f 48) [(.t 6),(.t 7)] [] []) 8,
 mo (.ext 0 (.t 8)) 9,
 mo (.ext 1 (.t 8)) 10,
 oV 9 4,
 oV 10 5]
 .ret))
theorem Wq_3 {s_ prefix_ : Str} : Cn Tryd.prog 38 [.str s_, .str prefix_] [] (F_3 s_ prefix_) (fun z => .tup [.str z.1, .bool z.2]) (fun z => []) := fun Q Q' h hQ => by
 refine acallM mc_3 [] [] [.t 4, .t 5] Tryd.func38 fun M => ?_
 unfold F_3 at h
 unfold mc_3
 replace h := tY h
 refine tB ?_
 repeat' (first
 | (exact tZ)
 | ((first | refine oblg h ?_ | refine roomG h ?_ | refine fork h ?_ ?_ | refine forkS h ?_ ?_) <;> clear h <;> intro hc h)
 | (obtain ⟨y, hy, h⟩ := h; have hw := Wq_10.w hy; replace hw := tY hw; (first | refine M.sC hw ?_ | refine M.sD hw ?_); clear hw hy; refine tB ?_)
 | (refine tE ?_; (first | rw [M.lok_compU] | rw [M.lokD_compU]); refine tB ?_)
 | (refine tA ?_)
 | fail)
def F_r (s_ : Str) (suffix_ : Str) : Option Bool :=
 jn (α := Bool) (bif decide ((suffix_.length : Int) ≤ (s_.length : Int)) then chk (in64 ((s_.length : Int) - (suffix_.length : Int))) (chk (inc ((s_.length : Int) - (suffix_.length : Int)) (s_.length : Int) s_.length) (some (decide ((s_.drop ((((s_.length : Int) - (suffix_.length : Int))).toNat)) = suffix_)))) else some false) fun j2 => some j2
@[irreducible] def mg_3i : List MOp := [gT 10 11 (.mv (.t 0)),
 gT 10 12 (.mv (.t 0)),
 gT 10 13 (.len true (.t 12)),
 gT 10 14 (.mv (.t 1)),
 gT 10 15 (.len true (.t 14)),
 gT 10 16 (.bin true .sub (.t 13) (.t 15)),
 gT 10 17 (.sls (.t 11) (some (.t 16)) none),
 gT 10 18 (.mv (.t 1)),
 gT 10 19 (.bin false .eql (.t 17) (.t 18)),
 mo (.pick (.t 10) (.t 19) (.c (.bool false))) 20]
def mc_r : MC :=
 (sR [mo (.mv (.c (.bool false))) 4]
 (.seq (.regI [.op (oV 0 5),
 .op (mo (.len true (.t 5)) 6),
 .op (oV 1 7),
 .op (mo (.len true (.t 7)) 8),
 .op (mo (.bin false .geq (.t 6) (.t 8)) 9),
 .op (oV 9 10),
 .grp mg_3i,
 .op (oV 20 4)])
 .ret))
theorem Wq_r {s_ suffix_ : Str} : Cn Tryd.prog 71 [.str s_, .str suffix_] [] (F_r s_ suffix_) (fun z => .bool z) (fun z => []) := fun Q Q' h hQ => by
 refine acallM mc_r [] [] [.t 4] Tryd.func71 fun M => ?_
 unfold F_r at h
 unfold mc_r
 replace h := tY h
 refine tB ?_
 repeat' (first
 | (exact tZ)
 | ((first | refine oblg h ?_ | refine roomG h ?_ | refine fork h ?_ ?_ | refine forkS h ?_ ?_) <;> clear h <;> intro hc h)
 | (refine M.gj1 (ms := mg_3i) [4] [] (fun y => [(20, .bool y)]) (fun y => []) h ?_ ?_ <;> first
 | (clear h; intro Qn K hK1 h; unfold mg_3i; replace h := tY h; refine tB ?_)
  |(clear h; intro y h; replace h := tY h; refine tB ?_))
 | (refine hK1 _ ?_; (try refine tB ?_); refine ⟨_, h, ?_⟩; exact tU0; done)
 | (refine tE ?_; (first | rw [M.lok_compU] | rw [M.lokD_compU]); refine tB ?_)
 | (refine tA ?_)
 | fail)
def F_11 (s_ : Str) (suffix_ : Str) : Option Str :=
 (F_r s_ suffix_).bind fun y4 => bif y4 then chk (in64 ((s_.length : Int) - (suffix_.length : Int))) (chk (inc 0 ((s_.length : Int) - (suffix_.length : Int)) s_.length) (some (s_.take ((((s_.length : Int) - (suffix_.length : Int))).toNat)))) else some s_
def mc_11 : MC :=
 (sR [mo (.mv (.c (.str []))) 4]
 (.seq (sR [oV 0 5,
 oV 1 6,
 mo (.call (.f 71) [(.t 5),(.t 6)] [] []) 7]
 (.cond (.t 7)
 (sR [oV 0 8,
 oV 0 9,
 mo (.len true (.t 9)) 10,
 oV 1 11,
 mo (.len true (.t 11)) 12,
 mo (.bin true .sub (.t 10) (.t 12)) 13,
 mo (.sls (.t 8) none (some (.t 13))) 14,
 oV 14 4]
 .ret)
 .skip))
 (sR [oV 0 15,
 oV 15 4]
 .ret)))
theorem Wq_11 {s_ suffix_ : Str} : Cn Tryd.prog 63 [.str s_, .str suffix_] [] (F_11 s_ suffix_) (fun z => .str z) (fun z => []) := fun Q Q' h hQ => by
 refine acallM mc_11 [] [] [.t 4] Tryd.func63 fun M => ?_
 unfold F_11 at h
 unfold mc_11
 replace h := tY h
 refine tB ?_
 repeat' (first
 | (exact tZ)
 | ((first | refine oblg h ?_ | refine roomG h ?_ | refine fork h ?_ ?_ | refine forkS h ?_ ?_) <;> clear h <;> intro hc h)
 | (obtain ⟨y, hy, h⟩ := h; have hw := Wq_r.w hy; replace hw := tY hw; (first | refine M.sC hw ?_ | refine M.sD hw ?_); clear hw hy; refine tB ?_)
 | (refine tE ?_; (first | rw [M.lok_compU] | rw [M.lokD_compU]); refine tB ?_)
 | (refine tA ?_)
 | fail)
def F_b (s_ : Str) (suffix_ : Str) : Option Str :=
 (F_11 s_ suffix_).bind fun y2 => some y2
def mc_b : MC :=
 (sR [mo (.mv (.c (.str []))) 4]
 (sR [oV 0 5,
 oV 1 6,
 mo (.call (.f 63) [(.t 5),(.t 6)] [] []) 7,
 oV 7 4]
 .ret))
theorem Wq_b {s_ suffix_ : Str} : Cn Tryd.prog 51 [.str s_, .str suffix_] [] (F_b s_ suffix_) (fun z => .str z) (fun z => []) := fun Q Q' h hQ => by
 refine acallM mc_b [] [] [.t 4] Tryd.func51 fun M => ?_
 unfold F_b at h
 unfold mc_b
 replace h := tY h
 refine tB ?_
 repeat' (first
 | (exact tZ)
 | ((first | refine oblg h ?_ | refine roomG h ?_ | refine fork h ?_ ?_ | refine forkS h ?_ ?_) <;> clear h <;> intro hc h)
 | (obtain ⟨y, hy, h⟩ := h; have hw := Wq_11.w hy; replace hw := tY hw; (first | refine M.sC hw ?_ | refine M.sD hw ?_); clear hw hy; refine tB ?_)
 | (refine tE ?_; (first | rw [M.lok_compU] | rw [M.lokD_compU]); refine tB ?_)
 | (refine tA ?_)
 | fail)
def F_12 (s_ : Str) (sep_ : Str) : Option (Str × Str × Bool) :=
 (ix1 s_ sep_).bind fun y4 => bif decide (0 ≤ y4) then chk (inc 0 y4 s_.length) (chk (in64 (y4 + (sep_.length : Int))) (chk (inc (y4 + (sep_.length : Int)) (s_.length : Int) s_.length) (some ((s_.take ((y4).toNat)), (s_.drop (((y4 + (sep_.length : Int))).toNat)), true)))) else some (s_, [], false)
def mc_12 : MC :=
 (sR [mo (.mv (.c (.str []))) 4,
 mo (.mv (.c (.str []))) 5,
 mo (.mv (.c (.bool false))) 6]
 (.seq (sR [oV 0 8,
 oV 1 9,
 mo (.call (.f 70) [(.t 8),(.t 9)] [] []) 10,
 oV 10 7]
 (sR [oV 7 11,
 mo (.bin false .geq (.t 11) (cI 0)) 12]
 (.cond (.t 12)
 (.seq (.note (.gc [0,1,7]) (.regD [oV 0 13,
 oV 7 14,
 mo (.sls (.t 13) none (some (.t 14))) 15,
 oV 0 16,
 oV 7 17,
 oV 1 18,
 mo (.len true (.t 18)) 19,
 mo (.bin true .add (.t 17) (.t 19)) 20,
 mo (.sls (.t 16) (some (.t 20)) none) 21,
 oV 15 4,
 oV 21 5,
 mo (.mv (.c (.bool true))) 6]
 [[],[],[0,1],[],[],[],[5],[4,6],[3,7],[2,0,1,2],[8,9,0,1,2,3,4,5,6,7,8,9],[10,0,1,2,3,4,5,6,7,8,9,10]]
 [[],[],[0,1],[],[],[],[5],[4,5,6],[3,4,5,6,7],[0,1,2],[0,1,2,3,4,5,6,7,8,9],[0,1,2,3,4,5,6,7,8,9,10]]))
 .ret)
 .skip)))
 (.seq (.note (.gc [0]) (.reg [oV 0 22,
 oV 22 4,
 mo (.mv (.c (.str []))) 5,
 mo (.mv (.c (.bool false))) 6]))
 .ret)))
theorem Wq_12 {s_ sep_ : Str} : Cn Tryd.prog 62 [.str s_, .str sep_] [] (F_12 s_ sep_) (fun z => .tup [.str z.1, .str z.2.1, .bool z.2.2]) (fun z => []) := fun Q Q' h hQ => by
 refine acallM mc_12 [] [] [.t 4, .t 5, .t 6] Tryd.func62 fun M => ?_
 unfold F_12 at h
 unfold mc_12
 replace h := tY h
 refine tB ?_
 repeat' (first
 | (exact tZ)
 | ((first | refine oblg h ?_ | refine roomG h ?_ | refine fork h ?_ ?_ | refine forkS h ?_ ?_) <;> clear h <;> intro hc h)
 | (obtain ⟨y, hy, h⟩ := h; have hw := W_43 hy; replace hw := tY hw; (first | refine M.sC hw ?_ | refine M.sD hw ?_); clear hw hy; refine tB ?_)
 | (refine tE ?_; (first | rw [M.lok_compU] | rw [M.lokD_compU]); refine tB ?_)
 | (refine tA ?_)
 | fail)
def F_c (s_ : Str) (sep_ : Str) : Option (Str × Str × Bool) :=
 (F_12 s_ sep_).bind fun y2 => some (y2.1, y2.2.1, y2.2.2)
def mc_c : MC :=
 (sR [mo (.mv (.c (.str []))) 4,
 mo (.mv (.c (.str []))) 5,
 mo (.mv (.c (.bool false))) 6]
 (sR [oV 0 7,
 oV 1 8,
 mo (.call (.f 62) [(.t 7),(.t 8)] [] []) 9,
 mo (.ext 0 (.t 9)) 10,
 mo (.ext 1 (.t 9)) 11,
 mo (.ext 2 (.t 9)) 12,
 oV 10 4,
 oV 11 5,
 oV 12 6]
 .ret))
theorem Wq_c {s_ sep_ : Str} : Cn Tryd.prog 50 [.str s_, .str sep_] [] (F_c s_ sep_) (fun z => .tup [.str z.1, .str z.2.1, .bool z.2.2]) (fun z => []) := fun Q Q' h hQ => by
 refine acallM mc_c [] [] [.t 4, .t 5, .t 6] Tryd.func50 fun M => ?_
 unfold F_c at h
 unfold mc_c
 replace h := tY h
 refine tB ?_
 repeat' (first
 | (exact tZ)
 | ((first | refine oblg h ?_ | refine roomG h ?_ | refine fork h ?_ ?_ | refine forkS h ?_ ?_) <;> clear h <;> intro hc h)
 | (obtain ⟨y, hy, h⟩ := h; have hw := Wq_12.w hy; replace hw := tY hw; (first | refine M.sC hw ?_ | refine M.sD hw ?_); clear hw hy; refine tB ?_)
 | (refine tE ?_; (first | rw [M.lok_compU] | rw [M.lokD_compU]); refine tB ?_)
 | (refine tA ?_)
 | fail)
def F_22 (k40 : Int) (a33 : Str) (x32 : List GItem) : Option (Fl (List GItem) Empty) :=
 (F_b a33 [10]).bind fun y43 => (F_c y43 [32]).bind fun y44 => (atoiI y44.1).bind fun y46 => chk (room (x32.length + [(GItem.mk y44.2.1 y46)].length) 24) (some (.nx (x32 ++ [(GItem.mk y44.2.1 y46)])))
def F_l (text_ : Str) : Option GObject :=
 (linF text_).bind fun y23 => (forL F_22 (linesL text_) 0 []).bind fun o => o.elim (fun x47 => some (GObject.mk 0 2 [] x47 0 [] [] 0)) (fun r48 => none)
@[irreducible] def mc_3j : MC :=
 (.block 1
 (sR [oV 4 15,
 mo (.call (.f 51) [(.t 15),(.c (.str [10]))] [] []) 16,
 mo (.call (.f 50) [(.t 16),(.c (.str [32]))] [] []) 17,
 oV 17 14,
 mo (.ext 0 (.t 14)) 18,
 mo (.ext 1 (.t 14)) 19,
 mo (.ext 2 (.t 14)) 20,
 oV 18 5,
 oV 19 6,
 oV 20 7]
 (.seq (.note (.gc [3,5,6]) (.reg [oV 5 22,
 mo (.call (.f 52) [(.t 22)] [] []) 23,
 oV 23 21,
 mo (.ext 0 (.t 21)) 24,
 mo (.ext 1 (.t 21)) 25,
 oV 24 8,
 oV 25 9]))
 (.reg [oF 3 3 26,
 oL 26 27,
 oV 6 28,
 oV 8 29,
 mo (.build [(.str []),(.int .i64 0)] [(0,1,(.t 28)), (1,1,(.t 29))]) 30,
 mo (.bslice 2 [(.t 30)]) 31,
 mo (.app 2 24 (.t 27) (.t 31)) 32,
 oF 3 3 33,
 ⟨.st 1 (.t 33) (.t 32), none, none⟩]))))
def mc_l : MC :=
 (sR [mo (.alloc [(.int .i64 0),(.int .i64 0),(.sl []),(.sl []),(.int .i64 0),(.sl []),(.str []),(.int .i64 0)]) 2]
 (sR [mo (.build [(.int .i64 0),(.int .i64 0), .nils, .nils, (.int .i64 0), .nils, (.str []),(.int .i64 0)] [(1,1, (cI 2))]) 10,
 mo (.alloc [(.int .i64 0),(.int .i64 0),(.sl []),(.sl []),(.int .i64 0),(.sl []),(.str []),(.int .i64 0)]) 3,
 ⟨.st 8 (.t 3) (.t 10), none, none⟩]
 (.seq (sR [oV 0 11,
 mo (.call (.f 49) [(.t 11)] [] [12]) 12]
 (.block 0
 (.note (.ownC 3 3 4051 2 none) (.rngF (.t 12) [13] (.reg [oV 13 4]) mc_3j))))
 (sR [mo (.ld (some 8) (.t 3)) 34,
 ⟨.st 8 (.t 2) (.t 34), none, none⟩]
 .ret))))
theorem Wq_l {text_ : Str} : Cn Tryd.prog 39 [.str text_] [] (F_l text_) (fun z => GObject.v z) (fun z => []) := fun Q Q' h hQ => by
 refine acallM mc_l [.fzc 2] [] [.c 2 (some 8)] Tryd.func39 fun M => ?_
 unfold F_l at h
 unfold mc_l
 replace h := tY h
 refine tB ?_
 repeat' (first
 | (exact tZ)
 | ((first | refine oblg h ?_ | refine roomG h ?_ | refine fork h ?_ ?_ | refine forkS h ?_ ?_) <;> clear h <;> intro hc h)
 | (obtain ⟨y, hy, h⟩ := h; (first | (with_reducible first | have hw := Wq_b.w hy | have hw := Wq_c.w hy | have hw := W_3w hy) | have hw := acall_swe 1900 12 (W_3z hy)); replace hw := tY hw; (first | refine M.sC hw ?_ | refine M.sD hw ?_); clear hw hy; refine tB ?_)
 | (refine M.rforC (b := mc_3j) (enc := fun a => [.str a]) _ [2,3,12] [3,2] (fun x => [.p 3 3 [.osl 4051 2 0 x.length], .o 4051 (.arr 2 (x.map GItem.v))]) [.gc [0,2,3,10,11,12], .ownC 3 3 4051 2 none] h rfl (W_3y _ _) ⟨rfl, trivial, rfl, trivial⟩ rfl (fun a => ⟨rfl, rfl⟩) ?_ (hdis1 rfl) ?_ rfl ?_ <;> first
 | (clear h; intro k a x Qn K hK1 hkN1 h hf; clear hf; unfold F_22 at h; unfold mc_3j; replace h := tY h; refine tB ?_)
  |(clear h; intro x h; replace h := tY h; refine tB ?_)
  |(clear h; (try refine tB ?_); exact tU0; done))
 | (refine hK1 _ ?_; (try refine tB ?_); refine ⟨_, h, ?_⟩; exact tU0; done)
 | (refine tE ?_; (first | rw [M.lok_compU] | rw [M.lokD_compU]); refine tB ?_)
 | (refine tA ?_)
 | fail)
def F_1v (k40 : Int) (a33 : Str) (x32 : Int × Str × Int × (List Int)) : Option (Fl (Int × Str × Int × (List Int)) Empty) :=
 (F_b a33 [10]).bind fun y43 => (F_c y43 [32]).bind fun y44 => (atoiI y44.2.1).bind fun y46 => bif decide (y44.1 = [116,114,101,101]) then some (.nx (y46, x32.2.1, x32.2.2.1, x32.2.2.2)) else bif decide (y44.1 = [112,97,114,101,110,116]) then chk (room (x32.2.2.2.length + [y46].length) 8) (some (.nx (x32.1, x32.2.1, x32.2.2.1, (x32.2.2.2 ++ [y46])))) else bif decide (y44.1 = [97,117,116,104,111,114]) then some (.nx (x32.1, y44.2.1, x32.2.2.1, x32.2.2.2)) else bif decide (y44.1 = [116,105,109,101]) then some (.nx (x32.1, x32.2.1, y46, x32.2.2.2)) else some (.nx (x32.1, x32.2.1, x32.2.2.1, x32.2.2.2))
def F_m (text_ : Str) : Option GObject :=
 (linF text_).bind fun y23 => (forL F_1v (linesL text_) 0 (0,[],0,[])).bind fun o => o.elim (fun x47 => some (GObject.mk 0 3 [] [] x47.1 x47.2.2.2 x47.2.1 x47.2.2.1)) (fun r48 => none)
@[irreducible] def mc_3k : MC :=
 (.block 1
 (sR [oV 4 15,
 mo (.call (.f 51) [(.t 15),(.c (.str [10]))] [] []) 16,
 mo (.call (.f 50) [(.t 16),(.c (.str [32]))] [] []) 17,
 oV 17 14,
 mo (.ext 0 (.t 14)) 18,
 mo (.ext 1 (.t 14)) 19,
 mo (.ext 2 (.t 14)) 20,
 oV 18 5,
 oV 19 6,
 oV 20 7]
 (.seq (.note (.gc [3,5,6]) (.reg [oV 6 22,
 mo (.call (.f 52) [(.t 22)] [] []) 23,
 oV 23 21,
 mo (.ext 0 (.t 21)) 24,
 mo (.ext 1 (.t 21)) 25,
 oV 24 8,
 oV 25 9]))
 (sR [oV 5 26]
 (.block 2
 (sR [mo (.bin false .eql (.t 26) (.c (.str [116,114,101,101]))) 28,
 oV 28 27]
 (.cond (.t 27)
 (.note (.gc [3,8]) (.reg [oV 8 29,
 oF 4 3 30,
 ⟨.st 1 (.t 30) (.t 29), none, none⟩]))
 (sR [mo (.bin false .eql (.t 26) (.c (.str [112,97,114,101,110,116]))) 32,
 oV 32 31]
 (.cond (.t 31)
 (.note (.gc [3,8]) (.reg [oF 5 3 33,
 oL 33 34,
 oV 8 35,
 mo (.bslice 1 [(.t 35)]) 36,
 mo (.app 1 8 (.t 34) (.t 36)) 37,
 oF 5 3 38,
 ⟨.st 1 (.t 38) (.t 37), none, none⟩]))
 (sR [mo (.bin false .eql (.t 26) (.c (.str [97,117,116,104,111,114]))) 40,
 oV 40 39]
 (.cond (.t 39)
 (.note (.gc [3,6]) (.reg [oV 6 41,
 oF 6 3 42,
 ⟨.st 1 (.t 42) (.t 41), none, none⟩]))
 (sR [mo (.bin false .eql (.t 26) (.c (.str [116,105,109,101]))) 44,
 oV 44 43]
 (.cond (.t 43)
 (.note (.gc [3,8]) (.reg [oV 8 45,
 oF 7 3 46,
 ⟨.st 1 (.t 46) (.t 45), none, none⟩]))
 .skip)))))))))))))
def mc_m : MC :=
 (sR [mo (.alloc [(.int .i64 0),(.int .i64 0),(.sl []),(.sl []),(.int .i64 0),(.sl []),(.str []),(.int .i64 0)]) 2]
 (sR [mo (.build [(.int .i64 0),(.int .i64 0), .nils, .nils, (.int .i64 0), .nils, (.str []),(.int .i64 0)] [(1,1, (cI 3))]) 10,
 mo (.alloc [(.int .i64 0),(.int .i64 0),(.sl []),(.sl []),(.int .i64 0),(.sl []),(.str []),(.int .i64 0)]) 3,
 ⟨.st 8 (.t 3) (.t 10), none, none⟩]
 (.seq (sR [oV 0 11,
 mo (.call (.f 49) [(.t 11)] [] [12]) 12]
 (.block 0
 (.note (.ownC 3 5 4053 1 none) (.rngF (.t 12) [13] (.reg [oV 13 4]) mc_3k))))
 (sR [mo (.ld (some 8) (.t 3)) 47,
 ⟨.st 8 (.t 2) (.t 47), none, none⟩]
 .ret))))
theorem Wq_m {text_ : Str} : Cn Tryd.prog 40 [.str text_] [] (F_m text_) (fun z => GObject.v z) (fun z => []) := fun Q Q' h hQ => by
 refine acallM mc_m [.fzc 2] [] [.c 2 (some 8)] Tryd.func40 fun M => ?_
 unfold F_m at h
 unfold mc_m
 replace h := tY h
 refine tB ?_
 repeat' (first
 | (exact tZ)
 | ((first | refine oblg h ?_ | refine roomG h ?_ | refine fork h ?_ ?_ | refine forkS h ?_ ?_) <;> clear h <;> intro hc h)
 | (obtain ⟨y, hy, h⟩ := h; (first | (with_reducible first | have hw := Wq_b.w hy | have hw := Wq_c.w hy | have hw := W_3w hy) | have hw := acall_swe 1900 12 (W_3z hy)); replace hw := tY hw; (first | refine M.sC hw ?_ | refine M.sD hw ?_); clear hw hy; refine tB ?_)
 | (refine M.rforC (b := mc_3k) (enc := fun a => [.str a]) _ [2,3,12] [3,2] (fun x => [.p 3 4 [.int .i64 x.1], .p 3 5 [.osl 4053 1 0 x.2.2.2.length], .p 3 6 [.str x.2.1], .p 3 7 [.int .i64 x.2.2.1], .o 4053 (.arr 1 (x.2.2.2.map (V.int .i64)))]) [.gc [0,2,3,10,11,12], .ownC 3 5 4053 1 none] h rfl (W_3y _ _) ⟨rfl, trivial, rfl, trivial⟩ rfl (fun a => ⟨rfl, rfl⟩) ?_ (hdis1 rfl) ?_ rfl ?_ <;> first
 | (clear h; intro k a x Qn K hK1 hkN1 h hf; clear hf; unfold F_1v at h; unfold mc_3k; replace h := tY h; refine tB ?_)
  |(clear h; intro x h; replace h := tY h; refine tB ?_)
  |(clear h; (try refine tB ?_); exact tU0; done))
 | (refine hK1 _ ?_; (try refine tB ?_); refine ⟨_, h, ?_⟩; exact tU0; done)
 | (refine tE ?_; (first | rw [M.lok_compU] | rw [M.lokD_compU]); refine tB ?_)
 | (refine tA ?_)
 | fail)
def F_d (id_ : Int) (b_ : List UInt8) : Option (GObject × Int) :=
 (F_6 id_).bind fun y4 => bif (!y4) then some ((GObject.mk 0 0 [] [] 0 [] [] 0),2) else jn (α := GObject) ((F_3 b_ [98,108,111,98,10]).bind fun y15 => bif y15.2 then some (GObject.mk 0 1 y15.1 [] 0 [] [] 0) else (F_3 b_ [116,114,101,101,10]).bind fun y17 => bif y17.2 then (F_l y17.1).bind fun y18 => some y18 else (F_3 b_ [99,111,109,109,105,116,10]).bind fun y20 => bif y20.2 then (F_m y20.1).bind fun y21 => some y21 else some (GObject.mk 0 0 [] [] 0 [] [] 0)) fun j13 => (F_8 (GObject.mk id_ j13.Kind j13.Data j13.Items j13.Tree j13.Parents j13.Author j13.Time)).bind fun y31 => bif (!decide (y31 = 0)) then some ((GObject.mk 0 0 [] [] 0 [] [] 0),10) else (F_5 (GObject.mk id_ j13.Kind j13.Data j13.Items j13.Tree j13.Parents j13.Author j13.Time)).bind fun y32 => (F_9 y32 b_).bind fun y33 => bif (!y33) then some ((GObject.mk 0 0 [] [] 0 [] [] 0),10) else some ((GObject.mk id_ j13.Kind j13.Data j13.Items j13.Tree j13.Parents j13.Author j13.Time),0)
@[irreducible] def mc_3l : MC :=
 (sR [oV 0 45,
 oF 0 6 46,
 ⟨.st 1 (.t 46) (.t 45), none, none⟩]
 (.seq (sR [mo (.ld (some 8) (.t 6)) 47,
 mo (.call (.f 16) [(.t 47)] [] []) 48,
 mo (.bin false .neq (.t 48) (cI 0)) 49,
 oV 49 50,
 gF 50 51 (.ld (some 8) (.t 6)),
 gF 50 52 (.call (.f 25) [(.t 51)] [] []),
 gF 50 53 (.mv (.t 1)),
 gF 50 54 (.call (.f 32) [(.t 52),(.t 53)] [] []),
 gF 50 55 (.not (.t 54)),
 mo (.pick (.t 50) (.c (.bool true)) (.t 55)) 56]
 (.cond (.t 56)
 (.seq (.note (.gc [4]) (.reg [mo (.build [(.int .i64 0),(.int .i64 0),(.sl []),(.sl []),(.int .i64 0),(.sl []),(.str []),(.int .i64 0)] []) 57,
 ⟨.st 8 (.t 4) (.t 57), none, none⟩,
 oC 10 5]))
 .ret)
 .skip))
 (.seq (.note (.gc [4,6]) (.reg [mo (.ld (some 8) (.t 6)) 58,
 ⟨.st 8 (.t 4) (.t 58), none, none⟩,
 oC 0 5]))
 .ret)))
def mc_d : MC :=
 (sR [mo (.alloc [(.int .i64 0),(.int .i64 0),(.sl []),(.sl []),(.int .i64 0),(.sl []),(.str []),(.int .i64 0)]) 4,
 oC 0 5]
 (.seq (sR [oV 0 14,
 mo (.call (.f 26) [(.t 14)] [] []) 15,
 mo (.not (.t 15)) 16]
 (.cond (.t 16)
 (sR [mo (.build [(.int .i64 0),(.int .i64 0),(.sl []),(.sl []),(.int .i64 0),(.sl []),(.str []),(.int .i64 0)] []) 17,
 ⟨.st 8 (.t 4) (.t 17), none, none⟩,
 oC 2 5]
 .ret)
 .skip))
 (sR [mo (.alloc [(.int .i64 0),(.int .i64 0),(.sl []),(.sl []),(.int .i64 0),(.sl []),(.str []),(.int .i64 0)]) 6]
 (sR [oV 1 18,
 mo (.b2s (.t 18)) 19,
 oV 19 7]
 (.cut (sR [oV 7 21,
 mo (.call (.f 38) [(.t 21),(.c (.str [98,108,111,98,10]))] [] []) 22,
 oV 22 20,
 mo (.ext 0 (.t 20)) 23,
 mo (.ext 1 (.t 20)) 24,
 oV 23 8,
 oV 24 9]
 (sR [oV 9 25]
 (.cond (.t 25)
 (.note (.gc [0,1,4,6,8,51,52,53,54,55]) (.reg [oV 8 26,
 mo (.s2b (.t 26)) 27,
 mo (.build [(.int .i64 0),(.int .i64 0),(.sl []),(.sl []),(.int .i64 0),(.sl []),(.str []),(.int .i64 0)] [(1,1, (cI 1)), (2,1,(.t 27))]) 28,
 ⟨.st 8 (.t 6) (.t 28), none, none⟩]))
 (.seq (.note (.gc [0,1,4,6,7,51,52,53,54,55]) (.reg [oV 7 30,
 mo (.call (.f 38) [(.t 30),(.c (.str [116,114,101,101,10]))] [] []) 31,
 oV 31 29,
 mo (.ext 0 (.t 29)) 32,
 mo (.ext 1 (.t 29)) 33,
 oV 32 10,
 oV 33 11]))
 (sR [oV 11 34]
 (.cond (.t 34)
 (.note (.gc [0,1,4,6,10,51,52,53,54,55]) (.reg [oV 10 35,
 mo (.call (.f 39) [(.t 35)] [] []) 36,
 ⟨.st 8 (.t 6) (.t 36), none, none⟩]))
 (.seq (.note (.gc [0,1,4,6,7,51,52,53,54,55]) (.reg [oV 7 38,
 mo (.call (.f 38) [(.t 38),(.c (.str [99,111,109,109,105,116,10]))] [] []) 39,
 oV 39 37,
 mo (.ext 0 (.t 37)) 40,
 mo (.ext 1 (.t 37)) 41,
 oV 40 12,
 oV 41 13]))
 (sR [oV 13 42]
 (.cond (.t 42)
 (.note (.gc [0,1,4,6,12,51,52,53,54,55]) (.reg [oV 12 43,
 mo (.call (.f 40) [(.t 43)] [] []) 44,
 ⟨.st 8 (.t 6) (.t 44), none, none⟩]))
 .skip)))))))))
 mc_3l)))))
theorem Wq_d {id_ : Int} {b_ : List UInt8} : Cn Tryd.prog 22 [.int .i64 id_, .sl (b_.map byteV)] [] (F_d id_ b_) (fun z => .tup [GObject.v z.1, .int .i64 z.2]) (fun z => []) := fun Q Q' h hQ => by
 refine acallM mc_d [.fzc 4] [] [.c 4 (some 8), .t 5] Tryd.func22 fun M => ?_
 unfold F_d at h
 unfold mc_d
 replace h := tY h
 refine tB ?_
 repeat' (first
 | (exact tZ)
 | ((first | refine oblg h ?_ | refine roomG h ?_ | refine fork h ?_ ?_ | refine forkS h ?_ ?_) <;> clear h <;> intro hc h)
 | (obtain ⟨y, hy, h⟩ := h; (first | with_reducible first | have hw := Wq_6.w hy | have hw := Wq_3.w hy | have hw := Wq_l.w hy | have hw := Wq_m.w hy | have hw := Wq_8.w hy | have hw := Wq_5.w hy | have hw := Wq_9.w hy); replace hw := tY hw; (first | refine M.sC hw ?_ | refine M.sD hw ?_); clear hw hy; refine tB ?_)
 | (refine M.jn1 (b := mc_3l) [0,1,4,6] [4] (fun y => []) (fun y => [.o 6 (.cells [.int .i64 y.ID, .int .i64 y.Kind, .sl (y.Data.map byteV), .sl (y.Items.map GItem.v), .int .i64 y.Tree, .sl (y.Parents.map (V.int .i64)), .str y.Author, .int .i64 y.Time])]) [.fzc 6] h ?_ ?_ <;> first
 | (clear h; intro Qn K hK1 h; replace h := tY h; refine tB ?_)
  |(clear h; intro y h; unfold mc_3l; replace h := tY h; refine tB ?_))
 | (refine hK1 _ ?_; (try refine tB ?_); refine ⟨_, h, ?_⟩; exact tU0; done)
 | (refine tE ?_; (first | rw [M.lok_compU] | rw [M.lokD_compU]); refine tB ?_)
 | (refine tA ?_)
 | fail)
end Go.Ab
