/- What the functions of this seat that lie on the laws' road compute (part L31E), each for every input. By AI agents. -/
import Derived.Test.YtopbblhkapgdkaaDoorProg
import Derived.KernelRfl
import Derived.Test.YtopbblhkapgdkaaDoorAbFun
import Derived.Test.YtopbblhkapgdkaaDoorL31D
set_option linter.all false
set_option maxRecDepth 20000
set_option linter.all false
namespace Go.Ab
open Go.Proofs
structure GA50 where
  e0 : Int
  e1 : Int
  e2 : Int
  e3 : Int
  e4 : Int
instance : Inhabited GA50 := ⟨⟨default, default, default, default, default⟩⟩
def GA50.v (x : GA50) : V := .agg [.int .i64 x.e0, .int .i64 x.e1, .int .i64 x.e2, .int .i64 x.e3, .int .i64 x.e4]

structure GA52 where
  e0 : GRights
  e1 : GRights
  e2 : GRights
instance : Inhabited GA52 := ⟨⟨default, default, default⟩⟩
def GA52.v (x : GA52) : V := .agg [.int .i64 x.e0.Credentials, .int .i64 x.e0.Resources, .sl (x.e0.Grants.map GGrant.v), .sl (x.e0.Stores.map GStore.v), .sl (x.e0.Mints.map GMint.v), .int .i64 x.e1.Credentials, .int .i64 x.e1.Resources, .sl (x.e1.Grants.map GGrant.v), .sl (x.e1.Stores.map GStore.v), .sl (x.e1.Mints.map GMint.v), .int .i64 x.e2.Credentials, .int .i64 x.e2.Resources, .sl (x.e2.Grants.map GGrant.v), .sl (x.e2.Stores.map GStore.v), .sl (x.e2.Mints.map GMint.v)]

structure GA53 where
  e0 : List Int
  e1 : List Int
instance : Inhabited GA53 := ⟨⟨default, default⟩⟩
def GA53.v (x : GA53) : V := .agg [.sl (x.e0.map (V.int .i64)), .sl (x.e1.map (V.int .i64))]

structure GA54 where
  e0 : Int
  e1 : Int
instance : Inhabited GA54 := ⟨⟨default, default⟩⟩
def GA54.v (x : GA54) : V := .agg [.int .i64 x.e0, .int .i64 x.e1]

structure GA55 where
  e0 : GA54
  e1 : GA54
instance : Inhabited GA55 := ⟨⟨default, default⟩⟩
def GA55.v (x : GA55) : V := .agg [.int .i64 x.e0.e0, .int .i64 x.e0.e1, .int .i64 x.e1.e0, .int .i64 x.e1.e1]

theorem inb_0_2 : inb 0 2 = true := inb_iff.2 (by decide)
attribute [go_sem] inb_0_2
theorem inb_0_3 : inb 0 3 = true := inb_iff.2 (by decide)
attribute [go_sem] inb_0_3
theorem inb_0_5 : inb 0 5 = true := inb_iff.2 (by decide)
attribute [go_sem] inb_0_5
theorem inb_1_2 : inb 1 2 = true := inb_iff.2 (by decide)
attribute [go_sem] inb_1_2
attribute [go_sem] GA50.v GA52.v GA53.v GA54.v GA55.v
def F_made_BentRights (t_ : GTape) (x_ : GRights) : Option (GRights × GTape) :=
  (F_made_Tape_Next t_ 5).bind fun y13 => bif decide (y13.1 = 0) then chk (room x_.Grants.length 24) ((F_made_Tape_Between y13.2 (-1) 6).bind fun y14 => (F_made_Tape_Between y14.2 (-1) 5).bind fun y15 => (F_made_Tape_Next y15.2 5).bind fun y16 => chk (room (x_.Grants.length + [(GGrant.mk y14.1 y15.1 y16.1)].length) 24) (some ((GRights.mk x_.Credentials x_.Resources (x_.Grants ++ [(GGrant.mk y14.1 y15.1 y16.1)]) x_.Stores x_.Mints), y16.2))) else bif decide (y13.1 = 1) then chk (room x_.Stores.length 16) ((F_made_Tape_Between y13.2 (-1) 5).bind fun y17 => (F_made_Tape_Between y17.2 (-1) 6).bind fun y18 => chk (room (x_.Stores.length + [(GStore.mk y17.1 y18.1)].length) 16) (some ((GRights.mk x_.Credentials x_.Resources x_.Grants (x_.Stores ++ [(GStore.mk y17.1 y18.1)]) x_.Mints), y18.2))) else bif decide (y13.1 = 2) then chk (room x_.Mints.length 16) ((F_made_Tape_Between y13.2 (-1) 6).bind fun y19 => (F_made_Tape_Between y19.2 (-1) 6).bind fun y20 => chk (room (x_.Mints.length + [(GMint.mk y19.1 y20.1)].length) 16) (some ((GRights.mk x_.Credentials x_.Resources x_.Grants x_.Stores (x_.Mints ++ [(GMint.mk y19.1 y20.1)])), y20.2))) else bif decide (y13.1 = 3) then (F_made_Pick y13.2 [(-1), 0, 24, 25]).bind fun y21 => some ((GRights.mk y21.1 x_.Resources x_.Grants x_.Stores x_.Mints), y21.2) else (F_made_Pick y13.2 [(-1), 0, 24, 25]).bind fun y22 => some ((GRights.mk x_.Credentials y22.1 x_.Grants x_.Stores x_.Mints), y22.2)

/- leakresponse/leakresponsemake.BentRights -/
def mc_made_BentRights : MC :=
  (.seq (.reg [⟨.box (.t 1), (some 3), none⟩,
    ⟨.alloc [(.int .i64 0), (.int .i64 0), (.sl []), (.sl []), (.sl [])], (some 4), none⟩])
  (.seq (.seq (.reg [⟨.mv (.t 0), (some 5), none⟩,
    ⟨.call (.f 11) [(.t 5), (.c (.int .i64 5))] [1000] [], (some 6), none⟩])
  (.block 0
  (.seq (.reg [⟨.bin false .eql (.t 6) (.c (.int .i64 0)), (some 12), none⟩,
    ⟨.mv (.t 12), (some 11), none⟩])
  (.cond (.t 11)
    (.reg [⟨.fad 2 (.t 3), (some 13), none⟩,
      ⟨.ld none (.t 13), (some 14), none⟩,
      ⟨.app 3 24 (.c .nils) (.t 14), (some 15), none⟩,
      ⟨.mv (.t 0), (some 16), none⟩,
      ⟨.call (.f 12) [(.t 16), (.c (.int .i64 (-1))), (.c (.int .i64 6))] [1000] [], (some 17), none⟩,
      ⟨.mv (.t 0), (some 18), none⟩,
      ⟨.call (.f 12) [(.t 18), (.c (.int .i64 (-1))), (.c (.int .i64 5))] [1000] [], (some 19), none⟩,
      ⟨.mv (.t 0), (some 20), none⟩,
      ⟨.call (.f 11) [(.t 20), (.c (.int .i64 5))] [1000] [], (some 21), none⟩,
      ⟨.build [(.int .i64 0), (.int .i64 0), (.int .i64 0)] [(0, 1, (.t 17)), (1, 1, (.t 19)), (2, 1, (.t 21))], (some 22), none⟩,
      ⟨.bslice 3 [(.t 22)], (some 23), none⟩,
      ⟨.app 3 24 (.t 15) (.t 23), (some 24), none⟩,
      ⟨.fad 2 (.t 3), (some 25), none⟩,
      ⟨.st 1 (.t 25) (.t 24), none, none⟩])
    (.seq (.reg [⟨.bin false .eql (.t 6) (.c (.int .i64 1)), (some 27), none⟩,
      ⟨.mv (.t 27), (some 26), none⟩])
    (.cond (.t 26)
      (.reg [⟨.fad 3 (.t 3), (some 28), none⟩,
        ⟨.ld none (.t 28), (some 29), none⟩,
        ⟨.app 2 16 (.c .nils) (.t 29), (some 30), none⟩,
        ⟨.mv (.t 0), (some 31), none⟩,
        ⟨.call (.f 12) [(.t 31), (.c (.int .i64 (-1))), (.c (.int .i64 5))] [1000] [], (some 32), none⟩,
        ⟨.mv (.t 0), (some 33), none⟩,
        ⟨.call (.f 12) [(.t 33), (.c (.int .i64 (-1))), (.c (.int .i64 6))] [1000] [], (some 34), none⟩,
        ⟨.build [(.int .i64 0), (.int .i64 0)] [(0, 1, (.t 32)), (1, 1, (.t 34))], (some 35), none⟩,
        ⟨.bslice 2 [(.t 35)], (some 36), none⟩,
        ⟨.app 2 16 (.t 30) (.t 36), (some 37), none⟩,
        ⟨.fad 3 (.t 3), (some 38), none⟩,
        ⟨.st 1 (.t 38) (.t 37), none, none⟩])
      (.seq (.reg [⟨.bin false .eql (.t 6) (.c (.int .i64 2)), (some 40), none⟩,
        ⟨.mv (.t 40), (some 39), none⟩])
      (.cond (.t 39)
        (.note (.gc [0, 3, 4]) (.reg [⟨.fad 4 (.t 3), (some 41), none⟩,
          ⟨.ld none (.t 41), (some 42), none⟩,
          ⟨.app 2 16 (.c .nils) (.t 42), (some 43), none⟩,
          ⟨.mv (.t 0), (some 44), none⟩,
          ⟨.call (.f 12) [(.t 44), (.c (.int .i64 (-1))), (.c (.int .i64 6))] [1000] [], (some 45), none⟩,
          ⟨.mv (.t 0), (some 46), none⟩,
          ⟨.call (.f 12) [(.t 46), (.c (.int .i64 (-1))), (.c (.int .i64 6))] [1000] [], (some 47), none⟩,
          ⟨.build [(.int .i64 0), (.int .i64 0)] [(0, 1, (.t 45)), (1, 1, (.t 47))], (some 48), none⟩,
          ⟨.bslice 2 [(.t 48)], (some 49), none⟩,
          ⟨.app 2 16 (.t 43) (.t 49), (some 50), none⟩,
          ⟨.fad 4 (.t 3), (some 51), none⟩,
          ⟨.st 1 (.t 51) (.t 50), none, none⟩]))
        (.seq (.reg [⟨.bin false .eql (.t 6) (.c (.int .i64 3)), (some 53), none⟩,
          ⟨.mv (.t 53), (some 52), none⟩])
        (.cond (.t 52)
          (.note (.gc [0, 3, 4]) (.reg [⟨.mv (.t 0), (some 54), none⟩,
            ⟨.lsl 1 [(.c (.int .i64 (-1))), (.c (.int .i64 0)), (.c (.int .i64 24)), (.c (.int .i64 25))], (some 55), none⟩,
            ⟨.call (.f 23) [(.t 54), (.t 55)] [1000] [], (some 56), none⟩,
            ⟨.fad 0 (.t 3), (some 57), none⟩,
            ⟨.st 1 (.t 57) (.t 56), none, none⟩]))
          (.note (.gc [0, 3, 4]) (.reg [⟨.mv (.t 0), (some 7), none⟩,
            ⟨.lsl 1 [(.c (.int .i64 (-1))), (.c (.int .i64 0)), (.c (.int .i64 24)), (.c (.int .i64 25))], (some 8), none⟩,
            ⟨.call (.f 23) [(.t 7), (.t 8)] [1000] [], (some 9), none⟩,
            ⟨.fad 1 (.t 3), (some 10), none⟩,
            ⟨.st 1 (.t 10) (.t 9), none, none⟩]))))))))))))
  (.seq (.reg [⟨.ld (some 5) (.t 3), (some 58), none⟩,
    ⟨.st 5 (.t 4) (.t 58), none, none⟩])
  .ret)))
theorem ok_made_BentRights : mc_made_BentRights.ok Tryd.prog Tryd.f18.ntmps (Tryd.f18.body.getD .skip) = true := by kernel_rfl

set_option maxHeartbeats 2000000 in
theorem Wq_made_BentRights (t_ : GTape) (x_ : GRights) {Q : GRights × GTape → Prop} {Q' : V → Heap → Prop} (h : Ok (F_made_BentRights t_ x_) Q) (hQ : ∀ z, Q z → Q' (GRights.v z.1) [(1000, .cells [.sl (z.2.L.map (V.int .i64)), .int .i64 z.2.at_])]) : ACall Tryd.prog 18 [.ptr 1000 0, GRights.v x_] [(1000, .cells [.sl (t_.L.map (V.int .i64)), .int .i64 t_.at_])] Q' := by
  refine acall_machN [.fzc 4] [1000] [.c 4 (some 5)] Tryd.func18 rfl (by kernel_rfl) ok_made_BentRights (by kernel_rfl) rfl rfl fun M hf => ?_
  clear hf
  unfold F_made_BentRights at h
  unfold mc_made_BentRights
  (try replace h := tH h)
  refine tB ?_
  repeat' (first
    | (exact hQ _ h)
    | (exact trivial)
    | (exact False.elim h)
    | (have hq := hQ _ h; replace hq := tH hq; exact hq)
    | (refine oblg h ?_; clear h; intro hc h)
    | (refine roomG h ?_; clear h; intro hc h)
    | (refine fork h ?_ ?_ <;> clear h <;> intro hc h)
    | (refine forkS h ?_ ?_ <;> clear h <;> intro hc h)
    | (refine And.intro (chkD_of rfl) ?_)
    | (obtain ⟨y, hy, h⟩ := h; have hw := W_made_Tape_Next hy; (try replace hw := tH hw); (first | (refine sCall_of hw rfl rfl ?_; rw [M.lok_eq]) | (refine sCallD_of hw rfl rfl ?_; rw [M.lokD_eq])); clear hw; clear hy; refine tB ?_)
    | (obtain ⟨y, hy, h⟩ := h; have hw := W_made_Tape_Between hy; (try replace hw := tH hw); (first | (refine sCall_of hw rfl rfl ?_; rw [M.lok_eq]) | (refine sCallD_of hw rfl rfl ?_; rw [M.lokD_eq])); clear hw; clear hy; refine tB ?_)
    | (obtain ⟨y, hy, h⟩ := h; have hw := W_made_Pick hy; (try replace hw := tH hw); (first | (refine sCall_of hw rfl rfl ?_; rw [M.lok_eq]) | (refine sCallD_of hw rfl rfl ?_; rw [M.lokD_eq])); clear hw; clear hy; refine tB ?_)
    | (refine ⟨_, getE_map (inb_toNat (by assumption)), ?_⟩; (first | rw [M.lok_compU] | rw [M.lokD_compU]); refine tB ?_)
    | (refine And.intro (ltb_of (by assumption)) ?_)
    | (refine And.intro (by omega) ?_)
    | fail)
theorem W_made_BentRights : ∀ {t_ : GTape} {x_ : GRights} {y : GRights × GTape}, F_made_BentRights t_ x_ = some y → ACall Tryd.prog 18 [.ptr 1000 0, GRights.v x_] [(1000, .cells [.sl (t_.L.map (V.int .i64)), .int .i64 t_.at_])] (fun r H => r = GRights.v y.1 ∧ H = [(1000, .cells [.sl (y.2.L.map (V.int .i64)), .int .i64 y.2.at_])]) :=
  fun hy => Wq_made_BentRights _ _ (Q := fun z => z = _) ⟨_, hy, rfl⟩ fun z e => by subst e; exact ⟨rfl, rfl⟩

def F_ref31_Worths_L1 (k35 : Int) (a36 : Int) (x34 : Unit) : Option (Fl Unit Bool) :=
  grp ((decide (a36 < 0) || decide (100 < a36))) fun b44 => bif b44 then some (.ex false) else some (.nx ())
def F_ref31_Worths (x_ : GRights) (worths_ : List Int) : Option Bool :=
  bif (!decide ((worths_.length : Int) = x_.Resources)) then some false else (forL F_ref31_Worths_L1 worths_ 0 ()).bind fun o => o.elim (fun x45 => some true) (fun r46 => some r46)

/- leakresponse/leakresponseref31.Worths -/
@[irreducible] def mg_ref31_Worths_1 : List MOp := [⟨.mv (.t 6), (some 21), (some (20, false))⟩,
    ⟨.bin false .gtr (.t 21) (.c (.int .i64 100)), (some 22), (some (20, false))⟩,
    ⟨.pick (.t 20) (.c (.bool true)) (.t 22), (some 23), none⟩]
@[irreducible] def mc_ref31_Worths_L1 : MC :=
  (.seq (.reg [⟨.bin false .lss (.t 14) (.t 13), (some 15), none⟩])
  (.seq (.cond (.t 15)
    .skip
    (.exit 0))
  (.seq (.block 1
  (.seq (.reg [⟨.iad 1 (.t 12) (.t 14), (some 16), none⟩,
    ⟨.ld none (.t 16), (some 17), none⟩,
    ⟨.mv (.t 17), (some 6), none⟩])
  (.seq (.regI [.op ⟨.mv (.t 6), (some 18), none⟩,
    .op ⟨.bin false .lss (.t 18) (.c (.int .i64 0)), (some 19), none⟩,
    .op ⟨.mv (.t 19), (some 20), none⟩,
    .grp mg_ref31_Worths_1])
  (.cond (.t 23)
    (.seq (.reg [⟨.mv (.c (.bool false)), (some 4), none⟩])
    .ret)
    .skip))))
  (.reg [⟨.bin true .add (.t 14) (.c (.int .i64 1)), (some 24), none⟩,
    ⟨.mv (.t 24), (some 14), none⟩]))))
def mc_ref31_Worths : MC :=
  (.seq (.reg [⟨.box (.t 0), (some 2), none⟩,
    ⟨.mv (.c (.bool false)), (some 4), none⟩])
  (.seq (.seq (.reg [⟨.mv (.t 1), (some 7), none⟩,
    ⟨.len false (.t 7), (some 8), none⟩,
    ⟨.fad 1 (.t 2), (some 9), none⟩,
    ⟨.ld none (.t 9), (some 10), none⟩,
    ⟨.bin false .neq (.t 8) (.t 10), (some 11), none⟩])
  (.cond (.t 11)
    (.seq (.reg [⟨.mv (.c (.bool false)), (some 4), none⟩])
    .ret)
    .skip))
  (.seq (.seq (.note (.gc [1, 21, 22]) (.reg [⟨.mv (.t 1), (some 12), none⟩,
    ⟨.len false (.t 12), (some 13), none⟩,
    ⟨.mv (.c (.int .i64 0)), (some 14), none⟩]))
  (.block 0
  (.loop mc_ref31_Worths_L1)))
  (.seq (.reg [⟨.mv (.c (.bool true)), (some 4), none⟩])
  .ret))))
theorem ok_ref31_Worths : mc_ref31_Worths.ok Tryd.prog Tryd.f31.ntmps (Tryd.f31.body.getD .skip) = true := by kernel_rfl

set_option maxHeartbeats 2000000 in
theorem Wq_ref31_Worths (x_ : GRights) (worths_ : List Int) {Q : Bool → Prop} {Q' : V → Heap → Prop} (h : Ok (F_ref31_Worths x_ worths_) Q) (hQ : ∀ z, Q z → Q' (.bool z) []) : ACall Tryd.prog 31 [GRights.v x_, .sl (worths_.map (V.int .i64))] [] Q' := by
  refine acall_machN [] [] [.t 4] Tryd.func31 rfl (by kernel_rfl) ok_ref31_Worths (by kernel_rfl) rfl rfl fun M hf => ?_
  clear hf
  unfold F_ref31_Worths at h
  unfold mc_ref31_Worths
  (try replace h := tH h)
  refine tB ?_
  repeat' (first
    | (exact hQ _ h)
    | (exact trivial)
    | (exact False.elim h)
    | (have hq := hQ _ h; replace hq := tH hq; exact hq)
    | (refine oblg h ?_; clear h; intro hc h)
    | (refine roomG h ?_; clear h; intro hc h)
    | (refine fork h ?_ ?_ <;> clear h <;> intro hc h)
    | (refine forkS h ?_ ?_ <;> clear h <;> intro hc h)
    | (refine And.intro (chkD_of rfl) ?_)
    | (refine M.gv1 (ms := mg_ref31_Worths_1) 23 [21, 22] h ?_ ?_ <;> first
       | (clear h; intro K hK1; unfold mg_ref31_Worths_1; refine tB ?_)
       | (clear h; intro b h; (try replace h := tH h); refine tB ?_)
       | fail)
    | (refine M.for1 (b := mc_ref31_Worths_L1) 14 [12, 13] [] (fun x => []) (fun x => []) [] h ?_ ?_ ?_ <;> first
       | (clear h; intro k a x Qn K hK2 hkN2 ha2 h hf; have hl := fact_int (factsE_find (n := 13) hf.1 rfl); clear hf; have hkd := kD hkN2; have hkB2 := kB hkN2; have hkI2 : in64 ((k : Int) + 1) = true := in64_iff.2 ⟨by omega, by (try simp only [List.length_cons, List.length_nil] at hkN2); omega⟩; unfold F_ref31_Worths_L1 at h; unfold mc_ref31_Worths_L1; (try replace h := tH h); refine tK ha2 hkd hkN2 hkB2 hkI2 ?_)
       | (clear h; intro x K h; replace h := And.left (And.intro h trivial); unfold mc_ref31_Worths_L1; (try replace h := tH h); refine tB ?_)
       | (clear h; (try refine tB ?_); exact tU0; done)
       | fail)
    | (refine And.intro hkI2 ?_)
    | (refine And.intro hkN2 ?_)
    | (refine And.intro hkB2 ?_)
    | (simp only [ha2])
    | (refine hK1 _ ?_; exact tU; done)
    | (refine hK2 _ ?_; (try refine tB ?_); refine ⟨_, h, ?_⟩; exact tU0; done)
    | (refine bfork (fun hc => ?_) (fun hc => ?_))
    | (refine ⟨_, getE_map (inb_toNat (by assumption)), ?_⟩; (first | rw [M.lok_compU] | rw [M.lokD_compU]); refine tB ?_)
    | (refine And.intro (ltb_of (by assumption)) ?_)
    | (refine And.intro (by omega) ?_)
    | fail)
theorem W_ref31_Worths : ∀ {x_ : GRights} {worths_ : List Int} {y : Bool}, F_ref31_Worths x_ worths_ = some y → ACall Tryd.prog 31 [GRights.v x_, .sl (worths_.map (V.int .i64))] [] (fun r H => r = .bool y ∧ H = []) :=
  fun hy => Wq_ref31_Worths _ _ (Q := fun z => z = _) ⟨_, hy, rfl⟩ fun z e => by subst e; exact ⟨rfl, rfl⟩

def F_ref23_Has_L1 (x_ : Int) (k11 : Int) (a12 : Int) (x10 : Unit) : Option (Fl Unit Bool) :=
  bif decide (a12 = x_) then some (.ex true) else some (.nx ())
def F_ref23_Has (l_ : List Int) (x_ : Int) : Option Bool :=
  (forL (F_ref23_Has_L1 x_) l_ 0 ()).bind fun o => o.elim (fun x13 => some false) (fun r14 => some r14)

/- leakresponse/leakresponseref23.Has -/
@[irreducible] def mc_ref23_Has_L1 : MC :=
  (.seq (.reg [⟨.bin false .lss (.t 9) (.t 8), (some 10), none⟩])
  (.seq (.cond (.t 10)
    .skip
    (.exit 0))
  (.seq (.block 1
  (.seq (.reg [⟨.iad 1 (.t 7) (.t 9), (some 11), none⟩,
    ⟨.ld none (.t 11), (some 12), none⟩,
    ⟨.mv (.t 12), (some 6), none⟩])
  (.seq (.reg [⟨.mv (.t 6), (some 13), none⟩,
    ⟨.mv (.t 1), (some 14), none⟩,
    ⟨.bin false .eql (.t 13) (.t 14), (some 15), none⟩])
  (.cond (.t 15)
    (.seq (.reg [⟨.mv (.c (.bool true)), (some 4), none⟩])
    .ret)
    .skip))))
  (.reg [⟨.bin true .add (.t 9) (.c (.int .i64 1)), (some 16), none⟩,
    ⟨.mv (.t 16), (some 9), none⟩]))))
def mc_ref23_Has : MC :=
  (.seq (.reg [⟨.mv (.c (.bool false)), (some 4), none⟩])
  (.seq (.seq (.reg [⟨.mv (.t 0), (some 7), none⟩,
    ⟨.len false (.t 7), (some 8), none⟩,
    ⟨.mv (.c (.int .i64 0)), (some 9), none⟩])
  (.block 0
  (.loop mc_ref23_Has_L1)))
  (.seq (.reg [⟨.mv (.c (.bool false)), (some 4), none⟩])
  .ret)))
theorem ok_ref23_Has : mc_ref23_Has.ok Tryd.prog Tryd.f54.ntmps (Tryd.f54.body.getD .skip) = true := by kernel_rfl

set_option maxHeartbeats 2000000 in
theorem Wq_ref23_Has (l_ : List Int) (x_ : Int) {Q : Bool → Prop} {Q' : V → Heap → Prop} (h : Ok (F_ref23_Has l_ x_) Q) (hQ : ∀ z, Q z → Q' (.bool z) []) : ACall Tryd.prog 54 [.sl (l_.map (V.int .i64)), .int .i64 x_] [] Q' := by
  refine acall_machN [] [] [.t 4] Tryd.func54 rfl (by kernel_rfl) ok_ref23_Has (by kernel_rfl) rfl rfl fun M hf => ?_
  clear hf
  unfold F_ref23_Has at h
  unfold mc_ref23_Has
  (try replace h := tH h)
  refine tB ?_
  repeat' (first
    | (exact hQ _ h)
    | (exact trivial)
    | (exact False.elim h)
    | (have hq := hQ _ h; replace hq := tH hq; exact hq)
    | (refine oblg h ?_; clear h; intro hc h)
    | (refine roomG h ?_; clear h; intro hc h)
    | (refine fork h ?_ ?_ <;> clear h <;> intro hc h)
    | (refine forkS h ?_ ?_ <;> clear h <;> intro hc h)
    | (refine And.intro (chkD_of rfl) ?_)
    | (refine M.for1 (b := mc_ref23_Has_L1) 9 [1, 7, 8] [] (fun x => []) (fun x => []) [] h ?_ ?_ ?_ <;> first
       | (clear h; intro k a x Qn K hK1 hkN1 ha1 h hf; have hl := fact_int (factsE_find (n := 8) hf.1 rfl); clear hf; have hkd := kD hkN1; have hkB1 := kB hkN1; have hkI1 : in64 ((k : Int) + 1) = true := in64_iff.2 ⟨by omega, by (try simp only [List.length_cons, List.length_nil] at hkN1); omega⟩; unfold F_ref23_Has_L1 at h; unfold mc_ref23_Has_L1; (try replace h := tH h); refine tK ha1 hkd hkN1 hkB1 hkI1 ?_)
       | (clear h; intro x K h; replace h := And.left (And.intro h trivial); unfold mc_ref23_Has_L1; (try replace h := tH h); refine tB ?_)
       | (clear h; (try refine tB ?_); exact tU0; done)
       | fail)
    | (refine And.intro hkI1 ?_)
    | (refine And.intro hkN1 ?_)
    | (refine And.intro hkB1 ?_)
    | (simp only [ha1])
    | (refine hK1 _ ?_; (try refine tB ?_); refine ⟨_, h, ?_⟩; exact tU0; done)
    | (refine ⟨_, getE_map (inb_toNat (by assumption)), ?_⟩; (first | rw [M.lok_compU] | rw [M.lokD_compU]); refine tB ?_)
    | (refine And.intro (ltb_of (by assumption)) ?_)
    | (refine And.intro (by omega) ?_)
    | fail)
theorem W_ref23_Has : ∀ {l_ : List Int} {x_ : Int} {y : Bool}, F_ref23_Has l_ x_ = some y → ACall Tryd.prog 54 [.sl (l_.map (V.int .i64)), .int .i64 x_] [] (fun r H => r = .bool y ∧ H = []) :=
  fun hy => Wq_ref23_Has _ _ (Q := fun z => z = _) ⟨_, hy, rfl⟩ fun z e => by subst e; exact ⟨rfl, rfl⟩

def F_ref25_bound_L1 (set_ : List Int) (k48 : Int) (a49 : GGrant) (x47 : List Int) : Option (List Int) :=
  (F_ref23_Has set_ a49.Credential).bind fun y57 => bif y57 then chk (inb a49.Resource x47.length) (chk (inb a49.Resource x47.length) (some (x47.set ((a49.Resource).toNat) (max (x47.getD ((a49.Resource).toNat) default) a49.Right)))) else some x47
def F_ref25_bound (x_ : GRights) (set_ : List Int) : Option (List Int) :=
  chk (roomI x_.Resources x_.Resources 8) ((foldL (F_ref25_bound_L1 set_) x_.Grants 0 (List.replicate (x_.Resources).toNat 0)).bind fun x58 => some x58)

/- leakresponse/leakresponseref25.bound -/
@[irreducible] def mc_ref25_bound_L1 : MC :=
  (.seq (.reg [⟨.bin false .lss (.t 14) (.t 13), (some 15), none⟩])
  (.seq (.cond (.t 15)
    .skip
    (.exit 0))
  (.seq (.block 1
  (.seq (.reg [⟨.iad 3 (.t 12) (.t 14), (some 16), none⟩,
    ⟨.ld (some 3) (.t 16), (some 17), none⟩,
    ⟨.alloc [(.int .i64 0), (.int .i64 0), (.int .i64 0)], (some 7), none⟩,
    ⟨.st 3 (.t 7) (.t 17), none, none⟩])
  (.seq (.reg [⟨.mv (.t 1), (some 18), none⟩,
    ⟨.fad 0 (.t 7), (some 19), none⟩,
    ⟨.ld none (.t 19), (some 20), none⟩,
    ⟨.call (.f 54) [(.t 18), (.t 20)] [] [], (some 21), none⟩])
  (.cond (.t 21)
    (.regD [⟨.mv (.t 5), (some 22), none⟩,
      ⟨.fad 1 (.t 7), (some 23), none⟩,
      ⟨.ld none (.t 23), (some 24), none⟩,
      ⟨.mv (.t 5), (some 25), none⟩,
      ⟨.fad 1 (.t 7), (some 26), none⟩,
      ⟨.ld none (.t 26), (some 27), none⟩,
      ⟨.iad 1 (.t 25) (.t 27), (some 28), none⟩,
      ⟨.ld none (.t 28), (some 29), none⟩,
      ⟨.fad 2 (.t 7), (some 30), none⟩,
      ⟨.ld none (.t 30), (some 31), none⟩,
      ⟨.mm true (.t 29) (.t 31), (some 32), none⟩,
      ⟨.iad 1 (.t 22) (.t 24), (some 33), none⟩,
      ⟨.st 1 (.t 33) (.t 32), none, none⟩]
      [[], [], [1], [], [], [4], [3, 5], [6], [], [8], [7, 9], [0, 2, 0, 1, 2, 3, 4, 5, 6, 7, 8, 9, 10], [11, 10, 0, 1, 2, 3, 4, 5, 6, 7, 8, 9, 10]]
      [[], [], [1], [], [], [4], [3, 4, 5], [3, 4, 5, 6], [], [8], [3, 4, 5, 6, 7, 8, 9], [0, 1, 2, 3, 4, 5, 6, 7, 8, 9, 10], [0, 1, 2, 3, 4, 5, 6, 7, 8, 9, 10, 11]])
    .skip))))
  (.reg [⟨.bin true .add (.t 14) (.c (.int .i64 1)), (some 34), none⟩,
    ⟨.mv (.t 34), (some 14), none⟩]))))
def mc_ref25_bound : MC :=
  (.seq (.reg [⟨.box (.t 0), (some 2), none⟩,
    ⟨.mv (.c (.sl [])), (some 4), none⟩])
  (.seq (.reg [⟨.fad 1 (.t 2), (some 8), none⟩,
    ⟨.ld none (.t 8), (some 9), none⟩,
    ⟨.mksl 1 8 (.int .i64 0) (.t 9) (.t 9), (some 10), none⟩,
    ⟨.mv (.t 10), (some 5), none⟩])
  (.seq (.seq (.reg [⟨.fad 2 (.t 2), (some 11), none⟩,
    ⟨.ld none (.t 11), (some 12), none⟩,
    ⟨.len false (.t 12), (some 13), none⟩,
    ⟨.mv (.c (.int .i64 0)), (some 14), none⟩])
  (.block 0
  (.loop mc_ref25_bound_L1)))
  (.seq (.reg [⟨.mv (.t 5), (some 35), none⟩,
    ⟨.mv (.t 35), (some 4), none⟩])
  .ret))))
theorem ok_ref25_bound : mc_ref25_bound.ok Tryd.prog Tryd.f46.ntmps (Tryd.f46.body.getD .skip) = true := by kernel_rfl

set_option maxHeartbeats 2000000 in
theorem Wq_ref25_bound (x_ : GRights) (set_ : List Int) {Q : List Int → Prop} {Q' : V → Heap → Prop} (h : Ok (F_ref25_bound x_ set_) Q) (hQ : ∀ z, Q z → Q' (.sl (z.map (V.int .i64))) []) : ACall Tryd.prog 46 [GRights.v x_, .sl (set_.map (V.int .i64))] [] Q' := by
  refine acall_machN [.fz 4] [] [.t 4] Tryd.func46 rfl (by kernel_rfl) ok_ref25_bound (by kernel_rfl) rfl rfl fun M hf => ?_
  clear hf
  unfold F_ref25_bound at h
  unfold mc_ref25_bound
  (try replace h := tH h)
  refine tB ?_
  repeat' (first
    | (exact hQ _ h)
    | (exact trivial)
    | (exact False.elim h)
    | (have hq := hQ _ h; replace hq := tH hq; exact hq)
    | (refine oblg h ?_; clear h; intro hc h)
    | (refine roomG h ?_; clear h; intro hc h)
    | (refine fork h ?_ ?_ <;> clear h <;> intro hc h)
    | (refine forkS h ?_ ?_ <;> clear h <;> intro hc h)
    | (refine And.intro (chkD_of rfl) ?_)
    | (obtain ⟨y, hy, h⟩ := h; have hw := W_ref23_Has hy; (try replace hw := tH hw); (first | (refine sCall_of hw rfl rfl ?_; rw [M.lok_eq]) | (refine sCallD_of hw rfl rfl ?_; rw [M.lokD_eq])); clear hw; clear hy; refine tB ?_)
    | (refine M.fold1 (b := mc_ref25_bound_L1) 14 [1, 12, 13] [] (fun x => [(5, .osl 10 1 0 x.length)]) (fun x => [.o 10 (.arr 1 (x.map (V.int .i64)))]) [] h ?_ ?_ ?_ <;> first
       | (clear h; intro k a x Qn K hK1 hkN1 ha1 h hf; have hl := fact_int (factsE_find (n := 13) hf.1 rfl); clear hf; have hkd := kD hkN1; have hkB1 := kB hkN1; have hkI1 : in64 ((k : Int) + 1) = true := in64_iff.2 ⟨by omega, by (try simp only [List.length_cons, List.length_nil] at hkN1); omega⟩; unfold F_ref25_bound_L1 at h; unfold mc_ref25_bound_L1; (try replace h := tH h); refine tK ha1 hkd hkN1 hkB1 hkI1 ?_)
       | (clear h; intro x K h; replace h := And.left (And.intro h trivial); unfold mc_ref25_bound_L1; (try replace h := tH h); refine tB ?_)
       | (clear h; (try refine tB ?_); exact tU0; done)
       | fail)
    | (refine And.intro hkI1 ?_)
    | (refine And.intro hkN1 ?_)
    | (refine And.intro hkB1 ?_)
    | (simp only [ha1])
    | (refine hK1 _ ?_; (try refine tB ?_); refine ⟨_, h, ?_⟩; exact tU0; done)
    | (refine ⟨_, getE_map (inb_toNat (by assumption)), ?_⟩; (first | rw [M.lok_compU] | rw [M.lokD_compU]); refine tB ?_)
    | (refine And.intro (ltb_of (by assumption)) ?_)
    | (refine And.intro (by omega) ?_)
    | fail)
theorem W_ref25_bound : ∀ {x_ : GRights} {set_ : List Int} {y : List Int}, F_ref25_bound x_ set_ = some y → ACall Tryd.prog 46 [GRights.v x_, .sl (set_.map (V.int .i64))] [] (fun r H => r = .sl (y.map (V.int .i64)) ∧ H = []) :=
  fun hy => Wq_ref25_bound _ _ (Q := fun z => z = _) ⟨_, hy, rfl⟩ fun z e => by subst e; exact ⟨rfl, rfl⟩

def F_ref25_Power (x_ : GRights) (c_ : Int) : Option (List Int) :=
  (F_ref25_Valid x_).bind fun y7 => bif (!y7) then some [] else chk (in64 (x_.Credentials - 1)) ((F_ref25_in c_ 0 (x_.Credentials - 1)).bind fun y8 => bif (!y8) then some [] else (F_ref25_Reach x_ c_).bind fun y11 => (F_ref25_bound x_ y11).bind fun y12 => some y12)

/- leakresponse/leakresponseref25.Power -/
def mc_ref25_Power : MC :=
  (.seq (.reg [⟨.box (.t 0), (some 2), none⟩,
    ⟨.mv (.c (.sl [])), (some 4), none⟩])
  (.seq (.seq (.reg [⟨.ld (some 5) (.t 2), (some 5), none⟩,
    ⟨.call (.f 24) [(.t 5)] [] [], (some 6), none⟩,
    ⟨.not (.t 6), (some 7), none⟩,
    ⟨.mv (.t 7), (some 8), none⟩,
    ⟨.mv (.t 1), (some 9), (some (8, false))⟩,
    ⟨.fad 0 (.t 2), (some 10), (some (8, false))⟩,
    ⟨.ld none (.t 10), (some 11), (some (8, false))⟩,
    ⟨.bin true .sub (.t 11) (.c (.int .i64 1)), (some 12), (some (8, false))⟩,
    ⟨.call (.f 25) [(.t 9), (.c (.int .i64 0)), (.t 12)] [] [], (some 13), (some (8, false))⟩,
    ⟨.not (.t 13), (some 14), (some (8, false))⟩,
    ⟨.pick (.t 8) (.c (.bool true)) (.t 14), (some 15), none⟩])
  (.cond (.t 15)
    (.seq (.reg [⟨.mv (.c (.sl [])), (some 4), none⟩])
    .ret)
    .skip))
  (.seq (.note (.gc [1, 2]) (.regD [⟨.ld (some 5) (.t 2), (some 16), none⟩,
    ⟨.ld (some 5) (.t 2), (some 17), none⟩,
    ⟨.mv (.t 1), (some 18), none⟩,
    ⟨.call (.f 15) [(.t 17), (.t 18)] [] [], (some 19), none⟩,
    ⟨.call (.f 46) [(.t 16), (.t 19)] [] [], (some 20), none⟩,
    ⟨.mv (.t 20), (some 4), none⟩]
    [[], [], [], [1, 2], [0, 3, 3], [4, 4, 0, 1, 2, 3, 4]]
    [[], [], [], [1, 2], [0, 1, 2, 3], [0, 1, 2, 3, 4]]))
  .ret)))
theorem ok_ref25_Power : mc_ref25_Power.ok Tryd.prog Tryd.f32.ntmps (Tryd.f32.body.getD .skip) = true := by kernel_rfl

set_option maxHeartbeats 2000000 in
theorem Wq_ref25_Power (x_ : GRights) (c_ : Int) {Q : List Int → Prop} {Q' : V → Heap → Prop} (h : Ok (F_ref25_Power x_ c_) Q) (hQ : ∀ z, Q z → Q' (.sl (z.map (V.int .i64))) []) : ACall Tryd.prog 32 [GRights.v x_, .int .i64 c_] [] Q' := by
  refine acall_machN [.fz 4] [] [.t 4] Tryd.func32 rfl (by kernel_rfl) ok_ref25_Power (by kernel_rfl) rfl rfl fun M hf => ?_
  clear hf
  unfold F_ref25_Power at h
  unfold mc_ref25_Power
  (try replace h := tH h)
  refine tB ?_
  repeat' (first
    | (exact hQ _ h)
    | (exact trivial)
    | (exact False.elim h)
    | (have hq := hQ _ h; replace hq := tH hq; exact hq)
    | (refine oblg h ?_; clear h; intro hc h)
    | (refine roomG h ?_; clear h; intro hc h)
    | (refine fork h ?_ ?_ <;> clear h <;> intro hc h)
    | (refine forkS h ?_ ?_ <;> clear h <;> intro hc h)
    | (refine And.intro (chkD_of rfl) ?_)
    | (obtain ⟨y, hy, h⟩ := h; have hw := W_ref25_Valid hy; (try replace hw := tH hw); (first | (refine sCall_of hw rfl rfl ?_; rw [M.lok_eq]) | (refine sCallD_of hw rfl rfl ?_; rw [M.lokD_eq])); clear hw; clear hy; refine tB ?_)
    | (obtain ⟨y, hy, h⟩ := h; have hw := W_ref25_in hy; (try replace hw := tH hw); (first | (refine sCall_of hw rfl rfl ?_; rw [M.lok_eq]) | (refine sCallD_of hw rfl rfl ?_; rw [M.lokD_eq])); clear hw; clear hy; refine tB ?_)
    | (obtain ⟨y, hy, h⟩ := h; have hw := W_ref25_Reach hy; (try replace hw := tH hw); (first | (refine sCall_of hw rfl rfl ?_; rw [M.lok_eq]) | (refine sCallD_of hw rfl rfl ?_; rw [M.lokD_eq])); clear hw; clear hy; refine tB ?_)
    | (obtain ⟨y, hy, h⟩ := h; have hw := W_ref25_bound hy; (try replace hw := tH hw); (first | (refine sCall_of hw rfl rfl ?_; rw [M.lok_eq]) | (refine sCallD_of hw rfl rfl ?_; rw [M.lokD_eq])); clear hw; clear hy; refine tB ?_)
    | (refine ⟨_, getE_map (inb_toNat (by assumption)), ?_⟩; (first | rw [M.lok_compU] | rw [M.lokD_compU]); refine tB ?_)
    | (refine And.intro (ltb_of (by assumption)) ?_)
    | (refine And.intro (by omega) ?_)
    | fail)
theorem W_ref25_Power : ∀ {x_ : GRights} {c_ : Int} {y : List Int}, F_ref25_Power x_ c_ = some y → ACall Tryd.prog 32 [GRights.v x_, .int .i64 c_] [] (fun r H => r = .sl (y.map (V.int .i64)) ∧ H = []) :=
  fun hy => Wq_ref25_Power _ _ (Q := fun z => z = _) ⟨_, hy, rfl⟩ fun z e => by subst e; exact ⟨rfl, rfl⟩

def F_ref31_Worth_L1 (worths_ : List Int) (k32 : Int) (a33 : Int) (x31 : Int) : Option Int :=
  chk (inb k32 worths_.length) (chk (in64 ((worths_.getD (k32).toNat default) * a33)) (chk (in64 (x31 + ((worths_.getD (k32).toNat default) * a33))) (some (x31 + ((worths_.getD (k32).toNat default) * a33)))))
def F_ref31_Worth (x_ : GRights) (worths_ : List Int) (c_ : Int) : Option (Int × Int) :=
  (F_ref25_Valid x_).bind fun y4 => bif (!y4) then some (0, 32) else (F_ref31_Worths x_ worths_).bind fun y8 => bif (!y8) then some (0, 2) else grp ((decide (c_ < 0) || decide (x_.Credentials ≤ c_))) fun b12 => bif b12 then some (0, 6) else (F_ref25_Power x_ c_).bind fun y25 => (foldL (F_ref31_Worth_L1 worths_) y25 0 0).bind fun x34 => some (x34, 0)

/- leakresponse/leakresponseref31.Worth -/
@[irreducible] def mg_ref31_Worth_1 : List MOp := [⟨.mv (.t 2), (some 21), (some (20, false))⟩,
    ⟨.fad 0 (.t 3), (some 22), (some (20, false))⟩,
    ⟨.ld none (.t 22), (some 23), (some (20, false))⟩,
    ⟨.bin false .geq (.t 21) (.t 23), (some 24), (some (20, false))⟩,
    ⟨.pick (.t 20) (.c (.bool true)) (.t 24), (some 25), none⟩]
@[irreducible] def mc_ref31_Worth_L1 : MC :=
  (.seq (.reg [⟨.bin false .lss (.t 30) (.t 29), (some 31), none⟩])
  (.seq (.cond (.t 31)
    .skip
    (.exit 0))
  (.seq (.block 1
  (.seq (.reg [⟨.mv (.t 30), (some 32), none⟩,
    ⟨.iad 1 (.t 28) (.t 30), (some 33), none⟩,
    ⟨.ld none (.t 33), (some 34), none⟩,
    ⟨.mv (.t 32), (some 9), none⟩,
    ⟨.mv (.t 34), (some 10), none⟩])
  (.reg [⟨.mv (.t 8), (some 35), none⟩,
    ⟨.mv (.t 1), (some 36), none⟩,
    ⟨.mv (.t 9), (some 37), none⟩,
    ⟨.iad 1 (.t 36) (.t 37), (some 38), none⟩,
    ⟨.ld none (.t 38), (some 39), none⟩,
    ⟨.mv (.t 10), (some 40), none⟩,
    ⟨.bin true .mul (.t 39) (.t 40), (some 41), none⟩,
    ⟨.bin true .add (.t 35) (.t 41), (some 42), none⟩,
    ⟨.mv (.t 42), (some 8), none⟩])))
  (.reg [⟨.bin true .add (.t 30) (.c (.int .i64 1)), (some 43), none⟩,
    ⟨.mv (.t 43), (some 30), none⟩]))))
def mc_ref31_Worth : MC :=
  (.seq (.reg [⟨.box (.t 0), (some 3), none⟩,
    ⟨.mv (.c (.int .i64 0)), (some 6), none⟩,
    ⟨.mv (.c (.int .i64 0)), (some 7), none⟩])
  (.seq (.seq (.reg [⟨.ld (some 5) (.t 3), (some 11), none⟩,
    ⟨.call (.f 24) [(.t 11)] [] [], (some 12), none⟩,
    ⟨.not (.t 12), (some 13), none⟩])
  (.cond (.t 13)
    (.seq (.reg [⟨.mv (.c (.int .i64 0)), (some 6), none⟩,
      ⟨.mv (.c (.int .i64 32)), (some 7), none⟩])
    .ret)
    .skip))
  (.seq (.seq (.reg [⟨.ld (some 5) (.t 3), (some 14), none⟩,
    ⟨.mv (.t 1), (some 15), none⟩,
    ⟨.call (.f 31) [(.t 14), (.t 15)] [] [], (some 16), none⟩,
    ⟨.not (.t 16), (some 17), none⟩])
  (.cond (.t 17)
    (.seq (.reg [⟨.mv (.c (.int .i64 0)), (some 6), none⟩,
      ⟨.mv (.c (.int .i64 2)), (some 7), none⟩])
    .ret)
    .skip))
  (.seq (.seq (.note (.gc [1, 2, 3, 21, 22, 23, 24]) (.regI [.op ⟨.mv (.t 2), (some 18), none⟩,
    .op ⟨.bin false .lss (.t 18) (.c (.int .i64 0)), (some 19), none⟩,
    .op ⟨.mv (.t 19), (some 20), none⟩,
    .grp mg_ref31_Worth_1]))
  (.cond (.t 25)
    (.seq (.reg [⟨.mv (.c (.int .i64 0)), (some 6), none⟩,
      ⟨.mv (.c (.int .i64 6)), (some 7), none⟩])
    .ret)
    .skip))
  (.seq (.reg [⟨.mv (.c (.int .i64 0)), (some 8), none⟩])
  (.seq (.seq (.reg [⟨.ld (some 5) (.t 3), (some 26), none⟩,
    ⟨.mv (.t 2), (some 27), none⟩,
    ⟨.call (.f 32) [(.t 26), (.t 27)] [] [], (some 28), none⟩,
    ⟨.len false (.t 28), (some 29), none⟩,
    ⟨.mv (.c (.int .i64 0)), (some 30), none⟩])
  (.block 0
  (.loop mc_ref31_Worth_L1)))
  (.seq (.reg [⟨.mv (.t 8), (some 44), none⟩,
    ⟨.mv (.t 44), (some 6), none⟩,
    ⟨.mv (.c (.int .i64 0)), (some 7), none⟩])
  .ret)))))))
theorem ok_ref31_Worth : mc_ref31_Worth.ok Tryd.prog Tryd.f19.ntmps (Tryd.f19.body.getD .skip) = true := by kernel_rfl

set_option maxHeartbeats 2000000 in
theorem Wq_ref31_Worth (x_ : GRights) (worths_ : List Int) (c_ : Int) {Q : Int × Int → Prop} {Q' : V → Heap → Prop} (h : Ok (F_ref31_Worth x_ worths_ c_) Q) (hQ : ∀ z, Q z → Q' (.tup [.int .i64 z.1, .int .i64 z.2]) []) : ACall Tryd.prog 19 [GRights.v x_, .sl (worths_.map (V.int .i64)), .int .i64 c_] [] Q' := by
  refine acall_machN [] [] [.t 6, .t 7] Tryd.func19 rfl (by kernel_rfl) ok_ref31_Worth (by kernel_rfl) rfl rfl fun M hf => ?_
  clear hf
  unfold F_ref31_Worth at h
  unfold mc_ref31_Worth
  (try replace h := tH h)
  refine tB ?_
  repeat' (first
    | (exact hQ _ h)
    | (exact trivial)
    | (exact False.elim h)
    | (have hq := hQ _ h; replace hq := tH hq; exact hq)
    | (refine oblg h ?_; clear h; intro hc h)
    | (refine roomG h ?_; clear h; intro hc h)
    | (refine fork h ?_ ?_ <;> clear h <;> intro hc h)
    | (refine forkS h ?_ ?_ <;> clear h <;> intro hc h)
    | (refine And.intro (chkD_of rfl) ?_)
    | (obtain ⟨y, hy, h⟩ := h; have hw := W_ref25_Valid hy; (try replace hw := tH hw); (first | (refine sCall_of hw rfl rfl ?_; rw [M.lok_eq]) | (refine sCallD_of hw rfl rfl ?_; rw [M.lokD_eq])); clear hw; clear hy; refine tB ?_)
    | (obtain ⟨y, hy, h⟩ := h; have hw := W_ref31_Worths hy; (try replace hw := tH hw); (first | (refine sCall_of hw rfl rfl ?_; rw [M.lok_eq]) | (refine sCallD_of hw rfl rfl ?_; rw [M.lokD_eq])); clear hw; clear hy; refine tB ?_)
    | (obtain ⟨y, hy, h⟩ := h; have hw := W_ref25_Power hy; (try replace hw := tH hw); (first | (refine sCall_of hw rfl rfl ?_; rw [M.lok_eq]) | (refine sCallD_of hw rfl rfl ?_; rw [M.lokD_eq])); clear hw; clear hy; refine tB ?_)
    | (refine M.fold1 (b := mc_ref31_Worth_L1) 30 [1, 28, 29] [] (fun x => [(8, .int .i64 x)]) (fun x => []) [] h ?_ ?_ ?_ <;> first
       | (clear h; intro k a x Qn K hK1 hkN1 ha1 h hf; have hl := fact_int (factsE_find (n := 29) hf.1 rfl); clear hf; have hkd := kD hkN1; have hkB1 := kB hkN1; have hkI1 : in64 ((k : Int) + 1) = true := in64_iff.2 ⟨by omega, by (try simp only [List.length_cons, List.length_nil] at hkN1); omega⟩; unfold F_ref31_Worth_L1 at h; unfold mc_ref31_Worth_L1; (try replace h := tH h); refine tK ha1 hkd hkN1 hkB1 hkI1 ?_)
       | (clear h; intro x K h; replace h := And.left (And.intro h trivial); unfold mc_ref31_Worth_L1; (try replace h := tH h); refine tB ?_)
       | (clear h; (try refine tB ?_); exact tU0; done)
       | fail)
    | (refine M.gv1 (ms := mg_ref31_Worth_1) 25 [21, 22, 23, 24] h ?_ ?_ <;> first
       | (clear h; intro K hK2; unfold mg_ref31_Worth_1; refine tB ?_)
       | (clear h; intro b h; (try replace h := tH h); refine tB ?_)
       | fail)
    | (refine And.intro hkI1 ?_)
    | (refine And.intro hkN1 ?_)
    | (refine And.intro hkB1 ?_)
    | (simp only [ha1])
    | (refine hK1 _ ?_; (try refine tB ?_); refine ⟨_, h, ?_⟩; exact tU0; done)
    | (refine hK2 _ ?_; exact tU; done)
    | (refine bfork (fun hc => ?_) (fun hc => ?_))
    | (refine ⟨_, getE_map (inb_toNat (by assumption)), ?_⟩; (first | rw [M.lok_compU] | rw [M.lokD_compU]); refine tB ?_)
    | (refine And.intro (ltb_of (by assumption)) ?_)
    | (refine And.intro (by omega) ?_)
    | fail)
theorem W_ref31_Worth : ∀ {x_ : GRights} {worths_ : List Int} {c_ : Int} {y : Int × Int}, F_ref31_Worth x_ worths_ c_ = some y → ACall Tryd.prog 19 [GRights.v x_, .sl (worths_.map (V.int .i64)), .int .i64 c_] [] (fun r H => r = .tup [.int .i64 y.1, .int .i64 y.2] ∧ H = []) :=
  fun hy => Wq_ref31_Worth _ _ _ (Q := fun z => z = _) ⟨_, hy, rfl⟩ fun z e => by subst e; exact ⟨rfl, rfl⟩

def F_ref31_Rate (x_ : GRights) (worths_ : List Int) (c_ : Int) (readers_ : Int) (public_ : Bool) : Option (GSeverity × Int) :=
  (F_ref31_Worth x_ worths_ c_).bind fun y2 => bif (!decide (y2.2 = 0)) then some ((GSeverity.mk 0 0 0 0), y2.2) else grp ((decide (readers_ < 0) || decide (24 < readers_))) fun b6 => bif b6 then some ((GSeverity.mk 0 0 0 0), 2) else chk (in64 (1 + readers_)) (jn (α := GSeverity) (bif public_ then some (GSeverity.mk 0 y2.1 100 0) else some (GSeverity.mk 0 y2.1 (1 + readers_) 0)) fun j7 => chk (in64 (j7.Worth * j7.Audience)) ((F_ref31_Level (j7.Worth * j7.Audience)).bind fun y9 => some ((GSeverity.mk y9 j7.Worth j7.Audience (j7.Worth * j7.Audience)), 0)))

/- leakresponse/leakresponseref31.Rate -/
@[irreducible] def mg_ref31_Rate_1 : List MOp := [⟨.mv (.t 3), (some 29), (some (28, false))⟩,
    ⟨.bin false .gtr (.t 29) (.c (.int .i64 24)), (some 30), (some (28, false))⟩,
    ⟨.pick (.t 28) (.c (.bool true)) (.t 30), (some 31), none⟩]
@[irreducible] def mc_ref31_Rate_J1 : MC :=
  (.seq (.reg [⟨.fad 1 (.t 14), (some 39), none⟩,
    ⟨.ld none (.t 39), (some 40), none⟩,
    ⟨.fad 2 (.t 14), (some 41), none⟩,
    ⟨.ld none (.t 41), (some 42), none⟩,
    ⟨.bin true .mul (.t 40) (.t 42), (some 43), none⟩,
    ⟨.fad 3 (.t 14), (some 44), none⟩,
    ⟨.st 1 (.t 44) (.t 43), none, none⟩])
  (.seq (.reg [⟨.fad 3 (.t 14), (some 45), none⟩,
    ⟨.ld none (.t 45), (some 46), none⟩,
    ⟨.call (.f 17) [(.t 46)] [] [], (some 47), none⟩,
    ⟨.fad 0 (.t 14), (some 48), none⟩,
    ⟨.st 1 (.t 48) (.t 47), none, none⟩])
  (.seq (.note (.gc [10, 14]) (.reg [⟨.ld (some 4) (.t 14), (some 49), none⟩,
    ⟨.st 4 (.t 10) (.t 49), none, none⟩,
    ⟨.mv (.c (.int .i64 0)), (some 11), none⟩]))
  .ret)))
def mc_ref31_Rate : MC :=
  (.seq (.reg [⟨.box (.t 0), (some 5), none⟩,
    ⟨.alloc [(.int .i64 0), (.int .i64 0), (.int .i64 0), (.int .i64 0)], (some 10), none⟩,
    ⟨.mv (.c (.int .i64 0)), (some 11), none⟩])
  (.seq (.reg [⟨.ld (some 5) (.t 5), (some 16), none⟩,
    ⟨.mv (.t 1), (some 17), none⟩,
    ⟨.mv (.t 2), (some 18), none⟩,
    ⟨.call (.f 19) [(.t 16), (.t 17), (.t 18)] [] [], (some 19), none⟩,
    ⟨.mv (.t 19), (some 15), none⟩,
    ⟨.ext 0 (.t 15), (some 20), none⟩,
    ⟨.ext 1 (.t 15), (some 21), none⟩,
    ⟨.mv (.t 20), (some 12), none⟩,
    ⟨.mv (.t 21), (some 13), none⟩])
  (.seq (.seq (.reg [⟨.mv (.t 13), (some 22), none⟩,
    ⟨.bin false .neq (.t 22) (.c (.int .i64 0)), (some 23), none⟩])
  (.cond (.t 23)
    (.seq (.note (.gc [10, 13]) (.reg [⟨.build [(.int .i64 0), (.int .i64 0), (.int .i64 0), (.int .i64 0)] [], (some 24), none⟩,
      ⟨.mv (.t 13), (some 25), none⟩,
      ⟨.st 4 (.t 10) (.t 24), none, none⟩,
      ⟨.mv (.t 25), (some 11), none⟩]))
    .ret)
    .skip))
  (.seq (.seq (.note (.gc [3, 4, 10, 12, 29, 30]) (.regI [.op ⟨.mv (.t 3), (some 26), none⟩,
    .op ⟨.bin false .lss (.t 26) (.c (.int .i64 0)), (some 27), none⟩,
    .op ⟨.mv (.t 27), (some 28), none⟩,
    .grp mg_ref31_Rate_1]))
  (.cond (.t 31)
    (.seq (.reg [⟨.build [(.int .i64 0), (.int .i64 0), (.int .i64 0), (.int .i64 0)] [], (some 32), none⟩,
      ⟨.st 4 (.t 10) (.t 32), none, none⟩,
      ⟨.mv (.c (.int .i64 2)), (some 11), none⟩])
    .ret)
    .skip))
  (.seq (.reg [⟨.mv (.t 12), (some 33), none⟩,
    ⟨.mv (.t 3), (some 34), none⟩,
    ⟨.bin true .add (.c (.int .i64 1)) (.t 34), (some 35), none⟩,
    ⟨.build [(.int .i64 0), (.int .i64 0), (.int .i64 0), (.int .i64 0)] [(1, 1, (.t 33)), (2, 1, (.t 35))], (some 36), none⟩,
    ⟨.alloc [(.int .i64 0), (.int .i64 0), (.int .i64 0), (.int .i64 0)], (some 14), none⟩,
    ⟨.st 4 (.t 14) (.t 36), none, none⟩])
  (.cut (.seq (.reg [⟨.mv (.t 4), (some 37), none⟩])
  (.cond (.t 37)
    (.reg [⟨.fad 2 (.t 14), (some 38), none⟩,
      ⟨.st 1 (.t 38) (.c (.int .i64 100)), none, none⟩])
    .skip))
  mc_ref31_Rate_J1))))))
theorem ok_ref31_Rate : mc_ref31_Rate.ok Tryd.prog Tryd.f20.ntmps (Tryd.f20.body.getD .skip) = true := by kernel_rfl

set_option maxHeartbeats 2000000 in
theorem Wq_ref31_Rate (x_ : GRights) (worths_ : List Int) (c_ : Int) (readers_ : Int) (public_ : Bool) {Q : GSeverity × Int → Prop} {Q' : V → Heap → Prop} (h : Ok (F_ref31_Rate x_ worths_ c_ readers_ public_) Q) (hQ : ∀ z, Q z → Q' (.tup [GSeverity.v z.1, .int .i64 z.2]) []) : ACall Tryd.prog 20 [GRights.v x_, .sl (worths_.map (V.int .i64)), .int .i64 c_, .int .i64 readers_, .bool public_] [] Q' := by
  refine acall_machN [] [] [.c 10 (some 4), .t 11] Tryd.func20 rfl (by kernel_rfl) ok_ref31_Rate (by kernel_rfl) rfl rfl fun M hf => ?_
  clear hf
  unfold F_ref31_Rate at h
  unfold mc_ref31_Rate
  (try replace h := tH h)
  refine tB ?_
  repeat' (first
    | (exact hQ _ h)
    | (exact trivial)
    | (exact False.elim h)
    | (have hq := hQ _ h; replace hq := tH hq; exact hq)
    | (refine oblg h ?_; clear h; intro hc h)
    | (refine roomG h ?_; clear h; intro hc h)
    | (refine fork h ?_ ?_ <;> clear h <;> intro hc h)
    | (refine forkS h ?_ ?_ <;> clear h <;> intro hc h)
    | (refine And.intro (chkD_of rfl) ?_)
    | (obtain ⟨y, hy, h⟩ := h; have hw := W_ref31_Worth hy; (try replace hw := tH hw); (first | (refine sCall_of hw rfl rfl ?_; rw [M.lok_eq]) | (refine sCallD_of hw rfl rfl ?_; rw [M.lokD_eq])); clear hw; clear hy; refine tB ?_)
    | (obtain ⟨y, hy, h⟩ := h; have hw := W_ref31_Level hy; (try replace hw := tH hw); (first | (refine sCall_of hw rfl rfl ?_; rw [M.lok_eq]) | (refine sCallD_of hw rfl rfl ?_; rw [M.lokD_eq])); clear hw; clear hy; refine tB ?_)
    | (refine M.jn1 (b := mc_ref31_Rate_J1) [10, 14] [10] (fun y => []) (fun y => [.o 14 (.cells [.int .i64 y.Level, .int .i64 y.Worth, .int .i64 y.Audience, .int .i64 y.Score])]) [] h ?_ ?_ <;> first
       | (clear h; intro Qn K hK1 h; (try replace h := tH h); refine tB ?_)
       | (clear h; intro y h; unfold mc_ref31_Rate_J1; (try replace h := tH h); refine tB ?_)
       | fail)
    | (refine M.gv1 (ms := mg_ref31_Rate_1) 31 [29, 30] h ?_ ?_ <;> first
       | (clear h; intro K hK2; unfold mg_ref31_Rate_1; refine tB ?_)
       | (clear h; intro b h; (try replace h := tH h); refine tB ?_)
       | fail)
    | (refine hK1 _ ?_; (try refine tB ?_); refine ⟨_, h, ?_⟩; exact tU0; done)
    | (refine hK2 _ ?_; exact tU; done)
    | (refine bfork (fun hc => ?_) (fun hc => ?_))
    | (refine ⟨_, getE_map (inb_toNat (by assumption)), ?_⟩; (first | rw [M.lok_compU] | rw [M.lokD_compU]); refine tB ?_)
    | (refine And.intro (ltb_of (by assumption)) ?_)
    | (refine And.intro (by omega) ?_)
    | fail)
theorem W_ref31_Rate : ∀ {x_ : GRights} {worths_ : List Int} {c_ : Int} {readers_ : Int} {public_ : Bool} {y : GSeverity × Int}, F_ref31_Rate x_ worths_ c_ readers_ public_ = some y → ACall Tryd.prog 20 [GRights.v x_, .sl (worths_.map (V.int .i64)), .int .i64 c_, .int .i64 readers_, .bool public_] [] (fun r H => r = .tup [GSeverity.v y.1, .int .i64 y.2] ∧ H = []) :=
  fun hy => Wq_ref31_Rate _ _ _ _ _ (Q := fun z => z = _) ⟨_, hy, rfl⟩ fun z e => by subst e; exact ⟨rfl, rfl⟩

def F_ref31_Worst_L1 (l_ : List GSeverity) (k18 : Int) (a19 : GSeverity) (x17 : Int) : Option Int :=
  chk (inb x17 l_.length) (bif decide ((l_.getD (x17).toNat default).Score < a19.Score) then some k18 else some x17)
def F_ref31_Worst (l_ : List GSeverity) : Option (Int × Bool) :=
  (foldL (F_ref31_Worst_L1 l_) l_ 0 0).bind fun x20 => some (x20, decide (0 < (l_.length : Int)))

/- leakresponse/leakresponseref31.Worst -/
@[irreducible] def mc_ref31_Worst_L1 : MC :=
  (.seq (.reg [⟨.bin false .lss (.t 9) (.t 8), (some 10), none⟩])
  (.seq (.cond (.t 10)
    .skip
    (.exit 0))
  (.seq (.block 1
  (.seq (.reg [⟨.mv (.t 9), (some 11), none⟩,
    ⟨.iad 4 (.t 7) (.t 9), (some 12), none⟩,
    ⟨.ld (some 4) (.t 12), (some 13), none⟩,
    ⟨.alloc [(.int .i64 0), (.int .i64 0), (.int .i64 0), (.int .i64 0)], (some 6), none⟩,
    ⟨.mv (.t 11), (some 5), none⟩,
    ⟨.st 4 (.t 6) (.t 13), none, none⟩])
  (.seq (.regD [⟨.fad 3 (.t 6), (some 14), none⟩,
    ⟨.ld none (.t 14), (some 15), none⟩,
    ⟨.mv (.t 0), (some 16), none⟩,
    ⟨.mv (.t 4), (some 17), none⟩,
    ⟨.iad 4 (.t 16) (.t 17), (some 18), none⟩,
    ⟨.fad 3 (.t 18), (some 19), none⟩,
    ⟨.ld none (.t 19), (some 20), none⟩,
    ⟨.bin false .gtr (.t 15) (.t 20), (some 21), none⟩]
    [[], [0], [], [], [2, 3], [4], [5], [1, 6]]
    [[], [0], [], [], [2, 3], [2, 3, 4], [2, 3, 4, 5], [0, 1, 2, 3, 4, 5, 6]])
  (.cond (.t 21)
    (.reg [⟨.mv (.t 5), (some 22), none⟩,
      ⟨.mv (.t 22), (some 4), none⟩])
    .skip))))
  (.reg [⟨.bin true .add (.t 9) (.c (.int .i64 1)), (some 23), none⟩,
    ⟨.mv (.t 23), (some 9), none⟩]))))
def mc_ref31_Worst : MC :=
  (.seq (.reg [⟨.mv (.c (.int .i64 0)), (some 2), none⟩,
    ⟨.mv (.c (.bool false)), (some 3), none⟩])
  (.seq (.reg [⟨.mv (.c (.int .i64 0)), (some 4), none⟩])
  (.seq (.seq (.reg [⟨.mv (.t 0), (some 7), none⟩,
    ⟨.len false (.t 7), (some 8), none⟩,
    ⟨.mv (.c (.int .i64 0)), (some 9), none⟩])
  (.block 0
  (.loop mc_ref31_Worst_L1)))
  (.seq (.reg [⟨.mv (.t 4), (some 24), none⟩,
    ⟨.mv (.t 0), (some 25), none⟩,
    ⟨.len false (.t 25), (some 26), none⟩,
    ⟨.bin false .gtr (.t 26) (.c (.int .i64 0)), (some 27), none⟩,
    ⟨.mv (.t 24), (some 2), none⟩,
    ⟨.mv (.t 27), (some 3), none⟩])
  .ret))))
theorem ok_ref31_Worst : mc_ref31_Worst.ok Tryd.prog Tryd.f22.ntmps (Tryd.f22.body.getD .skip) = true := by kernel_rfl

set_option maxHeartbeats 2000000 in
theorem Wq_ref31_Worst (l_ : List GSeverity) {Q : Int × Bool → Prop} {Q' : V → Heap → Prop} (h : Ok (F_ref31_Worst l_) Q) (hQ : ∀ z, Q z → Q' (.tup [.int .i64 z.1, .bool z.2]) []) : ACall Tryd.prog 22 [.sl (l_.map GSeverity.v)] [] Q' := by
  refine acall_machN [] [] [.t 2, .t 3] Tryd.func22 rfl (by kernel_rfl) ok_ref31_Worst (by kernel_rfl) rfl rfl fun M hf => ?_
  clear hf
  unfold F_ref31_Worst at h
  unfold mc_ref31_Worst
  (try replace h := tH h)
  refine tB ?_
  repeat' (first
    | (exact hQ _ h)
    | (exact trivial)
    | (exact False.elim h)
    | (have hq := hQ _ h; replace hq := tH hq; exact hq)
    | (refine oblg h ?_; clear h; intro hc h)
    | (refine roomG h ?_; clear h; intro hc h)
    | (refine fork h ?_ ?_ <;> clear h <;> intro hc h)
    | (refine forkS h ?_ ?_ <;> clear h <;> intro hc h)
    | (refine And.intro (chkD_of rfl) ?_)
    | (refine M.fold1 (b := mc_ref31_Worst_L1) 9 [0, 7, 8] [] (fun x => [(4, .int .i64 x)]) (fun x => []) [] h ?_ ?_ ?_ <;> first
       | (clear h; intro k a x Qn K hK1 hkN1 ha1 h hf; have hl := fact_int (factsE_find (n := 8) hf.1 rfl); clear hf; have hkd := kD hkN1; have hkB1 := kB hkN1; have hkI1 : in64 ((k : Int) + 1) = true := in64_iff.2 ⟨by omega, by (try simp only [List.length_cons, List.length_nil] at hkN1); omega⟩; unfold F_ref31_Worst_L1 at h; unfold mc_ref31_Worst_L1; (try replace h := tH h); refine tK ha1 hkd hkN1 hkB1 hkI1 ?_)
       | (clear h; intro x K h; replace h := And.left (And.intro h trivial); unfold mc_ref31_Worst_L1; (try replace h := tH h); refine tB ?_)
       | (clear h; (try refine tB ?_); exact tU0; done)
       | fail)
    | (refine And.intro hkI1 ?_)
    | (refine And.intro hkN1 ?_)
    | (refine And.intro hkB1 ?_)
    | (simp only [ha1])
    | (refine hK1 _ ?_; (try refine tB ?_); refine ⟨_, h, ?_⟩; exact tU0; done)
    | (refine ⟨_, getE_map (inb_toNat (by assumption)), ?_⟩; (first | rw [M.lok_compU] | rw [M.lokD_compU]); refine tB ?_)
    | (refine And.intro (ltb_of (by assumption)) ?_)
    | (refine And.intro (by omega) ?_)
    | fail)
theorem W_ref31_Worst : ∀ {l_ : List GSeverity} {y : Int × Bool}, F_ref31_Worst l_ = some y → ACall Tryd.prog 22 [.sl (l_.map GSeverity.v)] [] (fun r H => r = .tup [.int .i64 y.1, .bool y.2] ∧ H = []) :=
  fun hy => Wq_ref31_Worst _ (Q := fun z => z = _) ⟨_, hy, rfl⟩ fun z e => by subst e; exact ⟨rfl, rfl⟩

noncomputable def F_law31_SeverityExact_L1 (k104 : Int) (a105 : Int) (x103 : Unit) : Option (Fl Unit Bool) :=
  (F_severity_Level a105).bind fun y120 => (F_ref31_Level a105).bind fun y121 => bif (!decide (y120 = y121)) then some (.ex false) else some (.nx ())
noncomputable def F_law31_SeverityExact_L2 (a81425 : GRights) (a99715 : List Int) (a101493 : GA54) (x101714 : Int) : Option (Fl Int (Sum Unit Bool)) :=
  bif decide (x101714 < 2) then (F_severity_Rate a81425 a99715 a101493.e0 a101493.e1 (decide (x101714 = 1))).bind fun y101734 => (F_ref31_Rate a81425 a99715 a101493.e0 a101493.e1 (decide (x101714 = 1))).bind fun y101736 => grp (((!(decide (y101734.1.Level = y101736.1.Level) && (decide (y101734.1.Worth = y101736.1.Worth) && (decide (y101734.1.Audience = y101736.1.Audience) && decide (y101734.1.Score = y101736.1.Score))))) || (!decide (y101734.2 = y101736.2)))) fun b101738 => bif b101738 then some (.ex (.inr false)) else chk (in64 (x101714 + 1)) (some (.nx (x101714 + 1))) else some (.ex (.inl ()))
noncomputable def F_law31_SeverityExact_L3 (a81425 : GRights) (a99715 : List Int) (k101492 : Int) (a101493 : GA54) (x101491 : Unit) : Option (Fl Unit Bool) :=
  (F_severity_Worth a81425 a99715 a101493.e0).bind fun y101681 => (F_ref31_Worth a81425 a99715 a101493.e0).bind fun y101683 => grp (((!decide (y101681.1 = y101683.1)) || (!decide (y101681.2 = y101683.2)))) fun b101687 => bif b101687 then some (.ex false) else (loop (F_law31_SeverityExact_L2 a81425 a99715 a101493) 0).bind fun r101739 => Sum.elim (fun u101740 => some (.nx ())) (fun u101741 => some (.ex u101741)) r101739
noncomputable def F_law31_SeverityExact_L4 (c_ : Int) (readers_ : Int) (a81425 : GRights) (k99714 : Int) (a99715 : List Int) (x99713 : GTape) : Option (Fl GTape Bool) :=
  (F_made_Tape_Next x99713 6).bind fun y101239 => (F_made_Tape_Between y101239.2 (-1) 25).bind fun y101240 => (forL (F_law31_SeverityExact_L3 a81425 a99715) [(GA54.mk c_ readers_), (GA54.mk y101239.1 y101240.1)] 0 ()).bind fun o => o.elim (fun x101742 => some (.nx y101240.2)) (fun r101743 => some (.ex r101743))
noncomputable def F_law31_SeverityExact_L5 (worths_ : List Int) (c_ : Int) (readers_ : Int) (y29 : (List Int) × GTape) (k81424 : Int) (a81425 : GRights) (x81423 : GTape) : Option (Fl GTape Bool) :=
  (forL (F_law31_SeverityExact_L4 c_ readers_ a81425) [y29.1, worths_] 0 x81423).bind fun o => o.elim (fun x101744 => some (.nx x101744)) (fun r101745 => some (.ex r101745))
noncomputable def F_law31_SeverityExact (l_ : List Int) (raw_ : GRights) (worths_ : List Int) (c_ : Int) (readers_ : Int) (score_ : Int) (all_ : List GSeverity) : Option Bool :=
  jn (α := Fl Unit Bool) (bif decide (300 < (l_.length : Int)) then grp (true) fun b18 => grp ((b18 || decide (20 < (all_.length : Int)))) fun b19 => bif b19 then F_law31_awake.bind fun y21 => some (.ex y21) else some (.nx ()) else grp ((decide (60 < (IntKind.wrap .i64 ((IntKind.wrap .i64 ((raw_.Grants.length : Int) + (raw_.Stores.length : Int))) + (raw_.Mints.length : Int)))) || decide (30 < (worths_.length : Int)))) fun b22 => grp ((b22 || decide (20 < (all_.length : Int)))) fun b23 => bif b23 then F_law31_awake.bind fun y25 => some (.ex y25) else some (.nx ())) fun o => o.elim (fun j13 => (F_made_Rights (GTape.mk l_ 0)).bind fun y27 => (F_made_Worths y27.2 y27.1.Resources).bind fun y29 => (F_made_Tape_Next y29.2 200).bind fun y81 => (F_made_Tape_Next y81.2 3).bind fun y82 => chk (in64 (9999 + y82.1)) ((F_made_Tape_Next y82.2 3).bind fun y83 => chk (in64 (99 + y83.1)) ((F_made_Tape_Next y83.2 3).bind fun y84 => chk (in64 (999 + y84.1)) ((forL F_law31_SeverityExact_L1 [score_, y81.1, (9999 + y82.1), (99 + y83.1), (999 + y84.1)] 0 ()).bind fun o => o.elim (fun x122 => (F_made_BentRights y84.2 y27.1).bind fun y50937 => (forL (F_law31_SeverityExact_L5 worths_ c_ readers_ y29) [y27.1, y50937.1, raw_] 0 y50937.2).bind fun o => o.elim (fun x101746 => (F_severity_Worst all_).bind fun y101749 => (F_ref31_Worst all_).bind fun y101751 => grp ((decide (y101749.1 = y101751.1) && (y101749.2 == y101751.2))) fun b101756 => jn (α := Bool) (bif b101756 then F_law31_awake.bind fun y101758 => some y101758 else some false) fun j101759 => some j101759) (fun r101747 => some r101747)) (fun r123 => some r123))))) (fun r101760 => some r101760)

/- leakresponse/leakresponselaw31.SeverityExact -/
@[irreducible] def mg_law31_SeverityExact_1 : List MOp := [⟨.mv (.t 2), (some 57), (some (56, false))⟩,
    ⟨.len false (.t 57), (some 58), (some (56, false))⟩,
    ⟨.bin false .gtr (.t 58) (.c (.int .i64 30)), (some 59), (some (56, false))⟩,
    ⟨.pick (.t 56) (.c (.bool true)) (.t 59), (some 60), none⟩]
@[irreducible] def mg_law31_SeverityExact_2 : List MOp := [⟨.mv (.t 6), (some 62), (some (61, false))⟩,
    ⟨.len false (.t 62), (some 63), (some (61, false))⟩,
    ⟨.bin false .gtr (.t 63) (.c (.int .i64 20)), (some 64), (some (61, false))⟩,
    ⟨.pick (.t 61) (.c (.bool true)) (.t 64), (some 65), none⟩]
@[irreducible] def mc_law31_SeverityExact_L1 : MC :=
  (.seq (.reg [⟨.bin false .lss (.t 89) (.c (.int .i64 5)), (some 90), none⟩])
  (.seq (.cond (.t 90)
    .skip
    (.exit 0))
  (.seq (.block 1
  (.seq (.reg [⟨.aix none 1 5 (.t 88) (.t 89), (some 91), none⟩,
    ⟨.mv (.t 91), (some 19), none⟩])
  (.seq (.reg [⟨.mv (.t 19), (some 92), none⟩,
    ⟨.call (.f 14) [(.t 92)] [] [], (some 93), none⟩,
    ⟨.mv (.t 19), (some 94), none⟩,
    ⟨.call (.f 17) [(.t 94)] [] [], (some 95), none⟩,
    ⟨.bin false .neq (.t 93) (.t 95), (some 96), none⟩])
  (.cond (.t 96)
    (.seq (.reg [⟨.mv (.c (.bool false)), (some 14), none⟩])
    .ret)
    .skip))))
  (.reg [⟨.bin true .add (.t 89) (.c (.int .i64 1)), (some 97), none⟩,
    ⟨.mv (.t 97), (some 89), none⟩]))))
@[irreducible] def mg_law31_SeverityExact_3 : List MOp := [⟨.mv (.t 27), (some 145), (some (144, false))⟩,
    ⟨.mv (.t 29), (some 146), (some (144, false))⟩,
    ⟨.bin false .neq (.t 145) (.t 146), (some 147), (some (144, false))⟩,
    ⟨.pick (.t 144) (.c (.bool true)) (.t 147), (some 148), none⟩]
@[irreducible] def mg_law31_SeverityExact_4 : List MOp := [⟨.mv (.t 32), (some 181), (some (180, false))⟩,
    ⟨.mv (.t 34), (some 182), (some (180, false))⟩,
    ⟨.bin false .neq (.t 181) (.t 182), (some 183), (some (180, false))⟩,
    ⟨.pick (.t 180) (.c (.bool true)) (.t 183), (some 184), none⟩]
@[irreducible] def mc_law31_SeverityExact_L2 : MC :=
  (.seq (.seq (.reg [⟨.mv (.t 30), (some 149), none⟩,
    ⟨.bin false .lss (.t 149) (.c (.int .i64 2)), (some 150), none⟩])
  (.cond (.t 150)
    .skip
    (.exit 8)))
  (.seq (.block 9
  (.seq (.reg [⟨.ld (some 5) (.t 21), (some 154), none⟩,
    ⟨.mv (.t 23), (some 155), none⟩,
    ⟨.aad 1 2 (.t 25) (.c (.int .i64 0)), (some 156), none⟩,
    ⟨.ld none (.t 156), (some 157), none⟩,
    ⟨.aad 1 2 (.t 25) (.c (.int .i64 1)), (some 158), none⟩,
    ⟨.ld none (.t 158), (some 159), none⟩,
    ⟨.mv (.t 30), (some 160), none⟩,
    ⟨.bin false .eql (.t 160) (.c (.int .i64 1)), (some 161), none⟩,
    ⟨.call (.f 13) [(.t 154), (.t 155), (.t 157), (.t 159), (.t 161)] [] [], (some 162), none⟩,
    ⟨.mv (.t 162), (some 153), none⟩,
    ⟨.ext 0 (.t 153), (some 163), none⟩,
    ⟨.ext 1 (.t 153), (some 164), none⟩,
    ⟨.alloc [(.int .i64 0), (.int .i64 0), (.int .i64 0), (.int .i64 0)], (some 31), none⟩,
    ⟨.st 4 (.t 31) (.t 163), none, none⟩,
    ⟨.mv (.t 164), (some 32), none⟩])
  (.seq (.note (.gc [2, 3, 4, 6, 15, 17, 21, 23, 25, 30, 31, 32, 103, 104, 109, 110, 121, 122, 145, 146, 147, 181, 182, 183, 202, 203, 204, 207]) (.reg [⟨.ld (some 5) (.t 21), (some 166), none⟩,
    ⟨.mv (.t 23), (some 167), none⟩,
    ⟨.aad 1 2 (.t 25) (.c (.int .i64 0)), (some 168), none⟩,
    ⟨.ld none (.t 168), (some 169), none⟩,
    ⟨.aad 1 2 (.t 25) (.c (.int .i64 1)), (some 170), none⟩,
    ⟨.ld none (.t 170), (some 171), none⟩,
    ⟨.mv (.t 30), (some 172), none⟩,
    ⟨.bin false .eql (.t 172) (.c (.int .i64 1)), (some 173), none⟩,
    ⟨.call (.f 20) [(.t 166), (.t 167), (.t 169), (.t 171), (.t 173)] [] [], (some 174), none⟩,
    ⟨.mv (.t 174), (some 165), none⟩,
    ⟨.ext 0 (.t 165), (some 175), none⟩,
    ⟨.ext 1 (.t 165), (some 176), none⟩,
    ⟨.alloc [(.int .i64 0), (.int .i64 0), (.int .i64 0), (.int .i64 0)], (some 33), none⟩,
    ⟨.st 4 (.t 33) (.t 175), none, none⟩,
    ⟨.mv (.t 176), (some 34), none⟩]))
  (.seq (.note (.gc [2, 3, 4, 6, 15, 17, 21, 23, 25, 30, 31, 32, 33, 34, 103, 104, 109, 110, 121, 122, 145, 146, 147, 181, 182, 183, 202, 203, 204, 207]) (.regI [.op ⟨.ld (some 4) (.t 31), (some 177), none⟩,
    .op ⟨.ld (some 4) (.t 33), (some 178), none⟩,
    .op ⟨.eqs true [0, 0, 0, 0] (.t 177) (.t 178), (some 179), none⟩,
    .op ⟨.mv (.t 179), (some 180), none⟩,
    .grp mg_law31_SeverityExact_4]))
  (.cond (.t 184)
    (.seq (.reg [⟨.mv (.c (.bool false)), (some 14), none⟩])
    .ret)
    .skip)))))
  (.note (.gc [2, 3, 4, 6, 15, 17, 21, 23, 25, 30, 103, 104, 109, 110, 121, 122, 145, 146, 147, 181, 182, 183, 202, 203, 204, 207]) (.reg [⟨.mv (.t 30), (some 151), none⟩,
    ⟨.bin true .add (.t 151) (.c (.int .i64 1)), (some 152), none⟩,
    ⟨.mv (.t 152), (some 30), none⟩]))))
@[irreducible] def mc_law31_SeverityExact_L3 : MC :=
  (.seq (.reg [⟨.bin false .lss (.t 122) (.c (.int .i64 2)), (some 123), none⟩])
  (.seq (.cond (.t 123)
    .skip
    (.exit 6))
  (.seq (.block 7
  (.seq (.reg [⟨.aix (some 2) 2 2 (.t 121) (.t 122), (some 124), none⟩,
    ⟨.alloc [(.int .i64 0), (.int .i64 0)], (some 25), none⟩,
    ⟨.st 2 (.t 25) (.t 124), none, none⟩])
  (.seq (.reg [⟨.ld (some 5) (.t 21), (some 126), none⟩,
    ⟨.mv (.t 23), (some 127), none⟩,
    ⟨.aad 1 2 (.t 25) (.c (.int .i64 0)), (some 128), none⟩,
    ⟨.ld none (.t 128), (some 129), none⟩,
    ⟨.call (.f 16) [(.t 126), (.t 127), (.t 129)] [] [], (some 130), none⟩,
    ⟨.mv (.t 130), (some 125), none⟩,
    ⟨.ext 0 (.t 125), (some 131), none⟩,
    ⟨.ext 1 (.t 125), (some 132), none⟩,
    ⟨.mv (.t 131), (some 26), none⟩,
    ⟨.mv (.t 132), (some 27), none⟩])
  (.seq (.note (.gc [2, 3, 4, 6, 15, 17, 21, 23, 25, 26, 27, 103, 104, 109, 110, 121, 122, 145, 146, 147, 181, 182, 183, 202, 203, 204, 207]) (.reg [⟨.ld (some 5) (.t 21), (some 134), none⟩,
    ⟨.mv (.t 23), (some 135), none⟩,
    ⟨.aad 1 2 (.t 25) (.c (.int .i64 0)), (some 136), none⟩,
    ⟨.ld none (.t 136), (some 137), none⟩,
    ⟨.call (.f 19) [(.t 134), (.t 135), (.t 137)] [] [], (some 138), none⟩,
    ⟨.mv (.t 138), (some 133), none⟩,
    ⟨.ext 0 (.t 133), (some 139), none⟩,
    ⟨.ext 1 (.t 133), (some 140), none⟩,
    ⟨.mv (.t 139), (some 28), none⟩,
    ⟨.mv (.t 140), (some 29), none⟩]))
  (.seq (.seq (.note (.gc [2, 3, 4, 6, 15, 17, 21, 23, 25, 26, 27, 28, 29, 103, 104, 109, 110, 121, 122, 145, 146, 147, 181, 182, 183, 202, 203, 204, 207]) (.regI [.op ⟨.mv (.t 26), (some 141), none⟩,
    .op ⟨.mv (.t 28), (some 142), none⟩,
    .op ⟨.bin false .neq (.t 141) (.t 142), (some 143), none⟩,
    .op ⟨.mv (.t 143), (some 144), none⟩,
    .grp mg_law31_SeverityExact_3]))
  (.cond (.t 148)
    (.seq (.reg [⟨.mv (.c (.bool false)), (some 14), none⟩])
    .ret)
    .skip))
  (.seq (.reg [⟨.mv (.c (.int .i64 0)), (some 30), none⟩])
  (.block 8
  (.loop mc_law31_SeverityExact_L2))))))))
  (.reg [⟨.bin true .add (.t 122) (.c (.int .i64 1)), (some 185), none⟩,
    ⟨.mv (.t 185), (some 122), none⟩]))))
@[irreducible] def mc_law31_SeverityExact_L4 : MC :=
  (.seq (.reg [⟨.bin false .lss (.t 110) (.c (.int .i64 2)), (some 111), none⟩])
  (.seq (.cond (.t 111)
    .skip
    (.exit 4))
  (.seq (.block 5
  (.seq (.reg [⟨.aix none 1 2 (.t 109) (.t 110), (some 112), none⟩,
    ⟨.mv (.t 112), (some 23), none⟩])
  (.seq (.reg [⟨.mv (.t 3), (some 113), none⟩,
    ⟨.mv (.t 4), (some 114), none⟩,
    ⟨.barr 1 [(.int .i64 0), (.int .i64 0)] [(.t 113), (.t 114)], (some 115), none⟩,
    ⟨.mv (.t 15), (some 116), none⟩,
    ⟨.call (.f 11) [(.t 116), (.c (.int .i64 6))] [69] [], (some 117), none⟩,
    ⟨.mv (.t 15), (some 118), none⟩,
    ⟨.call (.f 12) [(.t 118), (.c (.int .i64 (-1))), (.c (.int .i64 25))] [69] [], (some 119), none⟩,
    ⟨.barr 1 [(.int .i64 0), (.int .i64 0)] [(.t 117), (.t 119)], (some 120), none⟩,
    ⟨.barr 2 [(.int .i64 0), (.int .i64 0), (.int .i64 0), (.int .i64 0)] [(.t 115), (.t 120)], (some 121), none⟩,
    ⟨.mv (.c (.int .i64 0)), (some 122), none⟩])
  (.block 6
  (.loop mc_law31_SeverityExact_L3)))))
  (.reg [⟨.bin true .add (.t 110) (.c (.int .i64 1)), (some 186), none⟩,
    ⟨.mv (.t 186), (some 110), none⟩]))))
@[irreducible] def mc_law31_SeverityExact_L5 : MC :=
  (.seq (.reg [⟨.bin false .lss (.t 104) (.c (.int .i64 3)), (some 105), none⟩])
  (.seq (.cond (.t 105)
    .skip
    (.exit 2))
  (.seq (.block 3
  (.seq (.reg [⟨.aix (some 5) 5 3 (.t 103) (.t 104), (some 106), none⟩,
    ⟨.alloc [(.int .i64 0), (.int .i64 0), (.sl []), (.sl []), (.sl [])], (some 21), none⟩,
    ⟨.st 5 (.t 21) (.t 106), none, none⟩])
  (.seq (.reg [⟨.mv (.t 17), (some 107), none⟩,
    ⟨.mv (.t 2), (some 108), none⟩,
    ⟨.barr 1 [(.sl []), (.sl [])] [(.t 107), (.t 108)], (some 109), none⟩,
    ⟨.mv (.c (.int .i64 0)), (some 110), none⟩])
  (.block 4
  (.loop mc_law31_SeverityExact_L4)))))
  (.reg [⟨.bin true .add (.t 104) (.c (.int .i64 1)), (some 187), none⟩,
    ⟨.mv (.t 187), (some 104), none⟩]))))
@[irreducible] def mg_law31_SeverityExact_5 : List MOp := [⟨.mv (.t 36), (some 202), (some (201, true))⟩,
    ⟨.mv (.t 38), (some 203), (some (201, true))⟩,
    ⟨.beq false (.t 202) (.t 203), (some 204), (some (201, true))⟩,
    ⟨.pick (.t 201) (.t 204) (.c (.bool false)), (some 205), none⟩]
@[irreducible] def mg_law31_SeverityExact_6 : List MOp := [⟨.call (.f 8) [] [] [], (some 207), (some (206, true))⟩,
    ⟨.pick (.t 206) (.t 207) (.c (.bool false)), (some 208), none⟩]
@[irreducible] def mc_law31_SeverityExact_J1 : MC :=
  (.seq (.reg [⟨.mv (.t 0), (some 67), none⟩,
    ⟨.build [(.sl []), (.int .i64 0)] [(0, 1, (.t 67))], (some 68), none⟩,
    ⟨.box (.t 68), (some 69), none⟩,
    ⟨.mv (.t 69), (some 15), none⟩])
  (.seq (.reg [⟨.mv (.t 15), (some 70), none⟩,
    ⟨.call (.f 9) [(.t 70)] [69] [], (some 71), none⟩,
    ⟨.alloc [(.int .i64 0), (.int .i64 0), (.sl []), (.sl []), (.sl [])], (some 16), none⟩,
    ⟨.st 5 (.t 16) (.t 71), none, none⟩])
  (.seq (.reg [⟨.mv (.t 15), (some 72), none⟩,
    ⟨.fad 1 (.t 16), (some 73), none⟩,
    ⟨.ld none (.t 73), (some 74), none⟩,
    ⟨.call (.f 10) [(.t 72), (.t 74)] [69] [], (some 75), none⟩,
    ⟨.mv (.t 75), (some 17), none⟩])
  (.seq (.seq (.note (.gc [2, 3, 4, 5, 6, 8, 15, 16, 17, 145, 146, 147, 181, 182, 183, 202, 203, 204, 207]) (.reg [⟨.mv (.t 5), (some 76), none⟩,
    ⟨.mv (.t 15), (some 77), none⟩,
    ⟨.call (.f 11) [(.t 77), (.c (.int .i64 200))] [69] [], (some 78), none⟩,
    ⟨.mv (.t 15), (some 79), none⟩,
    ⟨.call (.f 11) [(.t 79), (.c (.int .i64 3))] [69] [], (some 80), none⟩,
    ⟨.bin true .add (.c (.int .i64 9999)) (.t 80), (some 81), none⟩,
    ⟨.mv (.t 15), (some 82), none⟩,
    ⟨.call (.f 11) [(.t 82), (.c (.int .i64 3))] [69] [], (some 83), none⟩,
    ⟨.bin true .add (.c (.int .i64 99)) (.t 83), (some 84), none⟩,
    ⟨.mv (.t 15), (some 85), none⟩,
    ⟨.call (.f 11) [(.t 85), (.c (.int .i64 3))] [69] [], (some 86), none⟩,
    ⟨.bin true .add (.c (.int .i64 999)) (.t 86), (some 87), none⟩,
    ⟨.barr 1 [(.int .i64 0), (.int .i64 0), (.int .i64 0), (.int .i64 0), (.int .i64 0)] [(.t 76), (.t 78), (.t 81), (.t 84), (.t 87)], (some 88), none⟩,
    ⟨.mv (.c (.int .i64 0)), (some 89), none⟩]))
  (.block 0
  (.loop mc_law31_SeverityExact_L1)))
  (.seq (.seq (.regD [⟨.ld (some 5) (.t 16), (some 98), none⟩,
    ⟨.mv (.t 15), (some 99), none⟩,
    ⟨.ld (some 5) (.t 16), (some 100), none⟩,
    ⟨.call (.f 18) [(.t 99), (.t 100)] [69] [], (some 101), none⟩,
    ⟨.ld (some 5) (.t 8), (some 102), none⟩,
    ⟨.barr 5 [(.int .i64 0), (.int .i64 0), (.sl []), (.sl []), (.sl []), (.int .i64 0), (.int .i64 0), (.sl []), (.sl []), (.sl []), (.int .i64 0), (.int .i64 0), (.sl []), (.sl []), (.sl [])] [(.t 98), (.t 101), (.t 102)], (some 103), none⟩,
    ⟨.mv (.c (.int .i64 0)), (some 104), none⟩]
    [[], [], [], [1, 2], [], [0, 3, 4], []]
    [[], [], [], [1, 2], [], [0, 1, 2, 3, 4], []])
  (.block 2
  (.loop mc_law31_SeverityExact_L5)))
  (.seq (.note (.gc [6, 202, 203, 204, 207]) (.reg [⟨.mv (.t 6), (some 189), none⟩,
    ⟨.call (.f 21) [(.t 189)] [] [], (some 190), none⟩,
    ⟨.mv (.t 190), (some 188), none⟩,
    ⟨.ext 0 (.t 188), (some 191), none⟩,
    ⟨.ext 1 (.t 188), (some 192), none⟩,
    ⟨.mv (.t 191), (some 35), none⟩,
    ⟨.mv (.t 192), (some 36), none⟩]))
  (.seq (.reg [⟨.mv (.t 6), (some 194), none⟩,
    ⟨.call (.f 22) [(.t 194)] [] [], (some 195), none⟩,
    ⟨.mv (.t 195), (some 193), none⟩,
    ⟨.ext 0 (.t 193), (some 196), none⟩,
    ⟨.ext 1 (.t 193), (some 197), none⟩,
    ⟨.mv (.t 196), (some 37), none⟩,
    ⟨.mv (.t 197), (some 38), none⟩])
  (.seq (.note (.gc [35, 36, 37, 38, 202, 203, 204, 207]) (.regI [.op ⟨.mv (.t 35), (some 198), none⟩,
    .op ⟨.mv (.t 37), (some 199), none⟩,
    .op ⟨.bin false .eql (.t 198) (.t 199), (some 200), none⟩,
    .op ⟨.mv (.t 200), (some 201), none⟩,
    .grp mg_law31_SeverityExact_5,
    .op ⟨.mv (.t 205), (some 206), none⟩,
    .grp mg_law31_SeverityExact_6,
    .op ⟨.mv (.t 208), (some 14), none⟩]))
  .ret))))))))
def mc_law31_SeverityExact : MC :=
  (.seq (.reg [⟨.box (.t 1), (some 8), none⟩,
    ⟨.mv (.c (.bool false)), (some 14), none⟩])
  (.cut (.seq (.regI [.op ⟨.mv (.t 0), (some 39), none⟩,
    .op ⟨.len false (.t 39), (some 40), none⟩,
    .op ⟨.bin false .gtr (.t 40) (.c (.int .i64 300)), (some 41), none⟩,
    .op ⟨.mv (.t 41), (some 42), none⟩,
    .op ⟨.fad 2 (.t 8), (some 43), (some (42, false))⟩,
    .op ⟨.ld none (.t 43), (some 44), (some (42, false))⟩,
    .op ⟨.len false (.t 44), (some 45), (some (42, false))⟩,
    .op ⟨.fad 3 (.t 8), (some 46), (some (42, false))⟩,
    .op ⟨.ld none (.t 46), (some 47), (some (42, false))⟩,
    .op ⟨.len false (.t 47), (some 48), (some (42, false))⟩,
    .op ⟨.bin false .add (.t 45) (.t 48), (some 49), (some (42, false))⟩,
    .op ⟨.fad 4 (.t 8), (some 50), (some (42, false))⟩,
    .op ⟨.ld none (.t 50), (some 51), (some (42, false))⟩,
    .op ⟨.len false (.t 51), (some 52), (some (42, false))⟩,
    .op ⟨.bin false .add (.t 49) (.t 52), (some 53), (some (42, false))⟩,
    .op ⟨.bin false .gtr (.t 53) (.c (.int .i64 60)), (some 54), (some (42, false))⟩,
    .op ⟨.pick (.t 42) (.c (.bool true)) (.t 54), (some 55), none⟩,
    .op ⟨.mv (.t 55), (some 56), none⟩,
    .grp mg_law31_SeverityExact_1,
    .op ⟨.mv (.t 60), (some 61), none⟩,
    .grp mg_law31_SeverityExact_2])
  (.cond (.t 65)
    (.seq (.reg [⟨.call (.f 8) [] [] [], (some 66), none⟩,
      ⟨.mv (.t 66), (some 14), none⟩])
    .ret)
    .skip))
  mc_law31_SeverityExact_J1))
theorem ok_law31_SeverityExact : mc_law31_SeverityExact.ok Tryd.prog Tryd.f6.ntmps (Tryd.f6.body.getD .skip) = true := by kernel_rfl

set_option maxHeartbeats 2000000 in
theorem Wq_law31_SeverityExact (l_ : List Int) (raw_ : GRights) (worths_ : List Int) (c_ : Int) (readers_ : Int) (score_ : Int) (all_ : List GSeverity) {Q : Bool → Prop} {Q' : V → Heap → Prop} (h : Ok (F_law31_SeverityExact l_ raw_ worths_ c_ readers_ score_ all_) Q) (hQ : ∀ z, Q z → Q' (.bool z) []) : ACall Tryd.prog 6 [.sl (l_.map (V.int .i64)), GRights.v raw_, .sl (worths_.map (V.int .i64)), .int .i64 c_, .int .i64 readers_, .int .i64 score_, .sl (all_.map GSeverity.v)] [] Q' := by
  refine acall_machN [] [] [.t 14] Tryd.func6 rfl (by kernel_rfl) ok_law31_SeverityExact (by kernel_rfl) rfl rfl fun M hf => ?_
  clear hf
  unfold F_law31_SeverityExact at h
  unfold mc_law31_SeverityExact
  (try replace h := tH h)
  refine tB ?_
  repeat' (first
    | (exact hQ _ h)
    | (exact trivial)
    | (exact False.elim h)
    | (have hq := hQ _ h; replace hq := tH hq; exact hq)
    | (refine oblg h ?_; clear h; intro hc h)
    | (refine roomG h ?_; clear h; intro hc h)
    | (refine fork h ?_ ?_ <;> clear h <;> intro hc h)
    | (refine forkS h ?_ ?_ <;> clear h <;> intro hc h)
    | (refine And.intro (chkD_of rfl) ?_)
    | (obtain ⟨y, hy, h⟩ := h; have hw := W_law31_awake hy; (try replace hw := tH hw); (first | (refine sCall_of hw rfl rfl ?_; rw [M.lok_eq]) | (refine sCallD_of hw rfl rfl ?_; rw [M.lokD_eq])); clear hw; clear hy; refine tB ?_)
    | (obtain ⟨y, hy, h⟩ := h; have hw := acall_swe 1000 69 (W_made_Rights hy); (try replace hw := tH hw); (first | (refine sCall_of hw rfl rfl ?_; rw [M.lok_eq]) | (refine sCallD_of hw rfl rfl ?_; rw [M.lokD_eq])); clear hw; clear hy; refine tB ?_)
    | (obtain ⟨y, hy, h⟩ := h; have hw := acall_swe 1000 69 (W_made_Worths hy); (try replace hw := tH hw); (first | (refine sCall_of hw rfl rfl ?_; rw [M.lok_eq]) | (refine sCallD_of hw rfl rfl ?_; rw [M.lokD_eq])); clear hw; clear hy; refine tB ?_)
    | (obtain ⟨y, hy, h⟩ := h; have hw := acall_swe 1000 69 (W_made_Tape_Next hy); (try replace hw := tH hw); (first | (refine sCall_of hw rfl rfl ?_; rw [M.lok_eq]) | (refine sCallD_of hw rfl rfl ?_; rw [M.lokD_eq])); clear hw; clear hy; refine tB ?_)
    | (obtain ⟨y, hy, h⟩ := h; have hw := W_severity_Level hy; (try replace hw := tH hw); (first | (refine sCall_of hw rfl rfl ?_; rw [M.lok_eq]) | (refine sCallD_of hw rfl rfl ?_; rw [M.lokD_eq])); clear hw; clear hy; refine tB ?_)
    | (obtain ⟨y, hy, h⟩ := h; have hw := W_ref31_Level hy; (try replace hw := tH hw); (first | (refine sCall_of hw rfl rfl ?_; rw [M.lok_eq]) | (refine sCallD_of hw rfl rfl ?_; rw [M.lokD_eq])); clear hw; clear hy; refine tB ?_)
    | (obtain ⟨y, hy, h⟩ := h; have hw := acall_swe 1000 69 (W_made_BentRights hy); (try replace hw := tH hw); (first | (refine sCall_of hw rfl rfl ?_; rw [M.lok_eq]) | (refine sCallD_of hw rfl rfl ?_; rw [M.lokD_eq])); clear hw; clear hy; refine tB ?_)
    | (obtain ⟨y, hy, h⟩ := h; have hw := acall_swe 1000 69 (W_made_Tape_Between hy); (try replace hw := tH hw); (first | (refine sCall_of hw rfl rfl ?_; rw [M.lok_eq]) | (refine sCallD_of hw rfl rfl ?_; rw [M.lokD_eq])); clear hw; clear hy; refine tB ?_)
    | (obtain ⟨y, hy, h⟩ := h; have hw := W_severity_Worth hy; (try replace hw := tH hw); (first | (refine sCall_of hw rfl rfl ?_; rw [M.lok_eq]) | (refine sCallD_of hw rfl rfl ?_; rw [M.lokD_eq])); clear hw; clear hy; refine tB ?_)
    | (obtain ⟨y, hy, h⟩ := h; have hw := W_ref31_Worth hy; (try replace hw := tH hw); (first | (refine sCall_of hw rfl rfl ?_; rw [M.lok_eq]) | (refine sCallD_of hw rfl rfl ?_; rw [M.lokD_eq])); clear hw; clear hy; refine tB ?_)
    | (obtain ⟨y, hy, h⟩ := h; have hw := W_severity_Rate hy; (try replace hw := tH hw); (first | (refine sCall_of hw rfl rfl ?_; rw [M.lok_eq]) | (refine sCallD_of hw rfl rfl ?_; rw [M.lokD_eq])); clear hw; clear hy; refine tB ?_)
    | (obtain ⟨y, hy, h⟩ := h; have hw := W_ref31_Rate hy; (try replace hw := tH hw); (first | (refine sCall_of hw rfl rfl ?_; rw [M.lok_eq]) | (refine sCallD_of hw rfl rfl ?_; rw [M.lokD_eq])); clear hw; clear hy; refine tB ?_)
    | (obtain ⟨y, hy, h⟩ := h; have hw := W_severity_Worst hy; (try replace hw := tH hw); (first | (refine sCall_of hw rfl rfl ?_; rw [M.lok_eq]) | (refine sCallD_of hw rfl rfl ?_; rw [M.lokD_eq])); clear hw; clear hy; refine tB ?_)
    | (obtain ⟨y, hy, h⟩ := h; have hw := W_ref31_Worst hy; (try replace hw := tH hw); (first | (refine sCall_of hw rfl rfl ?_; rw [M.lok_eq]) | (refine sCallD_of hw rfl rfl ?_; rw [M.lokD_eq])); clear hw; clear hy; refine tB ?_)
    | (refine M.gv1 (ms := mg_law31_SeverityExact_2) 65 [62, 63, 64] h ?_ ?_ <;> first
       | (clear h; intro K hK1; unfold mg_law31_SeverityExact_2; refine tB ?_)
       | (clear h; intro b h; (try replace h := tH h); refine tB ?_)
       | fail)
    | (refine M.gv1 (ms := mg_law31_SeverityExact_1) 60 [57, 58, 59] h ?_ ?_ <;> first
       | (clear h; intro K hK2; unfold mg_law31_SeverityExact_1; refine tB ?_)
       | (clear h; intro b h; (try replace h := tH h); refine tB ?_)
       | fail)
    | (refine M.gv1 (ms := mg_law31_SeverityExact_2) 65 [62, 63, 64] h ?_ ?_ <;> first
       | (clear h; intro K hK3; unfold mg_law31_SeverityExact_2; refine tB ?_)
       | (clear h; intro b h; (try replace h := tH h); refine tB ?_)
       | fail)
    | (refine M.gv1 (ms := mg_law31_SeverityExact_1) 60 [57, 58, 59] h ?_ ?_ <;> first
       | (clear h; intro K hK4; unfold mg_law31_SeverityExact_1; refine tB ?_)
       | (clear h; intro b h; (try replace h := tH h); refine tB ?_)
       | fail)
    | (refine M.for1 (b := mc_law31_SeverityExact_L1) 89 [2, 3, 4, 6, 8, 15, 16, 17, 88] [16, 69, 8] (fun x => []) (fun x => []) [] h ?_ ?_ ?_ <;> first
       | (clear h; intro k a x Qn K hK5 hkN5 ha5 h hf; skip; clear hf; have hkd := kD hkN5; have hkB5 := kB hkN5; have hkI5 : in64 ((k : Int) + 1) = true := in64_iff.2 ⟨by omega, by (try simp only [List.length_cons, List.length_nil] at hkN5); omega⟩; have hkd5 : decide ((k : Int) < 5) = true := decide_eq_true (by simp only [List.length_cons, List.length_nil] at hkN5; omega); have hkr5 : (0 ≤ (k : Int) ∧ (k : Int) < 5) = True := eq_true (by simp only [List.length_cons, List.length_nil] at hkN5; omega); have hle5 : (k * 1 ≤ 4) = True := eq_true (by simp only [List.length_cons, List.length_nil] at hkN5; omega); have hpt5 := drop_of (f := fun e : Int => .int .i64 e) ha5 hkN5; (try simp only [go_sem, Nat.reduceBEq, Nat.reduceAdd, Nat.reduceLeDiff, Nat.reduceSub, Nat.reduceMul, Int.reduceToNat, Int.reduceLT, Int.reduceLE, List.flatMap_cons, List.flatMap_nil, List.map_cons, List.map_nil] at hpt5); unfold F_law31_SeverityExact_L1 at h; unfold mc_law31_SeverityExact_L1; (try replace h := tH h); refine tKA ha5 hkd hkN5 hkB5 hkI5 hkd5 hkr5 hle5 hpt5 ?_)
       | (clear h; intro x K h; replace h := And.left (And.intro h trivial); unfold mc_law31_SeverityExact_L1; (try replace h := tH h); refine tB ?_)
       | (clear h; (try refine tB ?_); exact tU0; done)
       | fail)
    | (refine M.gv1 (ms := mg_law31_SeverityExact_4) 184 [181, 182, 183] h ?_ ?_ <;> first
       | (clear h; intro K hK6; unfold mg_law31_SeverityExact_4; refine tB ?_)
       | (clear h; intro b h; (try replace h := tH h); refine tB ?_)
       | fail)
    | (refine M.wh1 (b := mc_law31_SeverityExact_L2) [2, 3, 4, 6, 15, 17, 21, 23, 25, 103, 104, 109, 110, 121, 122] [25, 21, 69] (fun x => [(30, .int .i64 x)]) (fun x => []) [] h ?_ ?_ <;> first
       | (clear h; intro x Qn K hK7 h; unfold F_law31_SeverityExact_L2 at h; unfold mc_law31_SeverityExact_L2; (try replace h := tH h); refine tB ?_)
       | (clear h; (try refine tB ?_); exact tU0; done)
       | fail)
    | (refine M.gv1 (ms := mg_law31_SeverityExact_3) 148 [145, 146, 147] h ?_ ?_ <;> first
       | (clear h; intro K hK8; unfold mg_law31_SeverityExact_3; refine tB ?_)
       | (clear h; intro b h; (try replace h := tH h); refine tB ?_)
       | fail)
    | (refine M.for1 (b := mc_law31_SeverityExact_L3) 122 [2, 3, 4, 6, 15, 17, 21, 23, 103, 104, 109, 110, 121] [21, 69] (fun x => []) (fun x => []) [] h ?_ ?_ ?_ <;> first
       | (clear h; intro k a x Qn K hK9 hkN9 ha9 h hf; skip; clear hf; have hkd := kD hkN9; have hkB9 := kB hkN9; have hkI9 : in64 ((k : Int) + 1) = true := in64_iff.2 ⟨by omega, by (try simp only [List.length_cons, List.length_nil] at hkN9); omega⟩; have hkd9 : decide ((k : Int) < 2) = true := decide_eq_true (by simp only [List.length_cons, List.length_nil] at hkN9; omega); have hkr9 : (0 ≤ (k : Int) ∧ (k : Int) < 2) = True := eq_true (by simp only [List.length_cons, List.length_nil] at hkN9; omega); have hle9 : (k * 2 ≤ 2) = True := eq_true (by simp only [List.length_cons, List.length_nil] at hkN9; omega); have hpt9 := take_of (sz := 2) (f := fun e : GA54 => [.int .i64 e.e0, .int .i64 e.e1]) (fun _ => rfl) ha9 hkN9; (try simp only [go_sem, Nat.reduceBEq, Nat.reduceAdd, Nat.reduceLeDiff, Nat.reduceSub, Nat.reduceMul, Int.reduceToNat, Int.reduceLT, Int.reduceLE, List.flatMap_cons, List.flatMap_nil, List.map_cons, List.map_nil] at hpt9); unfold F_law31_SeverityExact_L3 at h; unfold mc_law31_SeverityExact_L3; (try replace h := tH h); refine tKA ha9 hkd hkN9 hkB9 hkI9 hkd9 hkr9 hle9 hpt9 ?_)
       | (clear h; intro x K h; replace h := And.left (And.intro h trivial); unfold mc_law31_SeverityExact_L3; (try replace h := tH h); refine tB ?_)
       | (clear h; (try refine tB ?_); exact tU0; done)
       | fail)
    | (refine M.for1 (b := mc_law31_SeverityExact_L4) 110 [2, 3, 4, 6, 15, 17, 21, 103, 104, 109] [21] (fun x => []) (fun x => [.o 69 (.cells [.sl (x.L.map (V.int .i64)), .int .i64 x.at_])]) [] h ?_ ?_ ?_ <;> first
       | (clear h; intro k a x Qn K hK10 hkN10 ha10 h hf; skip; clear hf; have hkd := kD hkN10; have hkB10 := kB hkN10; have hkI10 : in64 ((k : Int) + 1) = true := in64_iff.2 ⟨by omega, by (try simp only [List.length_cons, List.length_nil] at hkN10); omega⟩; have hkd10 : decide ((k : Int) < 2) = true := decide_eq_true (by simp only [List.length_cons, List.length_nil] at hkN10; omega); have hkr10 : (0 ≤ (k : Int) ∧ (k : Int) < 2) = True := eq_true (by simp only [List.length_cons, List.length_nil] at hkN10; omega); have hle10 : (k * 1 ≤ 1) = True := eq_true (by simp only [List.length_cons, List.length_nil] at hkN10; omega); have hpt10 := drop_of (f := fun e : List Int => .sl (e.map (V.int .i64))) ha10 hkN10; (try simp only [go_sem, Nat.reduceBEq, Nat.reduceAdd, Nat.reduceLeDiff, Nat.reduceSub, Nat.reduceMul, Int.reduceToNat, Int.reduceLT, Int.reduceLE, List.flatMap_cons, List.flatMap_nil, List.map_cons, List.map_nil] at hpt10); unfold F_law31_SeverityExact_L4 at h; unfold mc_law31_SeverityExact_L4; (try replace h := tH h); refine tKA ha10 hkd hkN10 hkB10 hkI10 hkd10 hkr10 hle10 hpt10 ?_)
       | (clear h; intro x K h; replace h := And.left (And.intro h trivial); unfold mc_law31_SeverityExact_L4; (try replace h := tH h); refine tB ?_)
       | (clear h; (try refine tB ?_); exact tU0; done)
       | fail)
    | (refine M.for1 (b := mc_law31_SeverityExact_L5) 104 [2, 3, 4, 6, 15, 17, 103] [] (fun x => []) (fun x => [.o 69 (.cells [.sl (x.L.map (V.int .i64)), .int .i64 x.at_])]) [] h ?_ ?_ ?_ <;> first
       | (clear h; intro k a x Qn K hK11 hkN11 ha11 h hf; skip; clear hf; have hkd := kD hkN11; have hkB11 := kB hkN11; have hkI11 : in64 ((k : Int) + 1) = true := in64_iff.2 ⟨by omega, by (try simp only [List.length_cons, List.length_nil] at hkN11); omega⟩; have hkd11 : decide ((k : Int) < 3) = true := decide_eq_true (by simp only [List.length_cons, List.length_nil] at hkN11; omega); have hkr11 : (0 ≤ (k : Int) ∧ (k : Int) < 3) = True := eq_true (by simp only [List.length_cons, List.length_nil] at hkN11; omega); have hle11 : (k * 5 ≤ 10) = True := eq_true (by simp only [List.length_cons, List.length_nil] at hkN11; omega); have hpt11 := take_of (sz := 5) (f := fun e : GRights => [.int .i64 e.Credentials, .int .i64 e.Resources, .sl (e.Grants.map GGrant.v), .sl (e.Stores.map GStore.v), .sl (e.Mints.map GMint.v)]) (fun _ => rfl) ha11 hkN11; (try simp only [go_sem, Nat.reduceBEq, Nat.reduceAdd, Nat.reduceLeDiff, Nat.reduceSub, Nat.reduceMul, Int.reduceToNat, Int.reduceLT, Int.reduceLE, List.flatMap_cons, List.flatMap_nil, List.map_cons, List.map_nil] at hpt11); unfold F_law31_SeverityExact_L5 at h; unfold mc_law31_SeverityExact_L5; (try replace h := tH h); refine tKA ha11 hkd hkN11 hkB11 hkI11 hkd11 hkr11 hle11 hpt11 ?_)
       | (clear h; intro x K h; replace h := And.left (And.intro h trivial); unfold mc_law31_SeverityExact_L5; (try replace h := tH h); refine tB ?_)
       | (clear h; (try refine tB ?_); exact tU0; done)
       | fail)
    | (refine M.gj1 (ms := mg_law31_SeverityExact_6) [] [] (fun y => [(208, .bool y)]) (fun y => []) h ?_ ?_ <;> first
       | (clear h; intro Qn K hK12 h; unfold mg_law31_SeverityExact_6; (try replace h := tH h); refine tB ?_)
       | (clear h; intro y h; (try replace h := tH h); refine tB ?_)
       | fail)
    | (refine M.gv1 (ms := mg_law31_SeverityExact_5) 205 [202, 203, 204] h ?_ ?_ <;> first
       | (clear h; intro K hK13; unfold mg_law31_SeverityExact_5; refine tB ?_)
       | (clear h; intro b h; (try replace h := tH h); refine tB ?_)
       | fail)
    | (refine M.jnE (b := mc_law31_SeverityExact_J1) [0, 2, 3, 4, 5, 6, 8] [8] (fun y => []) (fun y => []) [] h ?_ ?_ <;> first
       | (clear h; intro Qn K hK14 h; (try replace h := tH h); refine tB ?_)
       | (clear h; intro y h; unfold mc_law31_SeverityExact_J1; (try replace h := tH h); refine tB ?_)
       | fail)
    | (refine And.intro hkI5 ?_)
    | (refine And.intro hkN5 ?_)
    | (refine And.intro hkB5 ?_)
    | (simp only [ha5])
    | (refine And.intro hkI9 ?_)
    | (refine And.intro hkN9 ?_)
    | (refine And.intro hkB9 ?_)
    | (simp only [ha9])
    | (refine And.intro hkI10 ?_)
    | (refine And.intro hkN10 ?_)
    | (refine And.intro hkB10 ?_)
    | (simp only [ha10])
    | (refine And.intro hkI11 ?_)
    | (refine And.intro hkN11 ?_)
    | (refine And.intro hkB11 ?_)
    | (simp only [ha11])
    | (refine hK1 _ ?_; exact tU; done)
    | (refine hK2 _ ?_; exact tU; done)
    | (refine hK3 _ ?_; exact tU; done)
    | (refine hK4 _ ?_; exact tU; done)
    | (refine hK5 _ ?_; (try refine tB ?_); refine ⟨_, h, ?_⟩; exact tU0; done)
    | (refine hK6 _ ?_; exact tU; done)
    | (refine hK7 _ ?_; (try refine tB ?_); refine ⟨_, h, ?_⟩; exact tU0; done)
    | (refine hK8 _ ?_; exact tU; done)
    | (refine hK9 _ ?_; (try refine tB ?_); refine ⟨_, h, ?_⟩; exact tU0; done)
    | (refine hK10 _ ?_; (try refine tB ?_); refine ⟨_, h, ?_⟩; exact tU0; done)
    | (refine hK11 _ ?_; (try refine tB ?_); refine ⟨_, h, ?_⟩; exact tU0; done)
    | (refine hK12 _ ?_; (try refine tB ?_); refine ⟨_, h, ?_⟩; exact tU0; done)
    | (refine hK13 _ ?_; exact tU; done)
    | (refine hK14 _ ?_; (try refine tB ?_); refine ⟨_, h, ?_⟩; exact tU0; done)
    | (refine bfork (fun hc => ?_) (fun hc => ?_))
    | (refine ⟨_, getE_map (inb_toNat (by assumption)), ?_⟩; (first | rw [M.lok_compU] | rw [M.lokD_compU]); refine tB ?_)
    | (refine And.intro (ltb_of (by assumption)) ?_)
    | (refine And.intro (by omega) ?_)
    | fail)
theorem W_law31_SeverityExact : ∀ {l_ : List Int} {raw_ : GRights} {worths_ : List Int} {c_ : Int} {readers_ : Int} {score_ : Int} {all_ : List GSeverity} {y : Bool}, F_law31_SeverityExact l_ raw_ worths_ c_ readers_ score_ all_ = some y → ACall Tryd.prog 6 [.sl (l_.map (V.int .i64)), GRights.v raw_, .sl (worths_.map (V.int .i64)), .int .i64 c_, .int .i64 readers_, .int .i64 score_, .sl (all_.map GSeverity.v)] [] (fun r H => r = .bool y ∧ H = []) :=
  fun hy => Wq_law31_SeverityExact _ _ _ _ _ _ _ (Q := fun z => z = _) ⟨_, hy, rfl⟩ fun z e => by subst e; exact ⟨rfl, rfl⟩

end Go.Ab
