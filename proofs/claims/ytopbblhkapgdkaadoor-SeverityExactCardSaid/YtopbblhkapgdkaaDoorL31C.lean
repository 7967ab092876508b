/- What the functions of this seat that lie on the laws' road compute (part L31C), each for every input. By AI agents. -/
import Derived.Test.YtopbblhkapgdkaaDoorProg
import Derived.KernelRfl
import Derived.Test.YtopbblhkapgdkaaDoorAbFun
import Derived.Test.YtopbblhkapgdkaaDoorL31B
set_option linter.all false
set_option maxRecDepth 20000
set_option linter.all false
namespace Go.Ab
open Go.Proofs

def F_ref25_leads_L1 (a_ : Int) (b_ : Int) (k35 : Int) (a36 : GMint) (x34 : Unit) : Option (Fl Unit Bool) :=
  grp ((decide (a36.From = a_) && decide (a36.To = b_))) fun b44 => bif b44 then some (.ex true) else some (.nx ())
def F_ref25_leads_L2 (b_ : Int) (a334 : GGrant) (k415 : Int) (a416 : GStore) (x414 : Unit) : Option (Fl Unit Bool) :=
  grp ((decide (a416.Resource = a334.Resource) && decide (a416.Credential = b_))) fun b424 => bif b424 then some (.ex true) else some (.nx ())
def F_ref25_leads_L3 (x_ : GRights) (a_ : Int) (b_ : Int) (k333 : Int) (a334 : GGrant) (x332 : Unit) : Option (Fl Unit Bool) :=
  bif (!decide (a334.Credential = a_)) then some (.nx ()) else (forL (F_ref25_leads_L2 b_ a334) x_.Stores 0 ()).bind fun o => o.elim (fun x425 => some (.nx ())) (fun r426 => some (.ex r426))
def F_ref25_leads (x_ : GRights) (a_ : Int) (b_ : Int) : Option Bool :=
  (forL (F_ref25_leads_L1 a_ b_) x_.Mints 0 ()).bind fun o => o.elim (fun x45 => (forL (F_ref25_leads_L3 x_ a_ b_) x_.Grants 0 ()).bind fun o => o.elim (fun x427 => some false) (fun r428 => some r428)) (fun r46 => some r46)

/- leakresponse/leakresponseref25.leads -/
@[irreducible] def mg_ref25_leads_1 : List MOp := [⟨.fad 1 (.t 8), (some 25), (some (24, true))⟩,
    ⟨.ld none (.t 25), (some 26), (some (24, true))⟩,
    ⟨.mv (.t 2), (some 27), (some (24, true))⟩,
    ⟨.bin false .eql (.t 26) (.t 27), (some 28), (some (24, true))⟩,
    ⟨.pick (.t 24) (.t 28) (.c (.bool false)), (some 29), none⟩]
@[irreducible] def mc_ref25_leads_L1 : MC :=
  (.seq (.reg [⟨.bin false .lss (.t 16) (.t 15), (some 17), none⟩])
  (.seq (.cond (.t 17)
    .skip
    (.exit 0))
  (.seq (.block 1
  (.seq (.reg [⟨.iad 2 (.t 14) (.t 16), (some 18), none⟩,
    ⟨.ld (some 2) (.t 18), (some 19), none⟩,
    ⟨.alloc [(.int .i64 0), (.int .i64 0)], (some 8), none⟩,
    ⟨.st 2 (.t 8) (.t 19), none, none⟩])
  (.seq (.regI [.op ⟨.fad 0 (.t 8), (some 20), none⟩,
    .op ⟨.ld none (.t 20), (some 21), none⟩,
    .op ⟨.mv (.t 1), (some 22), none⟩,
    .op ⟨.bin false .eql (.t 21) (.t 22), (some 23), none⟩,
    .op ⟨.mv (.t 23), (some 24), none⟩,
    .grp mg_ref25_leads_1])
  (.cond (.t 29)
    (.seq (.reg [⟨.mv (.c (.bool true)), (some 6), none⟩])
    .ret)
    .skip))))
  (.reg [⟨.bin true .add (.t 16) (.c (.int .i64 1)), (some 30), none⟩,
    ⟨.mv (.t 30), (some 16), none⟩]))))
@[irreducible] def mg_ref25_leads_2 : List MOp := [⟨.fad 1 (.t 12), (some 55), (some (54, true))⟩,
    ⟨.ld none (.t 55), (some 56), (some (54, true))⟩,
    ⟨.mv (.t 2), (some 57), (some (54, true))⟩,
    ⟨.bin false .eql (.t 56) (.t 57), (some 58), (some (54, true))⟩,
    ⟨.pick (.t 54) (.t 58) (.c (.bool false)), (some 59), none⟩]
@[irreducible] def mc_ref25_leads_L2 : MC :=
  (.seq (.reg [⟨.bin false .lss (.t 45) (.t 44), (some 46), none⟩])
  (.seq (.cond (.t 46)
    .skip
    (.exit 4))
  (.seq (.block 5
  (.seq (.reg [⟨.iad 2 (.t 43) (.t 45), (some 47), none⟩,
    ⟨.ld (some 2) (.t 47), (some 48), none⟩,
    ⟨.alloc [(.int .i64 0), (.int .i64 0)], (some 12), none⟩,
    ⟨.st 2 (.t 12) (.t 48), none, none⟩])
  (.seq (.regI [.op ⟨.fad 0 (.t 12), (some 49), none⟩,
    .op ⟨.ld none (.t 49), (some 50), none⟩,
    .op ⟨.fad 1 (.t 10), (some 51), none⟩,
    .op ⟨.ld none (.t 51), (some 52), none⟩,
    .op ⟨.bin false .eql (.t 50) (.t 52), (some 53), none⟩,
    .op ⟨.mv (.t 53), (some 54), none⟩,
    .grp mg_ref25_leads_2])
  (.cond (.t 59)
    (.seq (.reg [⟨.mv (.c (.bool true)), (some 6), none⟩])
    .ret)
    .skip))))
  (.reg [⟨.bin true .add (.t 45) (.c (.int .i64 1)), (some 60), none⟩,
    ⟨.mv (.t 60), (some 45), none⟩]))))
@[irreducible] def mc_ref25_leads_L3 : MC :=
  (.seq (.reg [⟨.bin false .lss (.t 34) (.t 33), (some 35), none⟩])
  (.seq (.cond (.t 35)
    .skip
    (.exit 2))
  (.seq (.block 3
  (.seq (.reg [⟨.iad 3 (.t 32) (.t 34), (some 36), none⟩,
    ⟨.ld (some 3) (.t 36), (some 37), none⟩,
    ⟨.alloc [(.int .i64 0), (.int .i64 0), (.int .i64 0)], (some 10), none⟩,
    ⟨.st 3 (.t 10) (.t 37), none, none⟩])
  (.seq (.seq (.reg [⟨.fad 0 (.t 10), (some 38), none⟩,
    ⟨.ld none (.t 38), (some 39), none⟩,
    ⟨.mv (.t 1), (some 40), none⟩,
    ⟨.bin false .neq (.t 39) (.t 40), (some 41), none⟩])
  (.cond (.t 41)
    (.exit 3)
    .skip))
  (.seq (.reg [⟨.fad 3 (.t 3), (some 42), none⟩,
    ⟨.ld none (.t 42), (some 43), none⟩,
    ⟨.len false (.t 43), (some 44), none⟩,
    ⟨.mv (.c (.int .i64 0)), (some 45), none⟩])
  (.block 4
  (.loop mc_ref25_leads_L2))))))
  (.reg [⟨.bin true .add (.t 34) (.c (.int .i64 1)), (some 61), none⟩,
    ⟨.mv (.t 61), (some 34), none⟩]))))
def mc_ref25_leads : MC :=
  (.seq (.reg [⟨.box (.t 0), (some 3), none⟩,
    ⟨.mv (.c (.bool false)), (some 6), none⟩])
  (.seq (.seq (.reg [⟨.fad 4 (.t 3), (some 13), none⟩,
    ⟨.ld none (.t 13), (some 14), none⟩,
    ⟨.len false (.t 14), (some 15), none⟩,
    ⟨.mv (.c (.int .i64 0)), (some 16), none⟩])
  (.block 0
  (.loop mc_ref25_leads_L1)))
  (.seq (.seq (.reg [⟨.fad 2 (.t 3), (some 31), none⟩,
    ⟨.ld none (.t 31), (some 32), none⟩,
    ⟨.len false (.t 32), (some 33), none⟩,
    ⟨.mv (.c (.int .i64 0)), (some 34), none⟩])
  (.block 2
  (.loop mc_ref25_leads_L3)))
  (.seq (.reg [⟨.mv (.c (.bool false)), (some 6), none⟩])
  .ret))))
theorem ok_ref25_leads : mc_ref25_leads.ok Tryd.prog Tryd.f33.ntmps (Tryd.f33.body.getD .skip) = true := by kernel_rfl

set_option maxHeartbeats 2000000 in
theorem Wq_ref25_leads (x_ : GRights) (a_ : Int) (b_ : Int) {Q : Bool → Prop} {Q' : V → Heap → Prop} (h : Ok (F_ref25_leads x_ a_ b_) Q) (hQ : ∀ z, Q z → Q' (.bool z) []) : ACall Tryd.prog 33 [GRights.v x_, .int .i64 a_, .int .i64 b_] [] Q' := by
  refine acall_machN [] [] [.t 6] Tryd.func33 rfl (by kernel_rfl) ok_ref25_leads (by kernel_rfl) rfl rfl fun M hf => ?_
  clear hf
  unfold F_ref25_leads at h
  unfold mc_ref25_leads
  (try replace h := tH h)
  refine tB ?_
  repeat' (first
    | (exact hQ _ h)
    | (exact trivial)
    | (exact False.elim h)
    | (have hq := hQ _ h; replace hq := tH hq; exact hq)
    | (refine oblg h ?_; clear h; intro hc h)
    | (refine roomG h ?_; clear h; intro hc h)
    | (refine fork h ?_ ?_ <;> clear h <;> intro hc h)
    | (refine forkS h ?_ ?_ <;> clear h <;> intro hc h)
    | (refine And.intro (chkD_of rfl) ?_)
    | (refine M.gv1 (ms := mg_ref25_leads_1) 29 [25, 26, 27, 28] h ?_ ?_ <;> first
       | (clear h; intro K hK1; unfold mg_ref25_leads_1; refine tB ?_)
       | (clear h; intro b h; (try replace h := tH h); refine tB ?_)
       | fail)
    | (refine M.for1 (b := mc_ref25_leads_L1) 16 [1, 2, 3, 14, 15] [3] (fun x => []) (fun x => []) [] h ?_ ?_ ?_ <;> first
       | (clear h; intro k a x Qn K hK2 hkN2 ha2 h hf; have hl := fact_int (factsE_find (n := 15) hf.1 rfl); clear hf; have hkd := kD hkN2; have hkB2 := kB hkN2; have hkI2 : in64 ((k : Int) + 1) = true := in64_iff.2 ⟨by omega, by (try simp only [List.length_cons, List.length_nil] at hkN2); omega⟩; unfold F_ref25_leads_L1 at h; unfold mc_ref25_leads_L1; (try replace h := tH h); refine tK ha2 hkd hkN2 hkB2 hkI2 ?_)
       | (clear h; intro x K h; replace h := And.left (And.intro h trivial); unfold mc_ref25_leads_L1; (try replace h := tH h); refine tB ?_)
       | (clear h; (try refine tB ?_); exact tU0; done)
       | fail)
    | (refine M.gv1 (ms := mg_ref25_leads_2) 59 [55, 56, 57, 58] h ?_ ?_ <;> first
       | (clear h; intro K hK3; unfold mg_ref25_leads_2; refine tB ?_)
       | (clear h; intro b h; (try replace h := tH h); refine tB ?_)
       | fail)
    | (refine M.for1 (b := mc_ref25_leads_L2) 45 [1, 2, 3, 10, 32, 33, 34, 43, 44] [10, 3] (fun x => []) (fun x => []) [] h ?_ ?_ ?_ <;> first
       | (clear h; intro k a x Qn K hK4 hkN4 ha4 h hf; have hl := fact_int (factsE_find (n := 44) hf.1 rfl); clear hf; have hkd := kD hkN4; have hkB4 := kB hkN4; have hkI4 : in64 ((k : Int) + 1) = true := in64_iff.2 ⟨by omega, by (try simp only [List.length_cons, List.length_nil] at hkN4); omega⟩; unfold F_ref25_leads_L2 at h; unfold mc_ref25_leads_L2; (try replace h := tH h); refine tK ha4 hkd hkN4 hkB4 hkI4 ?_)
       | (clear h; intro x K h; replace h := And.left (And.intro h trivial); unfold mc_ref25_leads_L2; (try replace h := tH h); refine tB ?_)
       | (clear h; (try refine tB ?_); exact tU0; done)
       | fail)
    | (refine M.for1 (b := mc_ref25_leads_L3) 34 [1, 2, 3, 32, 33] [3] (fun x => []) (fun x => []) [] h ?_ ?_ ?_ <;> first
       | (clear h; intro k a x Qn K hK5 hkN5 ha5 h hf; have hl := fact_int (factsE_find (n := 33) hf.1 rfl); clear hf; have hkd := kD hkN5; have hkB5 := kB hkN5; have hkI5 : in64 ((k : Int) + 1) = true := in64_iff.2 ⟨by omega, by (try simp only [List.length_cons, List.length_nil] at hkN5); omega⟩; unfold F_ref25_leads_L3 at h; unfold mc_ref25_leads_L3; (try replace h := tH h); refine tK ha5 hkd hkN5 hkB5 hkI5 ?_)
       | (clear h; intro x K h; replace h := And.left (And.intro h trivial); unfold mc_ref25_leads_L3; (try replace h := tH h); refine tB ?_)
       | (clear h; (try refine tB ?_); exact tU0; done)
       | fail)
    | (refine And.intro hkI2 ?_)
    | (refine And.intro hkN2 ?_)
    | (refine And.intro hkB2 ?_)
    | (simp only [ha2])
    | (refine And.intro hkI4 ?_)
    | (refine And.intro hkN4 ?_)
    | (refine And.intro hkB4 ?_)
    | (simp only [ha4])
    | (refine And.intro hkI5 ?_)
    | (refine And.intro hkN5 ?_)
    | (refine And.intro hkB5 ?_)
    | (simp only [ha5])
    | (refine hK1 _ ?_; exact tU; done)
    | (refine hK2 _ ?_; (try refine tB ?_); refine ⟨_, h, ?_⟩; exact tU0; done)
    | (refine hK3 _ ?_; exact tU; done)
    | (refine hK4 _ ?_; (try refine tB ?_); refine ⟨_, h, ?_⟩; exact tU0; done)
    | (refine hK5 _ ?_; (try refine tB ?_); refine ⟨_, h, ?_⟩; exact tU0; done)
    | (refine bfork (fun hc => ?_) (fun hc => ?_))
    | (refine ⟨_, getE_map (inb_toNat (by assumption)), ?_⟩; (first | rw [M.lok_compU] | rw [M.lokD_compU]); refine tB ?_)
    | (refine And.intro (ltb_of (by assumption)) ?_)
    | (refine And.intro (by omega) ?_)
    | fail)
theorem W_ref25_leads : ∀ {x_ : GRights} {a_ : Int} {b_ : Int} {y : Bool}, F_ref25_leads x_ a_ b_ = some y → ACall Tryd.prog 33 [GRights.v x_, .int .i64 a_, .int .i64 b_] [] (fun r H => r = .bool y ∧ H = []) :=
  fun hy => Wq_ref25_leads _ _ _ (Q := fun z => z = _) ⟨_, hy, rfl⟩ fun z e => by subst e; exact ⟨rfl, rfl⟩

def F_ref25_in (x_ : Int) (low_ : Int) (high_ : Int) : Option Bool :=
  grp ((decide (low_ ≤ x_) && decide (x_ ≤ high_))) fun b2 => some b2

/- leakresponse/leakresponseref25.in -/
@[irreducible] def mg_ref25_in_1 : List MOp := [⟨.mv (.t 0), (some 11), (some (10, true))⟩,
    ⟨.mv (.t 2), (some 12), (some (10, true))⟩,
    ⟨.bin false .leq (.t 11) (.t 12), (some 13), (some (10, true))⟩,
    ⟨.pick (.t 10) (.t 13) (.c (.bool false)), (some 14), none⟩]
def mc_ref25_in : MC :=
  (.seq (.reg [⟨.mv (.c (.bool false)), (some 6), none⟩])
  (.seq (.regI [.op ⟨.mv (.t 0), (some 7), none⟩,
    .op ⟨.mv (.t 1), (some 8), none⟩,
    .op ⟨.bin false .geq (.t 7) (.t 8), (some 9), none⟩,
    .op ⟨.mv (.t 9), (some 10), none⟩,
    .grp mg_ref25_in_1,
    .op ⟨.mv (.t 14), (some 6), none⟩])
  .ret))
theorem ok_ref25_in : mc_ref25_in.ok Tryd.prog Tryd.f25.ntmps (Tryd.f25.body.getD .skip) = true := by kernel_rfl

set_option maxHeartbeats 2000000 in
theorem Wq_ref25_in (x_ : Int) (low_ : Int) (high_ : Int) {Q : Bool → Prop} {Q' : V → Heap → Prop} (h : Ok (F_ref25_in x_ low_ high_) Q) (hQ : ∀ z, Q z → Q' (.bool z) []) : ACall Tryd.prog 25 [.int .i64 x_, .int .i64 low_, .int .i64 high_] [] Q' := by
  refine acall_machN [] [] [.t 6] Tryd.func25 rfl (by kernel_rfl) ok_ref25_in (by kernel_rfl) rfl rfl fun M hf => ?_
  clear hf
  unfold F_ref25_in at h
  unfold mc_ref25_in
  (try replace h := tH h)
  refine tB ?_
  repeat' (first
    | (exact hQ _ h)
    | (exact trivial)
    | (exact False.elim h)
    | (have hq := hQ _ h; replace hq := tH hq; exact hq)
    | (refine oblg h ?_; clear h; intro hc h)
    | (refine roomG h ?_; clear h; intro hc h)
    | (refine fork h ?_ ?_ <;> clear h <;> intro hc h)
    | (refine forkS h ?_ ?_ <;> clear h <;> intro hc h)
    | (refine And.intro (chkD_of rfl) ?_)
    | (refine M.gv1 (ms := mg_ref25_in_1) 14 [11, 12, 13] h ?_ ?_ <;> first
       | (clear h; intro K hK1; unfold mg_ref25_in_1; refine tB ?_)
       | (clear h; intro b h; (try replace h := tH h); refine tB ?_)
       | fail)
    | (refine hK1 _ ?_; exact tU; done)
    | (refine bfork (fun hc => ?_) (fun hc => ?_))
    | (refine ⟨_, getE_map (inb_toNat (by assumption)), ?_⟩; (first | rw [M.lok_compU] | rw [M.lokD_compU]); refine tB ?_)
    | (refine And.intro (ltb_of (by assumption)) ?_)
    | (refine And.intro (by omega) ?_)
    | fail)
theorem W_ref25_in : ∀ {x_ : Int} {low_ : Int} {high_ : Int} {y : Bool}, F_ref25_in x_ low_ high_ = some y → ACall Tryd.prog 25 [.int .i64 x_, .int .i64 low_, .int .i64 high_] [] (fun r H => r = .bool y ∧ H = []) :=
  fun hy => Wq_ref25_in _ _ _ (Q := fun z => z = _) ⟨_, hy, rfl⟩ fun z e => by subst e; exact ⟨rfl, rfl⟩

def F_ref25_Valid_L1 (x_ : GRights) (k116 : Int) (a117 : GGrant) (x115 : Unit) : Option (Fl Unit Bool) :=
  chk (in64 (x_.Credentials - 1)) ((F_ref25_in a117.Credential 0 (x_.Credentials - 1)).bind fun y139 => bif (!y139) then some (.ex false) else chk (in64 (x_.Resources - 1)) ((F_ref25_in a117.Resource 0 (x_.Resources - 1)).bind fun y140 => bif (!y140) then some (.ex false) else (F_ref25_in a117.Right 1 3).bind fun y141 => bif (!y141) then some (.ex false) else some (.nx ())))
def F_ref25_Valid_L2 (x_ : GRights) (k202 : Int) (a203 : GStore) (x201 : Unit) : Option (Fl Unit Bool) :=
  chk (in64 (x_.Resources - 1)) ((F_ref25_in a203.Resource 0 (x_.Resources - 1)).bind fun y218 => bif (!y218) then some (.ex false) else chk (in64 (x_.Credentials - 1)) ((F_ref25_in a203.Credential 0 (x_.Credentials - 1)).bind fun y219 => bif (!y219) then some (.ex false) else some (.nx ())))
def F_ref25_Valid_L3 (x_ : GRights) (k280 : Int) (a281 : GMint) (x279 : Unit) : Option (Fl Unit Bool) :=
  chk (in64 (x_.Credentials - 1)) ((F_ref25_in a281.From 0 (x_.Credentials - 1)).bind fun y296 => bif (!y296) then some (.ex false) else chk (in64 (x_.Credentials - 1)) ((F_ref25_in a281.To 0 (x_.Credentials - 1)).bind fun y297 => bif (!y297) then some (.ex false) else some (.nx ())))
def F_ref25_Valid (x_ : GRights) : Option Bool :=
  jn (α := Fl Unit Bool) ((F_ref25_in x_.Credentials 0 24).bind fun y26 => bif (!y26) then grp (true) fun b27 => grp ((b27 || decide (100 < (x_.Stores.length : Int)))) fun b28 => grp ((b28 || decide (100 < (x_.Mints.length : Int)))) fun b29 => bif b29 then some (.ex false) else some (.nx ()) else (F_ref25_in x_.Resources 0 24).bind fun y30 => grp (((!y30) || decide (100 < (x_.Grants.length : Int)))) fun b31 => grp ((b31 || decide (100 < (x_.Stores.length : Int)))) fun b32 => grp ((b32 || decide (100 < (x_.Mints.length : Int)))) fun b33 => bif b33 then some (.ex false) else some (.nx ())) fun o => o.elim (fun j17 => (forL (F_ref25_Valid_L1 x_) x_.Grants 0 ()).bind fun o => o.elim (fun x142 => (forL (F_ref25_Valid_L2 x_) x_.Stores 0 ()).bind fun o => o.elim (fun x220 => (forL (F_ref25_Valid_L3 x_) x_.Mints 0 ()).bind fun o => o.elim (fun x298 => some true) (fun r299 => some r299)) (fun r221 => some r221)) (fun r143 => some r143)) (fun r300 => some r300)

/- leakresponse/leakresponseref25.Valid -/
@[irreducible] def mg_ref25_Valid_1 : List MOp := [⟨.fad 2 (.t 1), (some 20), (some (19, false))⟩,
    ⟨.ld none (.t 20), (some 21), (some (19, false))⟩,
    ⟨.len false (.t 21), (some 22), (some (19, false))⟩,
    ⟨.bin false .gtr (.t 22) (.c (.int .i64 100)), (some 23), (some (19, false))⟩,
    ⟨.pick (.t 19) (.c (.bool true)) (.t 23), (some 24), none⟩]
@[irreducible] def mg_ref25_Valid_2 : List MOp := [⟨.fad 3 (.t 1), (some 26), (some (25, false))⟩,
    ⟨.ld none (.t 26), (some 27), (some (25, false))⟩,
    ⟨.len false (.t 27), (some 28), (some (25, false))⟩,
    ⟨.bin false .gtr (.t 28) (.c (.int .i64 100)), (some 29), (some (25, false))⟩,
    ⟨.pick (.t 25) (.c (.bool true)) (.t 29), (some 30), none⟩]
@[irreducible] def mg_ref25_Valid_3 : List MOp := [⟨.fad 4 (.t 1), (some 32), (some (31, false))⟩,
    ⟨.ld none (.t 32), (some 33), (some (31, false))⟩,
    ⟨.len false (.t 33), (some 34), (some (31, false))⟩,
    ⟨.bin false .gtr (.t 34) (.c (.int .i64 100)), (some 35), (some (31, false))⟩,
    ⟨.pick (.t 31) (.c (.bool true)) (.t 35), (some 36), none⟩]
@[irreducible] def mc_ref25_Valid_L1 : MC :=
  (.seq (.reg [⟨.bin false .lss (.t 40) (.t 39), (some 41), none⟩])
  (.seq (.cond (.t 41)
    .skip
    (.exit 0))
  (.seq (.block 1
  (.seq (.reg [⟨.iad 3 (.t 38) (.t 40), (some 42), none⟩,
    ⟨.ld (some 3) (.t 42), (some 43), none⟩,
    ⟨.alloc [(.int .i64 0), (.int .i64 0), (.int .i64 0)], (some 4), none⟩,
    ⟨.st 3 (.t 4) (.t 43), none, none⟩])
  (.seq (.reg [⟨.fad 0 (.t 4), (some 44), none⟩,
    ⟨.ld none (.t 44), (some 45), none⟩,
    ⟨.fad 0 (.t 1), (some 46), none⟩,
    ⟨.ld none (.t 46), (some 47), none⟩,
    ⟨.bin true .sub (.t 47) (.c (.int .i64 1)), (some 48), none⟩,
    ⟨.call (.f 25) [(.t 45), (.c (.int .i64 0)), (.t 48)] [] [], (some 49), none⟩,
    ⟨.not (.t 49), (some 50), none⟩,
    ⟨.mv (.t 50), (some 51), none⟩,
    ⟨.fad 1 (.t 4), (some 52), (some (51, false))⟩,
    ⟨.ld none (.t 52), (some 53), (some (51, false))⟩,
    ⟨.fad 1 (.t 1), (some 54), (some (51, false))⟩,
    ⟨.ld none (.t 54), (some 55), (some (51, false))⟩,
    ⟨.bin true .sub (.t 55) (.c (.int .i64 1)), (some 56), (some (51, false))⟩,
    ⟨.call (.f 25) [(.t 53), (.c (.int .i64 0)), (.t 56)] [] [], (some 57), (some (51, false))⟩,
    ⟨.not (.t 57), (some 58), (some (51, false))⟩,
    ⟨.pick (.t 51) (.c (.bool true)) (.t 58), (some 59), none⟩,
    ⟨.mv (.t 59), (some 60), none⟩,
    ⟨.fad 2 (.t 4), (some 61), (some (60, false))⟩,
    ⟨.ld none (.t 61), (some 62), (some (60, false))⟩,
    ⟨.call (.f 25) [(.t 62), (.c (.int .i64 1)), (.c (.int .i64 3))] [] [], (some 63), (some (60, false))⟩,
    ⟨.not (.t 63), (some 64), (some (60, false))⟩,
    ⟨.pick (.t 60) (.c (.bool true)) (.t 64), (some 65), none⟩])
  (.cond (.t 65)
    (.seq (.reg [⟨.mv (.c (.bool false)), (some 2), none⟩])
    .ret)
    .skip))))
  (.reg [⟨.bin true .add (.t 40) (.c (.int .i64 1)), (some 66), none⟩,
    ⟨.mv (.t 66), (some 40), none⟩]))))
@[irreducible] def mc_ref25_Valid_L2 : MC :=
  (.seq (.reg [⟨.bin false .lss (.t 70) (.t 69), (some 71), none⟩])
  (.seq (.cond (.t 71)
    .skip
    (.exit 2))
  (.seq (.block 3
  (.seq (.reg [⟨.iad 2 (.t 68) (.t 70), (some 72), none⟩,
    ⟨.ld (some 2) (.t 72), (some 73), none⟩,
    ⟨.alloc [(.int .i64 0), (.int .i64 0)], (some 6), none⟩,
    ⟨.st 2 (.t 6) (.t 73), none, none⟩])
  (.seq (.reg [⟨.fad 0 (.t 6), (some 74), none⟩,
    ⟨.ld none (.t 74), (some 75), none⟩,
    ⟨.fad 1 (.t 1), (some 76), none⟩,
    ⟨.ld none (.t 76), (some 77), none⟩,
    ⟨.bin true .sub (.t 77) (.c (.int .i64 1)), (some 78), none⟩,
    ⟨.call (.f 25) [(.t 75), (.c (.int .i64 0)), (.t 78)] [] [], (some 79), none⟩,
    ⟨.not (.t 79), (some 80), none⟩,
    ⟨.mv (.t 80), (some 81), none⟩,
    ⟨.fad 1 (.t 6), (some 82), (some (81, false))⟩,
    ⟨.ld none (.t 82), (some 83), (some (81, false))⟩,
    ⟨.fad 0 (.t 1), (some 84), (some (81, false))⟩,
    ⟨.ld none (.t 84), (some 85), (some (81, false))⟩,
    ⟨.bin true .sub (.t 85) (.c (.int .i64 1)), (some 86), (some (81, false))⟩,
    ⟨.call (.f 25) [(.t 83), (.c (.int .i64 0)), (.t 86)] [] [], (some 87), (some (81, false))⟩,
    ⟨.not (.t 87), (some 88), (some (81, false))⟩,
    ⟨.pick (.t 81) (.c (.bool true)) (.t 88), (some 89), none⟩])
  (.cond (.t 89)
    (.seq (.reg [⟨.mv (.c (.bool false)), (some 2), none⟩])
    .ret)
    .skip))))
  (.reg [⟨.bin true .add (.t 70) (.c (.int .i64 1)), (some 90), none⟩,
    ⟨.mv (.t 90), (some 70), none⟩]))))
@[irreducible] def mc_ref25_Valid_L3 : MC :=
  (.seq (.reg [⟨.bin false .lss (.t 94) (.t 93), (some 95), none⟩])
  (.seq (.cond (.t 95)
    .skip
    (.exit 4))
  (.seq (.block 5
  (.seq (.reg [⟨.iad 2 (.t 92) (.t 94), (some 96), none⟩,
    ⟨.ld (some 2) (.t 96), (some 97), none⟩,
    ⟨.alloc [(.int .i64 0), (.int .i64 0)], (some 8), none⟩,
    ⟨.st 2 (.t 8) (.t 97), none, none⟩])
  (.seq (.reg [⟨.fad 0 (.t 8), (some 98), none⟩,
    ⟨.ld none (.t 98), (some 99), none⟩,
    ⟨.fad 0 (.t 1), (some 100), none⟩,
    ⟨.ld none (.t 100), (some 101), none⟩,
    ⟨.bin true .sub (.t 101) (.c (.int .i64 1)), (some 102), none⟩,
    ⟨.call (.f 25) [(.t 99), (.c (.int .i64 0)), (.t 102)] [] [], (some 103), none⟩,
    ⟨.not (.t 103), (some 104), none⟩,
    ⟨.mv (.t 104), (some 105), none⟩,
    ⟨.fad 1 (.t 8), (some 106), (some (105, false))⟩,
    ⟨.ld none (.t 106), (some 107), (some (105, false))⟩,
    ⟨.fad 0 (.t 1), (some 108), (some (105, false))⟩,
    ⟨.ld none (.t 108), (some 109), (some (105, false))⟩,
    ⟨.bin true .sub (.t 109) (.c (.int .i64 1)), (some 110), (some (105, false))⟩,
    ⟨.call (.f 25) [(.t 107), (.c (.int .i64 0)), (.t 110)] [] [], (some 111), (some (105, false))⟩,
    ⟨.not (.t 111), (some 112), (some (105, false))⟩,
    ⟨.pick (.t 105) (.c (.bool true)) (.t 112), (some 113), none⟩])
  (.cond (.t 113)
    (.seq (.reg [⟨.mv (.c (.bool false)), (some 2), none⟩])
    .ret)
    .skip))))
  (.reg [⟨.bin true .add (.t 94) (.c (.int .i64 1)), (some 114), none⟩,
    ⟨.mv (.t 114), (some 94), none⟩]))))
@[irreducible] def mc_ref25_Valid_J1 : MC :=
  (.seq (.seq (.reg [⟨.fad 2 (.t 1), (some 37), none⟩,
    ⟨.ld none (.t 37), (some 38), none⟩,
    ⟨.len false (.t 38), (some 39), none⟩,
    ⟨.mv (.c (.int .i64 0)), (some 40), none⟩])
  (.block 0
  (.loop mc_ref25_Valid_L1)))
  (.seq (.seq (.reg [⟨.fad 3 (.t 1), (some 67), none⟩,
    ⟨.ld none (.t 67), (some 68), none⟩,
    ⟨.len false (.t 68), (some 69), none⟩,
    ⟨.mv (.c (.int .i64 0)), (some 70), none⟩])
  (.block 2
  (.loop mc_ref25_Valid_L2)))
  (.seq (.seq (.reg [⟨.fad 4 (.t 1), (some 91), none⟩,
    ⟨.ld none (.t 91), (some 92), none⟩,
    ⟨.len false (.t 92), (some 93), none⟩,
    ⟨.mv (.c (.int .i64 0)), (some 94), none⟩])
  (.block 4
  (.loop mc_ref25_Valid_L3)))
  (.seq (.reg [⟨.mv (.c (.bool true)), (some 2), none⟩])
  .ret))))
def mc_ref25_Valid : MC :=
  (.seq (.reg [⟨.box (.t 0), (some 1), none⟩,
    ⟨.mv (.c (.bool false)), (some 2), none⟩])
  (.cut (.seq (.regI [.op ⟨.fad 0 (.t 1), (some 9), none⟩,
    .op ⟨.ld none (.t 9), (some 10), none⟩,
    .op ⟨.call (.f 25) [(.t 10), (.c (.int .i64 0)), (.c (.int .i64 24))] [] [], (some 11), none⟩,
    .op ⟨.not (.t 11), (some 12), none⟩,
    .op ⟨.mv (.t 12), (some 13), none⟩,
    .op ⟨.fad 1 (.t 1), (some 14), (some (13, false))⟩,
    .op ⟨.ld none (.t 14), (some 15), (some (13, false))⟩,
    .op ⟨.call (.f 25) [(.t 15), (.c (.int .i64 0)), (.c (.int .i64 24))] [] [], (some 16), (some (13, false))⟩,
    .op ⟨.not (.t 16), (some 17), (some (13, false))⟩,
    .op ⟨.pick (.t 13) (.c (.bool true)) (.t 17), (some 18), none⟩,
    .op ⟨.mv (.t 18), (some 19), none⟩,
    .grp mg_ref25_Valid_1,
    .op ⟨.mv (.t 24), (some 25), none⟩,
    .grp mg_ref25_Valid_2,
    .op ⟨.mv (.t 30), (some 31), none⟩,
    .grp mg_ref25_Valid_3])
  (.cond (.t 36)
    (.seq (.reg [⟨.mv (.c (.bool false)), (some 2), none⟩])
    .ret)
    .skip))
  mc_ref25_Valid_J1))
theorem ok_ref25_Valid : mc_ref25_Valid.ok Tryd.prog Tryd.f24.ntmps (Tryd.f24.body.getD .skip) = true := by kernel_rfl

set_option maxHeartbeats 2000000 in
theorem Wq_ref25_Valid (x_ : GRights) {Q : Bool → Prop} {Q' : V → Heap → Prop} (h : Ok (F_ref25_Valid x_) Q) (hQ : ∀ z, Q z → Q' (.bool z) []) : ACall Tryd.prog 24 [GRights.v x_] [] Q' := by
  refine acall_machN [] [] [.t 2] Tryd.func24 rfl (by kernel_rfl) ok_ref25_Valid (by kernel_rfl) rfl rfl fun M hf => ?_
  clear hf
  unfold F_ref25_Valid at h
  unfold mc_ref25_Valid
  (try replace h := tH h)
  refine tB ?_
  repeat' (first
    | (exact hQ _ h)
    | (exact trivial)
    | (exact False.elim h)
    | (have hq := hQ _ h; replace hq := tH hq; exact hq)
    | (refine oblg h ?_; clear h; intro hc h)
    | (refine roomG h ?_; clear h; intro hc h)
    | (refine fork h ?_ ?_ <;> clear h <;> intro hc h)
    | (refine forkS h ?_ ?_ <;> clear h <;> intro hc h)
    | (refine And.intro (chkD_of rfl) ?_)
    | (obtain ⟨y, hy, h⟩ := h; have hw := W_ref25_in hy; (try replace hw := tH hw); (first | (refine sCall_of hw rfl rfl ?_; rw [M.lok_eq]) | (refine sCallD_of hw rfl rfl ?_; rw [M.lokD_eq])); clear hw; clear hy; refine tB ?_)
    | (refine M.gv1 (ms := mg_ref25_Valid_3) 36 [32, 33, 34, 35] h ?_ ?_ <;> first
       | (clear h; intro K hK1; unfold mg_ref25_Valid_3; refine tB ?_)
       | (clear h; intro b h; (try replace h := tH h); refine tB ?_)
       | fail)
    | (refine M.gv1 (ms := mg_ref25_Valid_2) 30 [26, 27, 28, 29] h ?_ ?_ <;> first
       | (clear h; intro K hK2; unfold mg_ref25_Valid_2; refine tB ?_)
       | (clear h; intro b h; (try replace h := tH h); refine tB ?_)
       | fail)
    | (refine M.gv1 (ms := mg_ref25_Valid_1) 24 [20, 21, 22, 23] h ?_ ?_ <;> first
       | (clear h; intro K hK3; unfold mg_ref25_Valid_1; refine tB ?_)
       | (clear h; intro b h; (try replace h := tH h); refine tB ?_)
       | fail)
    | (refine M.gv1 (ms := mg_ref25_Valid_3) 36 [32, 33, 34, 35] h ?_ ?_ <;> first
       | (clear h; intro K hK4; unfold mg_ref25_Valid_3; refine tB ?_)
       | (clear h; intro b h; (try replace h := tH h); refine tB ?_)
       | fail)
    | (refine M.gv1 (ms := mg_ref25_Valid_2) 30 [26, 27, 28, 29] h ?_ ?_ <;> first
       | (clear h; intro K hK5; unfold mg_ref25_Valid_2; refine tB ?_)
       | (clear h; intro b h; (try replace h := tH h); refine tB ?_)
       | fail)
    | (refine M.gv1 (ms := mg_ref25_Valid_1) 24 [20, 21, 22, 23] h ?_ ?_ <;> first
       | (clear h; intro K hK6; unfold mg_ref25_Valid_1; refine tB ?_)
       | (clear h; intro b h; (try replace h := tH h); refine tB ?_)
       | fail)
    | (refine M.for1 (b := mc_ref25_Valid_L1) 40 [1, 38, 39] [1] (fun x => []) (fun x => []) [] h ?_ ?_ ?_ <;> first
       | (clear h; intro k a x Qn K hK7 hkN7 ha7 h hf; have hl := fact_int (factsE_find (n := 39) hf.1 rfl); clear hf; have hkd := kD hkN7; have hkB7 := kB hkN7; have hkI7 : in64 ((k : Int) + 1) = true := in64_iff.2 ⟨by omega, by (try simp only [List.length_cons, List.length_nil] at hkN7); omega⟩; unfold F_ref25_Valid_L1 at h; unfold mc_ref25_Valid_L1; (try replace h := tH h); refine tK ha7 hkd hkN7 hkB7 hkI7 ?_)
       | (clear h; intro x K h; replace h := And.left (And.intro h trivial); unfold mc_ref25_Valid_L1; (try replace h := tH h); refine tB ?_)
       | (clear h; (try refine tB ?_); exact tU0; done)
       | fail)
    | (refine M.for1 (b := mc_ref25_Valid_L2) 70 [1, 68, 69] [1] (fun x => []) (fun x => []) [] h ?_ ?_ ?_ <;> first
       | (clear h; intro k a x Qn K hK8 hkN8 ha8 h hf; have hl := fact_int (factsE_find (n := 69) hf.1 rfl); clear hf; have hkd := kD hkN8; have hkB8 := kB hkN8; have hkI8 : in64 ((k : Int) + 1) = true := in64_iff.2 ⟨by omega, by (try simp only [List.length_cons, List.length_nil] at hkN8); omega⟩; unfold F_ref25_Valid_L2 at h; unfold mc_ref25_Valid_L2; (try replace h := tH h); refine tK ha8 hkd hkN8 hkB8 hkI8 ?_)
       | (clear h; intro x K h; replace h := And.left (And.intro h trivial); unfold mc_ref25_Valid_L2; (try replace h := tH h); refine tB ?_)
       | (clear h; (try refine tB ?_); exact tU0; done)
       | fail)
    | (refine M.for1 (b := mc_ref25_Valid_L3) 94 [1, 92, 93] [1] (fun x => []) (fun x => []) [] h ?_ ?_ ?_ <;> first
       | (clear h; intro k a x Qn K hK9 hkN9 ha9 h hf; have hl := fact_int (factsE_find (n := 93) hf.1 rfl); clear hf; have hkd := kD hkN9; have hkB9 := kB hkN9; have hkI9 : in64 ((k : Int) + 1) = true := in64_iff.2 ⟨by omega, by (try simp only [List.length_cons, List.length_nil] at hkN9); omega⟩; unfold F_ref25_Valid_L3 at h; unfold mc_ref25_Valid_L3; (try replace h := tH h); refine tK ha9 hkd hkN9 hkB9 hkI9 ?_)
       | (clear h; intro x K h; replace h := And.left (And.intro h trivial); unfold mc_ref25_Valid_L3; (try replace h := tH h); refine tB ?_)
       | (clear h; (try refine tB ?_); exact tU0; done)
       | fail)
    | (refine M.jnE (b := mc_ref25_Valid_J1) [1] [1] (fun y => []) (fun y => []) [] h ?_ ?_ <;> first
       | (clear h; intro Qn K hK10 h; (try replace h := tH h); refine tB ?_)
       | (clear h; intro y h; unfold mc_ref25_Valid_J1; (try replace h := tH h); refine tB ?_)
       | fail)
    | (refine And.intro hkI7 ?_)
    | (refine And.intro hkN7 ?_)
    | (refine And.intro hkB7 ?_)
    | (simp only [ha7])
    | (refine And.intro hkI8 ?_)
    | (refine And.intro hkN8 ?_)
    | (refine And.intro hkB8 ?_)
    | (simp only [ha8])
    | (refine And.intro hkI9 ?_)
    | (refine And.intro hkN9 ?_)
    | (refine And.intro hkB9 ?_)
    | (simp only [ha9])
    | (refine hK1 _ ?_; exact tU; done)
    | (refine hK2 _ ?_; exact tU; done)
    | (refine hK3 _ ?_; exact tU; done)
    | (refine hK4 _ ?_; exact tU; done)
    | (refine hK5 _ ?_; exact tU; done)
    | (refine hK6 _ ?_; exact tU; done)
    | (refine hK7 _ ?_; (try refine tB ?_); refine ⟨_, h, ?_⟩; exact tU0; done)
    | (refine hK8 _ ?_; (try refine tB ?_); refine ⟨_, h, ?_⟩; exact tU0; done)
    | (refine hK9 _ ?_; (try refine tB ?_); refine ⟨_, h, ?_⟩; exact tU0; done)
    | (refine hK10 _ ?_; (try refine tB ?_); refine ⟨_, h, ?_⟩; exact tU0; done)
    | (refine bfork (fun hc => ?_) (fun hc => ?_))
    | (refine ⟨_, getE_map (inb_toNat (by assumption)), ?_⟩; (first | rw [M.lok_compU] | rw [M.lokD_compU]); refine tB ?_)
    | (refine And.intro (ltb_of (by assumption)) ?_)
    | (refine And.intro (by omega) ?_)
    | fail)
theorem W_ref25_Valid : ∀ {x_ : GRights} {y : Bool}, F_ref25_Valid x_ = some y → ACall Tryd.prog 24 [GRights.v x_] [] (fun r H => r = .bool y ∧ H = []) :=
  fun hy => Wq_ref25_Valid _ (Q := fun z => z = _) ⟨_, hy, rfl⟩ fun z e => by subst e; exact ⟨rfl, rfl⟩

end Go.Ab
