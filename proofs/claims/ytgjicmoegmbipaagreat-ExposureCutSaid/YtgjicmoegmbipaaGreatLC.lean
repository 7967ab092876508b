/- What the functions of this seat that lie on the laws' road compute (part LC), each for every input. By AI agents. -/
import Derived.Test.YtgjicmoegmbipaaGreatProg
import Derived.KernelRfl
import Derived.Test.YtgjicmoegmbipaaGreatAbFun
import Derived.Test.YtgjicmoegmbipaaGreatLB
set_option linter.all false
set_option linter.all false
set_option maxRecDepth 20000
namespace Go.Ab
open Go.Proofs
structure GTape where
  L : List Int
  at_ : Int
instance : Inhabited GTape := ⟨⟨default, default⟩⟩
def GTape.v (x : GTape) : V := .agg [.sl (x.L.map (V.int .i64)), .int .i64 x.at_]
theorem incl_0 {b : Int} {n : Nat} : (inc 0 b n = true) = (((0 : Nat) : Int) ≤ b ∧ b ≤ (n : Int)) := propext (by rw [inc_iff]; omega)
attribute [go_sem] incl_0
attribute [go_sem] GTape.v
def F_ref30_Same_L1 (b_ : List GExposure) (k11 : Int) (a12 : GExposure) (x10 : Unit) : Option (Fl Unit Bool) :=
  chk (inb k11 b_.length) (bif (!(decide (a12.Principal = (b_.getD (k11).toNat default).Principal) && decide (a12.Time = (b_.getD (k11).toNat default).Time))) then some (.ex false) else some (.nx ()))
def F_ref30_Same (a_ : List GExposure) (b_ : List GExposure) : Option Bool :=
  bif (!decide ((a_.length : Int) = (b_.length : Int))) then some false else (forL (F_ref30_Same_L1 b_) a_ 0 ()).bind fun o => o.elim (fun x13 => some true) (fun r14 => some r14)
@[irreducible] def mc_ref30_Same_L1 : MC :=
 (.seq (.reg [⟨.bin false .lss (.t 13) (.t 12), (some 14), none⟩])
 (.seq (.cond (.t 14)
 .skip
 (.exit 0))
 (.seq (.block 1
 (.seq (.reg [⟨.mv (.t 13), (some 15), none⟩,
 ⟨.mv (.t 15), (some 5), none⟩])
 (.seq (.regD [⟨.mv (.t 0), (some 16), none⟩,
 ⟨.mv (.t 5), (some 17), none⟩,
 ⟨.iad 2 (.t 16) (.t 17), (some 18), none⟩,
 ⟨.ld (some 2) (.t 18), (some 19), none⟩,
 ⟨.mv (.t 1), (some 20), none⟩,
 ⟨.mv (.t 5), (some 21), none⟩,
 ⟨.iad 2 (.t 20) (.t 21), (some 22), none⟩,
 ⟨.ld (some 2) (.t 22), (some 23), none⟩,
 ⟨.eqs true [0, 0] (.t 19) (.t 23), (some 24), none⟩]
    [[], [], [0, 1], [2], [], [], [4, 5], [6], [3, 7]]
    [[], [], [0, 1], [0, 1, 2], [], [], [4, 5], [4, 5, 6], [0, 1, 2, 3, 4, 5, 6, 7]])
 (.cond (.t 24)
 (.seq (.reg [⟨.mv (.c (.bool false)), (some 4), none⟩])
 .ret)
 .skip))))
 (.reg [⟨.bin true .add (.t 13) (.c (.int .i64 1)), (some 25), none⟩,
 ⟨.mv (.t 25), (some 13), none⟩]))))
def mc_ref30_Same : MC :=
 (.seq (.reg [⟨.mv (.c (.bool false)), (some 4), none⟩])
 (.seq (.seq (.reg [⟨.mv (.t 0), (some 6), none⟩,
 ⟨.len false (.t 6), (some 7), none⟩,
 ⟨.mv (.t 1), (some 8), none⟩,
 ⟨.len false (.t 8), (some 9), none⟩,
 ⟨.bin false .neq (.t 7) (.t 9), (some 10), none⟩])
 (.cond (.t 10)
 (.seq (.reg [⟨.mv (.c (.bool false)), (some 4), none⟩])
 .ret)
 .skip))
 (.seq (.seq (.reg [⟨.mv (.t 0), (some 11), none⟩,
 ⟨.len false (.t 11), (some 12), none⟩,
 ⟨.mv (.c (.int .i64 0)), (some 13), none⟩])
 (.block 0
 (.loop mc_ref30_Same_L1)))
 (.seq (.reg [⟨.mv (.c (.bool true)), (some 4), none⟩])
 .ret))))
theorem ok_ref30_Same : mc_ref30_Same.ok Tryz.prog Tryz.f14.ntmps (Tryz.f14.body.getD .skip) = true := by kernel_rfl
set_option maxHeartbeats 2000000 in
theorem Wq_ref30_Same (a_ : List GExposure) (b_ : List GExposure) {Q : Bool → Prop} {Q' : V → Heap → Prop} (h : Ok (F_ref30_Same a_ b_) Q) (hQ : ∀ z, Q z → Q' (.bool z) []) : ACall Tryz.prog 14 [.sl (a_.map GExposure.v), .sl (b_.map GExposure.v)] [] Q' := by
  refine acall_machN [] [] [.t 4] Tryz.func14 rfl (by kernel_rfl) ok_ref30_Same (by kernel_rfl) rfl rfl fun M hf => ?_
  clear hf
  unfold F_ref30_Same at h
  unfold mc_ref30_Same
  (try replace h := tH h)
  refine tB ?_
  repeat' (first
  |(exact hQ _ h)
  |(exact trivial)
  |(exact False.elim h)
  |(have hq := hQ _ h; replace hq := tH hq; exact hq)
  |(refine oblg h ?_; clear h; intro hc h)
  |(refine roomG h ?_; clear h; intro hc h)
  |(refine fork h ?_ ?_ <;> clear h <;> intro hc h)
  |(refine forkS h ?_ ?_ <;> clear h <;> intro hc h)
  |(refine And.intro (chkD_of rfl) ?_)
  |(refine M.for1 (b := mc_ref30_Same_L1) 13 [0, 1, 12] [] (fun x => []) (fun x => []) [] h ?_ ?_ ?_ <;> first
   |(clear h; intro k a x Qn K hK1 hkN1 ha1 h hf; have hl := fact_int (factsE_find (n := 12) hf.1 rfl); clear hf; have hkd := kD hkN1; have hkB1 := kB hkN1; have hkI1 : in64 ((k : Int) + 1) = true := in64_iff.2 ⟨by omega, by (try simp only [List.length_cons, List.length_nil] at hkN1); omega⟩; unfold F_ref30_Same_L1 at h; unfold mc_ref30_Same_L1; (try replace h := tH h); refine tK ha1 hkd hkN1 hkB1 hkI1 ?_)
   |(clear h; intro x K h; replace h := And.left (And.intro h trivial); unfold mc_ref30_Same_L1; (try replace h := tH h); refine tB ?_)
   |(clear h; (try refine tB ?_); exact tU0; done)
       | fail)
  |(refine And.intro (by first | exact hkI1 | exact hkN1 | exact hkB1) ?_)
  |(simp only [ha1])
  |(refine hK1 _ ?_; (try refine tB ?_); refine ⟨_, h, ?_⟩; exact tU0; done)
  |(refine ⟨_, getE_map (inb_toNat (by assumption)), ?_⟩; (first | rw [M.lok_compU] | rw [M.lokD_compU]); refine tB ?_)
  |(refine And.intro (ltb_of (by assumption)) ?_)
  |(refine And.intro (inb_nat (by assumption)) ?_)
  |(refine And.intro (by omega) ?_)
    | fail)
theorem W_ref30_Same : ∀ {a_ : List GExposure} {b_ : List GExposure} {y : Bool}, F_ref30_Same a_ b_ = some y → ACall Tryz.prog 14 [.sl (a_.map GExposure.v), .sl (b_.map GExposure.v)] [] (fun r H => r = .bool y ∧ H = []) :=
  fun hy => Wq_ref30_Same _ _ (Q := fun z => z = _) ⟨_, hy, rfl⟩ fun z e => by subst e; exact ⟨rfl, rfl⟩
def F_ref23_in (x_ : Int) (low_ : Int) (high_ : Int) : Option Bool :=
  grp ((decide (low_ ≤ x_) && decide (x_ ≤ high_))) fun b2 => some b2
@[irreducible] def mg_ref23_in_1 : List MOp := [⟨.mv (.t 0), (some 11), (some (10, true))⟩,
 ⟨.mv (.t 2), (some 12), (some (10, true))⟩,
 ⟨.bin false .leq (.t 11) (.t 12), (some 13), (some (10, true))⟩,
 ⟨.pick (.t 10) (.t 13) (.c (.bool false)), (some 14), none⟩]
def mc_ref23_in : MC :=
 (.seq (.reg [⟨.mv (.c (.bool false)), (some 6), none⟩])
 (.seq (.regI [.op ⟨.mv (.t 0), (some 7), none⟩,
 .op ⟨.mv (.t 1), (some 8), none⟩,
 .op ⟨.bin false .geq (.t 7) (.t 8), (some 9), none⟩,
 .op ⟨.mv (.t 9), (some 10), none⟩,
 .grp mg_ref23_in_1,
 .op ⟨.mv (.t 14), (some 6), none⟩])
 .ret))
theorem ok_ref23_in : mc_ref23_in.ok Tryz.prog Tryz.f55.ntmps (Tryz.f55.body.getD .skip) = true := by kernel_rfl
set_option maxHeartbeats 2000000 in
theorem Wq_ref23_in (x_ : Int) (low_ : Int) (high_ : Int) {Q : Bool → Prop} {Q' : V → Heap → Prop} (h : Ok (F_ref23_in x_ low_ high_) Q) (hQ : ∀ z, Q z → Q' (.bool z) []) : ACall Tryz.prog 55 [.int .i64 x_, .int .i64 low_, .int .i64 high_] [] Q' := by
  refine acall_machN [] [] [.t 6] Tryz.func55 rfl (by kernel_rfl) ok_ref23_in (by kernel_rfl) rfl rfl fun M hf => ?_
  clear hf
  unfold F_ref23_in at h
  unfold mc_ref23_in
  (try replace h := tH h)
  refine tB ?_
  repeat' (first
  |(exact hQ _ h)
  |(exact trivial)
  |(exact False.elim h)
  |(have hq := hQ _ h; replace hq := tH hq; exact hq)
  |(refine oblg h ?_; clear h; intro hc h)
  |(refine roomG h ?_; clear h; intro hc h)
  |(refine fork h ?_ ?_ <;> clear h <;> intro hc h)
  |(refine forkS h ?_ ?_ <;> clear h <;> intro hc h)
  |(refine And.intro (chkD_of rfl) ?_)
  |(refine M.gv1 (ms := mg_ref23_in_1) 14 [11, 12, 13] h ?_ ?_ <;> first
   |(clear h; intro K hK1; unfold mg_ref23_in_1; refine tB ?_)
   |(clear h; intro b h; (try replace h := tH h); refine tB ?_)
       | fail)
  |(refine hK1 _ ?_; exact tU; done)
  |(refine bfork (fun hc => ?_) (fun hc => ?_))
  |(refine ⟨_, getE_map (inb_toNat (by assumption)), ?_⟩; (first | rw [M.lok_compU] | rw [M.lokD_compU]); refine tB ?_)
  |(refine And.intro (ltb_of (by assumption)) ?_)
  |(refine And.intro (inb_nat (by assumption)) ?_)
  |(refine And.intro (by omega) ?_)
    | fail)
theorem W_ref23_in : ∀ {x_ : Int} {low_ : Int} {high_ : Int} {y : Bool}, F_ref23_in x_ low_ high_ = some y → ACall Tryz.prog 55 [.int .i64 x_, .int .i64 low_, .int .i64 high_] [] (fun r H => r = .bool y ∧ H = []) :=
  fun hy => Wq_ref23_in _ _ _ (Q := fun z => z = _) ⟨_, hy, rfl⟩ fun z e => by subst e; exact ⟨rfl, rfl⟩
def F_ref23_Exists (d_ : GDirectory) (p_ : Int) : Option Bool :=
  chk (in64 ((d_.Kinds.length : Int) - 1)) ((F_ref23_in p_ 0 ((d_.Kinds.length : Int) - 1)).bind fun y2 => some y2)
def mc_ref23_Exists : MC :=
 (.seq (.reg [⟨.box (.t 0), (some 2), none⟩,
 ⟨.mv (.c (.bool false)), (some 4), none⟩])
 (.seq (.reg [⟨.mv (.t 1), (some 5), none⟩,
 ⟨.fad 0 (.t 2), (some 6), none⟩,
 ⟨.ld none (.t 6), (some 7), none⟩,
 ⟨.len false (.t 7), (some 8), none⟩,
 ⟨.bin true .sub (.t 8) (.c (.int .i64 1)), (some 9), none⟩,
 ⟨.call (.f 55) [(.t 5), (.c (.int .i64 0)), (.t 9)] [] [], (some 10), none⟩,
 ⟨.mv (.t 10), (some 4), none⟩])
 .ret))
theorem ok_ref23_Exists : mc_ref23_Exists.ok Tryz.prog Tryz.f38.ntmps (Tryz.f38.body.getD .skip) = true := by kernel_rfl
set_option maxHeartbeats 2000000 in
theorem Wq_ref23_Exists (d_ : GDirectory) (p_ : Int) {Q : Bool → Prop} {Q' : V → Heap → Prop} (h : Ok (F_ref23_Exists d_ p_) Q) (hQ : ∀ z, Q z → Q' (.bool z) []) : ACall Tryz.prog 38 [GDirectory.v d_, .int .i64 p_] [] Q' := by
  refine acall_machN [] [] [.t 4] Tryz.func38 rfl (by kernel_rfl) ok_ref23_Exists (by kernel_rfl) rfl rfl fun M hf => ?_
  clear hf
  unfold F_ref23_Exists at h
  unfold mc_ref23_Exists
  (try replace h := tH h)
  refine tB ?_
  repeat' (first
  |(exact hQ _ h)
  |(exact trivial)
  |(exact False.elim h)
  |(have hq := hQ _ h; replace hq := tH hq; exact hq)
  |(refine oblg h ?_; clear h; intro hc h)
  |(refine roomG h ?_; clear h; intro hc h)
  |(refine fork h ?_ ?_ <;> clear h <;> intro hc h)
  |(refine forkS h ?_ ?_ <;> clear h <;> intro hc h)
  |(refine And.intro (chkD_of rfl) ?_)
  |(obtain ⟨y, hy, h⟩ := h; have hw := W_ref23_in hy; (try replace hw := tH hw); (first | (refine sCall_of hw rfl rfl ?_; rw [M.lok_eq]) | (refine sCallD_of hw rfl rfl ?_; rw [M.lokD_eq])); clear hw; clear hy; refine tB ?_)
  |(refine ⟨_, getE_map (inb_toNat (by assumption)), ?_⟩; (first | rw [M.lok_compU] | rw [M.lokD_compU]); refine tB ?_)
  |(refine And.intro (ltb_of (by assumption)) ?_)
  |(refine And.intro (inb_nat (by assumption)) ?_)
  |(refine And.intro (by omega) ?_)
    | fail)
theorem W_ref23_Exists : ∀ {d_ : GDirectory} {p_ : Int} {y : Bool}, F_ref23_Exists d_ p_ = some y → ACall Tryz.prog 38 [GDirectory.v d_, .int .i64 p_] [] (fun r H => r = .bool y ∧ H = []) :=
  fun hy => Wq_ref23_Exists _ _ (Q := fun z => z = _) ⟨_, hy, rfl⟩ fun z e => by subst e; exact ⟨rfl, rfl⟩
def F_ref23_Group (d_ : GDirectory) (p_ : Int) : Option Bool :=
  (F_ref23_Exists d_ p_).bind fun y3 => jn (α := Bool) (bif y3 then chk (inb p_ d_.Kinds.length) (some (decide ((d_.Kinds.getD (p_).toNat default) = 2))) else some false) fun j4 => some j4
@[irreducible] def mg_ref23_Group_1 : List MOp := [⟨.fad 0 (.t 2), (some 9), (some (8, true))⟩,
 ⟨.ld none (.t 9), (some 10), (some (8, true))⟩,
 ⟨.mv (.t 1), (some 11), (some (8, true))⟩,
 ⟨.iad 1 (.t 10) (.t 11), (some 12), (some (8, true))⟩,
 ⟨.ld none (.t 12), (some 13), (some (8, true))⟩,
 ⟨.bin false .eql (.t 13) (.c (.int .i64 2)), (some 14), (some (8, true))⟩,
 ⟨.pick (.t 8) (.t 14) (.c (.bool false)), (some 15), none⟩]
def mc_ref23_Group : MC :=
 (.seq (.reg [⟨.box (.t 0), (some 2), none⟩,
 ⟨.mv (.c (.bool false)), (some 4), none⟩])
 (.seq (.regI [.op ⟨.ld (some 2) (.t 2), (some 5), none⟩,
 .op ⟨.mv (.t 1), (some 6), none⟩,
 .op ⟨.call (.f 38) [(.t 5), (.t 6)] [] [], (some 7), none⟩,
 .op ⟨.mv (.t 7), (some 8), none⟩,
 .grp mg_ref23_Group_1,
 .op ⟨.mv (.t 15), (some 4), none⟩])
 .ret))
theorem ok_ref23_Group : mc_ref23_Group.ok Tryz.prog Tryz.f56.ntmps (Tryz.f56.body.getD .skip) = true := by kernel_rfl
set_option maxHeartbeats 2000000 in
theorem Wq_ref23_Group (d_ : GDirectory) (p_ : Int) {Q : Bool → Prop} {Q' : V → Heap → Prop} (h : Ok (F_ref23_Group d_ p_) Q) (hQ : ∀ z, Q z → Q' (.bool z) []) : ACall Tryz.prog 56 [GDirectory.v d_, .int .i64 p_] [] Q' := by
  refine acall_machN [] [] [.t 4] Tryz.func56 rfl (by kernel_rfl) ok_ref23_Group (by kernel_rfl) rfl rfl fun M hf => ?_
  clear hf
  unfold F_ref23_Group at h
  unfold mc_ref23_Group
  (try replace h := tH h)
  refine tB ?_
  repeat' (first
  |(exact hQ _ h)
  |(exact trivial)
  |(exact False.elim h)
  |(have hq := hQ _ h; replace hq := tH hq; exact hq)
  |(refine oblg h ?_; clear h; intro hc h)
  |(refine roomG h ?_; clear h; intro hc h)
  |(refine fork h ?_ ?_ <;> clear h <;> intro hc h)
  |(refine forkS h ?_ ?_ <;> clear h <;> intro hc h)
  |(refine And.intro (chkD_of rfl) ?_)
  |(obtain ⟨y, hy, h⟩ := h; have hw := W_ref23_Exists hy; (try replace hw := tH hw); (first | (refine sCall_of hw rfl rfl ?_; rw [M.lok_eq]) | (refine sCallD_of hw rfl rfl ?_; rw [M.lokD_eq])); clear hw; clear hy; refine tB ?_)
  |(refine M.gj1 (ms := mg_ref23_Group_1) [4] [] (fun y => [(15, .bool y)]) (fun y => []) h ?_ ?_ <;> first
   |(clear h; intro Qn K hK1 h; unfold mg_ref23_Group_1; (try replace h := tH h); refine tB ?_)
   |(clear h; intro y h; (try replace h := tH h); refine tB ?_)
       | fail)
  |(refine hK1 _ ?_; (try refine tB ?_); refine ⟨_, h, ?_⟩; exact tU0; done)
  |(refine ⟨_, getE_map (inb_toNat (by assumption)), ?_⟩; (first | rw [M.lok_compU] | rw [M.lokD_compU]); refine tB ?_)
  |(refine And.intro (ltb_of (by assumption)) ?_)
  |(refine And.intro (inb_nat (by assumption)) ?_)
  |(refine And.intro (by omega) ?_)
    | fail)
theorem W_ref23_Group : ∀ {d_ : GDirectory} {p_ : Int} {y : Bool}, F_ref23_Group d_ p_ = some y → ACall Tryz.prog 56 [GDirectory.v d_, .int .i64 p_] [] (fun r H => r = .bool y ∧ H = []) :=
  fun hy => Wq_ref23_Group _ _ (Q := fun z => z = _) ⟨_, hy, rfl⟩ fun z e => by subst e; exact ⟨rfl, rfl⟩
def F_ref23_Valid_L1 (k39 : Int) (a40 : Int) (x38 : Unit) : Option (Fl Unit Bool) :=
  (F_ref23_in a40 1 3).bind fun y48 => bif (!y48) then some (.ex false) else some (.nx ())
def F_ref23_Valid_L2 (d_ : GDirectory) (k205 : Int) (a206 : GMember) (x204 : Unit) : Option (Fl Unit Bool) :=
  (F_ref23_in a206.Kind 1 2).bind fun y249 => bif (!y249) then some (.ex false) else (F_ref23_in a206.Time 0 1099511627776).bind fun y250 => bif (!y250) then some (.ex false) else bif decide (0 < k205) then chk (in64 (k205 - 1)) (chk (inb (k205 - 1) d_.Events.length) (bif decide (a206.Time < (d_.Events.getD ((k205 - 1)).toNat default).Time) then some (.ex false) else (F_ref23_Exists d_ a206.Principal).bind fun y251 => bif (!y251) then some (.ex false) else (F_ref23_Group d_ a206.Group).bind fun y252 => bif (!y252) then some (.ex false) else bif decide (a206.Principal = a206.Group) then some (.ex false) else some (.nx ()))) else (F_ref23_Exists d_ a206.Principal).bind fun y253 => bif (!y253) then some (.ex false) else (F_ref23_Group d_ a206.Group).bind fun y254 => bif (!y254) then some (.ex false) else bif decide (a206.Principal = a206.Group) then some (.ex false) else some (.nx ())
def F_ref23_Valid (d_ : GDirectory) : Option Bool :=
  grp ((decide (24 < (d_.Kinds.length : Int)) || decide (120 < (d_.Events.length : Int)))) fun b4 => bif b4 then some false else (forL F_ref23_Valid_L1 d_.Kinds 0 ()).bind fun o => o.elim (fun x49 => (forL (F_ref23_Valid_L2 d_) d_.Events 0 ()).bind fun o => o.elim (fun x255 => some true) (fun r256 => some r256)) (fun r50 => some r50)
@[irreducible] def mg_ref23_Valid_1 : List MOp := [⟨.fad 1 (.t 1), (some 12), (some (11, false))⟩,
 ⟨.ld none (.t 12), (some 13), (some (11, false))⟩,
 ⟨.len false (.t 13), (some 14), (some (11, false))⟩,
 ⟨.bin false .gtr (.t 14) (.c (.int .i64 120)), (some 15), (some (11, false))⟩,
 ⟨.pick (.t 11) (.c (.bool true)) (.t 15), (some 16), none⟩]
@[irreducible] def mc_ref23_Valid_L1 : MC :=
 (.seq (.reg [⟨.bin false .lss (.t 20) (.t 19), (some 21), none⟩])
 (.seq (.cond (.t 21)
 .skip
 (.exit 0))
 (.seq (.block 1
 (.seq (.reg [⟨.iad 1 (.t 18) (.t 20), (some 22), none⟩,
 ⟨.ld none (.t 22), (some 23), none⟩,
 ⟨.mv (.t 23), (some 4), none⟩])
 (.seq (.reg [⟨.mv (.t 4), (some 24), none⟩,
 ⟨.call (.f 55) [(.t 24), (.c (.int .i64 1)), (.c (.int .i64 3))] [] [], (some 25), none⟩,
 ⟨.not (.t 25), (some 26), none⟩])
 (.cond (.t 26)
 (.seq (.reg [⟨.mv (.c (.bool false)), (some 2), none⟩])
 .ret)
 .skip))))
 (.reg [⟨.bin true .add (.t 20) (.c (.int .i64 1)), (some 27), none⟩,
 ⟨.mv (.t 27), (some 20), none⟩]))))
@[irreducible] def mc_ref23_Valid_L2 : MC :=
 (.seq (.reg [⟨.bin false .lss (.t 31) (.t 30), (some 32), none⟩])
 (.seq (.cond (.t 32)
 .skip
 (.exit 2))
 (.seq (.block 3
 (.seq (.reg [⟨.mv (.t 31), (some 33), none⟩,
 ⟨.iad 4 (.t 29) (.t 31), (some 34), none⟩,
 ⟨.ld (some 4) (.t 34), (some 35), none⟩,
 ⟨.alloc [(.int .i64 0), (.int .i64 0), (.int .i64 0), (.int .i64 0)], (some 6), none⟩,
 ⟨.mv (.t 33), (some 5), none⟩,
 ⟨.st 4 (.t 6) (.t 35), none, none⟩])
 (.seq (.regD [⟨.fad 1 (.t 6), (some 36), none⟩,
 ⟨.ld none (.t 36), (some 37), none⟩,
 ⟨.call (.f 55) [(.t 37), (.c (.int .i64 1)), (.c (.int .i64 2))] [] [], (some 38), none⟩,
 ⟨.not (.t 38), (some 39), none⟩,
 ⟨.mv (.t 39), (some 40), none⟩,
 ⟨.fad 0 (.t 6), (some 41), (some (40, false))⟩,
 ⟨.ld none (.t 41), (some 42), (some (40, false))⟩,
 ⟨.call (.f 55) [(.t 42), (.c (.int .i64 0)), (.c (.int .i64 1099511627776))] [] [], (some 43), (some (40, false))⟩,
 ⟨.not (.t 43), (some 44), (some (40, false))⟩,
 ⟨.pick (.t 40) (.c (.bool true)) (.t 44), (some 45), none⟩,
 ⟨.mv (.t 45), (some 46), none⟩,
 ⟨.mv (.t 5), (some 47), (some (46, false))⟩,
 ⟨.bin false .gtr (.t 47) (.c (.int .i64 0)), (some 48), (some (46, false))⟩,
 ⟨.mv (.t 48), (some 49), (some (46, false))⟩,
 ⟨.fad 0 (.t 6), (some 50), (some (49, true))⟩,
 ⟨.ld none (.t 50), (some 51), (some (49, true))⟩,
 ⟨.fad 1 (.t 1), (some 52), (some (49, true))⟩,
 ⟨.ld none (.t 52), (some 53), (some (49, true))⟩,
 ⟨.mv (.t 5), (some 54), (some (49, true))⟩,
 ⟨.bin true .sub (.t 54) (.c (.int .i64 1)), (some 55), (some (49, true))⟩,
 ⟨.iad 4 (.t 53) (.t 55), (some 56), (some (49, true))⟩,
 ⟨.fad 0 (.t 56), (some 57), (some (49, true))⟩,
 ⟨.ld none (.t 57), (some 58), (some (49, true))⟩,
 ⟨.bin false .lss (.t 51) (.t 58), (some 59), (some (49, true))⟩,
 ⟨.pick (.t 49) (.t 59) (.c (.bool false)), (some 60), (some (46, false))⟩,
 ⟨.pick (.t 46) (.c (.bool true)) (.t 60), (some 61), none⟩,
 ⟨.mv (.t 61), (some 62), none⟩,
 ⟨.ld (some 2) (.t 1), (some 63), (some (62, false))⟩,
 ⟨.fad 2 (.t 6), (some 64), (some (62, false))⟩,
 ⟨.ld none (.t 64), (some 65), (some (62, false))⟩,
 ⟨.call (.f 38) [(.t 63), (.t 65)] [] [], (some 66), (some (62, false))⟩,
 ⟨.not (.t 66), (some 67), (some (62, false))⟩,
 ⟨.pick (.t 62) (.c (.bool true)) (.t 67), (some 68), none⟩,
 ⟨.mv (.t 68), (some 69), none⟩,
 ⟨.ld (some 2) (.t 1), (some 70), (some (69, false))⟩,
 ⟨.fad 3 (.t 6), (some 71), (some (69, false))⟩,
 ⟨.ld none (.t 71), (some 72), (some (69, false))⟩,
 ⟨.call (.f 56) [(.t 70), (.t 72)] [] [], (some 73), (some (69, false))⟩,
 ⟨.not (.t 73), (some 74), (some (69, false))⟩,
 ⟨.pick (.t 69) (.c (.bool true)) (.t 74), (some 75), none⟩,
 ⟨.mv (.t 75), (some 76), none⟩,
 ⟨.fad 2 (.t 6), (some 77), (some (76, false))⟩,
 ⟨.ld none (.t 77), (some 78), (some (76, false))⟩,
 ⟨.fad 3 (.t 6), (some 79), (some (76, false))⟩,
 ⟨.ld none (.t 79), (some 80), (some (76, false))⟩,
 ⟨.bin false .eql (.t 78) (.t 80), (some 81), (some (76, false))⟩,
 ⟨.pick (.t 76) (.c (.bool true)) (.t 81), (some 82), none⟩]
    [[], [0], [1], [2], [3, 2], [4], [5, 4], [6, 4, 4], [7, 4], [4, 8], [9, 7], [10], [11, 10], [12, 10, 10], [13], [14, 13], [13], [16, 13], [13], [18, 13], [17, 19, 13], [20, 13], [21, 13], [15, 22, 13], [13, 23, 10], [10, 24], [25, 13], [26], [26], [28, 26], [27, 29, 26, 26], [30, 26], [26, 31], [32, 30], [33], [33], [35, 33], [34, 36, 33, 33], [37, 33], [33, 38], [39, 37], [40], [41, 40], [40], [43, 40], [42, 44, 40], [40, 45]]
    [[], [0], [0, 1], [0, 1, 2], [0, 1, 2, 3], [0, 1, 2, 3, 4], [0, 1, 2, 3, 4, 5], [0, 1, 2, 3, 4, 5, 6], [0, 1, 2, 3, 4, 5, 6, 7], [0, 1, 2, 3, 4, 5, 6, 7, 8], [0, 1, 2, 3, 4, 5, 6, 7, 8, 9], [0, 1, 2, 3, 4, 5, 6, 7, 8, 9, 10], [0, 1, 2, 3, 4, 5, 6, 7, 8, 9, 10, 11], [0, 1, 2, 3, 4, 5, 6, 7, 8, 9, 10, 11, 12], [0, 1, 2, 3, 4, 5, 6, 7, 8, 9, 10, 11, 12, 13], [0, 1, 2, 3, 4, 5, 6, 7, 8, 9, 10, 11, 12, 13, 14], [0, 1, 2, 3, 4, 5, 6, 7, 8, 9, 10, 11, 12, 13], [0, 1, 2, 3, 4, 5, 6, 7, 8, 9, 10, 11, 12, 13, 16], [0, 1, 2, 3, 4, 5, 6, 7, 8, 9, 10, 11, 12, 13], [0, 1, 2, 3, 4, 5, 6, 7, 8, 9, 10, 11, 12, 13, 18], [0, 1, 2, 3, 4, 5, 6, 7, 8, 9, 10, 11, 12, 13, 16, 17, 18, 19], [0, 1, 2, 3, 4, 5, 6, 7, 8, 9, 10, 11, 12, 13, 16, 17, 18, 19, 20], [0, 1, 2, 3, 4, 5, 6, 7, 8, 9, 10, 11, 12, 13, 16, 17, 18, 19, 20, 21], [0, 1, 2, 3, 4, 5, 6, 7, 8, 9, 10, 11, 12, 13, 14, 15, 16, 17, 18, 19, 20, 21, 22], [0, 1, 2, 3, 4, 5, 6, 7, 8, 9, 10, 11, 12, 13, 14, 15, 16, 17, 18, 19, 20, 21, 22, 23], [0, 1, 2, 3, 4, 5, 6, 7, 8, 9, 10, 11, 12, 13, 14, 15, 16, 17, 18, 19, 20, 21, 22, 23, 24], [0, 1, 2, 3, 4, 5, 6, 7, 8, 9, 10, 11, 12, 13, 14, 15, 16, 17, 18, 19, 20, 21, 22, 23, 24, 25], [0, 1, 2, 3, 4, 5, 6, 7, 8, 9, 10, 11, 12, 13, 14, 15, 16, 17, 18, 19, 20, 21, 22, 23, 24, 25, 26], [0, 1, 2, 3, 4, 5, 6, 7, 8, 9, 10, 11, 12, 13, 14, 15, 16, 17, 18, 19, 20, 21, 22, 23, 24, 25, 26], [0, 1, 2, 3, 4, 5, 6, 7, 8, 9, 10, 11, 12, 13, 14, 15, 16, 17, 18, 19, 20, 21, 22, 23, 24, 25, 26, 28], [0, 1, 2, 3, 4, 5, 6, 7, 8, 9, 10, 11, 12, 13, 14, 15, 16, 17, 18, 19, 20, 21, 22, 23, 24, 25, 26, 27, 28, 29], [0, 1, 2, 3, 4, 5, 6, 7, 8, 9, 10, 11, 12, 13, 14, 15, 16, 17, 18, 19, 20, 21, 22, 23, 24, 25, 26, 27, 28, 29, 30], [0, 1, 2, 3, 4, 5, 6, 7, 8, 9, 10, 11, 12, 13, 14, 15, 16, 17, 18, 19, 20, 21, 22, 23, 24, 25, 26, 27, 28, 29, 30, 31], [0, 1, 2, 3, 4, 5, 6, 7, 8, 9, 10, 11, 12, 13, 14, 15, 16, 17, 18, 19, 20, 21, 22, 23, 24, 25, 26, 27, 28, 29, 30, 31, 32], [0, 1, 2, 3, 4, 5, 6, 7, 8, 9, 10, 11, 12, 13, 14, 15, 16, 17, 18, 19, 20, 21, 22, 23, 24, 25, 26, 27, 28, 29, 30, 31, 32, 33], [0, 1, 2, 3, 4, 5, 6, 7, 8, 9, 10, 11, 12, 13, 14, 15, 16, 17, 18, 19, 20, 21, 22, 23, 24, 25, 26, 27, 28, 29, 30, 31, 32, 33], [0, 1, 2, 3, 4, 5, 6, 7, 8, 9, 10, 11, 12, 13, 14, 15, 16, 17, 18, 19, 20, 21, 22, 23, 24, 25, 26, 27, 28, 29, 30, 31, 32, 33, 35], [0, 1, 2, 3, 4, 5, 6, 7, 8, 9, 10, 11, 12, 13, 14, 15, 16, 17, 18, 19, 20, 21, 22, 23, 24, 25, 26, 27, 28, 29, 30, 31, 32, 33, 34, 35, 36], [0, 1, 2, 3, 4, 5, 6, 7, 8, 9, 10, 11, 12, 13, 14, 15, 16, 17, 18, 19, 20, 21, 22, 23, 24, 25, 26, 27, 28, 29, 30, 31, 32, 33, 34, 35, 36, 37], [0, 1, 2, 3, 4, 5, 6, 7, 8, 9, 10, 11, 12, 13, 14, 15, 16, 17, 18, 19, 20, 21, 22, 23, 24, 25, 26, 27, 28, 29, 30, 31, 32, 33, 34, 35, 36, 37, 38], [0, 1, 2, 3, 4, 5, 6, 7, 8, 9, 10, 11, 12, 13, 14, 15, 16, 17, 18, 19, 20, 21, 22, 23, 24, 25, 26, 27, 28, 29, 30, 31, 32, 33, 34, 35, 36, 37, 38, 39], [0, 1, 2, 3, 4, 5, 6, 7, 8, 9, 10, 11, 12, 13, 14, 15, 16, 17, 18, 19, 20, 21, 22, 23, 24, 25, 26, 27, 28, 29, 30, 31, 32, 33, 34, 35, 36, 37, 38, 39, 40], [0, 1, 2, 3, 4, 5, 6, 7, 8, 9, 10, 11, 12, 13, 14, 15, 16, 17, 18, 19, 20, 21, 22, 23, 24, 25, 26, 27, 28, 29, 30, 31, 32, 33, 34, 35, 36, 37, 38, 39, 40, 41], [0, 1, 2, 3, 4, 5, 6, 7, 8, 9, 10, 11, 12, 13, 14, 15, 16, 17, 18, 19, 20, 21, 22, 23, 24, 25, 26, 27, 28, 29, 30, 31, 32, 33, 34, 35, 36, 37, 38, 39, 40], [0, 1, 2, 3, 4, 5, 6, 7, 8, 9, 10, 11, 12, 13, 14, 15, 16, 17, 18, 19, 20, 21, 22, 23, 24, 25, 26, 27, 28, 29, 30, 31, 32, 33, 34, 35, 36, 37, 38, 39, 40, 43], [0, 1, 2, 3, 4, 5, 6, 7, 8, 9, 10, 11, 12, 13, 14, 15, 16, 17, 18, 19, 20, 21, 22, 23, 24, 25, 26, 27, 28, 29, 30, 31, 32, 33, 34, 35, 36, 37, 38, 39, 40, 41, 42, 43, 44], [0, 1, 2, 3, 4, 5, 6, 7, 8, 9, 10, 11, 12, 13, 14, 15, 16, 17, 18, 19, 20, 21, 22, 23, 24, 25, 26, 27, 28, 29, 30, 31, 32, 33, 34, 35, 36, 37, 38, 39, 40, 41, 42, 43, 44, 45]])
 (.cond (.t 82)
 (.seq (.reg [⟨.mv (.c (.bool false)), (some 2), none⟩])
 .ret)
 .skip))))
 (.reg [⟨.bin true .add (.t 31) (.c (.int .i64 1)), (some 83), none⟩,
 ⟨.mv (.t 83), (some 31), none⟩]))))
def mc_ref23_Valid : MC :=
 (.seq (.reg [⟨.box (.t 0), (some 1), none⟩,
 ⟨.mv (.c (.bool false)), (some 2), none⟩])
 (.seq (.seq (.regI [.op ⟨.fad 0 (.t 1), (some 7), none⟩,
 .op ⟨.ld none (.t 7), (some 8), none⟩,
 .op ⟨.len false (.t 8), (some 9), none⟩,
 .op ⟨.bin false .gtr (.t 9) (.c (.int .i64 24)), (some 10), none⟩,
 .op ⟨.mv (.t 10), (some 11), none⟩,
 .grp mg_ref23_Valid_1])
 (.cond (.t 16)
 (.seq (.reg [⟨.mv (.c (.bool false)), (some 2), none⟩])
 .ret)
 .skip))
 (.seq (.seq (.note (.gc [1, 41, 42, 43, 44, 47, 48, 49, 50, 51, 52, 53, 54, 55, 56, 57, 58, 59, 60, 63, 64, 65, 66, 67, 70, 71, 72, 73, 74, 77, 78, 79, 80, 81]) (.reg [⟨.fad 0 (.t 1), (some 17), none⟩,
 ⟨.ld none (.t 17), (some 18), none⟩,
 ⟨.len false (.t 18), (some 19), none⟩,
 ⟨.mv (.c (.int .i64 0)), (some 20), none⟩]))
 (.block 0
 (.loop mc_ref23_Valid_L1)))
 (.seq (.seq (.reg [⟨.fad 1 (.t 1), (some 28), none⟩,
 ⟨.ld none (.t 28), (some 29), none⟩,
 ⟨.len false (.t 29), (some 30), none⟩,
 ⟨.mv (.c (.int .i64 0)), (some 31), none⟩])
 (.block 2
 (.loop mc_ref23_Valid_L2)))
 (.seq (.reg [⟨.mv (.c (.bool true)), (some 2), none⟩])
 .ret)))))
theorem ok_ref23_Valid : mc_ref23_Valid.ok Tryz.prog Tryz.f33.ntmps (Tryz.f33.body.getD .skip) = true := by kernel_rfl
set_option maxHeartbeats 2000000 in
theorem Wq_ref23_Valid (d_ : GDirectory) {Q : Bool → Prop} {Q' : V → Heap → Prop} (h : Ok (F_ref23_Valid d_) Q) (hQ : ∀ z, Q z → Q' (.bool z) []) : ACall Tryz.prog 33 [GDirectory.v d_] [] Q' := by
  refine acall_machN [] [] [.t 2] Tryz.func33 rfl (by kernel_rfl) ok_ref23_Valid (by kernel_rfl) rfl rfl fun M hf => ?_
  clear hf
  unfold F_ref23_Valid at h
  unfold mc_ref23_Valid
  (try replace h := tH h)
  refine tB ?_
  repeat' (first
  |(exact hQ _ h)
  |(exact trivial)
  |(exact False.elim h)
  |(have hq := hQ _ h; replace hq := tH hq; exact hq)
  |(refine oblg h ?_; clear h; intro hc h)
  |(refine roomG h ?_; clear h; intro hc h)
  |(refine fork h ?_ ?_ <;> clear h <;> intro hc h)
  |(refine forkS h ?_ ?_ <;> clear h <;> intro hc h)
  |(refine And.intro (chkD_of rfl) ?_)
  |(obtain ⟨y, hy, h⟩ := h; (first | with_reducible first | have hw := W_ref23_in hy | have hw := W_ref23_Exists hy | have hw := W_ref23_Group hy); (try replace hw := tH hw); (first | (refine sCall_of hw rfl rfl ?_; rw [M.lok_eq]) | (refine sCallD_of hw rfl rfl ?_; rw [M.lokD_eq])); clear hw; clear hy; refine tB ?_)
  |(refine M.for1 (b := mc_ref23_Valid_L1) 20 [1, 18, 19] [1] (fun x => []) (fun x => []) [] h ?_ ?_ ?_ <;> first
   |(clear h; intro k a x Qn K hK1 hkN1 ha1 h hf; have hl := fact_int (factsE_find (n := 19) hf.1 rfl); clear hf; have hkd := kD hkN1; have hkB1 := kB hkN1; have hkI1 : in64 ((k : Int) + 1) = true := in64_iff.2 ⟨by omega, by (try simp only [List.length_cons, List.length_nil] at hkN1); omega⟩; unfold F_ref23_Valid_L1 at h; unfold mc_ref23_Valid_L1; (try replace h := tH h); refine tK ha1 hkd hkN1 hkB1 hkI1 ?_)
   |(clear h; intro x K h; replace h := And.left (And.intro h trivial); unfold mc_ref23_Valid_L1; (try replace h := tH h); refine tB ?_)
   |(clear h; (try refine tB ?_); exact tU0; done)
       | fail)
  |(refine M.for1 (b := mc_ref23_Valid_L2) 31 [1, 29, 30] [1] (fun x => []) (fun x => []) [] h ?_ ?_ ?_ <;> first
   |(clear h; intro k a x Qn K hK2 hkN2 ha2 h hf; have hl := fact_int (factsE_find (n := 30) hf.1 rfl); clear hf; have hkd := kD hkN2; have hkB2 := kB hkN2; have hkI2 : in64 ((k : Int) + 1) = true := in64_iff.2 ⟨by omega, by (try simp only [List.length_cons, List.length_nil] at hkN2); omega⟩; unfold F_ref23_Valid_L2 at h; unfold mc_ref23_Valid_L2; (try replace h := tH h); refine tK ha2 hkd hkN2 hkB2 hkI2 ?_)
   |(clear h; intro x K h; replace h := And.left (And.intro h trivial); unfold mc_ref23_Valid_L2; (try replace h := tH h); refine tB ?_)
   |(clear h; (try refine tB ?_); exact tU0; done)
       | fail)
  |(refine M.gv1 (ms := mg_ref23_Valid_1) 16 [12, 13, 14, 15] h ?_ ?_ <;> first
   |(clear h; intro K hK3; unfold mg_ref23_Valid_1; refine tB ?_)
   |(clear h; intro b h; (try replace h := tH h); refine tB ?_)
       | fail)
  |(refine And.intro (by first | exact hkI1 | exact hkN1 | exact hkB1 | exact hkI2 | exact hkN2 | exact hkB2) ?_)
  |(first | simp only [ha1] | simp only [ha2])
  |((first | refine hK1 _ ?_ | refine hK2 _ ?_); (try refine tB ?_); refine ⟨_, h, ?_⟩; exact tU0; done)
  |(refine hK3 _ ?_; exact tU; done)
  |(refine bfork (fun hc => ?_) (fun hc => ?_))
  |(refine ⟨_, getE_map (inb_toNat (by assumption)), ?_⟩; (first | rw [M.lok_compU] | rw [M.lokD_compU]); refine tB ?_)
  |(refine And.intro (ltb_of (by assumption)) ?_)
  |(refine And.intro (inb_nat (by assumption)) ?_)
  |(refine And.intro (by omega) ?_)
    | fail)
theorem W_ref23_Valid : ∀ {d_ : GDirectory} {y : Bool}, F_ref23_Valid d_ = some y → ACall Tryz.prog 33 [GDirectory.v d_] [] (fun r H => r = .bool y ∧ H = []) :=
  fun hy => Wq_ref23_Valid _ (Q := fun z => z = _) ⟨_, hy, rfl⟩ fun z e => by subst e; exact ⟨rfl, rfl⟩
def F_ref27_in (x_ : Int) (low_ : Int) (high_ : Int) : Option Bool :=
  grp ((decide (low_ ≤ x_) && decide (x_ ≤ high_))) fun b2 => some b2
@[irreducible] def mg_ref27_in_1 : List MOp := [⟨.mv (.t 0), (some 11), (some (10, true))⟩,
 ⟨.mv (.t 2), (some 12), (some (10, true))⟩,
 ⟨.bin false .leq (.t 11) (.t 12), (some 13), (some (10, true))⟩,
 ⟨.pick (.t 10) (.t 13) (.c (.bool false)), (some 14), none⟩]
def mc_ref27_in : MC :=
 (.seq (.reg [⟨.mv (.c (.bool false)), (some 6), none⟩])
 (.seq (.regI [.op ⟨.mv (.t 0), (some 7), none⟩,
 .op ⟨.mv (.t 1), (some 8), none⟩,
 .op ⟨.bin false .geq (.t 7) (.t 8), (some 9), none⟩,
 .op ⟨.mv (.t 9), (some 10), none⟩,
 .grp mg_ref27_in_1,
 .op ⟨.mv (.t 14), (some 6), none⟩])
 .ret))
theorem ok_ref27_in : mc_ref27_in.ok Tryz.prog Tryz.f54.ntmps (Tryz.f54.body.getD .skip) = true := by kernel_rfl
set_option maxHeartbeats 2000000 in
theorem Wq_ref27_in (x_ : Int) (low_ : Int) (high_ : Int) {Q : Bool → Prop} {Q' : V → Heap → Prop} (h : Ok (F_ref27_in x_ low_ high_) Q) (hQ : ∀ z, Q z → Q' (.bool z) []) : ACall Tryz.prog 54 [.int .i64 x_, .int .i64 low_, .int .i64 high_] [] Q' := by
  refine acall_machN [] [] [.t 6] Tryz.func54 rfl (by kernel_rfl) ok_ref27_in (by kernel_rfl) rfl rfl fun M hf => ?_
  clear hf
  unfold F_ref27_in at h
  unfold mc_ref27_in
  (try replace h := tH h)
  refine tB ?_
  repeat' (first
  |(exact hQ _ h)
  |(exact trivial)
  |(exact False.elim h)
  |(have hq := hQ _ h; replace hq := tH hq; exact hq)
  |(refine oblg h ?_; clear h; intro hc h)
  |(refine roomG h ?_; clear h; intro hc h)
  |(refine fork h ?_ ?_ <;> clear h <;> intro hc h)
  |(refine forkS h ?_ ?_ <;> clear h <;> intro hc h)
  |(refine And.intro (chkD_of rfl) ?_)
  |(refine M.gv1 (ms := mg_ref27_in_1) 14 [11, 12, 13] h ?_ ?_ <;> first
   |(clear h; intro K hK1; unfold mg_ref27_in_1; refine tB ?_)
   |(clear h; intro b h; (try replace h := tH h); refine tB ?_)
       | fail)
  |(refine hK1 _ ?_; exact tU; done)
  |(refine bfork (fun hc => ?_) (fun hc => ?_))
  |(refine ⟨_, getE_map (inb_toNat (by assumption)), ?_⟩; (first | rw [M.lok_compU] | rw [M.lokD_compU]); refine tB ?_)
  |(refine And.intro (ltb_of (by assumption)) ?_)
  |(refine And.intro (inb_nat (by assumption)) ?_)
  |(refine And.intro (by omega) ?_)
    | fail)
theorem W_ref27_in : ∀ {x_ : Int} {low_ : Int} {high_ : Int} {y : Bool}, F_ref27_in x_ low_ high_ = some y → ACall Tryz.prog 54 [.int .i64 x_, .int .i64 low_, .int .i64 high_] [] (fun r H => r = .bool y ∧ H = []) :=
  fun hy => Wq_ref27_in _ _ _ (Q := fun z => z = _) ⟨_, hy, rfl⟩ fun z e => by subst e; exact ⟨rfl, rfl⟩
def F_ref27_event (a_ : GEstate) (x_ : GAccess) : Option Bool :=
  (F_ref27_in x_.Time 0 1099511627776).bind fun y7 => bif (!y7) then some false else chk (in64 (a_.Places - 1)) ((F_ref27_in x_.Place 0 (a_.Places - 1)).bind fun y8 => bif (!y8) then some false else jn (α := Bool) (bif decide (x_.Kind = 1) then some true else some (decide (x_.Kind = 2))) fun j35 => bif j35 then jn (α := Bool) (bif (decide (x_.Time = x_.Time) && (decide (x_.Kind = x_.Kind) && (decide (x_.Place = x_.Place) && (decide (x_.Principal = x_.Principal) && (decide (x_.Until = 0) && (decide (x_.Content = 0) && decide (x_.From = 0))))))) then (F_ref27_in x_.Principal 0 23).bind fun y40 => some y40 else some false) fun j41 => some j41 else bif decide (x_.Kind = 3) then grp (((decide (x_.Time = x_.Time) && (decide (x_.Kind = x_.Kind) && (decide (x_.Place = x_.Place) && (decide (x_.Principal = 0) && (decide (x_.Until = x_.Until) && (decide (x_.Content = 0) && decide (x_.From = 0))))))) && decide (x_.Time < x_.Until))) fun b44 => grp ((b44 && decide (x_.Until ≤ 1099511627776))) fun b45 => some b45 else bif decide (x_.Kind = 4) then some (decide (x_.Time = x_.Time) && (decide (x_.Kind = x_.Kind) && (decide (x_.Place = x_.Place) && (decide (x_.Principal = 0) && (decide (x_.Until = 0) && (decide (x_.Content = 0) && decide (x_.From = 0))))))) else jn (α := Bool) (bif decide (x_.Kind = 5) then some true else some (decide (x_.Kind = 6))) fun j46 => bif j46 then jn (α := Bool) (bif (decide (x_.Time = x_.Time) && (decide (x_.Kind = x_.Kind) && (decide (x_.Place = x_.Place) && (decide (x_.Principal = 0) && (decide (x_.Until = 0) && (decide (x_.Content = x_.Content) && decide (x_.From = 0))))))) then (F_ref27_in x_.Content 0 63).bind fun y51 => some y51 else some false) fun j52 => some j52 else bif decide (x_.Kind = 7) then jn (α := Bool) (bif (decide (x_.Time = x_.Time) && (decide (x_.Kind = x_.Kind) && (decide (x_.Place = x_.Place) && (decide (x_.Principal = 0) && (decide (x_.Until = 0) && (decide (x_.Content = 0) && decide (x_.From = x_.From))))))) then chk (in64 (a_.Places - 1)) ((F_ref27_in x_.From 0 (a_.Places - 1)).bind fun y58 => some y58) else some false) fun j59 => grp ((j59 && (!decide (x_.From = x_.Place)))) fun b60 => some b60 else some false)
@[irreducible] def mg_ref27_event_1 : List MOp := [⟨.fad 3 (.t 3), (some 38), (some (37, true))⟩,
 ⟨.ld none (.t 38), (some 39), (some (37, true))⟩,
 ⟨.call (.f 54) [(.t 39), (.c (.int .i64 0)), (.c (.int .i64 23))] [] [], (some 40), (some (37, true))⟩,
 ⟨.pick (.t 37) (.t 40) (.c (.bool false)), (some 41), none⟩]
@[irreducible] def mg_ref27_event_2 : List MOp := [⟨.fad 4 (.t 3), (some 51), (some (50, true))⟩,
 ⟨.ld none (.t 51), (some 52), (some (50, true))⟩,
 ⟨.fad 0 (.t 3), (some 53), (some (50, true))⟩,
 ⟨.ld none (.t 53), (some 54), (some (50, true))⟩,
 ⟨.bin false .gtr (.t 52) (.t 54), (some 55), (some (50, true))⟩,
 ⟨.pick (.t 50) (.t 55) (.c (.bool false)), (some 56), none⟩]
@[irreducible] def mg_ref27_event_3 : List MOp := [⟨.fad 4 (.t 3), (some 58), (some (57, true))⟩,
 ⟨.ld none (.t 58), (some 59), (some (57, true))⟩,
 ⟨.bin false .leq (.t 59) (.c (.int .i64 1099511627776)), (some 60), (some (57, true))⟩,
 ⟨.pick (.t 57) (.t 60) (.c (.bool false)), (some 61), none⟩]
@[irreducible] def mg_ref27_event_4 : List MOp := [⟨.fad 5 (.t 3), (some 77), (some (76, true))⟩,
 ⟨.ld none (.t 77), (some 78), (some (76, true))⟩,
 ⟨.call (.f 54) [(.t 78), (.c (.int .i64 0)), (.c (.int .i64 63))] [] [], (some 79), (some (76, true))⟩,
 ⟨.pick (.t 76) (.t 79) (.c (.bool false)), (some 80), none⟩]
@[irreducible] def mg_ref27_event_5 : List MOp := [⟨.fad 6 (.t 3), (some 90), (some (89, true))⟩,
 ⟨.ld none (.t 90), (some 91), (some (89, true))⟩,
 ⟨.fad 0 (.t 2), (some 92), (some (89, true))⟩,
 ⟨.ld none (.t 92), (some 93), (some (89, true))⟩,
 ⟨.bin true .sub (.t 93) (.c (.int .i64 1)), (some 94), (some (89, true))⟩,
 ⟨.call (.f 54) [(.t 91), (.c (.int .i64 0)), (.t 94)] [] [], (some 95), (some (89, true))⟩,
 ⟨.pick (.t 89) (.t 95) (.c (.bool false)), (some 96), none⟩]
@[irreducible] def mg_ref27_event_6 : List MOp := [⟨.fad 6 (.t 3), (some 98), (some (97, true))⟩,
 ⟨.ld none (.t 98), (some 99), (some (97, true))⟩,
 ⟨.fad 2 (.t 3), (some 100), (some (97, true))⟩,
 ⟨.ld none (.t 100), (some 101), (some (97, true))⟩,
 ⟨.bin false .neq (.t 99) (.t 101), (some 102), (some (97, true))⟩,
 ⟨.pick (.t 97) (.t 102) (.c (.bool false)), (some 103), none⟩]
@[irreducible] def mc_ref27_event_J1 : MC :=
 (.cond (.t 67)
 (.seq (.reg [⟨.fad 5 (.t 3), (some 70), none⟩,
 ⟨.ld none (.t 70), (some 71), none⟩,
 ⟨.fad 5 (.t 5), (some 72), none⟩,
 ⟨.st 1 (.t 72) (.t 71), none, none⟩])
 (.seq (.regI [.op ⟨.ld (some 7) (.t 3), (some 73), none⟩,
 .op ⟨.ld (some 7) (.t 5), (some 74), none⟩,
 .op ⟨.eqs false [0, 0, 0, 0, 0, 0, 0] (.t 73) (.t 74), (some 75), none⟩,
 .op ⟨.mv (.t 75), (some 76), none⟩,
 .grp mg_ref27_event_4,
 .op ⟨.mv (.t 80), (some 4), none⟩])
 .ret))
 (.seq (.reg [⟨.bin false .eql (.t 27) (.c (.int .i64 7)), (some 82), none⟩,
 ⟨.mv (.t 82), (some 81), none⟩])
 (.cond (.t 81)
 (.seq (.reg [⟨.fad 6 (.t 3), (some 83), none⟩,
 ⟨.ld none (.t 83), (some 84), none⟩,
 ⟨.fad 6 (.t 5), (some 85), none⟩,
 ⟨.st 1 (.t 85) (.t 84), none, none⟩])
 (.seq (.regI [.op ⟨.ld (some 7) (.t 3), (some 86), none⟩,
 .op ⟨.ld (some 7) (.t 5), (some 87), none⟩,
 .op ⟨.eqs false [0, 0, 0, 0, 0, 0, 0] (.t 86) (.t 87), (some 88), none⟩,
 .op ⟨.mv (.t 88), (some 89), none⟩,
 .grp mg_ref27_event_5,
 .op ⟨.mv (.t 96), (some 97), none⟩,
 .grp mg_ref27_event_6,
 .op ⟨.mv (.t 103), (some 4), none⟩])
 .ret))
 .skip)))
@[irreducible] def mc_ref27_event_J2 : MC :=
 (.cond (.t 28)
 (.seq (.reg [⟨.fad 3 (.t 3), (some 31), none⟩,
 ⟨.ld none (.t 31), (some 32), none⟩,
 ⟨.fad 3 (.t 5), (some 33), none⟩,
 ⟨.st 1 (.t 33) (.t 32), none, none⟩])
 (.seq (.regI [.op ⟨.ld (some 7) (.t 3), (some 34), none⟩,
 .op ⟨.ld (some 7) (.t 5), (some 35), none⟩,
 .op ⟨.eqs false [0, 0, 0, 0, 0, 0, 0] (.t 34) (.t 35), (some 36), none⟩,
 .op ⟨.mv (.t 36), (some 37), none⟩,
 .grp mg_ref27_event_1,
 .op ⟨.mv (.t 41), (some 4), none⟩])
 .ret))
 (.seq (.reg [⟨.bin false .eql (.t 27) (.c (.int .i64 3)), (some 43), none⟩,
 ⟨.mv (.t 43), (some 42), none⟩])
 (.cond (.t 42)
 (.seq (.reg [⟨.fad 4 (.t 3), (some 44), none⟩,
 ⟨.ld none (.t 44), (some 45), none⟩,
 ⟨.fad 4 (.t 5), (some 46), none⟩,
 ⟨.st 1 (.t 46) (.t 45), none, none⟩])
 (.seq (.note (.gc [3, 5, 51, 52, 53, 54, 55, 58, 59, 60]) (.regI [.op ⟨.ld (some 7) (.t 3), (some 47), none⟩,
 .op ⟨.ld (some 7) (.t 5), (some 48), none⟩,
 .op ⟨.eqs false [0, 0, 0, 0, 0, 0, 0] (.t 47) (.t 48), (some 49), none⟩,
 .op ⟨.mv (.t 49), (some 50), none⟩,
 .grp mg_ref27_event_2,
 .op ⟨.mv (.t 56), (some 57), none⟩,
 .grp mg_ref27_event_3,
 .op ⟨.mv (.t 61), (some 4), none⟩]))
 .ret))
 (.seq (.reg [⟨.bin false .eql (.t 27) (.c (.int .i64 4)), (some 63), none⟩,
 ⟨.mv (.t 63), (some 62), none⟩])
 (.cond (.t 62)
 (.seq (.reg [⟨.ld (some 7) (.t 3), (some 64), none⟩,
 ⟨.ld (some 7) (.t 5), (some 65), none⟩,
 ⟨.eqs false [0, 0, 0, 0, 0, 0, 0] (.t 64) (.t 65), (some 66), none⟩,
 ⟨.mv (.t 66), (some 4), none⟩])
 .ret)
 (.cut (.seq (.reg [⟨.bin false .eql (.t 27) (.c (.int .i64 5)), (some 68), none⟩,
 ⟨.mv (.t 68), (some 67), none⟩])
 (.cond (.t 67)
 .skip
 (.reg [⟨.bin false .eql (.t 27) (.c (.int .i64 6)), (some 69), none⟩,
 ⟨.mv (.t 69), (some 67), none⟩])))
        mc_ref27_event_J1))))))
def mc_ref27_event : MC :=
 (.seq (.reg [⟨.box (.t 0), (some 2), none⟩,
 ⟨.box (.t 1), (some 3), none⟩,
 ⟨.mv (.c (.bool false)), (some 4), none⟩])
 (.seq (.seq (.reg [⟨.fad 0 (.t 3), (some 6), none⟩,
 ⟨.ld none (.t 6), (some 7), none⟩,
 ⟨.call (.f 54) [(.t 7), (.c (.int .i64 0)), (.c (.int .i64 1099511627776))] [] [], (some 8), none⟩,
 ⟨.not (.t 8), (some 9), none⟩,
 ⟨.mv (.t 9), (some 10), none⟩,
 ⟨.fad 2 (.t 3), (some 11), (some (10, false))⟩,
 ⟨.ld none (.t 11), (some 12), (some (10, false))⟩,
 ⟨.fad 0 (.t 2), (some 13), (some (10, false))⟩,
 ⟨.ld none (.t 13), (some 14), (some (10, false))⟩,
 ⟨.bin true .sub (.t 14) (.c (.int .i64 1)), (some 15), (some (10, false))⟩,
 ⟨.call (.f 54) [(.t 12), (.c (.int .i64 0)), (.t 15)] [] [], (some 16), (some (10, false))⟩,
 ⟨.not (.t 16), (some 17), (some (10, false))⟩,
 ⟨.pick (.t 10) (.c (.bool true)) (.t 17), (some 18), none⟩])
 (.cond (.t 18)
 (.seq (.reg [⟨.mv (.c (.bool false)), (some 4), none⟩])
 .ret)
 .skip))
 (.seq (.note (.gc [2, 3, 38, 39, 40, 51, 52, 53, 54, 55, 58, 59, 60, 77, 78, 79, 90, 91, 92, 93, 94, 95, 98, 99, 100, 101, 102]) (.reg [⟨.fad 0 (.t 3), (some 19), none⟩,
 ⟨.ld none (.t 19), (some 20), none⟩,
 ⟨.fad 1 (.t 3), (some 21), none⟩,
 ⟨.ld none (.t 21), (some 22), none⟩,
 ⟨.fad 2 (.t 3), (some 23), none⟩,
 ⟨.ld none (.t 23), (some 24), none⟩,
 ⟨.build [(.int .i64 0), (.int .i64 0), (.int .i64 0), (.int .i64 0), (.int .i64 0), (.int .i64 0), (.int .i64 0)] [(0, 1, (.t 20)), (1, 1, (.t 22)), (2, 1, (.t 24))], (some 25), none⟩,
 ⟨.alloc [(.int .i64 0), (.int .i64 0), (.int .i64 0), (.int .i64 0), (.int .i64 0), (.int .i64 0), (.int .i64 0)], (some 5), none⟩,
 ⟨.st 7 (.t 5) (.t 25), none, none⟩]))
 (.seq (.seq (.reg [⟨.fad 1 (.t 3), (some 26), none⟩,
 ⟨.ld none (.t 26), (some 27), none⟩])
 (.block 0
 (.cut (.seq (.reg [⟨.bin false .eql (.t 27) (.c (.int .i64 1)), (some 29), none⟩,
 ⟨.mv (.t 29), (some 28), none⟩])
 (.cond (.t 28)
 .skip
 (.reg [⟨.bin false .eql (.t 27) (.c (.int .i64 2)), (some 30), none⟩,
 ⟨.mv (.t 30), (some 28), none⟩])))
  mc_ref27_event_J2)))
 (.seq (.reg [⟨.mv (.c (.bool false)), (some 4), none⟩])
 .ret)))))
theorem ok_ref27_event : mc_ref27_event.ok Tryz.prog Tryz.f84.ntmps (Tryz.f84.body.getD .skip) = true := by kernel_rfl
set_option maxHeartbeats 2000000 in
theorem Wq_ref27_event (a_ : GEstate) (x_ : GAccess) {Q : Bool → Prop} {Q' : V → Heap → Prop} (h : Ok (F_ref27_event a_ x_) Q) (hQ : ∀ z, Q z → Q' (.bool z) []) : ACall Tryz.prog 84 [GEstate.v a_, GAccess.v x_] [] Q' := by
  refine acall_machN [] [] [.t 4] Tryz.func84 rfl (by kernel_rfl) ok_ref27_event (by kernel_rfl) rfl rfl fun M hf => ?_
  clear hf
  unfold F_ref27_event at h
  unfold mc_ref27_event
  (try replace h := tH h)
  refine tB ?_
  repeat' (first
  |(exact hQ _ h)
  |(exact trivial)
  |(exact False.elim h)
  |(have hq := hQ _ h; replace hq := tH hq; exact hq)
  |(refine oblg h ?_; clear h; intro hc h)
  |(refine roomG h ?_; clear h; intro hc h)
  |(refine fork h ?_ ?_ <;> clear h <;> intro hc h)
  |(refine forkS h ?_ ?_ <;> clear h <;> intro hc h)
  |(refine And.intro (chkD_of rfl) ?_)
  |(obtain ⟨y, hy, h⟩ := h; have hw := W_ref27_in hy; (try replace hw := tH hw); (first | (refine sCall_of hw rfl rfl ?_; rw [M.lok_eq]) | (refine sCallD_of hw rfl rfl ?_; rw [M.lokD_eq])); clear hw; clear hy; refine tB ?_)
  |(refine M.gj1 (ms := mg_ref27_event_1) [] [] (fun y => [(41, .bool y)]) (fun y => []) h ?_ ?_ <;> first
   |(clear h; intro Qn K hK1 h; unfold mg_ref27_event_1; (try replace h := tH h); refine tB ?_)
   |(clear h; intro y h; (try replace h := tH h); refine tB ?_)
       | fail)
  |(refine M.gv1 (ms := mg_ref27_event_3) 61 [58, 59, 60] h ?_ ?_ <;> first
   |(clear h; intro K hK2; unfold mg_ref27_event_3; refine tB ?_)
   |(clear h; intro b h; (try replace h := tH h); refine tB ?_)
       | fail)
  |(refine M.gv1 (ms := mg_ref27_event_2) 56 [51, 52, 53, 54, 55] h ?_ ?_ <;> first
   |(clear h; intro K hK3; unfold mg_ref27_event_2; refine tB ?_)
   |(clear h; intro b h; (try replace h := tH h); refine tB ?_)
       | fail)
  |(refine M.gj1 (ms := mg_ref27_event_4) [] [] (fun y => [(80, .bool y)]) (fun y => []) h ?_ ?_ <;> first
   |(clear h; intro Qn K hK4 h; unfold mg_ref27_event_4; (try replace h := tH h); refine tB ?_)
   |(clear h; intro y h; (try replace h := tH h); refine tB ?_)
       | fail)
  |(refine M.gv1 (ms := mg_ref27_event_6) 103 [98, 99, 100, 101, 102] h ?_ ?_ <;> first
   |(clear h; intro K hK5; unfold mg_ref27_event_6; refine tB ?_)
   |(clear h; intro b h; (try replace h := tH h); refine tB ?_)
       | fail)
  |(refine M.gj1 (ms := mg_ref27_event_5) [3] [3] (fun y => [(96, .bool y)]) (fun y => []) h ?_ ?_ <;> first
   |(clear h; intro Qn K hK6 h; unfold mg_ref27_event_5; (try replace h := tH h); refine tB ?_)
   |(clear h; intro y h; (try replace h := tH h); refine tB ?_)
       | fail)
  |(refine M.jn1 (b := mc_ref27_event_J1) [2, 3, 5, 27] [5, 3, 2] (fun y => [(67, .bool y)]) (fun y => []) [] h ?_ ?_ <;> first
   |(clear h; intro Qn K hK7 h; (try replace h := tH h); refine tB ?_)
   |(clear h; intro y h; unfold mc_ref27_event_J1; (try replace h := tH h); refine tB ?_)
       | fail)
  |(refine M.jn1 (b := mc_ref27_event_J2) [2, 3, 5, 27] [5, 3, 2] (fun y => [(28, .bool y)]) (fun y => []) [] h ?_ ?_ <;> first
   |(clear h; intro Qn K hK8 h; (try replace h := tH h); refine tB ?_)
   |(clear h; intro y h; unfold mc_ref27_event_J2; (try replace h := tH h); refine tB ?_)
       | fail)
  |((first | refine hK1 _ ?_ | refine hK4 _ ?_ | refine hK6 _ ?_ | refine hK7 _ ?_ | refine hK8 _ ?_); (try refine tB ?_); refine ⟨_, h, ?_⟩; exact tU0; done)
  |((first | refine hK2 _ ?_ | refine hK3 _ ?_ | refine hK5 _ ?_); exact tU; done)
  |(refine bfork (fun hc => ?_) (fun hc => ?_))
  |(refine ⟨_, getE_map (inb_toNat (by assumption)), ?_⟩; (first | rw [M.lok_compU] | rw [M.lokD_compU]); refine tB ?_)
  |(refine And.intro (ltb_of (by assumption)) ?_)
  |(refine And.intro (inb_nat (by assumption)) ?_)
  |(refine And.intro (by omega) ?_)
    | fail)
theorem W_ref27_event : ∀ {a_ : GEstate} {x_ : GAccess} {y : Bool}, F_ref27_event a_ x_ = some y → ACall Tryz.prog 84 [GEstate.v a_, GAccess.v x_] [] (fun r H => r = .bool y ∧ H = []) :=
  fun hy => Wq_ref27_event _ _ (Q := fun z => z = _) ⟨_, hy, rfl⟩ fun z e => by subst e; exact ⟨rfl, rfl⟩
def F_ref27_Valid_L1 (a_ : GEstate) (k43 : Int) (a44 : GAccess) (x42 : Unit) : Option (Fl Unit Bool) :=
  (F_ref27_event a_ a44).bind fun y52 => bif (!y52) then some (.ex false) else bif decide (0 < k43) then chk (in64 (k43 - 1)) (chk (inb (k43 - 1) a_.Events.length) (bif decide (a44.Time < (a_.Events.getD ((k43 - 1)).toNat default).Time) then some (.ex false) else some (.nx ()))) else some (.nx ())
def F_ref27_Valid (a_ : GEstate) : Option Bool :=
  (F_ref27_in a_.Places 1 16).bind fun y7 => grp (((!y7) || decide (120 < (a_.Events.length : Int)))) fun b8 => bif b8 then some false else (forL (F_ref27_Valid_L1 a_) a_.Events 0 ()).bind fun o => o.elim (fun x53 => some true) (fun r54 => some r54)
@[irreducible] def mg_ref27_Valid_1 : List MOp := [⟨.fad 1 (.t 1), (some 10), (some (9, false))⟩,
 ⟨.ld none (.t 10), (some 11), (some (9, false))⟩,
 ⟨.len false (.t 11), (some 12), (some (9, false))⟩,
 ⟨.bin false .gtr (.t 12) (.c (.int .i64 120)), (some 13), (some (9, false))⟩,
 ⟨.pick (.t 9) (.c (.bool true)) (.t 13), (some 14), none⟩]
@[irreducible] def mc_ref27_Valid_L1 : MC :=
 (.seq (.reg [⟨.bin false .lss (.t 18) (.t 17), (some 19), none⟩])
 (.seq (.cond (.t 19)
 .skip
 (.exit 0))
 (.seq (.block 1
 (.seq (.reg [⟨.mv (.t 18), (some 20), none⟩,
 ⟨.iad 7 (.t 16) (.t 18), (some 21), none⟩,
 ⟨.ld (some 7) (.t 21), (some 22), none⟩,
 ⟨.alloc [(.int .i64 0), (.int .i64 0), (.int .i64 0), (.int .i64 0), (.int .i64 0), (.int .i64 0), (.int .i64 0)], (some 4), none⟩,
 ⟨.mv (.t 20), (some 3), none⟩,
 ⟨.st 7 (.t 4) (.t 22), none, none⟩])
 (.seq (.regD [⟨.ld (some 2) (.t 1), (some 23), none⟩,
 ⟨.ld (some 7) (.t 4), (some 24), none⟩,
 ⟨.call (.f 84) [(.t 23), (.t 24)] [] [], (some 25), none⟩,
 ⟨.not (.t 25), (some 26), none⟩,
 ⟨.mv (.t 26), (some 27), none⟩,
 ⟨.mv (.t 3), (some 28), (some (27, false))⟩,
 ⟨.bin false .gtr (.t 28) (.c (.int .i64 0)), (some 29), (some (27, false))⟩,
 ⟨.mv (.t 29), (some 30), (some (27, false))⟩,
 ⟨.fad 0 (.t 4), (some 31), (some (30, true))⟩,
 ⟨.ld none (.t 31), (some 32), (some (30, true))⟩,
 ⟨.fad 1 (.t 1), (some 33), (some (30, true))⟩,
 ⟨.ld none (.t 33), (some 34), (some (30, true))⟩,
 ⟨.mv (.t 3), (some 35), (some (30, true))⟩,
 ⟨.bin true .sub (.t 35) (.c (.int .i64 1)), (some 36), (some (30, true))⟩,
 ⟨.iad 7 (.t 34) (.t 36), (some 37), (some (30, true))⟩,
 ⟨.fad 0 (.t 37), (some 38), (some (30, true))⟩,
 ⟨.ld none (.t 38), (some 39), (some (30, true))⟩,
 ⟨.bin false .lss (.t 32) (.t 39), (some 40), (some (30, true))⟩,
 ⟨.pick (.t 30) (.t 40) (.c (.bool false)), (some 41), (some (27, false))⟩,
 ⟨.pick (.t 27) (.c (.bool true)) (.t 41), (some 42), none⟩]
    [[], [], [0, 1], [2], [3, 2], [4], [5, 4], [6, 4, 4], [7], [8, 7], [7], [10, 7], [7], [12, 7], [11, 13, 7], [14, 7], [15, 7], [9, 16, 7], [7, 17, 4], [4, 18]]
    [[], [], [0, 1], [0, 1, 2], [0, 1, 2, 3], [0, 1, 2, 3, 4], [0, 1, 2, 3, 4, 5], [0, 1, 2, 3, 4, 5, 6], [0, 1, 2, 3, 4, 5, 6, 7], [0, 1, 2, 3, 4, 5, 6, 7, 8], [0, 1, 2, 3, 4, 5, 6, 7], [0, 1, 2, 3, 4, 5, 6, 7, 10], [0, 1, 2, 3, 4, 5, 6, 7], [0, 1, 2, 3, 4, 5, 6, 7, 12], [0, 1, 2, 3, 4, 5, 6, 7, 10, 11, 12, 13], [0, 1, 2, 3, 4, 5, 6, 7, 10, 11, 12, 13, 14], [0, 1, 2, 3, 4, 5, 6, 7, 10, 11, 12, 13, 14, 15], [0, 1, 2, 3, 4, 5, 6, 7, 8, 9, 10, 11, 12, 13, 14, 15, 16], [0, 1, 2, 3, 4, 5, 6, 7, 8, 9, 10, 11, 12, 13, 14, 15, 16, 17], [0, 1, 2, 3, 4, 5, 6, 7, 8, 9, 10, 11, 12, 13, 14, 15, 16, 17, 18]])
 (.cond (.t 42)
 (.seq (.reg [⟨.mv (.c (.bool false)), (some 2), none⟩])
 .ret)
 .skip))))
 (.reg [⟨.bin true .add (.t 18) (.c (.int .i64 1)), (some 43), none⟩,
 ⟨.mv (.t 43), (some 18), none⟩]))))
def mc_ref27_Valid : MC :=
 (.seq (.reg [⟨.box (.t 0), (some 1), none⟩,
 ⟨.mv (.c (.bool false)), (some 2), none⟩])
 (.seq (.seq (.regI [.op ⟨.fad 0 (.t 1), (some 5), none⟩,
 .op ⟨.ld none (.t 5), (some 6), none⟩,
 .op ⟨.call (.f 54) [(.t 6), (.c (.int .i64 1)), (.c (.int .i64 16))] [] [], (some 7), none⟩,
 .op ⟨.not (.t 7), (some 8), none⟩,
 .op ⟨.mv (.t 8), (some 9), none⟩,
 .grp mg_ref27_Valid_1])
 (.cond (.t 14)
 (.seq (.reg [⟨.mv (.c (.bool false)), (some 2), none⟩])
 .ret)
 .skip))
 (.seq (.seq (.note (.gc [1, 28, 29, 30, 31, 32, 33, 34, 35, 36, 37, 38, 39, 40, 41]) (.reg [⟨.fad 1 (.t 1), (some 15), none⟩,
 ⟨.ld none (.t 15), (some 16), none⟩,
 ⟨.len false (.t 16), (some 17), none⟩,
 ⟨.mv (.c (.int .i64 0)), (some 18), none⟩]))
 (.block 0
 (.loop mc_ref27_Valid_L1)))
 (.seq (.reg [⟨.mv (.c (.bool true)), (some 2), none⟩])
 .ret))))
theorem ok_ref27_Valid : mc_ref27_Valid.ok Tryz.prog Tryz.f53.ntmps (Tryz.f53.body.getD .skip) = true := by kernel_rfl
set_option maxHeartbeats 2000000 in
theorem Wq_ref27_Valid (a_ : GEstate) {Q : Bool → Prop} {Q' : V → Heap → Prop} (h : Ok (F_ref27_Valid a_) Q) (hQ : ∀ z, Q z → Q' (.bool z) []) : ACall Tryz.prog 53 [GEstate.v a_] [] Q' := by
  refine acall_machN [] [] [.t 2] Tryz.func53 rfl (by kernel_rfl) ok_ref27_Valid (by kernel_rfl) rfl rfl fun M hf => ?_
  clear hf
  unfold F_ref27_Valid at h
  unfold mc_ref27_Valid
  (try replace h := tH h)
  refine tB ?_
  repeat' (first
  |(exact hQ _ h)
  |(exact trivial)
  |(exact False.elim h)
  |(have hq := hQ _ h; replace hq := tH hq; exact hq)
  |(refine oblg h ?_; clear h; intro hc h)
  |(refine roomG h ?_; clear h; intro hc h)
  |(refine fork h ?_ ?_ <;> clear h <;> intro hc h)
  |(refine forkS h ?_ ?_ <;> clear h <;> intro hc h)
  |(refine And.intro (chkD_of rfl) ?_)
  |(obtain ⟨y, hy, h⟩ := h; (first | with_reducible first | have hw := W_ref27_in hy | have hw := W_ref27_event hy); (try replace hw := tH hw); (first | (refine sCall_of hw rfl rfl ?_; rw [M.lok_eq]) | (refine sCallD_of hw rfl rfl ?_; rw [M.lokD_eq])); clear hw; clear hy; refine tB ?_)
  |(refine M.for1 (b := mc_ref27_Valid_L1) 18 [1, 16, 17] [1] (fun x => []) (fun x => []) [] h ?_ ?_ ?_ <;> first
   |(clear h; intro k a x Qn K hK1 hkN1 ha1 h hf; have hl := fact_int (factsE_find (n := 17) hf.1 rfl); clear hf; have hkd := kD hkN1; have hkB1 := kB hkN1; have hkI1 : in64 ((k : Int) + 1) = true := in64_iff.2 ⟨by omega, by (try simp only [List.length_cons, List.length_nil] at hkN1); omega⟩; unfold F_ref27_Valid_L1 at h; unfold mc_ref27_Valid_L1; (try replace h := tH h); refine tK ha1 hkd hkN1 hkB1 hkI1 ?_)
   |(clear h; intro x K h; replace h := And.left (And.intro h trivial); unfold mc_ref27_Valid_L1; (try replace h := tH h); refine tB ?_)
   |(clear h; (try refine tB ?_); exact tU0; done)
       | fail)
  |(refine M.gv1 (ms := mg_ref27_Valid_1) 14 [10, 11, 12, 13] h ?_ ?_ <;> first
   |(clear h; intro K hK2; unfold mg_ref27_Valid_1; refine tB ?_)
   |(clear h; intro b h; (try replace h := tH h); refine tB ?_)
       | fail)
  |(refine And.intro (by first | exact hkI1 | exact hkN1 | exact hkB1) ?_)
  |(simp only [ha1])
  |(refine hK1 _ ?_; (try refine tB ?_); refine ⟨_, h, ?_⟩; exact tU0; done)
  |(refine hK2 _ ?_; exact tU; done)
  |(refine bfork (fun hc => ?_) (fun hc => ?_))
  |(refine ⟨_, getE_map (inb_toNat (by assumption)), ?_⟩; (first | rw [M.lok_compU] | rw [M.lokD_compU]); refine tB ?_)
  |(refine And.intro (ltb_of (by assumption)) ?_)
  |(refine And.intro (inb_nat (by assumption)) ?_)
  |(refine And.intro (by omega) ?_)
    | fail)
theorem W_ref27_Valid : ∀ {a_ : GEstate} {y : Bool}, F_ref27_Valid a_ = some y → ACall Tryz.prog 53 [GEstate.v a_] [] (fun r H => r = .bool y ∧ H = []) :=
  fun hy => Wq_ref27_Valid _ (Q := fun z => z = _) ⟨_, hy, rfl⟩ fun z e => by subst e; exact ⟨rfl, rfl⟩
def F_ref23_Reader (d_ : GDirectory) (p_ : Int) : Option Bool :=
  (F_ref23_Exists d_ p_).bind fun y3 => jn (α := Bool) (bif y3 then chk (inb p_ d_.Kinds.length) (some (!decide ((d_.Kinds.getD (p_).toNat default) = 2))) else some false) fun j4 => some j4
@[irreducible] def mg_ref23_Reader_1 : List MOp := [⟨.fad 0 (.t 2), (some 9), (some (8, true))⟩,
 ⟨.ld none (.t 9), (some 10), (some (8, true))⟩,
 ⟨.mv (.t 1), (some 11), (some (8, true))⟩,
 ⟨.iad 1 (.t 10) (.t 11), (some 12), (some (8, true))⟩,
 ⟨.ld none (.t 12), (some 13), (some (8, true))⟩,
 ⟨.bin false .neq (.t 13) (.c (.int .i64 2)), (some 14), (some (8, true))⟩,
 ⟨.pick (.t 8) (.t 14) (.c (.bool false)), (some 15), none⟩]
def mc_ref23_Reader : MC :=
 (.seq (.reg [⟨.box (.t 0), (some 2), none⟩,
 ⟨.mv (.c (.bool false)), (some 4), none⟩])
 (.seq (.regI [.op ⟨.ld (some 2) (.t 2), (some 5), none⟩,
 .op ⟨.mv (.t 1), (some 6), none⟩,
 .op ⟨.call (.f 38) [(.t 5), (.t 6)] [] [], (some 7), none⟩,
 .op ⟨.mv (.t 7), (some 8), none⟩,
 .grp mg_ref23_Reader_1,
 .op ⟨.mv (.t 15), (some 4), none⟩])
 .ret))
theorem ok_ref23_Reader : mc_ref23_Reader.ok Tryz.prog Tryz.f19.ntmps (Tryz.f19.body.getD .skip) = true := by kernel_rfl
set_option maxHeartbeats 2000000 in
theorem Wq_ref23_Reader (d_ : GDirectory) (p_ : Int) {Q : Bool → Prop} {Q' : V → Heap → Prop} (h : Ok (F_ref23_Reader d_ p_) Q) (hQ : ∀ z, Q z → Q' (.bool z) []) : ACall Tryz.prog 19 [GDirectory.v d_, .int .i64 p_] [] Q' := by
  refine acall_machN [] [] [.t 4] Tryz.func19 rfl (by kernel_rfl) ok_ref23_Reader (by kernel_rfl) rfl rfl fun M hf => ?_
  clear hf
  unfold F_ref23_Reader at h
  unfold mc_ref23_Reader
  (try replace h := tH h)
  refine tB ?_
  repeat' (first
  |(exact hQ _ h)
  |(exact trivial)
  |(exact False.elim h)
  |(have hq := hQ _ h; replace hq := tH hq; exact hq)
  |(refine oblg h ?_; clear h; intro hc h)
  |(refine roomG h ?_; clear h; intro hc h)
  |(refine fork h ?_ ?_ <;> clear h <;> intro hc h)
  |(refine forkS h ?_ ?_ <;> clear h <;> intro hc h)
  |(refine And.intro (chkD_of rfl) ?_)
  |(obtain ⟨y, hy, h⟩ := h; have hw := W_ref23_Exists hy; (try replace hw := tH hw); (first | (refine sCall_of hw rfl rfl ?_; rw [M.lok_eq]) | (refine sCallD_of hw rfl rfl ?_; rw [M.lokD_eq])); clear hw; clear hy; refine tB ?_)
  |(refine M.gj1 (ms := mg_ref23_Reader_1) [4] [] (fun y => [(15, .bool y)]) (fun y => []) h ?_ ?_ <;> first
   |(clear h; intro Qn K hK1 h; unfold mg_ref23_Reader_1; (try replace h := tH h); refine tB ?_)
   |(clear h; intro y h; (try replace h := tH h); refine tB ?_)
       | fail)
  |(refine hK1 _ ?_; (try refine tB ?_); refine ⟨_, h, ?_⟩; exact tU0; done)
  |(refine ⟨_, getE_map (inb_toNat (by assumption)), ?_⟩; (first | rw [M.lok_compU] | rw [M.lokD_compU]); refine tB ?_)
  |(refine And.intro (ltb_of (by assumption)) ?_)
  |(refine And.intro (inb_nat (by assumption)) ?_)
  |(refine And.intro (by omega) ?_)
    | fail)
theorem W_ref23_Reader : ∀ {d_ : GDirectory} {p_ : Int} {y : Bool}, F_ref23_Reader d_ p_ = some y → ACall Tryz.prog 19 [GDirectory.v d_, .int .i64 p_] [] (fun r H => r = .bool y ∧ H = []) :=
  fun hy => Wq_ref23_Reader _ _ (Q := fun z => z = _) ⟨_, hy, rfl⟩ fun z e => by subst e; exact ⟨rfl, rfl⟩
def F_ref30_right (d_ : GDirectory) (a_ : GEstate) (content_ : Int) (p_ : Int) : Option Bool :=
  (F_ref23_Valid d_).bind fun y10 => jn (α := Bool) (bif y10 then (F_ref27_Valid a_).bind fun y12 => some y12 else some false) fun j13 => grp ((j13 && decide (0 ≤ content_))) fun b14 => grp ((b14 && decide (content_ ≤ 63))) fun b15 => jn (α := Bool) (bif b15 then bif decide (p_ = (-1)) then some true else (F_ref23_Reader d_ p_).bind fun y17 => some y17 else some false) fun j18 => some j18
@[irreducible] def mg_ref30_right_1 : List MOp := [⟨.ld (some 2) (.t 5), (some 12), (some (11, true))⟩,
 ⟨.call (.f 53) [(.t 12)] [] [], (some 13), (some (11, true))⟩,
 ⟨.pick (.t 11) (.t 13) (.c (.bool false)), (some 14), none⟩]
@[irreducible] def mg_ref30_right_2 : List MOp := [⟨.mv (.t 2), (some 16), (some (15, true))⟩,
 ⟨.bin false .geq (.t 16) (.c (.int .i64 0)), (some 17), (some (15, true))⟩,
 ⟨.pick (.t 15) (.t 17) (.c (.bool false)), (some 18), none⟩]
@[irreducible] def mg_ref30_right_3 : List MOp := [⟨.mv (.t 2), (some 20), (some (19, true))⟩,
 ⟨.bin false .leq (.t 20) (.c (.int .i64 63)), (some 21), (some (19, true))⟩,
 ⟨.pick (.t 19) (.t 21) (.c (.bool false)), (some 22), none⟩]
@[irreducible] def mg_ref30_right_4 : List MOp := [⟨.mv (.t 3), (some 24), (some (23, true))⟩,
 ⟨.bin false .eql (.t 24) (.c (.int .i64 (-1))), (some 25), (some (23, true))⟩,
 ⟨.mv (.t 25), (some 26), (some (23, true))⟩,
 ⟨.ld (some 2) (.t 4), (some 27), (some (26, false))⟩,
 ⟨.mv (.t 3), (some 28), (some (26, false))⟩,
 ⟨.call (.f 19) [(.t 27), (.t 28)] [] [], (some 29), (some (26, false))⟩,
 ⟨.pick (.t 26) (.c (.bool true)) (.t 29), (some 30), (some (23, true))⟩,
 ⟨.pick (.t 23) (.t 30) (.c (.bool false)), (some 31), none⟩]
def mc_ref30_right : MC :=
 (.seq (.reg [⟨.box (.t 0), (some 4), none⟩,
 ⟨.box (.t 1), (some 5), none⟩,
 ⟨.mv (.c (.bool false)), (some 8), none⟩])
 (.seq (.regI [.op ⟨.ld (some 2) (.t 4), (some 9), none⟩,
 .op ⟨.call (.f 33) [(.t 9)] [] [], (some 10), none⟩,
 .op ⟨.mv (.t 10), (some 11), none⟩,
 .grp mg_ref30_right_1,
 .op ⟨.mv (.t 14), (some 15), none⟩,
 .grp mg_ref30_right_2,
 .op ⟨.mv (.t 18), (some 19), none⟩,
 .grp mg_ref30_right_3,
 .op ⟨.mv (.t 22), (some 23), none⟩,
 .grp mg_ref30_right_4,
 .op ⟨.mv (.t 31), (some 8), none⟩])
 .ret))
theorem ok_ref30_right : mc_ref30_right.ok Tryz.prog Tryz.f47.ntmps (Tryz.f47.body.getD .skip) = true := by kernel_rfl
set_option maxHeartbeats 2000000 in
theorem Wq_ref30_right (d_ : GDirectory) (a_ : GEstate) (content_ : Int) (p_ : Int) {Q : Bool → Prop} {Q' : V → Heap → Prop} (h : Ok (F_ref30_right d_ a_ content_ p_) Q) (hQ : ∀ z, Q z → Q' (.bool z) []) : ACall Tryz.prog 47 [GDirectory.v d_, GEstate.v a_, .int .i64 content_, .int .i64 p_] [] Q' := by
  refine acall_machN [] [] [.t 8] Tryz.func47 rfl (by kernel_rfl) ok_ref30_right (by kernel_rfl) rfl rfl fun M hf => ?_
  clear hf
  unfold F_ref30_right at h
  unfold mc_ref30_right
  (try replace h := tH h)
  refine tB ?_
  repeat' (first
  |(exact hQ _ h)
  |(exact trivial)
  |(exact False.elim h)
  |(have hq := hQ _ h; replace hq := tH hq; exact hq)
  |(refine oblg h ?_; clear h; intro hc h)
  |(refine roomG h ?_; clear h; intro hc h)
  |(refine fork h ?_ ?_ <;> clear h <;> intro hc h)
  |(refine forkS h ?_ ?_ <;> clear h <;> intro hc h)
  |(refine And.intro (chkD_of rfl) ?_)
  |(obtain ⟨y, hy, h⟩ := h; (first | with_reducible first | have hw := W_ref23_Valid hy | have hw := W_ref27_Valid hy | have hw := W_ref23_Reader hy); (try replace hw := tH hw); (first | (refine sCall_of hw rfl rfl ?_; rw [M.lok_eq]) | (refine sCallD_of hw rfl rfl ?_; rw [M.lokD_eq])); clear hw; clear hy; refine tB ?_)
  |(refine M.gj1 (ms := mg_ref30_right_4) [8] [] (fun y => [(31, .bool y)]) (fun y => []) h ?_ ?_ <;> first
   |(clear h; intro Qn K hK1 h; unfold mg_ref30_right_4; (try replace h := tH h); refine tB ?_)
   |(clear h; intro y h; (try replace h := tH h); refine tB ?_)
       | fail)
  |(refine M.gv1 (ms := mg_ref30_right_3) 22 [20, 21] h ?_ ?_ <;> first
   |(clear h; intro K hK2; unfold mg_ref30_right_3; refine tB ?_)
   |(clear h; intro b h; (try replace h := tH h); refine tB ?_)
       | fail)
  |(refine M.gv1 (ms := mg_ref30_right_2) 18 [16, 17] h ?_ ?_ <;> first
   |(clear h; intro K hK3; unfold mg_ref30_right_2; refine tB ?_)
   |(clear h; intro b h; (try replace h := tH h); refine tB ?_)
       | fail)
  |(refine M.gj1 (ms := mg_ref30_right_1) [2, 3, 4, 8] [4] (fun y => [(14, .bool y)]) (fun y => []) h ?_ ?_ <;> first
   |(clear h; intro Qn K hK4 h; unfold mg_ref30_right_1; (try replace h := tH h); refine tB ?_)
   |(clear h; intro y h; (try replace h := tH h); refine tB ?_)
       | fail)
  |((first | refine hK1 _ ?_ | refine hK4 _ ?_); (try refine tB ?_); refine ⟨_, h, ?_⟩; exact tU0; done)
  |((first | refine hK2 _ ?_ | refine hK3 _ ?_); exact tU; done)
  |(refine bfork (fun hc => ?_) (fun hc => ?_))
  |(refine ⟨_, getE_map (inb_toNat (by assumption)), ?_⟩; (first | rw [M.lok_compU] | rw [M.lokD_compU]); refine tB ?_)
  |(refine And.intro (ltb_of (by assumption)) ?_)
  |(refine And.intro (inb_nat (by assumption)) ?_)
  |(refine And.intro (by omega) ?_)
    | fail)
theorem W_ref30_right : ∀ {d_ : GDirectory} {a_ : GEstate} {content_ : Int} {p_ : Int} {y : Bool}, F_ref30_right d_ a_ content_ p_ = some y → ACall Tryz.prog 47 [GDirectory.v d_, GEstate.v a_, .int .i64 content_, .int .i64 p_] [] (fun r H => r = .bool y ∧ H = []) :=
  fun hy => Wq_ref30_right _ _ _ _ (Q := fun z => z = _) ⟨_, hy, rfl⟩ fun z e => by subst e; exact ⟨rfl, rfl⟩
def F_ref29_right (a_ : GEstate) (content_ : Int) : Option Bool :=
  (F_ref27_Valid a_).bind fun y4 => grp ((y4 && decide (0 ≤ content_))) fun b5 => grp ((b5 && decide (content_ ≤ 63))) fun b6 => some b6
@[irreducible] def mg_ref29_right_1 : List MOp := [⟨.mv (.t 1), (some 8), (some (7, true))⟩,
 ⟨.bin false .geq (.t 8) (.c (.int .i64 0)), (some 9), (some (7, true))⟩,
 ⟨.pick (.t 7) (.t 9) (.c (.bool false)), (some 10), none⟩]
@[irreducible] def mg_ref29_right_2 : List MOp := [⟨.mv (.t 1), (some 12), (some (11, true))⟩,
 ⟨.bin false .leq (.t 12) (.c (.int .i64 63)), (some 13), (some (11, true))⟩,
 ⟨.pick (.t 11) (.t 13) (.c (.bool false)), (some 14), none⟩]
def mc_ref29_right : MC :=
 (.seq (.reg [⟨.box (.t 0), (some 2), none⟩,
 ⟨.mv (.c (.bool false)), (some 4), none⟩])
 (.seq (.regI [.op ⟨.ld (some 2) (.t 2), (some 5), none⟩,
 .op ⟨.call (.f 53) [(.t 5)] [] [], (some 6), none⟩,
 .op ⟨.mv (.t 6), (some 7), none⟩,
 .grp mg_ref29_right_1,
 .op ⟨.mv (.t 10), (some 11), none⟩,
 .grp mg_ref29_right_2,
 .op ⟨.mv (.t 14), (some 4), none⟩])
 .ret))
theorem ok_ref29_right : mc_ref29_right.ok Tryz.prog Tryz.f39.ntmps (Tryz.f39.body.getD .skip) = true := by kernel_rfl
set_option maxHeartbeats 2000000 in
theorem Wq_ref29_right (a_ : GEstate) (content_ : Int) {Q : Bool → Prop} {Q' : V → Heap → Prop} (h : Ok (F_ref29_right a_ content_) Q) (hQ : ∀ z, Q z → Q' (.bool z) []) : ACall Tryz.prog 39 [GEstate.v a_, .int .i64 content_] [] Q' := by
  refine acall_machN [] [] [.t 4] Tryz.func39 rfl (by kernel_rfl) ok_ref29_right (by kernel_rfl) rfl rfl fun M hf => ?_
  clear hf
  unfold F_ref29_right at h
  unfold mc_ref29_right
  (try replace h := tH h)
  refine tB ?_
  repeat' (first
  |(exact hQ _ h)
  |(exact trivial)
  |(exact False.elim h)
  |(have hq := hQ _ h; replace hq := tH hq; exact hq)
  |(refine oblg h ?_; clear h; intro hc h)
  |(refine roomG h ?_; clear h; intro hc h)
  |(refine fork h ?_ ?_ <;> clear h <;> intro hc h)
  |(refine forkS h ?_ ?_ <;> clear h <;> intro hc h)
  |(refine And.intro (chkD_of rfl) ?_)
  |(obtain ⟨y, hy, h⟩ := h; have hw := W_ref27_Valid hy; (try replace hw := tH hw); (first | (refine sCall_of hw rfl rfl ?_; rw [M.lok_eq]) | (refine sCallD_of hw rfl rfl ?_; rw [M.lokD_eq])); clear hw; clear hy; refine tB ?_)
  |(refine M.gv1 (ms := mg_ref29_right_2) 14 [12, 13] h ?_ ?_ <;> first
   |(clear h; intro K hK1; unfold mg_ref29_right_2; refine tB ?_)
   |(clear h; intro b h; (try replace h := tH h); refine tB ?_)
       | fail)
  |(refine M.gv1 (ms := mg_ref29_right_1) 10 [8, 9] h ?_ ?_ <;> first
   |(clear h; intro K hK2; unfold mg_ref29_right_1; refine tB ?_)
   |(clear h; intro b h; (try replace h := tH h); refine tB ?_)
       | fail)
  |((first | refine hK1 _ ?_ | refine hK2 _ ?_); exact tU; done)
  |(refine bfork (fun hc => ?_) (fun hc => ?_))
  |(refine ⟨_, getE_map (inb_toNat (by assumption)), ?_⟩; (first | rw [M.lok_compU] | rw [M.lokD_compU]); refine tB ?_)
  |(refine And.intro (ltb_of (by assumption)) ?_)
  |(refine And.intro (inb_nat (by assumption)) ?_)
  |(refine And.intro (by omega) ?_)
    | fail)
theorem W_ref29_right : ∀ {a_ : GEstate} {content_ : Int} {y : Bool}, F_ref29_right a_ content_ = some y → ACall Tryz.prog 39 [GEstate.v a_, .int .i64 content_] [] (fun r H => r = .bool y ∧ H = []) :=
  fun hy => Wq_ref29_right _ _ (Q := fun z => z = _) ⟨_, hy, rfl⟩ fun z e => by subst e; exact ⟨rfl, rfl⟩
def F_ref27_Place (a_ : GEstate) (place_ : Int) : Option Bool :=
  (F_ref27_Valid a_).bind fun y5 => jn (α := Bool) (bif y5 then chk (in64 (a_.Places - 1)) ((F_ref27_in place_ 0 (a_.Places - 1)).bind fun y7 => some y7) else some false) fun j8 => some j8
@[irreducible] def mg_ref27_Place_1 : List MOp := [⟨.mv (.t 1), (some 8), (some (7, true))⟩,
 ⟨.fad 0 (.t 2), (some 9), (some (7, true))⟩,
 ⟨.ld none (.t 9), (some 10), (some (7, true))⟩,
 ⟨.bin true .sub (.t 10) (.c (.int .i64 1)), (some 11), (some (7, true))⟩,
 ⟨.call (.f 54) [(.t 8), (.c (.int .i64 0)), (.t 11)] [] [], (some 12), (some (7, true))⟩,
 ⟨.pick (.t 7) (.t 12) (.c (.bool false)), (some 13), none⟩]
def mc_ref27_Place : MC :=
 (.seq (.reg [⟨.box (.t 0), (some 2), none⟩,
 ⟨.mv (.c (.bool false)), (some 4), none⟩])
 (.seq (.regI [.op ⟨.ld (some 2) (.t 2), (some 5), none⟩,
 .op ⟨.call (.f 53) [(.t 5)] [] [], (some 6), none⟩,
 .op ⟨.mv (.t 6), (some 7), none⟩,
 .grp mg_ref27_Place_1,
 .op ⟨.mv (.t 13), (some 4), none⟩])
 .ret))
theorem ok_ref27_Place : mc_ref27_Place.ok Tryz.prog Tryz.f30.ntmps (Tryz.f30.body.getD .skip) = true := by kernel_rfl
set_option maxHeartbeats 2000000 in
theorem Wq_ref27_Place (a_ : GEstate) (place_ : Int) {Q : Bool → Prop} {Q' : V → Heap → Prop} (h : Ok (F_ref27_Place a_ place_) Q) (hQ : ∀ z, Q z → Q' (.bool z) []) : ACall Tryz.prog 30 [GEstate.v a_, .int .i64 place_] [] Q' := by
  refine acall_machN [] [] [.t 4] Tryz.func30 rfl (by kernel_rfl) ok_ref27_Place (by kernel_rfl) rfl rfl fun M hf => ?_
  clear hf
  unfold F_ref27_Place at h
  unfold mc_ref27_Place
  (try replace h := tH h)
  refine tB ?_
  repeat' (first
  |(exact hQ _ h)
  |(exact trivial)
  |(exact False.elim h)
  |(have hq := hQ _ h; replace hq := tH hq; exact hq)
  |(refine oblg h ?_; clear h; intro hc h)
  |(refine roomG h ?_; clear h; intro hc h)
  |(refine fork h ?_ ?_ <;> clear h <;> intro hc h)
  |(refine forkS h ?_ ?_ <;> clear h <;> intro hc h)
  |(refine And.intro (chkD_of rfl) ?_)
  |(obtain ⟨y, hy, h⟩ := h; (first | with_reducible first | have hw := W_ref27_Valid hy | have hw := W_ref27_in hy); (try replace hw := tH hw); (first | (refine sCall_of hw rfl rfl ?_; rw [M.lok_eq]) | (refine sCallD_of hw rfl rfl ?_; rw [M.lokD_eq])); clear hw; clear hy; refine tB ?_)
  |(refine M.gj1 (ms := mg_ref27_Place_1) [4] [] (fun y => [(13, .bool y)]) (fun y => []) h ?_ ?_ <;> first
   |(clear h; intro Qn K hK1 h; unfold mg_ref27_Place_1; (try replace h := tH h); refine tB ?_)
   |(clear h; intro y h; (try replace h := tH h); refine tB ?_)
       | fail)
  |(refine hK1 _ ?_; (try refine tB ?_); refine ⟨_, h, ?_⟩; exact tU0; done)
  |(refine ⟨_, getE_map (inb_toNat (by assumption)), ?_⟩; (first | rw [M.lok_compU] | rw [M.lokD_compU]); refine tB ?_)
  |(refine And.intro (ltb_of (by assumption)) ?_)
  |(refine And.intro (inb_nat (by assumption)) ?_)
  |(refine And.intro (by omega) ?_)
    | fail)
theorem W_ref27_Place : ∀ {a_ : GEstate} {place_ : Int} {y : Bool}, F_ref27_Place a_ place_ = some y → ACall Tryz.prog 30 [GEstate.v a_, .int .i64 place_] [] (fun r H => r = .bool y ∧ H = []) :=
  fun hy => Wq_ref27_Place _ _ (Q := fun z => z = _) ⟨_, hy, rfl⟩ fun z e => by subst e; exact ⟨rfl, rfl⟩
noncomputable def F_ref29_happened_L1 (a_ : GEstate) (t_ : Int) (x7 : Int) : Option (Fl Int Int) :=
  bif decide (x7 < (a_.Events.length : Int)) then chk (inb x7 a_.Events.length) (bif decide ((a_.Events.getD (x7).toNat default).Time ≤ t_) then chk (in64 (x7 + 1)) (some (.nx (x7 + 1))) else some (.ex x7)) else some (.ex x7)
noncomputable def F_ref29_happened (a_ : GEstate) (t_ : Int) : Option Int :=
  (loop (F_ref29_happened_L1 a_ t_) 0).bind fun r8 => some r8
@[irreducible] def mc_ref29_happened_L1 : MC :=
 (.seq (.seq (.reg [⟨.mv (.t 5), (some 6), none⟩,
 ⟨.fad 1 (.t 2), (some 7), none⟩,
 ⟨.ld none (.t 7), (some 8), none⟩,
 ⟨.len false (.t 8), (some 9), none⟩,
 ⟨.bin false .lss (.t 6) (.t 9), (some 10), none⟩,
 ⟨.mv (.t 10), (some 11), none⟩,
 ⟨.fad 1 (.t 2), (some 12), (some (11, true))⟩,
 ⟨.ld none (.t 12), (some 13), (some (11, true))⟩,
 ⟨.mv (.t 5), (some 14), (some (11, true))⟩,
 ⟨.iad 7 (.t 13) (.t 14), (some 15), (some (11, true))⟩,
 ⟨.fad 0 (.t 15), (some 16), (some (11, true))⟩,
 ⟨.ld none (.t 16), (some 17), (some (11, true))⟩,
 ⟨.mv (.t 1), (some 18), (some (11, true))⟩,
 ⟨.bin false .leq (.t 17) (.t 18), (some 19), (some (11, true))⟩,
 ⟨.pick (.t 11) (.t 19) (.c (.bool false)), (some 20), none⟩])
 (.cond (.t 20)
 .skip
 (.exit 0)))
 (.block 1
 (.reg [⟨.mv (.t 5), (some 21), none⟩,
 ⟨.bin true .add (.t 21) (.c (.int .i64 1)), (some 22), none⟩,
 ⟨.mv (.t 22), (some 5), none⟩])))
def mc_ref29_happened : MC :=
 (.seq (.reg [⟨.box (.t 0), (some 2), none⟩,
 ⟨.mv (.c (.int .i64 0)), (some 4), none⟩])
 (.seq (.reg [⟨.mv (.c (.int .i64 0)), (some 5), none⟩])
 (.seq (.block 0
 (.loop mc_ref29_happened_L1))
 (.seq (.reg [⟨.mv (.t 5), (some 23), none⟩,
 ⟨.mv (.t 23), (some 4), none⟩])
 .ret))))
theorem ok_ref29_happened : mc_ref29_happened.ok Tryz.prog Tryz.f32.ntmps (Tryz.f32.body.getD .skip) = true := by kernel_rfl
set_option maxHeartbeats 2000000 in
theorem Wq_ref29_happened (a_ : GEstate) (t_ : Int) {Q : Int → Prop} {Q' : V → Heap → Prop} (h : Ok (F_ref29_happened a_ t_) Q) (hQ : ∀ z, Q z → Q' (.int .i64 z) []) : ACall Tryz.prog 32 [GEstate.v a_, .int .i64 t_] [] Q' := by
  refine acall_machN [] [] [.t 4] Tryz.func32 rfl (by kernel_rfl) ok_ref29_happened (by kernel_rfl) rfl rfl fun M hf => ?_
  clear hf
  unfold F_ref29_happened at h
  unfold mc_ref29_happened
  (try replace h := tH h)
  refine tB ?_
  repeat' (first
  |(exact hQ _ h)
  |(exact trivial)
  |(exact False.elim h)
  |(have hq := hQ _ h; replace hq := tH hq; exact hq)
  |(refine oblg h ?_; clear h; intro hc h)
  |(refine roomG h ?_; clear h; intro hc h)
  |(refine fork h ?_ ?_ <;> clear h <;> intro hc h)
  |(refine forkS h ?_ ?_ <;> clear h <;> intro hc h)
  |(refine And.intro (chkD_of rfl) ?_)
  |(refine M.wh1 (b := mc_ref29_happened_L1) [1, 2] [2] (fun x => [(5, .int .i64 x)]) (fun x => []) [] h ?_ ?_ <;> first
   |(clear h; intro x Qn K hK1 h; unfold F_ref29_happened_L1 at h; unfold mc_ref29_happened_L1; (try replace h := tH h); refine tB ?_)
   |(clear h; (try refine tB ?_); exact tU0; done)
       | fail)
  |(refine hK1 _ ?_; (try refine tB ?_); refine ⟨_, h, ?_⟩; exact tU0; done)
  |(refine ⟨_, getE_map (inb_toNat (by assumption)), ?_⟩; (first | rw [M.lok_compU] | rw [M.lokD_compU]); refine tB ?_)
  |(refine And.intro (ltb_of (by assumption)) ?_)
  |(refine And.intro (inb_nat (by assumption)) ?_)
  |(refine And.intro (by omega) ?_)
    | fail)
theorem W_ref29_happened : ∀ {a_ : GEstate} {t_ : Int} {y : Int}, F_ref29_happened a_ t_ = some y → ACall Tryz.prog 32 [GEstate.v a_, .int .i64 t_] [] (fun r H => r = .int .i64 y ∧ H = []) :=
  fun hy => Wq_ref29_happened _ _ (Q := fun z => z = _) ⟨_, hy, rfl⟩ fun z e => by subst e; exact ⟨rfl, rfl⟩
noncomputable def F_ref29_Proves_L1 (a_ : GEstate) (content_ : Int) (a629 : Int) (k808 : Int) (a809 : GAccess) (x807 : Unit) : Option (Fl Unit Bool) :=
  grp ((decide (a809.Kind = 6) && decide (a809.Content = content_))) fun b824 => grp ((b824 && decide (a809.Place = (a_.Events.getD (a629).toNat default).Place))) fun b825 => bif b825 then some (.ex false) else some (.nx ())
noncomputable def F_ref29_Proves_L2 (a_ : GEstate) (content_ : Int) (t_ : Int) (way_ : List Int) (k628 : Int) (a629 : Int) (x627 : Unit) : Option (Fl Unit Bool) :=
  jn (α := Fl (Int × Bool × Bool × Bool × (List GAccess) × Int × Int × Int × Bool) Bool) (grp ((decide (a629 < 0) || decide ((a_.Events.length : Int) ≤ a629))) fun b784 => bif b784 then some (.ex false) else bif decide (0 < k628) then chk (in64 (k628 - 1)) (chk (inb (k628 - 1) way_.length) (bif decide (a629 ≤ (way_.getD ((k628 - 1)).toNat default)) then some (.ex false) else chk (inb a629 a_.Events.length) (bif decide (t_ < (a_.Events.getD (a629).toNat default).Time) then some (.ex false) else some (.nx (k628, decide (0 < k628), true, decide (a629 ≤ (way_.getD ((k628 - 1)).toNat default)), a_.Events, a629, (a_.Events.getD (a629).toNat default).Time, t_, decide (t_ < (a_.Events.getD (a629).toNat default).Time)))))) else chk (inb a629 a_.Events.length) (bif decide (t_ < (a_.Events.getD (a629).toNat default).Time) then some (.ex false) else some (.nx (k628, decide (0 < k628), false, false, a_.Events, a629, (a_.Events.getD (a629).toNat default).Time, t_, decide (t_ < (a_.Events.getD (a629).toNat default).Time))))) fun o => o.elim (fun j782 => chk (inb a629 a_.Events.length) (jn (α := Fl (Int × Bool × Bool × Bool) Bool) (bif decide (k628 = 0) then bif (!decide ((a_.Events.getD (a629).toNat default).Kind = 5)) then some (.ex false) else bif (!decide ((a_.Events.getD (a629).toNat default).Content = content_)) then some (.ex false) else bif decide (0 < k628) then bif (!decide ((a_.Events.getD (a629).toNat default).Kind = 7)) then some (.ex false) else chk (in64 (k628 - 1)) (chk (inb (k628 - 1) way_.length) (chk (inb (way_.getD ((k628 - 1)).toNat default) a_.Events.length) (bif (!decide ((a_.Events.getD (a629).toNat default).From = (a_.Events.getD ((way_.getD ((k628 - 1)).toNat default)).toNat default).Place)) then some (.ex false) else some (.nx (k628, decide (0 < k628), true, (!decide ((a_.Events.getD (a629).toNat default).From = (a_.Events.getD ((way_.getD ((k628 - 1)).toNat default)).toNat default).Place))))))) else some (.nx (k628, decide (0 < k628), false, false)) else bif decide (0 < k628) then bif (!decide ((a_.Events.getD (a629).toNat default).Kind = 7)) then some (.ex false) else chk (in64 (k628 - 1)) (chk (inb (k628 - 1) way_.length) (chk (inb (way_.getD ((k628 - 1)).toNat default) a_.Events.length) (bif (!decide ((a_.Events.getD (a629).toNat default).From = (a_.Events.getD ((way_.getD ((k628 - 1)).toNat default)).toNat default).Place)) then some (.ex false) else some (.nx (k628, decide (0 < k628), true, (!decide ((a_.Events.getD (a629).toNat default).From = (a_.Events.getD ((way_.getD ((k628 - 1)).toNat default)).toNat default).Place))))))) else some (.nx (k628, decide (0 < k628), false, false))) fun o => o.elim (fun j785 => (F_ref29_happened a_ t_).bind fun y787 => jn (α := Int) (bif decide ((k628 + 1) < (way_.length : Int)) then chk (inb (k628 + 1) way_.length) (chk (in64 (a629 + 1)) (some (min y787 (max (way_.getD ((k628 + 1)).toNat default) (a629 + 1))))) else some y787) fun j788 => chk (in64 (a629 + 1)) (chk (in64 (a629 + 1)) (chk (inc (a629 + 1) (max j788 (a629 + 1)) a_.Events.length) ((forL (F_ref29_Proves_L1 a_ content_ a629) ((a_.Events.take (((max j788 (a629 + 1))).toNat)).drop (((a629 + 1)).toNat)) 0 ()).bind fun o => o.elim (fun x826 => some (.nx ())) (fun r827 => some (.ex r827)))))) (fun r828 => some (.ex r828)))) (fun r829 => some (.ex r829))
noncomputable def F_ref29_Proves (a_ : GEstate) (content_ : Int) (place_ : Int) (t_ : Int) (way_ : List Int) : Option Bool :=
  jn (α := Fl Unit Bool) ((F_ref29_right a_ content_).bind fun y14 => bif (!y14) then grp (true) fun b15 => bif b15 then some (.ex false) else some (.nx ()) else (F_ref27_Place a_ place_).bind fun y16 => grp (((!y16) || decide ((way_.length : Int) = 0))) fun b17 => bif b17 then some (.ex false) else some (.nx ())) fun o => o.elim (fun j9 => (forL (F_ref29_Proves_L2 a_ content_ t_ way_) way_ 0 ()).bind fun o => o.elim (fun x830 => chk (in64 ((way_.length : Int) - 1)) (chk (inb ((way_.length : Int) - 1) way_.length) (chk (inb (way_.getD (((way_.length : Int) - 1)).toNat default) a_.Events.length) (some (decide ((a_.Events.getD ((way_.getD (((way_.length : Int) - 1)).toNat default)).toNat default).Place = place_)))))) (fun r831 => some r831)) (fun r832 => some r832)
@[irreducible] def mg_ref29_Proves_1 : List MOp := [⟨.mv (.t 4), (some 28), (some (27, false))⟩,
 ⟨.len false (.t 28), (some 29), (some (27, false))⟩,
 ⟨.bin false .eql (.t 29) (.c (.int .i64 0)), (some 30), (some (27, false))⟩,
 ⟨.pick (.t 27) (.c (.bool true)) (.t 30), (some 31), none⟩]
@[irreducible] def mg_ref29_Proves_2 : List MOp := [⟨.mv (.t 12), (some 42), (some (41, false))⟩,
 ⟨.fad 1 (.t 5), (some 43), (some (41, false))⟩,
 ⟨.ld none (.t 43), (some 44), (some (41, false))⟩,
 ⟨.len false (.t 44), (some 45), (some (41, false))⟩,
 ⟨.bin false .geq (.t 42) (.t 45), (some 46), (some (41, false))⟩,
 ⟨.pick (.t 41) (.c (.bool true)) (.t 46), (some 47), none⟩]
@[irreducible] def mg_ref29_Proves_3 : List MOp := [⟨.fad 5 (.t 16), (some 149), (some (148, true))⟩,
 ⟨.ld none (.t 149), (some 150), (some (148, true))⟩,
 ⟨.mv (.t 1), (some 151), (some (148, true))⟩,
 ⟨.bin false .eql (.t 150) (.t 151), (some 152), (some (148, true))⟩,
 ⟨.pick (.t 148) (.t 152) (.c (.bool false)), (some 153), none⟩]
@[irreducible] def mg_ref29_Proves_4 : List MOp := [⟨.fad 2 (.t 16), (some 155), (some (154, true))⟩,
 ⟨.ld none (.t 155), (some 156), (some (154, true))⟩,
 ⟨.fad 2 (.t 13), (some 157), (some (154, true))⟩,
 ⟨.ld none (.t 157), (some 158), (some (154, true))⟩,
 ⟨.bin false .eql (.t 156) (.t 158), (some 159), (some (154, true))⟩,
 ⟨.pick (.t 154) (.t 159) (.c (.bool false)), (some 160), none⟩]
@[irreducible] def mc_ref29_Proves_L1 : MC :=
 (.seq (.reg [⟨.bin false .lss (.t 141) (.t 140), (some 142), none⟩])
 (.seq (.cond (.t 142)
 .skip
 (.exit 2))
 (.seq (.block 3
 (.seq (.reg [⟨.iad 7 (.t 139) (.t 141), (some 143), none⟩,
 ⟨.ld (some 7) (.t 143), (some 144), none⟩,
 ⟨.alloc [(.int .i64 0), (.int .i64 0), (.int .i64 0), (.int .i64 0), (.int .i64 0), (.int .i64 0), (.int .i64 0)], (some 16), none⟩,
 ⟨.st 7 (.t 16) (.t 144), none, none⟩])
 (.seq (.regI [.op ⟨.fad 1 (.t 16), (some 145), none⟩,
 .op ⟨.ld none (.t 145), (some 146), none⟩,
 .op ⟨.bin false .eql (.t 146) (.c (.int .i64 6)), (some 147), none⟩,
 .op ⟨.mv (.t 147), (some 148), none⟩,
 .grp mg_ref29_Proves_3,
 .op ⟨.mv (.t 153), (some 154), none⟩,
 .grp mg_ref29_Proves_4])
 (.cond (.t 160)
 (.seq (.reg [⟨.mv (.c (.bool false)), (some 10), none⟩])
 .ret)
 .skip))))
 (.reg [⟨.bin true .add (.t 141) (.c (.int .i64 1)), (some 161), none⟩,
 ⟨.mv (.t 161), (some 141), none⟩]))))
@[irreducible] def mc_ref29_Proves_J1 : MC :=
 (.seq (.reg [⟨.fad 1 (.t 5), (some 131), none⟩,
 ⟨.ld none (.t 131), (some 132), none⟩,
 ⟨.mv (.t 12), (some 133), none⟩,
 ⟨.bin true .add (.t 133) (.c (.int .i64 1)), (some 134), none⟩,
 ⟨.mv (.t 14), (some 135), none⟩,
 ⟨.mv (.t 12), (some 136), none⟩,
 ⟨.bin true .add (.t 136) (.c (.int .i64 1)), (some 137), none⟩,
 ⟨.mm true (.t 135) (.t 137), (some 138), none⟩,
 ⟨.slc 7 (.t 132) (some (.t 134)) (some (.t 138)), (some 139), none⟩,
 ⟨.len false (.t 139), (some 140), none⟩,
 ⟨.mv (.c (.int .i64 0)), (some 141), none⟩])
 (.block 2
 (.loop mc_ref29_Proves_L1)))
@[irreducible] def mc_ref29_Proves_J2 : MC :=
 (.seq (.reg [⟨.ld (some 2) (.t 5), (some 113), none⟩,
 ⟨.mv (.t 3), (some 114), none⟩,
 ⟨.call (.f 32) [(.t 113), (.t 114)] [] [], (some 115), none⟩,
 ⟨.mv (.t 115), (some 14), none⟩])
 (.cut (.seq (.reg [⟨.mv (.t 11), (some 116), none⟩,
 ⟨.bin true .add (.t 116) (.c (.int .i64 1)), (some 117), none⟩,
 ⟨.mv (.t 4), (some 118), none⟩,
 ⟨.len false (.t 118), (some 119), none⟩,
 ⟨.bin false .lss (.t 117) (.t 119), (some 120), none⟩])
 (.cond (.t 120)
 (.note (.gc [1, 2, 3, 4, 5, 11, 12, 13, 14, 32, 33, 34, 42, 43, 44, 45, 46, 49, 50, 51, 52, 53, 54, 55, 56, 57, 58, 59, 62, 63, 64, 65, 66, 67, 68, 69, 79, 80, 81, 82, 83, 84, 85, 86, 87, 90, 91, 92, 93, 94, 95, 96, 97, 98, 99, 100, 101, 102, 103, 104, 105, 106, 107, 108, 109, 110, 111, 149, 150, 151, 152, 155, 156, 157, 158, 159]) (.reg [⟨.mv (.t 14), (some 121), none⟩,
 ⟨.mv (.t 4), (some 122), none⟩,
 ⟨.mv (.t 11), (some 123), none⟩,
 ⟨.bin true .add (.t 123) (.c (.int .i64 1)), (some 124), none⟩,
 ⟨.iad 1 (.t 122) (.t 124), (some 125), none⟩,
 ⟨.ld none (.t 125), (some 126), none⟩,
 ⟨.mv (.t 12), (some 127), none⟩,
 ⟨.bin true .add (.t 127) (.c (.int .i64 1)), (some 128), none⟩,
 ⟨.mm true (.t 126) (.t 128), (some 129), none⟩,
 ⟨.mm false (.t 121) (.t 129), (some 130), none⟩,
 ⟨.mv (.t 130), (some 14), none⟩]))
 .skip))
  mc_ref29_Proves_J1))
@[irreducible] def mc_ref29_Proves_J3 : MC :=
 (.seq (.reg [⟨.fad 1 (.t 5), (some 71), none⟩,
 ⟨.ld none (.t 71), (some 72), none⟩,
 ⟨.mv (.t 12), (some 73), none⟩,
 ⟨.iad 7 (.t 72) (.t 73), (some 74), none⟩,
 ⟨.ld (some 7) (.t 74), (some 75), none⟩,
 ⟨.alloc [(.int .i64 0), (.int .i64 0), (.int .i64 0), (.int .i64 0), (.int .i64 0), (.int .i64 0), (.int .i64 0)], (some 13), none⟩,
 ⟨.st 7 (.t 13) (.t 75), none, none⟩])
 (.cut (.seq (.regD [⟨.mv (.t 11), (some 76), none⟩,
 ⟨.bin false .eql (.t 76) (.c (.int .i64 0)), (some 77), none⟩,
 ⟨.mv (.t 77), (some 78), none⟩,
 ⟨.fad 1 (.t 13), (some 79), (some (78, true))⟩,
 ⟨.ld none (.t 79), (some 80), (some (78, true))⟩,
 ⟨.bin false .neq (.t 80) (.c (.int .i64 5)), (some 81), (some (78, true))⟩,
 ⟨.mv (.t 81), (some 82), (some (78, true))⟩,
 ⟨.fad 5 (.t 13), (some 83), (some (82, false))⟩,
 ⟨.ld none (.t 83), (some 84), (some (82, false))⟩,
 ⟨.mv (.t 1), (some 85), (some (82, false))⟩,
 ⟨.bin false .neq (.t 84) (.t 85), (some 86), (some (82, false))⟩,
 ⟨.pick (.t 82) (.c (.bool true)) (.t 86), (some 87), (some (78, true))⟩,
 ⟨.pick (.t 78) (.t 87) (.c (.bool false)), (some 88), none⟩,
 ⟨.mv (.t 88), (some 89), none⟩,
 ⟨.mv (.t 11), (some 90), (some (89, false))⟩,
 ⟨.bin false .gtr (.t 90) (.c (.int .i64 0)), (some 91), (some (89, false))⟩,
 ⟨.mv (.t 91), (some 92), (some (89, false))⟩,
 ⟨.fad 1 (.t 13), (some 93), (some (92, true))⟩,
 ⟨.ld none (.t 93), (some 94), (some (92, true))⟩,
 ⟨.bin false .neq (.t 94) (.c (.int .i64 7)), (some 95), (some (92, true))⟩,
 ⟨.mv (.t 95), (some 96), (some (92, true))⟩,
 ⟨.fad 6 (.t 13), (some 97), (some (96, false))⟩,
 ⟨.ld none (.t 97), (some 98), (some (96, false))⟩,
 ⟨.fad 1 (.t 5), (some 99), (some (96, false))⟩,
 ⟨.ld none (.t 99), (some 100), (some (96, false))⟩,
 ⟨.mv (.t 4), (some 101), (some (96, false))⟩,
 ⟨.mv (.t 11), (some 102), (some (96, false))⟩,
 ⟨.bin true .sub (.t 102) (.c (.int .i64 1)), (some 103), (some (96, false))⟩,
 ⟨.iad 1 (.t 101) (.t 103), (some 104), (some (96, false))⟩,
 ⟨.ld none (.t 104), (some 105), (some (96, false))⟩,
 ⟨.iad 7 (.t 100) (.t 105), (some 106), (some (96, false))⟩,
 ⟨.fad 2 (.t 106), (some 107), (some (96, false))⟩,
 ⟨.ld none (.t 107), (some 108), (some (96, false))⟩,
 ⟨.bin false .neq (.t 98) (.t 108), (some 109), (some (96, false))⟩,
 ⟨.pick (.t 96) (.c (.bool true)) (.t 109), (some 110), (some (92, true))⟩,
 ⟨.pick (.t 92) (.t 110) (.c (.bool false)), (some 111), (some (89, false))⟩,
 ⟨.pick (.t 89) (.c (.bool true)) (.t 111), (some 112), none⟩]
    [[], [0], [1], [2], [3, 2], [4, 2], [5, 2, 2], [6], [7, 6], [6], [8, 9, 6], [6, 10, 2], [2, 11], [12, 6], [13], [14, 13], [15, 13, 13], [16], [17, 16], [18, 16], [19, 16, 16], [20], [21, 20], [20], [23, 20], [20], [20], [26, 20], [25, 27, 20], [28, 20], [24, 29, 20], [30, 20], [31, 20], [22, 32, 20], [20, 33, 16], [16, 34, 13], [13, 35]]
    [[], [0], [0, 1], [0, 1, 2], [0, 1, 2, 3], [0, 1, 2, 3, 4], [0, 1, 2, 3, 4, 5], [0, 1, 2, 3, 4, 5, 6], [0, 1, 2, 3, 4, 5, 6, 7], [0, 1, 2, 3, 4, 5, 6], [0, 1, 2, 3, 4, 5, 6, 7, 8, 9], [0, 1, 2, 3, 4, 5, 6, 7, 8, 9, 10], [0, 1, 2, 3, 4, 5, 6, 7, 8, 9, 10, 11], [0, 1, 2, 3, 4, 5, 6, 7, 8, 9, 10, 11, 12], [0, 1, 2, 3, 4, 5, 6, 7, 8, 9, 10, 11, 12, 13], [0, 1, 2, 3, 4, 5, 6, 7, 8, 9, 10, 11, 12, 13, 14], [0, 1, 2, 3, 4, 5, 6, 7, 8, 9, 10, 11, 12, 13, 14, 15], [0, 1, 2, 3, 4, 5, 6, 7, 8, 9, 10, 11, 12, 13, 14, 15, 16], [0, 1, 2, 3, 4, 5, 6, 7, 8, 9, 10, 11, 12, 13, 14, 15, 16, 17], [0, 1, 2, 3, 4, 5, 6, 7, 8, 9, 10, 11, 12, 13, 14, 15, 16, 17, 18], [0, 1, 2, 3, 4, 5, 6, 7, 8, 9, 10, 11, 12, 13, 14, 15, 16, 17, 18, 19], [0, 1, 2, 3, 4, 5, 6, 7, 8, 9, 10, 11, 12, 13, 14, 15, 16, 17, 18, 19, 20], [0, 1, 2, 3, 4, 5, 6, 7, 8, 9, 10, 11, 12, 13, 14, 15, 16, 17, 18, 19, 20, 21], [0, 1, 2, 3, 4, 5, 6, 7, 8, 9, 10, 11, 12, 13, 14, 15, 16, 17, 18, 19, 20], [0, 1, 2, 3, 4, 5, 6, 7, 8, 9, 10, 11, 12, 13, 14, 15, 16, 17, 18, 19, 20, 23], [0, 1, 2, 3, 4, 5, 6, 7, 8, 9, 10, 11, 12, 13, 14, 15, 16, 17, 18, 19, 20], [0, 1, 2, 3, 4, 5, 6, 7, 8, 9, 10, 11, 12, 13, 14, 15, 16, 17, 18, 19, 20], [0, 1, 2, 3, 4, 5, 6, 7, 8, 9, 10, 11, 12, 13, 14, 15, 16, 17, 18, 19, 20, 26], [0, 1, 2, 3, 4, 5, 6, 7, 8, 9, 10, 11, 12, 13, 14, 15, 16, 17, 18, 19, 20, 25, 26, 27], [0, 1, 2, 3, 4, 5, 6, 7, 8, 9, 10, 11, 12, 13, 14, 15, 16, 17, 18, 19, 20, 25, 26, 27, 28], [0, 1, 2, 3, 4, 5, 6, 7, 8, 9, 10, 11, 12, 13, 14, 15, 16, 17, 18, 19, 20, 23, 24, 25, 26, 27, 28, 29], [0, 1, 2, 3, 4, 5, 6, 7, 8, 9, 10, 11, 12, 13, 14, 15, 16, 17, 18, 19, 20, 23, 24, 25, 26, 27, 28, 29, 30], [0, 1, 2, 3, 4, 5, 6, 7, 8, 9, 10, 11, 12, 13, 14, 15, 16, 17, 18, 19, 20, 23, 24, 25, 26, 27, 28, 29, 30, 31], [0, 1, 2, 3, 4, 5, 6, 7, 8, 9, 10, 11, 12, 13, 14, 15, 16, 17, 18, 19, 20, 21, 22, 23, 24, 25, 26, 27, 28, 29, 30, 31, 32], [0, 1, 2, 3, 4, 5, 6, 7, 8, 9, 10, 11, 12, 13, 14, 15, 16, 17, 18, 19, 20, 21, 22, 23, 24, 25, 26, 27, 28, 29, 30, 31, 32, 33], [0, 1, 2, 3, 4, 5, 6, 7, 8, 9, 10, 11, 12, 13, 14, 15, 16, 17, 18, 19, 20, 21, 22, 23, 24, 25, 26, 27, 28, 29, 30, 31, 32, 33, 34], [0, 1, 2, 3, 4, 5, 6, 7, 8, 9, 10, 11, 12, 13, 14, 15, 16, 17, 18, 19, 20, 21, 22, 23, 24, 25, 26, 27, 28, 29, 30, 31, 32, 33, 34, 35]])
 (.cond (.t 112)
 (.seq (.reg [⟨.mv (.c (.bool false)), (some 10), none⟩])
 .ret)
 .skip))
  mc_ref29_Proves_J2))
@[irreducible] def mc_ref29_Proves_L2 : MC :=
 (.seq (.reg [⟨.bin false .lss (.t 34) (.t 33), (some 35), none⟩])
 (.seq (.cond (.t 35)
 .skip
 (.exit 0))
 (.seq (.block 1
 (.seq (.reg [⟨.mv (.t 34), (some 36), none⟩,
 ⟨.iad 1 (.t 32) (.t 34), (some 37), none⟩,
 ⟨.ld none (.t 37), (some 38), none⟩,
 ⟨.mv (.t 36), (some 11), none⟩,
 ⟨.mv (.t 38), (some 12), none⟩])
 (.cut (.seq (.regI [.op ⟨.mv (.t 12), (some 39), none⟩,
 .op ⟨.bin false .lss (.t 39) (.c (.int .i64 0)), (some 40), none⟩,
 .op ⟨.mv (.t 40), (some 41), none⟩,
 .grp mg_ref29_Proves_2,
 .op ⟨.mv (.t 47), (some 48), none⟩,
 .op ⟨.mv (.t 11), (some 49), (some (48, false))⟩,
 .op ⟨.bin false .gtr (.t 49) (.c (.int .i64 0)), (some 50), (some (48, false))⟩,
 .op ⟨.mv (.t 50), (some 51), (some (48, false))⟩,
 .op ⟨.mv (.t 12), (some 52), (some (51, true))⟩,
 .op ⟨.mv (.t 4), (some 53), (some (51, true))⟩,
 .op ⟨.mv (.t 11), (some 54), (some (51, true))⟩,
 .op ⟨.bin true .sub (.t 54) (.c (.int .i64 1)), (some 55), (some (51, true))⟩,
 .op ⟨.iad 1 (.t 53) (.t 55), (some 56), (some (51, true))⟩,
 .op ⟨.ld none (.t 56), (some 57), (some (51, true))⟩,
 .op ⟨.bin false .leq (.t 52) (.t 57), (some 58), (some (51, true))⟩,
 .op ⟨.pick (.t 51) (.t 58) (.c (.bool false)), (some 59), (some (48, false))⟩,
 .op ⟨.pick (.t 48) (.c (.bool true)) (.t 59), (some 60), none⟩,
 .op ⟨.mv (.t 60), (some 61), none⟩,
 .op ⟨.fad 1 (.t 5), (some 62), (some (61, false))⟩,
 .op ⟨.ld none (.t 62), (some 63), (some (61, false))⟩,
 .op ⟨.mv (.t 12), (some 64), (some (61, false))⟩,
 .op ⟨.iad 7 (.t 63) (.t 64), (some 65), (some (61, false))⟩,
 .op ⟨.fad 0 (.t 65), (some 66), (some (61, false))⟩,
 .op ⟨.ld none (.t 66), (some 67), (some (61, false))⟩,
 .op ⟨.mv (.t 3), (some 68), (some (61, false))⟩,
 .op ⟨.bin false .gtr (.t 67) (.t 68), (some 69), (some (61, false))⟩,
 .op ⟨.pick (.t 61) (.c (.bool true)) (.t 69), (some 70), none⟩])
 (.cond (.t 70)
 (.seq (.reg [⟨.mv (.c (.bool false)), (some 10), none⟩])
 .ret)
 .skip))
  mc_ref29_Proves_J3)))
 (.reg [⟨.bin true .add (.t 34) (.c (.int .i64 1)), (some 162), none⟩,
 ⟨.mv (.t 162), (some 34), none⟩]))))
@[irreducible] def mc_ref29_Proves_J4 : MC :=
 (.seq (.seq (.reg [⟨.mv (.t 4), (some 32), none⟩,
 ⟨.len false (.t 32), (some 33), none⟩,
 ⟨.mv (.c (.int .i64 0)), (some 34), none⟩])
 (.block 0
 (.loop mc_ref29_Proves_L2)))
 (.seq (.regD [⟨.fad 1 (.t 5), (some 163), none⟩,
 ⟨.ld none (.t 163), (some 164), none⟩,
 ⟨.mv (.t 4), (some 165), none⟩,
 ⟨.mv (.t 4), (some 166), none⟩,
 ⟨.len false (.t 166), (some 167), none⟩,
 ⟨.bin true .sub (.t 167) (.c (.int .i64 1)), (some 168), none⟩,
 ⟨.iad 1 (.t 165) (.t 168), (some 169), none⟩,
 ⟨.ld none (.t 169), (some 170), none⟩,
 ⟨.iad 7 (.t 164) (.t 170), (some 171), none⟩,
 ⟨.fad 2 (.t 171), (some 172), none⟩,
 ⟨.ld none (.t 172), (some 173), none⟩,
 ⟨.mv (.t 2), (some 174), none⟩,
 ⟨.bin false .eql (.t 173) (.t 174), (some 175), none⟩,
 ⟨.mv (.t 175), (some 10), none⟩]
    [[], [0], [], [], [3], [4], [2, 5], [6], [1, 7], [8], [9], [], [10, 11], [12, 0, 1, 2, 3, 4, 5, 6, 7, 8, 9, 10, 11, 12]]
    [[], [0], [], [], [3], [3, 4], [2, 3, 4, 5], [2, 3, 4, 5, 6], [0, 1, 2, 3, 4, 5, 6, 7], [0, 1, 2, 3, 4, 5, 6, 7, 8], [0, 1, 2, 3, 4, 5, 6, 7, 8, 9], [], [0, 1, 2, 3, 4, 5, 6, 7, 8, 9, 10, 11], [0, 1, 2, 3, 4, 5, 6, 7, 8, 9, 10, 11, 12]])
 .ret))
def mc_ref29_Proves : MC :=
 (.seq (.reg [⟨.box (.t 0), (some 5), none⟩,
 ⟨.mv (.c (.bool false)), (some 10), none⟩])
 (.cut (.seq (.regI [.op ⟨.ld (some 2) (.t 5), (some 17), none⟩,
 .op ⟨.mv (.t 1), (some 18), none⟩,
 .op ⟨.call (.f 39) [(.t 17), (.t 18)] [] [], (some 19), none⟩,
 .op ⟨.not (.t 19), (some 20), none⟩,
 .op ⟨.mv (.t 20), (some 21), none⟩,
 .op ⟨.ld (some 2) (.t 5), (some 22), (some (21, false))⟩,
 .op ⟨.mv (.t 2), (some 23), (some (21, false))⟩,
 .op ⟨.call (.f 30) [(.t 22), (.t 23)] [] [], (some 24), (some (21, false))⟩,
 .op ⟨.not (.t 24), (some 25), (some (21, false))⟩,
 .op ⟨.pick (.t 21) (.c (.bool true)) (.t 25), (some 26), none⟩,
 .op ⟨.mv (.t 26), (some 27), none⟩,
 .grp mg_ref29_Proves_1])
 (.cond (.t 31)
 (.seq (.reg [⟨.mv (.c (.bool false)), (some 10), none⟩])
 .ret)
 .skip))
  mc_ref29_Proves_J4))
theorem ok_ref29_Proves : mc_ref29_Proves.ok Tryz.prog Tryz.f48.ntmps (Tryz.f48.body.getD .skip) = true := by kernel_rfl
set_option maxHeartbeats 2000000 in
theorem Wq_ref29_Proves (a_ : GEstate) (content_ : Int) (place_ : Int) (t_ : Int) (way_ : List Int) {Q : Bool → Prop} {Q' : V → Heap → Prop} (h : Ok (F_ref29_Proves a_ content_ place_ t_ way_) Q) (hQ : ∀ z, Q z → Q' (.bool z) []) : ACall Tryz.prog 48 [GEstate.v a_, .int .i64 content_, .int .i64 place_, .int .i64 t_, .sl (way_.map (V.int .i64))] [] Q' := by
  refine acall_machN [] [] [.t 10] Tryz.func48 rfl (by kernel_rfl) ok_ref29_Proves (by kernel_rfl) rfl rfl fun M hf => ?_
  clear hf
  unfold F_ref29_Proves at h
  unfold mc_ref29_Proves
  (try replace h := tH h)
  refine tB ?_
  repeat' (first
  |(exact hQ _ h)
  |(exact trivial)
  |(exact False.elim h)
  |(have hq := hQ _ h; replace hq := tH hq; exact hq)
  |(refine oblg h ?_; clear h; intro hc h)
  |(refine roomG h ?_; clear h; intro hc h)
  |(refine fork h ?_ ?_ <;> clear h <;> intro hc h)
  |(refine forkS h ?_ ?_ <;> clear h <;> intro hc h)
  |(refine And.intro (chkD_of rfl) ?_)
  |(obtain ⟨y, hy, h⟩ := h; (first | with_reducible first | have hw := W_ref29_right hy | have hw := W_ref27_Place hy | have hw := W_ref29_happened hy); (try replace hw := tH hw); (first | (refine sCall_of hw rfl rfl ?_; rw [M.lok_eq]) | (refine sCallD_of hw rfl rfl ?_; rw [M.lokD_eq])); clear hw; clear hy; refine tB ?_)
  |(refine M.gv1 (ms := mg_ref29_Proves_1) 31 [28, 29, 30] h ?_ ?_ <;> first
   |(clear h; intro K hK1; unfold mg_ref29_Proves_1; refine tB ?_)
   |(clear h; intro b h; (try replace h := tH h); refine tB ?_)
       | fail)
  |(refine M.gv1 (ms := mg_ref29_Proves_1) 31 [28, 29, 30] h ?_ ?_ <;> first
   |(clear h; intro K hK2; unfold mg_ref29_Proves_1; refine tB ?_)
   |(clear h; intro b h; (try replace h := tH h); refine tB ?_)
       | fail)
  |(refine M.gv1 (ms := mg_ref29_Proves_2) 47 [42, 43, 44, 45, 46] h ?_ ?_ <;> first
   |(clear h; intro K hK3; unfold mg_ref29_Proves_2; refine tB ?_)
   |(clear h; intro b h; (try replace h := tH h); refine tB ?_)
       | fail)
  |(refine M.gv1 (ms := mg_ref29_Proves_4) 160 [155, 156, 157, 158, 159] h ?_ ?_ <;> first
   |(clear h; intro K hK4; unfold mg_ref29_Proves_4; refine tB ?_)
   |(clear h; intro b h; (try replace h := tH h); refine tB ?_)
       | fail)
  |(refine M.gv1 (ms := mg_ref29_Proves_3) 153 [149, 150, 151, 152] h ?_ ?_ <;> first
   |(clear h; intro K hK5; unfold mg_ref29_Proves_3; refine tB ?_)
   |(clear h; intro b h; (try replace h := tH h); refine tB ?_)
       | fail)
  |(refine M.for1 (b := mc_ref29_Proves_L1) 141 [1, 2, 3, 4, 5, 13, 32, 33, 34, 49, 50, 51, 59, 62, 63, 64, 67, 68, 69, 90, 91, 92, 111, 139, 140] [5, 13] (fun x => []) (fun x => []) [] h ?_ ?_ ?_ <;> first
   |(clear h; intro k a x Qn K hK6 hkN6 ha6 h hf; have hl := fact_int (factsE_find (n := 140) hf.1 rfl); clear hf; have hkd := kD hkN6; have hkB6 := kB hkN6; have hkI6 : in64 ((k : Int) + 1) = true := in64_iff.2 ⟨by omega, by (try simp only [List.length_cons, List.length_nil] at hkN6); omega⟩; unfold F_ref29_Proves_L1 at h; unfold mc_ref29_Proves_L1; (try replace h := tH h); refine tK ha6 hkd hkN6 hkB6 hkI6 ?_)
   |(clear h; intro x K h; replace h := And.left (And.intro h trivial); unfold mc_ref29_Proves_L1; (try replace h := tH h); refine tB ?_)
   |(clear h; (try refine tB ?_); exact tU0; done)
       | fail)
  |(refine M.jn1 (b := mc_ref29_Proves_J1) [1, 2, 3, 4, 5, 12, 13, 32, 33, 34, 49, 50, 51, 59, 62, 63, 64, 67, 68, 69, 90, 91, 92, 111] [5, 13] (fun y => [(14, .int .i64 y)]) (fun y => []) [] h ?_ ?_ <;> first
   |(clear h; intro Qn K hK7 h; (try replace h := tH h); refine tB ?_)
   |(clear h; intro y h; unfold mc_ref29_Proves_J1; (try replace h := tH h); refine tB ?_)
       | fail)
  |(refine M.jnE (b := mc_ref29_Proves_J2) [1, 2, 3, 4, 5, 11, 12, 13, 32, 33, 34, 49, 50, 51, 59, 62, 63, 64, 67, 68, 69] [5, 13] (fun y => [(90, .int .i64 y.1), (91, .bool y.2.1), (92, .bool y.2.2.1), (111, .bool y.2.2.2)]) (fun y => []) [] h ?_ ?_ <;> first
   |(clear h; intro Qn K hK8 h; (try replace h := tH h); refine tB ?_)
   |(clear h; intro y h; unfold mc_ref29_Proves_J2; (try replace h := tH h); refine tB ?_)
       | fail)
  |(refine M.jnE (b := mc_ref29_Proves_J3) [1, 2, 3, 4, 5, 11, 12, 32, 33, 34] [5] (fun y => [(49, .int .i64 y.1), (50, .bool y.2.1), (51, .bool y.2.2.1), (59, .bool y.2.2.2.1), (62, .ptr 5 1), (63, .sl (y.2.2.2.2.1.map GAccess.v)), (64, .int .i64 y.2.2.2.2.2.1), (67, .int .i64 y.2.2.2.2.2.2.1), (68, .int .i64 y.2.2.2.2.2.2.2.1), (69, .bool y.2.2.2.2.2.2.2.2)]) (fun y => []) [] h ?_ ?_ <;> first
   |(clear h; intro Qn K hK9 h; (try replace h := tH h); refine tB ?_)
   |(clear h; intro y h; unfold mc_ref29_Proves_J3; (try replace h := tH h); refine tB ?_)
       | fail)
  |(refine M.for1 (b := mc_ref29_Proves_L2) 34 [1, 2, 3, 4, 5, 32, 33] [5] (fun x => []) (fun x => []) [] h ?_ ?_ ?_ <;> first
   |(clear h; intro k a x Qn K hK10 hkN10 ha10 h hf; have hl := fact_int (factsE_find (n := 33) hf.1 rfl); clear hf; have hkd := kD hkN10; have hkB10 := kB hkN10; have hkI10 : in64 ((k : Int) + 1) = true := in64_iff.2 ⟨by omega, by (try simp only [List.length_cons, List.length_nil] at hkN10); omega⟩; unfold F_ref29_Proves_L2 at h; unfold mc_ref29_Proves_L2; (try replace h := tH h); refine tK ha10 hkd hkN10 hkB10 hkI10 ?_)
   |(clear h; intro x K h; replace h := And.left (And.intro h trivial); unfold mc_ref29_Proves_L2; (try replace h := tH h); refine tB ?_)
   |(clear h; (try refine tB ?_); exact tU0; done)
       | fail)
  |(refine M.jnE (b := mc_ref29_Proves_J4) [1, 2, 3, 4, 5] [5] (fun y => []) (fun y => []) [] h ?_ ?_ <;> first
   |(clear h; intro Qn K hK11 h; (try replace h := tH h); refine tB ?_)
   |(clear h; intro y h; unfold mc_ref29_Proves_J4; (try replace h := tH h); refine tB ?_)
       | fail)
  |(refine And.intro (by first | exact hkI6 | exact hkN6 | exact hkB6 | exact hkI10 | exact hkN10 | exact hkB10) ?_)
  |(first | simp only [ha6] | simp only [ha10])
  |((first | refine hK1 _ ?_ | refine hK2 _ ?_ | refine hK3 _ ?_ | refine hK4 _ ?_ | refine hK5 _ ?_); exact tU; done)
  |((first | refine hK6 _ ?_ | refine hK7 _ ?_ | refine hK8 _ ?_ | refine hK9 _ ?_ | refine hK10 _ ?_ | refine hK11 _ ?_); (try refine tB ?_); refine ⟨_, h, ?_⟩; exact tU0; done)
  |(refine bfork (fun hc => ?_) (fun hc => ?_))
  |(refine ⟨_, getE_map (inb_toNat (by assumption)), ?_⟩; (first | rw [M.lok_compU] | rw [M.lokD_compU]); refine tB ?_)
  |(refine And.intro (ltb_of (by assumption)) ?_)
  |(refine And.intro (inb_nat (by assumption)) ?_)
  |(refine And.intro (by omega) ?_)
    | fail)
theorem W_ref29_Proves : ∀ {a_ : GEstate} {content_ : Int} {place_ : Int} {t_ : Int} {way_ : List Int} {y : Bool}, F_ref29_Proves a_ content_ place_ t_ way_ = some y → ACall Tryz.prog 48 [GEstate.v a_, .int .i64 content_, .int .i64 place_, .int .i64 t_, .sl (way_.map (V.int .i64))] [] (fun r H => r = .bool y ∧ H = []) :=
  fun hy => Wq_ref29_Proves _ _ _ _ _ (Q := fun z => z = _) ⟨_, hy, rfl⟩ fun z e => by subst e; exact ⟨rfl, rfl⟩
def F_ref27_Open_L1 (place_ : Int) (t_ : Int) (k79 : Int) (a80 : GAccess) (x78 : Unit) : Option (Fl Unit Bool) :=
  grp ((decide (a80.Kind = 4) && decide (a80.Place = place_))) fun b95 => grp ((b95 && decide (a80.Time ≤ t_))) fun b96 => bif b96 then some (.ex false) else some (.nx ())
def F_ref27_Open (a_ : GEstate) (place_ : Int) (link_ : Int) (t_ : Int) : Option Bool :=
  (F_ref27_Place a_ place_).bind fun y7 => bif (!y7) then some false else chk (in64 ((a_.Events.length : Int) - 1)) ((F_ref27_in link_ 0 ((a_.Events.length : Int) - 1)).bind fun y8 => bif (!y8) then some false else chk (inb link_ a_.Events.length) (grp (((!decide ((a_.Events.getD (link_).toNat default).Kind = 3)) || (!decide ((a_.Events.getD (link_).toNat default).Place = place_)))) fun b18 => grp ((b18 || decide (t_ < (a_.Events.getD (link_).toNat default).Time))) fun b19 => grp ((b19 || decide ((a_.Events.getD (link_).toNat default).Until ≤ t_))) fun b20 => bif b20 then some false else chk (in64 (link_ + 1)) (chk (inc (link_ + 1) (a_.Events.length : Int) a_.Events.length) ((forL (F_ref27_Open_L1 place_ t_) (a_.Events.drop (((link_ + 1)).toNat)) 0 ()).bind fun o => o.elim (fun x97 => some true) (fun r98 => some r98)))))
@[irreducible] def mg_ref27_Open_1 : List MOp := [⟨.fad 2 (.t 9), (some 34), (some (33, false))⟩,
 ⟨.ld none (.t 34), (some 35), (some (33, false))⟩,
 ⟨.mv (.t 1), (some 36), (some (33, false))⟩,
 ⟨.bin false .neq (.t 35) (.t 36), (some 37), (some (33, false))⟩,
 ⟨.pick (.t 33) (.c (.bool true)) (.t 37), (some 38), none⟩]
@[irreducible] def mg_ref27_Open_2 : List MOp := [⟨.fad 0 (.t 9), (some 40), (some (39, false))⟩,
 ⟨.ld none (.t 40), (some 41), (some (39, false))⟩,
 ⟨.mv (.t 3), (some 42), (some (39, false))⟩,
 ⟨.bin false .gtr (.t 41) (.t 42), (some 43), (some (39, false))⟩,
 ⟨.pick (.t 39) (.c (.bool true)) (.t 43), (some 44), none⟩]
@[irreducible] def mg_ref27_Open_3 : List MOp := [⟨.fad 4 (.t 9), (some 46), (some (45, false))⟩,
 ⟨.ld none (.t 46), (some 47), (some (45, false))⟩,
 ⟨.mv (.t 3), (some 48), (some (45, false))⟩,
 ⟨.bin false .leq (.t 47) (.t 48), (some 49), (some (45, false))⟩,
 ⟨.pick (.t 45) (.c (.bool true)) (.t 49), (some 50), none⟩]
@[irreducible] def mg_ref27_Open_4 : List MOp := [⟨.fad 2 (.t 11), (some 65), (some (64, true))⟩,
 ⟨.ld none (.t 65), (some 66), (some (64, true))⟩,
 ⟨.mv (.t 1), (some 67), (some (64, true))⟩,
 ⟨.bin false .eql (.t 66) (.t 67), (some 68), (some (64, true))⟩,
 ⟨.pick (.t 64) (.t 68) (.c (.bool false)), (some 69), none⟩]
@[irreducible] def mg_ref27_Open_5 : List MOp := [⟨.fad 0 (.t 11), (some 71), (some (70, true))⟩,
 ⟨.ld none (.t 71), (some 72), (some (70, true))⟩,
 ⟨.mv (.t 3), (some 73), (some (70, true))⟩,
 ⟨.bin false .leq (.t 72) (.t 73), (some 74), (some (70, true))⟩,
 ⟨.pick (.t 70) (.t 74) (.c (.bool false)), (some 75), none⟩]
@[irreducible] def mc_ref27_Open_L1 : MC :=
 (.seq (.reg [⟨.bin false .lss (.t 57) (.t 56), (some 58), none⟩])
 (.seq (.cond (.t 58)
 .skip
 (.exit 0))
 (.seq (.block 1
 (.seq (.reg [⟨.iad 7 (.t 55) (.t 57), (some 59), none⟩,
 ⟨.ld (some 7) (.t 59), (some 60), none⟩,
 ⟨.alloc [(.int .i64 0), (.int .i64 0), (.int .i64 0), (.int .i64 0), (.int .i64 0), (.int .i64 0), (.int .i64 0)], (some 11), none⟩,
 ⟨.st 7 (.t 11) (.t 60), none, none⟩])
 (.seq (.regI [.op ⟨.fad 1 (.t 11), (some 61), none⟩,
 .op ⟨.ld none (.t 61), (some 62), none⟩,
 .op ⟨.bin false .eql (.t 62) (.c (.int .i64 4)), (some 63), none⟩,
 .op ⟨.mv (.t 63), (some 64), none⟩,
 .grp mg_ref27_Open_4,
 .op ⟨.mv (.t 69), (some 70), none⟩,
 .grp mg_ref27_Open_5])
 (.cond (.t 75)
 (.seq (.reg [⟨.mv (.c (.bool false)), (some 8), none⟩])
 .ret)
 .skip))))
 (.reg [⟨.bin true .add (.t 57) (.c (.int .i64 1)), (some 76), none⟩,
 ⟨.mv (.t 76), (some 57), none⟩]))))
def mc_ref27_Open : MC :=
 (.seq (.reg [⟨.box (.t 0), (some 4), none⟩,
 ⟨.mv (.c (.bool false)), (some 8), none⟩])
 (.seq (.seq (.reg [⟨.ld (some 2) (.t 4), (some 12), none⟩,
 ⟨.mv (.t 1), (some 13), none⟩,
 ⟨.call (.f 30) [(.t 12), (.t 13)] [] [], (some 14), none⟩,
 ⟨.not (.t 14), (some 15), none⟩,
 ⟨.mv (.t 15), (some 16), none⟩,
 ⟨.mv (.t 2), (some 17), (some (16, false))⟩,
 ⟨.fad 1 (.t 4), (some 18), (some (16, false))⟩,
 ⟨.ld none (.t 18), (some 19), (some (16, false))⟩,
 ⟨.len false (.t 19), (some 20), (some (16, false))⟩,
 ⟨.bin true .sub (.t 20) (.c (.int .i64 1)), (some 21), (some (16, false))⟩,
 ⟨.call (.f 54) [(.t 17), (.c (.int .i64 0)), (.t 21)] [] [], (some 22), (some (16, false))⟩,
 ⟨.not (.t 22), (some 23), (some (16, false))⟩,
 ⟨.pick (.t 16) (.c (.bool true)) (.t 23), (some 24), none⟩])
 (.cond (.t 24)
 (.seq (.reg [⟨.mv (.c (.bool false)), (some 8), none⟩])
 .ret)
 .skip))
 (.seq (.note (.gc [1, 2, 3, 4, 34, 35, 36, 37, 40, 41, 42, 43, 46, 47, 48, 49, 65, 66, 67, 68, 71, 72, 73, 74]) (.reg [⟨.fad 1 (.t 4), (some 25), none⟩,
 ⟨.ld none (.t 25), (some 26), none⟩,
 ⟨.mv (.t 2), (some 27), none⟩,
 ⟨.iad 7 (.t 26) (.t 27), (some 28), none⟩,
 ⟨.ld (some 7) (.t 28), (some 29), none⟩,
 ⟨.alloc [(.int .i64 0), (.int .i64 0), (.int .i64 0), (.int .i64 0), (.int .i64 0), (.int .i64 0), (.int .i64 0)], (some 9), none⟩,
 ⟨.st 7 (.t 9) (.t 29), none, none⟩]))
 (.seq (.seq (.regI [.op ⟨.fad 1 (.t 9), (some 30), none⟩,
 .op ⟨.ld none (.t 30), (some 31), none⟩,
 .op ⟨.bin false .neq (.t 31) (.c (.int .i64 3)), (some 32), none⟩,
 .op ⟨.mv (.t 32), (some 33), none⟩,
 .grp mg_ref27_Open_1,
 .op ⟨.mv (.t 38), (some 39), none⟩,
 .grp mg_ref27_Open_2,
 .op ⟨.mv (.t 44), (some 45), none⟩,
 .grp mg_ref27_Open_3])
 (.cond (.t 50)
 (.seq (.reg [⟨.mv (.c (.bool false)), (some 8), none⟩])
 .ret)
 .skip))
 (.seq (.seq (.note (.gc [1, 2, 3, 4, 65, 66, 67, 68, 71, 72, 73, 74]) (.reg [⟨.fad 1 (.t 4), (some 51), none⟩,
 ⟨.ld none (.t 51), (some 52), none⟩,
 ⟨.mv (.t 2), (some 53), none⟩,
 ⟨.bin true .add (.t 53) (.c (.int .i64 1)), (some 54), none⟩,
 ⟨.slc 7 (.t 52) (some (.t 54)) none, (some 55), none⟩,
 ⟨.len false (.t 55), (some 56), none⟩,
 ⟨.mv (.c (.int .i64 0)), (some 57), none⟩]))
 (.block 0
 (.loop mc_ref27_Open_L1)))
 (.seq (.reg [⟨.mv (.c (.bool true)), (some 8), none⟩])
 .ret))))))
theorem ok_ref27_Open : mc_ref27_Open.ok Tryz.prog Tryz.f40.ntmps (Tryz.f40.body.getD .skip) = true := by kernel_rfl
set_option maxHeartbeats 2000000 in
theorem Wq_ref27_Open (a_ : GEstate) (place_ : Int) (link_ : Int) (t_ : Int) {Q : Bool → Prop} {Q' : V → Heap → Prop} (h : Ok (F_ref27_Open a_ place_ link_ t_) Q) (hQ : ∀ z, Q z → Q' (.bool z) []) : ACall Tryz.prog 40 [GEstate.v a_, .int .i64 place_, .int .i64 link_, .int .i64 t_] [] Q' := by
  refine acall_machN [] [] [.t 8] Tryz.func40 rfl (by kernel_rfl) ok_ref27_Open (by kernel_rfl) rfl rfl fun M hf => ?_
  clear hf
  unfold F_ref27_Open at h
  unfold mc_ref27_Open
  (try replace h := tH h)
  refine tB ?_
  repeat' (first
  |(exact hQ _ h)
  |(exact trivial)
  |(exact False.elim h)
  |(have hq := hQ _ h; replace hq := tH hq; exact hq)
  |(refine oblg h ?_; clear h; intro hc h)
  |(refine roomG h ?_; clear h; intro hc h)
  |(refine fork h ?_ ?_ <;> clear h <;> intro hc h)
  |(refine forkS h ?_ ?_ <;> clear h <;> intro hc h)
  |(refine And.intro (chkD_of rfl) ?_)
  |(obtain ⟨y, hy, h⟩ := h; (first | with_reducible first | have hw := W_ref27_Place hy | have hw := W_ref27_in hy); (try replace hw := tH hw); (first | (refine sCall_of hw rfl rfl ?_; rw [M.lok_eq]) | (refine sCallD_of hw rfl rfl ?_; rw [M.lokD_eq])); clear hw; clear hy; refine tB ?_)
  |(refine M.gv1 (ms := mg_ref27_Open_5) 75 [71, 72, 73, 74] h ?_ ?_ <;> first
   |(clear h; intro K hK1; unfold mg_ref27_Open_5; refine tB ?_)
   |(clear h; intro b h; (try replace h := tH h); refine tB ?_)
       | fail)
  |(refine M.gv1 (ms := mg_ref27_Open_4) 69 [65, 66, 67, 68] h ?_ ?_ <;> first
   |(clear h; intro K hK2; unfold mg_ref27_Open_4; refine tB ?_)
   |(clear h; intro b h; (try replace h := tH h); refine tB ?_)
       | fail)
  |(refine M.for1 (b := mc_ref27_Open_L1) 57 [1, 3, 55, 56] [] (fun x => []) (fun x => []) [] h ?_ ?_ ?_ <;> first
   |(clear h; intro k a x Qn K hK3 hkN3 ha3 h hf; have hl := fact_int (factsE_find (n := 56) hf.1 rfl); clear hf; have hkd := kD hkN3; have hkB3 := kB hkN3; have hkI3 : in64 ((k : Int) + 1) = true := in64_iff.2 ⟨by omega, by (try simp only [List.length_cons, List.length_nil] at hkN3); omega⟩; unfold F_ref27_Open_L1 at h; unfold mc_ref27_Open_L1; (try replace h := tH h); refine tK ha3 hkd hkN3 hkB3 hkI3 ?_)
   |(clear h; intro x K h; replace h := And.left (And.intro h trivial); unfold mc_ref27_Open_L1; (try replace h := tH h); refine tB ?_)
   |(clear h; (try refine tB ?_); exact tU0; done)
       | fail)
  |(refine M.gv1 (ms := mg_ref27_Open_3) 50 [46, 47, 48, 49] h ?_ ?_ <;> first
   |(clear h; intro K hK4; unfold mg_ref27_Open_3; refine tB ?_)
   |(clear h; intro b h; (try replace h := tH h); refine tB ?_)
       | fail)
  |(refine M.gv1 (ms := mg_ref27_Open_2) 44 [40, 41, 42, 43] h ?_ ?_ <;> first
   |(clear h; intro K hK5; unfold mg_ref27_Open_2; refine tB ?_)
   |(clear h; intro b h; (try replace h := tH h); refine tB ?_)
       | fail)
  |(refine M.gv1 (ms := mg_ref27_Open_1) 38 [34, 35, 36, 37] h ?_ ?_ <;> first
   |(clear h; intro K hK6; unfold mg_ref27_Open_1; refine tB ?_)
   |(clear h; intro b h; (try replace h := tH h); refine tB ?_)
       | fail)
  |(refine And.intro (by first | exact hkI3 | exact hkN3 | exact hkB3) ?_)
  |(simp only [ha3])
  |((first | refine hK1 _ ?_ | refine hK2 _ ?_ | refine hK4 _ ?_ | refine hK5 _ ?_ | refine hK6 _ ?_); exact tU; done)
  |(refine hK3 _ ?_; (try refine tB ?_); refine ⟨_, h, ?_⟩; exact tU0; done)
  |(refine bfork (fun hc => ?_) (fun hc => ?_))
  |(refine ⟨_, getE_map (inb_toNat (by assumption)), ?_⟩; (first | rw [M.lok_compU] | rw [M.lokD_compU]); refine tB ?_)
  |(refine And.intro (ltb_of (by assumption)) ?_)
  |(refine And.intro (inb_nat (by assumption)) ?_)
  |(refine And.intro (by omega) ?_)
    | fail)
theorem W_ref27_Open : ∀ {a_ : GEstate} {place_ : Int} {link_ : Int} {t_ : Int} {y : Bool}, F_ref27_Open a_ place_ link_ t_ = some y → ACall Tryz.prog 40 [GEstate.v a_, .int .i64 place_, .int .i64 link_, .int .i64 t_] [] (fun r H => r = .bool y ∧ H = []) :=
  fun hy => Wq_ref27_Open _ _ _ _ (Q := fun z => z = _) ⟨_, hy, rfl⟩ fun z e => by subst e; exact ⟨rfl, rfl⟩
def F_ref27_grant_L1 (place_ : Int) (principal_ : Int) (t_ : Int) (k144 : Int) (a145 : GAccess) (x143 : Int) : Option Int :=
  grp ((decide (t_ < a145.Time) || (!decide (a145.Place = place_)))) fun b176 => grp ((b176 || (!decide (a145.Principal = principal_)))) fun b177 => bif b177 then some x143 else bif decide (a145.Kind = 1) then some k144 else bif decide (a145.Kind = 2) then some (-1) else some x143
def F_ref27_grant (a_ : GEstate) (place_ : Int) (principal_ : Int) (t_ : Int) : Option Int :=
  (foldL (F_ref27_grant_L1 place_ principal_ t_) a_.Events 0 (-1)).bind fun x178 => some x178
@[irreducible] def mg_ref27_grant_1 : List MOp := [⟨.fad 2 (.t 11), (some 25), (some (24, false))⟩,
 ⟨.ld none (.t 25), (some 26), (some (24, false))⟩,
 ⟨.mv (.t 1), (some 27), (some (24, false))⟩,
 ⟨.bin false .neq (.t 26) (.t 27), (some 28), (some (24, false))⟩,
 ⟨.pick (.t 24) (.c (.bool true)) (.t 28), (some 29), none⟩]
@[irreducible] def mg_ref27_grant_2 : List MOp := [⟨.fad 3 (.t 11), (some 31), (some (30, false))⟩,
 ⟨.ld none (.t 31), (some 32), (some (30, false))⟩,
 ⟨.mv (.t 2), (some 33), (some (30, false))⟩,
 ⟨.bin false .neq (.t 32) (.t 33), (some 34), (some (30, false))⟩,
 ⟨.pick (.t 30) (.c (.bool true)) (.t 34), (some 35), none⟩]
@[irreducible] def mc_ref27_grant_L1 : MC :=
 (.seq (.reg [⟨.bin false .lss (.t 15) (.t 14), (some 16), none⟩])
 (.seq (.cond (.t 16)
 .skip
 (.exit 0))
 (.seq (.block 1
 (.seq (.reg [⟨.mv (.t 15), (some 17), none⟩,
 ⟨.iad 7 (.t 13) (.t 15), (some 18), none⟩,
 ⟨.ld (some 7) (.t 18), (some 19), none⟩,
 ⟨.alloc [(.int .i64 0), (.int .i64 0), (.int .i64 0), (.int .i64 0), (.int .i64 0), (.int .i64 0), (.int .i64 0)], (some 11), none⟩,
 ⟨.mv (.t 17), (some 10), none⟩,
 ⟨.st 7 (.t 11) (.t 19), none, none⟩])
 (.seq (.seq (.regI [.op ⟨.fad 0 (.t 11), (some 20), none⟩,
 .op ⟨.ld none (.t 20), (some 21), none⟩,
 .op ⟨.mv (.t 3), (some 22), none⟩,
 .op ⟨.bin false .gtr (.t 21) (.t 22), (some 23), none⟩,
 .op ⟨.mv (.t 23), (some 24), none⟩,
 .grp mg_ref27_grant_1,
 .op ⟨.mv (.t 29), (some 30), none⟩,
 .grp mg_ref27_grant_2])
 (.cond (.t 35)
 (.exit 1)
 .skip))
 (.seq (.reg [⟨.fad 1 (.t 11), (some 36), none⟩,
 ⟨.ld none (.t 36), (some 37), none⟩])
 (.block 2
 (.seq (.reg [⟨.bin false .eql (.t 37) (.c (.int .i64 1)), (some 39), none⟩,
 ⟨.mv (.t 39), (some 38), none⟩])
 (.cond (.t 38)
 (.reg [⟨.mv (.t 10), (some 40), none⟩,
 ⟨.mv (.t 40), (some 9), none⟩])
 (.seq (.reg [⟨.bin false .eql (.t 37) (.c (.int .i64 2)), (some 42), none⟩,
 ⟨.mv (.t 42), (some 41), none⟩])
 (.cond (.t 41)
 (.reg [⟨.mv (.c (.int .i64 (-1))), (some 9), none⟩])
 .skip)))))))))
 (.reg [⟨.bin true .add (.t 15) (.c (.int .i64 1)), (some 43), none⟩,
 ⟨.mv (.t 43), (some 15), none⟩]))))
def mc_ref27_grant : MC :=
 (.seq (.reg [⟨.box (.t 0), (some 4), none⟩,
 ⟨.mv (.c (.int .i64 0)), (some 8), none⟩])
 (.seq (.reg [⟨.mv (.c (.int .i64 (-1))), (some 9), none⟩])
 (.seq (.seq (.reg [⟨.fad 1 (.t 4), (some 12), none⟩,
 ⟨.ld none (.t 12), (some 13), none⟩,
 ⟨.len false (.t 13), (some 14), none⟩,
 ⟨.mv (.c (.int .i64 0)), (some 15), none⟩])
 (.block 0
 (.loop mc_ref27_grant_L1)))
 (.seq (.reg [⟨.mv (.t 9), (some 44), none⟩,
 ⟨.mv (.t 44), (some 8), none⟩])
 .ret))))
theorem ok_ref27_grant : mc_ref27_grant.ok Tryz.prog Tryz.f86.ntmps (Tryz.f86.body.getD .skip) = true := by kernel_rfl
set_option maxHeartbeats 2000000 in
theorem Wq_ref27_grant (a_ : GEstate) (place_ : Int) (principal_ : Int) (t_ : Int) {Q : Int → Prop} {Q' : V → Heap → Prop} (h : Ok (F_ref27_grant a_ place_ principal_ t_) Q) (hQ : ∀ z, Q z → Q' (.int .i64 z) []) : ACall Tryz.prog 86 [GEstate.v a_, .int .i64 place_, .int .i64 principal_, .int .i64 t_] [] Q' := by
  refine acall_machN [] [] [.t 8] Tryz.func86 rfl (by kernel_rfl) ok_ref27_grant (by kernel_rfl) rfl rfl fun M hf => ?_
  clear hf
  unfold F_ref27_grant at h
  unfold mc_ref27_grant
  (try replace h := tH h)
  refine tB ?_
  repeat' (first
  |(exact hQ _ h)
  |(exact trivial)
  |(exact False.elim h)
  |(have hq := hQ _ h; replace hq := tH hq; exact hq)
  |(refine oblg h ?_; clear h; intro hc h)
  |(refine roomG h ?_; clear h; intro hc h)
  |(refine fork h ?_ ?_ <;> clear h <;> intro hc h)
  |(refine forkS h ?_ ?_ <;> clear h <;> intro hc h)
  |(refine And.intro (chkD_of rfl) ?_)
  |(refine M.gv1 (ms := mg_ref27_grant_2) 35 [31, 32, 33, 34] h ?_ ?_ <;> first
   |(clear h; intro K hK1; unfold mg_ref27_grant_2; refine tB ?_)
   |(clear h; intro b h; (try replace h := tH h); refine tB ?_)
       | fail)
  |(refine M.gv1 (ms := mg_ref27_grant_1) 29 [25, 26, 27, 28] h ?_ ?_ <;> first
   |(clear h; intro K hK2; unfold mg_ref27_grant_1; refine tB ?_)
   |(clear h; intro b h; (try replace h := tH h); refine tB ?_)
       | fail)
  |(refine M.fold1 (b := mc_ref27_grant_L1) 15 [1, 2, 3, 13, 14] [] (fun x => [(9, .int .i64 x)]) (fun x => []) [] h ?_ ?_ ?_ <;> first
   |(clear h; intro k a x Qn K hK3 hkN3 ha3 h hf; have hl := fact_int (factsE_find (n := 14) hf.1 rfl); clear hf; have hkd := kD hkN3; have hkB3 := kB hkN3; have hkI3 : in64 ((k : Int) + 1) = true := in64_iff.2 ⟨by omega, by (try simp only [List.length_cons, List.length_nil] at hkN3); omega⟩; unfold F_ref27_grant_L1 at h; unfold mc_ref27_grant_L1; (try replace h := tH h); refine tK ha3 hkd hkN3 hkB3 hkI3 ?_)
   |(clear h; intro x K h; replace h := And.left (And.intro h trivial); unfold mc_ref27_grant_L1; (try replace h := tH h); refine tB ?_)
   |(clear h; (try refine tB ?_); exact tU0; done)
       | fail)
  |(refine And.intro (by first | exact hkI3 | exact hkN3 | exact hkB3) ?_)
  |(simp only [ha3])
  |((first | refine hK1 _ ?_ | refine hK2 _ ?_); exact tU; done)
  |(refine hK3 _ ?_; (try refine tB ?_); refine ⟨_, h, ?_⟩; exact tU0; done)
  |(refine bfork (fun hc => ?_) (fun hc => ?_))
  |(refine ⟨_, getE_map (inb_toNat (by assumption)), ?_⟩; (first | rw [M.lok_compU] | rw [M.lokD_compU]); refine tB ?_)
  |(refine And.intro (ltb_of (by assumption)) ?_)
  |(refine And.intro (inb_nat (by assumption)) ?_)
  |(refine And.intro (by omega) ?_)
    | fail)
theorem W_ref27_grant : ∀ {a_ : GEstate} {place_ : Int} {principal_ : Int} {t_ : Int} {y : Int}, F_ref27_grant a_ place_ principal_ t_ = some y → ACall Tryz.prog 86 [GEstate.v a_, .int .i64 place_, .int .i64 principal_, .int .i64 t_] [] (fun r H => r = .int .i64 y ∧ H = []) :=
  fun hy => Wq_ref27_grant _ _ _ _ (Q := fun z => z = _) ⟨_, hy, rfl⟩ fun z e => by subst e; exact ⟨rfl, rfl⟩
def F_ref27_Grant (a_ : GEstate) (place_ : Int) (principal_ : Int) (t_ : Int) : Option (Int × Bool) :=
  (F_ref27_Place a_ place_).bind fun y4 => bif (!y4) then some (0, false) else (F_ref27_grant a_ place_ principal_ t_).bind fun y8 => bif decide (0 ≤ y8) then some (y8, true) else some (0, false)
def mc_ref27_Grant : MC :=
 (.seq (.reg [⟨.box (.t 0), (some 4), none⟩,
 ⟨.mv (.c (.int .i64 0)), (some 8), none⟩,
 ⟨.mv (.c (.bool false)), (some 9), none⟩])
 (.seq (.seq (.reg [⟨.ld (some 2) (.t 4), (some 11), none⟩,
 ⟨.mv (.t 1), (some 12), none⟩,
 ⟨.call (.f 30) [(.t 11), (.t 12)] [] [], (some 13), none⟩,
 ⟨.not (.t 13), (some 14), none⟩])
 (.cond (.t 14)
 (.seq (.reg [⟨.mv (.c (.int .i64 0)), (some 8), none⟩,
 ⟨.mv (.c (.bool false)), (some 9), none⟩])
 .ret)
 .skip))
 (.seq (.seq (.reg [⟨.ld (some 2) (.t 4), (some 15), none⟩,
 ⟨.mv (.t 1), (some 16), none⟩,
 ⟨.mv (.t 2), (some 17), none⟩,
 ⟨.mv (.t 3), (some 18), none⟩,
 ⟨.call (.f 86) [(.t 15), (.t 16), (.t 17), (.t 18)] [] [], (some 19), none⟩,
 ⟨.mv (.t 19), (some 10), none⟩])
 (.seq (.reg [⟨.mv (.t 10), (some 20), none⟩,
 ⟨.bin false .geq (.t 20) (.c (.int .i64 0)), (some 21), none⟩])
 (.cond (.t 21)
 (.seq (.note (.gc [10]) (.reg [⟨.mv (.t 10), (some 22), none⟩,
 ⟨.mv (.t 22), (some 8), none⟩,
 ⟨.mv (.c (.bool true)), (some 9), none⟩]))
 .ret)
 .skip)))
 (.seq (.reg [⟨.mv (.c (.int .i64 0)), (some 8), none⟩,
 ⟨.mv (.c (.bool false)), (some 9), none⟩])
 .ret))))
theorem ok_ref27_Grant : mc_ref27_Grant.ok Tryz.prog Tryz.f77.ntmps (Tryz.f77.body.getD .skip) = true := by kernel_rfl
set_option maxHeartbeats 2000000 in
theorem Wq_ref27_Grant (a_ : GEstate) (place_ : Int) (principal_ : Int) (t_ : Int) {Q : Int × Bool → Prop} {Q' : V → Heap → Prop} (h : Ok (F_ref27_Grant a_ place_ principal_ t_) Q) (hQ : ∀ z, Q z → Q' (.tup [.int .i64 z.1, .bool z.2]) []) : ACall Tryz.prog 77 [GEstate.v a_, .int .i64 place_, .int .i64 principal_, .int .i64 t_] [] Q' := by
  refine acall_machN [] [] [.t 8, .t 9] Tryz.func77 rfl (by kernel_rfl) ok_ref27_Grant (by kernel_rfl) rfl rfl fun M hf => ?_
  clear hf
  unfold F_ref27_Grant at h
  unfold mc_ref27_Grant
  (try replace h := tH h)
  refine tB ?_
  repeat' (first
  |(exact hQ _ h)
  |(exact trivial)
  |(exact False.elim h)
  |(have hq := hQ _ h; replace hq := tH hq; exact hq)
  |(refine oblg h ?_; clear h; intro hc h)
  |(refine roomG h ?_; clear h; intro hc h)
  |(refine fork h ?_ ?_ <;> clear h <;> intro hc h)
  |(refine forkS h ?_ ?_ <;> clear h <;> intro hc h)
  |(refine And.intro (chkD_of rfl) ?_)
  |(obtain ⟨y, hy, h⟩ := h; (first | with_reducible first | have hw := W_ref27_Place hy | have hw := W_ref27_grant hy); (try replace hw := tH hw); (first | (refine sCall_of hw rfl rfl ?_; rw [M.lok_eq]) | (refine sCallD_of hw rfl rfl ?_; rw [M.lokD_eq])); clear hw; clear hy; refine tB ?_)
  |(refine ⟨_, getE_map (inb_toNat (by assumption)), ?_⟩; (first | rw [M.lok_compU] | rw [M.lokD_compU]); refine tB ?_)
  |(refine And.intro (ltb_of (by assumption)) ?_)
  |(refine And.intro (inb_nat (by assumption)) ?_)
  |(refine And.intro (by omega) ?_)
    | fail)
theorem W_ref27_Grant : ∀ {a_ : GEstate} {place_ : Int} {principal_ : Int} {t_ : Int} {y : Int × Bool}, F_ref27_Grant a_ place_ principal_ t_ = some y → ACall Tryz.prog 77 [GEstate.v a_, .int .i64 place_, .int .i64 principal_, .int .i64 t_] [] (fun r H => r = .tup [.int .i64 y.1, .bool y.2] ∧ H = []) :=
  fun hy => Wq_ref27_Grant _ _ _ _ (Q := fun z => z = _) ⟨_, hy, rfl⟩ fun z e => by subst e; exact ⟨rfl, rfl⟩
def F_ref23_Has_L1 (x_ : Int) (k11 : Int) (a12 : Int) (x10 : Unit) : Option (Fl Unit Bool) :=
  bif decide (a12 = x_) then some (.ex true) else some (.nx ())
def F_ref23_Has (l_ : List Int) (x_ : Int) : Option Bool :=
  (forL (F_ref23_Has_L1 x_) l_ 0 ()).bind fun o => o.elim (fun x13 => some false) (fun r14 => some r14)
@[irreducible] def mc_ref23_Has_L1 : MC :=
 (.seq (.reg [⟨.bin false .lss (.t 9) (.t 8), (some 10), none⟩])
 (.seq (.cond (.t 10)
 .skip
 (.exit 0))
 (.seq (.block 1
 (.seq (.reg [⟨.iad 1 (.t 7) (.t 9), (some 11), none⟩,
 ⟨.ld none (.t 11), (some 12), none⟩,
 ⟨.mv (.t 12), (some 6), none⟩])
 (.seq (.reg [⟨.mv (.t 6), (some 13), none⟩,
 ⟨.mv (.t 1), (some 14), none⟩,
 ⟨.bin false .eql (.t 13) (.t 14), (some 15), none⟩])
 (.cond (.t 15)
 (.seq (.reg [⟨.mv (.c (.bool true)), (some 4), none⟩])
 .ret)
 .skip))))
 (.reg [⟨.bin true .add (.t 9) (.c (.int .i64 1)), (some 16), none⟩,
 ⟨.mv (.t 16), (some 9), none⟩]))))
def mc_ref23_Has : MC :=
 (.seq (.reg [⟨.mv (.c (.bool false)), (some 4), none⟩])
 (.seq (.seq (.reg [⟨.mv (.t 0), (some 7), none⟩,
 ⟨.len false (.t 7), (some 8), none⟩,
 ⟨.mv (.c (.int .i64 0)), (some 9), none⟩])
 (.block 0
 (.loop mc_ref23_Has_L1)))
 (.seq (.reg [⟨.mv (.c (.bool false)), (some 4), none⟩])
 .ret)))
theorem ok_ref23_Has : mc_ref23_Has.ok Tryz.prog Tryz.f59.ntmps (Tryz.f59.body.getD .skip) = true := by kernel_rfl
set_option maxHeartbeats 2000000 in
theorem Wq_ref23_Has (l_ : List Int) (x_ : Int) {Q : Bool → Prop} {Q' : V → Heap → Prop} (h : Ok (F_ref23_Has l_ x_) Q) (hQ : ∀ z, Q z → Q' (.bool z) []) : ACall Tryz.prog 59 [.sl (l_.map (V.int .i64)), .int .i64 x_] [] Q' := by
  refine acall_machN [] [] [.t 4] Tryz.func59 rfl (by kernel_rfl) ok_ref23_Has (by kernel_rfl) rfl rfl fun M hf => ?_
  clear hf
  unfold F_ref23_Has at h
  unfold mc_ref23_Has
  (try replace h := tH h)
  refine tB ?_
  repeat' (first
  |(exact hQ _ h)
  |(exact trivial)
  |(exact False.elim h)
  |(have hq := hQ _ h; replace hq := tH hq; exact hq)
  |(refine oblg h ?_; clear h; intro hc h)
  |(refine roomG h ?_; clear h; intro hc h)
  |(refine fork h ?_ ?_ <;> clear h <;> intro hc h)
  |(refine forkS h ?_ ?_ <;> clear h <;> intro hc h)
  |(refine And.intro (chkD_of rfl) ?_)
  |(refine M.for1 (b := mc_ref23_Has_L1) 9 [1, 7, 8] [] (fun x => []) (fun x => []) [] h ?_ ?_ ?_ <;> first
   |(clear h; intro k a x Qn K hK1 hkN1 ha1 h hf; have hl := fact_int (factsE_find (n := 8) hf.1 rfl); clear hf; have hkd := kD hkN1; have hkB1 := kB hkN1; have hkI1 : in64 ((k : Int) + 1) = true := in64_iff.2 ⟨by omega, by (try simp only [List.length_cons, List.length_nil] at hkN1); omega⟩; unfold F_ref23_Has_L1 at h; unfold mc_ref23_Has_L1; (try replace h := tH h); refine tK ha1 hkd hkN1 hkB1 hkI1 ?_)
   |(clear h; intro x K h; replace h := And.left (And.intro h trivial); unfold mc_ref23_Has_L1; (try replace h := tH h); refine tB ?_)
   |(clear h; (try refine tB ?_); exact tU0; done)
       | fail)
  |(refine And.intro (by first | exact hkI1 | exact hkN1 | exact hkB1) ?_)
  |(simp only [ha1])
  |(refine hK1 _ ?_; (try refine tB ?_); refine ⟨_, h, ?_⟩; exact tU0; done)
  |(refine ⟨_, getE_map (inb_toNat (by assumption)), ?_⟩; (first | rw [M.lok_compU] | rw [M.lokD_compU]); refine tB ?_)
  |(refine And.intro (ltb_of (by assumption)) ?_)
  |(refine And.intro (inb_nat (by assumption)) ?_)
  |(refine And.intro (by omega) ?_)
    | fail)
theorem W_ref23_Has : ∀ {l_ : List Int} {x_ : Int} {y : Bool}, F_ref23_Has l_ x_ = some y → ACall Tryz.prog 59 [.sl (l_.map (V.int .i64)), .int .i64 x_] [] (fun r H => r = .bool y ∧ H = []) :=
  fun hy => Wq_ref23_Has _ _ (Q := fun z => z = _) ⟨_, hy, rfl⟩ fun z e => by subst e; exact ⟨rfl, rfl⟩
def F_ref23_direct_L1 (p_ : Int) (group_ : Int) (t_ : Int) (k80 : Int) (a81 : GMember) (x79 : Bool) : Option Bool :=
  grp ((decide (a81.Time ≤ t_) && decide (a81.Principal = p_))) fun b96 => grp ((b96 && decide (a81.Group = group_))) fun b97 => bif b97 then some (decide (a81.Kind = 1)) else some x79
def F_ref23_direct (d_ : GDirectory) (p_ : Int) (group_ : Int) (t_ : Int) : Option Bool :=
  (foldL (F_ref23_direct_L1 p_ group_ t_) d_.Events 0 false).bind fun x98 => some x98
@[irreducible] def mg_ref23_direct_1 : List MOp := [⟨.fad 2 (.t 11), (some 24), (some (23, true))⟩,
 ⟨.ld none (.t 24), (some 25), (some (23, true))⟩,
 ⟨.mv (.t 1), (some 26), (some (23, true))⟩,
 ⟨.bin false .eql (.t 25) (.t 26), (some 27), (some (23, true))⟩,
 ⟨.pick (.t 23) (.t 27) (.c (.bool false)), (some 28), none⟩]
@[irreducible] def mg_ref23_direct_2 : List MOp := [⟨.fad 3 (.t 11), (some 30), (some (29, true))⟩,
 ⟨.ld none (.t 30), (some 31), (some (29, true))⟩,
 ⟨.mv (.t 2), (some 32), (some (29, true))⟩,
 ⟨.bin false .eql (.t 31) (.t 32), (some 33), (some (29, true))⟩,
 ⟨.pick (.t 29) (.t 33) (.c (.bool false)), (some 34), none⟩]
@[irreducible] def mc_ref23_direct_L1 : MC :=
 (.seq (.reg [⟨.bin false .lss (.t 15) (.t 14), (some 16), none⟩])
 (.seq (.cond (.t 16)
 .skip
 (.exit 0))
 (.seq (.block 1
 (.seq (.reg [⟨.iad 4 (.t 13) (.t 15), (some 17), none⟩,
 ⟨.ld (some 4) (.t 17), (some 18), none⟩,
 ⟨.alloc [(.int .i64 0), (.int .i64 0), (.int .i64 0), (.int .i64 0)], (some 11), none⟩,
 ⟨.st 4 (.t 11) (.t 18), none, none⟩])
 (.seq (.regI [.op ⟨.fad 0 (.t 11), (some 19), none⟩,
 .op ⟨.ld none (.t 19), (some 20), none⟩,
 .op ⟨.mv (.t 3), (some 21), none⟩,
 .op ⟨.bin false .leq (.t 20) (.t 21), (some 22), none⟩,
 .op ⟨.mv (.t 22), (some 23), none⟩,
 .grp mg_ref23_direct_1,
 .op ⟨.mv (.t 28), (some 29), none⟩,
 .grp mg_ref23_direct_2])
 (.cond (.t 34)
 (.note (.gc [1, 2, 3, 11, 13, 14, 15, 24, 25, 26, 27, 30, 31, 32, 33]) (.reg [⟨.fad 1 (.t 11), (some 35), none⟩,
 ⟨.ld none (.t 35), (some 36), none⟩,
 ⟨.bin false .eql (.t 36) (.c (.int .i64 1)), (some 37), none⟩,
 ⟨.mv (.t 37), (some 9), none⟩]))
 .skip))))
 (.reg [⟨.bin true .add (.t 15) (.c (.int .i64 1)), (some 38), none⟩,
 ⟨.mv (.t 38), (some 15), none⟩]))))
def mc_ref23_direct : MC :=
 (.seq (.reg [⟨.box (.t 0), (some 4), none⟩,
 ⟨.mv (.c (.bool false)), (some 8), none⟩])
 (.seq (.reg [⟨.mv (.c (.bool false)), (some 9), none⟩])
 (.seq (.seq (.reg [⟨.fad 1 (.t 4), (some 12), none⟩,
 ⟨.ld none (.t 12), (some 13), none⟩,
 ⟨.len false (.t 13), (some 14), none⟩,
 ⟨.mv (.c (.int .i64 0)), (some 15), none⟩])
 (.block 0
 (.loop mc_ref23_direct_L1)))
 (.seq (.reg [⟨.mv (.t 9), (some 39), none⟩,
 ⟨.mv (.t 39), (some 8), none⟩])
 .ret))))
theorem ok_ref23_direct : mc_ref23_direct.ok Tryz.prog Tryz.f103.ntmps (Tryz.f103.body.getD .skip) = true := by kernel_rfl
set_option maxHeartbeats 2000000 in
theorem Wq_ref23_direct (d_ : GDirectory) (p_ : Int) (group_ : Int) (t_ : Int) {Q : Bool → Prop} {Q' : V → Heap → Prop} (h : Ok (F_ref23_direct d_ p_ group_ t_) Q) (hQ : ∀ z, Q z → Q' (.bool z) []) : ACall Tryz.prog 103 [GDirectory.v d_, .int .i64 p_, .int .i64 group_, .int .i64 t_] [] Q' := by
  refine acall_machN [] [] [.t 8] Tryz.func103 rfl (by kernel_rfl) ok_ref23_direct (by kernel_rfl) rfl rfl fun M hf => ?_
  clear hf
  unfold F_ref23_direct at h
  unfold mc_ref23_direct
  (try replace h := tH h)
  refine tB ?_
  repeat' (first
  |(exact hQ _ h)
  |(exact trivial)
  |(exact False.elim h)
  |(have hq := hQ _ h; replace hq := tH hq; exact hq)
  |(refine oblg h ?_; clear h; intro hc h)
  |(refine roomG h ?_; clear h; intro hc h)
  |(refine fork h ?_ ?_ <;> clear h <;> intro hc h)
  |(refine forkS h ?_ ?_ <;> clear h <;> intro hc h)
  |(refine And.intro (chkD_of rfl) ?_)
  |(refine M.gv1 (ms := mg_ref23_direct_2) 34 [30, 31, 32, 33] h ?_ ?_ <;> first
   |(clear h; intro K hK1; unfold mg_ref23_direct_2; refine tB ?_)
   |(clear h; intro b h; (try replace h := tH h); refine tB ?_)
       | fail)
  |(refine M.gv1 (ms := mg_ref23_direct_1) 28 [24, 25, 26, 27] h ?_ ?_ <;> first
   |(clear h; intro K hK2; unfold mg_ref23_direct_1; refine tB ?_)
   |(clear h; intro b h; (try replace h := tH h); refine tB ?_)
       | fail)
  |(refine M.fold1 (b := mc_ref23_direct_L1) 15 [1, 2, 3, 13, 14] [] (fun x => [(9, .bool x)]) (fun x => []) [] h ?_ ?_ ?_ <;> first
   |(clear h; intro k a x Qn K hK3 hkN3 ha3 h hf; have hl := fact_int (factsE_find (n := 14) hf.1 rfl); clear hf; have hkd := kD hkN3; have hkB3 := kB hkN3; have hkI3 : in64 ((k : Int) + 1) = true := in64_iff.2 ⟨by omega, by (try simp only [List.length_cons, List.length_nil] at hkN3); omega⟩; unfold F_ref23_direct_L1 at h; unfold mc_ref23_direct_L1; (try replace h := tH h); refine tK ha3 hkd hkN3 hkB3 hkI3 ?_)
   |(clear h; intro x K h; replace h := And.left (And.intro h trivial); unfold mc_ref23_direct_L1; (try replace h := tH h); refine tB ?_)
   |(clear h; (try refine tB ?_); exact tU0; done)
       | fail)
  |(refine And.intro (by first | exact hkI3 | exact hkN3 | exact hkB3) ?_)
  |(simp only [ha3])
  |((first | refine hK1 _ ?_ | refine hK2 _ ?_); exact tU; done)
  |(refine hK3 _ ?_; (try refine tB ?_); refine ⟨_, h, ?_⟩; exact tU0; done)
  |(refine bfork (fun hc => ?_) (fun hc => ?_))
  |(refine ⟨_, getE_map (inb_toNat (by assumption)), ?_⟩; (first | rw [M.lok_compU] | rw [M.lokD_compU]); refine tB ?_)
  |(refine And.intro (ltb_of (by assumption)) ?_)
  |(refine And.intro (inb_nat (by assumption)) ?_)
  |(refine And.intro (by omega) ?_)
    | fail)
theorem W_ref23_direct : ∀ {d_ : GDirectory} {p_ : Int} {group_ : Int} {t_ : Int} {y : Bool}, F_ref23_direct d_ p_ group_ t_ = some y → ACall Tryz.prog 103 [GDirectory.v d_, .int .i64 p_, .int .i64 group_, .int .i64 t_] [] (fun r H => r = .bool y ∧ H = []) :=
  fun hy => Wq_ref23_direct _ _ _ _ (Q := fun z => z = _) ⟨_, hy, rfl⟩ fun z e => by subst e; exact ⟨rfl, rfl⟩
def F_ref23_Proves_L1 (d_ : GDirectory) (t_ : Int) (chain_ : List Int) (k95 : Int) (a96 : Int) (x94 : Unit) : Option (Fl Unit Bool) :=
  (F_ref23_Exists d_ a96).bind fun y118 => bif (!y118) then some (.ex false) else chk (inc 0 k95 chain_.length) ((F_ref23_Has (chain_.take ((k95).toNat)) a96).bind fun y119 => bif y119 then some (.ex false) else bif decide (0 < k95) then chk (in64 (k95 - 1)) (chk (inb (k95 - 1) chain_.length) ((F_ref23_direct d_ (chain_.getD ((k95 - 1)).toNat default) a96 t_).bind fun y120 => bif (!y120) then some (.ex false) else some (.nx ()))) else some (.nx ()))
def F_ref23_Proves (d_ : GDirectory) (t_ : Int) (chain_ : List Int) : Option Bool :=
  (F_ref23_Valid d_).bind fun y10 => grp (((!y10) || decide ((chain_.length : Int) < 2))) fun b11 => grp ((b11 || decide ((d_.Kinds.length : Int) < (chain_.length : Int)))) fun b12 => bif b12 then some false else (forL (F_ref23_Proves_L1 d_ t_ chain_) chain_ 0 ()).bind fun o => o.elim (fun x121 => some true) (fun r122 => some r122)
@[irreducible] def mg_ref23_Proves_1 : List MOp := [⟨.mv (.t 2), (some 13), (some (12, false))⟩,
 ⟨.len false (.t 13), (some 14), (some (12, false))⟩,
 ⟨.bin false .lss (.t 14) (.c (.int .i64 2)), (some 15), (some (12, false))⟩,
 ⟨.pick (.t 12) (.c (.bool true)) (.t 15), (some 16), none⟩]
@[irreducible] def mg_ref23_Proves_2 : List MOp := [⟨.mv (.t 2), (some 18), (some (17, false))⟩,
 ⟨.len false (.t 18), (some 19), (some (17, false))⟩,
 ⟨.fad 0 (.t 3), (some 20), (some (17, false))⟩,
 ⟨.ld none (.t 20), (some 21), (some (17, false))⟩,
 ⟨.len false (.t 21), (some 22), (some (17, false))⟩,
 ⟨.bin false .gtr (.t 19) (.t 22), (some 23), (some (17, false))⟩,
 ⟨.pick (.t 17) (.c (.bool true)) (.t 23), (some 24), none⟩]
@[irreducible] def mc_ref23_Proves_L1 : MC :=
 (.seq (.reg [⟨.bin false .lss (.t 27) (.t 26), (some 28), none⟩])
 (.seq (.cond (.t 28)
 .skip
 (.exit 0))
 (.seq (.block 1
 (.seq (.reg [⟨.mv (.t 27), (some 29), none⟩,
 ⟨.iad 1 (.t 25) (.t 27), (some 30), none⟩,
 ⟨.ld none (.t 30), (some 31), none⟩,
 ⟨.mv (.t 29), (some 7), none⟩,
 ⟨.mv (.t 31), (some 8), none⟩])
 (.seq (.regD [⟨.ld (some 2) (.t 3), (some 32), none⟩,
 ⟨.mv (.t 8), (some 33), none⟩,
 ⟨.call (.f 38) [(.t 32), (.t 33)] [] [], (some 34), none⟩,
 ⟨.not (.t 34), (some 35), none⟩,
 ⟨.mv (.t 35), (some 36), none⟩,
 ⟨.mv (.t 2), (some 37), (some (36, false))⟩,
 ⟨.mv (.t 7), (some 38), (some (36, false))⟩,
 ⟨.slc 1 (.t 37) none (some (.t 38)), (some 39), (some (36, false))⟩,
 ⟨.mv (.t 8), (some 40), (some (36, false))⟩,
 ⟨.call (.f 59) [(.t 39), (.t 40)] [] [], (some 41), (some (36, false))⟩,
 ⟨.pick (.t 36) (.c (.bool true)) (.t 41), (some 42), none⟩,
 ⟨.mv (.t 42), (some 43), none⟩,
 ⟨.mv (.t 7), (some 44), (some (43, false))⟩,
 ⟨.bin false .gtr (.t 44) (.c (.int .i64 0)), (some 45), (some (43, false))⟩,
 ⟨.mv (.t 45), (some 46), (some (43, false))⟩,
 ⟨.ld (some 2) (.t 3), (some 47), (some (46, true))⟩,
 ⟨.mv (.t 2), (some 48), (some (46, true))⟩,
 ⟨.mv (.t 7), (some 49), (some (46, true))⟩,
 ⟨.bin true .sub (.t 49) (.c (.int .i64 1)), (some 50), (some (46, true))⟩,
 ⟨.iad 1 (.t 48) (.t 50), (some 51), (some (46, true))⟩,
 ⟨.ld none (.t 51), (some 52), (some (46, true))⟩,
 ⟨.mv (.t 8), (some 53), (some (46, true))⟩,
 ⟨.mv (.t 1), (some 54), (some (46, true))⟩,
 ⟨.call (.f 103) [(.t 47), (.t 52), (.t 53), (.t 54)] [] [], (some 55), (some (46, true))⟩,
 ⟨.not (.t 55), (some 56), (some (46, true))⟩,
 ⟨.pick (.t 46) (.t 56) (.c (.bool false)), (some 57), (some (43, false))⟩,
 ⟨.pick (.t 43) (.c (.bool true)) (.t 57), (some 58), none⟩]
    [[], [], [0, 1], [2], [3, 2], [4], [4], [5, 6, 4], [4], [7, 8, 4, 4], [4, 9], [10, 9], [11], [12, 11], [13, 11, 11], [14], [14], [14], [17, 14], [16, 18, 14], [19, 14], [14], [14], [15, 20, 21, 22, 14, 14], [23, 14], [14, 24, 11], [11, 25]]
    [[], [], [0, 1], [0, 1, 2], [0, 1, 2, 3], [0, 1, 2, 3, 4], [0, 1, 2, 3, 4], [0, 1, 2, 3, 4, 5, 6], [0, 1, 2, 3, 4], [0, 1, 2, 3, 4, 5, 6, 7, 8], [0, 1, 2, 3, 4, 5, 6, 7, 8, 9], [0, 1, 2, 3, 4, 5, 6, 7, 8, 9, 10], [0, 1, 2, 3, 4, 5, 6, 7, 8, 9, 10, 11], [0, 1, 2, 3, 4, 5, 6, 7, 8, 9, 10, 11, 12], [0, 1, 2, 3, 4, 5, 6, 7, 8, 9, 10, 11, 12, 13], [0, 1, 2, 3, 4, 5, 6, 7, 8, 9, 10, 11, 12, 13, 14], [0, 1, 2, 3, 4, 5, 6, 7, 8, 9, 10, 11, 12, 13, 14], [0, 1, 2, 3, 4, 5, 6, 7, 8, 9, 10, 11, 12, 13, 14], [0, 1, 2, 3, 4, 5, 6, 7, 8, 9, 10, 11, 12, 13, 14, 17], [0, 1, 2, 3, 4, 5, 6, 7, 8, 9, 10, 11, 12, 13, 14, 16, 17, 18], [0, 1, 2, 3, 4, 5, 6, 7, 8, 9, 10, 11, 12, 13, 14, 16, 17, 18, 19], [0, 1, 2, 3, 4, 5, 6, 7, 8, 9, 10, 11, 12, 13, 14], [0, 1, 2, 3, 4, 5, 6, 7, 8, 9, 10, 11, 12, 13, 14], [0, 1, 2, 3, 4, 5, 6, 7, 8, 9, 10, 11, 12, 13, 14, 15, 16, 17, 18, 19, 20, 21, 22], [0, 1, 2, 3, 4, 5, 6, 7, 8, 9, 10, 11, 12, 13, 14, 15, 16, 17, 18, 19, 20, 21, 22, 23], [0, 1, 2, 3, 4, 5, 6, 7, 8, 9, 10, 11, 12, 13, 14, 15, 16, 17, 18, 19, 20, 21, 22, 23, 24], [0, 1, 2, 3, 4, 5, 6, 7, 8, 9, 10, 11, 12, 13, 14, 15, 16, 17, 18, 19, 20, 21, 22, 23, 24, 25]])
 (.cond (.t 58)
 (.seq (.reg [⟨.mv (.c (.bool false)), (some 6), none⟩])
 .ret)
 .skip))))
 (.reg [⟨.bin true .add (.t 27) (.c (.int .i64 1)), (some 59), none⟩,
 ⟨.mv (.t 59), (some 27), none⟩]))))
def mc_ref23_Proves : MC :=
 (.seq (.reg [⟨.box (.t 0), (some 3), none⟩,
 ⟨.mv (.c (.bool false)), (some 6), none⟩])
 (.seq (.seq (.regI [.op ⟨.ld (some 2) (.t 3), (some 9), none⟩,
 .op ⟨.call (.f 33) [(.t 9)] [] [], (some 10), none⟩,
 .op ⟨.not (.t 10), (some 11), none⟩,
 .op ⟨.mv (.t 11), (some 12), none⟩,
 .grp mg_ref23_Proves_1,
 .op ⟨.mv (.t 16), (some 17), none⟩,
 .grp mg_ref23_Proves_2])
 (.cond (.t 24)
 (.seq (.reg [⟨.mv (.c (.bool false)), (some 6), none⟩])
 .ret)
 .skip))
 (.seq (.seq (.note (.gc [1, 2, 3, 37, 38, 39, 40, 41, 44, 45, 46, 47, 48, 49, 50, 51, 52, 53, 54, 55, 56, 57]) (.reg [⟨.mv (.t 2), (some 25), none⟩,
 ⟨.len false (.t 25), (some 26), none⟩,
 ⟨.mv (.c (.int .i64 0)), (some 27), none⟩]))
 (.block 0
 (.loop mc_ref23_Proves_L1)))
 (.seq (.reg [⟨.mv (.c (.bool true)), (some 6), none⟩])
 .ret))))
theorem ok_ref23_Proves : mc_ref23_Proves.ok Tryz.prog Tryz.f78.ntmps (Tryz.f78.body.getD .skip) = true := by kernel_rfl
set_option maxHeartbeats 2000000 in
theorem Wq_ref23_Proves (d_ : GDirectory) (t_ : Int) (chain_ : List Int) {Q : Bool → Prop} {Q' : V → Heap → Prop} (h : Ok (F_ref23_Proves d_ t_ chain_) Q) (hQ : ∀ z, Q z → Q' (.bool z) []) : ACall Tryz.prog 78 [GDirectory.v d_, .int .i64 t_, .sl (chain_.map (V.int .i64))] [] Q' := by
  refine acall_machN [] [] [.t 6] Tryz.func78 rfl (by kernel_rfl) ok_ref23_Proves (by kernel_rfl) rfl rfl fun M hf => ?_
  clear hf
  unfold F_ref23_Proves at h
  unfold mc_ref23_Proves
  (try replace h := tH h)
  refine tB ?_
  repeat' (first
  |(exact hQ _ h)
  |(exact trivial)
  |(exact False.elim h)
  |(have hq := hQ _ h; replace hq := tH hq; exact hq)
  |(refine oblg h ?_; clear h; intro hc h)
  |(refine roomG h ?_; clear h; intro hc h)
  |(refine fork h ?_ ?_ <;> clear h <;> intro hc h)
  |(refine forkS h ?_ ?_ <;> clear h <;> intro hc h)
  |(refine And.intro (chkD_of rfl) ?_)
  |(obtain ⟨y, hy, h⟩ := h; (first | with_reducible first | have hw := W_ref23_Valid hy | have hw := W_ref23_Exists hy | have hw := W_ref23_Has hy | have hw := W_ref23_direct hy); (try replace hw := tH hw); (first | (refine sCall_of hw rfl rfl ?_; rw [M.lok_eq]) | (refine sCallD_of hw rfl rfl ?_; rw [M.lokD_eq])); clear hw; clear hy; refine tB ?_)
  |(refine M.for1 (b := mc_ref23_Proves_L1) 27 [1, 2, 3, 25, 26] [3] (fun x => []) (fun x => []) [] h ?_ ?_ ?_ <;> first
   |(clear h; intro k a x Qn K hK1 hkN1 ha1 h hf; have hl := fact_int (factsE_find (n := 26) hf.1 rfl); clear hf; have hkd := kD hkN1; have hkB1 := kB hkN1; have hkI1 : in64 ((k : Int) + 1) = true := in64_iff.2 ⟨by omega, by (try simp only [List.length_cons, List.length_nil] at hkN1); omega⟩; unfold F_ref23_Proves_L1 at h; unfold mc_ref23_Proves_L1; (try replace h := tH h); refine tK ha1 hkd hkN1 hkB1 hkI1 ?_)
   |(clear h; intro x K h; replace h := And.left (And.intro h trivial); unfold mc_ref23_Proves_L1; (try replace h := tH h); refine tB ?_)
   |(clear h; (try refine tB ?_); exact tU0; done)
       | fail)
  |(refine M.gv1 (ms := mg_ref23_Proves_2) 24 [18, 19, 20, 21, 22, 23] h ?_ ?_ <;> first
   |(clear h; intro K hK2; unfold mg_ref23_Proves_2; refine tB ?_)
   |(clear h; intro b h; (try replace h := tH h); refine tB ?_)
       | fail)
  |(refine M.gv1 (ms := mg_ref23_Proves_1) 16 [13, 14, 15] h ?_ ?_ <;> first
   |(clear h; intro K hK3; unfold mg_ref23_Proves_1; refine tB ?_)
   |(clear h; intro b h; (try replace h := tH h); refine tB ?_)
       | fail)
  |(refine And.intro (by first | exact hkI1 | exact hkN1 | exact hkB1) ?_)
  |(simp only [ha1])
  |(refine hK1 _ ?_; (try refine tB ?_); refine ⟨_, h, ?_⟩; exact tU0; done)
  |((first | refine hK2 _ ?_ | refine hK3 _ ?_); exact tU; done)
  |(refine bfork (fun hc => ?_) (fun hc => ?_))
  |(refine ⟨_, getE_map (inb_toNat (by assumption)), ?_⟩; (first | rw [M.lok_compU] | rw [M.lokD_compU]); refine tB ?_)
  |(refine And.intro (ltb_of (by assumption)) ?_)
  |(refine And.intro (inb_nat (by assumption)) ?_)
  |(refine And.intro (by omega) ?_)
    | fail)
theorem W_ref23_Proves : ∀ {d_ : GDirectory} {t_ : Int} {chain_ : List Int} {y : Bool}, F_ref23_Proves d_ t_ chain_ = some y → ACall Tryz.prog 78 [GDirectory.v d_, .int .i64 t_, .sl (chain_.map (V.int .i64))] [] (fun r H => r = .bool y ∧ H = []) :=
  fun hy => Wq_ref23_Proves _ _ _ (Q := fun z => z = _) ⟨_, hy, rfl⟩ fun z e => by subst e; exact ⟨rfl, rfl⟩
def F_ref28_Proves (d_ : GDirectory) (a_ : GEstate) (p_ : Int) (r_ : GReading) : Option Bool :=
  (F_ref23_Valid d_).bind fun y10 => bif (!y10) then some false else (F_ref27_Place a_ r_.Place).bind fun y11 => bif (!y11) then some false else (F_ref23_Reader d_ p_).bind fun y12 => bif (!y12) then some false else bif (!decide (r_.Link = (-1))) then grp ((decide (r_.Grant = (-1)) && decide ((r_.Chain.length : Int) = 0))) fun b25 => jn (α := Bool) (bif b25 then (F_ref27_Open a_ r_.Place r_.Link r_.Time).bind fun y27 => some y27 else some false) fun j28 => some j28 else grp ((decide (r_.Grant < 0) || decide ((a_.Events.length : Int) ≤ r_.Grant))) fun b35 => grp ((b35 || decide ((r_.Chain.length : Int) = 0))) fun b36 => bif b36 then some false else chk (inb 0 r_.Chain.length) (bif (!decide ((r_.Chain.getD 0 default) = p_)) then some false else chk (inb r_.Grant a_.Events.length) (bif (!decide ((a_.Events.getD (r_.Grant).toNat default).Kind = 1)) then some false else bif (!decide ((a_.Events.getD (r_.Grant).toNat default).Place = r_.Place)) then some false else bif decide (r_.Time < (a_.Events.getD (r_.Grant).toNat default).Time) then some false else chk (in64 ((r_.Chain.length : Int) - 1)) (chk (inb ((r_.Chain.length : Int) - 1) r_.Chain.length) (bif (!decide ((r_.Chain.getD (((r_.Chain.length : Int) - 1)).toNat default) = (a_.Events.getD (r_.Grant).toNat default).Principal)) then some false else (F_ref27_Grant a_ r_.Place ((a_.Events.getD (r_.Grant).toNat default).Principal) r_.Time).bind fun y40 => bif (!y40.2) then some false else jn (α := Bool) (bif decide ((r_.Chain.length : Int) = 1) then some true else (F_ref23_Proves d_ r_.Time r_.Chain).bind fun y45 => some y45) fun j46 => some j46))))
@[irreducible] def mg_ref28_Proves_1 : List MOp := [⟨.fad 4 (.t 7), (some 35), (some (34, true))⟩,
 ⟨.ld none (.t 35), (some 36), (some (34, true))⟩,
 ⟨.len false (.t 36), (some 37), (some (34, true))⟩,
 ⟨.bin false .eql (.t 37) (.c (.int .i64 0)), (some 38), (some (34, true))⟩,
 ⟨.pick (.t 34) (.t 38) (.c (.bool false)), (some 39), none⟩]
@[irreducible] def mg_ref28_Proves_2 : List MOp := [⟨.ld (some 2) (.t 5), (some 41), (some (40, true))⟩,
 ⟨.fad 0 (.t 7), (some 42), (some (40, true))⟩,
 ⟨.ld none (.t 42), (some 43), (some (40, true))⟩,
 ⟨.fad 2 (.t 7), (some 44), (some (40, true))⟩,
 ⟨.ld none (.t 44), (some 45), (some (40, true))⟩,
 ⟨.fad 1 (.t 7), (some 46), (some (40, true))⟩,
 ⟨.ld none (.t 46), (some 47), (some (40, true))⟩,
 ⟨.call (.f 40) [(.t 41), (.t 43), (.t 45), (.t 47)] [] [], (some 48), (some (40, true))⟩,
 ⟨.pick (.t 40) (.t 48) (.c (.bool false)), (some 49), none⟩]
@[irreducible] def mg_ref28_Proves_3 : List MOp := [⟨.fad 3 (.t 7), (some 54), (some (53, false))⟩,
 ⟨.ld none (.t 54), (some 55), (some (53, false))⟩,
 ⟨.fad 1 (.t 5), (some 56), (some (53, false))⟩,
 ⟨.ld none (.t 56), (some 57), (some (53, false))⟩,
 ⟨.len false (.t 57), (some 58), (some (53, false))⟩,
 ⟨.bin false .geq (.t 55) (.t 58), (some 59), (some (53, false))⟩,
 ⟨.pick (.t 53) (.c (.bool true)) (.t 59), (some 60), none⟩]
@[irreducible] def mg_ref28_Proves_4 : List MOp := [⟨.fad 4 (.t 7), (some 62), (some (61, false))⟩,
 ⟨.ld none (.t 62), (some 63), (some (61, false))⟩,
 ⟨.len false (.t 63), (some 64), (some (61, false))⟩,
 ⟨.bin false .eql (.t 64) (.c (.int .i64 0)), (some 65), (some (61, false))⟩,
 ⟨.pick (.t 61) (.c (.bool true)) (.t 65), (some 66), none⟩]
@[irreducible] def mg_ref28_Proves_5 : List MOp := [⟨.ld (some 2) (.t 4), (some 129), (some (128, false))⟩,
 ⟨.fad 1 (.t 7), (some 130), (some (128, false))⟩,
 ⟨.ld none (.t 130), (some 131), (some (128, false))⟩,
 ⟨.fad 4 (.t 7), (some 132), (some (128, false))⟩,
 ⟨.ld none (.t 132), (some 133), (some (128, false))⟩,
 ⟨.call (.f 78) [(.t 129), (.t 131), (.t 133)] [] [], (some 134), (some (128, false))⟩,
 ⟨.pick (.t 128) (.c (.bool true)) (.t 134), (some 135), none⟩]
def mc_ref28_Proves : MC :=
 (.seq (.reg [⟨.box (.t 0), (some 4), none⟩,
 ⟨.box (.t 1), (some 5), none⟩,
 ⟨.box (.t 3), (some 7), none⟩,
 ⟨.mv (.c (.bool false)), (some 8), none⟩])
 (.seq (.seq (.reg [⟨.ld (some 2) (.t 4), (some 12), none⟩,
 ⟨.call (.f 33) [(.t 12)] [] [], (some 13), none⟩,
 ⟨.not (.t 13), (some 14), none⟩,
 ⟨.mv (.t 14), (some 15), none⟩,
 ⟨.ld (some 2) (.t 5), (some 16), (some (15, false))⟩,
 ⟨.fad 0 (.t 7), (some 17), (some (15, false))⟩,
 ⟨.ld none (.t 17), (some 18), (some (15, false))⟩,
 ⟨.call (.f 30) [(.t 16), (.t 18)] [] [], (some 19), (some (15, false))⟩,
 ⟨.not (.t 19), (some 20), (some (15, false))⟩,
 ⟨.pick (.t 15) (.c (.bool true)) (.t 20), (some 21), none⟩,
 ⟨.mv (.t 21), (some 22), none⟩,
 ⟨.ld (some 2) (.t 4), (some 23), (some (22, false))⟩,
 ⟨.mv (.t 2), (some 24), (some (22, false))⟩,
 ⟨.call (.f 19) [(.t 23), (.t 24)] [] [], (some 25), (some (22, false))⟩,
 ⟨.not (.t 25), (some 26), (some (22, false))⟩,
 ⟨.pick (.t 22) (.c (.bool true)) (.t 26), (some 27), none⟩])
 (.cond (.t 27)
 (.seq (.reg [⟨.mv (.c (.bool false)), (some 8), none⟩])
 .ret)
 .skip))
 (.seq (.seq (.note (.gc [2, 4, 5, 7, 35, 36, 37, 38, 41, 42, 43, 44, 45, 46, 47, 48, 54, 55, 56, 57, 58, 59, 62, 63, 64, 65, 68, 69, 70, 71, 72, 73, 85, 86, 87, 88, 89, 92, 93, 94, 95, 96, 99, 100, 101, 102, 103, 104, 105, 106, 107, 108, 109, 129, 130, 131, 132, 133, 134]) (.reg [⟨.fad 2 (.t 7), (some 28), none⟩,
 ⟨.ld none (.t 28), (some 29), none⟩,
 ⟨.bin false .neq (.t 29) (.c (.int .i64 (-1))), (some 30), none⟩]))
 (.cond (.t 30)
 (.seq (.regI [.op ⟨.fad 3 (.t 7), (some 31), none⟩,
 .op ⟨.ld none (.t 31), (some 32), none⟩,
 .op ⟨.bin false .eql (.t 32) (.c (.int .i64 (-1))), (some 33), none⟩,
 .op ⟨.mv (.t 33), (some 34), none⟩,
 .grp mg_ref28_Proves_1,
 .op ⟨.mv (.t 39), (some 40), none⟩,
 .grp mg_ref28_Proves_2,
 .op ⟨.mv (.t 49), (some 8), none⟩])
 .ret)
 .skip))
 (.seq (.seq (.regI [.op ⟨.fad 3 (.t 7), (some 50), none⟩,
 .op ⟨.ld none (.t 50), (some 51), none⟩,
 .op ⟨.bin false .lss (.t 51) (.c (.int .i64 0)), (some 52), none⟩,
 .op ⟨.mv (.t 52), (some 53), none⟩,
 .grp mg_ref28_Proves_3,
 .op ⟨.mv (.t 60), (some 61), none⟩,
 .grp mg_ref28_Proves_4,
 .op ⟨.mv (.t 66), (some 67), none⟩,
 .op ⟨.fad 4 (.t 7), (some 68), (some (67, false))⟩,
 .op ⟨.ld none (.t 68), (some 69), (some (67, false))⟩,
 .op ⟨.iad 1 (.t 69) (.c (.int .i64 0)), (some 70), (some (67, false))⟩,
 .op ⟨.ld none (.t 70), (some 71), (some (67, false))⟩,
 .op ⟨.mv (.t 2), (some 72), (some (67, false))⟩,
 .op ⟨.bin false .neq (.t 71) (.t 72), (some 73), (some (67, false))⟩,
 .op ⟨.pick (.t 67) (.c (.bool true)) (.t 73), (some 74), none⟩])
 (.cond (.t 74)
 (.seq (.reg [⟨.mv (.c (.bool false)), (some 8), none⟩])
 .ret)
 .skip))
 (.seq (.note (.gc [4, 5, 7, 85, 86, 87, 88, 89, 92, 93, 94, 95, 96, 99, 100, 101, 102, 103, 104, 105, 106, 107, 108, 109, 129, 130, 131, 132, 133, 134]) (.reg [⟨.fad 1 (.t 5), (some 75), none⟩,
 ⟨.ld none (.t 75), (some 76), none⟩,
 ⟨.fad 3 (.t 7), (some 77), none⟩,
 ⟨.ld none (.t 77), (some 78), none⟩,
 ⟨.iad 7 (.t 76) (.t 78), (some 79), none⟩,
 ⟨.ld (some 7) (.t 79), (some 80), none⟩,
 ⟨.alloc [(.int .i64 0), (.int .i64 0), (.int .i64 0), (.int .i64 0), (.int .i64 0), (.int .i64 0), (.int .i64 0)], (some 9), none⟩,
 ⟨.st 7 (.t 9) (.t 80), none, none⟩]))
 (.seq (.seq (.regD [⟨.fad 1 (.t 9), (some 81), none⟩,
 ⟨.ld none (.t 81), (some 82), none⟩,
 ⟨.bin false .neq (.t 82) (.c (.int .i64 1)), (some 83), none⟩,
 ⟨.mv (.t 83), (some 84), none⟩,
 ⟨.fad 2 (.t 9), (some 85), (some (84, false))⟩,
 ⟨.ld none (.t 85), (some 86), (some (84, false))⟩,
 ⟨.fad 0 (.t 7), (some 87), (some (84, false))⟩,
 ⟨.ld none (.t 87), (some 88), (some (84, false))⟩,
 ⟨.bin false .neq (.t 86) (.t 88), (some 89), (some (84, false))⟩,
 ⟨.pick (.t 84) (.c (.bool true)) (.t 89), (some 90), none⟩,
 ⟨.mv (.t 90), (some 91), none⟩,
 ⟨.fad 0 (.t 9), (some 92), (some (91, false))⟩,
 ⟨.ld none (.t 92), (some 93), (some (91, false))⟩,
 ⟨.fad 1 (.t 7), (some 94), (some (91, false))⟩,
 ⟨.ld none (.t 94), (some 95), (some (91, false))⟩,
 ⟨.bin false .gtr (.t 93) (.t 95), (some 96), (some (91, false))⟩,
 ⟨.pick (.t 91) (.c (.bool true)) (.t 96), (some 97), none⟩,
 ⟨.mv (.t 97), (some 98), none⟩,
 ⟨.fad 4 (.t 7), (some 99), (some (98, false))⟩,
 ⟨.ld none (.t 99), (some 100), (some (98, false))⟩,
 ⟨.fad 4 (.t 7), (some 101), (some (98, false))⟩,
 ⟨.ld none (.t 101), (some 102), (some (98, false))⟩,
 ⟨.len false (.t 102), (some 103), (some (98, false))⟩,
 ⟨.bin true .sub (.t 103) (.c (.int .i64 1)), (some 104), (some (98, false))⟩,
 ⟨.iad 1 (.t 100) (.t 104), (some 105), (some (98, false))⟩,
 ⟨.ld none (.t 105), (some 106), (some (98, false))⟩,
 ⟨.fad 3 (.t 9), (some 107), (some (98, false))⟩,
 ⟨.ld none (.t 107), (some 108), (some (98, false))⟩,
 ⟨.bin false .neq (.t 106) (.t 108), (some 109), (some (98, false))⟩,
 ⟨.pick (.t 98) (.c (.bool true)) (.t 109), (some 110), none⟩]
    [[], [0], [1], [2], [3], [4, 3], [3], [6, 3], [5, 7, 3], [3, 8], [9, 3], [10], [11, 10], [10], [13, 10], [12, 14, 10], [10, 15], [16, 10], [17], [18, 17], [17], [20, 17], [21, 17], [22, 17], [19, 23, 17], [24, 17], [17], [26, 17], [25, 27, 17], [17, 28]]
    [[], [0], [0, 1], [0, 1, 2], [0, 1, 2, 3], [0, 1, 2, 3, 4], [0, 1, 2, 3], [0, 1, 2, 3, 6], [0, 1, 2, 3, 4, 5, 6, 7], [0, 1, 2, 3, 4, 5, 6, 7, 8], [0, 1, 2, 3, 4, 5, 6, 7, 8, 9], [0, 1, 2, 3, 4, 5, 6, 7, 8, 9, 10], [0, 1, 2, 3, 4, 5, 6, 7, 8, 9, 10, 11], [0, 1, 2, 3, 4, 5, 6, 7, 8, 9, 10], [0, 1, 2, 3, 4, 5, 6, 7, 8, 9, 10, 13], [0, 1, 2, 3, 4, 5, 6, 7, 8, 9, 10, 11, 12, 13, 14], [0, 1, 2, 3, 4, 5, 6, 7, 8, 9, 10, 11, 12, 13, 14, 15], [0, 1, 2, 3, 4, 5, 6, 7, 8, 9, 10, 11, 12, 13, 14, 15, 16], [0, 1, 2, 3, 4, 5, 6, 7, 8, 9, 10, 11, 12, 13, 14, 15, 16, 17], [0, 1, 2, 3, 4, 5, 6, 7, 8, 9, 10, 11, 12, 13, 14, 15, 16, 17, 18], [0, 1, 2, 3, 4, 5, 6, 7, 8, 9, 10, 11, 12, 13, 14, 15, 16, 17], [0, 1, 2, 3, 4, 5, 6, 7, 8, 9, 10, 11, 12, 13, 14, 15, 16, 17, 20], [0, 1, 2, 3, 4, 5, 6, 7, 8, 9, 10, 11, 12, 13, 14, 15, 16, 17, 20, 21], [0, 1, 2, 3, 4, 5, 6, 7, 8, 9, 10, 11, 12, 13, 14, 15, 16, 17, 20, 21, 22], [0, 1, 2, 3, 4, 5, 6, 7, 8, 9, 10, 11, 12, 13, 14, 15, 16, 17, 18, 19, 20, 21, 22, 23], [0, 1, 2, 3, 4, 5, 6, 7, 8, 9, 10, 11, 12, 13, 14, 15, 16, 17, 18, 19, 20, 21, 22, 23, 24], [0, 1, 2, 3, 4, 5, 6, 7, 8, 9, 10, 11, 12, 13, 14, 15, 16, 17], [0, 1, 2, 3, 4, 5, 6, 7, 8, 9, 10, 11, 12, 13, 14, 15, 16, 17, 26], [0, 1, 2, 3, 4, 5, 6, 7, 8, 9, 10, 11, 12, 13, 14, 15, 16, 17, 18, 19, 20, 21, 22, 23, 24, 25, 26, 27], [0, 1, 2, 3, 4, 5, 6, 7, 8, 9, 10, 11, 12, 13, 14, 15, 16, 17, 18, 19, 20, 21, 22, 23, 24, 25, 26, 27, 28]])
 (.cond (.t 110)
 (.seq (.reg [⟨.mv (.c (.bool false)), (some 8), none⟩])
 .ret)
 .skip))
 (.seq (.seq (.note (.gc [4, 5, 7, 9, 129, 130, 131, 132, 133, 134]) (.reg [⟨.ld (some 2) (.t 5), (some 112), none⟩,
 ⟨.fad 0 (.t 7), (some 113), none⟩,
 ⟨.ld none (.t 113), (some 114), none⟩,
 ⟨.fad 3 (.t 9), (some 115), none⟩,
 ⟨.ld none (.t 115), (some 116), none⟩,
 ⟨.fad 1 (.t 7), (some 117), none⟩,
 ⟨.ld none (.t 117), (some 118), none⟩,
 ⟨.call (.f 77) [(.t 112), (.t 114), (.t 116), (.t 118)] [] [], (some 119), none⟩,
 ⟨.mv (.t 119), (some 111), none⟩,
 ⟨.ext 0 (.t 111), (some 120), none⟩,
 ⟨.ext 1 (.t 111), (some 121), none⟩,
 ⟨.mv (.t 120), (some 10), none⟩,
 ⟨.mv (.t 121), (some 11), none⟩]))
 (.seq (.reg [⟨.mv (.t 11), (some 122), none⟩,
 ⟨.not (.t 122), (some 123), none⟩])
 (.cond (.t 123)
 (.seq (.reg [⟨.mv (.c (.bool false)), (some 8), none⟩])
 .ret)
 .skip)))
 (.seq (.note (.gc [4, 7, 129, 130, 131, 132, 133, 134]) (.regI [.op ⟨.fad 4 (.t 7), (some 124), none⟩,
 .op ⟨.ld none (.t 124), (some 125), none⟩,
 .op ⟨.len false (.t 125), (some 126), none⟩,
 .op ⟨.bin false .eql (.t 126) (.c (.int .i64 1)), (some 127), none⟩,
 .op ⟨.mv (.t 127), (some 128), none⟩,
 .grp mg_ref28_Proves_5,
 .op ⟨.mv (.t 135), (some 8), none⟩]))
 .ret))))))))
theorem ok_ref28_Proves : mc_ref28_Proves.ok Tryz.prog Tryz.f49.ntmps (Tryz.f49.body.getD .skip) = true := by kernel_rfl
set_option maxHeartbeats 2000000 in
theorem Wq_ref28_Proves (d_ : GDirectory) (a_ : GEstate) (p_ : Int) (r_ : GReading) {Q : Bool → Prop} {Q' : V → Heap → Prop} (h : Ok (F_ref28_Proves d_ a_ p_ r_) Q) (hQ : ∀ z, Q z → Q' (.bool z) []) : ACall Tryz.prog 49 [GDirectory.v d_, GEstate.v a_, .int .i64 p_, GReading.v r_] [] Q' := by
  refine acall_machN [] [] [.t 8] Tryz.func49 rfl (by kernel_rfl) ok_ref28_Proves (by kernel_rfl) rfl rfl fun M hf => ?_
  clear hf
  unfold F_ref28_Proves at h
  unfold mc_ref28_Proves
  (try replace h := tH h)
  refine tB ?_
  repeat' (first
  |(exact hQ _ h)
  |(exact trivial)
  |(exact False.elim h)
  |(have hq := hQ _ h; replace hq := tH hq; exact hq)
  |(refine oblg h ?_; clear h; intro hc h)
  |(refine roomG h ?_; clear h; intro hc h)
  |(refine fork h ?_ ?_ <;> clear h <;> intro hc h)
  |(refine forkS h ?_ ?_ <;> clear h <;> intro hc h)
  |(refine And.intro (chkD_of rfl) ?_)
  |(obtain ⟨y, hy, h⟩ := h; (first | with_reducible first | have hw := W_ref23_Valid hy | have hw := W_ref27_Place hy | have hw := W_ref23_Reader hy | have hw := W_ref27_Open hy | have hw := W_ref27_Grant hy | have hw := W_ref23_Proves hy); (try replace hw := tH hw); (first | (refine sCall_of hw rfl rfl ?_; rw [M.lok_eq]) | (refine sCallD_of hw rfl rfl ?_; rw [M.lokD_eq])); clear hw; clear hy; refine tB ?_)
  |(refine M.gj1 (ms := mg_ref28_Proves_2) [] [] (fun y => [(49, .bool y)]) (fun y => []) h ?_ ?_ <;> first
   |(clear h; intro Qn K hK1 h; unfold mg_ref28_Proves_2; (try replace h := tH h); refine tB ?_)
   |(clear h; intro y h; (try replace h := tH h); refine tB ?_)
       | fail)
  |(refine M.gv1 (ms := mg_ref28_Proves_1) 39 [35, 36, 37, 38] h ?_ ?_ <;> first
   |(clear h; intro K hK2; unfold mg_ref28_Proves_1; refine tB ?_)
   |(clear h; intro b h; (try replace h := tH h); refine tB ?_)
       | fail)
  |(refine M.gj1 (ms := mg_ref28_Proves_5) [] [] (fun y => [(135, .bool y)]) (fun y => []) h ?_ ?_ <;> first
   |(clear h; intro Qn K hK3 h; unfold mg_ref28_Proves_5; (try replace h := tH h); refine tB ?_)
   |(clear h; intro y h; (try replace h := tH h); refine tB ?_)
       | fail)
  |(refine M.gv1 (ms := mg_ref28_Proves_4) 66 [62, 63, 64, 65] h ?_ ?_ <;> first
   |(clear h; intro K hK4; unfold mg_ref28_Proves_4; refine tB ?_)
   |(clear h; intro b h; (try replace h := tH h); refine tB ?_)
       | fail)
  |(refine M.gv1 (ms := mg_ref28_Proves_3) 60 [54, 55, 56, 57, 58, 59] h ?_ ?_ <;> first
   |(clear h; intro K hK5; unfold mg_ref28_Proves_3; refine tB ?_)
   |(clear h; intro b h; (try replace h := tH h); refine tB ?_)
       | fail)
  |((first | refine hK1 _ ?_ | refine hK3 _ ?_); (try refine tB ?_); refine ⟨_, h, ?_⟩; exact tU0; done)
  |((first | refine hK2 _ ?_ | refine hK4 _ ?_ | refine hK5 _ ?_); exact tU; done)
  |(refine bfork (fun hc => ?_) (fun hc => ?_))
  |(refine ⟨_, getE_map (inb_toNat (by assumption)), ?_⟩; (first | rw [M.lok_compU] | rw [M.lokD_compU]); refine tB ?_)
  |(refine And.intro (ltb_of (by assumption)) ?_)
  |(refine And.intro (inb_nat (by assumption)) ?_)
  |(refine And.intro (by omega) ?_)
    | fail)
theorem W_ref28_Proves : ∀ {d_ : GDirectory} {a_ : GEstate} {p_ : Int} {r_ : GReading} {y : Bool}, F_ref28_Proves d_ a_ p_ r_ = some y → ACall Tryz.prog 49 [GDirectory.v d_, GEstate.v a_, .int .i64 p_, GReading.v r_] [] (fun r H => r = .bool y ∧ H = []) :=
  fun hy => Wq_ref28_Proves _ _ _ _ (Q := fun z => z = _) ⟨_, hy, rfl⟩ fun z e => by subst e; exact ⟨rfl, rfl⟩
noncomputable def F_ref30_Proves (d_ : GDirectory) (a_ : GEstate) (content_ : Int) (x_ : GExposure) (l_ : GLeak) : Option Bool :=
  (F_ref30_right d_ a_ content_ x_.Principal).bind fun y16 => grp (((!y16) || decide (x_.Time < 0))) fun b17 => grp ((b17 || decide (1099511627776 < x_.Time))) fun b18 => grp ((b18 || (!decide (l_.Reading.Time = x_.Time)))) fun b19 => bif b19 then some false else (F_ref29_Proves a_ content_ l_.Reading.Place l_.Reading.Time l_.Way).bind fun y20 => bif (!y20) then some false else bif decide (x_.Principal = (-1)) then grp ((decide (l_.Reading.Grant = (-1)) && decide ((l_.Reading.Chain.length : Int) = 0))) fun b33 => jn (α := Bool) (bif b33 then (F_ref27_Open a_ l_.Reading.Place l_.Reading.Link l_.Reading.Time).bind fun y35 => some y35 else some false) fun j36 => some j36 else (F_ref28_Proves d_ a_ x_.Principal l_.Reading).bind fun y38 => some y38
@[irreducible] def mg_ref30_Proves_1 : List MOp := [⟨.fad 1 (.t 8), (some 22), (some (21, false))⟩,
 ⟨.ld none (.t 22), (some 23), (some (21, false))⟩,
 ⟨.bin false .lss (.t 23) (.c (.int .i64 0)), (some 24), (some (21, false))⟩,
 ⟨.pick (.t 21) (.c (.bool true)) (.t 24), (some 25), none⟩]
@[irreducible] def mg_ref30_Proves_2 : List MOp := [⟨.fad 1 (.t 8), (some 27), (some (26, false))⟩,
 ⟨.ld none (.t 27), (some 28), (some (26, false))⟩,
 ⟨.bin false .gtr (.t 28) (.c (.int .i64 1099511627776)), (some 29), (some (26, false))⟩,
 ⟨.pick (.t 26) (.c (.bool true)) (.t 29), (some 30), none⟩]
@[irreducible] def mg_ref30_Proves_3 : List MOp := [⟨.fad 1 (.t 11), (some 32), (some (31, false))⟩,
 ⟨.ld none (.t 32), (some 33), (some (31, false))⟩,
 ⟨.fad 1 (.t 8), (some 34), (some (31, false))⟩,
 ⟨.ld none (.t 34), (some 35), (some (31, false))⟩,
 ⟨.bin false .neq (.t 33) (.t 35), (some 36), (some (31, false))⟩,
 ⟨.pick (.t 31) (.c (.bool true)) (.t 36), (some 37), none⟩]
@[irreducible] def mg_ref30_Proves_4 : List MOp := [⟨.fad 4 (.t 11), (some 57), (some (56, true))⟩,
 ⟨.ld none (.t 57), (some 58), (some (56, true))⟩,
 ⟨.len false (.t 58), (some 59), (some (56, true))⟩,
 ⟨.bin false .eql (.t 59) (.c (.int .i64 0)), (some 60), (some (56, true))⟩,
 ⟨.pick (.t 56) (.t 60) (.c (.bool false)), (some 61), none⟩]
@[irreducible] def mg_ref30_Proves_5 : List MOp := [⟨.ld (some 2) (.t 6), (some 63), (some (62, true))⟩,
 ⟨.fad 0 (.t 11), (some 64), (some (62, true))⟩,
 ⟨.ld none (.t 64), (some 65), (some (62, true))⟩,
 ⟨.fad 2 (.t 11), (some 66), (some (62, true))⟩,
 ⟨.ld none (.t 66), (some 67), (some (62, true))⟩,
 ⟨.fad 1 (.t 11), (some 68), (some (62, true))⟩,
 ⟨.ld none (.t 68), (some 69), (some (62, true))⟩,
 ⟨.call (.f 40) [(.t 63), (.t 65), (.t 67), (.t 69)] [] [], (some 70), (some (62, true))⟩,
 ⟨.pick (.t 62) (.t 70) (.c (.bool false)), (some 71), none⟩]
def mc_ref30_Proves : MC :=
 (.seq (.reg [⟨.box (.t 0), (some 5), none⟩,
 ⟨.box (.t 1), (some 6), none⟩,
 ⟨.box (.t 3), (some 8), none⟩,
 ⟨.box (.t 4), (some 9), none⟩,
 ⟨.mv (.c (.bool false)), (some 10), none⟩])
 (.seq (.reg [⟨.fad 1 (.t 9), (some 12), none⟩,
 ⟨.ld (some 5) (.t 12), (some 13), none⟩,
 ⟨.alloc [(.int .i64 0), (.int .i64 0), (.int .i64 0), (.int .i64 0), (.sl [])], (some 11), none⟩,
 ⟨.st 5 (.t 11) (.t 13), none, none⟩])
 (.seq (.seq (.regI [.op ⟨.ld (some 2) (.t 5), (some 14), none⟩,
 .op ⟨.ld (some 2) (.t 6), (some 15), none⟩,
 .op ⟨.mv (.t 2), (some 16), none⟩,
 .op ⟨.fad 0 (.t 8), (some 17), none⟩,
 .op ⟨.ld none (.t 17), (some 18), none⟩,
 .op ⟨.call (.f 47) [(.t 14), (.t 15), (.t 16), (.t 18)] [] [], (some 19), none⟩,
 .op ⟨.not (.t 19), (some 20), none⟩,
 .op ⟨.mv (.t 20), (some 21), none⟩,
 .grp mg_ref30_Proves_1,
 .op ⟨.mv (.t 25), (some 26), none⟩,
 .grp mg_ref30_Proves_2,
 .op ⟨.mv (.t 30), (some 31), none⟩,
 .grp mg_ref30_Proves_3,
 .op ⟨.mv (.t 37), (some 38), none⟩,
 .op ⟨.ld (some 2) (.t 6), (some 39), (some (38, false))⟩,
 .op ⟨.mv (.t 2), (some 40), (some (38, false))⟩,
 .op ⟨.fad 0 (.t 11), (some 41), (some (38, false))⟩,
 .op ⟨.ld none (.t 41), (some 42), (some (38, false))⟩,
 .op ⟨.fad 1 (.t 11), (some 43), (some (38, false))⟩,
 .op ⟨.ld none (.t 43), (some 44), (some (38, false))⟩,
 .op ⟨.fad 0 (.t 9), (some 45), (some (38, false))⟩,
 .op ⟨.ld none (.t 45), (some 46), (some (38, false))⟩,
 .op ⟨.call (.f 48) [(.t 39), (.t 40), (.t 42), (.t 44), (.t 46)] [] [], (some 47), (some (38, false))⟩,
 .op ⟨.not (.t 47), (some 48), (some (38, false))⟩,
 .op ⟨.pick (.t 38) (.c (.bool true)) (.t 48), (some 49), none⟩])
 (.cond (.t 49)
 (.seq (.reg [⟨.mv (.c (.bool false)), (some 10), none⟩])
 .ret)
 .skip))
 (.seq (.seq (.note (.gc [5, 6, 8, 11, 57, 58, 59, 60, 63, 64, 65, 66, 67, 68, 69, 70]) (.reg [⟨.fad 0 (.t 8), (some 50), none⟩,
 ⟨.ld none (.t 50), (some 51), none⟩,
 ⟨.bin false .eql (.t 51) (.c (.int .i64 (-1))), (some 52), none⟩]))
 (.cond (.t 52)
 (.seq (.regI [.op ⟨.fad 3 (.t 11), (some 53), none⟩,
 .op ⟨.ld none (.t 53), (some 54), none⟩,
 .op ⟨.bin false .eql (.t 54) (.c (.int .i64 (-1))), (some 55), none⟩,
 .op ⟨.mv (.t 55), (some 56), none⟩,
 .grp mg_ref30_Proves_4,
 .op ⟨.mv (.t 61), (some 62), none⟩,
 .grp mg_ref30_Proves_5,
 .op ⟨.mv (.t 71), (some 10), none⟩])
 .ret)
 .skip))
 (.seq (.reg [⟨.ld (some 2) (.t 5), (some 72), none⟩,
 ⟨.ld (some 2) (.t 6), (some 73), none⟩,
 ⟨.fad 0 (.t 8), (some 74), none⟩,
 ⟨.ld none (.t 74), (some 75), none⟩,
 ⟨.ld (some 5) (.t 11), (some 76), none⟩,
 ⟨.call (.f 49) [(.t 72), (.t 73), (.t 75), (.t 76)] [] [], (some 77), none⟩,
 ⟨.mv (.t 77), (some 10), none⟩])
 .ret)))))
theorem ok_ref30_Proves : mc_ref30_Proves.ok Tryz.prog Tryz.f24.ntmps (Tryz.f24.body.getD .skip) = true := by kernel_rfl
set_option maxHeartbeats 2000000 in
theorem Wq_ref30_Proves (d_ : GDirectory) (a_ : GEstate) (content_ : Int) (x_ : GExposure) (l_ : GLeak) {Q : Bool → Prop} {Q' : V → Heap → Prop} (h : Ok (F_ref30_Proves d_ a_ content_ x_ l_) Q) (hQ : ∀ z, Q z → Q' (.bool z) []) : ACall Tryz.prog 24 [GDirectory.v d_, GEstate.v a_, .int .i64 content_, GExposure.v x_, GLeak.v l_] [] Q' := by
  refine acall_machN [] [] [.t 10] Tryz.func24 rfl (by kernel_rfl) ok_ref30_Proves (by kernel_rfl) rfl rfl fun M hf => ?_
  clear hf
  unfold F_ref30_Proves at h
  unfold mc_ref30_Proves
  (try replace h := tH h)
  refine tB ?_
  repeat' (first
  |(exact hQ _ h)
  |(exact trivial)
  |(exact False.elim h)
  |(have hq := hQ _ h; replace hq := tH hq; exact hq)
  |(refine oblg h ?_; clear h; intro hc h)
  |(refine roomG h ?_; clear h; intro hc h)
  |(refine fork h ?_ ?_ <;> clear h <;> intro hc h)
  |(refine forkS h ?_ ?_ <;> clear h <;> intro hc h)
  |(refine And.intro (chkD_of rfl) ?_)
  |(obtain ⟨y, hy, h⟩ := h; (first | with_reducible first | have hw := W_ref30_right hy | have hw := W_ref29_Proves hy | have hw := W_ref27_Open hy | have hw := W_ref28_Proves hy); (try replace hw := tH hw); (first | (refine sCall_of hw rfl rfl ?_; rw [M.lok_eq]) | (refine sCallD_of hw rfl rfl ?_; rw [M.lokD_eq])); clear hw; clear hy; refine tB ?_)
  |(refine M.gj1 (ms := mg_ref30_Proves_5) [] [] (fun y => [(71, .bool y)]) (fun y => []) h ?_ ?_ <;> first
   |(clear h; intro Qn K hK1 h; unfold mg_ref30_Proves_5; (try replace h := tH h); refine tB ?_)
   |(clear h; intro y h; (try replace h := tH h); refine tB ?_)
       | fail)
  |(refine M.gv1 (ms := mg_ref30_Proves_4) 61 [57, 58, 59, 60] h ?_ ?_ <;> first
   |(clear h; intro K hK2; unfold mg_ref30_Proves_4; refine tB ?_)
   |(clear h; intro b h; (try replace h := tH h); refine tB ?_)
       | fail)
  |(refine M.gv1 (ms := mg_ref30_Proves_3) 37 [32, 33, 34, 35, 36] h ?_ ?_ <;> first
   |(clear h; intro K hK3; unfold mg_ref30_Proves_3; refine tB ?_)
   |(clear h; intro b h; (try replace h := tH h); refine tB ?_)
       | fail)
  |(refine M.gv1 (ms := mg_ref30_Proves_2) 30 [27, 28, 29] h ?_ ?_ <;> first
   |(clear h; intro K hK4; unfold mg_ref30_Proves_2; refine tB ?_)
   |(clear h; intro b h; (try replace h := tH h); refine tB ?_)
       | fail)
  |(refine M.gv1 (ms := mg_ref30_Proves_1) 25 [22, 23, 24] h ?_ ?_ <;> first
   |(clear h; intro K hK5; unfold mg_ref30_Proves_1; refine tB ?_)
   |(clear h; intro b h; (try replace h := tH h); refine tB ?_)
       | fail)
  |(refine hK1 _ ?_; (try refine tB ?_); refine ⟨_, h, ?_⟩; exact tU0; done)
  |((first | refine hK2 _ ?_ | refine hK3 _ ?_ | refine hK4 _ ?_ | refine hK5 _ ?_); exact tU; done)
  |(refine bfork (fun hc => ?_) (fun hc => ?_))
  |(refine ⟨_, getE_map (inb_toNat (by assumption)), ?_⟩; (first | rw [M.lok_compU] | rw [M.lokD_compU]); refine tB ?_)
  |(refine And.intro (ltb_of (by assumption)) ?_)
  |(refine And.intro (inb_nat (by assumption)) ?_)
  |(refine And.intro (by omega) ?_)
    | fail)
theorem W_ref30_Proves : ∀ {d_ : GDirectory} {a_ : GEstate} {content_ : Int} {x_ : GExposure} {l_ : GLeak} {y : Bool}, F_ref30_Proves d_ a_ content_ x_ l_ = some y → ACall Tryz.prog 24 [GDirectory.v d_, GEstate.v a_, .int .i64 content_, GExposure.v x_, GLeak.v l_] [] (fun r H => r = .bool y ∧ H = []) :=
  fun hy => Wq_ref30_Proves _ _ _ _ _ (Q := fun z => z = _) ⟨_, hy, rfl⟩ fun z e => by subst e; exact ⟨rfl, rfl⟩
noncomputable def F_law30_awake : Option Bool :=
  (F_exposure_All (GDirectory.mk [1] []) (GEstate.mk 1 [(GAccess.mk 3 5 0 0 0 2 0), (GAccess.mk 7 1 0 0 0 0 0)]) 2).bind fun y2 => (F_exposure_Why (GDirectory.mk [1] []) (GEstate.mk 1 [(GAccess.mk 3 5 0 0 0 2 0), (GAccess.mk 7 1 0 0 0 0 0)]) 2 0).bind fun y4 => jn (α := Bool) (bif decide (y2.2 = 0) then (F_ref30_Same y2.1 [(GExposure.mk 0 7)]).bind fun y13 => some y13 else some false) fun j14 => grp ((j14 && y4.2)) fun b15 => jn (α := Bool) (bif b15 then (F_ref30_Proves (GDirectory.mk [1] []) (GEstate.mk 1 [(GAccess.mk 3 5 0 0 0 2 0), (GAccess.mk 7 1 0 0 0 0 0)]) 2 (GExposure.mk 0 7) y4.1).bind fun y17 => some y17 else some false) fun j18 => some j18
@[irreducible] def mg_law30_awake_1 : List MOp := [⟨.mv (.t 3), (some 28), (some (27, true))⟩,
 ⟨.build [(.int .i64 0), (.int .i64 0)] [(0, 1, (.c (.int .i64 0))), (1, 1, (.c (.int .i64 7)))], (some 29), (some (27, true))⟩,
 ⟨.lsl 2 [(.t 29)], (some 30), (some (27, true))⟩,
 ⟨.call (.f 14) [(.t 28), (.t 30)] [] [], (some 31), (some (27, true))⟩,
 ⟨.pick (.t 27) (.t 31) (.c (.bool false)), (some 32), none⟩]
@[irreducible] def mg_law30_awake_2 : List MOp := [⟨.mv (.t 6), (some 34), (some (33, true))⟩,
 ⟨.pick (.t 33) (.t 34) (.c (.bool false)), (some 35), none⟩]
@[irreducible] def mg_law30_awake_3 : List MOp := [⟨.ld (some 2) (.t 1), (some 37), (some (36, true))⟩,
 ⟨.ld (some 2) (.t 2), (some 38), (some (36, true))⟩,
 ⟨.build [(.int .i64 0), (.int .i64 0)] [(1, 1, (.c (.int .i64 7)))], (some 39), (some (36, true))⟩,
 ⟨.ld (some 6) (.t 5), (some 40), (some (36, true))⟩,
 ⟨.call (.f 24) [(.t 37), (.t 38), (.c (.int .i64 2)), (.t 39), (.t 40)] [] [], (some 41), (some (36, true))⟩,
 ⟨.pick (.t 36) (.t 41) (.c (.bool false)), (some 42), none⟩]
def mc_law30_awake : MC :=
 (.seq (.reg [⟨.mv (.c (.bool false)), (some 0), none⟩])
 (.seq (.reg [⟨.bslice 1 [(.c (.int .i64 1))], (some 7), none⟩,
 ⟨.build [(.sl []), (.sl [])] [(0, 1, (.t 7))], (some 8), none⟩,
 ⟨.alloc [(.sl []), (.sl [])], (some 1), none⟩,
 ⟨.st 2 (.t 1) (.t 8), none, none⟩])
 (.seq (.reg [⟨.build [(.int .i64 0), (.int .i64 0), (.int .i64 0), (.int .i64 0), (.int .i64 0), (.int .i64 0), (.int .i64 0)] [(0, 1, (.c (.int .i64 3))), (1, 1, (.c (.int .i64 5))), (5, 1, (.c (.int .i64 2)))], (some 9), none⟩,
 ⟨.build [(.int .i64 0), (.int .i64 0), (.int .i64 0), (.int .i64 0), (.int .i64 0), (.int .i64 0), (.int .i64 0)] [(0, 1, (.c (.int .i64 7))), (1, 1, (.c (.int .i64 1)))], (some 10), none⟩,
 ⟨.bslice 7 [(.t 9), (.t 10)], (some 11), none⟩,
 ⟨.build [(.int .i64 0), (.sl [])] [(0, 1, (.c (.int .i64 1))), (1, 1, (.t 11))], (some 12), none⟩,
 ⟨.alloc [(.int .i64 0), (.sl [])], (some 2), none⟩,
 ⟨.st 2 (.t 2) (.t 12), none, none⟩])
 (.seq (.regI [.op ⟨.ld (some 2) (.t 1), (some 14), none⟩,
 .op ⟨.ld (some 2) (.t 2), (some 15), none⟩,
 .nt (.fz 14),
 .nt (.fz 15),
 .op ⟨.call (.f 13) [(.t 14), (.t 15), (.c (.int .i64 2))] [] [], (some 16), none⟩,
 .op ⟨.mv (.t 16), (some 13), none⟩,
 .op ⟨.ext 0 (.t 13), (some 17), none⟩,
 .op ⟨.ext 1 (.t 13), (some 18), none⟩,
 .op ⟨.mv (.t 17), (some 3), none⟩,
 .op ⟨.mv (.t 18), (some 4), none⟩])
 (.seq (.note (.gc [1, 2, 3, 4, 28, 29, 30, 31, 34, 37, 38, 39, 40, 41]) (.reg [⟨.ld (some 2) (.t 1), (some 20), none⟩,
 ⟨.ld (some 2) (.t 2), (some 21), none⟩,
 ⟨.call (.f 22) [(.t 20), (.t 21), (.c (.int .i64 2)), (.c (.int .i64 0))] [] [], (some 22), none⟩,
 ⟨.mv (.t 22), (some 19), none⟩,
 ⟨.ext 0 (.t 19), (some 23), none⟩,
 ⟨.ext 1 (.t 19), (some 24), none⟩,
 ⟨.alloc [(.sl []), (.int .i64 0), (.int .i64 0), (.int .i64 0), (.int .i64 0), (.sl [])], (some 5), none⟩,
 ⟨.st 6 (.t 5) (.t 23), none, none⟩,
 ⟨.mv (.t 24), (some 6), none⟩]))
 (.seq (.regI [.op ⟨.mv (.t 4), (some 25), none⟩,
 .op ⟨.bin false .eql (.t 25) (.c (.int .i64 0)), (some 26), none⟩,
 .op ⟨.mv (.t 26), (some 27), none⟩,
 .grp mg_law30_awake_1,
 .op ⟨.mv (.t 32), (some 33), none⟩,
 .grp mg_law30_awake_2,
 .op ⟨.mv (.t 35), (some 36), none⟩,
 .grp mg_law30_awake_3,
 .op ⟨.mv (.t 42), (some 0), none⟩])
 .ret))))))
theorem ok_law30_awake : mc_law30_awake.ok Tryz.prog Tryz.f8.ntmps (Tryz.f8.body.getD .skip) = true := by kernel_rfl
set_option maxHeartbeats 2000000 in
theorem Wq_law30_awake {Q : Bool → Prop} {Q' : V → Heap → Prop} (h : Ok F_law30_awake Q) (hQ : ∀ z, Q z → Q' (.bool z) []) : ACall Tryz.prog 8 [] [] Q' := by
  refine acall_machN [] [] [.t 0] Tryz.func8 rfl (by kernel_rfl) ok_law30_awake (by kernel_rfl) rfl rfl fun M hf => ?_
  clear hf
  unfold F_law30_awake at h
  unfold mc_law30_awake
  (try replace h := tH h)
  refine tB ?_
  repeat' (first
  |(exact hQ _ h)
  |(exact trivial)
  |(exact False.elim h)
  |(have hq := hQ _ h; replace hq := tH hq; exact hq)
  |(refine oblg h ?_; clear h; intro hc h)
  |(refine roomG h ?_; clear h; intro hc h)
  |(refine fork h ?_ ?_ <;> clear h <;> intro hc h)
  |(refine forkS h ?_ ?_ <;> clear h <;> intro hc h)
  |(refine And.intro (chkD_of rfl) ?_)
  |(obtain ⟨y, hy, h⟩ := h; (first | with_reducible first | have hw := W_exposure_All hy | have hw := W_exposure_Why hy | have hw := W_ref30_Same hy | have hw := W_ref30_Proves hy); (try replace hw := tH hw); (first | (refine sCall_of hw rfl rfl ?_; rw [M.lok_eq]) | (refine sCallD_of hw rfl rfl ?_; rw [M.lokD_eq])); clear hw; clear hy; refine tB ?_)
  |(refine M.gj1 (ms := mg_law30_awake_3) [] [] (fun y => [(42, .bool y)]) (fun y => []) h ?_ ?_ <;> first
   |(clear h; intro Qn K hK1 h; unfold mg_law30_awake_3; (try replace h := tH h); refine tB ?_)
   |(clear h; intro y h; (try replace h := tH h); refine tB ?_)
       | fail)
  |(refine M.gv1 (ms := mg_law30_awake_2) 35 [34] h ?_ ?_ <;> first
   |(clear h; intro K hK2; unfold mg_law30_awake_2; refine tB ?_)
   |(clear h; intro b h; (try replace h := tH h); refine tB ?_)
       | fail)
  |(refine M.gj1 (ms := mg_law30_awake_1) [1, 2, 5, 6] [5, 2, 1] (fun y => [(32, .bool y)]) (fun y => []) h ?_ ?_ <;> first
   |(clear h; intro Qn K hK3 h; unfold mg_law30_awake_1; (try replace h := tH h); refine tB ?_)
   |(clear h; intro y h; (try replace h := tH h); refine tB ?_)
       | fail)
  |((first | refine hK1 _ ?_ | refine hK3 _ ?_); (try refine tB ?_); refine ⟨_, h, ?_⟩; exact tU0; done)
  |(refine hK2 _ ?_; exact tU; done)
  |(refine bfork (fun hc => ?_) (fun hc => ?_))
  |(refine ⟨_, getE_map (inb_toNat (by assumption)), ?_⟩; (first | rw [M.lok_compU] | rw [M.lokD_compU]); refine tB ?_)
  |(refine And.intro (ltb_of (by assumption)) ?_)
  |(refine And.intro (inb_nat (by assumption)) ?_)
  |(refine And.intro (by omega) ?_)
    | fail)
theorem W_law30_awake : ∀ {y : Bool}, F_law30_awake = some y → ACall Tryz.prog 8 [] [] (fun r H => r = .bool y ∧ H = []) :=
  fun hy => Wq_law30_awake (Q := fun z => z = _) ⟨_, hy, rfl⟩ fun z e => by subst e; exact ⟨rfl, rfl⟩
def F_made_Tape_Next (t_ : GTape) (n_ : Int) : Option (Int × GTape) :=
  bif decide ((t_.L.length : Int) ≤ t_.at_) then some (0, t_) else chk (inb t_.at_ t_.L.length) (chk (in64 (t_.at_ + 1)) (chk (divs ((t_.L.getD (t_.at_).toNat default) % 2 ^ 16) n_) (some ((((t_.L.getD (t_.at_).toNat default) % 2 ^ 16) % n_), (GTape.mk t_.L (t_.at_ + 1))))))
def mc_made_Tape_Next : MC :=
 (.seq (.reg [⟨.mv (.c (.int .i64 0)), (some 4), none⟩])
 (.seq (.seq (.regD [⟨.mv (.t 0), (some 6), none⟩,
 ⟨.nck (.t 6), (some 7), none⟩,
 ⟨.fad 1 (.t 7), (some 8), none⟩,
 ⟨.ld none (.t 8), (some 9), none⟩,
 ⟨.mv (.t 0), (some 10), none⟩,
 ⟨.nck (.t 10), (some 11), none⟩,
 ⟨.fad 0 (.t 11), (some 12), none⟩,
 ⟨.ld none (.t 12), (some 13), none⟩,
 ⟨.len false (.t 13), (some 14), none⟩,
 ⟨.bin false .geq (.t 9) (.t 14), (some 15), none⟩]
    [[], [0], [1], [2], [], [4], [5], [6], [7], [3, 8]]
    [[], [0], [0, 1], [0, 1, 2], [], [4], [4, 5], [4, 5, 6], [4, 5, 6, 7], [0, 1, 2, 3, 4, 5, 6, 7, 8]])
 (.cond (.t 15)
 (.seq (.reg [⟨.mv (.c (.int .i64 0)), (some 4), none⟩])
 .ret)
 .skip))
 (.seq (.note (.gc [0, 1]) (.regD [⟨.mv (.t 0), (some 16), none⟩,
 ⟨.nck (.t 16), (some 17), none⟩,
 ⟨.fad 0 (.t 17), (some 18), none⟩,
 ⟨.ld none (.t 18), (some 19), none⟩,
 ⟨.mv (.t 0), (some 20), none⟩,
 ⟨.nck (.t 20), (some 21), none⟩,
 ⟨.fad 1 (.t 21), (some 22), none⟩,
 ⟨.ld none (.t 22), (some 23), none⟩,
 ⟨.iad 1 (.t 19) (.t 23), (some 24), none⟩,
 ⟨.ld none (.t 24), (some 25), none⟩,
 ⟨.mask 16 (.t 25) .i64, (some 26), none⟩,
 ⟨.mv (.t 26), (some 5), none⟩]
    [[], [0], [1], [2], [], [4], [5], [6], [3, 7], [8], [9], [10, 0, 1, 2, 3, 4, 5, 6, 7, 8, 9, 10]]
    [[], [0], [0, 1], [0, 1, 2], [], [4], [4, 5], [4, 5, 6], [0, 1, 2, 3, 4, 5, 6, 7], [0, 1, 2, 3, 4, 5, 6, 7, 8], [0, 1, 2, 3, 4, 5, 6, 7, 8, 9], [0, 1, 2, 3, 4, 5, 6, 7, 8, 9, 10]]))
 (.seq (.note (.gc [0, 1, 5]) (.reg [⟨.mv (.t 0), (some 27), none⟩,
 ⟨.nck (.t 27), (some 28), none⟩,
 ⟨.fad 1 (.t 28), (some 29), none⟩,
 ⟨.ld none (.t 29), (some 30), none⟩,
 ⟨.bin true .add (.t 30) (.c (.int .i64 1)), (some 31), none⟩,
 ⟨.nck (.t 27), (some 32), none⟩,
 ⟨.fad 1 (.t 32), (some 33), none⟩,
 ⟨.st 1 (.t 33) (.t 31), none, none⟩]))
 (.seq (.note (.gc [1, 5]) (.reg [⟨.mv (.t 5), (some 34), none⟩,
 ⟨.mv (.t 1), (some 35), none⟩,
 ⟨.bin true .rem (.t 34) (.t 35), (some 36), none⟩,
 ⟨.mv (.t 36), (some 4), none⟩]))
 .ret)))))
theorem ok_made_Tape_Next : mc_made_Tape_Next.ok Tryz.prog Tryz.f11.ntmps (Tryz.f11.body.getD .skip) = true := by kernel_rfl
set_option maxHeartbeats 2000000 in
theorem Wq_made_Tape_Next (t_ : GTape) (n_ : Int) {Q : Int × GTape → Prop} {Q' : V → Heap → Prop} (h : Ok (F_made_Tape_Next t_ n_) Q) (hQ : ∀ z, Q z → Q' (.int .i64 z.1) [(1000, .cells [.sl (z.2.L.map (V.int .i64)), .int .i64 z.2.at_])]) : ACall Tryz.prog 11 [.ptr 1000 0, .int .i64 n_] [(1000, .cells [.sl (t_.L.map (V.int .i64)), .int .i64 t_.at_])] Q' := by
  refine acall_machN [] [1000] [.t 4] Tryz.func11 rfl (by kernel_rfl) ok_made_Tape_Next (by kernel_rfl) rfl rfl fun M hf => ?_
  clear hf
  unfold F_made_Tape_Next at h
  unfold mc_made_Tape_Next
  (try replace h := tH h)
  refine tB ?_
  repeat' (first
  |(exact hQ _ h)
  |(exact trivial)
  |(exact False.elim h)
  |(have hq := hQ _ h; replace hq := tH hq; exact hq)
  |(refine oblg h ?_; clear h; intro hc h)
  |(refine roomG h ?_; clear h; intro hc h)
  |(refine fork h ?_ ?_ <;> clear h <;> intro hc h)
  |(refine forkS h ?_ ?_ <;> clear h <;> intro hc h)
  |(refine And.intro (chkD_of rfl) ?_)
  |(refine ⟨_, getE_map (inb_toNat (by assumption)), ?_⟩; (first | rw [M.lok_compU] | rw [M.lokD_compU]); refine tB ?_)
  |(refine And.intro (ltb_of (by assumption)) ?_)
  |(refine And.intro (inb_nat (by assumption)) ?_)
  |(refine And.intro (by omega) ?_)
    | fail)
theorem W_made_Tape_Next : ∀ {t_ : GTape} {n_ : Int} {y : Int × GTape}, F_made_Tape_Next t_ n_ = some y → ACall Tryz.prog 11 [.ptr 1000 0, .int .i64 n_] [(1000, .cells [.sl (t_.L.map (V.int .i64)), .int .i64 t_.at_])] (fun r H => r = .int .i64 y.1 ∧ H = [(1000, .cells [.sl (y.2.L.map (V.int .i64)), .int .i64 y.2.at_])]) :=
  fun hy => Wq_made_Tape_Next _ _ (Q := fun z => z = _) ⟨_, hy, rfl⟩ fun z e => by subst e; exact ⟨rfl, rfl⟩
def F_made_Tape_Between (t_ : GTape) (a_ : Int) (b_ : Int) : Option (Int × GTape) :=
  chk (in64 (b_ - a_)) (chk (in64 ((b_ - a_) + 1)) ((F_made_Tape_Next t_ ((b_ - a_) + 1)).bind fun y2 => chk (in64 (a_ + y2.1)) (some ((a_ + y2.1), y2.2))))
def mc_made_Tape_Between : MC :=
 (.seq (.reg [⟨.mv (.c (.int .i64 0)), (some 6), none⟩])
 (.seq (.reg [⟨.mv (.t 1), (some 7), none⟩,
 ⟨.mv (.t 0), (some 8), none⟩,
 ⟨.mv (.t 2), (some 9), none⟩,
 ⟨.mv (.t 1), (some 10), none⟩,
 ⟨.bin true .sub (.t 9) (.t 10), (some 11), none⟩,
 ⟨.bin true .add (.t 11) (.c (.int .i64 1)), (some 12), none⟩,
 ⟨.call (.f 11) [(.t 8), (.t 12)] [1000] [], (some 13), none⟩,
 ⟨.bin true .add (.t 7) (.t 13), (some 14), none⟩,
 ⟨.mv (.t 14), (some 6), none⟩])
 .ret))
theorem ok_made_Tape_Between : mc_made_Tape_Between.ok Tryz.prog Tryz.f25.ntmps (Tryz.f25.body.getD .skip) = true := by kernel_rfl
set_option maxHeartbeats 2000000 in
theorem Wq_made_Tape_Between (t_ : GTape) (a_ : Int) (b_ : Int) {Q : Int × GTape → Prop} {Q' : V → Heap → Prop} (h : Ok (F_made_Tape_Between t_ a_ b_) Q) (hQ : ∀ z, Q z → Q' (.int .i64 z.1) [(1000, .cells [.sl (z.2.L.map (V.int .i64)), .int .i64 z.2.at_])]) : ACall Tryz.prog 25 [.ptr 1000 0, .int .i64 a_, .int .i64 b_] [(1000, .cells [.sl (t_.L.map (V.int .i64)), .int .i64 t_.at_])] Q' := by
  refine acall_machN [] [1000] [.t 6] Tryz.func25 rfl (by kernel_rfl) ok_made_Tape_Between (by kernel_rfl) rfl rfl fun M hf => ?_
  clear hf
  unfold F_made_Tape_Between at h
  unfold mc_made_Tape_Between
  (try replace h := tH h)
  refine tB ?_
  repeat' (first
  |(exact hQ _ h)
  |(exact trivial)
  |(exact False.elim h)
  |(have hq := hQ _ h; replace hq := tH hq; exact hq)
  |(refine oblg h ?_; clear h; intro hc h)
  |(refine roomG h ?_; clear h; intro hc h)
  |(refine fork h ?_ ?_ <;> clear h <;> intro hc h)
  |(refine forkS h ?_ ?_ <;> clear h <;> intro hc h)
  |(refine And.intro (chkD_of rfl) ?_)
  |(obtain ⟨y, hy, h⟩ := h; have hw := W_made_Tape_Next hy; (try replace hw := tH hw); (first | (refine sCall_of hw rfl rfl ?_; rw [M.lok_eq]) | (refine sCallD_of hw rfl rfl ?_; rw [M.lokD_eq])); clear hw; clear hy; refine tB ?_)
  |(refine ⟨_, getE_map (inb_toNat (by assumption)), ?_⟩; (first | rw [M.lok_compU] | rw [M.lokD_compU]); refine tB ?_)
  |(refine And.intro (ltb_of (by assumption)) ?_)
  |(refine And.intro (inb_nat (by assumption)) ?_)
  |(refine And.intro (by omega) ?_)
    | fail)
theorem W_made_Tape_Between : ∀ {t_ : GTape} {a_ : Int} {b_ : Int} {y : Int × GTape}, F_made_Tape_Between t_ a_ b_ = some y → ACall Tryz.prog 25 [.ptr 1000 0, .int .i64 a_, .int .i64 b_] [(1000, .cells [.sl (t_.L.map (V.int .i64)), .int .i64 t_.at_])] (fun r H => r = .int .i64 y.1 ∧ H = [(1000, .cells [.sl (y.2.L.map (V.int .i64)), .int .i64 y.2.at_])]) :=
  fun hy => Wq_made_Tape_Between _ _ _ (Q := fun z => z = _) ⟨_, hy, rfl⟩ fun z e => by subst e; exact ⟨rfl, rfl⟩
def F_made_Pick (t_ : GTape) (l_ : List Int) : Option (Int × GTape) :=
  (F_made_Tape_Next t_ (l_.length : Int)).bind fun y2 => chk (inb y2.1 l_.length) (some ((l_.getD (y2.1).toNat default), y2.2))
def mc_made_Pick : MC :=
 (.seq (.reg [⟨.mv (.c (.int .i64 0)), (some 4), none⟩])
 (.seq (.reg [⟨.mv (.t 1), (some 5), none⟩,
 ⟨.mv (.t 0), (some 6), none⟩,
 ⟨.mv (.t 1), (some 7), none⟩,
 ⟨.len false (.t 7), (some 8), none⟩,
 ⟨.call (.f 11) [(.t 6), (.t 8)] [1000] [], (some 9), none⟩,
 ⟨.iad 1 (.t 5) (.t 9), (some 10), none⟩,
 ⟨.ld none (.t 10), (some 11), none⟩,
 ⟨.mv (.t 11), (some 4), none⟩])
 .ret))
theorem ok_made_Pick : mc_made_Pick.ok Tryz.prog Tryz.f26.ntmps (Tryz.f26.body.getD .skip) = true := by kernel_rfl
set_option maxHeartbeats 2000000 in
theorem Wq_made_Pick (t_ : GTape) (l_ : List Int) {Q : Int × GTape → Prop} {Q' : V → Heap → Prop} (h : Ok (F_made_Pick t_ l_) Q) (hQ : ∀ z, Q z → Q' (.int .i64 z.1) [(1000, .cells [.sl (z.2.L.map (V.int .i64)), .int .i64 z.2.at_])]) : ACall Tryz.prog 26 [.ptr 1000 0, .sl (l_.map (V.int .i64))] [(1000, .cells [.sl (t_.L.map (V.int .i64)), .int .i64 t_.at_])] Q' := by
  refine acall_machN [] [1000] [.t 4] Tryz.func26 rfl (by kernel_rfl) ok_made_Pick (by kernel_rfl) rfl rfl fun M hf => ?_
  clear hf
  unfold F_made_Pick at h
  unfold mc_made_Pick
  (try replace h := tH h)
  refine tB ?_
  repeat' (first
  |(exact hQ _ h)
  |(exact trivial)
  |(exact False.elim h)
  |(have hq := hQ _ h; replace hq := tH hq; exact hq)
  |(refine oblg h ?_; clear h; intro hc h)
  |(refine roomG h ?_; clear h; intro hc h)
  |(refine fork h ?_ ?_ <;> clear h <;> intro hc h)
  |(refine forkS h ?_ ?_ <;> clear h <;> intro hc h)
  |(refine And.intro (chkD_of rfl) ?_)
  |(obtain ⟨y, hy, h⟩ := h; have hw := W_made_Tape_Next hy; (try replace hw := tH hw); (first | (refine sCall_of hw rfl rfl ?_; rw [M.lok_eq]) | (refine sCallD_of hw rfl rfl ?_; rw [M.lokD_eq])); clear hw; clear hy; refine tB ?_)
  |(refine ⟨_, getE_map (inb_toNat (by assumption)), ?_⟩; (first | rw [M.lok_compU] | rw [M.lokD_compU]); refine tB ?_)
  |(refine And.intro (ltb_of (by assumption)) ?_)
  |(refine And.intro (inb_nat (by assumption)) ?_)
  |(refine And.intro (by omega) ?_)
    | fail)
theorem W_made_Pick : ∀ {t_ : GTape} {l_ : List Int} {y : Int × GTape}, F_made_Pick t_ l_ = some y → ACall Tryz.prog 26 [.ptr 1000 0, .sl (l_.map (V.int .i64))] [(1000, .cells [.sl (t_.L.map (V.int .i64)), .int .i64 t_.at_])] (fun r H => r = .int .i64 y.1 ∧ H = [(1000, .cells [.sl (y.2.L.map (V.int .i64)), .int .i64 y.2.at_])]) :=
  fun hy => Wq_made_Pick _ _ (Q := fun z => z = _) ⟨_, hy, rfl⟩ fun z e => by subst e; exact ⟨rfl, rfl⟩
noncomputable def F_made_Clock_L1 (n_ : Int) (x33 : Int × Int × (List Int) × GTape) : Option (Fl (Int × Int × (List Int) × GTape) ((List Int) × GTape)) :=
  bif decide (x33.2.1 < n_) then (F_made_Tape_Next x33.2.2.2 3).bind fun y41 => chk (in64 (x33.1 + y41.1)) (chk (room (x33.2.2.1.length + [(x33.1 + y41.1)].length) 8) (chk (in64 (x33.2.1 + 1)) (some (.nx ((x33.1 + y41.1), (x33.2.1 + 1), (x33.2.2.1 ++ [(x33.1 + y41.1)]), y41.2))))) else some (.ex (x33.2.2.1, x33.2.2.2))
noncomputable def F_made_Clock (t_ : GTape) (n_ : Int) : Option ((List Int) × GTape) :=
  (F_made_Tape_Next t_ 4).bind fun y2 => (loop (F_made_Clock_L1 n_) (y2.1, 0, [], y2.2)).bind fun r42 => some (r42.1, r42.2)
@[irreducible] def mc_made_Clock_L1 : MC :=
 (.seq (.seq (.reg [⟨.mv (.t 7), (some 10), none⟩,
 ⟨.mv (.t 1), (some 11), none⟩,
 ⟨.bin false .lss (.t 10) (.t 11), (some 12), none⟩])
 (.cond (.t 12)
 .skip
 (.exit 0)))
 (.seq (.block 1
 (.seq (.reg [⟨.mv (.t 6), (some 15), none⟩,
 ⟨.mv (.t 0), (some 16), none⟩,
 ⟨.call (.f 11) [(.t 16), (.c (.int .i64 3))] [1000] [], (some 17), none⟩,
 ⟨.bin true .add (.t 15) (.t 17), (some 18), none⟩,
 ⟨.mv (.t 18), (some 6), none⟩])
 (.reg [⟨.mv (.t 5), (some 19), none⟩,
 ⟨.mv (.t 6), (some 20), none⟩,
 ⟨.bslice 1 [(.t 20)], (some 21), none⟩,
 ⟨.app 1 8 (.t 19) (.t 21), (some 22), none⟩,
 ⟨.mv (.t 22), (some 5), none⟩])))
 (.note (.gc [0, 1, 5, 6, 7]) (.reg [⟨.mv (.t 7), (some 13), none⟩,
 ⟨.bin true .add (.t 13) (.c (.int .i64 1)), (some 14), none⟩,
 ⟨.mv (.t 14), (some 7), none⟩]))))
def mc_made_Clock : MC :=
 (.seq (.reg [⟨.mv (.c (.sl [])), (some 4), none⟩])
 (.seq (.reg [⟨.mv (.c .nils), (some 5), none⟩])
 (.seq (.reg [⟨.mv (.t 0), (some 8), none⟩,
 ⟨.call (.f 11) [(.t 8), (.c (.int .i64 4))] [1000] [], (some 9), none⟩,
 ⟨.mv (.t 9), (some 6), none⟩])
 (.seq (.seq (.reg [⟨.mv (.c (.int .i64 0)), (some 7), none⟩])
 (.block 0
 (.loop mc_made_Clock_L1)))
 (.seq (.reg [⟨.mv (.t 5), (some 23), none⟩,
 ⟨.mv (.t 23), (some 4), none⟩])
 .ret)))))
theorem ok_made_Clock : mc_made_Clock.ok Tryz.prog Tryz.f27.ntmps (Tryz.f27.body.getD .skip) = true := by kernel_rfl
set_option maxHeartbeats 2000000 in
theorem Wq_made_Clock (t_ : GTape) (n_ : Int) {Q : (List Int) × GTape → Prop} {Q' : V → Heap → Prop} (h : Ok (F_made_Clock t_ n_) Q) (hQ : ∀ z, Q z → Q' (.sl (z.1.map (V.int .i64))) [(1000, .cells [.sl (z.2.L.map (V.int .i64)), .int .i64 z.2.at_])]) : ACall Tryz.prog 27 [.ptr 1000 0, .int .i64 n_] [(1000, .cells [.sl (t_.L.map (V.int .i64)), .int .i64 t_.at_])] Q' := by
  refine acall_machN [.fz 4] [1000] [.t 4] Tryz.func27 rfl (by kernel_rfl) ok_made_Clock (by kernel_rfl) rfl rfl fun M hf => ?_
  clear hf
  unfold F_made_Clock at h
  unfold mc_made_Clock
  (try replace h := tH h)
  refine tB ?_
  repeat' (first
  |(exact hQ _ h)
  |(exact trivial)
  |(exact False.elim h)
  |(have hq := hQ _ h; replace hq := tH hq; exact hq)
  |(refine oblg h ?_; clear h; intro hc h)
  |(refine roomG h ?_; clear h; intro hc h)
  |(refine fork h ?_ ?_ <;> clear h <;> intro hc h)
  |(refine forkS h ?_ ?_ <;> clear h <;> intro hc h)
  |(refine And.intro (chkD_of rfl) ?_)
  |(obtain ⟨y, hy, h⟩ := h; have hw := W_made_Tape_Next hy; (try replace hw := tH hw); (first | (refine sCall_of hw rfl rfl ?_; rw [M.lok_eq]) | (refine sCallD_of hw rfl rfl ?_; rw [M.lokD_eq])); clear hw; clear hy; refine tB ?_)
  |(refine M.wh1 (b := mc_made_Clock_L1) [0, 1] [] (fun x => [(5, .osl 2005 1 0 x.2.2.1.length), (6, .int .i64 x.1), (7, .int .i64 x.2.1)]) (fun x => [.o 2005 (.arr 1 (x.2.2.1.map (V.int .i64))), .o 1000 (.cells [.sl (x.2.2.2.L.map (V.int .i64)), .int .i64 x.2.2.2.at_])]) [.gc [0, 1, 5, 6, 7], .acc 5 2005 1] h ?_ ?_ <;> first
   |(clear h; intro x Qn K hK1 h; unfold F_made_Clock_L1 at h; unfold mc_made_Clock_L1; (try replace h := tH h); refine tB ?_)
   |(clear h; (try refine tB ?_); exact tU0; done)
       | fail)
  |(refine hK1 _ ?_; (try refine tB ?_); refine ⟨_, h, ?_⟩; exact tU0; done)
  |(refine ⟨_, getE_map (inb_toNat (by assumption)), ?_⟩; (first | rw [M.lok_compU] | rw [M.lokD_compU]); refine tB ?_)
  |(refine And.intro (ltb_of (by assumption)) ?_)
  |(refine And.intro (inb_nat (by assumption)) ?_)
  |(refine And.intro (by omega) ?_)
    | fail)
theorem W_made_Clock : ∀ {t_ : GTape} {n_ : Int} {y : (List Int) × GTape}, F_made_Clock t_ n_ = some y → ACall Tryz.prog 27 [.ptr 1000 0, .int .i64 n_] [(1000, .cells [.sl (t_.L.map (V.int .i64)), .int .i64 t_.at_])] (fun r H => r = .sl (y.1.map (V.int .i64)) ∧ H = [(1000, .cells [.sl (y.2.L.map (V.int .i64)), .int .i64 y.2.at_])]) :=
  fun hy => Wq_made_Clock _ _ (Q := fun z => z = _) ⟨_, hy, rfl⟩ fun z e => by subst e; exact ⟨rfl, rfl⟩
noncomputable def F_made_Directory_L1 (x23 : Int × (List Int) × GTape) : Option (Fl (Int × (List Int) × GTape) ((List Int) × GTape)) :=
  bif decide (0 < x23.1) then (F_made_Pick x23.2.2 [2, 2, 1, 3]).bind fun y27 => chk (room (x23.2.1.length + [y27.1].length) 8) (chk (in64 (x23.1 - 1)) (some (.nx ((x23.1 - 1), (x23.2.1 ++ [y27.1]), y27.2)))) else some (.ex (x23.2.1, x23.2.2))
noncomputable def F_made_Directory_L2 (k44 : Int) (a45 : Int) (x43 : List Int) : Option (List Int) :=
  bif decide (a45 = 2) then chk (room (x43.length + [k44].length) 8) (some (x43 ++ [k44])) else some x43
noncomputable def F_made_Directory_L3 (r28 : (List Int) × GTape) (x46 : List Int) (k214 : Int) (a215 : Int) (x213 : (List GMember) × GTape) : Option ((List GMember) × GTape) :=
  (F_made_Tape_Next x213.2 (r28.1.length : Int)).bind fun y245 => (F_made_Tape_Next y245.2 (x46.length : Int)).bind fun y246 => chk (inb y246.1 x46.length) (jn (α := GMember × GTape) ((F_made_Tape_Next y246.2 4).bind fun y251 => bif decide (y251.1 = 3) then some ((GMember.mk a215 2 y245.1 (x46.getD ((y246.1).toNat) default)), y251.2) else some ((GMember.mk a215 1 y245.1 (x46.getD ((y246.1).toNat) default)), y251.2)) fun j249 => bif (!decide (j249.1.Principal = j249.1.Group)) then chk (room (x213.1.length + [j249.1].length) 32) (some ((x213.1 ++ [j249.1]), j249.2)) else some (x213.1, j249.2))
noncomputable def F_made_Directory (t_ : GTape) : Option (GDirectory × GTape) :=
  (F_made_Tape_Between t_ 2 6).bind fun y16 => (loop F_made_Directory_L1 (y16.1, [1], y16.2)).bind fun r28 => (foldL F_made_Directory_L2 r28.1 0 []).bind fun x46 => bif decide ((x46.length : Int) = 0) then some ((GDirectory.mk r28.1 []), r28.2) else (F_made_Tape_Next r28.2 12).bind fun y152 => (F_made_Clock y152.2 y152.1).bind fun y153 => (foldL (F_made_Directory_L3 r28 x46) y153.1 0 ([], y153.2)).bind fun x252 => some ((GDirectory.mk r28.1 x252.1), x252.2)
@[irreducible] def mc_made_Directory_L1 : MC :=
 (.seq (.seq (.reg [⟨.mv (.t 4), (some 15), none⟩,
 ⟨.bin false .gtr (.t 15) (.c (.int .i64 0)), (some 16), none⟩])
 (.cond (.t 16)
 .skip
 (.exit 0)))
 (.seq (.block 1
 (.regD [⟨.fad 0 (.t 3), (some 19), none⟩,
 ⟨.ld none (.t 19), (some 20), none⟩,
 ⟨.mv (.t 0), (some 21), none⟩,
 ⟨.lsl 1 [(.c (.int .i64 2)), (.c (.int .i64 2)), (.c (.int .i64 1)), (.c (.int .i64 3))], (some 22), none⟩,
 ⟨.call (.f 26) [(.t 21), (.t 22)] [1000] [], (some 23), none⟩,
 ⟨.bslice 1 [(.t 23)], (some 24), none⟩,
 ⟨.app 1 8 (.t 20) (.t 24), (some 25), none⟩,
 ⟨.fad 0 (.t 3), (some 26), none⟩,
 ⟨.st 1 (.t 26) (.t 25), none, none⟩]
    [[], [0], [], [], [2, 3], [4], [1, 5, 4], [0, 1, 2, 3, 4, 5, 6], [7, 6, 6, 0, 1, 2, 3, 4, 5, 6]]
    [[], [0], [], [], [2, 3], [2, 3, 4], [0, 1, 2, 3, 4, 5], [0, 1, 2, 3, 4, 5, 6], [0, 1, 2, 3, 4, 5, 6, 7]]))
 (.note (.gc [0, 2, 3, 4]) (.reg [⟨.mv (.t 4), (some 17), none⟩,
 ⟨.bin true .sub (.t 17) (.c (.int .i64 1)), (some 18), none⟩,
 ⟨.mv (.t 18), (some 4), none⟩]))))
@[irreducible] def mc_made_Directory_L2 : MC :=
 (.seq (.reg [⟨.bin false .lss (.t 30) (.t 29), (some 31), none⟩])
 (.seq (.cond (.t 31)
 .skip
 (.exit 2))
 (.seq (.block 3
 (.seq (.reg [⟨.mv (.t 30), (some 32), none⟩,
 ⟨.iad 1 (.t 28) (.t 30), (some 33), none⟩,
 ⟨.ld none (.t 33), (some 34), none⟩,
 ⟨.mv (.t 32), (some 6), none⟩,
 ⟨.mv (.t 34), (some 7), none⟩])
 (.seq (.reg [⟨.mv (.t 7), (some 35), none⟩,
 ⟨.bin false .eql (.t 35) (.c (.int .i64 2)), (some 36), none⟩])
 (.cond (.t 36)
 (.reg [⟨.mv (.t 5), (some 37), none⟩,
 ⟨.mv (.t 6), (some 38), none⟩,
 ⟨.bslice 1 [(.t 38)], (some 39), none⟩,
 ⟨.app 1 8 (.t 37) (.t 39), (some 40), none⟩,
 ⟨.mv (.t 40), (some 5), none⟩])
 .skip))))
 (.reg [⟨.bin true .add (.t 30) (.c (.int .i64 1)), (some 41), none⟩,
 ⟨.mv (.t 41), (some 30), none⟩]))))
@[irreducible] def mc_made_Directory_J1 : MC :=
 (.seq (.reg [⟨.fad 2 (.t 10), (some 73), none⟩,
 ⟨.ld none (.t 73), (some 74), none⟩,
 ⟨.fad 3 (.t 10), (some 75), none⟩,
 ⟨.ld none (.t 75), (some 76), none⟩,
 ⟨.bin false .neq (.t 74) (.t 76), (some 77), none⟩])
 (.cond (.t 77)
 (.reg [⟨.fad 1 (.t 3), (some 78), none⟩,
 ⟨.ld none (.t 78), (some 79), none⟩,
 ⟨.ld (some 4) (.t 10), (some 80), none⟩,
 ⟨.bslice 4 [(.t 80)], (some 81), none⟩,
 ⟨.app 4 32 (.t 79) (.t 81), (some 82), none⟩,
 ⟨.fad 1 (.t 3), (some 83), none⟩,
 ⟨.st 1 (.t 83) (.t 82), none, none⟩])
 .skip))
@[irreducible] def mc_made_Directory_L3 : MC :=
 (.seq (.reg [⟨.bin false .lss (.t 51) (.t 50), (some 52), none⟩])
 (.seq (.cond (.t 52)
 .skip
 (.exit 4))
 (.seq (.block 5
 (.seq (.reg [⟨.iad 1 (.t 49) (.t 51), (some 53), none⟩,
 ⟨.ld none (.t 53), (some 54), none⟩,
 ⟨.mv (.t 54), (some 9), none⟩])
 (.seq (.reg [⟨.mv (.t 9), (some 55), none⟩,
 ⟨.mv (.t 0), (some 56), none⟩,
 ⟨.fad 0 (.t 3), (some 57), none⟩,
 ⟨.ld none (.t 57), (some 58), none⟩,
 ⟨.len false (.t 58), (some 59), none⟩,
 ⟨.call (.f 11) [(.t 56), (.t 59)] [1000] [], (some 60), none⟩,
 ⟨.mv (.t 5), (some 61), none⟩,
 ⟨.mv (.t 0), (some 62), none⟩,
 ⟨.mv (.t 5), (some 63), none⟩,
 ⟨.len false (.t 63), (some 64), none⟩,
 ⟨.call (.f 11) [(.t 62), (.t 64)] [1000] [], (some 65), none⟩,
 ⟨.iad 1 (.t 61) (.t 65), (some 66), none⟩,
 ⟨.ld none (.t 66), (some 67), none⟩,
 ⟨.build [(.int .i64 0), (.int .i64 0), (.int .i64 0), (.int .i64 0)] [(0, 1, (.t 55)), (1, 1, (.c (.int .i64 1))), (2, 1, (.t 60)), (3, 1, (.t 67))], (some 68), none⟩,
 ⟨.alloc [(.int .i64 0), (.int .i64 0), (.int .i64 0), (.int .i64 0)], (some 10), none⟩,
 ⟨.st 4 (.t 10) (.t 68), none, none⟩])
 (.cut (.seq (.note (.gc [0, 2, 3, 5, 10, 49, 50, 51]) (.reg [⟨.mv (.t 0), (some 69), none⟩,
 ⟨.call (.f 11) [(.t 69), (.c (.int .i64 4))] [1000] [], (some 70), none⟩,
 ⟨.bin false .eql (.t 70) (.c (.int .i64 3)), (some 71), none⟩]))
 (.cond (.t 71)
 (.reg [⟨.fad 1 (.t 10), (some 72), none⟩,
 ⟨.st 1 (.t 72) (.c (.int .i64 2)), none, none⟩])
 .skip))
  mc_made_Directory_J1))))
 (.reg [⟨.bin true .add (.t 51) (.c (.int .i64 1)), (some 84), none⟩,
 ⟨.mv (.t 84), (some 51), none⟩]))))
def mc_made_Directory : MC :=
 (.seq (.reg [⟨.alloc [(.sl []), (.sl [])], (some 2), none⟩])
 (.seq (.reg [⟨.bslice 1 [(.c (.int .i64 1))], (some 11), none⟩,
 ⟨.build [.nils, .nils] [(0, 1, (.t 11))], (some 12), none⟩,
 ⟨.alloc [(.sl []), (.sl [])], (some 3), none⟩,
 ⟨.st 2 (.t 3) (.t 12), none, none⟩])
 (.seq (.seq (.reg [⟨.mv (.t 0), (some 13), none⟩,
 ⟨.call (.f 25) [(.t 13), (.c (.int .i64 2)), (.c (.int .i64 6))] [1000] [], (some 14), none⟩,
 ⟨.mv (.t 14), (some 4), none⟩])
 (.block 0
 (.loop mc_made_Directory_L1)))
 (.seq (.reg [⟨.mv (.c .nils), (some 5), none⟩])
 (.seq (.seq (.reg [⟨.fad 0 (.t 3), (some 27), none⟩,
 ⟨.ld none (.t 27), (some 28), none⟩,
 ⟨.len false (.t 28), (some 29), none⟩,
 ⟨.mv (.c (.int .i64 0)), (some 30), none⟩])
 (.block 2
 (.loop mc_made_Directory_L2)))
 (.seq (.seq (.reg [⟨.mv (.t 5), (some 42), none⟩,
 ⟨.len false (.t 42), (some 43), none⟩,
 ⟨.bin false .eql (.t 43) (.c (.int .i64 0)), (some 44), none⟩])
 (.cond (.t 44)
 (.seq (.reg [⟨.ld (some 2) (.t 3), (some 45), none⟩,
 ⟨.st 2 (.t 2) (.t 45), none, none⟩])
 .ret)
 .skip))
 (.seq (.seq (.reg [⟨.mv (.t 0), (some 46), none⟩,
 ⟨.mv (.t 0), (some 47), none⟩,
 ⟨.call (.f 11) [(.t 47), (.c (.int .i64 12))] [1000] [], (some 48), none⟩,
 ⟨.call (.f 27) [(.t 46), (.t 48)] [1000] [], (some 49), none⟩,
 ⟨.len false (.t 49), (some 50), none⟩,
 ⟨.mv (.c (.int .i64 0)), (some 51), none⟩])
 (.block 4
 (.loop mc_made_Directory_L3)))
 (.seq (.reg [⟨.ld (some 2) (.t 3), (some 85), none⟩,
 ⟨.st 2 (.t 2) (.t 85), none, none⟩])
 .ret))))))))
theorem ok_made_Directory : mc_made_Directory.ok Tryz.prog Tryz.f9.ntmps (Tryz.f9.body.getD .skip) = true := by kernel_rfl
set_option maxHeartbeats 2000000 in
theorem Wq_made_Directory (t_ : GTape) {Q : GDirectory × GTape → Prop} {Q' : V → Heap → Prop} (h : Ok (F_made_Directory t_) Q) (hQ : ∀ z, Q z → Q' (GDirectory.v z.1) [(1000, .cells [.sl (z.2.L.map (V.int .i64)), .int .i64 z.2.at_])]) : ACall Tryz.prog 9 [.ptr 1000 0] [(1000, .cells [.sl (t_.L.map (V.int .i64)), .int .i64 t_.at_])] Q' := by
  refine acall_machN [.fzc 2] [1000] [.c 2 (some 2)] Tryz.func9 rfl (by kernel_rfl) ok_made_Directory (by kernel_rfl) rfl rfl fun M hf => ?_
  clear hf
  unfold F_made_Directory at h
  unfold mc_made_Directory
  (try replace h := tH h)
  refine tB ?_
  repeat' (first
  |(exact hQ _ h)
  |(exact trivial)
  |(exact False.elim h)
  |(have hq := hQ _ h; replace hq := tH hq; exact hq)
  |(refine oblg h ?_; clear h; intro hc h)
  |(refine roomG h ?_; clear h; intro hc h)
  |(refine fork h ?_ ?_ <;> clear h <;> intro hc h)
  |(refine forkS h ?_ ?_ <;> clear h <;> intro hc h)
  |(refine And.intro (chkD_of rfl) ?_)
  |(obtain ⟨y, hy, h⟩ := h; (first | with_reducible first | have hw := W_made_Tape_Between hy | have hw := W_made_Pick hy | have hw := W_made_Tape_Next hy | have hw := W_made_Clock hy); (try replace hw := tH hw); (first | (refine sCall_of hw rfl rfl ?_; rw [M.lok_eq]) | (refine sCallD_of hw rfl rfl ?_; rw [M.lokD_eq])); clear hw; clear hy; refine tB ?_)
  |(refine M.wh1 (b := mc_made_Directory_L1) [0, 2, 3] [3, 2] (fun x => [(4, .int .i64 x.1)]) (fun x => [.p 3 0 [.osl 4048 1 0 x.2.1.length], .o 4048 (.arr 1 (x.2.1.map (V.int .i64))), .o 1000 (.cells [.sl (x.2.2.L.map (V.int .i64)), .int .i64 x.2.2.at_])]) [.gc [0, 2, 3, 4], .ownC 3 0 4048 1 none] h ?_ ?_ <;> first
   |(clear h; intro x Qn K hK1 h; unfold F_made_Directory_L1 at h; unfold mc_made_Directory_L1; (try replace h := tH h); refine tB ?_)
   |(clear h; (try refine tB ?_); exact tU0; done)
       | fail)
  |(refine M.fold1 (b := mc_made_Directory_L2) 30 [0, 2, 3, 28, 29] [4048, 3, 2, 1000] (fun x => [(5, .osl 2005 1 0 x.length)]) (fun x => [.o 2005 (.arr 1 (x.map (V.int .i64)))]) [.gc [0, 2, 3, 5, 28, 29, 30], .acc 5 2005 1] h ?_ ?_ ?_ <;> first
   |(clear h; intro k a x Qn K hK2 hkN2 ha2 h hf; have hl := fact_int (factsE_find (n := 29) hf.1 rfl); clear hf; have hkd := kD hkN2; have hkB2 := kB hkN2; have hkI2 : in64 ((k : Int) + 1) = true := in64_iff.2 ⟨by omega, by (try simp only [List.length_cons, List.length_nil] at hkN2); omega⟩; unfold F_made_Directory_L2 at h; unfold mc_made_Directory_L2; (try replace h := tH h); refine tK ha2 hkd hkN2 hkB2 hkI2 ?_)
   |(clear h; intro x K h; replace h := And.left (And.intro h trivial); unfold mc_made_Directory_L2; (try replace h := tH h); refine tB ?_)
   |(clear h; (try refine tB ?_); exact tU0; done)
       | fail)
  |(refine M.jn1 (b := mc_made_Directory_J1) [0, 2, 3, 5, 10, 49, 50, 51] [2005, 3, 4048, 4049, 2] (fun y => []) (fun y => [.o 10 (.cells [.int .i64 y.1.Time, .int .i64 y.1.Kind, .int .i64 y.1.Principal, .int .i64 y.1.Group]), .o 1000 (.cells [.sl (y.2.L.map (V.int .i64)), .int .i64 y.2.at_])]) [] h ?_ ?_ <;> first
   |(clear h; intro Qn K hK3 h; (try replace h := tH h); refine tB ?_)
   |(clear h; intro y h; unfold mc_made_Directory_J1; (try replace h := tH h); refine tB ?_)
       | fail)
  |(refine M.fold1 (b := mc_made_Directory_L3) 51 [0, 2, 3, 5, 49, 50] [2005, 3, 4048, 2] (fun x => []) (fun x => [.p 3 1 [.osl 4049 4 0 x.1.length], .o 4049 (.arr 4 (x.1.map GMember.v)), .o 1000 (.cells [.sl (x.2.L.map (V.int .i64)), .int .i64 x.2.at_])]) [.gc [0, 2, 3, 5, 49, 50, 51], .ownC 3 1 4049 4 none] h ?_ ?_ ?_ <;> first
   |(clear h; intro k a x Qn K hK4 hkN4 ha4 h hf; have hl := fact_int (factsE_find (n := 50) hf.1 rfl); clear hf; have hkd := kD hkN4; have hkB4 := kB hkN4; have hkI4 : in64 ((k : Int) + 1) = true := in64_iff.2 ⟨by omega, by (try simp only [List.length_cons, List.length_nil] at hkN4); omega⟩; unfold F_made_Directory_L3 at h; unfold mc_made_Directory_L3; (try replace h := tH h); refine tK ha4 hkd hkN4 hkB4 hkI4 ?_)
   |(clear h; intro x K h; replace h := And.left (And.intro h trivial); unfold mc_made_Directory_L3; (try replace h := tH h); refine tB ?_)
   |(clear h; (try refine tB ?_); exact tU0; done)
       | fail)
  |(refine And.intro (by first | exact hkI2 | exact hkN2 | exact hkB2 | exact hkI4 | exact hkN4 | exact hkB4) ?_)
  |(first | simp only [ha2] | simp only [ha4])
  |((first | refine hK1 _ ?_ | refine hK2 _ ?_ | refine hK3 _ ?_ | refine hK4 _ ?_); (try refine tB ?_); refine ⟨_, h, ?_⟩; exact tU0; done)
  |(refine ⟨_, getE_map (inb_toNat (by assumption)), ?_⟩; (first | rw [M.lok_compU] | rw [M.lokD_compU]); refine tB ?_)
  |(refine And.intro (ltb_of (by assumption)) ?_)
  |(refine And.intro (inb_nat (by assumption)) ?_)
  |(refine And.intro (by omega) ?_)
    | fail)
theorem W_made_Directory : ∀ {t_ : GTape} {y : GDirectory × GTape}, F_made_Directory t_ = some y → ACall Tryz.prog 9 [.ptr 1000 0] [(1000, .cells [.sl (t_.L.map (V.int .i64)), .int .i64 t_.at_])] (fun r H => r = GDirectory.v y.1 ∧ H = [(1000, .cells [.sl (y.2.L.map (V.int .i64)), .int .i64 y.2.at_])]) :=
  fun hy => Wq_made_Directory _ (Q := fun z => z = _) ⟨_, hy, rfl⟩ fun z e => by subst e; exact ⟨rfl, rfl⟩
noncomputable def F_made_Estate_L1 (d_ : GDirectory) (k346 : Int) (a347 : Int) (x345 : Int × (List GAccess) × GTape) : Option (Int × (List GAccess) × GTape) :=
  (F_made_Pick x345.2.2 [1, 1, 2, 3, 4, 5, 5, 6, 7, 7]).bind fun y410 => (F_made_Tape_Next y410.2 x345.1).bind fun y411 => jn (α := Fl (GAccess × GTape) GTape) (jn (α := Bool) (bif decide (y410.1 = 1) then some true else some (decide (y410.1 = 2))) fun j420 => bif j420 then chk (in64 ((d_.Kinds.length : Int) + 1)) ((F_made_Tape_Next y411.2 ((d_.Kinds.length : Int) + 1)).bind fun y421 => some (.nx ((GAccess.mk a347 y410.1 y411.1 y421.1 0 0 0), y421.2))) else bif decide (y410.1 = 3) then chk (in64 (a347 + 1)) ((F_made_Tape_Next y411.2 5).bind fun y422 => chk (in64 ((a347 + 1) + y422.1)) (some (.nx ((GAccess.mk a347 y410.1 y411.1 0 ((a347 + 1) + y422.1) 0 0), y422.2)))) else jn (α := Bool) (bif decide (y410.1 = 5) then some true else some (decide (y410.1 = 6))) fun j423 => bif j423 then (F_made_Tape_Next y411.2 3).bind fun y424 => some (.nx ((GAccess.mk a347 y410.1 y411.1 0 0 y424.1 0), y424.2)) else bif decide (y410.1 = 7) then (F_made_Tape_Next y411.2 x345.1).bind fun y426 => bif decide (y426.1 = y411.1) then some (.ex y426.2) else some (.nx ((GAccess.mk a347 y410.1 y411.1 0 0 0 y426.1), y426.2)) else some (.nx ((GAccess.mk a347 y410.1 y411.1 0 0 0 0), y411.2))) fun o => o.elim (fun j419 => chk (room (x345.2.1.length + [j419.1].length) 56) (some (x345.1, (x345.2.1 ++ [j419.1]), j419.2))) (fun r427 => some (x345.1, x345.2.1, r427))
noncomputable def F_made_Estate (t_ : GTape) (d_ : GDirectory) : Option (GEstate × GTape) :=
  (F_made_Tape_Between t_ 1 4).bind fun y2 => (F_made_Tape_Next y2.2 16).bind fun y218 => (F_made_Clock y218.2 y218.1).bind fun y219 => (foldL (F_made_Estate_L1 d_) y219.1 0 (y2.1, [], y219.2)).bind fun x428 => some ((GEstate.mk x428.1 x428.2.1), x428.2.2)
@[irreducible] def mc_made_Estate_J1 : MC :=
 (.cond (.t 50)
 (.reg [⟨.mv (.t 0), (some 53), none⟩,
 ⟨.call (.f 11) [(.t 53), (.c (.int .i64 3))] [1000] [], (some 54), none⟩,
 ⟨.fad 5 (.t 8), (some 55), none⟩,
 ⟨.st 1 (.t 55) (.t 54), none, none⟩])
 (.seq (.reg [⟨.bin false .eql (.t 31) (.c (.int .i64 7)), (some 57), none⟩,
 ⟨.mv (.t 57), (some 56), none⟩])
 (.cond (.t 56)
 (.seq (.reg [⟨.mv (.t 0), (some 58), none⟩,
 ⟨.fad 0 (.t 5), (some 59), none⟩,
 ⟨.ld none (.t 59), (some 60), none⟩,
 ⟨.call (.f 11) [(.t 58), (.t 60)] [1000] [], (some 61), none⟩,
 ⟨.fad 6 (.t 8), (some 62), none⟩,
 ⟨.st 1 (.t 62) (.t 61), none, none⟩])
 (.seq (.note (.gc [0, 3, 4, 5, 8, 15, 16, 17]) (.reg [⟨.fad 6 (.t 8), (some 63), none⟩,
 ⟨.ld none (.t 63), (some 64), none⟩,
 ⟨.fad 2 (.t 8), (some 65), none⟩,
 ⟨.ld none (.t 65), (some 66), none⟩,
 ⟨.bin false .eql (.t 64) (.t 66), (some 67), none⟩]))
 (.cond (.t 67)
 (.exit 1)
 .skip)))
 .skip)))
@[irreducible] def mc_made_Estate_J2 : MC :=
 (.cond (.t 32)
 (.reg [⟨.mv (.t 0), (some 35), none⟩,
 ⟨.fad 0 (.t 3), (some 36), none⟩,
 ⟨.ld none (.t 36), (some 37), none⟩,
 ⟨.len false (.t 37), (some 38), none⟩,
 ⟨.bin true .add (.t 38) (.c (.int .i64 1)), (some 39), none⟩,
 ⟨.call (.f 11) [(.t 35), (.t 39)] [1000] [], (some 40), none⟩,
 ⟨.fad 3 (.t 8), (some 41), none⟩,
 ⟨.st 1 (.t 41) (.t 40), none, none⟩])
 (.seq (.reg [⟨.bin false .eql (.t 31) (.c (.int .i64 3)), (some 43), none⟩,
 ⟨.mv (.t 43), (some 42), none⟩])
 (.cond (.t 42)
 (.reg [⟨.mv (.t 7), (some 44), none⟩,
 ⟨.bin true .add (.t 44) (.c (.int .i64 1)), (some 45), none⟩,
 ⟨.mv (.t 0), (some 46), none⟩,
 ⟨.call (.f 11) [(.t 46), (.c (.int .i64 5))] [1000] [], (some 47), none⟩,
 ⟨.bin true .add (.t 45) (.t 47), (some 48), none⟩,
 ⟨.fad 4 (.t 8), (some 49), none⟩,
 ⟨.st 1 (.t 49) (.t 48), none, none⟩])
 (.cut (.seq (.reg [⟨.bin false .eql (.t 31) (.c (.int .i64 5)), (some 51), none⟩,
 ⟨.mv (.t 51), (some 50), none⟩])
 (.cond (.t 50)
 .skip
 (.reg [⟨.bin false .eql (.t 31) (.c (.int .i64 6)), (some 52), none⟩,
 ⟨.mv (.t 52), (some 50), none⟩])))
      mc_made_Estate_J1))))
@[irreducible] def mc_made_Estate_J3 : MC :=
 (.reg [⟨.fad 1 (.t 5), (some 68), none⟩,
 ⟨.ld none (.t 68), (some 69), none⟩,
 ⟨.ld (some 7) (.t 8), (some 70), none⟩,
 ⟨.bslice 7 [(.t 70)], (some 71), none⟩,
 ⟨.app 7 56 (.t 69) (.t 71), (some 72), none⟩,
 ⟨.fad 1 (.t 5), (some 73), none⟩,
 ⟨.st 1 (.t 73) (.t 72), none, none⟩])
@[irreducible] def mc_made_Estate_L1 : MC :=
 (.seq (.reg [⟨.bin false .lss (.t 17) (.t 16), (some 18), none⟩])
 (.seq (.cond (.t 18)
 .skip
 (.exit 0))
 (.seq (.block 1
 (.seq (.reg [⟨.iad 1 (.t 15) (.t 17), (some 19), none⟩,
 ⟨.ld none (.t 19), (some 20), none⟩,
 ⟨.mv (.t 20), (some 7), none⟩])
 (.seq (.regD [⟨.mv (.t 7), (some 21), none⟩,
 ⟨.mv (.t 0), (some 22), none⟩,
 ⟨.lsl 1 [(.c (.int .i64 1)), (.c (.int .i64 1)), (.c (.int .i64 2)), (.c (.int .i64 3)), (.c (.int .i64 4)), (.c (.int .i64 5)), (.c (.int .i64 5)), (.c (.int .i64 6)), (.c (.int .i64 7)), (.c (.int .i64 7))], (some 23), none⟩,
 ⟨.call (.f 26) [(.t 22), (.t 23)] [1000] [], (some 24), none⟩,
 ⟨.mv (.t 0), (some 25), none⟩,
 ⟨.fad 0 (.t 5), (some 26), none⟩,
 ⟨.ld none (.t 26), (some 27), none⟩,
 ⟨.call (.f 11) [(.t 25), (.t 27)] [1000] [], (some 28), none⟩,
 ⟨.build [(.int .i64 0), (.int .i64 0), (.int .i64 0), (.int .i64 0), (.int .i64 0), (.int .i64 0), (.int .i64 0)] [(0, 1, (.t 21)), (1, 1, (.t 24)), (2, 1, (.t 28))], (some 29), none⟩,
 ⟨.alloc [(.int .i64 0), (.int .i64 0), (.int .i64 0), (.int .i64 0), (.int .i64 0), (.int .i64 0), (.int .i64 0)], (some 8), none⟩,
 ⟨.st 7 (.t 8) (.t 29), none, none⟩]
    [[], [], [], [1, 2], [], [], [5], [4, 6, 3], [0, 3, 7], [], [9, 8, 7, 0, 1, 2, 3, 4, 5, 6, 7, 8, 9]]
    [[], [], [], [1, 2], [], [], [5], [1, 2, 3, 4, 5, 6], [0, 1, 2, 3, 4, 5, 6, 7], [], [0, 1, 2, 3, 4, 5, 6, 7, 8, 9]])
 (.cut (.seq (.reg [⟨.fad 1 (.t 8), (some 30), none⟩,
 ⟨.ld none (.t 30), (some 31), none⟩])
 (.block 2
 (.cut (.seq (.reg [⟨.bin false .eql (.t 31) (.c (.int .i64 1)), (some 33), none⟩,
 ⟨.mv (.t 33), (some 32), none⟩])
 (.cond (.t 32)
 .skip
 (.reg [⟨.bin false .eql (.t 31) (.c (.int .i64 2)), (some 34), none⟩,
 ⟨.mv (.t 34), (some 32), none⟩])))
  mc_made_Estate_J2)))
  mc_made_Estate_J3))))
 (.reg [⟨.bin true .add (.t 17) (.c (.int .i64 1)), (some 74), none⟩,
 ⟨.mv (.t 74), (some 17), none⟩]))))
def mc_made_Estate : MC :=
 (.seq (.reg [⟨.box (.t 1), (some 3), none⟩,
 ⟨.alloc [(.int .i64 0), (.sl [])], (some 4), none⟩])
 (.seq (.reg [⟨.mv (.t 0), (some 9), none⟩,
 ⟨.call (.f 25) [(.t 9), (.c (.int .i64 1)), (.c (.int .i64 4))] [1000] [], (some 10), none⟩,
 ⟨.build [(.int .i64 0), .nils] [(0, 1, (.t 10))], (some 11), none⟩,
 ⟨.alloc [(.int .i64 0), (.sl [])], (some 5), none⟩,
 ⟨.st 2 (.t 5) (.t 11), none, none⟩])
 (.seq (.seq (.reg [⟨.mv (.t 0), (some 12), none⟩,
 ⟨.mv (.t 0), (some 13), none⟩,
 ⟨.call (.f 11) [(.t 13), (.c (.int .i64 16))] [1000] [], (some 14), none⟩,
 ⟨.call (.f 27) [(.t 12), (.t 14)] [1000] [], (some 15), none⟩,
 ⟨.len false (.t 15), (some 16), none⟩,
 ⟨.mv (.c (.int .i64 0)), (some 17), none⟩])
 (.block 0
 (.loop mc_made_Estate_L1)))
 (.seq (.reg [⟨.ld (some 2) (.t 5), (some 75), none⟩,
 ⟨.st 2 (.t 4) (.t 75), none, none⟩])
 .ret))))
theorem ok_made_Estate : mc_made_Estate.ok Tryz.prog Tryz.f10.ntmps (Tryz.f10.body.getD .skip) = true := by kernel_rfl
set_option maxHeartbeats 2000000 in
theorem Wq_made_Estate (t_ : GTape) (d_ : GDirectory) {Q : GEstate × GTape → Prop} {Q' : V → Heap → Prop} (h : Ok (F_made_Estate t_ d_) Q) (hQ : ∀ z, Q z → Q' (GEstate.v z.1) [(1000, .cells [.sl (z.2.L.map (V.int .i64)), .int .i64 z.2.at_])]) : ACall Tryz.prog 10 [.ptr 1000 0, GDirectory.v d_] [(1000, .cells [.sl (t_.L.map (V.int .i64)), .int .i64 t_.at_])] Q' := by
  refine acall_machN [.fzc 4] [1000] [.c 4 (some 2)] Tryz.func10 rfl (by kernel_rfl) ok_made_Estate (by kernel_rfl) rfl rfl fun M hf => ?_
  clear hf
  unfold F_made_Estate at h
  unfold mc_made_Estate
  (try replace h := tH h)
  refine tB ?_
  repeat' (first
  |(exact hQ _ h)
  |(exact trivial)
  |(exact False.elim h)
  |(have hq := hQ _ h; replace hq := tH hq; exact hq)
  |(refine oblg h ?_; clear h; intro hc h)
  |(refine roomG h ?_; clear h; intro hc h)
  |(refine fork h ?_ ?_ <;> clear h <;> intro hc h)
  |(refine forkS h ?_ ?_ <;> clear h <;> intro hc h)
  |(refine And.intro (chkD_of rfl) ?_)
  |(obtain ⟨y, hy, h⟩ := h; (first | with_reducible first | have hw := W_made_Tape_Between hy | have hw := W_made_Tape_Next hy | have hw := W_made_Clock hy | have hw := W_made_Pick hy); (try replace hw := tH hw); (first | (refine sCall_of hw rfl rfl ?_; rw [M.lok_eq]) | (refine sCallD_of hw rfl rfl ?_; rw [M.lokD_eq])); clear hw; clear hy; refine tB ?_)
  |(refine M.jn1 (b := mc_made_Estate_J1) [0, 3, 4, 5, 8, 15, 16, 17, 31] [8, 5, 4081, 4, 3, 1000] (fun y => [(50, .bool y)]) (fun y => []) [] h ?_ ?_ <;> first
   |(clear h; intro Qn K hK1 h; (try replace h := tH h); refine tB ?_)
   |(clear h; intro y h; unfold mc_made_Estate_J1; (try replace h := tH h); refine tB ?_)
       | fail)
  |(refine M.jn1 (b := mc_made_Estate_J2) [0, 3, 4, 5, 7, 8, 15, 16, 17, 31] [8, 5, 4081, 4, 3, 1000] (fun y => [(32, .bool y)]) (fun y => []) [] h ?_ ?_ <;> first
   |(clear h; intro Qn K hK2 h; (try replace h := tH h); refine tB ?_)
   |(clear h; intro y h; unfold mc_made_Estate_J2; (try replace h := tH h); refine tB ?_)
       | fail)
  |(refine M.jnE (b := mc_made_Estate_J3) [0, 3, 4, 5, 8, 15, 16, 17] [5, 4081, 4, 3] (fun y => []) (fun y => [.o 8 (.cells [.int .i64 y.1.Time, .int .i64 y.1.Kind, .int .i64 y.1.Place, .int .i64 y.1.Principal, .int .i64 y.1.Until, .int .i64 y.1.Content, .int .i64 y.1.From]), .o 1000 (.cells [.sl (y.2.L.map (V.int .i64)), .int .i64 y.2.at_])]) [] h ?_ ?_ <;> first
   |(clear h; intro Qn K hK3 h; (try replace h := tH h); refine tB ?_)
   |(clear h; intro y h; unfold mc_made_Estate_J3; (try replace h := tH h); refine tB ?_)
       | fail)
  |(refine M.fold1 (b := mc_made_Estate_L1) 17 [0, 3, 4, 5, 15, 16] [4, 3] (fun x => []) (fun x => [.o 5 (.cells [.int .i64 x.1, .osl 4081 7 0 x.2.1.length]), .o 4081 (.arr 7 (x.2.1.map GAccess.v)), .o 1000 (.cells [.sl (x.2.2.L.map (V.int .i64)), .int .i64 x.2.2.at_])]) [.gc [0, 3, 4, 5, 15, 16, 17], .ownC 5 1 4081 7 none] h ?_ ?_ ?_ <;> first
   |(clear h; intro k a x Qn K hK4 hkN4 ha4 h hf; have hl := fact_int (factsE_find (n := 16) hf.1 rfl); clear hf; have hkd := kD hkN4; have hkB4 := kB hkN4; have hkI4 : in64 ((k : Int) + 1) = true := in64_iff.2 ⟨by omega, by (try simp only [List.length_cons, List.length_nil] at hkN4); omega⟩; unfold F_made_Estate_L1 at h; unfold mc_made_Estate_L1; (try replace h := tH h); refine tK ha4 hkd hkN4 hkB4 hkI4 ?_)
   |(clear h; intro x K h; replace h := And.left (And.intro h trivial); unfold mc_made_Estate_L1; (try replace h := tH h); refine tB ?_)
   |(clear h; (try refine tB ?_); exact tU0; done)
       | fail)
  |(refine And.intro (by first | exact hkI4 | exact hkN4 | exact hkB4) ?_)
  |(simp only [ha4])
  |((first | refine hK1 _ ?_ | refine hK2 _ ?_ | refine hK3 _ ?_ | refine hK4 _ ?_); (try refine tB ?_); refine ⟨_, h, ?_⟩; exact tU0; done)
  |(refine ⟨_, getE_map (inb_toNat (by assumption)), ?_⟩; (first | rw [M.lok_compU] | rw [M.lokD_compU]); refine tB ?_)
  |(refine And.intro (ltb_of (by assumption)) ?_)
  |(refine And.intro (inb_nat (by assumption)) ?_)
  |(refine And.intro (by omega) ?_)
    | fail)
theorem W_made_Estate : ∀ {t_ : GTape} {d_ : GDirectory} {y : GEstate × GTape}, F_made_Estate t_ d_ = some y → ACall Tryz.prog 10 [.ptr 1000 0, GDirectory.v d_] [(1000, .cells [.sl (t_.L.map (V.int .i64)), .int .i64 t_.at_])] (fun r H => r = GEstate.v y.1 ∧ H = [(1000, .cells [.sl (y.2.L.map (V.int .i64)), .int .i64 y.2.at_])]) :=
  fun hy => Wq_made_Estate _ _ (Q := fun z => z = _) ⟨_, hy, rfl⟩ fun z e => by subst e; exact ⟨rfl, rfl⟩
end Go.Ab
