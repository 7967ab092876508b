/- Who may read what, in plain words. -/
import Derived.Test.YtmodfifkcbpibaaPX
import Derived.Test.YtmodfifkcbpibaaLC
set_option linter.all false
set_option linter.all false
namespace Go.Ab
open Go.Proofs
def dlk (d : GDirectory) (t : Int) : Nat → Nat → Bool := zk (ev4 (d.Events.map fun e => (e.Time, e.Kind, e.Principal, e.Group))) t d.Events.length
open Classical in
noncomputable def upl (d : GDirectory) (p t : Int) : List Int := ((List.range d.Kinds.length).filter fun i => decide (RT (dlk d t) d.Kinds.length p.toNat i)).map fun i : Nat => (i : Int)
theorem at_eq {d : GDirectory} (g : GoodD d) (t : Int) : atF d.Kinds.length (d.Events.map fun e => (e.Time, e.Kind, e.Principal, e.Group)) t = some ((List.range d.Kinds.length).map fun j => (List.range d.Kinds.length).map fun i => dlk d t j i) := by
 have hk := g.kl
 unfold atF
 rw [chk_true (by simp; omega), chk_true]
 · simp [dlk]
 · simp only [List.all_eq_true, List.mem_map]
   rintro _ ⟨e, he, rfl⟩
   obtain ⟨_, _, _, h4, h5, _⟩ := g.ev e he
   have e1 : inb e.Principal d.Kinds.length = true := inb_iff.2 h4
   have e2 : inb e.Group d.Kinds.length = true := inb_iff.2 ⟨h5.1, h5.2.1⟩
   simp [e1, e2]
theorem those_eq (l : List Bool) (h : l.length ≤ 24) : F_directory_those l = some (((List.range l.length).filter (gt l)).map fun i : Nat => (i : Int)) := by
 refine Ok.eq ?_
 unfold F_directory_those
 refine Ok.bind (Ok.foldI (all := l) (fun pre s => s = ((List.range pre.length).filter (gt l)).map fun i : Nat => (i : Int)) l [] 0 [] rfl rfl rfl (fun pre x r s hw hs => ?_) fun s hs => hs) fun s hs => Ok.ret hs
 subst hs
 unfold F_directory_those_L1
 have hp : pre.length < l.length := by rw [hw]; simp
 have hx : gt l pre.length = x := by rw [hw]; simp [gt]
 have hlen : (((List.range pre.length).filter (gt l)).map fun i : Nat => (i : Int)).length ≤ pre.length := by
   rw [List.length_map]; exact Nat.le_trans (List.length_filter_le _ _) (by simp)
 simp only [List.length_append, List.length_singleton, List.range_succ, List.filter_append, List.map_append]
 cases x
 · simp only [cond_false]
   exact Ok.ret (by simp [hx])
 · simp only [cond_true]
   exact Ok.chk (room_smD (by simp only [List.length_map] at hlen ⊢; omega)) (Ok.ret (by simp [hx]))
theorem upward_eq {d : GDirectory} (g : GoodD d) {p : Int} (t : Int) (h0 : 0 ≤ p) (h1 : p < d.Kinds.length) : F_directory_Upward d p t = some (upl d p t) := by
 have hk : decide (0 ≤ p ∧ p < (d.Kinds.length : Int)) = true := decide_eq_true ⟨h0, h1⟩
 simp only [F_directory_Upward, dknown_eq g, hk, Option.bind_some, Bool.not_true, cond_false, at_eq g]
 obtain ⟨o, ho, ho1, ho2⟩ := upward_ok (L := dlk d t) (n := d.Kinds.length) (p := p.toNat) g.kl (by omega) ((List.range d.Kinds.length).map fun j => (List.range d.Kinds.length).map fun i => dlk d t j i) (by simp) fun a ha => by
   have e : ((List.range d.Kinds.length).map fun j => (List.range d.Kinds.length).map fun i => dlk d t j i).getD a default = (List.range d.Kinds.length).map fun i => dlk d t a i := by simp [List.getD_eq_getElem?_getD, ha]
   rw [e]
   exact ⟨by simp, fun i hi => by simp [List.getD_eq_getElem?_getD, hi]⟩
 rw [show ((p.toNat : Nat) : Int) = p by omega] at ho
 rw [ho]
 have hl := g.kl
 simp only [Option.bind_some, those_eq o (by rw [ho1]; exact hl)]
 simp only [upl, ho1]
 congr 2
 refine List.filter_congr fun i hi => ?_
 have := ho2 i (List.mem_range.1 hi)
 cases e : gt o i with
 | true => simp [this.1 e]
 | false =>
   have h : ¬ RT (dlk d t) d.Kinds.length p.toNat i := fun h => by rw [this.2 h] at e; cases e
   simp [h]
theorem mem_upl {d : GDirectory} {p t x : Int} : x ∈ upl d p t ↔ 0 ≤ x ∧ x < d.Kinds.length ∧ RT (dlk d t) d.Kinds.length p.toNat x.toNat := by
 simp only [upl, List.mem_map, List.mem_filter, List.mem_range, decide_eq_true_eq]
 constructor
 · rintro ⟨i, ⟨h1, h2⟩, rfl⟩
   exact ⟨by omega, by omega, h2⟩
 · rintro ⟨h1, h2, h3⟩
   exact ⟨x.toNat, ⟨by omega, h3⟩, by omega⟩
def rdr (d : GDirectory) (p : Int) : Prop := 0 ≤ p ∧ p < d.Kinds.length ∧ d.Kinds.getD p.toNat default ≠ 2
theorem reader_eq (d : GDirectory) (p : Int) [Decidable (rdr d p)] : F_readers_Reader d p = some (decide (rdr d p)) := by
 simp only [F_readers_Reader, grp, jn]
 by_cases c : 0 ≤ p ∧ p < (d.Kinds.length : Int)
 · have e : (decide (0 ≤ p) && decide (p < (d.Kinds.length : Int))) = true := by simpa using c
   simp only [e, cond_true, chk_true (inb_iff.2 c), Option.bind_some]
   congr 1
   by_cases q : d.Kinds.getD p.toNat default = 2
   · rw [decide_eq_true q, decide_eq_false (fun h : rdr d p => h.2.2 q)]; rfl
   · rw [decide_eq_false q, decide_eq_true (show rdr d p from ⟨c.1, c.2, q⟩)]; rfl
 · have e : (decide (0 ≤ p) && decide (p < (d.Kinds.length : Int))) = false := by
     cases h : (decide (0 ≤ p) && decide (p < (d.Kinds.length : Int)))
     · rfl
     · exact absurd (by simpa using h) c
   simp only [e, cond_false, Option.bind_some]
   rw [decide_eq_false (fun h : rdr d p => c ⟨h.1, h.2.1⟩)]
open Classical in
theorem fine_eq {d : GDirectory} {a : GEstate} (g : GoodD d) (h : Good a) (p pl : Int) : F_readers_fine d a p pl = some (decide (rdr d p ∧ 0 ≤ pl ∧ pl ≤ a.Places - 1)) := by
 simp only [F_readers_fine, F_readers_Check, dcheck_eq, check_eq, if_pos g, if_pos h, Option.bind_some, jn, reader_eq, place_eq a pl h.lo h.hi]
 by_cases c : rdr d p <;> simp [c]
theorem rgr_go (U : List Int) : ∀ (xs : List Int) (k : Int), forL F_readers_grant_L1 xs k U = some (match xs.find? (fun x => decide (x ∈ U)) with | some x => .ex (x, true) | none => .nx U)
 | [], k => rfl
 | x :: r, k => by
   simp only [forL, F_readers_grant_L1, dcont_eq, Option.bind_some, List.find?_cons]
   by_cases c : x ∈ U
   · simp [c, Fl_ex]
   · simp [c, Fl_nx, rgr_go U r (k + 1)]
def fst0 (o : Option Int) : Int × Bool := match o with | some x => (x, true) | none => (0, false)
theorem rgrant_eq {d : GDirectory} {a : GEstate} {p pl t : Int} {U G : List Int} (h1 : F_directory_Upward d p t = some U) (h2 : F_access_Granted a pl t = some G) : F_readers_grant d a p pl t = some (fst0 (G.find? fun x => decide (x ∈ U))) := by
 simp only [F_readers_grant, h1, h2, Option.bind_some, rgr_go]
 cases G.find? (fun x => decide (x ∈ U)) <;> simp [fst0, Fl_nx, Fl_ex]
def mayP (d : GDirectory) (a : GEstate) (p pl t : Int) : Prop :=
 (rdr d p ∧ 0 ≤ pl ∧ pl ≤ a.Places - 1) ∧ ((lkf pl t a.Events 0 (0, false)).2 = true ∨ ∃ x ∈ keysf pl t a.Events, x ∈ upl d p t)
open Classical in
theorem may_eq {d : GDirectory} {a : GEstate} (g : GoodD d) (h : Good a) (p pl t : Int) : F_readers_May d a p pl t = some (decide (mayP d a p pl t)) := by
 simp only [F_readers_May, fine_eq g h, Option.bind_some, grp]
 by_cases c : rdr d p ∧ 0 ≤ pl ∧ pl ≤ a.Places - 1
 · have hk := known_of h c.2.1 c.2.2
   rw [linked_eq t hk, rgrant_eq (upward_eq g t c.1.1 c.1.2.1) (granted_eq t h.len hk)]
   simp only [decide_eq_true c, Bool.not_true, cond_false, Option.bind_some]
   congr 1
   by_cases q : ∃ x ∈ keysf pl t a.Events, x ∈ upl d p t
   · have : (fst0 ((srtI (keysf pl t a.Events)).find? fun x => decide (x ∈ upl d p t))).2 = true := by
       obtain ⟨x, hx, hu⟩ := q
       cases e : (srtI (keysf pl t a.Events)).find? fun x => decide (x ∈ upl d p t) with
       | some y => rfl
       | none =>
         have := List.find?_eq_none.1 e x (srtI_mem.2 hx)
         simp [hu] at this
     rw [this, Bool.or_true]
     exact (decide_eq_true (show mayP d a p pl t from ⟨c, .inr q⟩)).symm
   · have : (fst0 ((srtI (keysf pl t a.Events)).find? fun x => decide (x ∈ upl d p t))).2 = false := by
       cases e : (srtI (keysf pl t a.Events)).find? fun x => decide (x ∈ upl d p t) with
       | none => rfl
       | some y =>
         refine absurd ⟨y, srtI_mem.1 (List.mem_of_find?_eq_some e), ?_⟩ q
         have := List.find?_some e
         simpa using this
     rw [this, Bool.or_false]
     cases e : (lkf pl t a.Events 0 (0, false)).2 with
     | true => exact (decide_eq_true (show mayP d a p pl t from ⟨c, .inl e⟩)).symm
     | false =>
       refine (decide_eq_false fun hm : mayP d a p pl t => ?_).symm
       rcases hm.2 with h | h
       · rw [e] at h; cases h
       · exact q h
 · simp only [decide_eq_false c, Bool.not_false, cond_true]
   congr 1
   exact (decide_eq_false fun hm : mayP d a p pl t => c hm.1).symm
end Go.Ab
namespace Go.Ab
open Go.Proofs
theorem dir_ok {t : GTape} (h : TOK t) : Ok (F_made_Directory t) fun y => GoodD y.1 ∧ 1 ≤ y.1.Kinds.length ∧ y.1.Kinds.length ≤ 7 ∧ y.1.Events.length ≤ 11 ∧ (∀ x ∈ y.1.Events, x.Time ≤ 25) ∧ TOK y.2 := by
 unfold F_made_Directory
 refine Ok.bind (between_ok h (by omega) (by omega) (by omega)) fun y hy => ?_
 refine Ok.bind (Ok.loop (Q := fun y : List Int × GTape => 1 ≤ y.1.length ∧ y.1.length ≤ 7 ∧ (∀ k ∈ y.1, 1 ≤ k ∧ k ≤ 3) ∧ TOK y.2) (fun x => 0 ≤ x.1 ∧ (x.2.1.length : Int) + x.1 ≤ 7 ∧ 1 ≤ x.2.1.length ∧ (∀ k ∈ x.2.1, 1 ≤ k ∧ k ≤ 3) ∧ TOK x.2.2) (fun x => x.1.toNat) (fun x hx => ?_) _ ?_) fun r hr => ?_
 · obtain ⟨k, out, t⟩ := x
   obtain ⟨h1, h2, h3, h3', h4⟩ := hx
   simp only at h1 h2 h3 h3' h4
   unfold F_made_Directory_L1
   refine Ok.ite (fun c => ?_) fun c => ?_
   · have c : 0 < k := by simpa using c
     refine Ok.bind (pick_ok h4 (by simp)) fun y hy => ?_
     refine Ok.chk (room_sm (by simp; omega)) (Ok.chk (in64_sm (by simp only; omega) (by simp only; omega)) (Ok.ret ?_))
     simp only [Fl.elim]
     have hm := hy.1
     simp only [List.mem_cons, List.not_mem_nil, or_false] at hm
     refine ⟨⟨by omega, by simp; omega, by simp, fun q hq => ?_, hy.2⟩, by omega⟩
     simp only [List.mem_append, List.mem_singleton] at hq
     rcases hq with hq | rfl
     · exact h3' q hq
     · omega
   · refine Ok.ret ?_
     simp only [Fl.elim]
     exact ⟨h3, by omega, h3', h4⟩
 · exact ⟨by show 0 ≤ y.1; omega, by show ((1 : Nat) : Int) + y.1 ≤ 7; omega, by simp, by simp, hy.2.2⟩
 · obtain ⟨r1, r2, r2', r3⟩ := hr
   refine Ok.bind (Ok.foldI (all := r.1) (Q := fun x : List Int => x.length ≤ 7 ∧ ∀ k ∈ x, 0 ≤ k ∧ k < r.1.length ∧ r.1.getD k.toNat default = 2) (fun pre x => x.length ≤ pre.length ∧ ∀ k ∈ x, 0 ≤ k ∧ k < r.1.length ∧ r.1.getD k.toNat default = 2) r.1 [] 0 [] rfl rfl (by simp) (fun pre x q s hw hs => ?_) fun s hs => ⟨by omega, hs.2⟩) fun gs hg => ?_
   · unfold F_made_Directory_L2
     have hp : pre.length < r.1.length := by rw [hw]; simp
     have hx : r.1.getD pre.length default = x := by rw [hw]; simp
     refine Ok.ite (fun c => Ok.chk (room_sm (by simp; omega)) (Ok.ret ⟨by simp; omega, fun k hk => ?_⟩)) fun c => Ok.ret ⟨by simp; omega, hs.2⟩
     simp only [List.mem_append, List.mem_singleton] at hk
     rcases hk with hk | rfl
     · exact hs.2 k hk
     · refine ⟨by omega, by omega, ?_⟩
       rw [Int.toNat_natCast, hx]; simpa using c
   · have gd0 : GoodD ⟨r.1, []⟩ := ⟨by show r.1.length ≤ 24; omega, by simp, r2', by simp, List.Pairwise.nil⟩
     refine Ok.ite (fun c => Ok.ret ⟨gd0, r1, r2, by simp, by simp, r3⟩) fun c => ?_
     have c : ¬ (gs.length : Int) = 0 := by simpa using c
     refine Ok.bind (next_ok r3 (by omega)) fun y hy => Ok.bind (clock_ok hy.2.2 hy.1 (by omega)) fun z hz => ?_
     obtain ⟨z1, z2, z3, z4⟩ := hz
     refine Ok.bind (Ok.foldI (all := z.1) (Q := fun x : List GMember × GTape => x.1.length ≤ z.1.length ∧ (∀ e ∈ x.1, mok ⟨r.1, []⟩ e ∧ e.Time ∈ z.1) ∧ x.1.Pairwise (fun a b => a.Time ≤ b.Time) ∧ TOK x.2)
       (fun pre x => x.1.length ≤ pre.length ∧ (∀ e ∈ x.1, mok ⟨r.1, []⟩ e ∧ e.Time ∈ pre) ∧ x.1.Pairwise (fun a b => a.Time ≤ b.Time) ∧ TOK x.2) z.1 [] 0 _ rfl rfl ⟨by simp, by simp, List.Pairwise.nil, z4⟩ (fun pre x q s hw hs => ?_) fun s hs => hs) fun s hs => Ok.ret ?_
     · unfold F_made_Directory_L3
       obtain ⟨s1, s2, s3, s4⟩ := hs
       have hc := z3 x (by rw [hw]; simp)
       have hpre : ∀ e ∈ pre, e ≤ x := fun e he => by rw [hw, List.pairwise_append] at z2; exact z2.2.2 e he x (by simp)
       have hp : pre.length ≤ 30 := by have := congrArg List.length hw; simp at this; omega
       refine Ok.bind (next_ok s4 (by omega)) fun a ha => Ok.bind (next_ok ha.2.2 (by omega)) fun b hb => Ok.chk (inb_iff.2 ⟨hb.1, hb.2.1⟩) ?_
       have hgm : gs.getD b.1.toNat default ∈ gs := by
         have h1 : b.1.toNat < gs.length := by have := hb.1; have := hb.2.1; omega
         simp [List.getD_eq_getElem?_getD, h1]
       obtain ⟨g1, g2, g3⟩ := hg.2 _ hgm
       refine Ok.jn (P := fun j : GMember × GTape => (j.1.Kind = 1 ∨ j.1.Kind = 2) ∧ j.1.Time = x ∧ j.1.Principal = a.1 ∧ j.1.Group = gs.getD b.1.toNat default ∧ TOK j.2) (Ok.bind (next_ok hb.2.2 (by omega)) fun d hd => Ok.ite (fun _ => Ok.ret ⟨.inr rfl, rfl, rfl, rfl, hd.2.2⟩) fun _ => Ok.ret ⟨.inl rfl, rfl, rfl, rfl, hd.2.2⟩) fun j hj => ?_
       obtain ⟨j1, j2, j3, j4, j5⟩ := hj
       refine Ok.ite (fun c => Ok.chk (room_sm (by simp; omega)) (Ok.ret ⟨by simp; omega, fun e he => ?_, ?_, j5⟩)) fun c => Ok.ret ⟨by simp; omega, fun e he => ⟨(s2 e he).1, by simp [(s2 e he).2]⟩, s3, j5⟩
       · have c : ¬ j.1.Principal = j.1.Group := by simpa using c
         simp only [List.mem_append, List.mem_singleton] at he ⊢
         rcases he with he | rfl
         · exact ⟨(s2 e he).1, .inl (s2 e he).2⟩
         · refine ⟨⟨j1, by omega, by omega, ?_, ?_, c⟩, .inr j2⟩
           · show 0 ≤ j.1.Principal ∧ j.1.Principal < r.1.length
             rw [j3]; exact ⟨ha.1, ha.2.1⟩
           · show 0 ≤ j.1.Group ∧ j.1.Group < r.1.length ∧ r.1.getD j.1.Group.toNat default = 2
             rw [j4]; exact ⟨g1, g2, g3⟩
       · rw [List.pairwise_append]
         refine ⟨s3, by simp, fun e he w hw2 => ?_⟩
         simp only [List.mem_singleton] at hw2
         subst hw2
         rw [j2]; exact hpre _ (s2 e he).2
     · obtain ⟨s1, s2, s3, s4⟩ := hs
       have ht : ∀ e ∈ s.1, e.Time ≤ 25 := fun e he => by have := z3 _ (s2 e he).2; omega
       exact ⟨⟨by show r.1.length ≤ 24; omega, by show s.1.length ≤ 120; omega, r2', fun e he => (s2 e he).1, s3⟩, r1, r2, by show s.1.length ≤ 11; omega, ht, s4⟩
end Go.Ab
namespace Go.Ab
open Go.Proofs
theorem rin_eq (n lo hi : Int) : F_ref27_in n lo hi = some (decide (lo ≤ n ∧ n ≤ hi)) := by simp [F_ref27_in, grp]
open Classical in
theorem event_eq (a : GEstate) (x : GAccess) (h1 : 1 ≤ a.Places) (h2 : a.Places ≤ 16) : F_ref27_event a x = some (decide (xok a.Places x)) := by
 have hin : ∀ o : Option Bool, chk (in64 (a.Places - 1)) o = o := fun o => chk_true (in64_sm (n := a.Places - 1) (by omega) (by omega))
 obtain ⟨T, K, P, pr, U, C, F⟩ := x
 simp only [F_ref27_event, rin_eq, Option.bind_some, jn, grp, hin, decide_true, Bool.true_and]
 by_cases t1 : 0 ≤ T ∧ T ≤ 1099511627776
 · by_cases t2 : 0 ≤ P ∧ P ≤ a.Places - 1
   · simp only [t1, t2, and_self, decide_true, Bool.not_true, cond_false]
     by_cases k1 : K = 1
     · subst k1
       by_cases c1 : U = 0 <;> by_cases c2 : C = 0 <;> by_cases c3 : F = 0 <;> simp [xok, c1, c2, c3, t1, t2]
     by_cases k2 : K = 2
     · subst k2
       by_cases c1 : U = 0 <;> by_cases c2 : C = 0 <;> by_cases c3 : F = 0 <;> simp [xok, c1, c2, c3, t1, t2]
     by_cases k3 : K = 3
     · subst k3
       by_cases c1 : pr = 0 <;> by_cases c2 : C = 0 <;> by_cases c3 : F = 0 <;> by_cases c4 : T < U <;> simp [xok, c1, c2, c3, c4, t1, t2]
     by_cases k4 : K = 4
     · subst k4
       by_cases c1 : pr = 0 <;> by_cases c2 : C = 0 <;> by_cases c3 : F = 0 <;> by_cases c4 : U = 0 <;> simp [xok, c1, c2, c3, c4, t1, t2]
     by_cases k5 : K = 5
     · subst k5
       by_cases c1 : pr = 0 <;> by_cases c2 : U = 0 <;> by_cases c3 : F = 0 <;> simp [xok, c1, c2, c3, t1, t2]
     by_cases k6 : K = 6
     · subst k6
       by_cases c1 : pr = 0 <;> by_cases c2 : U = 0 <;> by_cases c3 : F = 0 <;> simp [xok, c1, c2, c3, t1, t2]
     by_cases k7 : K = 7
     · subst k7
       by_cases c1 : pr = 0 <;> by_cases c2 : U = 0 <;> by_cases c3 : C = 0 <;> by_cases c4 : F = P <;> simp [xok, c1, c2, c3, c4, t1, t2] <;> omega
     · simp [xok, k1, k2, k3, k4, k5, k6, k7, t1, t2]
   · have : ¬ xok a.Places ⟨T, K, P, pr, U, C, F⟩ := fun h => t2 ⟨h.2.2.1, h.2.2.2.1⟩
     simp [t1, t2, this]
 · have : ¬ xok a.Places ⟨T, K, P, pr, U, C, F⟩ := fun h => t1 ⟨h.1, h.2.1⟩
   simp [t1, this]
open Classical in
theorem validL_eq (a : GEstate) (h1 : 1 ≤ a.Places) (h2 : a.Places ≤ 16) (hn : a.Events.length ≤ 120) : ∀ (l : List GAccess) (k : Nat) (last : Int), a.Events.drop k = l → (0 < k → (a.Events.getD (k - 1) default).Time = last) → (k = 0 → last = 0) → k ≤ a.Events.length →
   forL (F_ref27_Valid_L1 a) l (k : Int) () = some (if chain a.Places last l then .nx () else .ex false)
 | [], k, last, hd, hl, h0, hk => by simp [forL, chain]
 | x :: r, k, last, hd, hl, h0, hk => by
   have hlt : k < a.Events.length := by
     rcases Nat.lt_or_ge k a.Events.length with h | h
     · exact h
     · rw [List.drop_eq_nil_of_le h] at hd; cases hd
   rw [List.drop_eq_getElem_cons hlt] at hd
   obtain ⟨e1, e2⟩ := List.cons.inj hd
   have hx : (a.Events.getD (k + 1 - 1) default) = x := by rw [Nat.add_sub_cancel, List.getD_eq_getElem?_getD, List.getElem?_eq_getElem hlt]; exact e1
   have ih := fun last h => validL_eq a h1 h2 hn r (k + 1) last e2 h (by omega) hlt
   simp only [forL, F_ref27_Valid_L1, event_eq a x h1 h2, Option.bind_some, chain]
   by_cases c : xok a.Places x
   · simp only [c, decide_true, Bool.not_true, cond_false, true_and]
     have ih' := ih x.Time (fun _ => by rw [hx])
     rw [show ((k + 1 : Nat) : Int) = (k : Int) + 1 by simp] at ih'
     by_cases ck : 0 < k
     · have e3 : decide (0 < (k : Int)) = true := decide_eq_true (by omega)
       have e4 : in64 ((k : Int) - 1) = true := in64_sm (by omega) (by omega)
       have e5 : inb ((k : Int) - 1) a.Events.length = true := inb_iff.2 ⟨by omega, by omega⟩
       have e6 : ((k : Int) - 1).toNat = k - 1 := by omega
       simp only [e3, cond_true, chk_true e4, chk_true e5, e6, hl ck]
       by_cases c3 : x.Time < last
       · have : ¬ last ≤ x.Time := by omega
         simp [c3, this, Fl_ex]
       · have : last ≤ x.Time := by omega
         simp [c3, this, Fl_nx, ih']
     · have e3 : decide (0 < (k : Int)) = false := decide_eq_false (by omega)
       have hk0 : k = 0 := by omega
       have : last ≤ x.Time := by rw [h0 hk0]; exact c.1
       simp only [e3, cond_false, Option.bind_some, Fl_nx, this, true_and, ih']
   · simp [c, Fl_ex]
open Classical in
theorem valid_eq (a : GEstate) : F_ref27_Valid a = some (decide (Good a)) := by
 simp only [F_ref27_Valid, rin_eq, Option.bind_some, grp]
 by_cases c : 1 ≤ a.Places ∧ a.Places ≤ 16
 · by_cases c2 : a.Events.length ≤ 120
   · have c' : (!decide (1 ≤ a.Places ∧ a.Places ≤ 16) || decide (120 < (a.Events.length : Int))) = false := by simp [c]; omega
     have h := validL_eq a c.1 c.2 c2 a.Events 0 0 rfl (fun h => by omega) (fun _ => rfl) (by omega)
     simp only [show ((0 : Nat) : Int) = 0 from rfl] at h
     simp only [c', cond_false, h, Option.bind_some]
     by_cases hc : chain a.Places 0 a.Events
     · have : Good a := (good_iff a).2 ⟨c, c2, hc⟩
       simp [this, hc, Fl_nx]
     · have : ¬ Good a := fun h => hc ((good_iff a).1 h).2.2
       simp [this, hc, Fl_ex]
   · have c' : (!decide (1 ≤ a.Places ∧ a.Places ≤ 16) || decide (120 < (a.Events.length : Int))) = true := by simp; omega
     have : ¬ Good a := fun h => c2 h.len
     simp only [c', cond_true, this, decide_false]
 · have : ¬ Good a := fun h => c ⟨h.lo, h.hi⟩
   simp [c, this]
open Classical in
theorem rplace_eq (a : GEstate) (p : Int) : F_ref27_Place a p = F_access_known a p := by
 rw [known_eq]
 simp only [F_ref27_Place, valid_eq, Option.bind_some, jn]
 by_cases h : Good a
 · have := h.lo; have := h.hi
   simp [h, rin_eq, chk_true (in64_sm (n := a.Places - 1) (by omega) (by omega))]
 · simp [h]
theorem known_cases (a : GEstate) (p : Int) : (F_access_known a p = some true ∧ Good a ∧ 0 ≤ p ∧ p ≤ a.Places - 1) ∨ F_access_known a p = some false := by
 classical
 rw [known_eq]
 by_cases h : Good a ∧ 0 ≤ p ∧ p ≤ a.Places - 1
 · left; exact ⟨congrArg some (decide_eq_true h), h⟩
 · right; exact congrArg some (decide_eq_false h)
theorem aget_aput {β : Type} (q k : Int) (v : β) : ∀ m : List (Int × β), aget q (aput k v m) = if q = k then some v else aget q m
 | [] => by by_cases e : q = k <;> simp [aput, aget, e]
 | (a, b) :: r => by
   by_cases e : k = a
   · subst e
     by_cases e2 : q = k <;> simp [aput, aget, e2]
   · simp only [aput, if_neg e, aget, aget_aput q k v r]
     by_cases e2 : q = a
     · subst e2
       have : ¬ q = k := fun h => e h.symm
       simp [this]
     · simp [e2]
theorem aget_none {β : Type} {q : Int} : ∀ {m : List (Int × β)}, q ∉ m.map Prod.fst → aget q m = none
 | [], h => rfl
 | (a, b) :: r, h => by
   simp only [List.map_cons, List.mem_cons, not_or] at h
   simp only [aget, if_neg h.1, aget_none h.2]
theorem aget_some {β : Type} {q : Int} : ∀ {m : List (Int × β)}, q ∈ m.map Prod.fst → ∃ v, aget q m = some v
 | (a, b) :: r, h => by
   by_cases e : q = a
   · exact ⟨b, by simp [aget, e]⟩
   · have : q ∈ r.map Prod.fst := by simpa [e] using h
     obtain ⟨v, hv⟩ := aget_some this
     exact ⟨v, by simp [aget, e, hv]⟩
theorem aget_isSome {β : Type} (q : Int) (m : List (Int × β)) : (aget q m).isSome = decide (q ∈ m.map Prod.fst) := by
 by_cases h : q ∈ m.map Prod.fst
 · obtain ⟨v, hv⟩ := aget_some h
   rw [hv]; exact (decide_eq_true h).symm
 · rw [aget_none h]; exact (decide_eq_false h).symm
theorem aget_adel {β : Type} (q k : Int) : ∀ m : List (Int × β), (m.map Prod.fst).Nodup → aget q (adel k m) = if q = k then none else aget q m
 | [], h => by simp [adel, aget]
 | (a, b) :: r, h => by
   simp only [List.map_cons, List.nodup_cons] at h
   by_cases e : k = a
   · subst e
     by_cases e2 : q = k
     · subst e2
       simp only [adel, if_true]
       exact aget_none h.1
     · simp [adel, aget, e2]
   · simp only [adel, if_neg e, aget, aget_adel q k r h.2]
     by_cases e2 : q = a
     · subst e2
       have : ¬ q = k := fun h => e h.symm
       simp [this]
     · simp [e2]
theorem grf_nodup (p t : Int) (l : List GAccess) : ((grf p t l).map Prod.fst).Nodup := by rw [grf_keys]; exact keysf_nodup p t l
theorem grf_snoc (p t : Int) (l : List GAccess) (x : GAccess) : grf p t (l ++ [x]) = gst p t l.length x (grf p t l) := by
 simp only [grf, foldP_append, foldP, Int.zero_add]
def told (p t q : Int) (l : List GAccess) (n : Nat) : Prop :=
 n < l.length ∧ (l.getD n default).Kind = 1 ∧ (l.getD n default).Place = p ∧ (l.getD n default).Principal = q ∧ (l.getD n default).Time ≤ t ∧ ∀ y ∈ l.drop (n + 1), ¬ (y.Kind = 2 ∧ y.Place = p ∧ y.Principal = q ∧ y.Time ≤ t)
theorem told_snoc {p t q : Int} {l : List GAccess} {n : Nat} {x : GAccess} (h : told p t q l n) (hx : ¬ (x.Kind = 2 ∧ x.Place = p ∧ x.Principal = q ∧ x.Time ≤ t)) : told p t q (l ++ [x]) n := by
 obtain ⟨h1, h2, h3, h4, h5, h6⟩ := h
 have e : (l ++ [x]).getD n default = l.getD n default := by rw [List.getD_eq_getElem?_getD, List.getD_eq_getElem?_getD, List.getElem?_append_left h1]
 refine ⟨by simp; omega, by rw [e]; exact h2, by rw [e]; exact h3, by rw [e]; exact h4, by rw [e]; exact h5, fun y hy => ?_⟩
 rw [List.drop_append_of_le_length (by omega), List.mem_append, List.mem_singleton] at hy
 rcases hy with hy | rfl
 · exact h6 y hy
 · exact hx
theorem grant_told (p t q : Int) (l : List GAccess) (k : Int) (h : aget q (grf p t l) = some k) : ∃ n : Nat, k = n ∧ told p t q l n := by
 induction l using revList_ind generalizing k with
 | h0 => cases h
 | h1 l x ih =>
   rw [grf_snoc] at h
   unfold gst at h
   split at h
   · rename_i c
     obtain ⟨n, e, hn⟩ := ih k h
     exact ⟨n, e, told_snoc hn (by omega)⟩
   · rename_i c
     split at h
     · rename_i c2
       rw [aget_aput] at h
       split at h
       · rename_i c3
         cases h
         refine ⟨l.length, rfl, by simp, ?_⟩
         have e : (l ++ [x]).getD l.length default = x := by simp
         rw [e]
         refine ⟨c2, by omega, c3.symm, by omega, fun y hy => ?_⟩
         rw [List.drop_eq_nil_of_le (by simp)] at hy
         cases hy
       · obtain ⟨n, e, hn⟩ := ih k h
         exact ⟨n, e, told_snoc hn (by omega)⟩
     · split at h
       · rw [aget_adel _ _ _ (grf_nodup p t l)] at h
         split at h
         · cases h
         · rename_i c3
           obtain ⟨n, e, hn⟩ := ih k h
           exact ⟨n, e, told_snoc hn fun hh => c3 hh.2.2.1.symm⟩
       · obtain ⟨n, e, hn⟩ := ih k h
         exact ⟨n, e, told_snoc hn (by omega)⟩
open Classical in
theorem rreader_eq {d : GDirectory} (g : GoodD d) (p : Int) : F_ref23_Reader d p = some (decide (rdr d p)) := by
 have hk := g.kl
 have hx : F_ref23_Exists d p = some (decide (0 ≤ p ∧ p < d.Kinds.length)) := by
   unfold F_ref23_Exists
   rw [chk_true (in64_smD (by omega) (by omega))]
   simp only [F_ref23_in, grp, Option.bind_some]
   congr 1
   by_cases q : 0 ≤ p ∧ p < (d.Kinds.length : Int)
   · rw [decide_eq_true q, decide_eq_true q.1, decide_eq_true (show p ≤ (d.Kinds.length : Int) - 1 by omega)]; rfl
   · rw [decide_eq_false q]
     by_cases q1 : 0 ≤ p
     · rw [decide_eq_true q1, decide_eq_false (show ¬ p ≤ (d.Kinds.length : Int) - 1 by omega)]; rfl
     · rw [decide_eq_false q1]; rfl
 unfold F_ref23_Reader
 simp only [hx, Option.bind_some, jn]
 by_cases q : 0 ≤ p ∧ p < (d.Kinds.length : Int)
 · simp only [decide_eq_true q, cond_true, chk_true (inb_iff.2 q), Option.bind_some]
   by_cases w : d.Kinds.getD p.toNat default = 2
   · have : ¬ rdr d p := fun h => h.2.2 w
     rw [decide_eq_true w, decide_eq_false this]; rfl
   · have : rdr d p := ⟨q.1, q.2, w⟩
     rw [decide_eq_false w, decide_eq_true this]; rfl
 · have : ¬ rdr d p := fun h => q ⟨h.1, h.2.1⟩
   simp [decide_eq_false q, this]
end Go.Ab
namespace Go.Ab
open Go.Proofs
def rgst (p q t : Int) (i : Int) (x : GAccess) (s : Int) : Int :=
 if t < x.Time ∨ x.Place ≠ p ∨ x.Principal ≠ q then s else if x.Kind = 1 then i else if x.Kind = 2 then -1 else s
theorem rgst_body (p q t k : Int) (x : GAccess) (s : Int) : F_ref27_grant_L1 p q t k x s = some (rgst p q t k x s) := by
 simp only [F_ref27_grant_L1, grp, rgst]
 by_cases c : t < x.Time ∨ x.Place ≠ p ∨ x.Principal ≠ q
 · have c' : (decide (t < x.Time) || !decide (x.Place = p) || !decide (x.Principal = q)) = true := by
     simp only [Bool.or_eq_true, decide_eq_true_eq, Bool.not_eq_true', decide_eq_false_iff_not]; omega
   simp only [c', cond_true, if_pos c]
 · have c' : (decide (t < x.Time) || !decide (x.Place = p) || !decide (x.Principal = q)) = false := by
     simp only [Bool.or_eq_false_iff, decide_eq_false_iff_not, Bool.not_eq_false', decide_eq_true_eq]; omega
   simp only [c', cond_false, if_neg c]
   by_cases c2 : x.Kind = 1
   · simp [c2]
   · by_cases c3 : x.Kind = 2 <;> simp [c2, c3]
theorem rgrant_aget (p q t : Int) (l : List GAccess) : foldP (rgst p q t) l 0 (-1) = (aget q (grf p t l)).getD (-1) := by
 induction l using revList_ind with
 | h0 => rfl
 | h1 l x ih =>
   rw [foldP_append, grf_snoc]
   simp only [foldP, Int.zero_add, ih, rgst, gst]
   by_cases c : t < x.Time ∨ x.Place ≠ p
   · rw [if_pos (by omega), if_pos c]
   · rw [if_neg c]
     by_cases cq : x.Principal = q
     · rw [if_neg (by omega)]
       by_cases c2 : x.Kind = 1
       · rw [if_pos c2, if_pos c2, aget_aput, if_pos cq.symm]; rfl
       · rw [if_neg c2, if_neg c2]
         by_cases c3 : x.Kind = 2
         · rw [if_pos c3, if_pos c3, aget_adel _ _ _ (grf_nodup p t l), if_pos cq.symm]; rfl
         · rw [if_neg c3, if_neg c3]
     · have cq' : ¬ q = x.Principal := fun h => cq h.symm
       rw [if_pos (by omega)]
       by_cases c2 : x.Kind = 1
       · rw [if_pos c2, aget_aput, if_neg cq']
       · rw [if_neg c2]
         by_cases c3 : x.Kind = 2
         · rw [if_pos c3, aget_adel _ _ _ (grf_nodup p t l), if_neg cq']
         · rw [if_neg c3]
theorem rgrantx_eq (a : GEstate) (p q t : Int) : F_ref27_grant a p q t = some ((aget q (grf p t a.Events)).getD (-1)) := by
 simp only [F_ref27_grant, foldL_plain (rgst p q t) (rgst_body p q t), Option.bind_some, rgrant_aget]
theorem aget_nonneg {p t q k : Int} {l : List GAccess} (h : aget q (grf p t l) = some k) : 0 ≤ k := by
 obtain ⟨n, rfl, _⟩ := grant_told p t q l k h; omega
theorem rGrant_eq (a : GEstate) (p q t : Int) : F_ref27_Grant a p q t = F_access_Grant a p q t := by
 simp only [F_ref27_Grant, rplace_eq]
 rcases known_cases a p with ⟨h, _⟩ | h
 · rw [grant_eq q t h, h]
   simp only [Option.bind_some, Bool.not_true, cond_false, rgrantx_eq]
   cases ha : aget q (grf p t a.Events) with
   | none => rfl
   | some k =>
     have := aget_nonneg ha
     simp [this]
 · simp [h, F_access_Grant]
theorem pairwise_range (n : Nat) : ((List.range n).map fun i : Nat => (i : Int)).Pairwise fun x y => x < y := by
 rw [List.pairwise_map]
 exact List.pairwise_lt_range.imp fun h => by omega
theorem rGranted_eq (a : GEstate) (p t : Int) : F_ref27_Granted a p t = F_access_Granted a p t := by
 simp only [F_ref27_Granted, rplace_eq]
 rcases known_cases a p with ⟨h, g, _⟩ | h
 · rw [granted_eq t g.len h, h]
   simp only [Option.bind_some, Bool.not_true, cond_false]
   have key : ∀ q : Int, decide (0 ≤ (aget q (grf p t a.Events)).getD (-1)) = decide (q ∈ keysf p t a.Events) := fun q => by
     have e : (aget q (grf p t a.Events)).isSome = decide (q ∈ keysf p t a.Events) := by rw [aget_isSome, grf_keys]
     rw [← e]
     cases ha : aget q (grf p t a.Events) with
     | none => rfl
     | some k => simpa using aget_nonneg ha
   refine Ok.eq (Ok.bind (Ok.loop (Q := fun r => r = srtI (keysf p t a.Events)) (fun x => 0 ≤ x.1 ∧ x.1 ≤ 24 ∧ x.2 = ((List.range x.1.toNat).map fun i : Nat => (i : Int)).filter fun q => decide (q ∈ keysf p t a.Events)) (fun x => (24 - x.1).toNat) (fun x hx => ?_) _ ⟨by omega, by omega, rfl⟩) fun r hr => Ok.ret hr)
   obtain ⟨i, out⟩ := x
   obtain ⟨h1, h2, h3⟩ := hx
   simp only at h1 h2 h3
   subst h3
   have hl := List.length_filter_le (fun q => decide (q ∈ keysf p t a.Events)) ((List.range i.toNat).map fun i : Nat => (i : Int))
   simp only [List.length_map, List.length_range] at hl
   unfold F_ref27_Granted_L1
   refine Ok.ite (fun c => ?_) fun c => ?_
   · have c : i < 24 := by simpa using c
     rw [rgrantx_eq]
     simp only [Option.bind_some, key]
     have e1 : (i + 1).toNat = i.toNat + 1 := by omega
     refine Ok.jn (P := fun j => j = ((List.range (i + 1).toNat).map fun i : Nat => (i : Int)).filter fun q => decide (q ∈ keysf p t a.Events)) (Ok.ite (fun cc => Ok.chk (room_sm (by simp only [List.length_singleton]; omega)) (Ok.ret ?_)) fun cc => Ok.ret ?_) fun j hj => ?_
     · rw [e1, List.range_succ, List.map_append, List.filter_append]
       have e2 : ((i.toNat : Nat) : Int) = i := by omega
       simp only [List.map_cons, List.map_nil, e2, List.filter_cons, cc, if_true, List.filter_nil]
     · rw [e1, List.range_succ, List.map_append, List.filter_append]
       have e2 : ((i.toNat : Nat) : Int) = i := by omega
       simp [e2, cc]
     · refine Ok.chk (in64_sm (by omega) (by omega)) (Ok.ret ?_)
       exact ⟨⟨by show 0 ≤ i + 1; omega, by show i + 1 ≤ 24; omega, hj⟩, by show (24 - (i + 1)).toNat < (24 - i).toNat; omega⟩
   · have c : ¬ i < 24 := by simpa using c
     have : i = 24 := by omega
     subst this
     refine Ok.ret ?_
     show _ = _
     have hsr : (((List.range (Int.toNat 24)).map fun i : Nat => (i : Int)).filter fun q => decide (q ∈ keysf p t a.Events)).Pairwise (fun x y => x ≤ y) := List.Pairwise.filter _ ((pairwise_range 24).imp fun h => Int.le_of_lt h)
     refine sorted_unique ?_ hsr (srtI_sorted _)
     refine List.Perm.trans ?_ (srtI_perm _).symm
     refine (List.perm_ext_iff_of_nodup ?_ (keysf_nodup p t a.Events)).2 fun q => ?_
     · exact List.Pairwise.filter _ ((pairwise_range 24).imp fun h => Int.ne_of_lt h)
     · simp only [List.mem_filter, List.mem_map, List.mem_range, decide_eq_true_eq]
       constructor
       · rintro ⟨_, h⟩; exact h
       · intro hq
         refine ⟨?_, hq⟩
         obtain ⟨w, hw, hw1, hw2, _⟩ := keysf_mem hq
         have := (g.ev w hw).2.2.2.2
         exact ⟨q.toNat, by show q.toNat < (24 : Int).toNat; omega, by omega⟩
 · simp [h, F_access_Granted]
def unl (p t : Int) (y : GAccess) : Prop := y.Kind = 4 ∧ y.Place = p ∧ y.Time ≤ t
def lnk (p t : Int) (x : GAccess) : Prop := x.Kind = 3 ∧ x.Place = p ∧ x.Time ≤ t ∧ t < x.Until
def openP (p t : Int) (l : List GAccess) (k : Nat) : Prop := lnk p t (l.getD k default) ∧ ∀ y ∈ l.drop (k + 1), ¬ unl p t y
open Classical in
noncomputable def refL (p t : Int) (l : List GAccess) : Nat → Int × Bool
 | 0 => (0, false)
 | n + 1 => if openP p t l n then ((n : Int), true) else refL p t l n
theorem openP_snoc {p t : Int} {l : List GAccess} {x : GAccess} {k : Nat} (hk : k < l.length) : openP p t (l ++ [x]) k ↔ openP p t l k ∧ ¬ unl p t x := by
 unfold openP
 rw [show (l ++ [x]).getD k default = l.getD k default by rw [List.getD_eq_getElem?_getD, List.getD_eq_getElem?_getD, List.getElem?_append_left hk], List.drop_append_of_le_length (by omega)]
 simp only [List.mem_append, List.mem_singleton]
 constructor
 · rintro ⟨h1, h2⟩
   exact ⟨⟨h1, fun y hy => h2 y (.inl hy)⟩, h2 x (.inr rfl)⟩
 · rintro ⟨⟨h1, h2⟩, h3⟩
   refine ⟨h1, fun y hy => ?_⟩
   rcases hy with hy | rfl
   · exact h2 y hy
   · exact h3
theorem refL_snoc {p t : Int} {l : List GAccess} {x : GAccess} : ∀ {n : Nat}, n ≤ l.length → (unl p t x → refL p t (l ++ [x]) n = (0, false)) ∧ (¬ unl p t x → refL p t (l ++ [x]) n = refL p t l n)
 | 0, h => ⟨fun _ => rfl, fun _ => rfl⟩
 | n + 1, h => by
   have ih := refL_snoc (p := p) (t := t) (l := l) (x := x) (n := n) (by omega)
   constructor
   · intro hu
     have : ¬ openP p t (l ++ [x]) n := fun h' => ((openP_snoc (by omega)).1 h').2 hu
     simp only [refL, if_neg this, ih.1 hu]
   · intro hu
     have : openP p t (l ++ [x]) n ↔ openP p t l n := by rw [openP_snoc (by omega)]; exact ⟨fun h => h.1, fun h => ⟨h, hu⟩⟩
     by_cases hh : openP p t l n
     · simp only [refL, if_pos (this.2 hh), if_pos hh]
     · simp only [refL, if_neg (fun h => hh (this.1 h)), if_neg hh, ih.2 hu]
theorem refL_lkf (p t : Int) (l : List GAccess) : refL p t l l.length = lkf p t l 0 (0, false) := by
 induction l using revList_ind with
 | h0 => rfl
 | h1 l x ih =>
   rw [List.length_append, List.length_singleton, lkf_append]
   simp only [lkf, Int.zero_add, refL]
   have e : (l ++ [x]).getD l.length default = x := by simp
   have ho : openP p t (l ++ [x]) l.length ↔ lnk p t x := by
     unfold openP
     rw [e, List.drop_eq_nil_of_le (by simp)]
     simp
   rw [← ih]
   have hs := refL_snoc (p := p) (t := t) (l := l) (x := x) (Nat.le_refl l.length)
   unfold lst
   by_cases hl : lnk p t x
   · rw [if_pos (ho.2 hl)]
     obtain ⟨h1, h2, h3, h4⟩ := hl
     rw [if_neg (by omega), if_neg (by omega), if_pos ⟨h1, h4⟩]
   · rw [if_neg fun h => hl (ho.1 h)]
     by_cases hu : unl p t x
     · rw [hs.1 hu]
       obtain ⟨h1, h2, h3⟩ := hu
       rw [if_neg (by omega), if_pos h1]
     · rw [hs.2 hu]
       by_cases c : t < x.Time ∨ x.Place ≠ p
       · rw [if_pos c]
       · rw [if_neg c]
         have : ¬ x.Kind = 4 := fun h => hu ⟨h, by omega, by omega⟩
         rw [if_neg this]
         have : ¬ (x.Kind = 3 ∧ t < x.Until) := fun h => hl ⟨h.1, by omega, by omega, h.2⟩
         rw [if_neg this]
open Classical in
theorem findU (p t : Int) : ∀ m : List GAccess, findL (fun y => if unl p t y then some false else none) m = if ∀ y ∈ m, ¬ unl p t y then none else some false
 | [] => by simp [findL]
 | y :: r => by
   by_cases hu : unl p t y
   · have : ¬ ∀ z ∈ y :: r, ¬ unl p t z := fun h => h y (by simp) hu
     rw [if_neg this]
     simp only [findL, if_pos hu]
   · simp only [findL, if_neg hu, findU p t r]
     by_cases hr : ∀ z ∈ r, ¬ unl p t z
     · have : ∀ z ∈ y :: r, ¬ unl p t z := fun z hz => by
         rcases List.mem_cons.1 hz with rfl | hz
         · exact hu
         · exact hr z hz
       rw [if_pos hr, if_pos this]
     · have : ¬ ∀ z ∈ y :: r, ¬ unl p t z := fun h => hr fun z hz => h z (by simp [hz])
       rw [if_neg hr, if_neg this]
open Classical in
theorem open_ex {a : GEstate} {p t : Int} (hn : a.Events.length ≤ 120) (h : F_access_known a p = some true) {k : Nat} (hk : k < a.Events.length) : ∃ b, F_ref27_Open a p (k : Int) t = some b ∧ (b = true ↔ openP p t a.Events k) := by
 have i1 : in64 ((a.Events.length : Int) - 1) = true := in64_sm (by omega) (by omega)
 have i2 : decide (0 ≤ (k : Int) ∧ (k : Int) ≤ (a.Events.length : Int) - 1) = true := decide_eq_true (by omega)
 have i3 : inb (k : Int) a.Events.length = true := inb_iff.2 ⟨by omega, by omega⟩
 have i4 : in64 ((k : Int) + 1) = true := in64_sm (by omega) (by omega)
 have i5 : inc ((k : Int) + 1) (a.Events.length : Int) a.Events.length = true := inc_iff.2 ⟨by omega, by omega, by omega⟩
 have i6 : ((k : Int) + 1).toNat = k + 1 := by omega
 simp only [F_ref27_Open, rplace_eq, h, Option.bind_some, Bool.not_true, cond_false, chk_true i1, rin_eq, i2, chk_true i3, chk_true i4, chk_true i5, i6, Int.toNat_natCast, grp]
 by_cases c1 : lnk p t (a.Events.getD k default)
 · have c1' := c1
   unfold lnk at c1'
   have e : (!decide ((a.Events.getD k default).Kind = 3) || !decide ((a.Events.getD k default).Place = p) || decide (t < (a.Events.getD k default).Time) || decide ((a.Events.getD k default).Until ≤ t)) = false := by
     simp only [Bool.or_eq_false_iff, decide_eq_false_iff_not, Bool.not_eq_false', decide_eq_true_eq]; omega
   simp only [e, cond_false]
   rw [forL_find (fun y => if unl p t y then some false else none) (a.Events.drop (k + 1)) 0 fun k y _ => by
     simp only [F_ref27_Open_L1, grp]
     by_cases hu : unl p t y
     · have e : (decide (y.Kind = 4) && decide (y.Place = p) && decide (y.Time ≤ t)) = true := by
         simp only [Bool.and_eq_true, decide_eq_true_eq]; exact ⟨⟨hu.1, hu.2.1⟩, hu.2.2⟩
       simp only [e, cond_true, if_pos hu, flO]
     · have e : (decide (y.Kind = 4) && decide (y.Place = p) && decide (y.Time ≤ t)) = false := by
         cases hh : (decide (y.Kind = 4) && decide (y.Place = p) && decide (y.Time ≤ t)) with
         | false => rfl
         | true =>
           simp only [Bool.and_eq_true, decide_eq_true_eq] at hh
           exact absurd ⟨hh.1.1, hh.1.2, hh.2⟩ hu
       simp only [e, cond_false, if_neg hu, flO]]
   simp only [Option.bind_some, elim_flO, findU]
   by_cases hr : ∀ y ∈ a.Events.drop (k + 1), ¬ unl p t y
   · simp only [if_pos hr]
     exact ⟨true, rfl, fun _ => ⟨c1, hr⟩, fun _ => rfl⟩
   · simp only [if_neg hr]
     exact ⟨false, rfl, iff_of_false (by simp) fun h => hr h.2⟩
 · have e : (!decide ((a.Events.getD k default).Kind = 3) || !decide ((a.Events.getD k default).Place = p) || decide (t < (a.Events.getD k default).Time) || decide ((a.Events.getD k default).Until ≤ t)) = true := by
     unfold lnk at c1
     simp only [Bool.or_eq_true, decide_eq_true_eq, Bool.not_eq_true', decide_eq_false_iff_not]; omega
   simp only [e, cond_true]
   exact ⟨false, rfl, iff_of_false (by simp) fun h => c1 h.1⟩
open Classical in
theorem open_eq {a : GEstate} {p t : Int} (hn : a.Events.length ≤ 120) (h : F_access_known a p = some true) {k : Nat} (hk : k < a.Events.length) : F_ref27_Open a p (k : Int) t = some (decide (openP p t a.Events k)) := by
 obtain ⟨b, hb, hb2⟩ := open_ex (t := t) hn h hk
 rw [hb]
 by_cases c : openP p t a.Events k
 · rw [hb2.2 c, decide_eq_true c]
 · have : b = false := by cases b with
     | false => rfl
     | true => exact absurd (hb2.1 rfl) c
   rw [this, decide_eq_false c]
theorem rLinkedL {a : GEstate} {p t : Int} (hn : a.Events.length ≤ 120) (h : F_access_known a p = some true) : ∀ {n : Nat}, n ≤ a.Events.length → ∃ r, loop (F_ref27_Linked_L1 a p t) ((n : Int) - 1) = some r ∧ Sum.elim (fun _ => some (0, false)) (fun u => some u) r = some (refL p t a.Events n)
 | 0, hl => by
   rw [loop_eq]
   simp only [F_ref27_Linked_L1]
   exact ⟨.inl (), rfl, rfl⟩
 | n + 1, hl => by
   classical
   rw [loop_eq]
   have e0 : ((n + 1 : Nat) : Int) - 1 = (n : Int) := by omega
   have e1 : decide (0 ≤ (n : Int)) = true := decide_eq_true (by omega)
   rw [e0]
   simp only [F_ref27_Linked_L1, e1, cond_true, open_eq hn h (show n < a.Events.length by omega), Option.bind_some, refL]
   by_cases c : openP p t a.Events n
   · simp only [c, decide_true, cond_true, Option.bind_some, Fl_ex, if_true]
     exact ⟨_, rfl, rfl⟩
   · have i1 : in64 ((n : Int) - 1) = true := in64_sm (by omega) (by omega)
     simp only [c, decide_false, cond_false, chk_true i1, Option.bind_some, Fl_nx, if_false]
     exact rLinkedL hn h (by omega)
theorem rLinkedN {a : GEstate} {p t : Int} (hn : a.Events.length ≤ 120) (h : F_access_known a p = some false) : ∀ {n : Nat}, n ≤ a.Events.length → loop (F_ref27_Linked_L1 a p t) ((n : Int) - 1) = some (.inl ())
 | 0, hl => by
   rw [loop_eq]
   rfl
 | n + 1, hl => by
   rw [loop_eq]
   have e0 : ((n + 1 : Nat) : Int) - 1 = (n : Int) := by omega
   have e1 : decide (0 ≤ (n : Int)) = true := decide_eq_true (by omega)
   have i1 : in64 ((n : Int) - 1) = true := in64_sm (by omega) (by omega)
   rw [e0]
   simp only [F_ref27_Linked_L1, e1, cond_true, F_ref27_Open, rplace_eq, h, Option.bind_some, Bool.not_false, cond_false, chk_true i1, Fl_nx]
   exact rLinkedN hn h (by omega)
theorem rLinked_eq (a : GEstate) (p t : Int) (hn : a.Events.length ≤ 120) : F_ref27_Linked a p t = F_access_Linked a p t := by
 have i1 : in64 ((a.Events.length : Int) - 1) = true := in64_sm (by omega) (by omega)
 simp only [F_ref27_Linked, chk_true i1]
 rcases known_cases a p with ⟨h, _⟩ | h
 · rw [linked_eq t h, ← refL_lkf]
   obtain ⟨r, h1, h2⟩ := rLinkedL (t := t) hn h (Nat.le_refl _)
   rw [h1]
   exact h2
 · rw [linked_no t h, rLinkedN hn h (Nat.le_refl _)]
   rfl
end Go.Ab
namespace Go.Ab
open Go.Proofs
theorem rexists_eq {d : GDirectory} (hk : d.Kinds.length ≤ 24) (p : Int) : F_ref23_Exists d p = some (decide (0 ≤ p ∧ p < d.Kinds.length)) := by
 unfold F_ref23_Exists
 rw [chk_true (in64_smD (by omega) (by omega))]
 simp only [F_ref23_in, grp, Option.bind_some]
 congr 1
 by_cases q : 0 ≤ p ∧ p < (d.Kinds.length : Int)
 · rw [decide_eq_true q, decide_eq_true q.1, decide_eq_true (show p ≤ (d.Kinds.length : Int) - 1 by omega)]; rfl
 · rw [decide_eq_false q]
   by_cases q1 : 0 ≤ p
   · rw [decide_eq_true q1, decide_eq_false (show ¬ p ≤ (d.Kinds.length : Int) - 1 by omega)]; rfl
   · rw [decide_eq_false q1]; rfl
theorem dvalid_of {d : GDirectory} (g : GoodD d) : F_ref23_Valid d = some true := by
 have hk := g.kl
 have he := g.el
 have hin : ∀ x a b : Int, F_ref23_in x a b = some (decide (a ≤ x ∧ x ≤ b)) := fun x a b => by simp [F_ref23_in, grp]
 refine Ok.eq ?_
 unfold F_ref23_Valid
 refine Ok.grp (Ok.ite (fun q => ?_) fun _ => Ok.bind (P := fun o => o = .nx ()) (Ok.for (fun _ => True) _ 0 () trivial (fun k x s hx _ => ?_) fun s _ => rfl) fun o ho => ?_)
 · simp only [Bool.or_eq_true, decide_eq_true_eq] at q; omega
 · unfold F_ref23_Valid_L1
   rw [hin, decide_eq_true (g.kd x hx)]
   exact Ok.ret trivial
 subst ho
 rw [Fl_nx]
 refine Ok.bind (P := fun o => o = .nx ()) (Ok.forI (all := d.Events) (fun _ _ => True) _ [] 0 () rfl rfl trivial (fun pre x r s hw _ => ?_) fun s _ => rfl) fun o ho => by subst ho; exact Ok.ret rfl
 have hx : x ∈ d.Events := by rw [hw]; simp
 obtain ⟨m1, m2, m3, m4, m5, m6⟩ := g.ev x hx
 have hgr : F_ref23_Group d x.Group = some true := by
   unfold F_ref23_Group
   rw [rexists_eq hk, decide_eq_true (show 0 ≤ x.Group ∧ x.Group < (d.Kinds.length : Int) from ⟨m5.1, m5.2.1⟩)]
   simp only [Option.bind_some, cond_true, jn, chk_true (inb_iff.2 ⟨m5.1, m5.2.1⟩), decide_eq_true m5.2.2]
 have hp : pre.length < d.Events.length := by rw [hw]; simp
 have rest : Ok ((F_ref23_Exists d x.Principal).bind fun y251 => bif (!y251) then some (.ex false) else (F_ref23_Group d x.Group).bind fun y252 => bif (!y252) then some (.ex false) else bif decide (x.Principal = x.Group) then some (.ex false) else some (.nx ())) (Fl.elim (fun _ : Unit => True) fun r : Bool => (Fl.ex r : Fl Unit Bool) = .nx ()) := by
   rw [rexists_eq hk, decide_eq_true m4, hgr]
   simp only [Option.bind_some, Bool.not_true, cond_false, decide_eq_false m6]
   exact Ok.ret trivial
 unfold F_ref23_Valid_L2
 rw [hin, hin, decide_eq_true (show 1 ≤ x.Kind ∧ x.Kind ≤ 2 by omega), decide_eq_true (show 0 ≤ x.Time ∧ x.Time ≤ 1099511627776 from ⟨m2, m3⟩)]
 simp only [Option.bind_some, Bool.not_true, cond_false]
 refine Ok.ite (fun q => ?_) fun _ => rest
 have q : 0 < (pre.length : Int) := by simpa using q
 have h1 : (pre.length : Int) - 1 < d.Events.length := by omega
 refine Ok.chk (in64_smD (by omega) (by omega)) (Ok.chk (inb_iff.2 ⟨by omega, h1⟩) (Ok.ite (fun w => ?_) fun _ => rest))
 exfalso
 have w := of_decide_eq_true w
 have hlt : pre.length - 1 < d.Events.length := by omega
 have e : d.Events.getD ((pre.length : Int) - 1).toNat default = d.Events[pre.length - 1] := by
   rw [show ((pre.length : Int) - 1).toNat = pre.length - 1 by omega, List.getD_eq_getElem?_getD, List.getElem?_eq_getElem hlt]; rfl
 have e2 : d.Events[pre.length] = x := by simp [hw]
 have := (List.pairwise_iff_getElem.1 g.srt) (pre.length - 1) pre.length hlt hp (by omega)
 rw [e2] at this
 rw [e] at w
 omega
theorem rupward_eq {d : GDirectory} (g : GoodD d) {p : Int} (t : Int) (h0 : 0 ≤ p) (h1 : p < d.Kinds.length) : F_ref23_Upward d p t = some (upl d p t) := by
 have hk := g.kl
 simp only [F_ref23_Upward, dvalid_of g, rexists_eq hk, decide_eq_true (show 0 ≤ p ∧ p < (d.Kinds.length : Int) from ⟨h0, h1⟩), Option.bind_some, Bool.not_true, cond_false]
 have hu : upF d.Kinds.length (d.Events.map fun e => (e.Time, e.Kind, e.Principal, e.Group)) p t = some ((List.range d.Kinds.length).map (oul (dlk d t) d.Kinds.length (fun i => decide (i = p.toNat)) d.Kinds.length)) := by
   unfold upF
   rw [chk_true, chk_true]
   · simp [dlk]
   · simp only [List.all_eq_true, List.mem_map]
     rintro _ ⟨e, he, rfl⟩
     obtain ⟨_, _, _, h4, h5, _⟩ := g.ev e he
     have e1 : inb e.Principal 24 = true := inb_iff.2 ⟨h4.1, by omega⟩
     have e2 : inb e.Group 24 = true := inb_iff.2 ⟨h5.1, by omega⟩
     simp [e1, e2]
   · rw [inb_iff.2 ⟨h0, h1⟩, decide_eq_true hk]; rfl
 rw [hu]
 generalize hy : (List.range d.Kinds.length).map (oul (dlk d t) d.Kinds.length (fun i => decide (i = p.toNat)) d.Kinds.length) = y
 have hyl : y.length = d.Kinds.length := by rw [← hy]; simp
 have hyi : ∀ i, i < d.Kinds.length → gt y i = oul (dlk d t) d.Kinds.length (fun i => decide (i = p.toNat)) d.Kinds.length i := fun i hi => by
   rw [← hy]; simp [gt, List.getD_eq_getElem?_getD, hi]
 have hpn : p.toNat < d.Kinds.length := by omega
 have hRT : ∀ i, i < d.Kinds.length → (gt y i = true ↔ RT (dlk d t) d.Kinds.length p.toNat i) := fun i hi => by
   rw [hyi i hi]
   constructor
   · exact oul_sound (P := fun i => RT (dlk d t) d.Kinds.length p.toNat i) (fun a b ha hb h hl => .step h ha hb hl) (fun i h => by
       have := of_decide_eq_true h
       subst this; exact .refl) _ i
   · intro h
     induction h with
     | refl => exact oul_mono (by simp) _
     | step h ha hb hl ih => exact oul_closed hpn _ _ ha hb (ih ha) hl
 have ht := those_eq y (by omega)
 have hup : F_ref23_Upward_L1 = F_directory_those_L1 := rfl
 simp only [F_directory_those] at ht
 simp only [Option.bind_some, hup]
 rw [ht]
 simp only [upl, hyl]
 congr 2
 refine List.filter_congr fun i hi => ?_
 have := hRT i (List.mem_range.1 hi)
 cases e : gt y i with
 | true => simp [this.1 e]
 | false =>
   have h : ¬ RT (dlk d t) d.Kinds.length p.toNat i := fun h => by rw [this.2 h] at e; cases e
   simp [h]
theorem rhas_eq (l : List Int) (x : Int) : F_ref23_Has l x = some (decide (x ∈ l)) := by
 simp only [F_ref23_Has]
 rw [forL_find (fun y => if y = x then some true else none) l 0 (fun k y _ => by by_cases e : y = x <;> simp [F_ref23_Has_L1, e, flO])]
 simp only [Option.bind_some, elim_flO]
 have : findL (fun y => if y = x then some true else none) l = if x ∈ l then some true else none := by
   induction l with
   | nil => rfl
   | cons y r ih =>
     by_cases e : y = x
     · simp [findL, e]
     · have e' : ¬ x = y := fun h => e h.symm
       simp [findL, e, e', ih]
 rw [this]
 by_cases e : x ∈ l <;> simp [e]
end Go.Ab
namespace Go.Ab
open Go.Proofs
def cutA (a : GEstate) (t : Int) : GEstate := ⟨a.Places, a.Events.filter fun x => decide (x.Time ≤ t)⟩
def cutD (d : GDirectory) (t : Int) : GDirectory := ⟨d.Kinds, d.Events.filter fun x => decide (x.Time ≤ t)⟩
theorem Good.cut {a : GEstate} (g : Good a) (t : Int) : Good (cutA a t) := g.sub List.filter_sublist
theorem GoodD.cut {d : GDirectory} (g : GoodD d) (t : Int) : GoodD (cutD d t) :=
 ⟨g.kl, Nat.le_trans (List.length_filter_le _ _) g.el, g.kd, fun x hx => g.ev x (List.mem_filter.1 hx).1, g.srt.sublist List.filter_sublist⟩
theorem foldl_filter_skip {α β : Type} {f : β → α → β} {q : α → Bool} : ∀ {l : List α} {b : β}, (∀ x ∈ l, q x = false → ∀ b, f b x = b) → (l.filter q).foldl f b = l.foldl f b
 | [], b, h => rfl
 | x :: r, b, h => by
   cases hq : q x with
   | true => simp only [List.filter_cons, hq, if_true, List.foldl_cons]; exact foldl_filter_skip fun x hx => h x (by simp [hx])
   | false =>
     simp only [List.filter_cons, hq, List.foldl_cons, h x (by simp) hq b]
     exact foldl_filter_skip fun x hx => h x (by simp [hx])
def lk1 (p t : Int) (b : Bool) (x : GAccess) : Bool :=
 if t < x.Time ∨ x.Place ≠ p then b else if x.Kind = 4 then false else if x.Kind = 3 ∧ t < x.Until then true else b
theorem lkf_lk1 (p t : Int) : ∀ (l : List GAccess) (i : Int) (s : Int × Bool), (lkf p t l i s).2 = l.foldl (lk1 p t) s.2
 | [], i, s => rfl
 | x :: r, i, s => by
   simp only [lkf, List.foldl_cons, lkf_lk1 p t r]
   congr 1
   simp only [lst, lk1]
   split
   · rfl
   · split
     · rfl
     · split <;> rfl
theorem lkf_cut (a : GEstate) (p : Int) {s t : Int} (h : s ≤ t) : (lkf p s (cutA a t).Events 0 (0, false)).2 = (lkf p s a.Events 0 (0, false)).2 := by
 rw [lkf_lk1, lkf_lk1]
 refine foldl_filter_skip fun x _ hq b => if_pos (.inl ?_)
 have : ¬ x.Time ≤ t := by simpa using hq
 omega
theorem keys_cut (a : GEstate) (p : Int) {s t : Int} (h : s ≤ t) : keysf p s (cutA a t).Events = keysf p s a.Events := by
 simp only [keysf]
 refine foldl_filter_skip fun x _ hq b => if_pos (.inl ?_)
 have : ¬ x.Time ≤ t := by simpa using hq
 omega
def zst (t : Int) (Z : Nat → Nat → Bool) (x : GMember) : Nat → Nat → Bool := fun j i => if x.Time ≤ t ∧ (j : Int) = x.Principal ∧ (i : Int) = x.Group then decide (x.Kind = 1) else Z j i
theorem zk_fold (t : Int) (E : List GMember) : ∀ k, k ≤ E.length → zk (ev4 (E.map fun e => (e.Time, e.Kind, e.Principal, e.Group))) t k = (E.take k).foldl (zst t) (fun _ _ => false)
 | 0, _ => rfl
 | k + 1, h => by
   rw [zk, zk_fold t E k (by omega), List.take_succ, List.getElem?_eq_getElem (by omega)]
   simp only [Option.toList_some, List.foldl_append, List.foldl_cons, List.foldl_nil]
   funext j i
   have e : ((E.map fun e => (e.Time, e.Kind, e.Principal, e.Group)).getD k (0, 0, 0, 0)) = (E[k].Time, E[k].Kind, E[k].Principal, E[k].Group) := by
     rw [List.getD_eq_getElem?_getD, List.getElem?_map, List.getElem?_eq_getElem (by omega)]
     rfl
   simp only [zstep, ev4, e, zst]
theorem dlk_fold (d : GDirectory) (t : Int) : dlk d t = d.Events.foldl (zst t) (fun _ _ => false) := by
 rw [dlk, zk_fold t d.Events _ (Nat.le_refl _), List.take_length]
theorem dlk_cut (d : GDirectory) {s t : Int} (h : s ≤ t) : dlk (cutD d t) s = dlk d s := by
 rw [dlk_fold, dlk_fold]
 refine foldl_filter_skip fun x _ hq b => ?_
 have : ¬ x.Time ≤ t := by simpa using hq
 funext j i
 exact if_neg (fun hh => by have := hh.1; omega)
open Classical in
noncomputable def upL (L : Nat → Nat → Bool) (n p : Nat) : List Int := ((List.range n).filter fun i => decide (RT L n p i)).map fun i : Nat => (i : Int)
theorem upl_cut (d : GDirectory) (p : Int) {s t : Int} (h : s ≤ t) : upl (cutD d t) p s = upl d p s := by
 have e : ∀ (d : GDirectory) (t : Int), upl d p t = upL (dlk d t) d.Kinds.length p.toNat := fun _ _ => rfl
 rw [e, e, dlk_cut d h]
 rfl
end Go.Ab
namespace Go.Ab
open Go.Proofs
theorem has_eq (l : List Int) (x : Int) : F_ref23_Has l x = some (decide (x ∈ l)) := by
 simp only [F_ref23_Has]
 rw [forL_find (fun y => if y = x then some true else none) l 0 (fun k y _ => by by_cases e : y = x <;> simp [F_ref23_Has_L1, e, flO])]
 simp only [Option.bind_some, elim_flO]
 have : findL (fun y => if y = x then some true else none) l = if x ∈ l then some true else none := by
   induction l with
   | nil => rfl
   | cons y r ih =>
     by_cases e : y = x
     · simp [findL, e]
     · have e' : ¬ x = y := fun h => e h.symm
       simp [findL, e, e', ih]
 rw [this]
 by_cases e : x ∈ l <;> simp [e]
theorem ints_go (b : List Int) : ∀ (l : List Int) (k : Nat), b.length = k + l.length → forL (F_ref23_Ints_L1 b) l (k : Int) () = some (if l = b.drop k then .nx () else .ex false)
 | [], k, h => by simp [forL, List.drop_eq_nil_of_le (show b.length ≤ k from by simp at h; omega)]
 | x :: r, k, h => by
   have hk : k < b.length := by simp at h; omega
   have hi : inb (k : Int) b.length = true := inb_iff.2 ⟨by omega, by omega⟩
   simp only [forL, F_ref23_Ints_L1, chk_true hi, Int.toNat_natCast]
   rw [List.drop_eq_getElem_cons hk]
   have e1 : b.getD k default = b[k] := by simp [hk]
   simp only [e1]
   by_cases c : x = b[k]
   · have := ints_go b r (k + 1) (by simp at h ⊢; omega)
     simp only [c, decide_true, Bool.not_true, cond_false, Option.bind_some, Fl_nx]
     rw [show ((k : Int) + 1) = ((k + 1 : Nat) : Int) by simp, this]
     simp only [List.cons.injEq, true_and]
   · have : ¬ (x :: r = b[k] :: b.drop (k + 1)) := fun h => c (List.cons.inj h).1
     rw [if_neg this]
     simp only [c, decide_false, Bool.not_false, cond_true, Option.bind_some, Fl_ex]
theorem ints_eq (a b : List Int) : F_ref23_Ints a b = some (decide (a = b)) := by
 simp only [F_ref23_Ints]
 by_cases c : a.length = b.length
 · have := ints_go b a 0 (by simp [c])
   have c2 : (!decide ((a.length : Int) = (b.length : Int))) = false := by simp [c]
   simp only [c2, cond_false]
   simp only [show ((0 : Nat) : Int) = 0 from rfl] at this
   rw [this]
   by_cases e : a = b <;> simp [e, Fl_nx, Fl_ex]
 · have c2 : (!decide ((a.length : Int) = (b.length : Int))) = true := by
     simp only [Bool.not_eq_true', decide_eq_false_iff_not]; omega
   simp only [c2, cond_true]
   have : ¬ a = b := fun h => c (by rw [h])
   simp [this]
end Go.Ab
namespace Go.Ab
open Go.Proofs
open Classical in
noncomputable def mays (d : GDirectory) (a : GEstate) (pl t : Int) : List Int := ((List.range d.Kinds.length).filter fun i : Nat => decide (mayP d a i pl t)).map fun i : Nat => (i : Int)
theorem mem_mays {d : GDirectory} {a : GEstate} {pl t x : Int} : x ∈ mays d a pl t ↔ mayP d a x pl t := by
 simp only [mays, List.mem_map, List.mem_filter, List.mem_range, decide_eq_true_eq]
 constructor
 · rintro ⟨i, ⟨_, h⟩, rfl⟩; exact h
 · intro h
   obtain ⟨h0, h1, _⟩ := h.1.1
   exact ⟨x.toNat, ⟨by omega, by rw [Int.toNat_of_nonneg h0]; exact h⟩, Int.toNat_of_nonneg h0⟩
theorem mays_congr {d d' : GDirectory} {a a' : GEstate} {pl t : Int} (hk : d'.Kinds.length = d.Kinds.length) (h : ∀ x, mayP d' a' x pl t ↔ mayP d a x pl t) : mays d' a' pl t = mays d a pl t := by
 simp only [mays, hk]
 congr 1
 exact List.filter_congr fun i _ => decide_eq_decide.2 (h i)
theorem fold_filter {α : Type} {body : Int → α → List Int → Option (List Int)} (q : Nat → Bool) (xs : List α) (hx : xs.length ≤ 24) (h : ∀ (i : Nat) (x : α) (s : List Int), i < xs.length → s.length ≤ 24 → body i x s = some (if q i then s ++ [(i : Int)] else s)) :
   foldL body xs 0 [] = some (((List.range xs.length).filter q).map fun i : Nat => (i : Int)) := by
 refine Ok.eq (Ok.foldI (all := xs) (fun pre s => s = ((List.range pre.length).filter q).map fun i : Nat => (i : Int)) xs [] 0 [] rfl rfl rfl (fun pre x r s hw hs => ?_) fun s hs => hs)
 subst hs
 have hp : pre.length < xs.length := by rw [hw]; simp
 have hlen : (((List.range pre.length).filter q).map fun i : Nat => (i : Int)).length ≤ pre.length := by
   rw [List.length_map]; exact Nat.le_trans (List.length_filter_le _ _) (by simp)
 refine Ok.of (h pre.length x _ hp (by omega)) ?_
 simp only [List.length_append, List.length_singleton, List.range_succ, List.filter_append, List.map_append]
 cases e : q pre.length <;> simp [e]
theorem who_eq {d : GDirectory} {a : GEstate} (g : GoodD d) (h : Good a) {pl : Int} (t : Int) (h0 : 0 ≤ pl) (h1 : pl ≤ a.Places - 1) : F_readers_Who d a pl t = some (⟨(lkf pl t a.Events 0 (0, false)).2, mays d a pl t⟩, 0) := by
 have hk := g.kl
 classical
 have e : foldL (F_readers_Who_L1 d a pl t) d.Kinds 0 ((lkf pl t a.Events 0 (0, false)).2, []) = some ((lkf pl t a.Events 0 (0, false)).2, mays d a pl t) := by
   refine Ok.eq (Ok.foldI (all := d.Kinds) (fun pre s => s = ((lkf pl t a.Events 0 (0, false)).2, ((List.range pre.length).filter fun i : Nat => decide (mayP d a i pl t)).map fun i : Nat => (i : Int))) d.Kinds [] 0 _ rfl rfl rfl (fun pre x r s hw hs => ?_) fun s hs => hs)
   subst hs
   have hp : pre.length < d.Kinds.length := by rw [hw]; simp
   have hlen : (((List.range pre.length).filter fun i : Nat => decide (mayP d a i pl t)).map fun i : Nat => (i : Int)).length ≤ pre.length := by
     rw [List.length_map]; exact Nat.le_trans (List.length_filter_le _ _) (by simp)
   unfold F_readers_Who_L1
   rw [may_eq g h]
   simp only [Option.bind_some, List.length_append, List.length_singleton, List.range_succ, List.filter_append, List.map_append]
   by_cases c : mayP d a (pre.length : Int) pl t
   · rw [decide_eq_true c, cond_true]
     refine Ok.chk (room_smD (by omega)) (Ok.ret ?_)
     simp [c]
   · rw [decide_eq_false c, cond_false]
     refine Ok.ret ?_
     simp [c]
 simp only [F_readers_Who, F_readers_Check, dcheck_eq, check_eq, if_pos g, if_pos h, Option.bind_some, decide_true, Bool.not_true, cond_false, place_eq a pl h.lo h.hi, decide_eq_true (show 0 ≤ pl ∧ pl ≤ a.Places - 1 from ⟨h0, h1⟩), linked_eq t (known_of h h0 h1), e]
theorem zst_group {E : List GMember} {t : Int} {P : Int → Prop} (hE : ∀ x ∈ E, P x.Group) : ∀ {Z : Nat → Nat → Bool}, (∀ j i, Z j i = true → P i) → ∀ j i, E.foldl (zst t) Z j i = true → P i := by
 induction E with
 | nil => exact fun h => h
 | cons x r ih =>
   intro Z h j i
   rw [List.foldl_cons]
   refine ih (fun y hy => hE y (by simp [hy])) (fun j i hz => ?_) j i
   simp only [zst] at hz
   split at hz
   · rename_i hc
     rw [hc.2.2]; exact hE x (by simp)
   · exact h j i hz
def grpP (d : GDirectory) (q : Int) : Prop := 0 ≤ q ∧ q < d.Kinds.length ∧ d.Kinds.getD q.toNat default = 2
theorem dlk_group {d : GDirectory} (g : GoodD d) (t : Int) {a b : Nat} (h : dlk d t a b = true) : grpP d b := by
 rw [dlk_fold] at h
 exact zst_group (P := grpP d) (fun x hx => (g.ev x hx).2.2.2.2.1) (fun _ _ h => by cases h) a b h
theorem RT_group {d : GDirectory} (g : GoodD d) {t : Int} {p i : Nat} (h : RT (dlk d t) d.Kinds.length p i) : i = p ∨ grpP d i := by
 induction h with
 | refl => exact .inl rfl
 | step h ha hb hl ih => exact .inr (dlk_group g t hl)
theorem upl_group {d : GDirectory} (g : GoodD d) {p t x : Int} (hp : 0 ≤ p) (h : x ∈ upl d p t) : x = p ∨ grpP d x := by
 obtain ⟨h0, h1, h2⟩ := mem_upl.1 h
 rcases RT_group g h2 with e | e
 · exact .inl (by omega)
 · rw [Int.toNat_of_nonneg h0] at e; exact .inr e
theorem upl_self {d : GDirectory} {p t : Int} (h0 : 0 ≤ p) (h1 : p < d.Kinds.length) : p ∈ upl d p t := mem_upl.2 ⟨h0, h1, .refl⟩
instance (d : GDirectory) (q : Int) : Decidable (grpP d q) := inferInstanceAs (Decidable (_ ∧ _ ∧ _))
theorem rgroup_eq {d : GDirectory} (hk : d.Kinds.length ≤ 24) (p : Int) : F_ref23_Group d p = some (decide (grpP d p)) := by
 simp only [F_ref23_Group, rexists_eq hk, Option.bind_some, jn]
 by_cases c : 0 ≤ p ∧ p < (d.Kinds.length : Int)
 · simp [c, chk_true (inb_iff.2 c), grpP]
 · rw [decide_eq_false c, cond_false, decide_eq_false (fun h : grpP d p => c ⟨h.1, h.2.1⟩)]
   rfl
theorem push_filter (p : Int) : ∀ (xs : List Int) (k : Int) (s : List Int), s.length + xs.length ≤ 100 → foldL (F_ref23_Groups_L1 p) xs k s = some (s ++ xs.filter fun x => !decide (x = p))
 | [], k, s, _ => by simp [foldL]
 | x :: r, k, s, h => by
   simp only [List.length_cons] at h
   have hr : room (s.length + [x].length) 8 = true := room_smD (by simp; omega)
   simp only [foldL, F_ref23_Groups_L1]
   by_cases c : x = p
   · simp [c, push_filter p r (k + 1) s (by omega)]
   · simp only [decide_eq_false c, Bool.not_false, cond_true, chk_true hr, Option.bind_some]
     rw [push_filter p r (k + 1) _ (by simp; omega)]
     simp [c]
theorem upl_len (d : GDirectory) (p t : Int) : (upl d p t).length ≤ d.Kinds.length := by
 rw [upl, List.length_map]; exact Nat.le_trans (List.length_filter_le _ _) (by simp)
theorem rgroups_eq {d : GDirectory} (g : GoodD d) {p : Int} (t : Int) (h0 : 0 ≤ p) (h1 : p < d.Kinds.length) : F_ref23_Groups d p t = some ((upl d p t).filter fun x => !decide (x = p)) := by
 have := upl_len d p t
 have := g.kl
 simp only [F_ref23_Groups, rupward_eq g t h0 h1, Option.bind_some]
 rw [push_filter p _ 0 [] (by simp; omega)]
 simp
theorem in_eq {d : GDirectory} (g : GoodD d) {p : Int} (q t : Int) (h0 : 0 ≤ p) (h1 : p < d.Kinds.length) : F_ref23_In d p q t = some (decide (q ∈ upl d p t ∧ q ≠ p)) := by
 simp only [F_ref23_In, dvalid_of g, rexists_eq g.kl, decide_eq_true (show 0 ≤ p ∧ p < (d.Kinds.length : Int) from ⟨h0, h1⟩), Option.bind_some, cond_true, jn, rgroup_eq g.kl, rgroups_eq g t h0 h1, rhas_eq]
 by_cases c : grpP d q
 · simp [c]
 · have hn : ¬ (q ∈ upl d p t ∧ q ≠ p) := by
     rintro ⟨hu, hne⟩
     rcases upl_group g h0 hu with h | h
     · exact hne h
     · exact c h
   rw [decide_eq_false c, decide_eq_false hn]
   rfl
def d1 : GDirectory := ⟨[1, 2], [⟨0, 1, 0, 1⟩]⟩
def a1 : GEstate := ⟨1, [⟨0, 1, 0, 1, 0, 0, 0⟩]⟩
theorem gd1 : GoodD d1 := ⟨by simp [d1], by simp [d1], by simp [d1], by simp [d1, mok], by simp [d1]⟩
theorem ga1 : Good a1 := by
 rw [good_iff]
 refine ⟨by simp [a1], by simp [a1], ?_⟩
 simp [a1, chain, xok]
theorem ks1 : keysf 0 0 a1.Events = [1] := by kernel_rfl
theorem lk11 : lkf 0 0 a1.Events 0 (0, false) = (0, false) := by kernel_rfl
theorem up1 : (1 : Int) ∈ upl d1 0 0 := mem_upl.2 ⟨by omega, by simp [d1], .step (a := 0) .refl (by simp [d1]) (by simp [d1]) (by kernel_rfl)⟩
theorem rdr1 : rdr d1 0 := ⟨Int.le_refl 0, by simp [d1], by simp [d1]⟩
theorem may1 : mayP d1 a1 0 0 0 := ⟨⟨rdr1, Int.le_refl 0, by simp [a1]⟩, .inr ⟨1, by rw [ks1]; simp, up1⟩⟩
theorem may11 : ¬ mayP d1 a1 1 0 0 := fun h => h.1.1.2.2 (by simp [d1])
theorem mays1 : mays d1 a1 0 0 = [0] := by
 simp only [mays, show d1.Kinds.length = 2 from rfl, show List.range 2 = [0, 1] from rfl, List.filter_cons, List.filter_nil, Int.ofNat_zero, Int.natCast_zero, Int.natCast_one]
 simp [may1, may11]
theorem upl1 : upl d1 0 0 = [0, 1] := by
 classical
 have h0 : RT (dlk d1 0) d1.Kinds.length (0 : Int).toNat 0 := .refl
 have h1 : RT (dlk d1 0) d1.Kinds.length (0 : Int).toNat 1 := (mem_upl.1 up1).2.2
 simp only [upl, show List.range d1.Kinds.length = [0, 1] from rfl, List.filter_cons, List.filter_nil, h0, h1, decide_true, if_true]
 rfl
theorem dwhy1 : F_directory_Why d1 0 1 0 = some ([0, 1], true) := by
 have hu : F_directory_Upward d1 0 0 = some [0, 1] := by rw [upward_eq gd1 0 (Int.le_refl 0) (by simp [d1]), upl1]
 have hd : delI [0, 1] 0 = some (1, [1, 0]) := by kernel_rfl
 have hin : F_directory_In d1 0 1 0 = some true := by
   simp only [F_directory_In, F_directory_Groups, hu, Option.bind_some, hd, dcont_eq]
   rfl
 have ht : atF d1.Kinds.length (d1.Events.map fun e => (e.Time, e.Kind, e.Principal, e.Group)) 0 = some [[false, true], [false, false]] := by kernel_rfl
 have e0 : F_directory_Why_L2 [[false, true], [false, false]] ([0], [0, -1]) = some (.nx ([1], [0, 0])) := by kernel_rfl
 have e1 : F_directory_Why_L2 [[false, true], [false, false]] ([1], [0, 0]) = some (.nx ([], [0, 0])) := by kernel_rfl
 have e2 : F_directory_Why_L2 [[false, true], [false, false]] ([], [0, 0]) = some (.ex [0, 0]) := by kernel_rfl
 have f0 : F_directory_Why_L3 0 [0, 0] [1] = some (.nx [0, 1]) := by kernel_rfl
 have f1 : F_directory_Why_L3 0 [0, 0] [0, 1] = some (.ex [0, 1]) := by kernel_rfl
 have hr : repI [-1] ((2 : Nat) : Int) = some [-1, -1] := by kernel_rfl
 have hi : inb 0 2 = true := inb_iff.2 (by omega)
 have l1 : loop (F_directory_Why_L2 [[false, true], [false, false]]) ([0], [0, -1]) = some [0, 0] := by
   rw [loop_eq, e0]; simp only [Option.bind_some, Fl_nx]
   rw [loop_eq, e1]; simp only [Option.bind_some, Fl_nx]
   rw [loop_eq, e2]; simp only [Option.bind_some, Fl_ex]
 have l2 : loop (F_directory_Why_L3 0 [0, 0]) [1] = some [0, 1] := by
   rw [loop_eq, f0]; simp only [Option.bind_some, Fl_nx]
   rw [loop_eq, f1]; simp only [Option.bind_some, Fl_ex]
 simp only [F_directory_Why, hin, Option.bind_some, Bool.not_true, cond_false, ht, List.length_cons, List.length_nil, Nat.zero_add, hr]
 rw [chk_true hi]
 show (loop _ ([0], [0, -1])).bind _ = _
 rw [l1]
 simp only [Option.bind_some, l2]
theorem rwhy1 : F_readers_Why d1 a1 0 0 0 = some (⟨0, 0, -1, 0, [0, 1]⟩, true) := by
 have hk := known_of ga1 (Int.le_refl 0) (show (0 : Int) ≤ a1.Places - 1 by simp [a1])
 have hg : F_access_Grant a1 0 1 0 = some (0, true) := by kernel_rfl
 have hs : srtI [1] = [1] := sorted_unique (srtI_perm _) (srtI_sorted _) (by simp)
 have hr : F_readers_grant d1 a1 0 0 0 = some (1, true) := by
   rw [rgrant_eq (upward_eq gd1 0 (Int.le_refl 0) (by simp [d1])) (granted_eq 0 ga1.len hk), ks1, hs]
   simp [up1, fst0]
 simp [F_readers_Why, may_eq gd1 ga1, may1, linked_eq 0 hk, lk11, hr, hg, jn, dwhy1]
theorem awake28 : F_law28_awake = some true := by
 classical
 have h1 := who_eq gd1 ga1 0 (Int.le_refl 0) (show (0 : Int) ≤ a1.Places - 1 by simp [a1])
 have h2 := rwhy1
 have h3 : F_ref23_Ints [0] [0] = some true := by kernel_rfl
 have h4 : F_ref28_Proves d1 a1 0 ⟨0, 0, -1, 0, [0, 1]⟩ = some true := by kernel_rfl
 have h5 := may_eq gd1 ga1 1 0 0
 simp only [may11, decide_false] at h5
 rw [mays1, lk11] at h1
 simp only [d1, a1] at h1 h2 h4 h5
 simp [F_law28_awake, h1, h2, h3, h4, h5, jn, grp]
theorem awake28_ok : Ok (F_law28_awake.bind fun y => some y) (· = true) := by rw [awake28]; exact ⟨true, rfl, rfl⟩
end Go.Ab
