/- The reference's readers are the program's (second part). -/
import Derived.Test.YtmodfifkcbpibaaGreatPY
import Derived.Test.YtmodfifkcbpibaaGreatLE
import Derived.Test.YtmodfifkcbpibaaGreatPX
import Derived.Test.YtmodfifkcbpibaaGreatLX
set_option linter.all false
set_option linter.all false
namespace Go.Ab
open Go.Proofs
open Classical in
theorem rgranted_ex {d : GDirectory} {a : GEstate} {p pl t : Int} {U G : List Int} (h1 : F_k d p t = some U) (h2 : F_z a pl t = some G) : F_1y d a p pl t = some (decide (∃ x ∈ G, x ∈ U)) := by
 simp only [F_1y, h1, h2, Option.bind_some]
 rw [forL_find (fun y => if y ∈ U then some true else none) G 0 (fun k y _ => by by_cases e : y ∈ U <;> simp [F_3a, rhas_eq, e, flO])]
 simp only [Option.bind_some, elim_flO]
 have : findL (fun y => if y ∈ U then some true else none) G = if ∃ x ∈ G, x ∈ U then some true else none := by
   clear h1 h2
   induction G with
   | nil => simp [findL]
   | cons y r ih =>
     by_cases e : y ∈ U
     · simp [findL, e]
     · simp only [findL, if_neg e]
       rw [ih]
       simp [e]
 rw [this]
 by_cases e : ∃ x ∈ G, x ∈ U <;> simp [e]
open Classical in
theorem rmay_eq {d : GDirectory} {a : GEstate} (g : GoodD d) (h : Good a) (p pl t : Int) : F_q d a p pl t = some (decide (mayP d a p pl t)) := by
 simp only [F_q, dvalid_of g, rplace_eq, rreader_eq g, rLinked_eq a pl t h.len, rGranted_eq, Option.bind_some, Bool.not_true, cond_false]
 by_cases c1 : 0 ≤ pl ∧ pl ≤ a.Places - 1
 · have hk := known_of h c1.1 c1.2
   simp only [hk, Option.bind_some, Bool.not_true, cond_false]
   by_cases c : rdr d p
   · simp only [decide_eq_true c, Bool.not_true, cond_false, linked_eq t hk, Option.bind_some]
     cases e : (lkf pl t a.Events 0 (0, false)).2 with
     | true =>
       simp only [cond_true, jn, Option.bind_some]
       rw [decide_eq_true (show mayP d a p pl t from ⟨⟨c, c1⟩, .inl e⟩)]
     | false =>
       rw [rgranted_ex (rupward_eq g t c.1 c.2.1) (by rw [rGranted_eq]; exact granted_eq t h.len hk)]
       simp only [cond_false, jn, Option.bind_some, srtI_mem]
       congr 1
       refine decide_eq_decide.2 ⟨fun q => ⟨⟨c, c1⟩, .inr q⟩, fun q => ?_⟩
       rcases q.2 with q | q
       · rw [e] at q; cases q
       · exact q
   · simp only [decide_eq_false c, Bool.not_false, cond_true]
     rw [decide_eq_false (fun q : mayP d a p pl t => c q.1.1)]
 · have hk : F_1 a pl = some false := by
     rw [known_eq, decide_eq_false (fun q : Good a ∧ 0 ≤ pl ∧ pl ≤ a.Places - 1 => c1 q.2)]
   simp only [hk, Option.bind_some, Bool.not_false, cond_true]
   rw [decide_eq_false (fun q : mayP d a p pl t => c1 q.1.2)]
end Go.Ab
namespace Go.Ab
open Go.Proofs Classical
theorem rin23 (x a b : Int) : F_5 x a b = some (decide (a ≤ x ∧ x ≤ b)) := by simp [F_5, grp]
theorem snoc_srt {l : List GMember} {x : GMember} (h : l.Pairwise fun x y => x.Time ≤ y.Time) (hl : 0 < l.length → (l.getD (l.length - 1) default).Time ≤ x.Time) : (l ++ [x]).Pairwise fun x y => x.Time ≤ y.Time := by
 rw [List.pairwise_append]
 refine ⟨h, by simp, fun a ha b hb => ?_⟩
 simp only [List.mem_singleton] at hb
 subst hb
 obtain ⟨i, hi, rfl⟩ := List.mem_iff_getElem.1 ha
 have h0 := hl (by omega)
 have e : l.getD (l.length - 1) default = l[l.length - 1]'(by omega) := by rw [List.getD_eq_getElem?_getD, List.getElem?_eq_getElem (by omega)]; rfl
 rw [e] at h0
 by_cases c : i = l.length - 1
 · subst c; exact h0
 · have := List.pairwise_iff_getElem.1 h i (l.length - 1) hi (by omega) (by omega)
   omega
theorem dvalid_ok (d : GDirectory) : Ok (F_2 d) fun b => b = true → GoodD d := by
 unfold F_2
 refine Ok.grp (Ok.ite (fun _ => Ok.ret (by simp)) fun q => ?_)
 simp only [Bool.or_eq_false_iff, decide_eq_false_iff_not] at q
 have hk : d.Kinds.length ≤ 24 := by omega
 have he : d.Events.length ≤ 120 := by omega
 refine Ok.bind (P := fun o : Fl Unit Bool => (o = .nx () ∧ ∀ k ∈ d.Kinds, 1 ≤ k ∧ k ≤ 3) ∨ o = .ex false) (Ok.forI (all := d.Kinds) (fun pre _ => ∀ k ∈ pre, 1 ≤ k ∧ k ≤ 3) _ [] 0 () rfl rfl (fun k h => by cases h) (fun pre k r s hw hs => ?_) fun s hs => .inl ⟨by cases s; rfl, hs⟩) fun o ho => ?_
 · unfold F_2q
   rw [rin23]
   refine Ok.ite (fun _ => Ok.ret (.inr rfl)) fun c => Ok.ret fun y hy => ?_
   rcases List.mem_append.1 hy with hy | hy
   · exact hs y hy
   · simp only [List.mem_singleton] at hy; subst hy; simpa using c
 rcases ho with ⟨rfl, hkd⟩ | rfl
 case inr => exact Ok.ret (by simp)
 rw [Fl_nx]
 refine Ok.bind (P := fun o : Fl Unit Bool => (o = .nx () ∧ (∀ x ∈ d.Events, mok d x) ∧ d.Events.Pairwise fun x y => x.Time ≤ y.Time) ∨ o = .ex false) (Ok.forI (all := d.Events) (fun pre _ => (∀ x ∈ pre, mok d x) ∧ pre.Pairwise fun x y => x.Time ≤ y.Time) _ [] 0 () rfl rfl ⟨fun k h => by (cases h), by simp⟩ (fun pre x r s hw hs => ?_) fun s hs => .inl ⟨by cases s; rfl, hs⟩) fun o ho => ?_
 · have hp : pre.length < d.Events.length := by rw [hw]; simp
   unfold F_2r
   simp only [rin23, Option.bind_some]
   refine Ok.ite (fun _ => Ok.ret (.inr rfl)) fun c1 => Ok.ite (fun _ => Ok.ret (.inr rfl)) fun c2 => ?_
   have c1 : 1 ≤ x.Kind ∧ x.Kind ≤ 2 := by simpa using c1
   have c2 : 0 ≤ x.Time ∧ x.Time ≤ 1099511627776 := by simpa using c2
   have rest : (0 < pre.length → (pre.getD (pre.length - 1) default).Time ≤ x.Time) → Ok ((F_4 d x.Principal).bind fun y251 => bif (!y251) then some (.ex false) else (F_p d x.Group).bind fun y252 => bif (!y252) then some (.ex false) else bif decide (x.Principal = x.Group) then some (.ex false) else some (.nx ())) (Fl.elim (fun _ : Unit => (∀ y ∈ pre ++ [x], mok d y) ∧ (pre ++ [x]).Pairwise fun x y => x.Time ≤ y.Time) fun r : Bool => ((Fl.ex r : Fl Unit Bool) = .nx () ∧ (∀ x ∈ d.Events, mok d x) ∧ d.Events.Pairwise fun x y => x.Time ≤ y.Time) ∨ (Fl.ex r : Fl Unit Bool) = .ex false) := by
     intro hl
     simp only [rexists_eq hk, rgroup_eq hk, Option.bind_some]
     refine Ok.ite (fun _ => Ok.ret (.inr rfl)) fun c3 => Ok.ite (fun _ => Ok.ret (.inr rfl)) fun c4 => Ok.ite (fun _ => Ok.ret (.inr rfl)) fun c5 => Ok.ret ?_
     have c3 : 0 ≤ x.Principal ∧ x.Principal < (d.Kinds.length : Int) := by simpa using c3
     have c4 : grpP d x.Group := by simpa using c4
     have c5 := of_decide_eq_false c5
     refine ⟨fun y hy => ?_, snoc_srt hs.2 hl⟩
     rcases List.mem_append.1 hy with hy | hy
     · exact hs.1 y hy
     · simp only [List.mem_singleton] at hy; subst hy
       exact ⟨by omega, c2.1, c2.2, c3, c4, c5⟩
   refine Ok.ite (fun c3 => ?_) fun c3 => rest fun h => by have := of_decide_eq_false c3; omega
   have c3 := of_decide_eq_true c3
   refine Ok.chk (in64_smD (by omega) (by omega)) (Ok.chk (inb_iff.2 ⟨by omega, by omega⟩) (Ok.ite (fun _ => Ok.ret (.inr rfl)) fun c4 => rest fun h => ?_))
   have c4 := of_decide_eq_false c4
   have e : d.Events.getD ((pre.length : Int) - 1).toNat default = pre.getD (pre.length - 1) default := by
     rw [show ((pre.length : Int) - 1).toNat = pre.length - 1 by omega, hw, List.getD_eq_getElem?_getD, List.getD_eq_getElem?_getD, List.getElem?_append_left (by omega)]
   rw [e] at c4; omega
 · rcases ho with ⟨rfl, h1, h2⟩ | rfl
   · exact Ok.ret fun _ => ⟨hk, he, hkd, h1, h2⟩
   · exact Ok.ret (by simp)
theorem dvalid_eq (d : GDirectory) : F_2 d = some (decide (GoodD d)) := by
 by_cases g : GoodD d
 · rw [dvalid_of g, decide_eq_true g]
 · obtain ⟨b, h, hb⟩ := dvalid_ok d
   rw [h, decide_eq_false g]
   cases b with
   | false => rfl
   | true => exact absurd (hb rfl) g
theorem direct_fold (p q t : Int) : ∀ (l : List GMember) (k : Int) (b : Bool), foldL (F_2f p q t) l k b = some (l.foldl (fun b x => if x.Time ≤ t ∧ p = x.Principal ∧ q = x.Group then decide (x.Kind = 1) else b) b)
 | [], _, _ => rfl
 | x :: r, k, b => by
   have : F_2f p q t k x b = some (if x.Time ≤ t ∧ p = x.Principal ∧ q = x.Group then decide (x.Kind = 1) else b) := by
     simp only [F_2f, grp]
     by_cases c : x.Time ≤ t ∧ p = x.Principal ∧ q = x.Group
     · rw [if_pos c]; simp [c.1, c.2.1.symm, c.2.2.symm]
     · rw [if_neg c]
       have : (decide (x.Time ≤ t) && decide (x.Principal = p) && decide (x.Group = q)) = false := by
         rw [Bool.eq_false_iff]; intro h
         simp only [Bool.and_eq_true, decide_eq_true_eq] at h
         exact c ⟨h.1.1, h.1.2.symm, h.2.symm⟩
       rw [this]; rfl
   simp only [foldL, this, Option.bind_some, List.foldl_cons, direct_fold p q t r]
theorem zst_fold (t : Int) (j i : Nat) : ∀ (l : List GMember) (Z : Nat → Nat → Bool), l.foldl (zst t) Z j i = l.foldl (fun b x => if x.Time ≤ t ∧ (j : Int) = x.Principal ∧ (i : Int) = x.Group then decide (x.Kind = 1) else b) (Z j i)
 | [], _ => rfl
 | x :: r, Z => by rw [List.foldl_cons, List.foldl_cons, zst_fold t j i r]; rfl
theorem direct_eq (d : GDirectory) {p q : Int} (t : Int) (hp : 0 ≤ p) (hq : 0 ≤ q) : F_19 d p q t = some (dlk d t p.toNat q.toNat) := by
 simp only [F_19, direct_fold, Option.bind_some, dlk_fold, zst_fold, Int.toNat_of_nonneg hp, Int.toNat_of_nonneg hq]
theorem rdproves_eq {d : GDirectory} (g : GoodD d) (t : Int) (ch : List Int) (hn : ch.length ≤ 1000) : F_1n d t ch = some (decide (2 ≤ ch.length ∧ Chn (dlk d t) d.Kinds.length ch)) := by
 have hk := g.kl
 refine Ok.eq ?_
 simp only [F_1n, dvalid_of g, Option.bind_some, Bool.not_true, Bool.false_or, grp]
 refine Ok.ite (fun c => Ok.ret ?_) fun c => ?_
 · simp only [Bool.or_eq_true, decide_eq_true_eq] at c
   rw [eq_comm, decide_eq_false]; intro h
   have := range_len h.2.nd h.2.rg
   omega
 simp only [Bool.or_eq_false_iff, decide_eq_false_iff_not] at c
 refine Ok.bind (P := fun o : Fl Unit Bool => (o = .nx () ∧ Chn (dlk d t) d.Kinds.length ch) ∨ (o = .ex false ∧ ¬ Chn (dlk d t) d.Kinds.length ch))
   (Ok.forI (all := ch) (fun pre _ => Chn (dlk d t) d.Kinds.length pre) ch [] 0 () rfl rfl ⟨fun x hx => by (cases hx), by simp, fun k hk => by simp at hk⟩ (fun pre x r s hw hs => ?_) fun s hs => .inl ⟨by cases s; rfl, hs⟩) fun o ho => ?_
 · unfold F_2z
   have hno : ∀ h : ¬ Chn (dlk d t) d.Kinds.length (pre ++ [x]), ¬ Chn (dlk d t) d.Kinds.length ch := fun h hc => h (by
     rw [hw, show pre ++ x :: r = (pre ++ [x]) ++ r by simp] at hc
     exact hc.pre)
   rw [Chn.snoc] at hno
   simp only [rexists_eq hk, Option.bind_some]
   refine Ok.ite (fun c1 => Ok.ret (.inr ⟨rfl, hno fun h => ?_⟩)) fun c1 => ?_
   · simp only [Bool.not_eq_true', decide_eq_false_iff_not] at c1; exact c1 h.2.1
   have c1 : 0 ≤ x ∧ x < (d.Kinds.length : Int) := by simpa using c1
   have hl : pre.length < ch.length := by rw [hw]; simp
   refine Ok.chk (inc_iff.2 ⟨by omega, by omega, by omega⟩) ?_
   have e1 : ch.take ((pre.length : Nat) : Int).toNat = pre := by rw [Int.toNat_natCast, hw, List.take_left' rfl]
   rw [e1, rhas_eq]
   simp only [Option.bind_some]
   refine Ok.ite (fun c2 => Ok.ret (.inr ⟨rfl, hno fun h => h.2.2.1 (of_decide_eq_true c2)⟩)) fun c2 => ?_
   have c2 := of_decide_eq_false c2
   refine Ok.ite (fun c3 => ?_) fun c3 => ?_
   · have c3 : 0 < pre.length := by have := of_decide_eq_true c3; omega
     have e2 : ((pre.length : Int) - 1).toNat = pre.length - 1 := by omega
     have e3 : ch.getD (pre.length - 1) default = pre.getD (pre.length - 1) default := by rw [hw, getD_fst (by omega)]
     obtain ⟨y0, y1⟩ := hs.rg (pre.getD (pre.length - 1) default) (by
       rw [List.getD_eq_getElem?_getD, List.getElem?_eq_getElem (by omega)]
       exact List.getElem_mem _)
     rw [e2, e3]
     refine Ok.chk (in64_smD (by omega) (by omega)) (Ok.chk (inb_iff.2 ⟨by omega, by omega⟩) ?_)
     rw [direct_eq d t y0 c1.1]
     refine Ok.ite (fun c4 => Ok.ret (.inr ⟨rfl, hno fun h => ?_⟩)) fun c4 => Ok.ret (Chn.snoc.2 ⟨hs, c1, c2, fun _ => by simpa using c4⟩)
     have := h.2.2.2 c3
     rw [this] at c4; cases c4
   · have c3 : ¬ 0 < pre.length := by have := of_decide_eq_false c3; omega
     exact Ok.ret (Chn.snoc.2 ⟨hs, c1, c2, fun h => absurd h c3⟩)
 · rcases ho with ⟨rfl, h⟩ | ⟨rfl, h⟩
   · exact Ok.ret (by rw [eq_comm, decide_eq_true]; exact ⟨by omega, h⟩)
   · exact Ok.ret (by rw [eq_comm, decide_eq_false]; exact fun hh => h hh.2)
theorem rasc_eq (l : List Int) (n : Nat) (hn : n ≤ 1000) (hl : l.length ≤ 1000) : F_20 l (n : Int) = some (decide (l.Pairwise (fun x y => x < y) ∧ ∀ x ∈ l, 0 ≤ x ∧ x < (n : Int))) := by
 refine Ok.eq ?_
 unfold F_20
 refine Ok.bind (P := fun o : Fl Unit Bool => (o = .nx () ∧ l.Pairwise (fun x y => x < y) ∧ ∀ x ∈ l, 0 ≤ x ∧ x < (n : Int)) ∨ (o = .ex false ∧ ¬ (l.Pairwise (fun x y => x < y) ∧ ∀ x ∈ l, 0 ≤ x ∧ x < (n : Int))))
   (Ok.forI (all := l) (fun pre _ => pre.Pairwise (fun x y => x < y) ∧ ∀ x ∈ pre, 0 ≤ x ∧ x < (n : Int)) l [] 0 () rfl rfl ⟨by simp, fun x h => by (cases h)⟩ (fun pre x r s hw hs => ?_) fun s hs => .inl ⟨by cases s; rfl, hs⟩) fun o ho => ?_
 · have hp : pre.length < l.length := by rw [hw]; simp
   have hx : x ∈ l := by rw [hw]; simp
   unfold F_3b
   refine Ok.chk (in64_smD (by omega) (by omega)) ?_
   simp only [rin23, Option.bind_some]
   refine Ok.ite (fun c => Ok.ret (.inr ⟨rfl, fun h => ?_⟩)) fun c => ?_
   · simp only [Bool.not_eq_true', decide_eq_false_iff_not] at c
     have := h.2 x hx; omega
   have c : 0 ≤ x ∧ x ≤ (n : Int) - 1 := by simpa using c
   have all2 : (∀ y ∈ pre, y < x) → (pre ++ [x]).Pairwise (fun x y => x < y) ∧ ∀ y ∈ pre ++ [x],0 ≤ y ∧ y < (n : Int) := fun h => by
     refine ⟨List.pairwise_append.2 ⟨hs.1, by simp, fun a ha b hb => ?_⟩, fun y hy => ?_⟩
     · simp only [List.mem_singleton] at hb; subst hb; exact h a ha
     · rcases List.mem_append.1 hy with hy | hy
       · exact hs.2 y hy
       · simp only [List.mem_singleton] at hy; subst hy; omega
   refine Ok.ite (fun c2 => ?_) fun c2 => ?_
   · have c2 := of_decide_eq_true c2
     have e2 : ((pre.length : Int) - 1).toNat = pre.length - 1 := by omega
     have e3 : l.getD (pre.length - 1) default = pre[pre.length - 1]'(by omega) := by
       rw [hw, List.getD_eq_getElem?_getD, List.getElem?_append_left (by omega), List.getElem?_eq_getElem (by omega)]; rfl
     rw [e2, e3]
     refine Ok.chk (in64_smD (by omega) (by omega)) (Ok.chk (inb_iff.2 ⟨by omega, by omega⟩) (Ok.ite (fun c3 => Ok.ret (.inr ⟨rfl, fun h => ?_⟩)) fun c3 => Ok.ret (all2 fun y hy => ?_)))
     · have c3 := of_decide_eq_true c3
       have h1 := h.1
       rw [hw, List.pairwise_append] at h1
       have := h1.2.2 _ (List.getElem_mem (show pre.length - 1 < pre.length by omega)) x (by simp)
       omega
     · have c3 := of_decide_eq_false c3
       obtain ⟨i, hi, rfl⟩ := List.mem_iff_getElem.1 hy
       by_cases e : i = pre.length - 1
       · subst e; omega
       · have := List.pairwise_iff_getElem.1 hs.1 i (pre.length - 1) hi (by omega) (by omega)
         omega
   · have c2 := of_decide_eq_false c2
     have : pre = [] := List.length_eq_zero_iff.1 (by omega)
     subst this
     exact Ok.ret (all2 fun y hy => by cases hy)
 · rcases ho with ⟨rfl, h⟩ | ⟨rfl, h⟩
   · exact Ok.ret (by rw [eq_comm, decide_eq_true h])
   · exact Ok.ret (by rw [eq_comm, decide_eq_false h])
theorem rclosed_eq {d : GDirectory} (g : GoodD d) (t : Int) (set : List Int) (hn : set.length ≤ 1000) : F_21 d t set = some (decide (closedP d t set)) := by
 have hk := g.kl
 refine Ok.eq ?_
 simp only [F_21, dvalid_of g, Option.bind_some, Bool.not_true, cond_false, rasc_eq set d.Kinds.length (by omega) hn]
 refine Ok.ite (fun c => Ok.ret ?_) fun c => ?_
 · simp only [Bool.not_eq_true', decide_eq_false_iff_not] at c
   rw [eq_comm, decide_eq_false]; exact fun h => c ⟨h.1, h.2.1⟩
 have c : set.Pairwise (fun x y => x < y) ∧ ∀ x ∈ set, 0 ≤ x ∧ x < (d.Kinds.length : Int) := by simpa using c
 refine Ok.bind (P := fun o : Fl Unit Bool => (o = .nx () ∧ ∀ x ∈ set, ∀ i : Nat, i < d.Kinds.length → dlk d t x.toNat i = true → (i : Int) ∈ set) ∨ (o = .ex false ∧ ¬ ∀ x ∈ set, ∀ i : Nat, i < d.Kinds.length → dlk d t x.toNat i = true → (i : Int) ∈ set))
   (Ok.forI (all := set) (fun pre _ => ∀ x ∈ pre, ∀ i : Nat, i < d.Kinds.length → dlk d t x.toNat i = true → (i : Int) ∈ set) set [] 0 () rfl rfl (fun x hx => by cases hx) (fun pre x r s hw hs => ?_) fun s hs => .inl ⟨by cases s; rfl, hs⟩) fun o ho => ?_
 · have hx : x ∈ set := by rw [hw]; simp
   have hx0 := (c.2 x hx).1
   unfold F_3d
   refine Ok.bind (P := fun o : Fl Unit Bool => (o = .nx () ∧ ∀ i : Nat, i < d.Kinds.length → dlk d t x.toNat i = true → (i : Int) ∈ set) ∨ (o = .ex false ∧ ¬ ∀ i : Nat, i < d.Kinds.length → dlk d t x.toNat i = true → (i : Int) ∈ set))
     (Ok.forI (all := d.Kinds) (fun pre _ => ∀ i : Nat, i < pre.length → dlk d t x.toNat i = true → (i : Int) ∈ set) d.Kinds [] 0 () rfl rfl (fun i hi => by simp at hi) (fun pre y r s hw hs => ?_) fun s hs => .inl ⟨by cases s; rfl, hs⟩) fun o ho => ?_
   · have hp : pre.length < d.Kinds.length := by rw [hw]; simp
     unfold F_3c
     rw [direct_eq d t hx0 (by omega)]
     simp only [Option.bind_some, Int.toNat_natCast, rhas_eq]
     cases e : dlk d t x.toNat pre.length with
     | false =>
       simp only [cond_false, jn, Option.bind_some]
       refine Ok.ret fun i hi hl => ?_
       simp only [List.length_append, List.length_singleton] at hi
       by_cases e1 : i = pre.length
       · subst e1; rw [e] at hl; cases hl
       · exact hs i (by omega) hl
     | true =>
       simp only [cond_true, jn, Option.bind_some]
       refine Ok.ite (fun c2 => Ok.ret (.inr ⟨rfl, fun h => ?_⟩)) fun c2 => Ok.ret fun i hi hl => ?_
       · have c2 : ¬ (pre.length : Int) ∈ set := by simpa using c2
         exact c2 (h _ hp e)
       · have c2 : (pre.length : Int) ∈ set := by simpa using c2
         simp only [List.length_append, List.length_singleton] at hi
         by_cases e1 : i = pre.length
         · subst e1; exact c2
         · exact hs i (by omega) hl
   · rcases ho with ⟨rfl, h⟩ | ⟨rfl, h⟩
     · refine Ok.ret fun y hy => ?_
       rcases List.mem_append.1 hy with hy | hy
       · exact hs y hy
       · simp only [List.mem_singleton] at hy; subst hy; exact h
     · exact Ok.ret (.inr ⟨rfl, fun hh => h (hh x hx)⟩)
 · rcases ho with ⟨rfl, h⟩ | ⟨rfl, h⟩
   · exact Ok.ret (by rw [eq_comm, decide_eq_true]; exact ⟨c.1, c.2, h⟩)
   · exact Ok.ret (by rw [eq_comm, decide_eq_false]; exact fun hh => h hh.2.2)
theorem rrefutes_eq {d : GDirectory} {a : GEstate} (g : GoodD d) (h : Good a) (p pl t : Int) (set : List Int) (hn : set.length ≤ 1000) : F_12 d a p pl t set = some (decide (refP d a p pl t set)) := by
 refine Ok.eq ?_
 simp only [F_12, dvalid_of g, rplace_eq, known_eq, h, true_and, rreader_eq g, rclosed_eq g t set hn, rhas_eq, Option.bind_some, Bool.not_true, cond_false]
 refine Ok.ite (fun c0 => Ok.ret ?_) fun c0 => ?_
 · rw [eq_comm, decide_eq_false]; intro hh; simp [hh.1.2] at c0
 have c0 : 0 ≤ pl ∧ pl ≤ a.Places - 1 := by simpa using c0
 refine Ok.ite (fun c1 => Ok.ret ?_) fun c1 => ?_
 · rw [eq_comm, decide_eq_false]; intro hh; simp [hh.1.1] at c1
 have c1 : rdr d p := by simpa using c1
 refine Ok.ite (fun c2 => Ok.ret ?_) fun c2 => ?_
 · rw [eq_comm, decide_eq_false]; intro hh; simp [hh.2.1] at c2
 have c2 : closedP d t set := by simpa using c2
 refine Ok.ite (fun c3 => Ok.ret ?_) fun c3 => ?_
 · rw [eq_comm, decide_eq_false]; intro hh; simp [hh.2.2.1] at c3
 have c3 : p ∈ set := by simpa using c3
 have hk := known_of h c0.1 c0.2
 rw [rLinked_eq a pl t h.len, linked_eq t hk, rGranted_eq, granted_eq t h.len hk]
 simp only [Option.bind_some]
 refine Ok.ite (fun c4 => Ok.ret ?_) fun c4 => ?_
 · rw [eq_comm, decide_eq_false]; intro hh; rw [hh.2.2.2.1] at c4; cases c4
 rw [forL_find (fun q => if q ∈ set then some false else none) _ 0 fun k q _ => by
   simp only [F_3e, rhas_eq, Option.bind_some]
   by_cases c : q ∈ set <;> simp [c, flO]]
 simp only [Option.bind_some, elim_flO]
 have hf : ∀ m : List Int, findL (fun q => if q ∈ set then some false else none) m = if ∀ q ∈ m, q ∉ set then none else some false := by
   intro m
   induction m with
   | nil => simp [findL]
   | cons q r ih =>
     by_cases c : q ∈ set
     · simp [findL, c]
     · simp [findL, c, ih]
 rw [hf]
 by_cases c : ∀ q ∈ srtI (keysf pl t a.Events), q ∉ set
 · rw [if_pos c]
   exact Ok.ret (by rw [eq_comm, decide_eq_true]; exact ⟨⟨c1, c0⟩, c2, c3, c4, fun q hq => c q (srtI_mem.2 hq)⟩)
 · rw [if_neg c]
   exact Ok.ret (by rw [eq_comm, decide_eq_false]; exact fun hh => c fun q hq => hh.2.2.2.2 q (srtI_mem.1 hq))
theorem ropen_eq {a : GEstate} {pl : Int} (t : Int) (hn : a.Events.length ≤ 120) (hk : F_1 a pl = some true) (k : Int) : F_j a pl k t = some (decide (0 ≤ k ∧ k < a.Events.length ∧ openP pl t a.Events k.toNat)) := by
 by_cases c : 0 ≤ k ∧ k < (a.Events.length : Int)
 · have := open_eq (p := pl) (t := t) hn hk (k := k.toNat) (by omega)
   rw [Int.toNat_of_nonneg c.1] at this
   rw [this]
   exact congrArg some (decide_eq_decide.2 ⟨fun h => ⟨c.1, c.2, h⟩, fun h => h.2.2⟩)
 · simp only [F_j, rplace_eq, hk, Option.bind_some, Bool.not_true, cond_false, rin_eq]
   rw [chk_true (in64_smD (by omega) (by omega)), decide_eq_false (show ¬ (0 ≤ k ∧ k ≤ (a.Events.length : Int) - 1) by omega), decide_eq_false (show ¬ (0 ≤ k ∧ k < (a.Events.length : Int) ∧ openP pl t a.Events k.toNat) from fun h => c ⟨h.1, h.2.1⟩)]
   rfl
theorem rproves_eq {d : GDirectory} {a : GEstate} (g : GoodD d) (h : Good a) (p : Int) (r : GReading) (hn : r.Chain.length ≤ 1000) : F_b d a p r = some (decide (provP d a p r)) := by
 have hen := h.len
 refine Ok.eq ?_
 simp only [F_b, dvalid_of g, rplace_eq, known_eq, h, true_and, rreader_eq g, Option.bind_some, Bool.not_true, cond_false]
 refine Ok.ite (fun c0 => Ok.ret ?_) fun c0 => ?_
 · rw [eq_comm, decide_eq_false]; intro hh; simp [hh.1.2] at c0
 have c0 : 0 ≤ r.Place ∧ r.Place ≤ a.Places - 1 := by simpa using c0
 refine Ok.ite (fun c1 => Ok.ret ?_) fun c1 => ?_
 · rw [eq_comm, decide_eq_false]; intro hh; simp [hh.1.1] at c1
 have c1 : rdr d p := by simpa using c1
 have hk := known_of h c0.1 c0.2
 refine Ok.ite (fun c2 => ?_) fun c2 => ?_
 · have c2 : ¬ r.Link = -1 := by simpa using c2
   simp only [grp, ropen_eq r.Time hen hk, jn, Option.bind_some]
   by_cases c3 : r.Grant = -1 ∧ r.Chain = []
   · simp only [c3.1, c3.2, List.length_nil, decide_true, Int.natCast_zero, Bool.and_self, cond_true, Option.bind_some]
     refine Ok.ret (decide_eq_decide.2 ⟨fun hh => ⟨⟨c1, c0⟩, .inl ⟨c2, c3.1, c3.2, hh⟩⟩, fun hh => ?_⟩)
     rcases hh.2 with hh | hh
     · exact hh.2.2.2
     · exact absurd hh.1 c2
   · have : (decide (r.Grant = -1) && decide ((r.Chain.length : Int) = 0)) = false := by
       rw [Bool.eq_false_iff]; intro hh
       simp only [Bool.and_eq_true, decide_eq_true_eq] at hh
       exact c3 ⟨hh.1, List.length_eq_zero_iff.1 (by omega)⟩
     simp only [this, cond_false, Option.bind_some]
     refine Ok.ret ?_
     rw [eq_comm, decide_eq_false]; intro hh
     rcases hh.2 with hh | hh
     · exact c3 ⟨hh.2.1, hh.2.2.1⟩
     · exact c2 hh.1
 have c2 : r.Link = -1 := by simpa using c2
 have no : ∀ b : Bool, b = false → (∀ _ : 0 ≤ r.Grant ∧ r.Grant < a.Events.length ∧ r.Chain ≠ [] ∧ (a.Events.getD r.Grant.toNat default).Kind = 1 ∧ (a.Events.getD r.Grant.toNat default).Place = r.Place ∧ (a.Events.getD r.Grant.toNat default).Time ≤ r.Time ∧
       (a.Events.getD r.Grant.toNat default).Principal ∈ keysf r.Place r.Time a.Events ∧ r.Chain.getD 0 default = p ∧ r.Chain.getD (r.Chain.length - 1) default = (a.Events.getD r.Grant.toNat default).Principal ∧ (r.Chain.length = 1 ∨ 2 ≤ r.Chain.length ∧ Chn (dlk d r.Time) d.Kinds.length r.Chain), False) → b = decide (provP d a p r) := fun b hb hh => by
   rw [hb, eq_comm, decide_eq_false]
   rintro ⟨_, q | ⟨_, q1, q2, q3, q4, q5, q6, q7, q8, q9, q10⟩⟩
   · exact q.1 c2
   · exact hh ⟨q2, q3, q1, q4, q5, q6, q7, q8, q9, q10⟩
 simp only [grp]
 refine Ok.ite (fun c3 => Ok.ret (no _ rfl fun q => ?_)) fun c3 => ?_
 · simp only [Bool.or_eq_true, decide_eq_true_eq] at c3
   have : ¬ r.Chain.length = 0 := fun e => q.2.2.1 (List.length_eq_zero_iff.1 e)
   omega
 simp only [Bool.or_eq_false_iff, decide_eq_false_iff_not] at c3
 have hne : r.Chain ≠ [] := fun e => by rw [e] at c3; simp at c3
 refine Ok.chk (inb_iff.2 ⟨by omega, by omega⟩) (Ok.ite (fun c4 => Ok.ret (no _ rfl fun q => ?_)) fun c4 => ?_)
 · have c4 : ¬ r.Chain.getD 0 default = p := by simpa using c4
   exact c4 q.2.2.2.2.2.2.2.1
 have c4 : r.Chain.getD 0 default = p := by simpa using c4
 refine Ok.chk (inb_iff.2 ⟨by omega, by omega⟩) (Ok.ite (fun c5 => Ok.ret (no _ rfl fun q => ?_)) fun c5 => Ok.ite (fun c6 => Ok.ret (no _ rfl fun q => ?_)) fun c6 => Ok.ite (fun c7 => Ok.ret (no _ rfl fun q => ?_)) fun c7 => ?_)
 · have c5 : ¬ (a.Events.getD r.Grant.toNat default).Kind = 1 := by simpa using c5
   exact c5 q.2.2.2.1
 · have c6 : ¬ (a.Events.getD r.Grant.toNat default).Place = r.Place := by simpa using c6
   exact c6 q.2.2.2.2.1
 · have c7 := of_decide_eq_true c7
   have := q.2.2.2.2.2.1; omega
 have c5 : (a.Events.getD r.Grant.toNat default).Kind = 1 := by simpa using c5
 have c6 : (a.Events.getD r.Grant.toNat default).Place = r.Place := by simpa using c6
 have c7 := of_decide_eq_false c7
 have e1 : ((r.Chain.length : Int) - 1).toNat = r.Chain.length - 1 := by omega
 rw [e1]
 refine Ok.chk (in64_smD (by omega) (by omega)) (Ok.chk (inb_iff.2 ⟨by omega, by omega⟩) (Ok.ite (fun c8 => Ok.ret (no _ rfl fun q => ?_)) fun c8 => ?_))
 · have c8 : ¬ r.Chain.getD (r.Chain.length - 1) default = (a.Events.getD r.Grant.toNat default).Principal := by simpa using c8
   exact c8 q.2.2.2.2.2.2.2.2.1
 have c8 : r.Chain.getD (r.Chain.length - 1) default = (a.Events.getD r.Grant.toNat default).Principal := by simpa using c8
 rw [rGrant_eq, grant_eq _ _ hk]
 simp only [Option.bind_some, aget_key]
 refine Ok.ite (fun c9 => Ok.ret (no _ rfl fun q => ?_)) fun c9 => ?_
 · have c9 : ¬ (a.Events.getD r.Grant.toNat default).Principal ∈ keysf r.Place r.Time a.Events := by simpa using c9
   exact c9 q.2.2.2.2.2.2.1
 have c9 : (a.Events.getD r.Grant.toNat default).Principal ∈ keysf r.Place r.Time a.Events := by simpa using c9
 simp only [rdproves_eq g _ _ hn, jn, Option.bind_some]
 have yes : (r.Chain.length = 1 ∨ 2 ≤ r.Chain.length ∧ Chn (dlk d r.Time) d.Kinds.length r.Chain) → provP d a p r := fun q => ⟨⟨c1, c0⟩, .inr ⟨c2, hne, by omega, by omega, c5, c6, by omega, c9, c4, c8, q⟩⟩
 by_cases c10 : r.Chain.length = 1
 · simp only [c10, Int.natCast_one, decide_true, cond_true, Option.bind_some]
   exact Ok.ret (by rw [eq_comm, decide_eq_true (yes (.inl c10))])
 · rw [decide_eq_false (show ¬ (r.Chain.length : Int) = 1 by omega), cond_false]
   simp only [Option.bind_some]
   refine Ok.ret (decide_eq_decide.2 ⟨fun hh => yes (.inr hh), fun hh => ?_⟩)
   rcases hh.2 with hh | hh
   · exact absurd c2 hh.1
   · exact hh.2.2.2.2.2.2.2.2.2.2.resolve_left c10
end Go.Ab
namespace Go.Ab
open Go.Proofs Classical
theorem rcheck_bad {d : GDirectory} {a : GEstate} (h : ¬ (GoodD d ∧ Good a)) : F_l d a = some (if GoodD d then 34 else 30) := by
 simp only [F_l, dcheck_eq, check_eq, Option.bind_some]
 by_cases g : GoodD d
 · have : ¬ Good a := fun q => h ⟨g, q⟩
   simp [g, this]
 · simp [g]
theorem fine_bad {d : GDirectory} {a : GEstate} (h : ¬ (GoodD d ∧ Good a)) (p pl : Int) : F_h d a p pl = some false := by
 have : ¬ (if GoodD d then (34 : Int) else 30) = 0 := by split <;> omega
 simp only [F_h, rcheck_bad h, Option.bind_some, decide_eq_false this, cond_false, jn]
theorem place_bad {a : GEstate} (h : ¬ Good a) (pl : Int) : F_3 a pl = some false := by
 rw [rplace_eq, known_eq, decide_eq_false fun q => h q.1]
theorem place_out {a : GEstate} {pl : Int} (h : ¬ (0 ≤ pl ∧ pl ≤ a.Places - 1)) : F_3 a pl = some false := by
 rw [rplace_eq, known_eq, decide_eq_false fun q => h q.2]
theorem rwho_eq {d : GDirectory} {a : GEstate} (g : GoodD d) (h : Good a) {pl : Int} (t : Int) (h0 : 0 ≤ pl) (h1 : pl ≤ a.Places - 1) : F_u d a pl t = some (⟨(lkf pl t a.Events 0 (0, false)).2, mays d a pl t⟩, 0) := by
 have hk := g.kl
 have e : foldL (F_2u d a pl t) d.Kinds 0 ((lkf pl t a.Events 0 (0, false)).2,[]) = some ((lkf pl t a.Events 0 (0, false)).2, mays d a pl t) := by
   refine Ok.eq (Ok.foldI (all := d.Kinds) (fun pre s => s = ((lkf pl t a.Events 0 (0, false)).2, ((List.range pre.length).filter fun i : Nat => decide (mayP d a i pl t)).map fun i : Nat => (i : Int))) d.Kinds [] 0 _ rfl rfl rfl (fun pre x r s hw hs => ?_) fun s hs => hs)
   subst hs
   have hp : pre.length < d.Kinds.length := by rw [hw]; simp
   have hlen : (((List.range pre.length).filter fun i : Nat => decide (mayP d a i pl t)).map fun i : Nat => (i : Int)).length ≤ pre.length := by
     rw [List.length_map]; exact Nat.le_trans (List.length_filter_le _ _) (by simp)
   unfold F_2u
   rw [rmay_eq g h]
   simp only [Option.bind_some, List.length_append, List.length_singleton, List.range_succ, List.filter_append, List.map_append]
   by_cases c : mayP d a (pre.length : Int) pl t
   · rw [decide_eq_true c, cond_true]
     refine Ok.chk (room_smD (by omega)) (Ok.ret ?_)
     simp [c]
   · rw [decide_eq_false c, cond_false]
     refine Ok.ret ?_
     simp [c]
 have hkn := known_of h h0 h1
 simp only [F_u, dvalid_of g, valid_eq, decide_eq_true h, rplace_eq, hkn, rLinked_eq a pl t h.len, Option.bind_some, Bool.not_true, cond_false, linked_eq t hkn, e]
structure RD (d : GDirectory) (a : GEstate) : Prop where
 may : ∀ p pl t, ∃ b, F_q d a p pl t = some b ∧ F_9 d a p pl t = some b ∧ Ok (F_i d a p pl t) fun y => y.2 = b ∧ (b = true → y.1.Place = pl ∧ y.1.Time = t ∧ F_b d a p y.1 = some true) ∧ (b = false → y.1 = ⟨0,0,0,0,[]⟩) ∧ y.1.Chain.length ≤ 24
 who : ∀ pl t, ∃ w, F_n d a pl t = some w ∧ F_u d a pl t = some w
 prv : ∀ p (r : GReading), r.Chain.length ≤ 1000 → ∃ b, F_1d d a p r = some b ∧ F_b d a p r = some b
 rfu : ∀ p pl t (set : List Int), set.length ≤ 1000 → ∃ b, F_1e d a p pl t set = some b ∧ F_12 d a p pl t set = some b
theorem rd_all (d : GDirectory) (a : GEstate) : RD d a := by
 by_cases hb : GoodD d ∧ Good a
 · obtain ⟨g, h⟩ := hb
   refine ⟨fun p pl t => ⟨_, rmay_eq g h p pl t, may_eq g h p pl t, (why_ok g h p pl t).mono fun y hy => ⟨hy.1, fun hm => ?_, fun hm => hy.2.2 (of_decide_eq_false hm), ?_⟩⟩, fun pl t => ?_, fun p r hr => ⟨_, proves_eq g h p r hr, rproves_eq g h p r hr⟩, fun p pl t set hs => ⟨_, refutes_eq g h p pl t set hs, rrefutes_eq g h p pl t set hs⟩⟩
   · obtain ⟨q1, q2, q3, q4⟩ := hy.2.1 (of_decide_eq_true hm)
     exact ⟨q1, q2, by rw [rproves_eq g h p y.1 (by omega), decide_eq_true q4]⟩
   · by_cases c : mayP d a p pl t
     · exact (hy.2.1 c).2.2.1
     · rw [hy.2.2 c]; simp
   · by_cases c : 0 ≤ pl ∧ pl ≤ a.Places - 1
     · exact ⟨_, who_eq g h t c.1 c.2, rwho_eq g h t c.1 c.2⟩
     · refine ⟨(⟨false, []⟩, 6), ?_, ?_⟩
       · simp only [F_n, F_l, dcheck_eq, check_eq, if_pos g, if_pos h, Option.bind_some, decide_true, Bool.not_true, cond_false, place_eq a pl h.lo h.hi, decide_eq_false c, Bool.not_false, cond_true]
       · simp only [F_u, dvalid_of g, valid_eq, decide_eq_true h, place_out c, Option.bind_some, Bool.not_true, cond_false, Bool.not_false, cond_true]
 · have hf := fine_bad hb
   have hv : GoodD d → ∀ pl, F_3 a pl = some false := fun g pl => place_bad (fun q => hb ⟨g, q⟩) pl
   have hm : ∀ p pl t, F_9 d a p pl t = some false := fun p pl t => by simp only [F_9, hf, Option.bind_some, Bool.not_false, cond_true]
   refine ⟨fun p pl t => ⟨false, ?_, hm p pl t, ?_⟩, fun pl t => ⟨(⟨false, []⟩, if GoodD d then 34 else 30), ?_, ?_⟩, fun p r hr => ⟨false, ?_, ?_⟩, fun p pl t set hs => ⟨false, ?_, ?_⟩⟩
   · by_cases g : GoodD d
     · simp only [F_q, dvalid_of g, hv g, Option.bind_some, Bool.not_true, cond_false, Bool.not_false, cond_true]
     · simp only [F_q, dvalid_eq, decide_eq_false g, Option.bind_some, Bool.not_false, cond_true]
   · simp only [F_i, hm, Option.bind_some, Bool.not_false, cond_true]
     exact Ok.ret ⟨rfl, by simp, fun _ => rfl, by simp⟩
   · have : ¬ (if GoodD d then (34 : Int) else 30) = 0 := by split <;> omega
     simp only [F_n, rcheck_bad hb, Option.bind_some, decide_eq_false this, Bool.not_false, cond_true]
   · by_cases g : GoodD d
     · have : ¬ Good a := fun q => hb ⟨g, q⟩
       simp only [F_u, dvalid_of g, valid_eq, decide_eq_false this, if_pos g, Option.bind_some, Bool.not_true, cond_false, Bool.not_false, cond_true]
     · simp only [F_u, dvalid_eq, decide_eq_false g, if_neg g, Option.bind_some, Bool.not_false, cond_true]
   · simp only [F_1d, hf, Option.bind_some, Bool.not_false, cond_true]
   · by_cases g : GoodD d
     · simp only [F_b, dvalid_of g, hv g, Option.bind_some, Bool.not_true, cond_false, Bool.not_false, cond_true]
     · simp only [F_b, dvalid_eq, decide_eq_false g, Option.bind_some, Bool.not_false, cond_true]
   · simp only [F_1e, hf, Option.bind_some, Bool.not_false, cond_true]
   · by_cases g : GoodD d
     · simp only [F_12, dvalid_of g, hv g, Option.bind_some, Bool.not_true, cond_false, Bool.not_false, cond_true]
     · simp only [F_12, dvalid_eq, decide_eq_false g, Option.bind_some, Bool.not_false, cond_true]
theorem upw_ok (d : GDirectory) (p t : Int) : Ok (F_k d p t) fun u => u.length ≤ 24 := by
 by_cases g : GoodD d
 · have hk := g.kl
   by_cases c : 0 ≤ p ∧ p < (d.Kinds.length : Int)
   · rw [rupward_eq g t c.1 c.2]
     exact Ok.ret (Nat.le_trans (upl_len d p t) hk)
   · simp only [F_k, dvalid_of g, rexists_eq hk, decide_eq_false c, Option.bind_some, Bool.not_true, cond_false, Bool.not_false, cond_true]
     exact Ok.ret (by simp)
 · simp only [F_k, dvalid_eq, decide_eq_false g, Option.bind_some, Bool.not_false, cond_true]
   exact Ok.ret (by simp)
theorem few_ok {t : GTape} (h : TOK t) {n k : Int} (hn : n ≤ 100) (hk : 0 < k) (hk2 : k ≤ 100) : Ok (F_22 t n k) fun y => y.1.length ≤ 100 ∧ TOK y.2 := by
 unfold F_22
 refine Ok.bind (Ok.loop (Q := fun r : List Int × GTape => r.1.length ≤ 100 ∧ TOK r.2) (fun x : Int × List Int × GTape => 0 ≤ x.1 ∧ (x.1 ≤ 100) ∧ (x.2.1.length : Int) ≤ x.1 ∧ TOK x.2.2) (fun x => (n - x.1).toNat) (fun x hx => ?_) _ ⟨Int.le_refl 0, by omega, by simp, h⟩) fun r hr => Ok.ret hr
 obtain ⟨i, out, t⟩ := x
 obtain ⟨h0, h1, h2, h3⟩ := hx
 simp only at h0 h1 h2 h3
 unfold F_3q
 refine Ok.ite (fun c => ?_) fun c => Ok.ret ⟨by show out.length ≤ 100; omega, h3⟩
 have c : i < n := of_decide_eq_true c
 refine Ok.jn (P := fun j : List Int × GTape => (j.1.length : Int) ≤ i + 1 ∧ TOK j.2) (Ok.bind (next_ok h3 hk) fun y hy => Ok.chk (in64_smD (by omega) (by omega)) (Ok.ite (fun _ => Ok.chk (room_smD (by simp; omega)) (Ok.ret ⟨by simp; omega, hy.2.2⟩)) fun _ => Ok.ret ⟨by show (out.length : Int) ≤ _; omega, hy.2.2⟩)) fun j hj => ?_
 refine Ok.chk (in64_smD (by omega) (by omega)) (Ok.ret ⟨⟨by show 0 ≤ i + 1; omega, by show i + 1 ≤ 100; omega, hj.1, hj.2⟩, ?_⟩)
 show (n - (i + 1)).toNat < (n - i).toNat
 omega
theorem same_self (w : GAudience) : F_1z w w = some true := by
 simp only [F_1z, beq_self_eq_true, cond_true, ints_eq, decide_true, Option.bind_some, jn]
theorem forL_nx {α σ ρ : Type} {body : Int → α → σ → Option (Fl σ ρ)} {I : σ → Prop} (xs : List α) (s : σ) (h : I s) (step : ∀ k x s, x ∈ xs → I s → Ok (body k x s) (Fl.elim I fun _ => False)) : Ok (forL body xs 0 s) fun o => ∃ s', o = .nx s' ∧ I s' :=
 Ok.for I xs 0 s h (fun k x s hx hs => (step k x s hx hs).mono fun y hy => by cases y with | nx _ => exact hy | ex _ => exact hy.elim) fun s hs => ⟨s, rfl, hs⟩
theorem l3_ok (r : GReading) (set : List Int) (hr : r.Chain.length ≤ 12) (hs : set.length ≤ 30) (d : GDirectory) (a : GEstate) (k : Int) (q : GA39) (x : GTape) (hx : TOK x) : Ok (F_2v r set d a k q x) (Fl.elim TOK fun _ => False) := by
 have R := rd_all d a
 obtain ⟨b, m1, m2, m3⟩ := R.may q.e0 q.e1 q.e2
 obtain ⟨w, w1, w2⟩ := R.who q.e1 q.e2
 unfold F_2v
 rw [m1, w1, w2]
 simp only [Option.bind_some]
 refine Ok.bind m3 fun y hy => ?_
 obtain ⟨y1, y2, y3, y4⟩ := hy
 simp only [m2, Option.bind_some, beq_self_eq_true, Bool.not_true, decide_true, Bool.or_self, grp, cond_false, same_self, y1, jn, Fl_nx]
 refine Ok.bind (P := fun j => j = false) ?_ fun j hj => ?_
 · cases b with
   | false => exact Ok.ret rfl
   | true =>
     obtain ⟨p1, p2, p3⟩ := y2 rfl
     simp only [cond_true, p1, p2, decide_true, Bool.not_true, cond_false, p3, Option.bind_some]
     exact Ok.ret rfl
 subst hj
 have hz : (!b && (!decide (y.1.Place = 0) || !decide (y.1.Time = 0) || !decide (y.1.Link = 0) || !decide (y.1.Grant = 0) || decide (0 < (y.1.Chain.length : Int)))) = false := by
   cases b with
   | true => rfl
   | false => rw [y3 rfl]; simp
 simp only [Bool.false_or, hz, cond_false]
 refine Ok.bind (P := fun j : GReading × GTape => j.1.Chain.length ≤ 30 ∧ TOK j.2) (Ok.bind (next_ok hx (by omega)) fun n hn => ?_) fun j hj => ?_
 · refine Ok.ite (fun _ => Ok.bind (next_ok hn.2.2 (by omega)) fun z hz => Ok.ret ⟨by show y.1.Chain.length ≤ 30; omega, hz.2.2⟩) fun _ => Ok.ite (fun _ => Ok.bind (between_ok hn.2.2 (by omega) (by omega) (by omega)) fun z hz => Ok.ret ⟨by show y.1.Chain.length ≤ 30; omega, hz.2.2⟩) fun _ => Ok.ite (fun _ => Ok.bind (between_ok hn.2.2 (by omega) (by omega) (by omega)) fun z hz => Ok.ret ⟨by show y.1.Chain.length ≤ 30; omega, hz.2.2⟩) fun _ => ?_
   refine Ok.chk (room_smD (by omega)) (Ok.bind (next_ok hn.2.2 (by omega)) fun z hz => Ok.chk (room_smD (by simp; omega)) (Ok.ret ⟨by simp; omega, hz.2.2⟩))
 obtain ⟨j1, j2⟩ := hj
 refine Ok.bind (forL_nx (I := fun _ => True) _ () trivial fun k z s hz _ => ?_) fun o ho => ?_
 · obtain ⟨v, v1, v2⟩ := R.prv q.e0 z (by
     simp only [List.mem_cons, List.not_mem_nil, or_false] at hz
     rcases hz with rfl | rfl | rfl <;> omega)
   simp only [F_3f, v1, v2, Option.bind_some, beq_self_eq_true, Bool.not_true, cond_false]
   exact Ok.ret trivial
 obtain ⟨_, rfl, _⟩ := ho
 rw [Fl_nx]
 refine Ok.bind (few_ok j2 (by omega) (by omega) (by omega)) fun f hf => Ok.bind (upw_ok d q.e0 q.e2) fun u hu => ?_
 refine Ok.bind (forL_nx (I := fun _ => True) _ () trivial fun k z s hz _ => ?_) fun o ho => ?_
 · obtain ⟨v, v1, v2⟩ := R.rfu q.e0 q.e1 q.e2 z (by
     simp only [List.mem_cons, List.not_mem_nil, or_false] at hz
     have := hf.1
     rcases hz with rfl | rfl | rfl <;> omega)
   simp only [F_3g, v1, v2, Option.bind_some, beq_self_eq_true, Bool.not_true, cond_false]
   exact Ok.ret trivial
 obtain ⟨_, rfl, _⟩ := ho
 exact Ok.ret hf.2
theorem exact28 (l : List Int) (raw : GDirectory) (b : GEstate) (r : GReading) (p pl t : Int) (set : List Int) : F_2a l raw b r p pl t set = some true := by
 refine Ok.eq ?_
 unfold F_2a
 refine Ok.grp (Ok.grp (Ok.grp (Ok.grp (Ok.grp (Ok.ite (fun _ => awake28_ok) fun c => ?_)))))
 simp only [Bool.or_eq_false_iff, decide_eq_false_iff_not] at c
 refine Ok.bind (dir_ok (t := ⟨l, 0⟩) ⟨Int.le_refl 0, by show l.length ≤ 400; omega⟩) fun y6 hd => ?_
 obtain ⟨gd, d1, d2, d3, d4, d5⟩ := hd
 refine Ok.bind (estate_ok d5 d2) fun y8 he => ?_
 obtain ⟨ga, a1, a2, a3, a4⟩ := he
 refine Ok.bind (forL_nx (I := TOK) _ _ a4 fun k d s _ hs => ?_) fun o ho => ?_
 · unfold F_3i
   refine Ok.bind (forL_nx (I := TOK) _ _ hs fun k a s _ hs => ?_) fun o ho => ?_
   · unfold F_3h
     refine Ok.bind (next_ok hs (by omega)) fun z1 h1 => Ok.bind (next_ok h1.2.2 (by omega)) fun z2 h2 => Ok.bind (next_ok h2.2.2 (by omega)) fun z3 h3 => Ok.bind (between_ok h3.2.2 (by omega) (by omega) (by omega)) fun z4 h4 => Ok.bind (between_ok h4.2.2 (by omega) (by omega) (by omega)) fun z5 h5 => Ok.bind (next_ok h5.2.2 (by omega)) fun z6 h6 => ?_
     refine Ok.bind (forL_nx (I := TOK) _ _ h6.2.2 fun k q s _ hs => l3_ok r set (by omega) (by omega) d a k q s hs) fun o ho => ?_
     obtain ⟨s', rfl, hs'⟩ := ho
     exact Ok.ret hs'
   · obtain ⟨s', rfl, hs'⟩ := ho
     exact Ok.ret hs'
 · obtain ⟨s', rfl, hs'⟩ := ho
   exact awake28_ok
end Go.Ab
