/- object.Parse answers for any bytes: with an error, or with the object whose bytes they are. -/
import Derived.Test.YtdcjekffkibboaaGreatDoorPO
import Derived.Test.YtdcjekffkibboaaGreatDoorLB
import Derived.Test.YtdcjekffkibboaaGreatDoorLR
import Derived.Test.YtdcjekffkibboaaGreatDoorLC
import Derived.KernelRfl
set_option linter.all false
set_option linter.all false
namespace Go.Ab
theorem right_any {o : GObject} (h2 : o.Items.length ≤ 1000) (h3 : o.Parents.length ≤ 1000) : F_v o = some (ryt o) := by
 unfold F_v ryt
 rw [tree_eq (by omega), commit_eq (by omega), pos_ne]
 simp only [grp, jn, Option.bind_some, oth, trA, coA]
 by_cases k1 : o.Kind = 1
 ·have k2 : ¬ o.Kind = 2 := by omega
  have k3 : ¬ o.Kind = 3 := by omega
  rw [decide_eq_true k1, decide_eq_false k2, decide_eq_false k3]
  cases decide (o.Tree = 0) <;> cases decide ((o.Parents.length : Int) = 0) <;> cases decide (o.Author = []) <;> cases decide (o.Time = 0) <;> cases decide ((o.Items.length : Int) = 0) <;> rfl
 ·by_cases k2 : o.Kind = 2
  ·have k3 : ¬ o.Kind = 3 := by omega
   rw [decide_eq_false k1, decide_eq_true k2, decide_eq_false k3]
   generalize (List.range' 0 o.Items.length).all (trB o.Items) = b
   cases decide (o.Tree = 0) <;> cases decide ((o.Parents.length : Int) = 0) <;> cases decide (o.Author = []) <;> cases decide (o.Time = 0) <;> cases decide ((o.Data.length : Int) = 0) <;> cases b <;> rfl
  ·by_cases k3 : o.Kind = 3
   ·rw [decide_eq_false k1, decide_eq_false k2, decide_eq_true k3]
    generalize ((List.range' 0 o.Parents.length).all (coB o.Parents) && (idB o.Tree && nmB o.Author && cmB o)) = b
    cases decide ((o.Items.length : Int) = 0) <;> cases decide ((o.Data.length : Int) = 0) <;> cases b <;> rfl
   ·rw [decide_eq_false k1, decide_eq_false k2, decide_eq_false k3]; rfl
theorem lim_of_big {o : GObject} (h : ¬ (o.Items.length ≤ 64 ∧ o.Parents.length ≤ 8)) : (decide (65536 < (o.Data.length : Int)) || decide (64 < (o.Items.length : Int)) || decide (8 < (o.Parents.length : Int))) = true := by
 simp only [Bool.or_eq_true, decide_eq_true_eq]
 omega
theorem valid_any (o : GObject) : F_9 o = some (vlB o) := by
 unfold F_9 vlB
 rw [number_eq]
 simp only [grp, Option.bind_some]
 by_cases hl : o.Items.length ≤ 64 ∧ o.Parents.length ≤ 8
 ·rw [right_any (by omega) (by omega)]
  simp only [Option.bind_some]
  cases idB o.ID <;> cases decide (65536 < (o.Data.length : Int)) <;> cases decide (64 < (o.Items.length : Int)) <;> cases decide (8 < (o.Parents.length : Int)) <;> cases ryt o <;> rfl
 ·rw [lim_of_big hl]
  cases idB o.ID <;> rfl
theorem few_of {o : GObject} (h : vlB o = 0) (hd : o.Data.length ≤ 3000) : Few o := by
 have hl : ¬ ¬ (o.Items.length ≤ 64 ∧ o.Parents.length ≤ 8) := fun hl => by
  unfold vlB at h
  rw [lim_of_big hl] at h
  revert h
  cases idB o.ID <;> simp
 have hl := Classical.not_not.1 hl
 refine ⟨hd, by omega, by omega, ?_⟩
 rcases ryt_of (vl_id h).2 with ⟨_, _, ho⟩ | ⟨_, _, ho, _⟩ | ⟨_, _, _, hc⟩
 ·rw [(oth_of ho).2.2.1]; simp
 ·rw [(oth_of ho).2.2.1]; simp
 ·unfold coA at hc
  simp only [Bool.and_eq_true] at hc
  have := nmB_len hc.2.1.2
  omega
def z0 : GObject := GObject.mk 0 0 [] [] 0 [] [] 0
end Go.Ab
namespace Go.Ab
def pairP : Str → Str × Str
 | [] => ([],[])
 | c :: r => bif c == 32 then ([], r) else (c :: (pairP r).1, (pairP r).2)
theorem pair_go {s : Str} (h : s.length ≤ 1000000) : ∀ (xs pre : Str), s = pre ++ xs →
  ∃ r, loop (F_x s) (pre.length : Int) = some r ∧ Sum.elim (fun _ => some (s, ([] : Str))) (fun u => some u) r = some (pre ++ (pairP xs).1, (pairP xs).2)
 | [], pre, e => by
  have hl : (pre.length : Int) = (s.length : Int) := by rw [e]; simp
  refine ⟨.inl (), ?_, ?_⟩
  ·rw [loop_eq]
   unfold F_x
   rw [hl, dlt]; rfl
  ·simp [pairP, e]
 | c :: r, pre, e => by
  have hi : pre.length < s.length := by rw [e]; simp
  have c1 : decide ((pre.length : Int) < (s.length : Int)) = true := by simpa using hi
  have c2 : inb (pre.length : Int) s.length = true := kB hi
  have c3 : in64 ((pre.length : Int) + 1) = true := in64_iff.2 ⟨by omega, by omega⟩
  have c4 : inc 0 (pre.length : Int) s.length = true := inc_iff.2 ⟨by omega, by omega, by omega⟩
  have c5 : inc ((pre.length : Int) + 1) (s.length : Int) s.length = true := inc_iff.2 ⟨by omega, by omega, by omega⟩
  have e1 : ((pre.length : Int)).toNat = pre.length := by simp
  have e2 : ((pre.length : Int) + 1).toNat = pre.length + 1 := by omega
  have e3 : s.getD pre.length 0 = c := by rw [e]; simp
  have e4 : s.take pre.length = pre := by rw [e]; simp
  have e5 : s.drop (pre.length + 1) = r := by rw [e]; simp
  unfold pairP
  by_cases hc : c = 32
  ·subst hc
   have key : F_x s (pre.length : Int) = some (.ex (.inr (pre, r))) := by
    unfold F_x
    rw [c1, c2, c3, c4, c5, e1, e2, e3, e4, e5]; rfl
   refine ⟨.inr (pre, r), ?_, ?_⟩
   ·rw [loop_eq, key]; rfl
   ·simp
  ·have hd : decide ((c.toNat : Int) = 32) = false := by
    apply decide_eq_false
    intro h
    apply hc
    apply UInt8.toNat_inj.1
    have : c.toNat = 32 := by omega
    rw [this]; rfl
   have hb : (c == 32) = false := by simpa using hc
   have key : F_x s (pre.length : Int) = some (.nx ((pre.length : Int) + 1)) := by
    unfold F_x
    rw [c1, c2, c3, e1, e3, hd]; rfl
   rw [hb]
   obtain ⟨q, h1, h2⟩ := pair_go h r (pre ++ [c]) (by rw [e]; simp)
   rw [List.length_append] at h1
   refine ⟨q, ?_, ?_⟩
   ·rw [loop_eq, key]; exact h1
   ·rw [h2]; simp
theorem pair_eq {s : Str} (h : s.length ≤ 1000000) : F_14 s = some (pairP s) := by
 obtain ⟨r, h1, h2⟩ := pair_go h s [] rfl
 unfold F_14
 simp only [List.length_nil, Int.natCast_zero] at h1
 rw [h1]
 exact h2
def valGo : Int → Str → Int
 | n, [] => n
 | n, c :: r => bif decide ((c.toNat : Int) < 48) || decide (57 < (c.toNat : Int)) then -1 else valGo (n * 10 + ((c.toNat : Int) - 48)) r
def valP (s : Str) : Int := bif decide ((s.length : Int) = 0) || decide (18 < (s.length : Int)) then -1 else valGo 0 s
theorem pow_le {a b : Nat} (h : a ≤ b) : (10 : Int) ^ a ≤ 10 ^ b := by
 have := Nat.pow_le_pow_right (n := 10) (by omega) h
 exact_mod_cast this
theorem val_go {s : Str} (h : s.length ≤ 18) : ∀ (xs pre : Str) (n : Int), s = pre ++ xs → 0 ≤ n → n < 10 ^ pre.length →
  ∃ r, loop (F_e s) (n, (pre.length : Int)) = some r ∧ Sum.elim (fun u => some u) (fun u => some u) r = some (valGo n xs)
 | [], pre, n, e, h0, h1 => by
  have hl : (pre.length : Int) = (s.length : Int) := by rw [e]; simp
  refine ⟨.inl n, ?_, rfl⟩
  rw [loop_eq]
  unfold F_e
  simp only
  rw [hl, dlt]; rfl
 | c :: r, pre, n, e, h0, h1 => by
  have hi : pre.length < s.length := by rw [e]; simp
  have c1 : decide ((pre.length : Int) < (s.length : Int)) = true := by simpa using hi
  have c2 : inb (pre.length : Int) s.length = true := kB hi
  have c3 : in64 ((pre.length : Int) + 1) = true := in64_iff.2 ⟨by omega, by omega⟩
  have e1 : ((pre.length : Int)).toNat = pre.length := by simp
  have e3 : s.getD pre.length 0 = c := by rw [e]; simp
  have hp := pow_le (show pre.length + 1 ≤ 18 by omega)
  have hp2 : (10 : Int) ^ (pre.length + 1) = 10 ^ pre.length * 10 := Int.pow_succ ..
  have hcn := c.toNat_lt
  unfold valGo
  cases hd : decide ((c.toNat : Int) < 48) with
  | true =>
   have key : F_e s (n, (pre.length : Int)) = some (.ex (.inr (-1))) := by
    unfold F_e
    simp only
    rw [c1, c2, e1, e3, hd]; rfl
   refine ⟨.inr (-1), ?_, rfl⟩
   rw [loop_eq, key]; rfl
  | false =>
   cases hd2 : decide (57 < (c.toNat : Int)) with
   | true =>
    have key : F_e s (n, (pre.length : Int)) = some (.ex (.inr (-1))) := by
     unfold F_e
     simp only
     rw [c1, c2, e1, e3, hd, hd2]; rfl
    refine ⟨.inr (-1), ?_, rfl⟩
    rw [loop_eq, key]; rfl
   | false =>
    have hd' := of_decide_eq_false hd
    have hd2' := of_decide_eq_false hd2
    have eu : ((u8 ((c.toNat : Int) - 48)).toNat : Int) = (c.toNat : Int) - 48 := by rw [u8_toNat]; omega
    have c4 : in64 (n * 10) = true := in64_iff.2 ⟨by omega, by omega⟩
    have c5 : in64 (n * 10 + ((c.toNat : Int) - 48)) = true := in64_iff.2 ⟨by omega, by omega⟩
    have key : F_e s (n, (pre.length : Int)) = some (.nx (n * 10 + ((c.toNat : Int) - 48), (pre.length : Int) + 1)) := by
     unfold F_e
     simp only
     rw [c1, c2, c3, e1, e3, hd, hd2, eu, c4, c5]; rfl
    obtain ⟨q, h3, h4⟩ := val_go h r (pre ++ [c]) (n * 10 + ((c.toNat : Int) - 48)) (by rw [e]; simp) (by omega) (by rw [List.length_append]; simp only [List.length_cons, List.length_nil]; rw [hp2]; omega)
    rw [List.length_append] at h3
    refine ⟨q, ?_, h4⟩
    rw [loop_eq, key]; exact h3
theorem value_eq (s : Str) : F_l s = some (valP s) := by
 unfold F_l valP grp
 cases hc : decide ((s.length : Int) = 0) || decide (18 < (s.length : Int)) with
 | true => rfl
 | false =>
  simp only [Bool.or_eq_false_iff, decide_eq_false_iff_not] at hc
  obtain ⟨r, h1, h2⟩ := val_go (s := s) (by omega) s [] 0 rfl (by omega) (by simp)
  simp only [List.length_nil, Int.natCast_zero] at h1
  simp only [cond_false]
  rw [h1]
  exact h2
def segs : Str → Str → List Str
 | cur, [] => []
 | cur, c :: r => bif c == 10 then cur :: segs [] r else segs (cur ++ [c]) r
theorem lines_go {s : Str} (h : s.length ≤ 1000000) : ∀ (xs pre cur : Str) (out : List Str), s = (pre ++ cur) ++ xs → out.length ≤ 100 →
  loop (F_d s) ((pre.length : Int), ((pre ++ cur).length : Int), out) = some ((out ++ segs cur xs).take 100)
 | [], pre, cur, out, e, ho => by
  have hl : (((pre ++ cur).length : Nat) : Int) = (s.length : Int) := by rw [e]; simp
  rw [loop_eq]
  unfold F_d grp
  simp only
  rw [hl, dlt]
  simp only [Bool.false_and, cond_false, Option.bind_some, Fl.elim, segs, List.append_nil]
  rw [List.take_of_length_le ho]
 | c :: r, pre, cur, out, e, ho => by
  have hi : (pre ++ cur).length < s.length := by rw [e]; simp
  have c1 : decide (((pre ++ cur).length : Int) < (s.length : Int)) = true := decide_eq_true (by omega)
  have c2 : inb ((pre ++ cur).length : Int) s.length = true := kB hi
  have c3 : in64 (((pre ++ cur).length : Int) + 1) = true := in64_iff.2 ⟨by omega, by omega⟩
  have c4 : inc (pre.length : Int) ((pre ++ cur).length : Int) s.length = true := inc_iff.2 ⟨by omega, by rw [List.length_append]; omega, by omega⟩
  have e1 : (((pre ++ cur).length : Int)).toNat = (pre ++ cur).length := Int.toNat_natCast _
  have e2 : ((pre.length : Int)).toNat = pre.length := by simp
  have e3 : s.getD (pre ++ cur).length 0 = c := by rw [e]; simp
  have e4 : (s.take (pre ++ cur).length).drop pre.length = cur := by rw [e, List.take_left, List.drop_left]
  by_cases hf : out.length < 100
  ·have c5 : decide ((out.length : Int) < 100) = true := decide_eq_true (by omega)
   by_cases hc : c = 10
   ·subst hc
    have := lines_go h r (pre ++ cur ++ [10]) [] (out ++ [cur]) (by rw [e]; simp) (by rw [List.length_append]; simp; omega)
    have hr : room (out.length + [cur].length) 16 = true := room_iff.2 (by simp; omega)
    have key : F_d s ((pre.length : Int), ((pre ++ cur).length : Int), out) = some (.nx (((pre ++ cur).length : Int) + 1, ((pre ++ cur).length : Int) + 1, out ++ [cur])) := by
     unfold F_d grp
     simp only
     rw [c1, c5, c2, c3, c4, e1, e2, e3, e4, hr]
     rfl
    rw [loop_eq, key]
    have hl : (((pre ++ cur ++ [10]).length : Nat) : Int) = ((pre ++ cur).length : Int) + 1 := by simp; omega
    rw [List.append_nil, hl] at this
    refine Eq.trans this ?_
    simp [segs]
   ·have hd : decide ((c.toNat : Int) = 10) = false := by
     apply decide_eq_false
     intro h
     apply hc
     apply UInt8.toNat_inj.1
     have : c.toNat = 10 := by omega
     rw [this]; rfl
    have hb : (c == 10) = false := by simpa using hc
    have := lines_go h r pre (cur ++ [c]) out (by rw [e]; simp) ho
    have key : F_d s ((pre.length : Int), ((pre ++ cur).length : Int), out) = some (.nx ((pre.length : Int), ((pre ++ cur).length : Int) + 1, out)) := by
     unfold F_d grp
     simp only
     rw [c1, c5, c2, c3, e1, e3, hd]
     rfl
    rw [loop_eq, key]
    have hl : (((pre ++ (cur ++ [c])).length : Nat) : Int) = ((pre ++ cur).length : Int) + 1 := by simp; omega
    rw [hl] at this
    refine Eq.trans this ?_
    simp only [segs, hb, cond_false]
  ·have c5 : decide ((out.length : Int) < 100) = false := decide_eq_false (by omega)
   have key : F_d s ((pre.length : Int), ((pre ++ cur).length : Int), out) = some (.ex out) := by
    unfold F_d grp
    simp only
    rw [c1, c5]; rfl
   rw [loop_eq, key]
   simp only [Option.bind_some, Fl.elim]
   rw [List.take_append_of_le_length (by omega), List.take_of_length_le ho]
theorem lines_eq {s : Str} (h : s.length ≤ 1000000) : F_1s s = some ((segs [] s).take 100) := by
 unfold F_1s
 have := lines_go h s [] [] [] rfl (by simp)
 simp only [List.append_nil, List.length_nil, Int.natCast_zero, List.nil_append] at this
 rw [this]; rfl
theorem segs_len : ∀ (s cur : Str), ∀ l ∈ segs cur s, l.length ≤ cur.length + s.length
 | [], cur, l, h => by cases h
 | c :: r, cur, l, h => by
  unfold segs at h
  cases hc : c == 10 with
  | true =>
   rw [hc] at h
   rcases List.mem_cons.1 h with rfl | h
   ·simp
   ·have := segs_len r [] l h; simp at this ⊢; omega
  | false =>
   rw [hc] at h
   have := segs_len r (cur ++ [c]) l h
   simp at this ⊢; omega
def itP (l : Str) : GItem := GItem.mk (pairP l).2 (valP (pairP l).1)
theorem items_go {all : List Str} {id : Int} (h : ∀ l ∈ all, l.length ≤ 1000000) (hn : all.length ≤ 1000) : ∀ (xs pre : List Str) (out : List GItem), all = pre ++ xs → out.length ≤ pre.length →
  loop (F_1t all) ((pre.length : Int), id, out) = some (id, out ++ xs.map itP)
 | [], pre, out, e, ho => by
  have hl : (pre.length : Int) = (all.length : Int) := by rw [e]; simp
  rw [loop_eq]
  unfold F_1t
  simp only
  rw [hl, dlt]; simp [Fl.elim]
 | l :: r, pre, out, e, ho => by
  have hi : pre.length < all.length := by rw [e]; simp
  have c1 : decide ((pre.length : Int) < (all.length : Int)) = true := by simpa using hi
  have c2 : inb (pre.length : Int) all.length = true := kB hi
  have c3 : in64 ((pre.length : Int) + 1) = true := in64_iff.2 ⟨by omega, by omega⟩
  have e1 : ((pre.length : Int)).toNat = pre.length := by simp
  have e3 : all.getD pre.length default = l := by rw [e]; simp
  have hr : room (out.length + [itP l].length) 24 = true := room_iff.2 (by simp; omega)
  have key : F_1t all ((pre.length : Int), id, out) = some (.nx ((pre.length : Int) + 1, id, out ++ [itP l])) := by
   unfold F_1t
   simp only
   rw [c1, c2, c3, e1, e3, pair_eq (h l (by rw [e]; simp))]
   simp only [cond_true, chk, Option.bind_some, value_eq]
   rw [show GItem.mk (pairP l).2 (valP (pairP l).1) = itP l from rfl, hr]
   rfl
  have := items_go (id := id) h hn r (pre ++ [l]) (out ++ [itP l]) (by rw [e]; simp) (by simp; omega)
  rw [loop_eq, key]
  rw [List.length_append] at this
  refine Eq.trans this ?_
  simp
def cmF (x : Int × Str × Int × List Int) (l : Str) : Int × Str × Int × List Int :=
 bif decide ((pairP l).1 = [116,114,101,101]) then (valP (pairP l).2, x.2.1, x.2.2.1, x.2.2.2) else bif decide ((pairP l).1 = [112,97,114,101,110,116]) then (x.1, x.2.1, x.2.2.1, x.2.2.2 ++ [valP (pairP l).2]) else
  bif decide ((pairP l).1 = [97,117,116,104,111,114]) then (x.1, (pairP l).2, x.2.2.1, x.2.2.2) else bif decide ((pairP l).1 = [116,105,109,101]) then (x.1, x.2.1, valP (pairP l).2, x.2.2.2) else x
theorem cm_go {all : List Str} {id : Int} (h : ∀ l ∈ all, l.length ≤ 1000000) (hn : all.length ≤ 1000) : ∀ (xs pre : List Str) (x : Int × Str × Int × List Int), all = pre ++ xs → x.2.2.2.length ≤ pre.length →
  loop (F_1u all) ((pre.length : Int), id, x) = some (id, xs.foldl cmF x)
 | [], pre, x, e, ho => by
  have hl : (pre.length : Int) = (all.length : Int) := by rw [e]; simp
  rw [loop_eq]
  unfold F_1u
  simp only
  rw [hl, dlt]; simp [Fl.elim]
 | l :: r, pre, x, e, ho => by
  have hi : pre.length < all.length := by rw [e]; simp
  have c1 : decide ((pre.length : Int) < (all.length : Int)) = true := by simpa using hi
  have c2 : inb (pre.length : Int) all.length = true := kB hi
  have c3 : in64 ((pre.length : Int) + 1) = true := in64_iff.2 ⟨by omega, by omega⟩
  have e1 : ((pre.length : Int)).toNat = pre.length := by simp
  have e3 : all.getD pre.length default = l := by rw [e]; simp
  have hr : room (x.2.2.2.length + [valP (pairP l).2].length) 8 = true := room_iff.2 (by simp; omega)
  have key : F_1u all ((pre.length : Int), id, x) = some (.nx ((pre.length : Int) + 1, id, cmF x l)) := by
   unfold F_1u
   simp only
   rw [c1, c2, c3, e1, e3, pair_eq (h l (by rw [e]; simp))]
   simp only [cond_true, chk, Option.bind_some, value_eq, hr, jn, cmF]
   cases decide ((pairP l).1 = [116,114,101,101]) <;> cases decide ((pairP l).1 = [112,97,114,101,110,116]) <;> cases decide ((pairP l).1 = [97,117,116,104,111,114]) <;> cases decide ((pairP l).1 = [116,105,109,101]) <;> rfl
  have hx : (cmF x l).2.2.2.length ≤ (pre ++ [l]).length := by
   rw [List.length_append]
   unfold cmF
   cases decide ((pairP l).1 = [116,114,101,101]) <;> cases decide ((pairP l).1 = [112,97,114,101,110,116]) <;> cases decide ((pairP l).1 = [97,117,116,104,111,114]) <;> cases decide ((pairP l).1 = [116,105,109,101]) <;> (try simp) <;> omega
  have := cm_go (id := id) h hn r (pre ++ [l]) (cmF x l) (by rw [e]; simp) hx
  rw [loop_eq, key]
  rw [List.length_append] at this
  simpa [Fl.elim] using this
def guessP (id : Int) (s : Str) : GObject :=
 bif decide (s.take 5 = [98,108,111,98,10]) then GObject.mk id 1 (s.drop 5) [] 0 [] [] 0 else
  match (segs [] s).take 100 with
  | [] => GObject.mk id 0 [] [] 0 [] [] 0
  | w :: r => bif decide (w = [116,114,101,101]) then GObject.mk id 2 [] (r.map itP) 0 [] [] 0 else
   GObject.mk id 3 [] [] (r.foldl cmF (0,[],0,[])).1 (r.foldl cmF (0,[],0,[])).2.2.2 (r.foldl cmF (0,[],0,[])).2.1 (r.foldl cmF (0,[],0,[])).2.2.1
theorem guess_eq {id : Int} {s : Str} (h : s.length ≤ 1000000) : F_1v id s = some (guessP id s) := by
 unfold F_1v guessP
 have hb : (bif decide (5 ≤ (s.length : Int)) then chk (inc 0 5 s.length) (some (decide ((s.take 5) = [98,108,111,98,10]))) else some false) = some (decide ((s.take 5) = [98,108,111,98,10])) := by
  cases hc : decide (5 ≤ (s.length : Int)) with
  | true =>
   have hc := of_decide_eq_true hc
   simp only [cond_true, chk]
   rw [inc_iff.2 ⟨by omega, by omega, hc⟩]; rfl
  | false =>
   have hc := of_decide_eq_false hc
   simp only [cond_false]
   congr 1
   symm
   apply decide_eq_false
   intro e
   have := congrArg List.length e
   rw [List.length_take] at this
   simp at this
   omega
 rw [hb]
 simp only [jn, Option.bind_some]
 cases hk : decide ((s.take 5) = [98,108,111,98,10]) with
 | true =>
  have hk := congrArg List.length (of_decide_eq_true hk)
  rw [List.length_take] at hk
  simp at hk
  simp only [cond_true, chk]
  rw [inc_iff.2 ⟨by omega, by omega, by omega⟩]; rfl
 | false =>
  simp only [cond_false]
  rw [lines_eq h]
  simp only [Option.bind_some]
  have hl : ∀ l ∈ (segs [] s).take 100, l.length ≤ 1000000 := fun l hl => by
   have := segs_len s [] l (List.mem_of_mem_take hl)
   simp at this; omega
  have hn : ((segs [] s).take 100).length ≤ 100 := by rw [List.length_take]; omega
  generalize (segs [] s).take 100 = all at hl hn ⊢
  cases all with
  | nil => rfl
  | cons w r =>
   have c1 : decide ((((w :: r).length : Nat) : Int) = 0) = false := decide_eq_false (by simp only [List.length_cons]; omega)
   have c2 : inb 0 (w :: r).length = true := inb_iff.2 ⟨by omega, by simp only [List.length_cons]; omega⟩
   have h1 := items_go (id := id) hl (by omega) r [w] [] rfl (by simp)
   have h2 := cm_go (id := id) hl (by omega) r [w] (0,[],0,[]) rfl (by simp)
   simp only [List.length_cons, List.length_nil] at h1 h2
   rw [c1, c2]
   simp only [cond_false, chk, cond_true, List.getD_cons_zero]
   cases decide (w = [116,114,101,101]) with
   | true =>
    simp only [cond_true]
    erw [h1]; simp
   | false =>
    simp only [cond_false]
    erw [h2]; simp
end Go.Ab
namespace Go.Ab
theorem segs_app : ∀ (l r cur : Str), (∀ c ∈ l, c ≠ 10) → segs cur (l ++ 10 :: r) = (cur ++ l) :: segs [] r
 | [], r, cur, _ => by simp [segs]
 | c :: l, r, cur, h => by
  have hc : (c == 10) = false := by simpa using h c (by simp)
  have ih := segs_app l r (cur ++ [c]) fun c hc => h c (by simp [hc])
  simp only [List.cons_append, segs, hc, cond_false]
  rw [ih]; simp
theorem pairP_app : ∀ (l r : Str), (∀ c ∈ l, c ≠ 32) → pairP (l ++ 32 :: r) = (l, r)
 | [], r, _ => by simp [pairP]
 | c :: l, r, h => by
  have hc : (c == 32) = false := by simpa using h c (by simp)
  have ih := pairP_app l r fun c hc => h c (by simp [hc])
  simp only [List.cons_append, pairP, hc, cond_false, ih]
theorem val_dig (u : Nat) (l : Str) : valGo 0 (Lib.decDigits u ++ l) = valGo u l := by
 induction u using Nat.strongRecOn generalizing l with
 | _ u ih =>
  rw [Lib.decDigits]
  split
  ·rename_i hu
   have e : (UInt8.ofNat (48 + u)).toNat = 48 + u := by simp; omega
   simp only [List.cons_append, List.nil_append, valGo, e]
   rw [decide_eq_false (by omega), decide_eq_false (by omega)]
   simp only [Bool.or_self, cond_false]
   congr 1; omega
  ·rename_i hu
   rw [List.append_assoc, ih (u / 10) (by omega)]
   have e : (UInt8.ofNat (48 + u % 10)).toNat = 48 + u % 10 := by simp; omega
   simp only [List.cons_append, List.nil_append, valGo, e]
   rw [decide_eq_false (by omega), decide_eq_false (by omega)]
   simp only [Bool.or_self, cond_false]
   congr 1; omega
theorem dig_len : ∀ (k u : Nat), u < 10 ^ (k + 1) → (Lib.decDigits u).length ≤ k + 1
 | 0, u, h => by rw [Lib.decDigits, dif_pos (by simpa using h)]; simp
 | k + 1, u, h => by
  rw [Lib.decDigits]
  split
  ·simp
  ·rename_i hu
   have := dig_len k (u / 10) (by rw [Nat.pow_succ] at h; omega)
   rw [List.length_append]; simp; omega
theorem valP_itoa {n : Int} (h0 : 0 ≤ n) (h : n ≤ 1099511627776) : valP (Lib.itoa n) = n := by
 obtain ⟨u, rfl⟩ : ∃ u : Nat, n = u := ⟨n.toNat, by omega⟩
 rw [itoa_nat]
 have hl := dig_len 17 u (by omega)
 have hne : 0 < (Lib.decDigits u).length := by rw [Lib.decDigits]; split <;> simp
 have hd := val_dig u []
 rw [List.append_nil] at hd
 unfold valP
 rw [decide_eq_false (by omega), decide_eq_false (by omega)]
 simpa [valGo] using hd
def itL (x : GItem) : Str := Lib.itoa x.ID ++ 32 :: x.Name
def paL (n : Int) : Str := [112,97,114,101,110,116] ++ 32 :: Lib.itoa n
theorem itL_ne {x : GItem} (h : iOK x) : ∀ c ∈ itL x, c ≠ 10 := fun c hc => by
 rcases List.mem_append.1 hc with hc | hc
 ·exact (dig_ne h.2.2.1 c hc).1
 ·rcases List.mem_cons.1 hc with rfl | hc
  ·decide
  ·exact (h.1 c hc).1
theorem segs_items : ∀ (xs : List GItem), (∀ x ∈ xs, iOK x) → segs [] (xs.flatMap itB) = xs.map itL
 | [], _ => rfl
 | x :: r, h => by
  have hx := h x (by simp)
  rw [List.flatMap_cons, List.map_cons]
  have e : itB x ++ r.flatMap itB = itL x ++ 10 :: r.flatMap itB := by simp [itB, itL]
  rw [e, segs_app _ _ _ (itL_ne hx), segs_items r fun y hy => h y (by simp [hy])]
  rfl
theorem itP_it {x : GItem} (h : iOK x) : itP (itL x) = x := by
 unfold itP itL
 rw [pairP_app _ _ fun c hc => (dig_ne h.2.2.1 c hc).2]
 simp only
 rw [valP_itoa h.2.2.1 (by have := h.2.2.2; omega)]
theorem paL_ne {n : Int} (h : 0 ≤ n) : ∀ c ∈ paL n, c ≠ 10 := fun c hc => by
 rcases List.mem_append.1 hc with hc | hc
 ·exact (show ∀ c ∈ ([112,97,114,101,110,116] : Str), c ≠ 10 by decide) c hc
 ·rcases List.mem_cons.1 hc with rfl | hc
  ·decide
  ·exact (dig_ne h c hc).1
theorem segs_pars (t : Str) : ∀ (xs : List Int), (∀ x ∈ xs, 0 ≤ x ∧ x ≤ 1073741824) → segs [] (xs.flatMap paB ++ t) = xs.map paL ++ segs [] t
 | [], _ => rfl
 | x :: r, h => by
  rw [List.flatMap_cons, List.map_cons]
  have e : (paB x ++ r.flatMap paB) ++ t = paL x ++ 10 :: (r.flatMap paB ++ t) := by simp [paB, paL]
  rw [e, segs_app _ _ _ (paL_ne (h x (by simp)).1), segs_pars t r fun y hy => h y (by simp [hy])]
  rfl
theorem cmF_pars : ∀ (xs : List Int) (t : Int) (a : Str) (m : Int) (ps : List Int), (∀ x ∈ xs, 0 ≤ x ∧ x ≤ 1073741824) → (xs.map paL).foldl cmF (t, a, m, ps) = (t, a, m, ps ++ xs)
 | [], t, a, m, ps, _ => by simp
 | x :: r, t, a, m, ps, h => by
  obtain ⟨h1, h2⟩ := h x (by simp)
  have e : cmF (t, a, m, ps) (paL x) = (t, a, m, ps ++ [x]) := by
   unfold cmF paL
   rw [pairP_app _ _ (by decide)]
   simp only
   rw [valP_itoa h1 (by omega)]
   rfl
  rw [List.map_cons, List.foldl_cons, e, cmF_pars r t a m _ fun y hy => h y (by simp [hy])]
  simp
theorem guess_back {o : GObject} (hf : Few o) (hv : vlB o = 0) : guessP o.ID (txt o) = o := by
 obtain ⟨hid, hr⟩ := vl_id hv
 unfold guessP
 rcases ryt_of hr with ⟨k, i0, ho⟩ | ⟨k, d0, ho, ht⟩ | ⟨k, d0, i0, hc⟩
 ·obtain ⟨t0, p0, a0, m0⟩ := oth_of ho
  have et : txt o = [98,108,111,98,10] ++ o.Data := by unfold txt; rw [decide_eq_true k]; rfl
  rw [et]
  simp only [List.take_append_of_le_length (show 5 ≤ ([98,108,111,98,10] : Str).length by decide), show ([98,108,111,98,10] : Str).take 5 = [98,108,111,98,10] from rfl, decide_true, cond_true]
  cases o; simp_all
 ·obtain ⟨t0, p0, a0, m0⟩ := oth_of ho
  have et : txt o = [116,114,101,101] ++ 10 :: o.Items.flatMap itB := by unfold txt; rw [decide_eq_false (by omega), decide_eq_true k]; rfl
  have c : decide ((txt o).take 5 = [98,108,111,98,10]) = false := by rw [et]; exact decide_eq_false (by simp)
  rw [c, et, segs_app _ _ _ (by decide), segs_items _ (trA_ok ht)]
  have hl : (o.Items.map itL).length + 1 ≤ 100 := by have := hf.2.1; simp; omega
  simp only [cond_false, List.nil_append]
  rw [List.take_of_length_le (by simpa using hl)]
  simp only [decide_true, cond_true, List.map_map]
  have : o.Items.map (itP ∘ itL) = o.Items := by
   conv => rhs; rw [← List.map_id o.Items]
   exact List.map_congr_left fun x hx => itP_it (trA_ok ht x hx)
  rw [this]
  cases o; simp_all
 ·unfold coA cmB at hc
  simp only [Bool.and_eq_true, decide_eq_true_eq] at hc
  obtain ⟨hp, ⟨ht, ha⟩, m1, m2⟩ := hc
  obtain ⟨t1, t2⟩ := idB_iff ht
  have hps : ∀ x ∈ o.Parents, 0 ≤ x ∧ x ≤ 1073741824 := fun x hx => by
   obtain ⟨i, e, hq⟩ := getD_all hp hx
   unfold coB at hq
   rw [e, Bool.and_eq_true] at hq
   exact idB_iff hq.1
  have et : txt o = [99,111,109,109,105,116] ++ 10 :: (([116,114,101,101] ++ 32 :: Lib.itoa o.Tree) ++ 10 :: (o.Parents.flatMap paB ++ (([97,117,116,104,111,114] ++ 32 :: o.Author) ++ 10 :: (([116,105,109,101] ++ 32 :: Lib.itoa o.Time) ++ 10 :: [])))) := by
   unfold txt; rw [decide_eq_false (by omega), decide_eq_false (by omega)]; simp
  have k1 : ∀ c ∈ ([116,114,101,101] ++ 32 :: Lib.itoa o.Tree : Str), c ≠ 10 := fun c hc => by
   rcases List.mem_append.1 hc with hc | hc
   ·exact (show ∀ c ∈ ([116,114,101,101] : Str), c ≠ 10 by decide) c hc
   ·rcases List.mem_cons.1 hc with rfl | hc
    ·decide
    ·exact (dig_ne t1 c hc).1
  have k2 : ∀ c ∈ ([97,117,116,104,111,114] ++ 32 :: o.Author : Str), c ≠ 10 := fun c hc => by
   rcases List.mem_append.1 hc with hc | hc
   ·exact (show ∀ c ∈ ([97,117,116,104,111,114] : Str), c ≠ 10 by decide) c hc
   ·rcases List.mem_cons.1 hc with rfl | hc
    ·decide
    ·exact (nm_ne ha c hc).1
  have k3 : ∀ c ∈ ([116,105,109,101] ++ 32 :: Lib.itoa o.Time : Str), c ≠ 10 := fun c hc => by
   rcases List.mem_append.1 hc with hc | hc
   ·exact (show ∀ c ∈ ([116,105,109,101] : Str), c ≠ 10 by decide) c hc
   ·rcases List.mem_cons.1 hc with rfl | hc
    ·decide
    ·exact (dig_ne m1 c hc).1
  have c : decide ((txt o).take 5 = [98,108,111,98,10]) = false := by rw [et]; exact decide_eq_false (by simp)
  rw [c, et, segs_app _ _ _ (by decide), segs_app _ _ _ k1, segs_pars _ _ hps, segs_app _ _ _ k2, segs_app _ _ _ k3]
  simp only [cond_false, List.nil_append, segs]
  have hl := hf.2.2.1
  rw [List.take_of_length_le (by simp; omega)]
  have f1 : ∀ x : Int × Str × Int × List Int, cmF x ([116,114,101,101] ++ 32 :: Lib.itoa o.Tree) = (o.Tree, x.2.1, x.2.2.1, x.2.2.2) := fun x => by
   unfold cmF
   rw [pairP_app _ _ (by decide)]
   simp only
   rw [valP_itoa t1 (by omega)]
   rfl
  have f2 : ∀ x : Int × Str × Int × List Int, cmF x ([97,117,116,104,111,114] ++ 32 :: o.Author) = (x.1, o.Author, x.2.2.1, x.2.2.2) := fun x => by
   unfold cmF
   rw [pairP_app _ _ (by decide)]
   rfl
  have f3 : ∀ x : Int × Str × Int × List Int, cmF x ([116,105,109,101] ++ 32 :: Lib.itoa o.Time) = (x.1, x.2.1, o.Time, x.2.2.2) := fun x => by
   unfold cmF
   rw [pairP_app _ _ (by decide)]
   simp only
   rw [valP_itoa m1 m2]
   rfl
  simp only [show decide (([99,111,109,109,105,116] : Str) = [116,114,101,101]) = false by decide, cond_false, List.foldl_cons, List.foldl_append, f1, f2, f3, List.foldl_nil, cmF_pars _ _ _ _ _ hps, List.nil_append]
  cases o; simp_all
theorem rvalid_any {o : GObject} (hn : Lng o) (ha : (o.Author.length : Int) ≤ 9223372036854775807) : F_m o = some (vlB o) := by
 by_cases hl : o.Items.length ≤ 64 ∧ o.Parents.length ≤ 8
 ·unfold F_m vlB
  rw [rid_eq, rtree_eq (by omega) hn, rcommit_eq (by omega) ha]
  simp only [grp, jn, Option.bind_some, F_2m]
  unfold ryt
  have key : ∀ b : Bool, o.Kind = 1 → decide (o.Kind = 2) = false ∧ decide (o.Kind = 3) = false := fun b k => ⟨decide_eq_false (by omega), decide_eq_false (by omega)⟩
  by_cases k1 : o.Kind = 1
  ·rw [(key true k1).1, (key true k1).2, decide_eq_true k1]
   simp only [oth]
   cases idB o.ID <;> cases decide (65536 < (o.Data.length : Int)) <;> cases decide (64 < (o.Items.length : Int)) <;> cases decide (8 < (o.Parents.length : Int)) <;> cases decide (o.Tree = 0) <;> cases decide ((o.Parents.length : Int) = 0) <;> cases decide (o.Author = []) <;> cases decide (o.Time = 0) <;> cases decide ((o.Items.length : Int) = 0) <;> rfl
  ·by_cases k2 : o.Kind = 2
   ·have k3 : ¬ o.Kind = 3 := by omega
    rw [decide_eq_false k1, decide_eq_true k2, decide_eq_false k3]
    simp only [oth, trA]
    generalize (List.range' 0 o.Items.length).all (trB o.Items) = b
    cases idB o.ID <;> cases decide (65536 < (o.Data.length : Int)) <;> cases decide (64 < (o.Items.length : Int)) <;> cases decide (8 < (o.Parents.length : Int)) <;> cases decide (o.Tree = 0) <;> cases decide ((o.Parents.length : Int) = 0) <;> cases decide (o.Author = []) <;> cases decide (o.Time = 0) <;> cases decide ((o.Data.length : Int) = 0) <;> cases b <;> rfl
   ·by_cases k3 : o.Kind = 3
    ·rw [decide_eq_false k1, decide_eq_false k2, decide_eq_true k3]
     simp only [coA]
     generalize (List.range' 0 o.Parents.length).all (coB o.Parents) = b
     cases idB o.ID <;> cases decide (65536 < (o.Data.length : Int)) <;> cases decide (64 < (o.Items.length : Int)) <;> cases decide (8 < (o.Parents.length : Int)) <;> cases decide ((o.Items.length : Int) = 0) <;> cases decide ((o.Data.length : Int) = 0) <;> cases b <;> cases idB o.Tree <;> cases nmB o.Author <;> cases cmB o <;> rfl
    ·rw [decide_eq_false k1, decide_eq_false k2, decide_eq_false k3]
     cases idB o.ID <;> cases decide (65536 < (o.Data.length : Int)) <;> cases decide (64 < (o.Items.length : Int)) <;> cases decide (8 < (o.Parents.length : Int)) <;> rfl
 ·unfold F_m vlB
  rw [rid_eq]
  simp only [grp, Option.bind_some]
  rw [lim_of_big hl]
  cases idB o.ID <;> rfl
theorem lng_of {o : GObject} (hv : vlB o = 0) : Lng o ∧ (o.Author.length : Int) ≤ 9223372036854775807 := by
 rcases ryt_of (vl_id hv).2 with ⟨_, i0, ho⟩ | ⟨_, _, ho, ht⟩ | ⟨_, _, i0, hc⟩
 ·exact ⟨(fun x hx => by rw [i0] at hx; cases hx), by rw [(oth_of ho).2.2.1]; simp⟩
 ·refine ⟨fun x hx => ?_, by rw [(oth_of ho).2.2.1]; simp⟩
  have := (trA_ok ht x hx).2.1
  omega
 ·refine ⟨(fun x hx => by rw [i0] at hx; cases hx), ?_⟩
  unfold coA at hc
  simp only [Bool.and_eq_true] at hc
  have := nmB_len hc.2.1.2
  omega
theorem rparse_back2 {o : GObject} (hf : Few o) (hv : vlB o = 0) (hx : (txt o).length ≤ 1000000) : F_15 o.ID (txt o) = some (o, 0) := by
 unfold F_15
 have hid := (vl_id hv).1
 have hg := guess_back hf hv
 obtain ⟨h1, h2⟩ := lng_of hv
 rw [rid_eq, hid, guess_eq hx, hg]
 simp only [Option.bind_some, Bool.not_true, cond_false]
 rw [rvalid_any h1 h2, hv, (write_txt hf (vl_VO hv)).2]
 simp only [Option.bind_some, decide_true, Bool.not_true, cond_false]
end Go.Ab
namespace Go.Ab
theorem aget_aput {β : Type} (q k : Int) (v : β) : ∀ m : List (Int × β), aget q (aput k v m) = if q = k then some v else aget q m
 | [] => by by_cases e : q = k <;> simp [aput, aget, e]
 | (a, b) :: r => by
  by_cases e : k = a
  ·subst e
   by_cases e2 : q = k <;> simp [aput, aget, e2]
  ·simp only [aput, if_neg e, aget, aget_aput q k v r]
   by_cases e2 : q = a
   ·subst e2
    have : ¬ q = k := fun h => e h.symm
    simp [this]
   ·simp [e2]
theorem forL_push {α β ρ : Type} {body : Int → α → List β → Option (Fl (List β) ρ)} {f : Nat → β} : ∀ (xs : List α) (k : Nat) (out : List β), (∀ i (h : i < xs.length) (out' : List β), out'.length = k + i → body ((k + i : Nat) : Int) xs[i] out' = some (.nx (out' ++ [f (k + i)]))) → out.length = k →
  forL body xs k out = some (.nx (out ++ (List.range' k xs.length).map f))
 | [], k, out, _, _ => by simp [forL]
 | x :: r, k, out, h, hk => by
  have h0 := h 0 (by simp) out (by simpa using hk)
  simp only [Nat.add_zero, List.getElem_cons_zero] at h0
  have := forL_push r (k + 1) (out ++ [f k]) (fun i hi out' ho => by
   have := h (i + 1) (by simpa using hi) out' (by omega)
   rw [show k + 1 + i = k + (i + 1) by omega]
   simpa using this) (by simp [hk])
  simp only [forL, h0, Option.bind_some, List.length_cons, List.range'_succ, List.map_cons]
  simpa [Fl.elim] using this
structure PK (l : List GPacked) (d : Nat → Nat) (bt : Nat → Str) : Prop where
 len : l.length ≤ 400
 id : ∀ i (h : i < l.length), idB l[i].ID = true
 inj : ∀ i j (hi : i < l.length) (hj : j < l.length), l[i].ID = l[j].ID → i = j
 ent : ∀ i (h : i < l.length), (l[i].Delta = false ∧ l[i].Base = 0 ∧ l[i].Ops = [] ∧ d i = 0 ∧ l[i].Data = bt i) ∨
  (l[i].Delta = true ∧ l[i].Data = [] ∧ ∃ j, ∃ hj : j < l.length, l[j].ID = l[i].Base ∧ d i = d j + 1 ∧ F_j (bt j) l[i].Ops = some (bt i, 0))
 dep : ∀ i, i < l.length → d i ≤ 20 ∧ d i ≤ l.length
 sm : ∀ i, i < l.length → (bt i).length ≤ 1000000
section
variable {l : List GPacked} {d : Nat → Nat} {bt : Nat → Str}
theorem places_ok (hl : l.length ≤ 100000) (h : ∀ i j (hi : i < l.length) (hj : j < l.length), l[i].ID = l[j].ID → i = j) : ∃ m, F_f l = some (m, true) ∧ ∀ i (hi : i < l.length), aget l[i].ID m = some (i : Int) := by
 have key : Ok (F_f l) fun y => y.2 = true ∧ ∀ i (hi : i < l.length), aget l[i].ID y.1 = some (i : Int) := by
  unfold F_f
  refine Ok.bind (Ok.foldI (all := l) (Q := fun s : Bool × List (Int × Int) => s.1 = true ∧ ∀ i (hi : i < l.length), aget l[i].ID s.2 = some (i : Int)) (fun pre s => s.1 = true ∧ (∀ i (hi : i < pre.length), aget pre[i].ID s.2 = some (i : Int)) ∧ ∀ q, (∀ x ∈ pre, x.ID ≠ q) → aget q s.2 = none) l [] 0 (true, []) rfl rfl ⟨rfl, fun i hi => absurd hi (by simp), fun q _ => rfl⟩ (fun pre x r s hw hs => ?_) fun s hs => ⟨hs.1, hs.2.1⟩) fun s hs => Ok.ret hs
  obtain ⟨h1, h2, h3⟩ := hs
  have hp : pre.length < l.length := by rw [hw]; simp
  have hx : l[pre.length] = x := by simp [hw]
  have hpre : ∀ i (hi : i < pre.length), l[i]'(by omega) = pre[i] := fun i hi => by simp only [hw]; exact List.getElem_append_left hi
  have hno : ∀ y ∈ pre, y.ID ≠ x.ID := fun y hy e => by
   obtain ⟨i, hi, rfl⟩ := List.getElem_of_mem hy
   have := h i pre.length (by omega) hp (by rw [hpre i hi, hx]; exact e)
   omega
  unfold F_39
  rw [h3 _ hno]
  simp only [Option.isSome_none, cond_false, jn, Option.bind_some]
  refine Ok.ret ⟨h1, fun i hi => ?_, fun q hq => ?_⟩
  ·simp only [aget_aput]
   by_cases hi' : i < pre.length
   ·rw [List.getElem_append_left hi', if_neg (hno _ (List.getElem_mem hi'))]
    exact h2 i hi'
   ·have : i = pre.length := by simp at hi; omega
    subst this
    simp
  ·simp only [aget_aput]
   have h4 := hq x (by simp)
   rw [if_neg fun e => h4 e.symm]
   exact h3 q fun y hy => hq y (by simp [hy])
 obtain ⟨y, e, h1, h2⟩ := key
 exact ⟨y.1, by rw [e, ← h1], h2⟩
theorem chain_go (h : PK l d bt) {m : List (Int × Int)} (hm : ∀ i (hi : i < l.length), aget l[i].ID m = some (i : Int)) : ∀ (k i n : Nat) (hi : i < l.length), d i = k → n + k ≤ l.length →
  loop (F_12 l m) (l[i].ID, (n : Int)) = some (.inr ((n + k : Nat) : Int))
 | k, i, n, hi, hk, hn => by
  have hlen := h.len
  have c1 : decide ((n : Int) ≤ (l.length : Int)) = true := decide_eq_true (by omega)
  have c2 : inb (i : Int) l.length = true := kB hi
  have c3 : in64 ((n : Int) + 1) = true := in64_iff.2 ⟨by omega, by omega⟩
  have c4 : decide ((i : Int) < 0) = false := decide_eq_false (by omega)
  have e1 : ((i : Int)).toNat = i := by simp
  have e2 : l.getD i default = l[i] := by simp [hi]
  rcases h.ent i hi with ⟨a1, a2, a3, a4, a5⟩ | ⟨a1, a2, j, hj, a3, a4, a5⟩
  ·have : k = 0 := by omega
   subst this
   have key : F_12 l m (l[i].ID, (n : Int)) = some (.ex (.inr (n : Int))) := by
    unfold F_12 grp
    simp only
    rw [hm i hi]
    simp only [Option.isSome_some, Option.getD_some]
    rw [c1, c2, c4, e1, e2, a1]
    rfl
   rw [loop_eq, key]; rfl
  ·obtain ⟨k, rfl⟩ : ∃ q, k = q + 1 := ⟨d j, by omega⟩
   have key : F_12 l m (l[i].ID, (n : Int)) = some (.nx (l[i].Base, (n : Int) + 1)) := by
    unfold F_12 grp
    simp only
    rw [hm i hi]
    simp only [Option.isSome_some, Option.getD_some]
    rw [c1, c2, c3, c4, e1, e2, a1]
    rfl
   have ih := chain_go h hm k j (n + 1) hj (by omega) (by omega)
   rw [loop_eq, key, ← a3]
   refine Eq.trans ih ?_
   congr 3; omega
theorem chain_ok (h : PK l d bt) {m : List (Int × Int)} (hm : ∀ i (hi : i < l.length), aget l[i].ID m = some (i : Int)) {i : Nat} (hi : i < l.length) : F_q l m l[i].ID = some (d i : Int) := by
 have := chain_go h hm (d i) i 0 hi rfl (by have := (h.dep i hi).2; omega)
 unfold F_q
 simp only [Int.natCast_zero, Nat.zero_add] at this
 rw [this]; rfl
theorem right_ok (h : PK l d bt) {i : Nat} (hi : i < l.length) : F_c l[i] = some false := by
 unfold F_c F_2c
 rw [number_eq, h.id i hi]
 rcases h.ent i hi with ⟨a1, a2, a3, a4, a5⟩ | ⟨a1, a2, _⟩
 ·rw [a1, a2, a3]; rfl
 ·rw [a1, a2]; rfl
theorem none_bad (h : PK l d bt) : F_18 l = some false := by
 unfold F_18 F_2d
 rw [forL_all0 (p := fun _ => true) (r := 0) l fun i hi => by
  unfold F_3a
  rw [right_ok h hi]; rfl]
 rw [List.all_eq_true.2 fun _ _ => rfl]
 rfl
theorem max_ok {x : List Int} {b : Int} (h0 : 0 < x.length) (hl : x.length ≤ 100000) (h : ∀ z ∈ x, z ≤ b) : Ok (F_19 x) fun y => y ≤ b := by
 have get : ∀ i : Nat, i < x.length → x.getD i default ≤ b := fun i hi => by
  have e : x.getD i default = x[i] := by simp [hi]
  rw [e]; exact h _ (List.getElem_mem hi)
 unfold F_19
 rw [decide_eq_false (by omega)]
 simp only [cond_false]
 refine Ok.chk (inb_iff.2 ⟨by omega, by omega⟩) (Ok.bind (Ok.loop (Q := fun y => y ≤ b) (fun s : Int × Int => s.1 ≤ b ∧ 0 ≤ s.2) (fun s => (x.length - s.2).toNat) (fun s hs => ?_) _ ⟨get 0 h0, by simp only; omega⟩) fun y hy => Ok.ret hy)
 unfold F_3y
 refine Ok.ite (fun c => ?_) fun _ => Ok.ret hs.1
 have c := of_decide_eq_true c
 refine Ok.chk (inb_iff.2 ⟨hs.2, c⟩) (Ok.chk (in64_iff.2 ⟨by have := hs.2; omega, by omega⟩) (Ok.ret ⟨⟨?_, by have := hs.2; simp only; omega⟩, by simp only; omega⟩))
 exact Int.max_le.2 ⟨hs.1, get _ (by have := hs.2; omega)⟩
theorem check_ok (h : PK l d bt) {m : List (Int × Int)} (hm : ∀ i (hi : i < l.length), aget l[i].ID m = some (i : Int)) : F_1a l m true = some 0 := by
 have hlen := h.len
 refine Ok.eq ?_
 unfold F_1a
 rw [none_bad h]
 simp only [Option.bind_some, cond_false, Bool.not_true]
 refine Ok.chk (roomI_iff.2 ⟨by omega, by omega, by omega⟩) ?_
 refine Ok.bind (Ok.foldI (all := l) (Q := fun s : List Int => s.length = l.length ∧ ∀ i, i < l.length → s.getD i 0 = (d i : Int)) (fun pre s => s.length = l.length ∧ ∀ i, i < pre.length → s.getD i 0 = (d i : Int)) l [] 0 _ rfl rfl ⟨by simp, fun i hi => absurd hi (by simp)⟩ (fun pre x r s hw hs => ?_) fun s hs => hs) fun s hs => ?_
 ·have hp : pre.length < l.length := by rw [hw]; simp
  have hx : l[pre.length] = x := by simp [hw]
  unfold F_3b
  rw [← hx, chain_ok h hm hp]
  refine Ok.chk (kB (by rw [hs.1]; exact hp)) (Ok.ret ⟨by simp [hs.1], fun i hi => ?_⟩)
  simp only [Int.toNat_natCast, List.getD_eq_getElem?_getD, List.getElem?_set]
  by_cases e : pre.length = i
  ·subst e
   simp [hs.1, hp]
  ·rw [if_neg e]
   have := hs.2 i (by simp at hi; omega)
   rwa [List.getD_eq_getElem?_getD] at this
 ·obtain ⟨s1, s2⟩ := hs
  have hz : ∀ z ∈ s, 0 ≤ z ∧ z ≤ 20 := fun z hz => by
   obtain ⟨i, hi, rfl⟩ := List.getElem_of_mem hz
   have e := s2 i (by omega)
   have e2 : s.getD i 0 = s[i] := by simp [hi]
   have := (h.dep i (by omega)).1
   rw [e2] at e
   omega
  have no : ∀ v : Int, v < 0 → s.any (fun z => decide (v = z)) = false := fun v hv => by
   rw [List.any_eq_false]
   intro z h1 h2
   have := hz z h1
   have := of_decide_eq_true h2
   omega
  rw [contains_eq, contains_eq, no _ (by omega), no _ (by omega)]
  simp only [Option.bind_some, cond_false]
  refine Ok.jn (P := fun b => b = false) (Ok.ite (fun c => ?_) fun _ => Ok.ret rfl) fun b hb => by subst hb; exact Ok.ret rfl
  have c := of_decide_eq_true c
  refine Ok.bind (max_ok (b := 20) (by omega) (by omega) fun z h1 => (hz z h1).2) fun y hy => Ok.ret (decide_eq_false (by omega))
theorem clone_eq {s : Str} (h : s.length ≤ 1000000) : F_r s = some s := by
 unfold F_r
 rw [List.nil_append, room_iff.2 (by simp; omega)]
 rw [amb_eq (c := s.isEmpty) fun hc => by cases s with
  | nil => rfl
  | cons a r => cases hc]
 rfl
theorem bytes_ev (h : PK l d bt) {m : List (Int × Int)} (hm : ∀ i (hi : i < l.length), aget l[i].ID m = some (i : Int)) : ∀ (k i : Nat) (hi : i < l.length), d i = k → EvS (fun n => FR_2 n l m (i : Int)) (bt i, true)
 | k, i, hi, hk => by
  have c2 : inb (i : Int) l.length = true := kB hi
  have e1 : ((i : Int)).toNat = i := by simp
  have e2 : l.getD i default = l[i] := by simp [hi]
  rcases h.ent i hi with ⟨a1, a2, a3, a4, a5⟩ | ⟨a1, a2, j, hj, a3, a4, a5⟩
  ·refine ⟨1, fun n hn => ?_⟩
   obtain ⟨n, rfl⟩ : ∃ q, n = q + 1 := ⟨n - 1, by omega⟩
   simp only [FR_2]
   rw [c2, e1, e2, a1, a5, clone_eq (h.sm i hi)]
   rfl
  ·obtain ⟨k, rfl⟩ : ∃ q, k = q + 1 := ⟨d j, by omega⟩
   obtain ⟨n0, hn0⟩ := bytes_ev h hm k j hj (by omega)
   refine ⟨n0 + 1, fun n hn => ?_⟩
   obtain ⟨n, rfl⟩ : ∃ q, n = q + 1 := ⟨n - 1, by omega⟩
   have ih := hn0 n (by omega)
   simp only at ih
   simp only [FR_2]
   rw [c2, e1, e2, a1, ← a3, hm j hj]
   simp only [Option.getD_some, ih, Option.bind_some, a5]
   rfl
theorem pbytes_ok (h : PK l d bt) {m : List (Int × Int)} (hm : ∀ i (hi : i < l.length), aget l[i].ID m = some (i : Int)) {i : Nat} (hi : i < l.length) : F_2 l m (i : Int) = some (bt i, true) :=
 lim_of (bytes_ev h hm (d i) i hi rfl)
theorem resolve_ok (h : PK l d bt) {ob : Nat → GObject} (ho : ∀ i (hi : i < l.length), F_k l[i].ID (bt i) = some (ob i, 0)) : F_1n l = some ((List.range' 0 l.length).map ob, 0) := by
 have hlen := h.len
 obtain ⟨m, e, hm⟩ := places_ok (by omega) h.inj
 unfold F_1n
 rw [decide_eq_false (by omega), e]
 simp only [cond_false, Option.bind_some]
 rw [check_ok h hm]
 simp only [Option.bind_some, decide_true, Bool.not_true, cond_false]
 have h1 := forL_push (body := F_2k l (m, true)) (f := bt) l 0 [] (fun i hi out ho => by
  unfold F_2k
  simp only [Nat.zero_add]
  rw [pbytes_ok h hm hi]
  simp only [Option.bind_some, Bool.not_true, cond_false]
  rw [room_iff.2 (by simp; omega)]
  rfl) rfl
 simp only [Int.natCast_zero, List.nil_append] at h1
 rw [h1]
 simp only [Option.bind_some, Fl.elim]
 have hl2 : ((List.range' 0 l.length).map bt).length = l.length := by simp
 have h2 := forL_push (body := F_2l l) (f := ob) ((List.range' 0 l.length).map bt) 0 [] (fun i hi out hout => by
  have hi' : i < l.length := by omega
  unfold F_2l
  simp only [Nat.zero_add]
  have e1 : ((i : Int)).toNat = i := by simp
  have e2 : l.getD i default = l[i] := by simp [hi']
  have e3 : ((List.range' 0 l.length).map bt)[i] = bt i := by simp
  rw [kB hi', e1, e2, e3, ho i hi']
  simp only [chk, cond_true, Option.bind_some, decide_true, Bool.not_true, cond_false]
  rw [room_iff.2 (by simp; omega)]
  rfl) rfl
 simp only [Int.natCast_zero, List.nil_append, hl2] at h2
 rw [h2]
 rfl
theorem Chain_ok (h : PK l d bt) {i : Nat} (hi : i < l.length) : F_13 l l[i].ID = some (d i : Int) := by
 obtain ⟨m, e, hm⟩ := places_ok (by have := h.len; omega) h.inj
 unfold F_13
 rw [e]
 simp only [Option.bind_some]
 rw [chain_ok h hm hi]
 simp only [Option.bind_some]
 congr 1
 omega
end
end Go.Ab
namespace Go.Ab
theorem rsame_refl {a : GObject} (h : a.Items.length ≤ 100000) (h2 : a.Parents.length ≤ 100000) : F_1y a a = some true := by
 unfold F_1y
 simp only [decide_true, Bool.not_true, Bool.or_self, grp, cond_false, jn, Option.bind_some, Fl.elim]
 rw [loop_all0 (p := fun _ => true) (r := false) (n := a.Items.length) (by unfold F_3m; rw [dlt]; rfl) fun i hi => by
  have e : ((i : Int)).toNat = i := by simp
  have c : decide ((i : Int) < (a.Items.length : Int)) = true := by simpa using hi
  have c2 : inb (i : Int) a.Items.length = true := kB hi
  have c3 : in64 ((i : Int) + 1) = true := in64_iff.2 ⟨by omega, by omega⟩
  unfold F_3m
  rw [c, c2, c3, e]
  simp only [decide_true, Bool.and_self, Bool.not_true]; rfl]
 rw [List.all_eq_true.2 fun _ _ => rfl]
 simp only [cond_true, Option.bind_some, Sum.elim_inl]
 rw [loop_all0 (p := fun _ => true) (r := false) (n := a.Parents.length) (by unfold F_3n; rw [dlt]; rfl) fun i hi => by
  have e : ((i : Int)).toNat = i := by simp
  have c : decide ((i : Int) < (a.Parents.length : Int)) = true := by simpa using hi
  have c2 : inb (i : Int) a.Parents.length = true := kB hi
  have c3 : in64 ((i : Int) + 1) = true := in64_iff.2 ⟨by omega, by omega⟩
  unfold F_3n
  rw [c, c2, c3, e]
  simp only [decide_true, Bool.not_true]; rfl]
 rw [List.all_eq_true.2 fun _ _ => rfl]
 rfl
def opOK (n : Nat) (o : GOp) : Prop := (o.Size = 0 ∧ o.From = 0 ∧ 0 < o.Data.length) ∨ (0 < o.Size ∧ 0 ≤ o.From ∧ o.Data = [] ∧ o.From + o.Size ≤ n)
def opN (o : GOp) : Int := bif decide (o.Size < 1) then (o.Data.length : Int) else o.Size
def opB (base : Str) (o : GOp) : Str := (base.take (o.From + o.Size).toNat).drop o.From.toNat ++ o.Data
theorem opN_nn {n : Nat} {o : GOp} (h : opOK n o) : 0 ≤ opN o := by
 unfold opN
 rcases h with ⟨h1, h2, h3⟩ | ⟨h1, h2, h3, h4⟩
 ·rw [h1]; exact Int.natCast_nonneg _
 ·rw [decide_eq_false (by omega)]; simp only [cond_false]; omega
theorem sizes_go {n : Nat} : ∀ (ops : List GOp) (k left : Int), (∀ o ∈ ops, opOK n o) → 0 ≤ left → left ≤ 65536 → (ops.map opN).sum ≤ left → ∃ x, forL F_1d ops k left = some (.nx x)
 | [], k, left, _, _, _, _ => ⟨left, rfl⟩
 | o :: r, k, left, h, h0, h1, hs => by
  have hn := opN_nn (h o (by simp))
  have hr : 0 ≤ (r.map opN).sum := by
   have : ∀ q : List GOp, (∀ o ∈ q, opOK n o) → 0 ≤ (q.map opN).sum := fun q => by
    induction q with
    | nil => intro _; simp
    | cons y q ih => intro hq; have := opN_nn (hq y (by simp)); have := ih fun o ho => hq o (by simp [ho]); simp only [List.map_cons, List.sum_cons]; omega
   exact this r fun o ho => h o (by simp [ho])
  simp only [List.map_cons, List.sum_cons] at hs
  have hb : F_1d k o left = some (.nx (left - opN o)) := by
   unfold F_1d
   have e : (bif decide (o.Size < 1) then some (o.Data.length : Int) else some o.Size) = some (opN o) := by
    unfold opN; cases decide (o.Size < 1) <;> rfl
   rw [e]
   simp only [jn, Option.bind_some]
   rw [decide_eq_false (by omega)]
   simp only [cond_false, chk]
   rw [in64_iff.2 ⟨by omega, by omega⟩]; rfl
  obtain ⟨x, hx⟩ := sizes_go r (k + 1) (left - opN o) (fun o ho => h o (by simp [ho])) (by omega) (by omega) (by omega)
  exact ⟨x, by simp only [forL, hb, Option.bind_some, Fl.elim]; exact hx⟩
theorem fits_ok {o : GOp} {n : Nat} (h : opOK n o) (hn : n ≤ 1000000) : F_1b o (n : Int) = some true := by
 unfold F_1b F_h
 rcases h with ⟨h1, h2, h3⟩ | ⟨h1, h2, h3, h4⟩
 ·rw [h1, h2, decide_eq_true (show (0 : Int) < (o.Data.length : Int) by omega)]; rfl
 ·rw [decide_eq_false (show ¬ o.Size = 0 by omega), decide_eq_true h1, decide_eq_true h2, h3, decide_eq_true (show o.From ≤ (n : Int) by omega), decide_eq_true (show o.Size ≤ (n : Int) - o.From by omega), in64_iff.2 ⟨by omega, by omega⟩]
  rfl
theorem apply_ops {base : Str} {ops : List GOp} (h : ∀ o ∈ ops, opOK base.length o) (hl : ops.length ≤ 200) (hb : base.length ≤ 65536) (hs : (ops.map opN).sum ≤ 65536) : F_j base ops = some (ops.flatMap (opB base),0) := by
 have hc : F_1e base ops = some 0 := by
  obtain ⟨x, hx⟩ := sizes_go ops 0 65536 h (by omega) (by omega) hs
  unfold F_1e
  rw [decide_eq_false (by omega), decide_eq_false (by omega)]
  simp only [Bool.or_self, grp, cond_false]
  rw [hx]
  simp only [Option.bind_some, Fl.elim]
  have : F_1c ops base = some false := by
   unfold F_1c F_2g
   rw [forL_all0 (p := fun _ => true) (r := 0) ops fun i hi => by
    unfold F_3c F_i
    rw [fits_ok (h _ (List.getElem_mem hi)) (by omega)]; rfl]
   rw [List.all_eq_true.2 fun _ _ => rfl]
   rfl
  rw [this]; rfl
 have hlen : ∀ q : List GOp, (∀ o ∈ q, opOK base.length o) → ((q.flatMap (opB base)).length : Int) ≤ (q.map opN).sum := fun q => by
  induction q with
  | nil => intro _; simp
  | cons y q ih =>
   intro hq
   have h1 := ih fun o ho => hq o (by simp [ho])
   simp only [List.flatMap_cons, List.map_cons, List.sum_cons, List.length_append, opB, opN]
   rcases hq y (by simp) with ⟨a1, a2, a3⟩ | ⟨a1, a2, a3, a4⟩
   ·rw [a1, a2]; simp only [Int.add_zero, Int.toNat_zero, List.take_zero, List.drop_nil, List.length_nil, show decide ((0 : Int) < 1) = true from rfl, cond_true]; omega
   ·rw [decide_eq_false (show ¬ y.Size < 1 by omega), a3]
    simp only [List.length_drop, List.length_take, List.length_nil, cond_false]; omega
 unfold F_j
 rw [hc]
 simp only [Option.bind_some, decide_true, Bool.not_true, cond_false]
 have go : ∀ (q : List GOp) (k : Int) (out : Str), (∀ o ∈ q, opOK base.length o) → (out.length : Int) + (q.map opN).sum ≤ 65536 → foldL (F_1f base) q k out = some (out ++ q.flatMap (opB base)) := fun q => by
  induction q with
  | nil => intro k out _ _; simp [foldL]
  | cons y q ih =>
   intro k out hq ho
   have hy := hq y (by simp)
   have hr : 0 ≤ (q.map opN).sum := Int.le_trans (Int.natCast_nonneg _) (hlen q fun o ho => hq o (by simp [ho]))
   have hyl : ((opB base y).length : Int) ≤ opN y := by
    have := hlen [y] (fun o ho => by simp at ho; subst ho; exact hy)
    simpa using this
   simp only [List.map_cons, List.sum_cons] at ho
   have hsz : 0 ≤ y.From ∧ 0 ≤ y.From + y.Size ∧ y.From ≤ y.From + y.Size ∧ y.From + y.Size ≤ base.length := by
    rcases hy with ⟨a1, a2, a3⟩ | ⟨a1, a2, a3, a4⟩ <;> omega
   have key : F_1f base k y out = some (out ++ opB base y) := by
    unfold F_1f
    have hq1 : (opB base y).length = ((base.take (y.From + y.Size).toNat).drop y.From.toNat).length + y.Data.length := by simp only [opB, List.length_append]
    rw [in64_iff.2 ⟨by omega, by omega⟩, inc_iff.2 ⟨hsz.1, hsz.2.2.1, hsz.2.2.2⟩, room_iff.2 (by omega), room_iff.2 (by rw [List.length_append]; omega)]
    simp only [chk, cond_true, opB, List.append_assoc]
   simp only [foldL, key, Option.bind_some]
   rw [ih (k + 1) (out ++ opB base y) (fun o ho => hq o (by simp [ho])) (by rw [List.length_append]; omega)]
   simp
 rw [go ops 0 [] h (by simpa using hs)]
 simp
theorem flatS_len {α : Type} {f : α → Str} {k : Nat} : ∀ xs : List α, (∀ x ∈ xs, (f x).length ≤ k) → (xs.flatMap f).length ≤ k * xs.length
 | [], _ => by simp
 | x :: q, h => by
  have := h x (by simp)
  have := flatS_len q fun x hx => h x (by simp [hx])
  simp only [List.flatMap_cons, List.length_append, List.length_cons, Nat.mul_add]; omega
theorem txt_len {o : GObject} (hf : Few o) (h : VO o) : 5 ≤ (txt o).length ∧ (txt o).length ≤ 20000 := by
 obtain ⟨f1, f2, f3, f4⟩ := hf
 rcases h with k | ⟨k, hi⟩ | ⟨k, hp, t1, t2, a1, m1, m2⟩
 ·unfold txt; rw [decide_eq_true k]; simp; omega
 ·have := flatS_len (f := itB) (k := 100) o.Items fun x hx => by
   have h1 := hi x hx
   have h2 := itoa_sm h1.2.1 (by omega)
   simp [itB]; omega
  unfold txt; rw [decide_eq_false (by omega), decide_eq_true k]
  simp only [cond_true, cond_false, List.length_append, List.length_cons, List.length_nil]; omega
 ·have := flatS_len (f := paB) (k := 100) o.Parents fun x hx => by
   have h1 := hp x hx
   have h2 := itoa_sm h1.1 (by omega)
   simp [paB]; omega
  have ht := itoa_sm t1 (by omega)
  have hm := itoa_sm m1 (by omega)
  unfold txt; rw [decide_eq_false (by omega), decide_eq_false (by omega)]
  simp only [cond_true, cond_false, List.length_append, List.length_cons, List.length_nil]; omega
theorem pk_two {p q : Int} {b c : Str} {ops : List GOp} (hp : idB p = true) (hq : idB q = true) (hne : p ≠ q) (hb : b.length ≤ 1000000) (hc : c.length ≤ 1000000) (ha : F_j b ops = some (c, 0)) :
  PK [GPacked.mk p false 0 [] b, GPacked.mk q true p ops []] (fun i => i) (fun i => bif decide (i = 0) then b else c) := by
 refine ⟨by simp, fun i h => ?_, fun i j hi hj e => ?_, fun i h => ?_, fun i h => ?_, fun i h => ?_⟩
 ·match i, h with
  | 0, _ => exact hp
  | 1, _ => exact hq
  | i + 2, h => simp at h; omega
 ·match i, j, hi, hj with
  | 0,0, _, _ => rfl
  | 1,1, _, _ => rfl
  | 0,1, _, _ => exact absurd e hne
  | 1,0, _, _ => exact absurd e.symm hne
  | i + 2, _, h, _ => simp at h; omega
  | _, j + 2, _, h => simp at h; omega
 ·match i, h with
  | 0, _ => exact .inl ⟨rfl, rfl, rfl, rfl, rfl⟩
  | 1, _ => exact .inr ⟨rfl, rfl, 0, by simp, rfl, rfl, ha⟩
  | i + 2, h => simp at h; omega
 ·match i, h with
  | 0, _ => simp
  | 1, _ => simp
  | i + 2, h => simp at h; omega
 ·match i, h with
  | 0, _ => exact hb
  | 1, _ => exact hc
  | i + 2, h => simp at h; omega
end Go.Ab
namespace Go.Ab
def GL (n : Int) (l : List GObject) : Prop := (∀ x ∈ l, GV x ∧ idB x.ID = true) ∧ (∀ i (h : i < l.length), l[i].ID = (i : Int) + 1) ∧ n = l.length
theorem GL.nil : GL 0 [] := ⟨by simp, by simp, by simp⟩
theorem add_okL {o : GObject} {n : Int} {r : GRepository} (h0 : 0 ≤ n) (hn : n ≤ 1000) (hr : r.Objects.length ≤ 1000) (ho : GV o) (hall : GL n r.Objects) :
  Ok (F_7 o n r) fun y => y.1 = n + 1 ∧ y.2.1 = n + 1 ∧ (y.2.2.Objects.length : Int) = r.Objects.length + 1 ∧ GL y.2.1 y.2.2.Objects := by
 obtain ⟨g1, g2, g3⟩ := hall
 unfold F_7
 refine Ok.chk (sm64 (by omega) (by omega)) (Ok.chk (rm_sm (by simp; omega)) (Ok.ret ⟨rfl, rfl, by simp, fun x hx => ?_, fun i hi => ?_, by simp; omega⟩))
 ·simp only [List.mem_append, List.mem_singleton] at hx
  rcases hx with hx | rfl
  ·exact g1 x hx
  ·refine ⟨⟨ho.1, ho.2⟩, ?_⟩
   simp [idB]; omega
 ·simp only at hi ⊢
  by_cases h : i < r.Objects.length
  ·rw [List.getElem_append_left h]; exact g2 i h
  ·have : i = r.Objects.length := by simp at hi; omega
   subst this
   simp; omega
theorem repo_okL {t : GTape} (h : TO t) : Ok (F_1r t) fun y => 0 < y.1.Objects.length ∧ y.1.Objects.length ≤ 13 ∧ (∃ n, GL n y.1.Objects) ∧ TO y.2 := by
 unfold F_1r
 refine Ok.bind (btw_ok h (by omega) (by omega) (by omega)) fun y hy => ?_
 refine Ok.bind (Ok.loop (Q := fun r : List GObject × List GRefEvent × Int × List Int × GTape => 0 ≤ r.2.2.1 ∧ r.2.2.1 ≤ 4 ∧ r.1.length ≤ 4 ∧ GL r.2.2.1 r.1 ∧ 1 ≤ r.2.2.2.1.length ∧ r.2.2.2.1.length ≤ 4 ∧ (∀ z ∈ r.2.2.2.1, idB z = true) ∧ TO r.2.2.2.2)
  (fun x => 0 ≤ x.1 ∧ 0 ≤ x.2.2.2.1 ∧ x.2.2.2.1 + x.1 ≤ 4 ∧ (x.2.1.length : Int) + x.1 ≤ 4 ∧ GL x.2.2.2.1 x.2.1 ∧ 1 ≤ (x.2.2.2.2.1.length : Int) + x.1 ∧ (x.2.2.2.2.1.length : Int) + x.1 ≤ 4 ∧ (∀ z ∈ x.2.2.2.2.1, idB z = true) ∧ TO x.2.2.2.2.2) (fun x => x.1.toNat) (fun x hx => ?_) _ ?_) fun r hr => ?_
 ·obtain ⟨k, os, es, n, bl, t⟩ := x
  obtain ⟨h1, h2, h3, h4, h5, h6, h7, hb, h8⟩ := hx
  simp only at h1 h2 h3 h4 h5 h6 h7 hb h8
  unfold F_41
  refine Ok.ite (fun c => ?_) fun c => ?_
  ·have c : 0 < k := of_decide_eq_true c
   refine Ok.bind (nx_ok h8 (by omega)) fun y hy => Ok.bind (mbytes_ok hy.2.2 hy.1 (by omega)) fun z hz => ?_
   refine Ok.bind (add_okL h2 (by simp only; omega) (by simp only; omega) (blob_ok (by omega)) h5) fun w hw => ?_
   obtain ⟨w0, w1, w2, w3⟩ := hw
   simp only at w0 w1 w2
   refine Ok.chk (rm_sm (by simp; omega)) (Ok.chk (sm64 (by simp only; omega) (by simp only; omega)) (Ok.ret ?_))
   simp only [Fl.elim, List.length_append, List.length_cons, List.length_nil]
   exact ⟨⟨by omega, by omega, by omega, by omega, w3, by omega, by omega, idB_app hb (by rw [w0]; simp [idB]; omega), hz.2⟩, by omega⟩
  ·have c : ¬ 0 < k := of_decide_eq_false c
   refine Ok.ret ?_
   simp only [Fl.elim]
   exact ⟨h2, by omega, by omega, h5, by omega, by omega, hb, h8⟩
 ·exact ⟨by simp only; omega, by simp, by simp only; omega, by simp only [List.length_nil]; omega, GL.nil, by simp only [List.length_nil]; omega, by simp only [List.length_nil]; omega, by simp, hy.2.2⟩
 obtain ⟨os1, es1, n1, bl1, t1⟩ := r
 obtain ⟨r1, r2, r3, r4, r5, r6, rb, r7⟩ := hr
 simp only at r1 r2 r3 r4 r5 r6 rb r7
 refine Ok.bind (btw_ok r7 (by omega) (by omega) (by omega)) fun y hy => ?_
 refine Ok.bind (Ok.loop (Q := fun r : List GObject × List GRefEvent × Int × List Int × GTape => 0 ≤ r.2.2.1 ∧ r.2.2.1 ≤ 8 ∧ r.1.length ≤ 8 ∧ GL r.2.2.1 r.1 ∧ 1 ≤ r.2.2.2.1.length ∧ r.2.2.2.1.length ≤ 4 ∧ (∀ z ∈ r.2.2.2.1, idB z = true) ∧ TO r.2.2.2.2)
  (fun x => 0 ≤ x.1 ∧ 0 ≤ x.2.2.2.1 ∧ x.2.2.2.1 + x.1 ≤ 8 ∧ (x.2.1.length : Int) + x.1 ≤ 8 ∧ GL x.2.2.2.1 x.2.1 ∧ 1 ≤ (x.2.2.2.2.1.length : Int) + x.1 ∧ (x.2.2.2.2.1.length : Int) + x.1 ≤ 4 ∧ (∀ z ∈ x.2.2.2.2.1, idB z = true) ∧ TO x.2.2.2.2.2) (fun x => x.1.toNat) (fun x hx => ?_) _ ?_) fun r hr => ?_
 ·obtain ⟨k, os, es, n, bl, t⟩ := x
  obtain ⟨h1, h2, h3, h4, h5, h6, h7, hb, h8⟩ := hx
  simp only at h1 h2 h3 h4 h5 h6 h7 hb h8
  unfold F_42
  refine Ok.ite (fun c => ?_) fun c => ?_
  ·have c : 0 < k := of_decide_eq_true c
   refine Ok.bind (Ok.foldI (all := [[97],[98],[100]]) (Q := fun s : List GItem × GTape => (s.1.map (·.Name)).Sublist [[97],[98],[100]] ∧ (∀ x ∈ s.1, idB x.ID = true) ∧ TO s.2) (fun pre s => (s.1.map (·.Name)).Sublist pre ∧ (∀ x ∈ s.1, idB x.ID = true) ∧ TO s.2) _ [] 0 _ rfl rfl ⟨by simp, by simp, h8⟩ (fun pre x r s hw hs => ?_) fun s hs => hs) fun z hz => ?_
   ·obtain ⟨s1, s2, s3⟩ := hs
    have hp : pre.length ≤ 2 := by
     have := congrArg List.length hw
     simp at this; omega
    have hsl : s.1.length ≤ 2 := by have := s1.length_le; simp at this; omega
    unfold F_3i
    have app : ∀ (g : GItem) (t : GTape), g.Name = x → idB g.ID = true → TO t → Ok (chk (room (s.1.length + [g].length) 24) (some (s.1 ++ [g], t))) fun s => (s.1.map (·.Name)).Sublist (pre ++ [x]) ∧ (∀ x ∈ s.1, idB x.ID = true) ∧ TO s.2 := fun g t hg hgi ht => by
     refine Ok.chk (rm_sm (by simp; omega)) (Ok.ret ⟨?_, fun z hz => ?_, ht⟩)
     ·rw [List.map_append]
      refine List.Sublist.append s1 ?_
      simp [hg]
     ·simp only [List.mem_append, List.mem_singleton] at hz
      rcases hz with hz | rfl
      ·exact s2 z hz
      ·exact hgi
    have skip : (s.1.map (·.Name)).Sublist (pre ++ [x]) := s1.trans (List.sublist_append_left _ _)
    refine Ok.bind (nx_ok s3 (by omega)) fun y hy => Ok.ite (fun _ => ?_) fun _ => Ok.ite (fun _ => Ok.ite (fun c2 => ?_) fun _ => ?_) fun _ => ?_
    ·exact Ok.bind (nx_ok hy.2.2 (by simp only; omega)) fun z hz => Ok.chk (inb_iff.2 ⟨hz.1, hz.2.1⟩) (app _ _ rfl (idB_getD rb (by have := hz.2.1; simp only at this; omega)) hz.2.2)
    ·exact Ok.bind (nx_ok hy.2.2 (of_decide_eq_true c2)) fun z hz => Ok.chk (inb_iff.2 ⟨hz.1, hz.2.1⟩) (app _ _ rfl (idB_getD hb (by have := hz.2.1; simp only at this; omega)) hz.2.2)
    ·exact Ok.ret ⟨skip, s2, hy.2.2⟩
    ·exact Ok.ret ⟨skip, s2, hy.2.2⟩
   ·obtain ⟨z1, z2, z3⟩ := hz
    refine Ok.bind (add_okL h2 (by simp only; omega) (by simp only; omega) (tree_ok z1 z2) h5) fun w hw => ?_
    obtain ⟨w0, w1, w2, w3⟩ := hw
    simp only at w0 w1 w2
    refine Ok.chk (rm_sm (by simp; omega)) (Ok.chk (sm64 (by simp only; omega) (by simp only; omega)) (Ok.ret ?_))
    simp only [Fl.elim, List.length_append, List.length_cons, List.length_nil]
    exact ⟨⟨by omega, by omega, by omega, by omega, w3, by omega, by omega, idB_app hb (by rw [w0]; simp [idB]; omega), z3⟩, by omega⟩
  ·have c : ¬ 0 < k := of_decide_eq_false c
   refine Ok.ret ?_
   simp only [Fl.elim]
   exact ⟨h2, by omega, by omega, h5, by omega, by omega, hb, h8⟩
 ·exact ⟨by simp only; omega, r1, by simp only; omega, by simp only; omega, r4, by simp only [List.length_nil]; omega, by simp only [List.length_nil]; omega, by simp, hy.2.2⟩
 obtain ⟨os2, es2, n2, bl2, t2⟩ := r
 obtain ⟨q1, q2, q3, q4, q5, q6, qb, q7⟩ := hr
 simp only at q1 q2 q3 q4 q5 q6 qb q7
 refine Ok.bind (btw_ok q7 (by omega) (by omega) (by omega)) fun y hy => ?_
 refine Ok.bind (Ok.loop (Q := fun r : List Int × List GObject × List GRefEvent × GTape => 1 ≤ r.2.1.length ∧ r.2.1.length ≤ 13 ∧ (∃ n, GL n r.2.1) ∧ 1 ≤ r.1.length ∧ r.1.length ≤ 5 ∧ TO r.2.2.2)
  (fun x => 0 ≤ x.1 ∧ 0 ≤ x.2.2.2.1 ∧ x.2.2.2.1 + x.1 ≤ 13 ∧ 1 ≤ (x.2.1.length : Int) + x.1 ∧ (x.2.1.length : Int) + x.1 ≤ 13 ∧ GL x.2.2.2.1 x.2.1 ∧ 1 ≤ (x.2.2.2.2.1.length : Int) + x.1 ∧ (x.2.2.2.2.1.length : Int) + x.1 ≤ 5 ∧ ((∀ z ∈ x.2.2.2.2.1, idB z = true ∧ z ≤ x.2.2.2.1) ∧ x.2.2.2.2.1.Nodup) ∧ TO x.2.2.2.2.2) (fun x => x.1.toNat) (fun x hx => ?_) _ ?_) fun r hr => ?_
 ·obtain ⟨k, os, es, n, cm, t⟩ := x
  obtain ⟨h1, h2, h3, h4, h5, h6, h7, h8, ⟨hb, hnd⟩, h9⟩ := hx
  simp only at h1 h2 h3 h4 h5 h6 h7 h8 hb hnd h9
  unfold F_44
  refine Ok.ite (fun c => ?_) fun c => ?_
  ·have c : 0 < k := of_decide_eq_true c
   refine Ok.bind (nx_ok h9 (by simp only; omega)) fun y hy => Ok.chk (inb_iff.2 ⟨hy.1, hy.2.1⟩) (Ok.bind (nx_ok hy.2.2 (by omega)) fun z hz => Ok.chk (sm64 (by simp only; omega) (by simp only; omega)) ?_)
   refine Ok.bind (Ok.loop (Q := fun r : Int × Int × List Int × GTape => r.1 = bl2.getD y.1.toNat default ∧ r.2.1 = z.1 ∧ r.2.2.1.length ≤ 2 ∧ (∀ p ∈ r.2.2.1, p ∈ cm) ∧ r.2.2.1.Nodup ∧ TO r.2.2.2) (fun x : Int × Int × Int × List Int × GTape => -1 ≤ x.1 ∧ x.1 < cm.length ∧ x.2.1 = bl2.getD y.1.toNat default ∧ x.2.2.1 = z.1 ∧ x.2.2.2.1.length ≤ 2 ∧ (∀ p ∈ x.2.2.2.1, ∃ j : Nat, x.1 < j ∧ j < cm.length ∧ cm.getD j default = p) ∧ x.2.2.2.1.Nodup ∧ TO x.2.2.2.2) (fun x => (x.1 + 1).toNat) (fun x hx => ?_) _ ?_) fun w hw => ?_
   ·obtain ⟨i, a, b, ps, t⟩ := x
    obtain ⟨g1, g2, g5, g6, g3, g7, g8, g4⟩ := hx
    simp only at g1 g2 g5 g6 g3 g7 g8 g4
    unfold F_43
    have mem : ∀ p ∈ ps, p ∈ cm := fun p hp => by
     obtain ⟨j, _, hj, e⟩ := g7 p hp
     rw [← e]; simp [hj]
    refine Ok.grp (Ok.ite (fun c2 => ?_) fun c2 => Ok.ret ⟨g5, g6, g3, mem, g8, g4⟩)
    have c3 : 0 ≤ i ∧ (ps.length : Int) < 2 := by simpa using c2
    have down : ∀ p ∈ ps, ∃ j : Nat, i - 1 < j ∧ j < cm.length ∧ cm.getD j default = p := fun p hp => by
     obtain ⟨j, q1, q2, q3⟩ := g7 p hp
     exact ⟨j, by omega, q2, q3⟩
    refine Ok.jn (P := fun j : List Int × GTape => j.1.length ≤ 2 ∧ (∀ p ∈ j.1, ∃ q : Nat, i - 1 < q ∧ q < cm.length ∧ cm.getD q default = p) ∧ j.1.Nodup ∧ TO j.2) ?_ fun j hj => ?_
    ·refine Ok.bind (nx_ok g4 (by omega)) fun y hy => Ok.ite (fun _ => ?_) fun _ => Ok.ret ⟨g3, down, g8, hy.2.2⟩
     have hit : i.toNat < cm.length := by omega
     refine Ok.chk (inb_iff.2 ⟨c3.1, g2⟩) (Ok.chk (rm_sm (by simp; omega)) (Ok.ret ⟨by simp; omega, fun p hp => ?_, ?_, hy.2.2⟩))
     ·simp only [List.mem_append, List.mem_singleton] at hp
      rcases hp with hp | rfl
      ·exact down p hp
      ·exact ⟨i.toNat, by omega, hit, rfl⟩
     ·refine List.nodup_append.2 ⟨g8, by simp, fun p hp q hq => ?_⟩
      simp only [List.mem_singleton] at hq
      subst hq
      obtain ⟨j, q1, q2, q3⟩ := g7 p hp
      rw [← q3]
      have e1 : cm.getD j default = cm[j] := by simp [q2]
      have e2 : cm.getD i.toNat default = cm[i.toNat] := by simp [hit]
      intro e
      rw [e1, e2] at e
      have := (List.getElem_inj hnd).1 e
      omega
    ·refine Ok.chk (sm64 (by simp only; omega) (by simp only; omega)) (Ok.ret ?_)
     simp only [Fl.elim]
     exact ⟨⟨by omega, by omega, g5, g6, hj.1, hj.2.1, hj.2.2.1, hj.2.2.2⟩, by omega⟩
   ·exact ⟨by simp only; omega, by simp only; omega, rfl, rfl, by simp, by simp, by simp, hz.2.2⟩
   ·obtain ⟨w1, w2, w3, w4, w5, w6⟩ := hw
    have hyl : y.1.toNat < bl2.length := by have := hy.2.1; simp only at this; omega
    refine Ok.bind (add_okL h2 (by simp only; omega) (by simp only; omega) (commit_ok (by rw [w1]; exact idB_getD qb hyl) (by omega) (by omega) (by omega) (fun p hp => (hb p (w4 p hp)).1) w5) h6) fun v hv => ?_
    obtain ⟨v0, v1, v2, v3⟩ := hv
    simp only at v0 v1 v2
    refine Ok.chk (rm_sm (by simp; omega)) (Ok.chk (sm64 (by simp only; omega) (by simp only; omega)) (Ok.ret ?_))
    simp only [Fl.elim, List.length_append, List.length_cons, List.length_nil]
    refine ⟨⟨by omega, by omega, by omega, by omega, by omega, v3, by omega, by omega, ⟨fun q hq => ?_, ?_⟩, w6⟩, by omega⟩
    ·rcases List.mem_append.1 hq with hq | hq
     ·have := hb q hq; exact ⟨this.1, by omega⟩
     ·simp at hq; subst hq; exact ⟨by rw [v0]; simp [idB]; omega, by omega⟩
    ·refine List.nodup_append.2 ⟨hnd, by simp, fun p hp q hq => ?_⟩
     simp at hq; subst hq
     have := (hb p hp).2
     omega
  ·have c : ¬ 0 < k := of_decide_eq_false c
   refine Ok.ret ?_
   simp only [Fl.elim]
   exact ⟨by omega, by omega, ⟨_, h6⟩, by omega, by omega, h9⟩
 ·exact ⟨by simp only; omega, q1, by simp only; omega, by simp only; omega, by simp only; omega, q4, by simp only [List.length_nil]; omega, by simp only [List.length_nil]; omega, by simp, hy.2.2⟩
 obtain ⟨p1, p2, p3, p4, p5, p6⟩ := hr
 exact Ok.bind (events_ok p6 (by omega) (by omega)) fun z hz => Ok.ret ⟨p1, by simp only; omega, p3, hz⟩
end Go.Ab
namespace Go.Ab
theorem sum_take {l : List Int} {n : Nat} (h : n < l.length) : (l.take (n + 1)).sum = (l.take n).sum + l[n] := by
 rw [List.take_succ_eq_append_getElem h, List.sum_append]; simp
theorem sum_take_le {l : List Int} (h : ∀ x ∈ l, 0 ≤ x) (n : Nat) : (l.take n).sum ≤ l.sum := by
 have hd : ∀ q : List Int, (∀ x ∈ q, 0 ≤ x) → 0 ≤ q.sum := fun q => by
  induction q with
  | nil => intro _; simp
  | cons y q ih => intro hq; have := hq y (by simp); have := ih fun x hx => hq x (by simp [hx]); simp only [List.sum_cons]; omega
 have := hd (l.drop n) fun x hx => h x (List.mem_of_mem_drop hx)
 have e : l.sum = (l.take n).sum + (l.drop n).sum := by rw [← List.sum_append, List.take_append_drop]
 omega
theorem amount_eq (o : GOp) : F_17 o = some (opN o) := by
 unfold F_17 opN
 by_cases h : o.Size < 1
 ·rw [decide_eq_true h, decide_eq_false (by omega)]; rfl
 ·rw [decide_eq_false h, decide_eq_true (by omega)]; rfl
theorem right12_ok {o : GOp} {n : Nat} (h : opOK n o) (hn : n ≤ 1000000) : F_29 o (n : Int) = some true := by
 unfold F_29
 rcases h with ⟨h1, h2, h3⟩ | ⟨h1, h2, h3, h4⟩
 ·rw [h1, h2, decide_eq_true (show (0 : Int) < (o.Data.length : Int) by omega)]; rfl
 ·rw [decide_eq_true (show 1 ≤ o.Size by omega), decide_eq_true h2, h3, decide_eq_true (show o.From ≤ (n : Int) by omega), decide_eq_true (show o.Size ≤ (n : Int) - o.From by omega), in64_iff.2 ⟨by omega, by omega⟩]
  rfl
theorem apply12_ops {base : Str} {ops : List GOp} (h : ∀ o ∈ ops, opOK base.length o) (hl : ops.length ≤ 200) (hb : base.length ≤ 65536) (hs : (ops.map opN).sum ≤ 65536) : F_o base ops = some (ops.flatMap (opB base),0) := by
 have hnn : ∀ x ∈ ops.map opN, 0 ≤ x := fun x hx => by
  obtain ⟨o, ho, rfl⟩ := List.mem_map.1 hx
  exact opN_nn (h o ho)
 have get : ∀ n (hn : n < ops.length), ops.getD n default = ops[n] := fun n hn => by simp [hn]
 have hc : F_2a base ops = some 0 := by
  refine Ok.eq ?_
  unfold F_2a
  rw [decide_eq_false (by omega), decide_eq_false (by omega)]
  simp only [Bool.or_self]
  refine Ok.grp (Ok.ite (fun h => by cases h) fun _ => ?_)
  refine Ok.bind (Ok.loop (Q := fun r => r = .inl ()) (fun x : Int × Int => ∃ n : Nat, x.2 = n ∧ n ≤ ops.length ∧ x.1 = 65536 - ((ops.map opN).take n).sum) (fun x => (ops.length - x.2).toNat) (fun x hx => ?_) _ ⟨0, rfl, by omega, by simp⟩) fun r hr => ?_
  ·obtain ⟨left, i⟩ := x
   obtain ⟨n, rfl, hn, rfl⟩ := hx
   unfold F_49
   simp only
   refine Ok.ite (fun c => ?_) fun c => Ok.ret rfl
   have c := of_decide_eq_true c
   have hn' : n < ops.length := by omega
   have e1 : ((n : Int)).toNat = n := by simp
   have hm : n < (ops.map opN).length := by simpa using hn'
   have st := sum_take hm
   have sl := sum_take_le hnn (n + 1)
   have eg : (ops.map opN)[n] = opN ops[n] := by simp
   have h0 := opN_nn (h _ (List.getElem_mem hn'))
   have s0 := sum_take_le hnn n
   have snn : 0 ≤ ((ops.map opN).take n).sum := by
    have := sum_take_le (l := (ops.map opN).take n) (fun x hx => hnn x (List.mem_of_mem_take hx)) 0
    simpa using this
   rw [e1, get n hn', amount_eq]
   simp only [Option.bind_some]
   refine Ok.chk (kB hn') (Ok.ite (fun c2 => ?_) fun _ => Ok.chk (kB hn') (Ok.chk (in64_iff.2 ⟨by omega, by omega⟩) (Ok.chk (in64_iff.2 ⟨by omega, by omega⟩) (Ok.ret ⟨⟨n + 1, by simp, by omega, by simp only; omega⟩, by simp only; omega⟩))))
   have c2 := of_decide_eq_true c2
   omega
  ·subst hr
   simp only [Sum.elim_inl]
   rw [loop_all0 (p := fun _ => true) (r := 2) (n := ops.length) (by unfold F_3v; rw [dlt]; rfl) fun i hi => by
    have e : ((i : Int)).toNat = i := by simp
    have c : decide ((i : Int) < (ops.length : Int)) = true := by simpa using hi
    have c3 : in64 ((i : Int) + 1) = true := in64_iff.2 ⟨by omega, by omega⟩
    unfold F_3v
    rw [c, kB hi, c3, e, get i hi, right12_ok (h _ (List.getElem_mem hi)) (by omega)]
    rfl]
   rw [List.all_eq_true.2 fun _ _ => rfl]
   exact Ok.ret rfl
 have hbl : ∀ n, n ≤ ops.length → (((ops.take n).flatMap (opB base)).length : Int) ≤ ((ops.map opN).take n).sum := fun n hn => by
  have : ∀ q : List GOp, (∀ o ∈ q, opOK base.length o) → ((q.flatMap (opB base)).length : Int) ≤ (q.map opN).sum := fun q => by
   induction q with
   | nil => intro _; simp
   | cons y q ih =>
    intro hq
    have h1 := ih fun o ho => hq o (by simp [ho])
    simp only [List.flatMap_cons, List.map_cons, List.sum_cons, List.length_append, opB, opN]
    rcases hq y (by simp) with ⟨a1, a2, a3⟩ | ⟨a1, a2, a3, a4⟩
    ·rw [a1, a2]; simp only [Int.add_zero, Int.toNat_zero, List.take_zero, List.drop_nil, List.length_nil, show decide ((0 : Int) < 1) = true from rfl, cond_true]; omega
    ·rw [decide_eq_false (show ¬ y.Size < 1 by omega), a3]
     simp only [List.length_drop, List.length_take, List.length_nil, cond_false]; omega
  have := this (ops.take n) fun o ho => h o (List.mem_of_mem_take ho)
  rwa [List.map_take] at this
 refine Ok.eq ?_
 unfold F_o
 rw [hc]
 simp only [Option.bind_some, decide_true, Bool.not_true, cond_false]
 unfold F_36
 refine Ok.bind (P := fun y => y = ops.flatMap (opB base)) (Ok.bind (Ok.loop (Q := fun y => y = ops.flatMap (opB base)) (fun x : Int × List UInt8 => ∃ n : Nat, x.1 = n ∧ n ≤ ops.length ∧ x.2 = (ops.take n).flatMap (opB base)) (fun x => (ops.length - x.1).toNat) (fun x hx => ?_) _ ⟨0, rfl, by omega, by simp⟩) fun y hy => Ok.ret hy) fun y hy => by subst hy; exact Ok.ret rfl
 obtain ⟨i, out⟩ := x
 obtain ⟨n, rfl, hn, rfl⟩ := hx
 unfold F_4a
 simp only
 refine Ok.ite (fun c => ?_) fun c => ?_
 ·have c := of_decide_eq_true c
  have hn' : n < ops.length := by omega
  have e1 : ((n : Int)).toNat = n := by simp
  have hol := hbl n hn
  have s0 := sum_take_le hnn n
  have hk := h _ (List.getElem_mem hn')
  have et : (ops.take (n + 1)).flatMap (opB base) = (ops.take n).flatMap (opB base) ++ opB base ops[n] := by
   rw [List.take_succ_eq_append_getElem hn', List.flatMap_append]; simp
  have hol2 := hbl (n + 1) (by omega)
  have s1 := sum_take_le hnn (n + 1)
  rw [et, List.length_append] at hol2
  rw [e1, get n hn']
  refine Ok.jn (P := fun j => j = (ops.take (n + 1)).flatMap (opB base)) (Ok.chk (kB hn') ?_) fun j hj => ?_
  ·rw [et]
   generalize ops[n] = o at hk hol2
   rcases hk with ⟨a1, a2, a3⟩ | ⟨a1, a2, a3, a4⟩
   ·refine Ok.ite (fun c => by rw [a1] at c; simp at c) fun _ => Ok.chk (kB hn') (Ok.chk (room_iff.2 ?_) (Ok.ret ?_))
    ·have : (opB base o).length = o.Data.length := by unfold opB; rw [a1, a2]; simp
     omega
    ·unfold opB; rw [a1, a2]; simp
   ·have hob : (opB base o).length = ((base.take (o.From + o.Size).toNat).drop o.From.toNat).length := by unfold opB; rw [a3]; simp
    refine Ok.ite (fun _ => Ok.chk (kB hn') (Ok.chk (kB hn') (Ok.chk (kB hn') (Ok.chk (in64_iff.2 ⟨by omega, by omega⟩) (Ok.chk (inc_iff.2 ⟨a2, by omega, by omega⟩) (Ok.chk (room_iff.2 (by omega)) (Ok.ret ?_))))))) fun c => absurd (of_decide_eq_false c) (by omega)
    unfold opB; rw [a3]; simp
  ·subst hj
   exact Ok.chk (in64_iff.2 ⟨by omega, by omega⟩) (Ok.ret ⟨⟨n + 1, by simp, by omega, rfl⟩, by simp only; omega⟩)
 ·have c := of_decide_eq_false c
  have : n = ops.length := by omega
  subst this
  refine Ok.ret ?_
  simp only [List.take_length]; rfl
end Go.Ab
namespace Go.Ab
theorem dcom_ok {b base : Str} (hl : b.length ≤ 1000000) : Ok (F_21 base b) fun c => 0 ≤ c ∧ c.toNat ≤ b.length ∧ c.toNat ≤ base.length ∧ b.take c.toNat = base.take c.toNat := by
 unfold F_21
 refine Ok.bind (Ok.loop (fun c => 0 ≤ c ∧ c.toNat ≤ b.length ∧ c.toNat ≤ base.length ∧ b.take c.toNat = base.take c.toNat) (fun c => b.length - c.toNat) (fun c hc => ?_) 0 ⟨by omega, by simp, by simp, by simp⟩) fun y hy => Ok.ret hy
 obtain ⟨h0, h1, h2, h3⟩ := hc
 unfold F_45
 refine Ok.ite (fun c1 => ?_) fun _ => Ok.ret ⟨h0, h1, h2, h3⟩
 have c1 := of_decide_eq_true c1
 have i1 : c.toNat < b.length := by omega
 have i2 : c.toNat < base.length := by omega
 refine Ok.chk (inb_iff.2 ⟨h0, by omega⟩) (Ok.chk (inb_iff.2 ⟨h0, by omega⟩) (Ok.ite (fun c3 => Ok.chk (in64_iff.2 ⟨by omega, by omega⟩) (Ok.ret ?_)) fun _ => Ok.ret ⟨h0, h1, h2, h3⟩))
 have c3 := of_decide_eq_true c3
 have e1 : b.getD c.toNat default = b[c.toNat] := by simp [i1]
 have e2 : base.getD c.toNat default = base[c.toNat] := by simp [i2]
 rw [e1, e2] at c3
 have e3 : b[c.toNat] = base[c.toNat] := UInt8.toNat_inj.1 (by omega)
 have e4 : (c + 1).toNat = c.toNat + 1 := by omega
 simp only [Fl.elim, e4]
 refine ⟨⟨by omega, by omega, by omega, ?_⟩, by omega⟩
 rw [List.take_add_one, List.take_add_one, h3, List.getElem?_eq_getElem i1, List.getElem?_eq_getElem i2, e3]
theorem dtail_ok {a b : Str} (ha : a.length ≤ 1000000) (hl : b.length ≤ 1000000) : Ok (F_22 a b) fun c => 0 ≤ c ∧ c.toNat ≤ a.length ∧ c.toNat ≤ b.length ∧ a.drop (a.length - c.toNat) = b.drop (b.length - c.toNat) := by
 unfold F_22
 refine Ok.bind (Ok.loop (fun c => 0 ≤ c ∧ c.toNat ≤ a.length ∧ c.toNat ≤ b.length ∧ a.drop (a.length - c.toNat) = b.drop (b.length - c.toNat)) (fun c => b.length - c.toNat) (fun c hc => ?_) 0 ⟨by omega, by simp, by simp, by simp⟩) fun y hy => Ok.ret hy
 obtain ⟨h0, h1, h2, h3⟩ := hc
 unfold F_46
 refine Ok.ite (fun c1 => ?_) fun _ => Ok.ret ⟨h0, h1, h2, h3⟩
 have c1 := of_decide_eq_true c1
 have i1 : a.length - 1 - c.toNat < a.length := by omega
 have i2 : b.length - 1 - c.toNat < b.length := by omega
 have t1 : ((a.length : Int) - 1 - c).toNat = a.length - 1 - c.toNat := by omega
 have t2 : ((b.length : Int) - 1 - c).toNat = b.length - 1 - c.toNat := by omega
 refine Ok.chk (in64_iff.2 ⟨by omega, by omega⟩) (Ok.chk (in64_iff.2 ⟨by omega, by omega⟩) (Ok.chk (inb_iff.2 ⟨by omega, by omega⟩) (Ok.chk (in64_iff.2 ⟨by omega, by omega⟩) (Ok.chk (in64_iff.2 ⟨by omega, by omega⟩) (Ok.chk (inb_iff.2 ⟨by omega, by omega⟩) (Ok.ite (fun c3 => Ok.chk (in64_iff.2 ⟨by omega, by omega⟩) (Ok.ret ?_)) fun _ => Ok.ret ⟨h0, h1, h2, h3⟩))))))
 have c3 := of_decide_eq_true c3
 rw [t1, t2] at c3
 have e1 : a.getD (a.length - 1 - c.toNat) default = a[a.length - 1 - c.toNat] := by simp [i1]
 have e2 : b.getD (b.length - 1 - c.toNat) default = b[b.length - 1 - c.toNat] := by simp [i2]
 rw [e1, e2] at c3
 have e3 : a[a.length - 1 - c.toNat] = b[b.length - 1 - c.toNat] := UInt8.toNat_inj.1 (by omega)
 have e4 : (c + 1).toNat = c.toNat + 1 := by omega
 simp only [Fl.elim, e4]
 refine ⟨⟨by omega, by omega, by omega, ?_⟩, by omega⟩
 have q1 : a.length - (c.toNat + 1) = a.length - 1 - c.toNat := by omega
 have q2 : b.length - (c.toNat + 1) = b.length - 1 - c.toNat := by omega
 have q3 : a.length - 1 - c.toNat + 1 = a.length - c.toNat := by omega
 have q4 : b.length - 1 - c.toNat + 1 = b.length - c.toNat := by omega
 rw [q1, q2, List.drop_eq_getElem_cons i1, List.drop_eq_getElem_cons i2, e3, q3, q4, h3]
def Mks (base target : Str) (ops : List GOp) : Prop := (∀ o ∈ ops, opOK base.length o) ∧ ops.length ≤ 3 ∧ (ops.map opN).sum ≤ 65536 ∧ (∀ o ∈ ops, o.Data.length ≤ 20000 ∧ o.From ≤ 20000 ∧ o.Size ≤ 20000) ∧ ops.flatMap (opB base) = target
theorem dmake_ok {base target : Str} (hb : base.length ≤ 20000) (ht : target.length ≤ 20000) : Ok (F_23 base target) fun y => y.2 = 0 ∧ Mks base target y.1 := by
 unfold F_23
 rw [decide_eq_false (by omega), decide_eq_false (by omega)]
 simp only [Bool.or_self]
 refine Ok.grp (Ok.ite (fun h => by cases h) fun _ => Ok.bind (dcom_ok (by omega)) fun f hf => ?_)
 obtain ⟨f0, f1, f2, f3⟩ := hf
 refine Ok.chk (inc_iff.2 ⟨f0, by omega, by omega⟩) (Ok.chk (inc_iff.2 ⟨f0, by omega, by omega⟩) (Ok.bind (dtail_ok (by rw [List.length_drop]; omega) (by rw [List.length_drop]; omega)) fun k hk => ?_))
 obtain ⟨k0, k1, k2, k3⟩ := hk
 rw [List.length_drop] at k1 k2
 rw [List.length_drop, List.length_drop, List.drop_drop, List.drop_drop] at k3
 refine Ok.jn (P := fun j => j = (bif decide (0 < f) then [GOp.mk 0 f []] else [])) (Ok.ite (fun c => Ok.ret (by rw [c]; rfl)) fun c => Ok.ret (by rw [c]; rfl)) fun p hp => ?_
 have hpl : p.length ≤ 1 := by rw [hp]; cases decide (0 < f) <;> simp
 have etn : ((target.length : Int) - k).toNat = target.length - k.toNat := by omega
 have hmid : ((target.take ((target.length : Int) - k).toNat).drop f.toNat).length = target.length - k.toNat - f.toNat := by
  rw [etn, List.length_drop, List.length_take]; omega
 refine Ok.jn (P := fun j => j = p ++ (bif decide (0 < ((target.take ((target.length : Int) - k).toNat).drop f.toNat).length) then [GOp.mk 0 0 ((target.take ((target.length : Int) - k).toNat).drop f.toNat)] else [])) (Ok.chk (in64_iff.2 ⟨by omega, by omega⟩) (Ok.chk (inc_iff.2 ⟨f0, by omega, by omega⟩) (Ok.ite (fun c => ?_) fun c => Ok.ret ?_))) fun q hq => ?_
 ·have c := of_decide_eq_true c
  rw [clone_eq (by omega)]
  refine Ok.chk (room_iff.2 (by simp; omega)) (Ok.ret ?_)
  rw [decide_eq_true (by omega)]; rfl
 ·have c := of_decide_eq_false c
  rw [decide_eq_false (by omega)]; simp
 have hql : q.length ≤ 2 := by
  rw [hq, List.length_append]
  cases decide (0 < ((target.take ((target.length : Int) - k).toNat).drop f.toNat).length) <;> simp <;> omega
 refine Ok.jn (P := fun j => j = q ++ (bif decide (0 < k) then [GOp.mk ((base.length : Int) - k) k []] else [])) (Ok.ite (fun c => Ok.chk (in64_iff.2 ⟨by omega, by omega⟩) (Ok.chk (room_iff.2 (by simp; omega)) (Ok.ret (by rw [c]; rfl)))) fun c => Ok.ret (by rw [c]; simp)) fun r hr => Ok.ret ⟨rfl, ?_⟩
 have hall : ∀ o ∈ r, opOK base.length o ∧ o.Data.length ≤ 20000 ∧ o.From ≤ 20000 ∧ o.Size ≤ 20000 := fun o ho => by
  rw [hr, hq, hp] at ho
  rcases List.mem_append.1 ho with ho | ho
  ·rcases List.mem_append.1 ho with ho | ho
   ·cases hc : decide (0 < f) with
    | false => rw [hc] at ho; cases ho
    | true =>
     rw [hc] at ho
     have hc := of_decide_eq_true hc
     simp at ho; subst ho
     exact ⟨.inr ⟨hc, by simp, rfl, by simp only; omega⟩, by simp, by simp, by simp only; omega⟩
   ·cases hc : decide (0 < ((target.take ((target.length : Int) - k).toNat).drop f.toNat).length) with
    | false => rw [hc] at ho; cases ho
    | true =>
     rw [hc] at ho
     have hc := of_decide_eq_true hc
     simp only [cond_true, List.mem_singleton] at ho
     subst ho
     exact ⟨.inl ⟨rfl, rfl, hc⟩, by simp only; omega, by simp, by simp⟩
  ·cases hc : decide (0 < k) with
   | false => rw [hc] at ho; cases ho
   | true =>
    rw [hc] at ho
    have hc := of_decide_eq_true hc
    simp at ho; subst ho
    exact ⟨.inr ⟨hc, by simp only; omega, rfl, by simp only; omega⟩, by simp, by simp only; omega, by simp only; omega⟩
 have hlen : r.length ≤ 3 := by
  rw [hr, List.length_append]
  cases decide (0 < k) <;> simp <;> omega
 refine ⟨fun o ho => (hall o ho).1, hlen, ?_, fun o ho => (hall o ho).2, ?_⟩
 ·have : ∀ q : List GOp, (∀ o ∈ q, opN o ≤ 20000) → (q.map opN).sum ≤ 20000 * q.length := fun q => by
   induction q with
   | nil => intro _; simp
   | cons y q ih => intro hq; have := hq y (by simp); have := ih fun o ho => hq o (by simp [ho]); simp only [List.map_cons, List.sum_cons, List.length_cons]; omega
  have := this r fun o ho => by
   obtain ⟨_, h1, h2, h3⟩ := hall o ho
   unfold opN
   cases decide (o.Size < 1)
   ·simp only [cond_false]; exact h3
   ·simp only [cond_true]; omega
  show (r.map opN).sum ≤ 65536
  omega
 ·have b1 : (bif decide (0 < f) then [GOp.mk 0 f []] else []).flatMap (opB base) = target.take f.toNat := by
   cases hc : decide (0 < f) with
   | false =>
    have hc := of_decide_eq_false hc
    have : f.toNat = 0 := by omega
    rw [this]; simp
   | true => simp [opB, f3]
  have b2 : (bif decide (0 < ((target.take ((target.length : Int) - k).toNat).drop f.toNat).length) then [GOp.mk 0 0 ((target.take ((target.length : Int) - k).toNat).drop f.toNat)] else []).flatMap (opB base) = (target.take (target.length - k.toNat)).drop f.toNat := by
   rw [etn]
   cases hc : decide (0 < ((target.take (target.length - k.toNat)).drop f.toNat).length) with
   | false =>
    have hc := of_decide_eq_false hc
    rw [List.eq_nil_of_length_eq_zero (show ((target.take (target.length - k.toNat)).drop f.toNat).length = 0 by omega)]; rfl
   | true => simp [opB]
  have b3 : (bif decide (0 < k) then [GOp.mk ((base.length : Int) - k) k []] else []).flatMap (opB base) = target.drop (target.length - k.toNat) := by
   cases hc : decide (0 < k) with
   | false =>
    have hc := of_decide_eq_false hc
    have : k.toNat = 0 := by omega
    rw [this]; simp
   | true =>
    have e1 : ((base.length : Int) - k + k).toNat = base.length := by omega
    have e2 : ((base.length : Int) - k).toNat = base.length - k.toNat := by omega
    simp only [cond_true, List.flatMap_cons, List.flatMap_nil, List.append_nil, opB, e1, e2, List.take_length]
    have q1 : f.toNat + (base.length - f.toNat - k.toNat) = base.length - k.toNat := by omega
    have q2 : f.toNat + (target.length - f.toNat - k.toNat) = target.length - k.toNat := by omega
    rw [q1, q2] at k3
    exact k3
  rw [hr, hq, hp, List.flatMap_append, List.flatMap_append, b1, b2, b3]
  have e3 : target.take f.toNat = (target.take (target.length - k.toNat)).take f.toNat := by
   rw [List.take_take]; congr 1; omega
  rw [e3, List.take_append_drop, List.take_append_drop]
theorem concat_ok {l : List Str} (hl : l.length ≤ 10) (h : ∀ x ∈ l, x.length ≤ 1000000) (h0 : 0 < (l.map List.length).sum) : Ok (F_10 l) fun y => y.length = (l.map List.length).sum := by
 unfold F_10
 have hsum : ∀ q : List Str, (∀ x ∈ q, x.length ≤ 1000000) → (q.map List.length).sum ≤ 1000000 * q.length := fun q => by
  induction q with
  | nil => intro _; simp
  | cons y q ih => intro hq; have := hq y (by simp); have := ih fun o ho => hq o (by simp [ho]); simp only [List.map_cons, List.sum_cons, List.length_cons]; omega
 have hs := hsum l h
 refine Ok.bind (Ok.foldI (all := l) (Q := fun s => s = ((l.map List.length).sum : Int)) (fun pre s => s = ((pre.map List.length).sum : Int)) l [] 0 0 rfl rfl (by simp) (fun pre x r s hw hs' => ?_) fun s hs => hs) fun s hs' => ?_
 ·have hx := h x (by rw [hw]; simp)
  have hp := hsum pre fun y hy => h y (by rw [hw]; simp [hy])
  have hpl : pre.length ≤ 10 := by rw [hw] at hl; simp at hl; omega
  unfold F_3q
  subst hs'
  refine Ok.chk (in64_iff.2 ⟨by omega, by omega⟩) (Ok.ite (fun c => absurd (of_decide_eq_true c) (by omega)) fun _ => Ok.ret ?_)
  simp
 ·subst hs'
  have hg : growF [] ((l.map List.length).sum : Int) = some [] := by
   unfold growF chk
   rw [decide_eq_true (show (0 : Int) < ((l.map List.length).sum : Int) by omega), decide_eq_true (show ((l.map List.length).sum : Int) ≤ 140737488355328 by omega)]
   rfl
  rw [hg]
  simp only [Option.bind_some]
  refine Ok.bind (Ok.foldI (all := l) (Q := fun s : Str => s.length = (l.map List.length).sum) (fun pre s => s.length = (pre.map List.length).sum) l [] 0 [] rfl rfl (by simp) (fun pre x r s hw hs' => ?_) fun s hs => hs) fun s hs' => Ok.ret hs'
  have hx := h x (by rw [hw]; simp)
  have hp := hsum pre fun y hy => h y (by rw [hw]; simp [hy])
  have hpl : pre.length ≤ 10 := by rw [hw] at hl; simp at hl; omega
  unfold F_3r
  exact Ok.chk (room_iff.2 (by omega)) (Ok.ret (by simp [hs']))
theorem dright_ok (o : GOp) : Ok (F_h o) fun _ => True := by
 unfold F_h
 exact Ok.ite (fun _ => Ok.grp (Ok.ret trivial)) fun _ => Ok.grp (Ok.grp (Ok.ret trivial))
theorem size_ok {ops : List GOp} (hl : ops.length ≤ 3) (h : ∀ o ∈ ops, o.Data.length ≤ 20000) : Ok (F_25 ops) fun _ => True := by
 unfold F_25
 refine Ok.bind (P := fun _ => True) ?_ fun y _ => Ok.ite (fun _ => Ok.ret trivial) fun _ => Ok.ret trivial
 unfold F_2y
 refine Ok.ite (fun _ => Ok.ret trivial) fun _ => Ok.bind (P := fun _ => True) ?_ fun b _ => Ok.ite (fun _ => Ok.ret trivial) fun _ => Ok.bind (P := fun _ => True) ?_ fun b2 _ => Ok.ite (fun _ => Ok.ret trivial) fun _ => Ok.bind (P := fun _ => True) ?_ fun y _ => Ok.ret trivial
 ·unfold F_2u F_2t
  refine Ok.bind (P := fun _ => True) (Ok.bind (P := fun _ => True) (Ok.for (fun _ => True) _ _ _ trivial (fun k x s _ _ => ?_) fun _ _ => trivial) fun y _ => by cases y <;> exact Ok.ret trivial) fun y _ => Ok.ret trivial
  unfold F_3o F_2s
  exact Ok.bind (P := fun _ => True) (Ok.ret trivial) fun _ _ => Ok.ite (fun _ => Ok.ret trivial) fun _ => Ok.ret trivial
 ·unfold F_2x F_2w
  refine Ok.bind (P := fun _ => True) (Ok.bind (P := fun _ => True) (Ok.for (fun _ => True) _ _ _ trivial (fun k x s _ _ => ?_) fun _ _ => trivial) fun y _ => by cases y <;> exact Ok.ret trivial) fun y _ => Ok.ret trivial
  unfold F_3p F_2v
  exact Ok.bind (P := fun _ => True) (Ok.bind (dright_ok x) fun _ _ => Ok.ret trivial) fun _ _ => Ok.ite (fun _ => Ok.ret trivial) fun _ => Ok.ret trivial
 ·refine Ok.foldI (all := ops) (fun pre s => s.length ≤ 30000 * pre.length) ops [] 0 [] rfl rfl (by simp) (fun pre x r s hw hs => ?_) fun _ _ => trivial
  have hx := h x (by rw [hw]; simp)
  have hpl : pre.length ≤ 3 := by rw [hw] at hl; simp at hl; omega
  have go : ∀ a b c : Str, a.length = 1 → b.length = 3 → c.length ≤ 20000 → Ok (F_10 [s, a, b, c]) fun y => y.length ≤ 30000 * (pre ++ [x]).length := fun a b c ha hb hc => by
   refine (concat_ok (by simp) (fun y hy => ?_) (by simp; omega)).mono fun y hy => ?_
   ·simp only [List.mem_cons, List.not_mem_nil, or_false] at hy
    rcases hy with rfl | rfl | rfl | rfl <;> omega
   ·rw [hy]; simp; omega
  unfold F_3s
  refine Ok.ite (fun _ => ?_) fun _ => ?_
  ·exact Ok.bind (P := fun y => y.length = 3) (Ok.ret rfl) fun y hy => Ok.bind (P := fun y => y.length = 3) (Ok.ret rfl) fun z hz => Ok.bind (go _ _ _ rfl hy (by omega)) fun w hw => Ok.ret hw
  ·exact Ok.bind (P := fun y => y.length = 3) (Ok.ret rfl) fun y hy => Ok.bind (go _ _ _ rfl hy hx) fun w hw => Ok.ret hw
end Go.Ab
namespace Go.Ab
def errV : List GObject → Int
 | [] => 0
 | o :: r => bif decide (vlB o = 0) then errV r else vlB o
theorem errV_ok {o : GObject} {r : List GObject} (h : vlB o = 0) : errV (o :: r) = errV r := by
 show (bif decide (vlB o = 0) then errV r else vlB o) = errV r
 rw [decide_eq_true h]; rfl
theorem errV_bad {o : GObject} {r : List GObject} (h : ¬ vlB o = 0) : errV (o :: r) = vlB o := by
 show (bif decide (vlB o = 0) then errV r else vlB o) = vlB o
 rw [decide_eq_false h]; rfl
theorem errV_all : ∀ {l : List GObject}, errV l = 0 → ∀ o ∈ l, vlB o = 0
 | [], _, o, ho => by cases ho
 | x :: r, h, o, ho => by
  by_cases c : vlB x = 0
  ·rw [errV_ok c] at h
   rcases List.mem_cons.1 ho with rfl | ho
   ·exact c
   ·exact errV_all h o ho
  ·rw [errV_bad c] at h
   exact absurd h c
theorem errV_drop : ∀ {l : List GObject} (n : Nat), (∀ o ∈ l.take n, vlB o = 0) → errV l = errV (l.drop n)
 | l, 0, _ => rfl
 | [], n + 1, _ => rfl
 | x :: r, n + 1, h => by
  have hx := h x (by simp)
  have := errV_drop (l := r) n fun o ho => h o (by simp [ho])
  rw [errV_ok hx]
  exact this
def dupR (l : List GObject) (i : Nat) : Bool := (List.range' 0 i).all fun j => !decide ((l.getD i default).ID = (l.getD j default).ID)
def eM (l : List GObject) : Int := bif !decide (errV l = 0) then errV l else bif (List.range' 0 l.length).all (dupR l) then 0 else 7
def Rdb (l : List GObject) : Prop := ∀ o ∈ l, Lng o ∧ (o.Author.length : Int) ≤ 9223372036854775807
theorem rmake_eq {l : List GObject} (hl : l.length ≤ 400) (hr : Rdb l) : F_27 l = some (eM l) := by
 have get : ∀ n (hn : n < l.length), l.getD n default = l[n] := fun n hn => by simp [hn]
 refine Ok.eq ?_
 unfold F_27
 rw [decide_eq_false (by omega)]
 simp only [cond_false]
 refine Ok.bind (Ok.loop (Q := fun r => r = (bif decide (errV l = 0) then .inl () else .inr (errV l))) (fun i : Int => ∃ n : Nat, i = n ∧ n ≤ l.length ∧ ∀ o ∈ l.take n, vlB o = 0) (fun i => (l.length - i).toNat) (fun i hi => ?_) 0 ⟨0, rfl, by omega, by simp⟩) fun r hr' => ?_
 ·obtain ⟨n, rfl, hn, hv⟩ := hi
  have hd := errV_drop n hv
  unfold F_47
  refine Ok.ite (fun c => ?_) fun c => ?_
  ·have c := of_decide_eq_true c
   have hn' : n < l.length := by omega
   have e1 : ((n : Int)).toNat = n := by simp
   obtain ⟨r1, r2⟩ := hr _ (List.getElem_mem hn')
   rw [e1, get n hn', rvalid_any r1 r2]
   simp only [Option.bind_some]
   rw [List.drop_eq_getElem_cons hn'] at hd
   refine Ok.chk (kB hn') (Ok.ite (fun c2 => Ok.ret ?_) fun c2 => Ok.chk (in64_iff.2 ⟨by omega, by omega⟩) (Ok.ret ⟨⟨n + 1, by simp, by omega, fun o ho => ?_⟩, by omega⟩))
   ·have c2 : ¬ vlB l[n] = 0 := by simpa using c2
    rw [errV_bad c2] at hd
    rw [hd, decide_eq_false c2]; rfl
   ·have c2 : vlB l[n] = 0 := by simpa using c2
    rw [List.take_succ_eq_append_getElem hn'] at ho
    rcases List.mem_append.1 ho with ho | ho
    ·exact hv o ho
    ·simp at ho; subst ho; exact c2
  ·have c := of_decide_eq_false c
   have : n = l.length := by omega
   subst this
   rw [List.drop_length] at hd
   refine Ok.ret ?_
   rw [hd]; rfl
 ·subst hr'
  unfold eM
  by_cases he : errV l = 0
  ·rw [decide_eq_true he]
   simp only [cond_true, Sum.elim_inl, Bool.not_true, cond_false]
   rw [loop_all0 (p := dupR l) (r := 7) (n := l.length) (by unfold F_3t; rw [dlt]; rfl) fun i hi => by
    have e : ((i : Int)).toNat = i := by simp
    have c : decide ((i : Int) < (l.length : Int)) = true := by simpa using hi
    have c3 : in64 ((i : Int) + 1) = true := in64_iff.2 ⟨by omega, by omega⟩
    have hin := loop_all0 (step := F_32 l i) (p := fun j => !decide ((l.getD i default).ID = (l.getD j default).ID)) (r := 7) (n := i) (by unfold F_32; rw [dlt]; rfl) fun j hj => by
     have e2 : ((j : Int)).toNat = j := by simp
     have d : decide ((j : Int) < (i : Int)) = true := by simpa using hj
     have d3 : in64 ((j : Int) + 1) = true := in64_iff.2 ⟨by omega, by omega⟩
     unfold F_32
     rw [d, kB hi, kB (show j < l.length by omega), d3, e, e2]
     cases decide ((l.getD i default).ID = (l.getD j default).ID) <;> rfl
    unfold F_3t
    rw [c, c3, hin]
    unfold dupR
    cases (List.range' 0 i).all fun j => !decide ((l.getD i default).ID = (l.getD j default).ID) <;> rfl]
   cases (List.range' 0 l.length).all (dupR l) <;> exact Ok.ret rfl
  ·rw [decide_eq_false he]
   exact Ok.ret rfl
theorem has_eq (a : GObject) : ∀ (s : List GObject) (k : Int),0 ≤ k → ∃ j, 0 ≤ j ∧ forL (F_2q a) s k () = some (bif s.any (fun z => decide (z.ID = a.ID)) then .ex j else .nx ())
 | [], k, h => ⟨0, by omega, rfl⟩
 | x :: q, k, h => by
  simp only [forL, F_2q, F_n, List.any_cons, Option.bind_some]
  by_cases hx : x.ID = a.ID
  ·exact ⟨k, h, by simp [hx, Fl.elim]⟩
  ·obtain ⟨j, h1, h2⟩ := has_eq a q (k + 1) (by omega)
   exact ⟨j, h1, by simpa [hx, Fl.elim] using h2⟩
theorem hasF_eq (s : List GObject) (a : GObject) : F_1z s a = some (s.any (fun z => decide (z.ID = a.ID))) := by
 unfold F_1z F_2r
 obtain ⟨j, h1, h2⟩ := has_eq a s 0 (by omega)
 rw [h2]
 cases s.any (fun z => decide (z.ID = a.ID)) with
 | false => rfl
 | true => simp [h1, Fl.elim]
theorem any_dup {l : List GObject} {i : Nat} (hi : i < l.length) : (l.take i).any (fun z => decide (z.ID = l[i].ID)) = !dupR l i := by
 have e1 : l.getD i default = l[i] := by simp [hi]
 rw [Bool.eq_iff_iff]
 simp only [List.any_eq_true, Bool.not_eq_true', dupR, List.all_eq_false, List.mem_range'_1, e1, decide_eq_true_eq]
 constructor
 ·rintro ⟨z, hz, e⟩
  obtain ⟨j, hj, rfl⟩ := List.mem_take_iff_getElem.1 hz
  refine ⟨j, by omega, ?_⟩
  have : j < l.length := by omega
  simp [this, e]
 ·rintro ⟨j, hj, e⟩
  have hjl : j < l.length := by omega
  refine ⟨l[j], List.mem_take_iff_getElem.2 ⟨j, by omega, rfl⟩, ?_⟩
  have : l.getD j default = l[j] := by simp [hjl]
  rw [this] at e
  have e' : l[i].ID = l[j].ID := by simpa using e
  exact e'.symm
theorem mk1_eq : ∀ (l : List GObject) (k : Int), forL F_2z l k () = some (bif decide (errV l = 0) then .nx () else .ex ([], errV l))
 | [], k => rfl
 | o :: r, k => by
  simp only [forL, F_2z, valid_any, Option.bind_some]
  by_cases h : vlB o = 0
  ·rw [errV_ok h, decide_eq_true h]
   simp only [Bool.not_true, cond_false, cond_true, Option.bind_some, Fl.elim]
   exact mk1_eq r (k + 1)
  ·rw [errV_bad h, decide_eq_false h]
   rfl
theorem mk2_eq {l : List GObject} (hl : l.length ≤ 400) : forL (F_30 l) l 0 () = some (bif (List.range' 0 l.length).all (dupR l) then .nx () else .ex ([],7)) :=
 forL_all0 (p := dupR l) (r := ([],7)) l fun i hi => by
  have e : ((i : Int)).toNat = i := by simp
  unfold F_30
  rw [inc_iff.2 ⟨by omega, by omega, by omega⟩, e, hasF_eq, any_dup hi]
  simp only [chk, cond_true, Option.bind_some]
  cases dupR l i <;> rfl
def btO (l : List GObject) (i : Nat) : Str := txt (l.getD i default)
def PM (l : List GObject) (n : Nat) (out : List GPacked) (d : Nat → Nat) : Prop :=
 out.length = n ∧ ∀ i (h : i < out.length), out[i].ID = (l.getD i default).ID ∧ d i ≤ i ∧ d i ≤ 20 ∧ ((out[i].Delta = false ∧ out[i].Base = 0 ∧ out[i].Ops = [] ∧ d i = 0 ∧ out[i].Data = btO l i) ∨
  (out[i].Delta = true ∧ out[i].Data = [] ∧ 0 < i ∧ out[i].Base = (l.getD (i - 1) default).ID ∧ d i = d (i - 1) + 1 ∧ F_o (btO l (i - 1)) out[i].Ops = some (btO l i, 0)))
theorem PM.add {l : List GObject} {n : Nat} {out : List GPacked} {d : Nat → Nat} (h : PM l n out d) {p : GPacked} {q : Nat} (hp : p.ID = (l.getD n default).ID) (hq : q ≤ 20)
  (hc : (p.Delta = false ∧ p.Base = 0 ∧ p.Ops = [] ∧ q = 0 ∧ p.Data = btO l n) ∨ (p.Delta = true ∧ p.Data = [] ∧ 0 < n ∧ p.Base = (l.getD (n - 1) default).ID ∧ q = d (n - 1) + 1 ∧ F_o (btO l (n - 1)) p.Ops = some (btO l n, 0))) : ∃ d', PM l (n + 1) (out ++ [p]) d' ∧ d' n = q := by
 obtain ⟨h1, h2⟩ := h
 refine ⟨fun i => if i = n then q else d i, ⟨by simp [h1], fun i hi => ?_⟩, by simp⟩
 by_cases e : i < out.length
 ·rw [List.getElem_append_left e]
  obtain ⟨k1, k2, k3⟩ := h2 i e
  have n1 : ¬ i = n := by omega
  have n2 : ¬ i - 1 = n := by omega
  simp only [if_neg n1, if_neg n2]
  exact ⟨k1, k2, k3⟩
 ·have : i = out.length := by simp at hi; omega
  subst this
  have n2 : ∀ x, 0 < n → (if n - 1 = n then x else d (n - 1)) = d (n - 1) := fun x h => if_neg (by omega)
  rw [List.getElem_concat_length rfl]
  simp only [h1, if_true]
  rcases hc with ⟨a1, a2, a3, a0, a4⟩ | ⟨a1, a2, a3, a4, a0, a5⟩
  ·exact ⟨hp, by omega, hq, .inl ⟨a1, a2, a3, a0, a4⟩⟩
  ·have hd : d (n - 1) ≤ n - 1 := (h2 (n - 1) (by omega)).2.1
   refine ⟨hp, by omega, hq, .inr ⟨a1, a2, a3, a4, ?_, a5⟩⟩
   rw [n2 _ a3]; exact a0
theorem fmt_txt {o : GObject} (hf : Few o) (hv : vlB o = 0) : F_20 o = some (txt o, 0) := by
 unfold F_20
 rw [valid_any, hv]
 simp only [Option.bind_some, decide_true, Bool.not_true, cond_false]
 rw [(write_txt hf (vl_VO hv)).1]
 rfl
def Gd (l : List GObject) : Prop := l.length ≤ 400 ∧ ∀ o ∈ l, Few o ∧ vlB o = 0
theorem Gd.get {l : List GObject} (h : Gd l) {i : Nat} (hi : i < l.length) : l.getD i default = l[i] ∧ Few l[i] ∧ vlB l[i] = 0 ∧ btO l i = txt l[i] ∧ (btO l i).length ≤ 20000 := by
 have e : l.getD i default = l[i] := by simp [hi]
 obtain ⟨h1, h2⟩ := h.2 _ (List.getElem_mem hi)
 have := (txt_len h1 (vl_VO h2)).2
 exact ⟨e, h1, h2, by unfold btO; rw [e], by unfold btO; rw [e]; exact this⟩
theorem mk3_ok {l : List GObject} (h : Gd l) : Ok (foldL (F_31 l) l 0 ([],0,[])) fun x => ∃ d, PM l l.length x.2.2 d := by
 have hlen := h.1
 refine Ok.foldI (all := l) (fun pre (x : List UInt8 × Int × List GPacked) => ∃ d : Nat → Nat, PM l pre.length x.2.2 d ∧ 0 ≤ x.2.1 ∧ x.2.1 ≤ 20 ∧ (pre.length = 0 → x.1 = [] ∧ x.2.1 = 0) ∧ (0 < pre.length → x.1 = btO l (pre.length - 1) ∧ x.2.1 = (d (pre.length - 1) : Int))) l [] 0 _ rfl rfl ⟨fun _ => 0, ⟨rfl, fun i h => absurd h (by simp)⟩, by simp, by simp, fun _ => ⟨rfl, rfl⟩, fun h => absurd h (by simp)⟩ (fun pre o r x hw hx => ?_) fun x hx => by obtain ⟨d, h1, _⟩ := hx; exact ⟨d, h1⟩
 obtain ⟨last, deltas, out⟩ := x
 obtain ⟨d, hd, d0, d20, hz, hp⟩ := hx
 simp only at hd d0 d20 hz hp
 have hpl : pre.length < l.length := by rw [hw]; simp
 have hx : l[pre.length] = o := by simp [hw]
 obtain ⟨g1, g2, g3, g4, g5⟩ := h.get hpl
 rw [hx] at g1 g2 g3 g4
 have hol : out.length = pre.length := hd.1
 have hll : last.length ≤ 20000 := by
  by_cases c : pre.length = 0
  ·rw [(hz c).1]; simp
  ·rw [(hp (by omega)).1]; exact (h.get (i := pre.length - 1) (by omega)).2.2.2.2
 unfold F_31
 rw [fmt_txt g2 g3, ← g4]
 simp only [Option.bind_some]
 refine Ok.chk (in64_iff.2 ⟨by omega, by omega⟩) ?_
 refine Ok.jn (P := fun j : Int × GPacked => 0 ≤ j.1 ∧ j.1 ≤ 20 ∧ ∃ d', PM l (pre.length + 1) (out ++ [j.2]) d' ∧ (d' pre.length : Int) = j.1) ?_ fun j hj => ?_
 ·refine Ok.bind (dmake_ok hll g5) fun m hm => Ok.grp (Ok.grp ?_)
  obtain ⟨m1, m2⟩ := hm
  refine Ok.jn (P := fun b => b = true → 0 < pre.length ∧ deltas + 1 ≤ 20) (Ok.ite (fun c => Ok.bind (size_ok m2.2.1 fun o ho => (m2.2.2.2.1 o ho).1) fun s _ => Ok.ret fun _ => ?_) fun _ => Ok.ret fun h => by cases h) fun b hb => Ok.ite (fun c => ?_) fun _ => ?_
  ·simp only [Bool.and_eq_true, decide_eq_true_eq] at c
   exact ⟨by omega, c.2⟩
  ·obtain ⟨b1, b2⟩ := hb c
   obtain ⟨q1, q2⟩ := hp b1
   have e2 : ((pre.length : Int) - 1).toNat = pre.length - 1 := by omega
   refine Ok.chk (in64_iff.2 ⟨by omega, by omega⟩) (Ok.chk (inb_iff.2 ⟨by omega, by omega⟩) (Ok.ret ⟨by simp only; omega, by simp only; omega, ?_⟩))
   have hap := apply12_ops m2.1 (by have := m2.2.1; omega) (by omega) m2.2.2.1
   rw [m2.2.2.2.2, q1] at hap
   obtain ⟨d', k1, k2⟩ := hd.add (p := GPacked.mk o.ID true ((l.getD ((pre.length : Int) - 1).toNat default).ID) m.1 []) (q := (deltas + 1).toNat) (by rw [g1]) (by omega) (.inr ⟨rfl, rfl, b1, by rw [e2], by omega, hap⟩)
   exact ⟨d', k1, by rw [k2]; simp only; omega⟩
  ·obtain ⟨d', k1, k2⟩ := hd.add (p := GPacked.mk o.ID false 0 [] (btO l pre.length)) (q := 0) (by rw [g1]) (by omega) (.inl ⟨rfl, rfl, rfl, rfl, rfl⟩)
   exact Ok.ret ⟨by simp, by simp, d', k1, by rw [k2]; rfl⟩
 ·obtain ⟨j0, j20, d', k1, k2⟩ := hj
  refine Ok.chk (room_iff.2 (by simp; omega)) (Ok.ret ⟨d', ?_, j0, j20, ?_, ?_⟩)
  ·simpa using k1
  ·intro c; simp at c
  ·intro _
   simp only [List.length_append, List.length_cons, List.length_nil]
   exact ⟨by simp, by simp; omega⟩
theorem make_ok {l : List GObject} (hl : l.length ≤ 400) (hg : eM l = 0 → Gd l) : ∃ p, F_26 l = some (p, eM l) ∧ (eM l = 0 → ∃ d, PM l l.length p d) := by
 unfold F_26
 rw [decide_eq_false (by omega), mk1_eq]
 simp only [cond_false, Option.bind_some]
 by_cases he : errV l = 0
 ·rw [decide_eq_true he]
  simp only [cond_true]
  rw [Fl_nx, mk2_eq hl]
  simp only [Option.bind_some]
  cases ha : (List.range' 0 l.length).all (dupR l) with
  | true =>
   simp only [cond_true]
   rw [Fl_nx]
   have e0 : eM l = 0 := by unfold eM; rw [decide_eq_true he, ha]; rfl
   obtain ⟨x, ex, hx⟩ := mk3_ok (hg e0)
   rw [ex]
   exact ⟨x.2.2, by rw [e0]; rfl, fun _ => hx⟩
  | false =>
   have e0 : eM l = 7 := by unfold eM; rw [decide_eq_true he, ha]; rfl
   exact ⟨[], by rw [e0]; rfl, fun h => by rw [e0] at h; cases h⟩
 ·rw [decide_eq_false he]
  have e0 : eM l = errV l := by unfold eM; rw [decide_eq_false he]; rfl
  exact ⟨[], by rw [e0]; rfl, fun h => by rw [e0] at h; exact absurd h he⟩
end Go.Ab
namespace Go.Ab
structure PX (l : List GPacked) (d : Nat → Nat) (bt : Nat → Str) : Prop where
 len : l.length ≤ 400
 id : ∀ i (h : i < l.length), idB l[i].ID = true
 inj : ∀ i j (hi : i < l.length) (hj : j < l.length), l[i].ID = l[j].ID → i = j
 ent : ∀ i (h : i < l.length), (l[i].Delta = false ∧ l[i].Base = 0 ∧ l[i].Ops = [] ∧ d i = 0 ∧ l[i].Data = bt i) ∨
  (l[i].Delta = true ∧ l[i].Data = [] ∧ ∃ j, ∃ hj : j < l.length, l[j].ID = l[i].Base ∧ d i = d j + 1 ∧ F_o (bt j) l[i].Ops = some (bt i, 0))
 dep : ∀ i, i < l.length → d i ≤ 20 ∧ d i ≤ l.length
 sm : ∀ i, i < l.length → (bt i).length ≤ 1000000
section
variable {l : List GPacked} {d : Nat → Nat} {bt : Nat → Str}
theorem at_ok (h : PX l d bt) {i : Nat} (hi : i < l.length) : F_b l l[i].ID = some (i : Int) := by
 have hlen := h.len
 refine Ok.eq ?_
 unfold F_b
 refine Ok.bind (Ok.loop (Q := fun r => r = .inl (i : Int)) (fun x : Int × Int => ∃ m : Nat, x.2 = m ∧ m ≤ l.length ∧ x.1 = if i < m then (i : Int) else -1) (fun x => (l.length - x.2).toNat) (fun x hx => ?_) _ ⟨0, rfl, by omega, by simp⟩) fun r hr => by subst hr; exact Ok.ret rfl
 obtain ⟨o, n⟩ := x
 obtain ⟨m, rfl, hm, rfl⟩ := hx
 unfold F_48
 simp only
 refine Ok.ite (fun c => ?_) fun c => ?_
 ·have c := of_decide_eq_true c
  have hm' : m < l.length := by omega
  have e1 : ((m : Int)).toNat = m := by simp
  have e2 : l.getD m default = l[m] := by simp [hm']
  rw [e1, e2]
  refine Ok.jn (P := fun o : Fl Int Int => o = .nx (if i < m + 1 then (i : Int) else -1)) (Ok.chk (kB hm') (Ok.ite (fun c2 => ?_) fun c2 => Ok.ret ?_)) fun o ho => ?_
  ·have c2 := of_decide_eq_true c2
   have : m = i := h.inj m i hm' hi c2
   subst this
   refine Ok.ite (fun c3 => ?_) fun _ => Ok.ret ?_
   ·have c3 := of_decide_eq_true c3
    rw [if_neg (Nat.lt_irrefl _)] at c3; omega
   ·rw [if_pos (Nat.lt_succ_self _)]
  ·have c2 := of_decide_eq_false c2
   have hne : m ≠ i := fun e => c2 (by subst e; rfl)
   by_cases c3 : i < m
   ·rw [if_pos c3, if_pos (by omega)]
   ·rw [if_neg c3, if_neg (by omega)]
  ·subst ho
   rw [Fl_nx]
   exact Ok.chk (in64_iff.2 ⟨by omega, by omega⟩) (Ok.ret ⟨⟨m + 1, by simp, by omega, rfl⟩, by simp only; omega⟩)
 ·have c := of_decide_eq_false c
  refine Ok.ret ?_
  show Sum.inl (if i < m then (i : Int) else -1) = Sum.inl (i : Int)
  rw [if_pos (by omega)]
theorem rchain_go (h : PX l d bt) : ∀ (k i n : Nat) (hi : i < l.length), d i = k → n + k ≤ l.length →
  loop (F_16 l) (l[i].ID, (n : Int)) = some (.inr ((n + k : Nat) : Int))
 | k, i, n, hi, hk, hn => by
  have hlen := h.len
  have c1 : decide ((n : Int) ≤ (l.length : Int)) = true := decide_eq_true (by omega)
  have c2 : inb (i : Int) l.length = true := kB hi
  have c3 : in64 ((n : Int) + 1) = true := in64_iff.2 ⟨by omega, by omega⟩
  have c4 : decide ((i : Int) < 0) = false := decide_eq_false (by omega)
  have e1 : ((i : Int)).toNat = i := by simp
  have e2 : l.getD i default = l[i] := by simp [hi]
  rcases h.ent i hi with ⟨a1, a2, a3, a4, a5⟩ | ⟨a1, a2, j, hj, a3, a4, a5⟩
  ·have : k = 0 := by omega
   subst this
   have key : F_16 l (l[i].ID, (n : Int)) = some (.ex (.inr (n : Int))) := by
    unfold F_16
    simp only
    rw [at_ok h hi]
    simp only [Option.bind_some]
    rw [c1, c2, c4, e1, e2, a1]
    rfl
   rw [loop_eq, key]; rfl
  ·obtain ⟨k, rfl⟩ : ∃ q, k = q + 1 := ⟨d j, by omega⟩
   have key : F_16 l (l[i].ID, (n : Int)) = some (.nx (l[i].Base, (n : Int) + 1)) := by
    unfold F_16
    simp only
    rw [at_ok h hi]
    simp only [Option.bind_some]
    rw [c1, c2, c3, c4, e1, e2, a1]
    rfl
   have ih := rchain_go h k j (n + 1) hj (by omega) (by omega)
   rw [loop_eq, key, ← a3]
   refine Eq.trans ih ?_
   congr 3; omega
theorem rchain_ok (h : PX l d bt) {i : Nat} (hi : i < l.length) : F_11 l l[i].ID = some (d i : Int) := by
 have := rchain_go h (d i) i 0 hi rfl (by have := (h.dep i hi).2; omega)
 unfold F_11
 simp only [Int.natCast_zero, Nat.zero_add] at this
 rw [this]; rfl
theorem rbytes_ev (h : PX l d bt) : ∀ (k i : Nat) (hi : i < l.length), d i = k → EvS (fun n => FR_3 n l l[i].ID) (bt i, true)
 | k, i, hi, hk => by
  have c2 : inb (i : Int) l.length = true := kB hi
  have c4 : decide ((d i : Int) < 0) = false := decide_eq_false (by omega)
  have e1 : ((i : Int)).toNat = i := by simp
  have e2 : l.getD i default = l[i] := by simp [hi]
  rcases h.ent i hi with ⟨a1, a2, a3, a4, a5⟩ | ⟨a1, a2, j, hj, a3, a4, a5⟩
  ·refine ⟨1, fun n hn => ?_⟩
   obtain ⟨n, rfl⟩ : ∃ q, n = q + 1 := ⟨n - 1, by omega⟩
   simp only [FR_3]
   rw [rchain_ok h hi, at_ok h hi]
   simp only [Option.bind_some]
   rw [c4, c2, e1, e2, a1, a5, room_iff.2 (by have := h.sm i hi; simp; omega)]
   rfl
  ·obtain ⟨k, rfl⟩ : ∃ q, k = q + 1 := ⟨d j, by omega⟩
   obtain ⟨n0, hn0⟩ := rbytes_ev h k j hj (by omega)
   refine ⟨n0 + 1, fun n hn => ?_⟩
   obtain ⟨n, rfl⟩ : ∃ q, n = q + 1 := ⟨n - 1, by omega⟩
   have ih := hn0 n (by omega)
   simp only at ih
   simp only [FR_3]
   rw [rchain_ok h hi, at_ok h hi]
   simp only [Option.bind_some]
   rw [c4, c2, e1, e2, a1, ← a3, ih]
   simp only [Option.bind_some, a5]
   rfl
theorem rbytes_ok (h : PX l d bt) {i : Nat} (hi : i < l.length) : F_3 l l[i].ID = some (bt i, true) :=
 lim_of (rbytes_ev h (d i) i hi rfl)
theorem shape1 (h : PX l d bt) : loop (F_33 l) 0 = some (.inl ()) := by
 have hlen := h.len
 have get : ∀ n (hn : n < l.length), l.getD n default = l[n] := fun n hn => by simp [hn]
 rw [loop_all0 (p := fun _ => true) (r := 0) (n := l.length) (by unfold F_33; rw [dlt]; rfl) fun i hi => by
  have e : ((i : Int)).toNat = i := by simp
  have c : decide ((i : Int) < (l.length : Int)) = true := by simpa using hi
  have c3 : in64 ((i : Int) + 1) = true := in64_iff.2 ⟨by omega, by omega⟩
  unfold F_33
  rw [c, kB hi, c3, e, get i hi, rid_eq, h.id i hi]
  rcases h.ent i hi with ⟨a1, a2, a3, a4, a5⟩ | ⟨a1, a2, j, hj, a3, a4, a5⟩
  ·rw [a1, a2, a3]; rfl
  ·rw [a1, a2]; rfl]
 rw [List.all_eq_true.2 fun _ _ => rfl]
 rfl
theorem shape2 (h : PX l d bt) : loop (F_34 l) 0 = some (.inl ()) := by
 have hlen := h.len
 have get : ∀ n (hn : n < l.length), l.getD n default = l[n] := fun n hn => by simp [hn]
 rw [loop_all0 (p := fun _ => true) (r := 0) (n := l.length) (by unfold F_34; rw [dlt]; rfl) fun i hi => by
  have e : ((i : Int)).toNat = i := by simp
  have c : decide ((i : Int) < (l.length : Int)) = true := by simpa using hi
  have c3 : in64 ((i : Int) + 1) = true := in64_iff.2 ⟨by omega, by omega⟩
  unfold F_34
  rw [c, kB hi, c3, e, get i hi, at_ok h hi]
  simp only [Option.bind_some]
  rw [decide_eq_false (show ¬ (i : Int) < 0 by omega)]
  rfl]
 rw [List.all_eq_true.2 fun _ _ => rfl]
 rfl
theorem shape3 (h : PX l d bt) : loop (F_35 l) 0 = some (.inl ()) := by
 have hlen := h.len
 have get : ∀ n (hn : n < l.length), l.getD n default = l[n] := fun n hn => by simp [hn]
 rw [loop_all0 (p := fun _ => true) (r := 0) (n := l.length) (by unfold F_35; rw [dlt]; rfl) fun i hi => by
  have e : ((i : Int)).toNat = i := by simp
  have c : decide ((i : Int) < (l.length : Int)) = true := by simpa using hi
  have c3 : in64 ((i : Int) + 1) = true := in64_iff.2 ⟨by omega, by omega⟩
  unfold F_35
  rw [c, kB hi, c3, e, get i hi]
  rcases h.ent i hi with ⟨a1, a2, a3, a4, a5⟩ | ⟨a1, a2, j, hj, a3, a4, a5⟩
  ·rw [a1]; rfl
  ·rw [a1, ← a3, at_ok h hj]
   simp only [Option.bind_some, cond_true, chk, jn]
   rw [decide_eq_false (show ¬ (j : Int) < 0 by omega)]
   rfl]
 rw [List.all_eq_true.2 fun _ _ => rfl]
 rfl
theorem shape4 (h : PX l d bt) : Ok (loop (F_3u l) (0,0)) fun r => ∃ q, r = .inl q ∧ q ≤ 20 := by
 have hlen := h.len
 have get : ∀ n (hn : n < l.length), l.getD n default = l[n] := fun n hn => by simp [hn]
 refine Ok.loop (Q := fun r : Sum Int Int => ∃ q, r = .inl q ∧ q ≤ 20) (fun x : Int × Int => ∃ m : Nat, x.2 = m ∧ m ≤ l.length ∧ x.1 ≤ 20) (fun x => (l.length - x.2).toNat) (fun x hx => ?_) _ ⟨0, rfl, by omega, by simp⟩
 obtain ⟨o, n⟩ := x
 obtain ⟨m, hmn, hm, h20⟩ := hx
 simp only at hmn h20
 subst hmn
 unfold F_3u
 refine Ok.ite (fun c => ?_) fun c => Ok.ret ⟨o, rfl, h20⟩
 have c := of_decide_eq_true c
 have hm' : m < l.length := by simp only at c; omega
 have e1 : (((m : Int))).toNat = m := by simp
 have hd := (h.dep m hm').1
 refine Ok.chk (kB hm') (Ok.bind (Ok.of (x := (d m : Int)) (by rw [e1, get m hm', rchain_ok h hm']) rfl) fun y hy => ?_)
 subst hy
 exact Ok.ite (fun c2 => absurd (of_decide_eq_true c2) (by omega)) fun _ => Ok.chk (in64_iff.2 ⟨by simp only; omega, by simp only; omega⟩) (Ok.ret ⟨⟨m + 1, by simp, by omega, Int.max_le.2 ⟨h20, by omega⟩⟩, by simp only; omega⟩)
theorem shape_ok (h : PX l d bt) : F_28 l = some 0 := by
 have hlen := h.len
 refine Ok.eq ?_
 unfold F_28
 refine Ok.ite (fun c => absurd (of_decide_eq_true c) (by omega)) fun _ => ?_
 refine Ok.bind (Ok.of (shape1 h) rfl) fun r hr => ?_
 subst hr
 rw [Sum_inl]
 refine Ok.bind (Ok.of (shape2 h) rfl) fun r hr => ?_
 subst hr
 rw [Sum_inl]
 refine Ok.bind (Ok.of (shape3 h) rfl) fun r hr => ?_
 subst hr
 rw [Sum_inl]
 refine Ok.bind (shape4 h) fun r hr => ?_
 obtain ⟨q, rfl, hq⟩ := hr
 rw [Sum_inl]
 exact Ok.ite (fun c => absurd (of_decide_eq_true c) (by omega)) fun _ => Ok.ret rfl
theorem rresolve_ok (h : PX l d bt) {ob : Nat → GObject} (ho : ∀ i (hi : i < l.length), F_15 l[i].ID (bt i) = some (ob i, 0)) : F_2b l = some ((List.range' 0 l.length).map ob, 0) := by
 have hlen := h.len
 have get : ∀ n (hn : n < l.length), l.getD n default = l[n] := fun n hn => by simp [hn]
 have rs : ∀ {α : Type} (f : Nat → α) (m : Nat), (List.range' 0 (m + 1)).map f = (List.range' 0 m).map f ++ [f m] := fun f m => by
  rw [List.range'_1_concat, List.map_append]; simp
 refine Ok.eq ?_
 unfold F_2b
 rw [shape_ok h]
 simp only [Option.bind_some, decide_true, Bool.not_true, cond_false]
 refine Ok.bind (Ok.loop (Q := fun r => r = .inl ((List.range' 0 l.length).map bt)) (fun x : Int × List (List UInt8) => ∃ m : Nat, x.1 = m ∧ m ≤ l.length ∧ x.2 = (List.range' 0 m).map bt) (fun x => (l.length - x.1).toNat) (fun x hx => ?_) _ ⟨0, rfl, by omega, rfl⟩) fun r hr => ?_
 ·obtain ⟨n, o⟩ := x
  obtain ⟨m, rfl, hm, rfl⟩ := hx
  unfold F_4b
  simp only
  refine Ok.ite (fun c => ?_) fun c => ?_
  ·have c := of_decide_eq_true c
   have hm' : m < l.length := by omega
   have e1 : ((m : Int)).toNat = m := by simp
   rw [e1, get m hm', rbytes_ok h hm']
   simp only [Option.bind_some]
   refine Ok.chk (kB hm') (Ok.ite (fun c2 => by cases c2) fun _ => Ok.chk (room_iff.2 (by simp; omega)) (Ok.chk (in64_iff.2 ⟨by omega, by omega⟩) (Ok.ret ⟨⟨m + 1, by simp, by omega, (rs bt m).symm⟩, by simp only; omega⟩)))
  ·have c := of_decide_eq_false c
   have : m = l.length := by omega
   subst this
   exact Ok.ret rfl
 ·subst hr
  simp only [Sum.elim_inl]
  refine Ok.bind (Ok.loop (Q := fun r => r = .inl ((List.range' 0 l.length).map ob)) (fun x : Int × List GObject => ∃ m : Nat, x.1 = m ∧ m ≤ l.length ∧ x.2 = (List.range' 0 m).map ob) (fun x => (l.length - x.1).toNat) (fun x hx => ?_) _ ⟨0, rfl, by omega, rfl⟩) fun r hr => by subst hr; exact Ok.ret rfl
  obtain ⟨n, o⟩ := x
  obtain ⟨m, rfl, hm, rfl⟩ := hx
  unfold F_4c
  simp only
  refine Ok.ite (fun c => ?_) fun c => ?_
  ·have c := of_decide_eq_true c
   have hm' : m < l.length := by omega
   have e1 : ((m : Int)).toNat = m := by simp
   have e3 : ((List.range' 0 l.length).map bt).getD m default = bt m := by
    rw [List.getD_eq_getElem?_getD, List.getElem?_map, List.getElem?_range' hm']
    simp
   rw [e1, get m hm', e3, ho m hm']
   simp only [Option.bind_some]
   refine Ok.chk (kB hm') (Ok.chk (inb_iff.2 ⟨by omega, by simp; omega⟩) (Ok.ite (fun c2 => by simp at c2) fun _ => Ok.chk (room_iff.2 (by simp; omega)) (Ok.chk (in64_iff.2 ⟨by omega, by omega⟩) (Ok.ret ⟨⟨m + 1, by simp, by omega, (rs ob m).symm⟩, by simp only; omega⟩))))
  ·have c := of_decide_eq_false c
   have : m = l.length := by omega
   subst this
   exact Ok.ret rfl
end
end Go.Ab
set_option maxRecDepth 20000
namespace Go.Ab
open Go.Proofs
theorem acall_fact {P : Program} {f : FuncId} {ys : List V} {H : Heap} {Q : V → Heap → Prop} (hc : callable P f = true) (h : (∀ y ∈ ys, y.fact) → ACall P f ys H Q) : ACall P f ys H Q :=
 ⟨hc, fun g w vals hH hs hr => (h fun y hy => by
  obtain ⟨i, hi⟩ := List.getElem?_of_mem hy
  exact (hr i y hi).fact).2 g w vals hH hs hr⟩
theorem awake14 : F_1o = some true := by
 have ha : F_j [98,108,111,98,10,97,98] [GOp.mk 0 6 []] = some ([98,108,111,98,10,97],0) := by
  have h1 : ∀ o ∈ [GOp.mk 0 6 []], opOK ([98,108,111,98,10,97,98] : Str).length o := fun o ho => by
   simp at ho; subst ho
   exact .inr ⟨by decide, by decide, rfl, by simp⟩
  rw [apply_ops h1 (by simp) (by simp) (by simp [opN])]
  rfl
 have hpk := pk_two (p := 1) (q := 2) (b := [98,108,111,98,10,97,98]) (c := [98,108,111,98,10,97]) (by decide) (by decide) (by decide) (by simp) (by simp) ha
 have fw : ∀ (i : Int) (d : Str), d.length ≤ 100 → Few (GObject.mk i 1 d [] 0 [] [] 0) := fun i d h => ⟨by simp only; omega, by simp, by simp, by simp⟩
 have p1 : F_k 1 [98,108,111,98,10,97,98] = some (GObject.mk 1 1 [97,98] [] 0 [] [] 0,0) := parse_back (o := GObject.mk 1 1 [97,98] [] 0 [] [] 0) (fw _ _ (by simp)) (by decide)
 have p2 : F_k 2 [98,108,111,98,10,97] = some (GObject.mk 2 1 [97] [] 0 [] [] 0,0) := parse_back (o := GObject.mk 2 1 [97] [] 0 [] [] 0) (fw _ _ (by simp)) (by decide)
 have hres := resolve_ok hpk (ob := fun i => bif decide (i = 0) then GObject.mk 1 1 [97,98] [] 0 [] [] 0 else GObject.mk 2 1 [97] [] 0 [] [] 0) fun i hi => by
  match i, hi with
  | 0, _ => exact p1
  | 1, _ => exact p2
  | i + 2, h => simp at h; omega
 have hc := Chain_ok hpk (i := 1) (by simp)
 unfold F_1o
 rw [hres]
 simp only [Option.bind_some, List.length_cons, List.length_nil, List.range'_succ, List.range'_zero, List.map_cons, List.map_nil, grp, jn, chk]
 rw [show F_13 [GPacked.mk 1 false 0 [] [98,108,111,98,10,97,98], GPacked.mk 2 true 1 [GOp.mk 0 6 []] []] 2 = some 1 from hc]
 simp [inb]
theorem wrap_id {x : Int} (h1 : -9223372036854775808 ≤ x) (h2 : x ≤ 9223372036854775807) : IntKind.wrap .i64 x = x := by
 simp only [IntKind.wrap, IntKind.signed, IntKind.bits]
 simp
 omega
def szO (o : GObject) : Int := (o.Data.length : Int) + (o.Items.length : Int) + (o.Parents.length : Int)
def Sml (a : List GObject) : Prop := a.length ≤ 400 ∧ ∀ o ∈ a, o.Data.length ≤ 65536 ∧ o.Items.length ≤ 64 ∧ o.Parents.length ≤ 8
theorem count_ok {a : List GObject} (hl : (a.length : Int) ≤ 9223372036854775807) : Ok (loop (F_3x a) (0,0)) fun r => Sml a → r = (a.map szO).sum := by
 refine Ok.loop (fun x : Int × Int => ∃ n : Nat, x.2 = n ∧ n ≤ a.length ∧ (Sml a → x.1 = ((a.map szO).take n).sum)) (fun x => (a.length - x.2).toNat) (fun x hx => ?_) _ ⟨0, rfl, by omega, fun _ => by simp⟩
 obtain ⟨s, i⟩ := x
 obtain ⟨n, hi, hn, hs⟩ := hx
 simp only at hi hs
 subst hi
 unfold F_3x
 refine Ok.ite (fun c => ?_) fun c => Ok.ret fun h => ?_
 ·have c := of_decide_eq_true c
  have hn' : n < a.length := by simp only at c; omega
  have e1 : ((n : Int)).toNat = n := by simp
  have e2 : a.getD n default = a[n] := by simp [hn']
  refine Ok.chk (kB hn') (Ok.chk (kB hn') (Ok.chk (kB hn') (Ok.chk (in64_iff.2 ⟨by simp only; omega, by simp only; omega⟩) (Ok.ret ⟨⟨n + 1, by simp, by omega, fun h => ?_⟩, by simp only; omega⟩))))
  have hm : n < (a.map szO).length := by simpa using hn'
  have st := sum_take hm
  have eg : (a.map szO)[n] = szO a[n] := by simp
  obtain ⟨q1, q2, q3⟩ := h.2 _ (List.getElem_mem hn')
  have hb : ∀ m, m ≤ a.length → 0 ≤ ((a.map szO).take m).sum ∧ ((a.map szO).take m).sum ≤ 100000 * m := fun m => by
   induction m with
   | zero => intro _; simp
   | succ m ih =>
    intro hm'
    have := ih (by omega)
    have hml : m < (a.map szO).length := by simp; omega
    have st := sum_take hml
    have eg : (a.map szO)[m] = szO (a[m]'(by omega)) := by simp
    obtain ⟨q1, q2, q3⟩ := h.2 _ (List.getElem_mem (show m < a.length by omega))
    have w4 : szO (a[m]'(by omega)) = ((a[m]'(by omega)).Data.length : Int) + ((a[m]'(by omega)).Items.length : Int) + ((a[m]'(by omega)).Parents.length : Int) := rfl
    rw [st, eg]
    omega
  have hbn := hb n hn
  have h400 := h.1
  have w1 : IntKind.wrap .i64 ((a[n].Data.length : Int) + (a[n].Items.length : Int)) = (a[n].Data.length : Int) + (a[n].Items.length : Int) := wrap_id (by omega) (by omega)
  have w2 : IntKind.wrap .i64 ((a[n].Data.length : Int) + (a[n].Items.length : Int) + (a[n].Parents.length : Int)) = szO a[n] := wrap_id (by omega) (by omega)
  have w4 : szO a[n] = (a[n].Data.length : Int) + (a[n].Items.length : Int) + (a[n].Parents.length : Int) := rfl
  have w3 : IntKind.wrap .i64 (((a.map szO).take n).sum + szO a[n]) = ((a.map szO).take n).sum + szO a[n] := wrap_id (by omega) (by omega)
  simp only
  rw [e1, e2, hs h, w1, w2, w3, st, eg]
 ·have c := of_decide_eq_false c
  have : n = a.length := by simp only at c; omega
  subst this
  rw [hs h, List.take_of_length_le (by simp)]
theorem small_of {o : GObject} (h : vlB o = 0) : o.Data.length ≤ 65536 ∧ o.Items.length ≤ 64 ∧ o.Parents.length ≤ 8 := by
 have hc : ¬ (decide (65536 < (o.Data.length : Int)) || decide (64 < (o.Items.length : Int)) || decide (8 < (o.Parents.length : Int))) = true := fun hc => by
  unfold vlB at h
  rw [hc] at h
  revert h
  cases idB o.ID <;> simp
 simp only [Bool.or_eq_true, decide_eq_true_eq, not_or] at hc
 omega
theorem eM_zero {a : List GObject} (h : eM a = 0) : (∀ o ∈ a, vlB o = 0) ∧ ∀ i j (hi : i < a.length) (hj : j < a.length), a[i].ID = a[j].ID → i = j := by
 unfold eM at h
 by_cases he : errV a = 0
 ·rw [decide_eq_true he] at h
  simp only [Bool.not_true, cond_false] at h
  cases ha : (List.range' 0 a.length).all (dupR a) with
  | false => rw [ha] at h; cases h
  | true =>
   refine ⟨errV_all he, fun i j hi hj e => ?_⟩
   have key : ∀ i j (hi : i < a.length) (hj : j < a.length), j < i → a[i].ID ≠ a[j].ID := fun i j hi hj hlt e => by
    have h1 := (List.all_eq_true.1 ha) i (by simp; exact hi)
    unfold dupR at h1
    have h2 := (List.all_eq_true.1 h1) j (by simp; exact hlt)
    have e1 : a.getD i default = a[i] := by simp [hi]
    have e2 : a.getD j default = a[j] := by simp [hj]
    rw [e1, e2] at h2
    simp [e] at h2
   rcases Nat.lt_trichotomy i j with c | c | c
   ·exact absurd e.symm (key j i hj hi c)
   ·exact c
   ·exact absurd e (key i j hi hj c)
 ·rw [decide_eq_false he] at h
  exact absurd h he
theorem L2_ok {k : Int} {a : List GObject} (hl : (a.length : Int) ≤ 9223372036854775807) (hr : Rdb a) (h1 : k = 1 → eM a = 0) (h2 : k = 2 → eM a = 7) : F_p k a () = some (.nx ()) := by
 refine Ok.eq ?_
 unfold F_p
 refine Ok.bind (count_ok hl) fun r hcnt => Ok.grp (Ok.ite (fun _ => Ok.ret rfl) fun c => ?_)
 simp only [Bool.or_eq_false_iff, decide_eq_false_iff_not] at c
 obtain ⟨c1, c2⟩ := c
 have hg : eM a = 0 → Gd a := fun h0 => by
  obtain ⟨v1, v2⟩ := eM_zero h0
  have hs : Sml a := ⟨by omega, fun o ho => small_of (v1 o ho)⟩
  have hsum := hcnt hs
  refine ⟨by omega, fun o ho => ⟨few_of (v1 o ho) ?_, v1 o ho⟩⟩
  have hnn : ∀ x ∈ a.map szO, 0 ≤ x := fun x hx => by
   obtain ⟨o, _, rfl⟩ := List.mem_map.1 hx
   unfold szO; omega
  have : szO o ≤ (a.map szO).sum := by
   have : ∀ q : List Int, (∀ x ∈ q, 0 ≤ x) → ∀ z ∈ q, z ≤ q.sum := fun q => by
    induction q with
    | nil => intro _ z hz; cases hz
    | cons y q ih =>
     intro hq z hz
     have h0 : 0 ≤ q.sum := by
      have := sum_take_le (l := q) (fun x hx => hq x (by simp [hx])) 0
      simpa using this
     rcases List.mem_cons.1 hz with rfl | hz
     ·simp only [List.sum_cons]; omega
     ·have := ih (fun x hx => hq x (by simp [hx])) z hz
      have := hq y (by simp)
      simp only [List.sum_cons]; omega
   exact this _ hnn _ (List.mem_map_of_mem ho)
  have e : szO o = (o.Data.length : Int) + (o.Items.length : Int) + (o.Parents.length : Int) := rfl
  omega
 obtain ⟨p, ep, hp⟩ := make_ok (l := a) (by omega) hg
 refine Ok.bind (Ok.of ep rfl) fun y hy => ?_
 subst hy
 refine Ok.bind (Ok.of (rmake_eq (by omega) hr) rfl) fun y hy => ?_
 subst hy
 have b1 : (decide (k = 1) && !decide (eM a = 0)) = false := by
  by_cases e : k = 1
  ·rw [h1 e]; simp
  ·simp [e]
 have b2 : (decide (k = 2) && !decide (eM a = 7)) = false := by
  by_cases e : k = 2
  ·rw [h2 e]; simp
  ·simp [e]
 refine Ok.grp (Ok.grp (Ok.ite (fun c => ?_) fun _ => Ok.ite (fun _ => Ok.ret rfl) fun c => ?_))
 ·simp only [decide_true, Bool.not_true, Bool.false_or] at c
  rw [b1, b2] at c
  cases c
 ·have e0 : eM a = 0 := by simpa using c
  obtain ⟨d, hd⟩ := hp e0
  have gd := hg e0
  obtain ⟨v1, v2⟩ := eM_zero e0
  have hpl : p.length = a.length := hd.1
  have hx : PX p d (btO a) := by
   refine ⟨by omega, fun i hi => ?_, fun i j hi hj e => ?_, fun i hi => ?_, fun i hi => ?_, fun i hi => ?_⟩
   ·obtain ⟨g1, g2, g3, g4, g5⟩ := gd.get (i := i) (by omega)
    rw [(hd.2 i hi).1, g1]; exact (vl_id g3).1
   ·rw [(hd.2 i hi).1, (hd.2 j hj).1, (gd.get (i := i) (by omega)).1, (gd.get (i := j) (by omega)).1] at e
    exact v2 i j (by omega) (by omega) e
   ·obtain ⟨k1, k2, k3, k4⟩ := hd.2 i hi
    rcases k4 with k4 | ⟨a1, a2, a3, a4, a5, a6⟩
    ·exact .inl k4
    ·exact .inr ⟨a1, a2, i - 1, by omega, by rw [(hd.2 (i - 1) (by omega)).1, a4], a5, a6⟩
   ·obtain ⟨k1, k2, k3, k4⟩ := hd.2 i hi
    omega
   ·have := (gd.get (i := i) (by omega)).2.2.2.2
    omega
  have hres := rresolve_ok hx (ob := fun i => a.getD i default) fun i hi => by
   obtain ⟨g1, g2, g3, g4, g5⟩ := gd.get (i := i) (by omega)
   rw [(hd.2 i hi).1, g1, g4]
   exact rparse_back2 g2 g3 (by rw [← g4]; omega)
  refine Ok.bind (Ok.of hres rfl) fun y hy => ?_
  subst hy
  refine Ok.ite (fun c => by simp at c) fun _ => ?_
  refine Ok.bind (P := fun b => b = true) ?_ fun b hb => by subst hb; exact Ok.ite (fun c => by cases c) fun _ => Ok.ret rfl
  unfold F_37
  refine Ok.ite (fun c => by simp [hpl] at c) fun _ => ?_
  refine Ok.bind (Ok.of (loop_all0 (p := fun _ => true) (r := false) (n := a.length) (by unfold F_3w; simp only [List.length_map, List.length_range', hpl]; rw [dlt]; rfl) fun i hi => by
   have e : ((i : Int)).toNat = i := by simp
   obtain ⟨g1, g2, g3, g4, g5⟩ := gd.get hi
   have e3 : ((List.range' 0 p.length).map fun i => a.getD i default).getD i default = a.getD i default := by
    rw [List.getD_eq_getElem?_getD, List.getElem?_map, List.getElem?_range' (by omega)]
    simp
   unfold F_3w
   simp only [List.length_map, List.length_range', hpl]
   rw [decide_eq_true (show (i : Int) < (a.length : Int) by omega), kB hi, in64_iff.2 ⟨by omega, by omega⟩, e]
   rw [show ((List.range' 0 a.length).map fun i => a.getD i default).getD i default = a.getD i default by rw [← hpl]; exact e3, g1, rsame_refl (by have := g2.2.1; omega) (by have := g2.2.2.1; omega)]
   rfl) rfl) fun r hr => ?_
  subst hr
  rw [List.all_eq_true.2 fun _ _ => rfl]
  exact Ok.ret rfl
theorem rdb_fact {raw : List GObject} (h : (V.sl (raw.map GObject.v)).fact) : (raw.length : Int) ≤ 9223372036854775807 ∧ Rdb raw := by
 obtain ⟨h1, h2⟩ := h
 rw [List.length_map] at h1
 refine ⟨by omega, fun o ho => ?_⟩
 have hv := factA_iff.1 h2 _ (List.mem_map_of_mem (f := GObject.v) ho)
 unfold GObject.v at hv
 simp only [V.fact, V.factL] at hv
 obtain ⟨_, _, _, ⟨_, hi⟩, _, _, ha, _⟩ := hv
 refine ⟨fun x hx => ?_, by omega⟩
 have hxv := factA_iff.1 hi _ (List.mem_map_of_mem (f := GItem.v) hx)
 unfold GItem.v at hxv
 simp only [V.fact, V.factL] at hxv
 have := hxv.1
 omega
theorem errV_zero : ∀ {l : List GObject}, (∀ o ∈ l, vlB o = 0) → errV l = 0
 | [], _ => rfl
 | x :: r, h => by
  rw [errV_ok (h x (by simp))]
  exact errV_zero fun o ho => h o (by simp [ho])
theorem makes14 {tape : List Int} {raw : List GObject} (ht : (V.sl (tape.map (V.int .i64))).fact) (hraw : (V.sl (raw.map GObject.v)).fact) : F_38 tape raw = some true := by
 have h0 : TO (GTape.mk tape 0) := ⟨Int.le_refl 0, Int.ofNat_le.2 (fact_sl ht)⟩
 obtain ⟨rl, rr⟩ := rdb_fact hraw
 refine Ok.eq ?_
 unfold F_38
 refine Ok.bind (repo_okL h0) fun r hr => ?_
 obtain ⟨r1, r2, ⟨n, g1, g2, g3⟩, r4⟩ := hr
 generalize hO : r.1.Objects = os at *
 have hv : ∀ o ∈ os, vlB o = 0 := fun o ho => (g1 o ho).1.2 _ (g1 o ho).2
 refine Ok.chk (room_iff.2 (by simp; omega)) (Ok.bind (nx_ok r4 (by omega)) fun k hk => Ok.chk (inb_iff.2 ⟨hk.1, hk.2.1⟩) (Ok.chk (room_iff.2 (by simp; omega)) ?_))
 rw [List.nil_append]
 have hki : k.1.toNat < os.length := by omega
 have ek : os.getD k.1.toNat default = os[k.1.toNat] := by simp [hki]
 have hvk : vlB os[k.1.toNat] = 0 := hv _ (List.getElem_mem hki)
 have a0 : F_p 0 raw () = some (.nx ()) := L2_ok rl rr (fun h => by cases h) (fun h => by cases h)
 have a1 : F_p (0 + 1) os () = some (.nx ()) := L2_ok (by omega) (fun o ho => lng_of (hv o ho)) (fun _ => by
  unfold eM
  rw [errV_zero hv]
  have : (List.range' 0 os.length).all (dupR os) = true := List.all_eq_true.2 fun i hi => by
   have hi : i < os.length := by simpa using hi
   refine List.all_eq_true.2 fun j hj => ?_
   have hj : j < i := by simpa using hj
   have e1 : os.getD i default = os[i] := by simp [hi]
   have e2 : os.getD j default = os[j]'(by omega) := by simp [show j < os.length by omega]
   rw [e1, e2, g2 i hi, g2 j (by omega)]
   simp; omega
  rw [this]; rfl) (fun h => by cases h)
 have a2 : F_p (0 + 1 + 1) (os ++ [os.getD k.1.toNat default]) () = some (.nx ()) := by
  rw [ek]
  have hv2 : ∀ o ∈ os ++ [os[k.1.toNat]], vlB o = 0 := fun o ho => by
   rcases List.mem_append.1 ho with ho | ho
   ·exact hv o ho
   ·simp at ho; subst ho; exact hvk
  refine L2_ok (by simp; omega) (fun o ho => lng_of (hv2 o ho)) (fun h => by cases h) (fun _ => ?_)
  unfold eM
  rw [errV_zero hv2]
  have : (List.range' 0 (os ++ [os[k.1.toNat]]).length).all (dupR (os ++ [os[k.1.toNat]])) = false := by
   rw [List.all_eq_false]
   refine ⟨os.length, by simp, ?_⟩
   unfold dupR
   rw [Bool.not_eq_true, List.all_eq_false]
   refine ⟨k.1.toNat, by simpa using hki, ?_⟩
   have e1 : (os ++ [os[k.1.toNat]]).getD os.length default = os[k.1.toNat] := by simp
   have e2 : (os ++ [os[k.1.toNat]]).getD k.1.toNat default = os[k.1.toNat] := by rw [List.getD_eq_getElem?_getD, List.getElem?_append_left hki, List.getElem?_eq_getElem hki]; rfl
   rw [e1, e2]; simp
  rw [this]; rfl
 have hf : forL F_p [raw, os, os ++ [os.getD k.1.toNat default]] 0 () = some (.nx ()) := by
  simp only [forL, a0, a1, a2, Option.bind_some, Fl.elim]
 refine Ok.bind (Ok.of hf rfl) fun y hy => ?_
 subst hy
 rw [Fl_nx, awake14]
 exact Ok.ret rfl
theorem call14z {tape : List Int} {raw : List GObject} : ACall Tryz.prog 3 [.sl (tape.map (V.int .i64)), .sl (raw.map GObject.v)] [] (fun r H => r = .bool true ∧ H = []) :=
 acall_fact (by kernel_rfl) fun h => Wq_38.w (makes14 (h _ (by simp)) (h _ (by simp)))
end Go.Ab
