/- Chapter 27: grants, and lists of numbers. -/
import Derived.Test.YteegjccaabkhgaaPL27a
import Derived.Test.YteegjccaabkhgaaLAWB
set_option linter.all false
set_option linter.all false
namespace Go.Ab
open Go.Proofs

def foldP {α σ : Type} (f : Int → α → σ → σ) : List α → Int → σ → σ
  | [], _, s => s
  | x :: r, k, s => foldP f r (k + 1) (f k x s)
theorem foldL_plain {α σ : Type} {body : Int → α → σ → Option σ} (f : Int → α → σ → σ) (h : ∀ k x s, body k x s = some (f k x s)) : ∀ (xs : List α) (k : Int) (s : σ), foldL body xs k s = some (foldP f xs k s)
  | [], k, s => rfl
  | x :: r, k, s => by simp only [foldL, h, Option.bind_some, foldP, foldL_plain f h r]
theorem foldP_append {α σ : Type} (f : Int → α → σ → σ) : ∀ (xs ys : List α) (k : Int) (s : σ), foldP f (xs ++ ys) k s = foldP f ys (k + xs.length) (foldP f xs k s)
  | [], ys, k, s => by simp [foldP]
  | x :: r, ys, k, s => by
    simp only [List.cons_append, foldP, foldP_append f r ys]
    congr 1
    simp; omega
/-- a row that grows at its end -/
theorem foldL_push {α β : Type} {body : Int → α → List β → Option (List β)} (g : α → β) (b : Nat) (n : Nat) (hn : n * b ≤ 140737488355328) (h : ∀ k x s, body k x s = chk (room (s.length + [g x].length) b) (some (s ++ [g x]))) :
    ∀ (xs : List α) (k : Int) (s : List β), s.length + xs.length ≤ n → foldL body xs k s = some (s ++ xs.map g)
  | [], k, s, hl => by simp [foldL]
  | x :: r, k, s, hl => by
    have : room (s.length + [g x].length) b = true := room_iff.2 (by
      simp at hl ⊢
      exact Nat.le_trans (Nat.mul_le_mul_right b (by omega)) hn)
    simp only [foldL, h, chk_true this, Option.bind_some]
    rw [foldL_push g b n hn h r (k + 1) _ (by simp at hl ⊢; omega)]
    simp
/-! ### grants -/
def gst (p t : Int) (i : Int) (x : GAccess) (m : List (Int × Int)) : List (Int × Int) :=
  if t < x.Time ∨ x.Place ≠ p then m else if x.Kind = 1 then aput x.Principal i m else if x.Kind = 2 then adel x.Principal m else m
def grf (p t : Int) (l : List GAccess) : List (Int × Int) := foldP (gst p t) l 0 []
theorem gst_body (p t k : Int) (x : GAccess) (m : List (Int × Int)) : F_access_grants_L1 p t k x m = some (gst p t k x m) := by
  simp only [F_access_grants_L1, grp, gst]
  by_cases c : t < x.Time ∨ x.Place ≠ p
  · have c' : (decide (t < x.Time) || !decide (x.Place = p)) = true := by simpa using c
    simp [c', c]
  · have c' : (decide (t < x.Time) || !decide (x.Place = p)) = false := by simpa using c
    simp only [c', cond_false, if_neg c]
    by_cases c2 : x.Kind = 1
    · simp [c2]
    · by_cases c3 : x.Kind = 2 <;> simp [c2, c3]
theorem grants_eq (a : GEstate) (p t : Int) : F_access_grants a p t = some (grf p t a.Events) := by
  simp only [F_access_grants, foldL_plain (gst p t) (gst_body p t), Option.bind_some, grf]
theorem keys_aput (k v : Int) : ∀ m : List (Int × Int), (aput k v m).map Prod.fst = if k ∈ m.map Prod.fst then m.map Prod.fst else m.map Prod.fst ++ [k]
  | [] => by simp [aput]
  | (a, b) :: r => by
    by_cases e : k = a
    · simp [aput, e]
    · have ih := keys_aput k v r
      simp only [aput, if_neg e, List.map_cons, ih, List.mem_cons]
      by_cases c : k ∈ List.map Prod.fst r <;> simp only [e, c, false_or, if_true, if_false, List.cons_append]
theorem keys_adel (k : Int) : ∀ m : List (Int × Int), (adel k m).map Prod.fst = (m.map Prod.fst).erase k
  | [] => by simp [adel]
  | (a, b) :: r => by
    by_cases e : k = a
    · simp [adel, e]
    · have e' : ¬ a = k := fun h => e h.symm
      simp [adel, e, e', List.erase_cons, keys_adel k r]
def kst (p t : Int) (x : GAccess) (ks : List Int) : List Int :=
  if t < x.Time ∨ x.Place ≠ p then ks else if x.Kind = 1 then (if x.Principal ∈ ks then ks else ks ++ [x.Principal]) else if x.Kind = 2 then ks.erase x.Principal else ks
def keysf (p t : Int) (l : List GAccess) : List Int := l.foldl (fun ks x => kst p t x ks) []
theorem gst_keys (p t i : Int) (x : GAccess) (m : List (Int × Int)) : (gst p t i x m).map Prod.fst = kst p t x (m.map Prod.fst) := by
  unfold gst kst
  split
  · rfl
  · split
    · exact keys_aput _ _ _
    · split
      · exact keys_adel _ _
      · rfl
theorem foldP_keys (p t : Int) : ∀ (l : List GAccess) (i : Int) (m : List (Int × Int)), (foldP (gst p t) l i m).map Prod.fst = l.foldl (fun ks x => kst p t x ks) (m.map Prod.fst)
  | [], i, m => rfl
  | x :: r, i, m => by
    simp only [foldP, List.foldl_cons, foldP_keys p t r]
    rw [gst_keys]
theorem grf_keys (p t : Int) (l : List GAccess) : (grf p t l).map Prod.fst = keysf p t l := foldP_keys p t l 0 []
theorem keysf_snoc (p t : Int) (l : List GAccess) (x : GAccess) : keysf p t (l ++ [x]) = kst p t x (keysf p t l) := by simp [keysf]
theorem keysf_append (p t : Int) (l m : List GAccess) : keysf p t (l ++ m) = m.foldl (fun ks x => kst p t x ks) (keysf p t l) := by simp [keysf]
theorem kst_nodup {p t : Int} {x : GAccess} {ks : List Int} (h : ks.Nodup) : (kst p t x ks).Nodup := by
  unfold kst
  split
  · exact h
  · split
    · split
      · exact h
      · rw [List.nodup_append]
        refine ⟨h, by simp, ?_⟩
        intro a ha b hb e
        simp at hb; subst hb; subst e; contradiction
    · split
      · exact h.erase _
      · exact h
theorem keysf_nodup (p t : Int) (l : List GAccess) : (keysf p t l).Nodup := by
  induction l using revList_ind with
  | h0 => simp [keysf]
  | h1 l x ih => rw [keysf_snoc]; exact kst_nodup ih
theorem keysf_len (p t : Int) (l : List GAccess) : (keysf p t l).length ≤ l.length := by
  induction l using revList_ind with
  | h0 => simp [keysf]
  | h1 l x ih =>
    rw [keysf_snoc]
    simp only [List.length_append, List.length_singleton]
    unfold kst
    split
    · omega
    · split
      · split
        · omega
        · simp; omega
      · split
        · have := List.length_erase_le (a := x.Principal) (l := keysf p t l); omega
        · omega
theorem keysf_mem {p t : Int} {l : List GAccess} {k : Int} (h : k ∈ keysf p t l) : ∃ x ∈ l, x.Kind = 1 ∧ x.Principal = k ∧ x.Place = p ∧ x.Time ≤ t := by
  induction l using revList_ind with
  | h0 => simp [keysf] at h
  | h1 l x ih =>
    rw [keysf_snoc] at h
    unfold kst at h
    split at h
    · obtain ⟨y, hy, h⟩ := ih h; exact ⟨y, by simp [hy], h⟩
    · rename_i c
      split at h
      · rename_i c2
        split at h
        · obtain ⟨y, hy, h⟩ := ih h; exact ⟨y, by simp [hy], h⟩
        · simp only [List.mem_append, List.mem_singleton] at h
          rcases h with h | h
          · obtain ⟨y, hy, h⟩ := ih h; exact ⟨y, by simp [hy], h⟩
          · refine ⟨x, by simp, c2, h.symm, ?_, ?_⟩ <;> omega
      · split at h
        · obtain ⟨y, hy, h⟩ := ih (List.mem_of_mem_erase h); exact ⟨y, by simp [hy], h⟩
        · obtain ⟨y, hy, h⟩ := ih h; exact ⟨y, by simp [hy], h⟩
/-! ### order -/
def srtI (l : List Int) : List Int := l.mergeSort fun x y => decide (x ≤ y)
theorem srtI_perm (l : List Int) : (srtI l).Perm l := List.mergeSort_perm _ _
theorem srtI_sorted (l : List Int) : (srtI l).Pairwise (fun x y => x ≤ y) := by
  have := List.pairwise_mergeSort (le := fun x y : Int => decide (x ≤ y)) (fun a b c h1 h2 => by simp at *; omega) (fun a b => by simp; omega) l
  exact this.imp fun h => by simpa using h
theorem sorted_unique {l m : List Int} (h : l.Perm m) (h1 : l.Pairwise (fun x y => x ≤ y)) (h2 : m.Pairwise (fun x y => x ≤ y)) : l = m :=
  h.eq_of_pairwise (fun a b _ _ h1 h2 => by omega) h1 h2
theorem srtI_congr {l m : List Int} (h : l.Perm m) : srtI l = srtI m :=
  sorted_unique ((srtI_perm l).trans (h.trans (srtI_perm m).symm)) (srtI_sorted l) (srtI_sorted m)
theorem srtI_mem {l : List Int} {x : Int} : x ∈ srtI l ↔ x ∈ l := (srtI_perm l).mem_iff
theorem granted_eq {a : GEstate} {p : Int} (t : Int) (hn : a.Events.length ≤ 120) (h : F_access_known a p = some true) : F_access_Granted a p t = some (srtI (keysf p t a.Events)) := by
  simp only [F_access_Granted, h, Option.bind_some, Bool.not_true, cond_false, grants_eq]
  refine permL_of fun l hl => ?_
  have hp : (l.map Prod.fst).Perm (keysf p t a.Events) := by rw [← grf_keys]; exact hl.map _
  have hlen : l.length ≤ 120 := by
    have h1 := hp.length_eq
    have h2 := keysf_len p t a.Events
    simp at h1; omega
  rw [foldL_push (body := F_access_Granted_L1) (g := Prod.fst) (b := 8) (n := 120) (by omega) (fun k x s => rfl) l 0 [] (by simpa using hlen)]
  simp only [Option.bind_some, List.nil_append, sortI]
  have : (l.map Prod.fst).length < 4611686018427387904 := by simp; omega
  rw [if_pos this]
  simp only [Option.bind_some]
  exact congrArg some (srtI_congr hp)
theorem granted_no {a : GEstate} {p : Int} (t : Int) (h : F_access_known a p = some false) : F_access_Granted a p t = some [] := by
  simp [F_access_Granted, h]
theorem grant_eq {a : GEstate} {p : Int} (q t : Int) (h : F_access_known a p = some true) : F_access_Grant a p q t = some ((aget q (grf p t a.Events)).getD 0, (aget q (grf p t a.Events)).isSome) := by
  simp only [F_access_Grant, h, Option.bind_some, Bool.not_true, cond_false, grants_eq]
/-! ### lists of numbers -/
theorem has_eq (l : List Int) (x : Int) : F_ref23_Has l x = some (decide (x ∈ l)) := by
  simp only [F_ref23_Has]
  rw [forL_find (fun y => if y = x then some true else none) l 0 (fun k y _ => by by_cases e : y = x <;> simp [F_ref23_Has_L1, e, flO])]
  simp only [Option.bind_some, elim_flO]
  have : findL (fun y => if y = x then some true else none) l = if x ∈ l then some true else none := by
    induction l with
    | nil => rfl
    | cons y r ih =>
      by_cases e : y = x
      · simp [findL, e]
      · have e' : ¬ x = y := fun h => e h.symm
        simp [findL, e, e', ih]
  rw [this]
  by_cases e : x ∈ l <;> simp [e]
theorem ints_go (b : List Int) : ∀ (l : List Int) (k : Nat), b.length = k + l.length → forL (F_ref23_Ints_L1 b) l (k : Int) () = some (if l = b.drop k then .nx () else .ex false)
  | [], k, h => by simp [forL, List.drop_eq_nil_of_le (show b.length ≤ k from by simp at h; omega)]
  | x :: r, k, h => by
    have hk : k < b.length := by simp at h; omega
    have hi : inb (k : Int) b.length = true := inb_iff.2 ⟨by omega, by omega⟩
    simp only [forL, F_ref23_Ints_L1, chk_true hi, Int.toNat_natCast]
    rw [List.drop_eq_getElem_cons hk]
    have e1 : b.getD k default = b[k] := by simp [hk]
    simp only [e1]
    by_cases c : x = b[k]
    · have := ints_go b r (k + 1) (by simp at h ⊢; omega)
      simp only [c, decide_true, Bool.not_true, cond_false, Option.bind_some, Fl_nx]
      rw [show ((k : Int) + 1) = ((k + 1 : Nat) : Int) by simp, this]
      simp only [List.cons.injEq, true_and]
    · have : ¬ (x :: r = b[k] :: b.drop (k + 1)) := fun h => c (List.cons.inj h).1
      rw [if_neg this]
      simp only [c, decide_false, Bool.not_false, cond_true, Option.bind_some, Fl_ex]
theorem ints_eq (a b : List Int) : F_ref23_Ints a b = some (decide (a = b)) := by
  simp only [F_ref23_Ints]
  by_cases c : a.length = b.length
  · have := ints_go b a 0 (by simp [c])
    have c2 : (!decide ((a.length : Int) = (b.length : Int))) = false := by simp [c]
    simp only [c2, cond_false]
    simp only [show ((0 : Nat) : Int) = 0 from rfl] at this
    rw [this]
    by_cases e : a = b <;> simp [e, Fl_nx, Fl_ex]
  · have c2 : (!decide ((a.length : Int) = (b.length : Int))) = true := by
      simp only [Bool.not_eq_true', decide_eq_false_iff_not]; omega
    simp only [c2, cond_true]
    have : ¬ a = b := fun h => c (by rw [h])
    simp [this]
end Go.Ab
