/- The abstract layer, part 14: what an instruction leaves is one thing. -/
import Derived.Test.YtnaeedamiaoipaaGreatDoorAbReg
set_option linter.all false
set_option linter.unusedSimpArgs false
set_option linter.unusedVariables false
namespace Go.Ab
open Go.RowKit
section
variable {K L:V→Prop} {x y z:V}
theorem sPick_at (h:sPick x y z K):∃v,K v∧sPick x y z (fun u=>u=v):=by
  unfold sPick at *
  split at h
  · split at h
    · exact ⟨_,h,rfl⟩
    · rename_i t _ _ _
      cases t
      · exact ⟨_,h,rfl⟩
      · exact ⟨_,h,rfl⟩
  · exact h.elim
theorem part_at {n:Option Nat} {off:Nat} {cs:List V} (h:part n off cs K):∃v,K v∧part n off cs (fun u=>u=v):=by
  unfold part at *
  cases n with
  | none =>
    simp only at h ⊢
    split at h
    · exact ⟨_,h,rfl⟩
    · exact h.elim
  | some n =>
    simp only at h ⊢
    cases hb:Nat.ble (off+n) cs.length with
    | true=>rw [hb] at h;exact ⟨_,h,rfl⟩
    | false=>rw [hb] at h;exact h.elim
theorem sLd_at {n:Option Nat} {ob:Nat→Option Obj'} (h:sLd n x ob K L):∃v,(K v∨L v)∧sLd n x ob (fun u=>u=v) (fun u=>u=v):=by
  cases x<;>try (exact h.elim)
  case ptr id off =>
    cases ho:ob id with
    | none=>simp only [sLd,ho] at h
    | some o =>
      cases o<;>simp only [sLd,ho] at h ⊢
      obtain ⟨v,h1,h2⟩:=part_at h;exact ⟨v,.inl h1,h2⟩
  case eptr y off=>obtain ⟨v,h1,h2⟩:=part_at h;exact ⟨v,.inl h1,h2⟩
  case optr id k i off =>
    cases ho:ob id with
    | none=>simp only [sLd,ho] at h
    | some o =>
      cases o<;>simp only [sLd,ho] at h ⊢
      rename_i k' xs t0
      cases hk:Nat.beq k k' with
      | false=>rw [hk] at h;exact h.elim
      | true =>
        rw [hk] at h
        simp only [cond_true] at h ⊢
        obtain ⟨q,h1,h2⟩:=h
        obtain ⟨v,h3,h4⟩:=part_at h2
        exact ⟨v,.inr h3,q,h1,h4⟩
theorem sSt_at {n:Nat} {ob:Nat→Option Obj'} {K L:Nat→Obj'→Prop} (h:sSt n x y ob K L):∃id o,(K id o∨L id o)∧sSt n x y ob (fun i p=>i=id∧p=o) (fun i p=>i=id∧p=o):=by
  unfold sSt at *
  cases hc:(Nat.beq y.cells.length n&&y.cells.all V.one) with
  | false=>rw [hc] at h;exact h.elim
  | true =>
    rw [hc] at h
    simp only [cond_true] at h ⊢
    cases x<;>try (exact h.elim)
    case ptr id off =>
      cases ho:ob id with
      | none=>simp only [ho] at h
      | some o =>
        cases o<;>simp only [ho] at h ⊢
        rename_i cs ty
        cases hb:Nat.ble (off+n) cs.length with
        | false=>rw [hb] at h;exact h.elim
        | true=>rw [hb] at h;exact ⟨_,_,.inl h,rfl,rfl⟩
    case optr id k i off =>
      cases ho:ob id with
      | none=>simp only [ho] at h
      | some o =>
        cases o<;>simp only [ho] at h ⊢
        rename_i k' xs t0
        cases hk:(Nat.beq k k'&&y.sealed) with
        | false=>rw [hk] at h;exact h.elim
        | true =>
          rw [hk] at h
          simp only [cond_true] at h ⊢
          cases hz:(Nat.beq off 0&&Nat.beq n k) with
          | true=>rw [hz] at h;simp only [cond_true] at h ⊢;exact ⟨_,_,.inl h.2,h.1,rfl,rfl⟩
          | false =>
            rw [hz] at h;simp only [cond_false] at h ⊢
            obtain ⟨cs,h1,h2,h3⟩:=h
            exact ⟨_,_,.inr h3,cs,h1,h2,rfl,rfl⟩
theorem sNck_at (h:sNck x K):∃v,K v∧sNck x (fun u=>u=v):=by
  cases x<;>first|exact h.elim|exact ⟨_,h,rfl⟩
theorem sMask_at {m:Nat} {k:IntKind} (h:sMask m k x K):∃v,K v∧sMask m k x (fun u=>u=v):=by
  cases x<;>try (exact h.elim)
  rename_i k' a
  simp only [sMask] at h ⊢
  cases hk:kEq k k' with
  | false=>rw [hk] at h;exact h.elim
  | true=>rw [hk] at h;exact ⟨_,h,rfl⟩
theorem sBeq_at {ng:Bool} (h:sBeq ng x y K):∃v,K v∧sBeq ng x y (fun u=>u=v):=by
  cases x<;>try (exact h.elim)
  cases y<;>try (exact h.elim)
  exact ⟨_,h,rfl⟩
theorem sEqs_at {ng:Bool} {ks:List Nat} (h:sEqs ng ks x y K):∃v,K v∧sEqs ng ks x y (fun u=>u=v):=by
  cases x<;>try (exact h.elim)
  cases y<;>try (exact h.elim)
  rename_i cs ds
  simp only [sEqs] at h ⊢
  cases he:eqCells ks cs ds with
  | none=>rw [he] at h;exact h.elim
  | some t=>rw [he] at h;exact ⟨_,h,rfl⟩
theorem sNot_at (h:sNot x K):∃v,K v∧sNot x (fun u=>u=v):=by
  cases x<;>first|exact h.elim|exact ⟨_,h,rfl⟩
theorem sNeg_at {ch:Bool} (h:sNeg ch x K):∃v,K v∧sNeg ch x (fun u=>u=v):=by
  cases x<;>try (exact h.elim)
  cases ch
  · exact ⟨_,h,rfl⟩
  · exact ⟨_,h.2,h.1,rfl⟩
theorem sI2i_at {ch:Bool} {k:IntKind} (h:sI2i ch k x K):∃v,K v∧sI2i ch k x (fun u=>u=v):=by
  cases x<;>try (exact h.elim)
  cases ch
  · exact ⟨_,h,rfl⟩
  · exact ⟨_,h.2,h.1,rfl⟩
theorem sIdc_at (h:sIdc x K):∃v,K v∧sIdc x (fun u=>u=v):=by
  cases x<;>first|exact h.elim|exact ⟨_,h,rfl⟩
theorem sFad_at {off:Nat} (h:sFad off x K):∃v,K v∧sFad off x (fun u=>u=v):=by
  cases x<;>first|exact h.elim|exact ⟨_,h,rfl⟩
theorem sFld_at {n:Option Nat} {off:Nat} (h:sFld n off x K):∃v,K v∧sFld n off x (fun u=>u=v):=by
  cases x<;>try (exact h.elim)
  exact part_at h
theorem sIdx_at (h:sIdx x y K):∃v,K v∧sIdx x y (fun u=>u=v):=by
  cases x<;>try (exact h.elim)
  cases y<;>try (exact h.elim)
  exact ⟨_,h.2,h.1,rfl⟩
theorem sAix_at {n:Option Nat} {k cnt:Nat} (h:sAix n k cnt x y K):∃v,K v∧sAix n k cnt x y (fun u=>u=v):=by
  cases x<;>try (exact h.elim)
  cases y<;>try (exact h.elim)
  obtain ⟨h1,h2⟩:=h
  obtain ⟨v,h3,h4⟩:=part_at h2
  exact ⟨v,h3,h1,h4⟩
theorem sAad_at {k cnt:Nat} (h:sAad k cnt x y K):∃v,K v∧sAad k cnt x y (fun u=>u=v):=by
  cases x<;>try (exact h.elim)
  all_goals
    cases y<;>try (exact h.elim)
    exact ⟨_,h.2,h.1,rfl⟩
theorem sLs2b_at (h:sLs2b x K):∃v,K v∧sLs2b x (fun u=>u=v):=by
  cases x<;>try (exact h.elim)
  exact ⟨_,h,rfl⟩
theorem sExt_at {i:Nat} (h:sExt i x K):∃v,K v∧sExt i x (fun u=>u=v):=by
  cases x<;>try (exact h.elim)
  rename_i cs
  simp only [sExt] at h ⊢
  cases hd:cs.drop i with
  | nil=>rw [hd] at h;exact h.elim
  | cons c r=>rw [hd] at h;exact ⟨_,h,rfl⟩
theorem sLen_at {s:Bool} (h:sLen s x K):∃v,K v∧sLen s x (fun u=>u=v):=by
  cases x<;>cases s<;>first|exact h.elim|exact ⟨_,h,rfl⟩
theorem sMm_at {mx:Bool} (h:sMm mx x y K):∃v,K v∧sMm mx x y (fun u=>u=v):=by
  cases x<;>try (exact h.elim)
  cases y<;>try (exact h.elim)
  rename_i k a k' b
  simp only [sMm] at h ⊢
  cases hk:kEq k k' with
  | false=>rw [hk] at h;exact h.elim
  | true=>rw [hk] at h;exact ⟨_,h,rfl⟩
theorem sIad_at {k:Nat} (h:sIad k x y K L):∃v,(K v∨L v)∧sIad k x y (fun u=>u=v) (fun u=>u=v):=by
  cases y<;>try (exact h.elim)
  cases x<;>try (exact h.elim)
  case int.sl =>
    obtain ⟨h1,q,h2,h3,h4⟩:=h
    exact ⟨_,.inr h4,h1,q,h2,h3,rfl⟩
  case int.osl k' n id k2 lo m =>
    simp only [sIad] at h ⊢
    cases hk:Nat.beq k k2 with
    | false=>rw [hk] at h;exact h.elim
    | true=>rw [hk] at h;exact ⟨_,.inl h.2,h.1,rfl⟩
theorem sB2s_at {ob:Nat→Option Obj'} (h:sB2s x ob K L):∃v,(K v∨L v)∧sB2s x ob (fun u=>u=v) (fun u=>u=v):=by
  cases x<;>try (exact h.elim)
  case nils=>exact ⟨_,.inl h,rfl⟩
  case sl xs=>obtain ⟨s,h1,h2⟩:=h;exact ⟨_,.inr h2,s,h1,rfl⟩
  case osl id k lo n =>
    cases ho:ob id with
    | none=>simp only [sB2s,ho] at h
    | some o =>
      cases o<;>simp only [sB2s,ho] at h ⊢
      rename_i k' xs t0
      cases hk:(Nat.beq k k'&&Nat.beq k 1) with
      | false=>rw [hk] at h;exact h.elim
      | true =>
        rw [hk] at h
        simp only [cond_true] at h ⊢
        obtain ⟨s,h1,h2,h3⟩:=h
        exact ⟨_,.inr h3,s,h1,h2,rfl⟩
theorem sSls_at {lo hi:Bool} {r:List V} (h:sSls lo hi x r K):∃v,K v∧sSls lo hi x r (fun u=>u=v):=by
  cases x<;>try (exact h.elim)
  rename_i s
  simp only [sSls] at h ⊢
  cases hb:bounds lo hi s.length r with
  | none=>rw [hb] at h;exact h.elim
  | some p=>rw [hb] at h;exact ⟨_,h.2,h.1,rfl⟩
theorem sSlc_at {k:Nat} {lo hi:Bool} {r:List V} (h:sSlc k lo hi x r K):∃v,K v∧sSlc k lo hi x r (fun u=>u=v):=by
  cases x<;>try (exact h.elim)
  case sl xs =>
    simp only [sSlc] at h ⊢
    cases hb:bounds lo hi xs.length r with
    | none=>rw [hb] at h;exact h.elim
    | some p=>rw [hb] at h;exact ⟨_,h.2.2,h.1,h.2.1,rfl⟩
  case osl id k' l n =>
    simp only [sSlc] at h ⊢
    cases hb:bounds lo hi n r with
    | none=>rw [hb] at h;exact h.elim
    | some p =>
      rw [hb] at h
      simp only at h ⊢
      cases hk:Nat.beq k k' with
      | false=>rw [hk] at h;exact h.elim
      | true=>rw [hk] at h;exact ⟨_,h.2,h.1,rfl⟩
theorem sBin_at {ch:Bool} {op:BinOp} (h:sBin ch op x y K):∃v,K v∧sBin ch op x y (fun u=>u=v):=by
  cases x<;>try (exact h.elim)
  case int k a =>
    cases y<;>try (exact h.elim)
    rename_i k' b
    simp only [sBin] at h ⊢
    cases op <;> simp only at h ⊢<;>first
      | exact ⟨_,h.2,h.1,rfl⟩
      | (cases hk:kEq k k'<;>rw [hk] at h<;>first
          | exact h.elim
          | (simp only [cond_true] at h ⊢
             first
              | exact ⟨_,h,rfl⟩
              | (cases ch
                 · first|exact ⟨_,h,rfl⟩|exact ⟨_,h.2,h.1,rfl⟩
                 · first|exact ⟨_,h,rfl⟩|exact ⟨_,h.2,h.1,rfl⟩)))
  case str a =>
    cases y<;>try (exact h.elim)
    simp only [sBin] at h ⊢
    cases op<;>simp only at h ⊢<;>first|exact ⟨_,h,rfl⟩|exact ⟨_,h.2,h.1,rfl⟩|exact h.elim
end
section
variable {K:Eff→Prop} {x y:V} {d:Nat}
theorem sS2b_at (h:sS2b d x K):∃v,K v∧sS2b d x (fun u=>u=v):=by
  cases x<;>first|exact h.elim|exact ⟨_,h,rfl⟩
theorem sMks_at {ob:Nat→Option Obj'} (h:sMks x ob K):∃v,K v∧sMks x ob (fun u=>u=v):=by
  unfold sMks at *
  cases x<;>try (exact h.elim)
  rename_i id k lo n
  cases ho:ob id with
  | none=>simp only [ho] at h
  | some o =>
    cases o<;>simp only [ho] at h ⊢
    rename_i k' xs t
    cases hc:(Nat.beq k k'&&Nat.beq k 1&&Nat.blt 0 n) with
    | false=>rw [hc] at h;exact h.elim
    | true=>rw [hc] at h;exact ⟨_,h,rfl⟩
theorem sBox_at (h:sBox d x K):∃v,K v∧sBox d x (fun u=>u=v):=by
  cases x<;>first|exact h.elim|exact ⟨_,h,rfl⟩
theorem sMksl_at {k bytes:Nat} {z:V} (h:sMksl k bytes d z x y K):∃v,K v∧sMksl k bytes d z x y (fun u=>u=v):=by
  unfold sMksl at *
  split at h
  · exact ⟨_,h.2,h.1,rfl⟩
  · exact h.elim
theorem sApp_at {k bytes:Nat} {ty:Option TypeId} {ob:Nat→Option Obj'} (h:sApp k bytes d ty x y ob K):∃v,K v∧sApp k bytes d ty x y ob (fun u=>u=v):=by
  unfold sApp at *
  cases ha:appSrc k y ob with
  | none=>rw [ha] at h;exact h.elim
  | some ys =>
    rw [ha] at h
    simp only at h ⊢
    obtain ⟨h0,h⟩:=h
    cases x<;>try (exact h.elim)
    case nils=>exact ⟨_,h.2,h0,h.1,rfl⟩
    case osl id k' lo n =>
      cases ho:ob id with
      | none=>simp only [ho] at h
      | some o =>
        cases o<;>simp only [ho] at h ⊢
        rename_i k'' xs t0
        cases hk:(Nat.beq k k'&&Nat.beq k k'') with
        | false=>rw [hk] at h;exact h.elim
        | true=>rw [hk] at h;exact ⟨_,h.2,h0,h.1,rfl⟩
theorem ments_at {x:V} {ob:Nat→Option Obj'} {K:KD→List (V×V)→Prop} (h:ments x ob K):∃kd es,K kd es∧∀K':KD→List (V×V)→Prop,K' kd es→ments x ob K':=by
  unfold ments at h
  split at h
  · exact ⟨_,_,h,fun K' h=>h⟩
  · split at h
    · rename_i ho
      refine ⟨_,_,h,fun K' h'=>?_⟩
      simp only [ments,ho];exact h'
    · rename_i ho
      refine ⟨_,_,h,fun K' h'=>?_⟩
      simp only [ments,ho];exact h'
    · exact h.elim
  · exact h.elim
theorem sMap_at {op:MapOp} {d:Nat} {vs:List V} {ob:Nat→Option Obj'} {K L:Eff→Prop} (hn:op≠.nxt) (hn2:∀b,op≠.isn b) (h:sMap op d vs ob K L):∃e,K e∧sMap op d vs ob (fun u=>u=e) (fun u=>u=e):=by
  unfold sMap at h
  split at h
  · exact ⟨_,h,rfl⟩
  · rename_i kd ok z x k
    split at h
    · cases hk:kd.is k with
      | false=>rw [hk] at h;exact h.elim
      | true=>rw [hk] at h;exact ⟨_,h,by simp only [sMap,hk,cond_true]⟩
    · rename_i m p kd' es
      cases hk:kd.is k&&kd'.is k&&z.isNilS with
      | false=>rw [hk] at h;exact h.elim
      | true=>rw [hk] at h;exact ⟨_,h,by simp only [sMap,hk,cond_true]⟩
    · rename_i x hx
      obtain ⟨kd',es,h1,h2⟩:=ments_at h
      cases hk:kd.is k&&kd'.is k with
      | false=>rw [hk] at h1;exact h1.elim
      | true =>
        rw [hk] at h1
        refine ⟨_,h1,?_⟩
        simp only [sMap]
        exact h2 _ (by simp only [hk,cond_true])
  · rename_i kd id k v
    split at h
    · rename_i kd' es ho
      cases hk:kd.is k&&kd'.is k&&v.sealed with
      | false=>rw [hk] at h;exact h.elim
      | true=>rw [hk] at h;exact ⟨_,h,by simp only [sMap,ho,hk,cond_true]⟩
    · exact h.elim
  · rename_i kd id k
    split at h
    · rename_i kd' es ho
      cases hk:kd.is k&&kd'.is k with
      | false=>rw [hk] at h;exact h.elim
      | true=>rw [hk] at h;exact ⟨_,h,by simp only [sMap,ho,hk,cond_true]⟩
    · exact h.elim
  · rename_i x
    split at h
    · exact ⟨_,h,rfl⟩
    · rename_i x hx
      obtain ⟨kd',es,h1,h2⟩:=ments_at h
      refine ⟨_,h1.2,?_⟩
      simp only [sMap]
      exact h2 _ ⟨h1.1,rfl⟩
  · split at h
    · exact ⟨_,h,rfl⟩
    · exact ⟨_,h,rfl⟩
    · exact h.elim
  · exact absurd rfl hn
  · split at h
    · rename_i ho;exact ⟨_,h,by simp only [sMap,ho]⟩
    · exact h.elim
  · exact absurd rfl (hn2 _)
  · split at h
    · rename_i ho;exact ⟨_,h,by simp only [sMap,ho]⟩
    · exact h.elim
  · rename_i kd id k j q n
    split at h
    · rename_i kd' es q' xs ty ho ho2
      cases hk:kd.is k&&kd'.is k&&(Nat.beq q q'&&Nat.beq n xs.length&&!Nat.beq id j) with
      | false=>rw [hk] at h;exact h.elim
      | true=>rw [hk] at h;exact ⟨_,h,by simp only [sMap,ho,ho2,hk,cond_true]⟩
    · rename_i z p kd' es q' xs ty ho ho2
      cases hk:kd.is k&&kd'.is k&&(Nat.beq q q'&&Nat.beq n xs.length&&!Nat.beq id j)&&Nat.beq q p with
      | false=>rw [hk] at h;exact h.elim
      | true=>rw [hk] at h;exact ⟨_,h,by simp only [sMap,ho,ho2,hk,cond_true]⟩
    · exact h.elim
  · rename_i id k i j q n
    split at h
    · rename_i k' xs t q' ys ty ho ho2
      cases hk:Nat.beq k 1&&Nat.beq k' 1&&(Nat.beq q q'&&Nat.beq n ys.length&&!Nat.beq id j) with
      | false=>rw [hk] at h;exact h.elim
      | true=>rw [hk] at h;exact ⟨_,h.2,by simp only [sMap,ho,ho2,hk,cond_true];exact ⟨h.1,trivial⟩⟩
    · exact h.elim
  · split at h
    · rename_i p hp;exact ⟨_,h,by simp only [sMap,hp]⟩
    · exact h.elim
  · exact ⟨_,h,rfl⟩
  · exact ⟨_,h.2,by simp only [sMap];exact ⟨h.1,trivial⟩⟩
  · rename_i q id k n ys
    split at h
    · rename_i k' xs t ho
      cases hk:Nat.beq k q&&Nat.beq k k'&&Nat.beq n xs.length with
      | false=>rw [hk] at h;exact h.elim
      | true=>rw [hk] at h;exact ⟨_,h.2,by simp only [sMap,ho,hk,cond_true];exact ⟨h.1,trivial⟩⟩
    · exact h.elim
  · exact ⟨_,h,by simp only [sMap]⟩
  · unfold fnz1 at h
    split at h
    · exact ⟨_,h,rfl⟩
    · exact ⟨_,h,rfl⟩
    · exact h.elim
  · rename_i k a k' b k'' e
    cases hk:kEq k k'&&kEq k k'' with
    | false=>rw [hk] at h;exact h.elim
    | true=>rw [hk] at h;exact ⟨_,h,by simp only [sMap,hk,cond_true]⟩
  · rename_i k bytes id k' lo n y
    split at h
    · rename_i ys hs
      obtain ⟨h0,h⟩:=h
      split at h
      · rename_i k'' xs t ho
        cases hk:Nat.beq k k'&&Nat.beq k k''&&!y.has id with
        | false=>rw [hk] at h;exact h.elim
        | true=>rw [hk] at h;exact ⟨_,h.2,by simp only [sMap,hs,ho,hk,cond_true];exact ⟨h0,h.1,trivial⟩⟩
      · exact h.elim
    · exact h.elim
  · exact h.elim
end
end Go.Ab
