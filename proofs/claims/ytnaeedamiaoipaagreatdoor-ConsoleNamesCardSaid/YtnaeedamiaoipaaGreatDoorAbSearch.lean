/- A search over a table, in plain words: passes over all pairs until nothing is new. -/
import Derived.Test.YtnaeedamiaoipaaGreatDoorAbHo
set_option linter.all false
set_option linter.all false
namespace Go.Ab
def stp (L:Nat→Nat→Bool) (a b:Nat) (f:Nat→Bool):Nat→Bool:=fun i=>if i=b then f b||(f a&&L a b) else f i
section search
variable {L:Nat→Nat→Bool} {n:Nat}
theorem stp_mono {a b:Nat} {f:Nat→Bool} {i:Nat} (h:f i=true):stp L a b f i=true:=by
  simp only [stp];split
  · subst_vars;simp [h]
  · exact h
def cnt (f:Nat→Bool):Nat→Nat
  | 0=>0
  | n+1=>cnt f n+bif f n then 1 else 0
theorem cnt_le (f:Nat→Bool):∀n,cnt f n≤n
  | 0=>Nat.le_refl 0
  | n+1=>by have:=cnt_le f n;simp only [cnt];cases f n<;>simp<;>omega
theorem cnt_mono {f g:Nat→Bool} (h:∀i,f i=true→g i=true):∀n,cnt f n≤cnt g n
  | 0=>Nat.le_refl 0
  | n+1=>by
    have ih:=cnt_mono h n
    simp only [cnt]
    cases hf:f n with
    | true=>rw [h n hf];simp;exact ih
    | false=>cases g n<;>simp<;>omega
theorem cnt_lt {f g:Nat→Bool} (h:∀i,f i=true→g i=true) {j:Nat} (hf:f j=false) (hg:g j=true):∀n,j<n→cnt f n<cnt g n
  | 0,hj=>absurd hj (Nat.not_lt_zero _)
  | n + 1,hj=>by
    simp only [cnt]
    by_cases e:j=n
    · subst e
      have:=cnt_mono h j
      rw [hf,hg];simp;omega
    · have:=cnt_lt h hf hg n (by omega)
      cases hfn:f n with
      | true=>rw [h n hfn];simp;exact this
      | false=>cases g n<;>simp<;>omega
theorem cnt_pos {f:Nat→Bool} {j:Nat} (hf:f j=true):∀n,j<n→1≤cnt f n
  | 0,hj=>absurd hj (Nat.not_lt_zero _)
  | n+1,hj=>by
    simp only [cnt]
    by_cases e:j=n
    · subst e;rw [hf];simp
    · have:=cnt_pos hf n (by omega);omega
end search
end Go.Ab
