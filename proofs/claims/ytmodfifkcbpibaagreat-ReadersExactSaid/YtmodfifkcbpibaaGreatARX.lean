/- What the functions of this seat that lie on the laws' road compute (part ARX), each for every input. By AI agents. -/
import Derived.Test.YtmodfifkcbpibaaGreatPE
import Derived.Test.YtmodfifkcbpibaaGreatAbTop
set_option linter.all false
set_option linter.all false
namespace Go.Ab
theorem hasL_inv {s : Sh} {r : List Sh} : ∀ {xs : List V}, Sh.hasL (s :: r) xs → ∃ x q, xs = x :: q ∧ s.has x ∧ Sh.hasL r q
 | [], h => h.elim
 | x :: q, h => ⟨x, q, rfl, h.1, h.2⟩
theorem hasL_nil_inv : ∀ {xs : List V}, Sh.hasL [] xs → xs = []
 | [], _ => rfl
 | _ :: _, h => h.elim
theorem clOK_i64 {y : V} (h : Sh.has (.int .i64) y) : ∃ a : Int, y = (V.int .i64) a := by
 obtain ⟨n, e, _⟩ := h
 exact ⟨n, e⟩
theorem slOK_i64 {y : V} (h : Sh.has (.sl false [.int .i64]) y) : ∃ a : List Int, y = .sl (a.map (V.int .i64)) := by
 obtain ⟨ys, rfl, h⟩ := h
 obtain ⟨l, rfl⟩ := map_of (f := (V.int .i64)) (ys := ys) fun y hy => by
   exact clOK_i64 (h y hy).1
 exact ⟨l, rfl⟩
theorem elOK_GMember {y : List V} (h : Sh.hasL [.int .i64, .int .i64, .int .i64, .int .i64] y) : ∃ a : GMember, (.agg y : V) = GMember.v a := by
 obtain ⟨_, z1, rfl, g, k1⟩ := hasL_inv h
 obtain ⟨n0, rfl⟩ := clOK_i64 g
 obtain ⟨_, z2, rfl, g, k2⟩ := hasL_inv k1
 obtain ⟨n1, rfl⟩ := clOK_i64 g
 obtain ⟨_, z3, rfl, g, k3⟩ := hasL_inv k2
 obtain ⟨n2, rfl⟩ := clOK_i64 g
 obtain ⟨_, z4, rfl, g, k4⟩ := hasL_inv k3
 obtain ⟨n3, rfl⟩ := clOK_i64 g
 obtain rfl := hasL_nil_inv k4
 exact ⟨⟨n0, n1, n2, n3⟩, rfl⟩
theorem slOK_GMember {y : V} (h : Sh.has (.sl true [.int .i64, .int .i64, .int .i64, .int .i64]) y) : ∃ a : List GMember, y = .sl (a.map GMember.v) := by
 obtain ⟨ys, rfl, h⟩ := h
 obtain ⟨l, rfl⟩ := map_of (f := GMember.v) (ys := ys) fun y hy => by
   obtain ⟨zs, rfl, hz⟩ := h y hy
   exact elOK_GMember hz
 exact ⟨l, rfl⟩
theorem elOK_GDirectory {y : List V} (h : Sh.hasL [.sl false [.int .i64], .sl true [.int .i64, .int .i64, .int .i64, .int .i64]] y) : ∃ a : GDirectory, (.agg y : V) = GDirectory.v a := by
 obtain ⟨_, z1, rfl, g, k1⟩ := hasL_inv h
 obtain ⟨n0, rfl⟩ := slOK_i64 g
 obtain ⟨_, z2, rfl, g, k2⟩ := hasL_inv k1
 obtain ⟨n1, rfl⟩ := slOK_GMember g
 obtain rfl := hasL_nil_inv k2
 exact ⟨⟨n0, n1⟩, rfl⟩
theorem elOK_GAccess {y : List V} (h : Sh.hasL [.int .i64, .int .i64, .int .i64, .int .i64, .int .i64, .int .i64, .int .i64] y) : ∃ a : GAccess, (.agg y : V) = GAccess.v a := by
 obtain ⟨_, z1, rfl, g, k1⟩ := hasL_inv h
 obtain ⟨n0, rfl⟩ := clOK_i64 g
 obtain ⟨_, z2, rfl, g, k2⟩ := hasL_inv k1
 obtain ⟨n1, rfl⟩ := clOK_i64 g
 obtain ⟨_, z3, rfl, g, k3⟩ := hasL_inv k2
 obtain ⟨n2, rfl⟩ := clOK_i64 g
 obtain ⟨_, z4, rfl, g, k4⟩ := hasL_inv k3
 obtain ⟨n3, rfl⟩ := clOK_i64 g
 obtain ⟨_, z5, rfl, g, k5⟩ := hasL_inv k4
 obtain ⟨n4, rfl⟩ := clOK_i64 g
 obtain ⟨_, z6, rfl, g, k6⟩ := hasL_inv k5
 obtain ⟨n5, rfl⟩ := clOK_i64 g
 obtain ⟨_, z7, rfl, g, k7⟩ := hasL_inv k6
 obtain ⟨n6, rfl⟩ := clOK_i64 g
 obtain rfl := hasL_nil_inv k7
 exact ⟨⟨n0, n1, n2, n3, n4, n5, n6⟩, rfl⟩
theorem slOK_GAccess {y : V} (h : Sh.has (.sl true [.int .i64, .int .i64, .int .i64, .int .i64, .int .i64, .int .i64, .int .i64]) y) : ∃ a : List GAccess, y = .sl (a.map GAccess.v) := by
 obtain ⟨ys, rfl, h⟩ := h
 obtain ⟨l, rfl⟩ := map_of (f := GAccess.v) (ys := ys) fun y hy => by
   obtain ⟨zs, rfl, hz⟩ := h y hy
   exact elOK_GAccess hz
 exact ⟨l, rfl⟩
theorem elOK_GEstate {y : List V} (h : Sh.hasL [.int .i64, .sl true [.int .i64, .int .i64, .int .i64, .int .i64, .int .i64, .int .i64, .int .i64]] y) : ∃ a : GEstate, (.agg y : V) = GEstate.v a := by
 obtain ⟨_, z1, rfl, g, k1⟩ := hasL_inv h
 obtain ⟨n0, rfl⟩ := clOK_i64 g
 obtain ⟨_, z2, rfl, g, k2⟩ := hasL_inv k1
 obtain ⟨n1, rfl⟩ := slOK_GAccess g
 obtain rfl := hasL_nil_inv k2
 exact ⟨⟨n0, n1⟩, rfl⟩
theorem elOK_GReading {y : List V} (h : Sh.hasL [.int .i64, .int .i64, .int .i64, .int .i64, .sl false [.int .i64]] y) : ∃ a : GReading, (.agg y : V) = GReading.v a := by
 obtain ⟨_, z1, rfl, g, k1⟩ := hasL_inv h
 obtain ⟨n0, rfl⟩ := clOK_i64 g
 obtain ⟨_, z2, rfl, g, k2⟩ := hasL_inv k1
 obtain ⟨n1, rfl⟩ := clOK_i64 g
 obtain ⟨_, z3, rfl, g, k3⟩ := hasL_inv k2
 obtain ⟨n2, rfl⟩ := clOK_i64 g
 obtain ⟨_, z4, rfl, g, k4⟩ := hasL_inv k3
 obtain ⟨n3, rfl⟩ := clOK_i64 g
 obtain ⟨_, z5, rfl, g, k5⟩ := hasL_inv k4
 obtain ⟨n4, rfl⟩ := slOK_i64 g
 obtain rfl := hasL_nil_inv k5
 exact ⟨⟨n0, n1, n2, n3, n4⟩, rfl⟩
end Go.Ab
