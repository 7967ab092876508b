/- What the functions of this seat that lie on the laws' road compute (part ARX), each for every input. By AI agents. -/
import Derived.Test.YtdcjekffkibboaaGreatDoorPR
import Derived.Test.YtdcjekffkibboaaGreatDoorAbTop
set_option linter.all false
set_option linter.all false
namespace Go.Ab
theorem hasL_inv {s : Sh} {r : List Sh} : ∀ {xs : List V}, Sh.hasL (s :: r) xs → ∃ x q, xs = x :: q ∧ s.has x ∧ Sh.hasL r q
  | [], h => h.elim
  | x :: q, h => ⟨x, q, rfl, h.1, h.2⟩
theorem hasL_nil_inv : ∀ {xs : List V}, Sh.hasL [] xs → xs = []
  | [], _ => rfl
  | _ :: _, h => h.elim
theorem clOK_i64 {y : V} (h : Sh.has (.int .i64) y) : ∃ a : Int, y = (V.int .i64) a := by
  obtain ⟨n, e, _⟩ := h
  exact ⟨n, e⟩
theorem slOK_i64 {y : V} (h : Sh.has (.sl false [.int .i64]) y) : ∃ a : List Int, y = .sl (a.map (V.int .i64)) := by
  obtain ⟨ys, rfl, h⟩ := h
  obtain ⟨l, rfl⟩ := map_of (f := (V.int .i64)) (ys := ys) fun y hy => by
    exact clOK_i64 (h y hy).1
  exact ⟨l, rfl⟩
theorem clOK_u8 {y : V} (h : Sh.has (.int .u8) y) : ∃ a : UInt8, y = byteV a := by
  obtain ⟨n, e, h1, h2⟩ := h
  refine ⟨UInt8.ofNat n.toNat, ?_⟩
  rw [e, byteV]
  congr 1
  have : (UInt8.ofNat n.toNat).toNat = n.toNat % 256 := by simp
  rw [this]; omega
theorem slOK_u8 {y : V} (h : Sh.has (.sl false [.int .u8]) y) : ∃ a : List UInt8, y = .sl (a.map byteV) := by
  obtain ⟨ys, rfl, h⟩ := h
  obtain ⟨l, rfl⟩ := map_of (f := byteV) (ys := ys) fun y hy => by
    exact clOK_u8 (h y hy).1
  exact ⟨l, rfl⟩
theorem clOK_str {y : V} (h : Sh.has .str y) : ∃ a : Str, y = V.str a := h
theorem elOK_GItem {y : List V} (h : Sh.hasL [.str, .int .i64] y) : ∃ a : GItem, (.agg y : V) = GItem.v a := by
  obtain ⟨_, z1, rfl, g, k1⟩ := hasL_inv h
  obtain ⟨n0, rfl⟩ := clOK_str g
  obtain ⟨_, z2, rfl, g, k2⟩ := hasL_inv k1
  obtain ⟨n1, rfl⟩ := clOK_i64 g
  obtain rfl := hasL_nil_inv k2
  exact ⟨⟨n0, n1⟩, rfl⟩
theorem slOK_GItem {y : V} (h : Sh.has (.sl true [.str, .int .i64]) y) : ∃ a : List GItem, y = .sl (a.map GItem.v) := by
  obtain ⟨ys, rfl, h⟩ := h
  obtain ⟨l, rfl⟩ := map_of (f := GItem.v) (ys := ys) fun y hy => by
    obtain ⟨zs, rfl, hz⟩ := h y hy
    exact elOK_GItem hz
  exact ⟨l, rfl⟩
theorem elOK_GObject {y : List V} (h : Sh.hasL [.int .i64, .int .i64, .sl false [.int .u8], .sl true [.str, .int .i64], .int .i64, .sl false [.int .i64], .str, .int .i64] y) : ∃ a : GObject, (.agg y : V) = GObject.v a := by
  obtain ⟨_, z1, rfl, g, k1⟩ := hasL_inv h
  obtain ⟨n0, rfl⟩ := clOK_i64 g
  obtain ⟨_, z2, rfl, g, k2⟩ := hasL_inv k1
  obtain ⟨n1, rfl⟩ := clOK_i64 g
  obtain ⟨_, z3, rfl, g, k3⟩ := hasL_inv k2
  obtain ⟨n2, rfl⟩ := slOK_u8 g
  obtain ⟨_, z4, rfl, g, k4⟩ := hasL_inv k3
  obtain ⟨n3, rfl⟩ := slOK_GItem g
  obtain ⟨_, z5, rfl, g, k5⟩ := hasL_inv k4
  obtain ⟨n4, rfl⟩ := clOK_i64 g
  obtain ⟨_, z6, rfl, g, k6⟩ := hasL_inv k5
  obtain ⟨n5, rfl⟩ := slOK_i64 g
  obtain ⟨_, z7, rfl, g, k7⟩ := hasL_inv k6
  obtain ⟨n6, rfl⟩ := clOK_str g
  obtain ⟨_, z8, rfl, g, k8⟩ := hasL_inv k7
  obtain ⟨n7, rfl⟩ := clOK_i64 g
  obtain rfl := hasL_nil_inv k8
  exact ⟨⟨n0, n1, n2, n3, n4, n5, n6, n7⟩, rfl⟩
theorem slOK_GObject {y : V} (h : Sh.has (.sl true [.int .i64, .int .i64, .sl false [.int .u8], .sl true [.str, .int .i64], .int .i64, .sl false [.int .i64], .str, .int .i64]) y) : ∃ a : List GObject, y = .sl (a.map GObject.v) := by
  obtain ⟨ys, rfl, h⟩ := h
  obtain ⟨l, rfl⟩ := map_of (f := GObject.v) (ys := ys) fun y hy => by
    obtain ⟨zs, rfl, hz⟩ := h y hy
    exact elOK_GObject hz
  exact ⟨l, rfl⟩
end Go.Ab
