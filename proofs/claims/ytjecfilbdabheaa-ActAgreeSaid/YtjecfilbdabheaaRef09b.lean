/- ref08 and ref09: what is said, and what becomes of a node, by the document. -/
import Derived.Test.YtjecfilbdabheaaRef09
namespace Go.Proofs.Ytjecfilbdabheaa
open Go.RowKit
set_option linter.unusedSimpArgs false
set_option linter.unusedVariables false

namespace Px
/-- in how many ticks a node says something -/
def due (n : Int) (x : Node) : Int := if x.mode = 1 ∨ x.mode = 2 then max (wait n x - x.count) 0 else if x.mode = 3 then (x.id - x.pos) % n else -1
theorem nodeRight_rng {n id m c p : Int} (h : nodeRight n ⟨id, m, c, p⟩ = true) : 3 ≤ n ∧ n ≤ 8 ∧ 0 ≤ id ∧ id < n ∧ 0 ≤ m ∧ m ≤ 3 ∧ 0 ≤ c ∧ c ≤ 1073741824 ∧ 0 ≤ p ∧ p < n := by
  have h := nodeRight_iff.1 h
  simp only at h
  omega
theorem due_say {n : Int} {x : Node} (hx : nodeRight n x = true) : (due n x = 0 ↔ say n x ≠ .none) := by
  have h := nodeRight_iff.1 hx
  obtain ⟨id, m, c, p⟩ := x
  simp only at h
  have hn : n = 3 ∨ n = 4 ∨ n = 5 ∨ n = 6 ∨ n = 7 ∨ n = 8 := by omega
  unfold due say
  by_cases h3 : m = 3
  · subst h3
    have : ((id - p) % n = 0) ↔ p = id := by
      rcases hn with rfl | rfl | rfl | rfl | rfl | rfl <;> omega
    by_cases hp : p = id
    · simp [hp]
    · simp only [hp]; simp; omega
  · by_cases h12 : m = 1 ∨ m = 2
    · by_cases hw : wait n ⟨id, m, c, p⟩ ≤ c
      · simp only [h12, h3, hw]; simp; omega
      · simp only [h12, h3, hw]; simp; omega
    · simp only [h12, h3]; simp
end Px
theorem ref03_Listen' (n i : Int) (h3 : 3 ≤ n) (h8 : n ≤ 8) (h0 : 0 ≤ i) (h1 : i < n) (w : World) : Calls Try.prog 166 #[.int .i64 n, .int .i64 i] w (Same (.tuple #[.int .i64 (4 * n + i + 1), .int .i64 0]) w) := by
  have h := ref03_Listen n i w
  rwa [show Px.own 4 n i = (4 * n + i + 1, 0) by simp [Px.own, Px.right_iff.2 ⟨h3, h8⟩, h0, h1]] at h
theorem ref03_Cold' (n i : Int) (h3 : 3 ≤ n) (h8 : n ≤ 8) (h0 : 0 ≤ i) (h1 : i < n) (w : World) : Calls Try.prog 167 #[.int .i64 n, .int .i64 i] w (Same (.tuple #[.int .i64 (2 * n + i + 1), .int .i64 0]) w) := by
  have h := ref03_Cold n i w
  rwa [show Px.own 2 n i = (2 * n + i + 1, 0) by simp [Px.own, Px.right_iff.2 ⟨h3, h8⟩, h0, h1]] at h
set_option maxRecDepth 100000 in
set_option maxHeartbeats 2000000 in
theorem ref05_Ahead (n a b : Int) (h3 : 3 ≤ n) (h8 : n ≤ 8) (ha : 0 ≤ a ∧ a < n) (hb : 0 ≤ b ∧ b < n) (w : World) : Calls Try.prog 168 #[.int .i64 n, .int .i64 a, .int .i64 b] w (Ret (.int .i64 ((b - a) % n)) w) := by
  have hw : wrap64 (b - a) = b - a := wrap64_of (by omega)
  go_enter Try.func168, Try.ntmps168
  go_wp2_with (first | (go_at_call 127; (with_reducible refine (ref05_Mod n (b - a) h3 h8 _).mono ?_); rintro e w1 ⟨rfl, rfl⟩))
  go_ret
  exact Ret.mk rfl (by repeat (first | exact Below.refl _ _ | assumption | refine Below.grow ?_ (by first | omega | (simp [go_sem]; done) | (simp [go_sem]; omega)) _ | refine Below.alloc ?_ (by first | omega | (simp [go_sem]; done) | (simp [go_sem]; omega)) _ | refine Below.drew ?_ | refine below_drewN ?_ _ | refine Below.setCell ?_ (by first | omega | (simp [go_sem]; done) | (simp [go_sem]; omega)) _))

set_option maxRecDepth 100000 in
set_option maxHeartbeats 2000000 in
theorem ref08_Due (n id m c p : Int) (hR : Px.nodeRight n ⟨id, m, c, p⟩ = true) (w : World) : Calls Try.prog 126 #[.int .i64 n, .agg #[.int .i64 id, .int .i64 m, .int .i64 c, .int .i64 p]] w (Ret (.int .i64 (Px.due n ⟨id, m, c, p⟩)) w) := by
  obtain ⟨h3, h8, h0, h1, h4, h5, h6, h7, h10, h11⟩ := Px.nodeRight_rng hR
  have hn4 : wrap64 (4 * n + id + 1 - c) = 4 * n + id + 1 - c := wrap64_of (by omega)
  have hn2 : wrap64 (2 * n + id + 1 - c) = 2 * n + id + 1 - c := wrap64_of (by omega)
  have hm : m = 0 ∨ m = 1 ∨ m = 2 ∨ m = 3 := by omega
  rcases hm with rfl | rfl | rfl | rfl
  all_goals
    go_enter Try.func126, Try.ntmps126
    go_wp2_with (first | (go_at_call 37; (with_reducible refine ((ref06_Right n ⟨id, _, c, p⟩ _).g).mono ?_); rintro _ _ ⟨rfl, z, rfl⟩) | (go_at_call 166; (with_reducible refine ((ref03_Listen' n id h3 h8 h0 h1 _).s).mono ?_); rintro _ _ ⟨rfl, z, rfl⟩) | (go_at_call 167; (with_reducible refine ((ref03_Cold' n id h3 h8 h0 h1 _).s).mono ?_); rintro _ _ ⟨rfl, z, rfl⟩) | (go_at_call 168; (with_reducible refine ((ref05_Ahead n p id h3 h8 ⟨h10, h11⟩ ⟨h0, h1⟩ _).g).mono ?_); rintro _ _ ⟨rfl, z, rfl⟩))
    all_goals (go_ret; exact Ret.mk (vint (by simp [Px.due, Px.wait] <;> omega)) (by repeat (first | exact Below.refl _ _ | assumption | refine Below.grow ?_ (by first | omega | (simp [go_sem]; done) | (simp [go_sem]; omega)) _ | refine Below.alloc ?_ (by first | omega | (simp [go_sem]; done) | (simp [go_sem]; omega)) _ | refine Below.drew ?_ | refine below_drewN ?_ _ | refine Below.setCell ?_ (by first | omega | (simp [go_sem]; done) | (simp [go_sem]; omega)) _)))

set_option maxRecDepth 100000 in
set_option maxHeartbeats 2000000 in
theorem ref08_Of (n id m c p : Int) (hR : Px.nodeRight n ⟨id, m, c, p⟩ = true) (w : World) : Calls Try.prog 71 #[.int .i64 n, .agg #[.int .i64 id, .int .i64 m, .int .i64 c, .int .i64 p]] w (Ret (.tuple #[.agg #[.int .i64 ((Px.say n ⟨id, m, c, p⟩).kind), .int .i64 ((Px.say n ⟨id, m, c, p⟩).id)], .int .i64 0]) w) := by
  have hd := Px.due_say hR
  by_cases h0 : Px.due n ⟨id, m, c, p⟩ = 0
  · by_cases h3 : m = 3
    · subst h3
      rw [show Px.say n ⟨id, 3, c, p⟩ = ⟨2, id⟩ by
        have := hd.1 h0
        unfold Px.say at this ⊢
        (repeat' split at this) <;> simp_all]
      clear hd
      go_enter Try.func71, Try.ntmps71
      go_wp2_with (first | (go_at_call 37; (with_reducible refine ((ref06_Right n ⟨id, _, c, p⟩ _).g).mono ?_); rintro _ _ ⟨rfl, z, rfl⟩) | (go_at_call 126; (with_reducible refine ((ref08_Due n id _ c p hR _).g).mono ?_); rintro _ _ ⟨rfl, z, rfl⟩))
      refine bodyPost_ret (v := .tuple #[.agg #[.int .i64 2, .int .i64 id], .int .i64 0]) (by simp [results, Try.results71, go_sem, *]) rfl ⟨rfl, (by repeat (first | exact Below.refl _ _ | assumption | refine Below.grow ?_ (by first | omega | (simp [go_sem]; done) | (simp [go_sem]; omega)) _ | refine Below.alloc ?_ (by first | omega | (simp [go_sem]; done) | (simp [go_sem]; omega)) _ | refine Below.drew ?_ | refine below_drewN ?_ _ | refine Below.setCell ?_ (by first | omega | (simp [go_sem]; done) | (simp [go_sem]; omega)) _))⟩
    · rw [show Px.say n ⟨id, m, c, p⟩ = ⟨1, id⟩ by
        have := hd.1 h0
        unfold Px.say at this ⊢
        (repeat' split at this) <;> simp_all]
      clear hd
      go_enter Try.func71, Try.ntmps71
      go_wp2_with (first | (go_at_call 37; (with_reducible refine ((ref06_Right n ⟨id, _, c, p⟩ _).g).mono ?_); rintro _ _ ⟨rfl, z, rfl⟩) | (go_at_call 126; (with_reducible refine ((ref08_Due n id _ c p hR _).g).mono ?_); rintro _ _ ⟨rfl, z, rfl⟩))
      refine bodyPost_ret (v := .tuple #[.agg #[.int .i64 1, .int .i64 id], .int .i64 0]) (by simp [results, Try.results71, go_sem, *]) rfl ⟨rfl, (by repeat (first | exact Below.refl _ _ | assumption | refine Below.grow ?_ (by first | omega | (simp [go_sem]; done) | (simp [go_sem]; omega)) _ | refine Below.alloc ?_ (by first | omega | (simp [go_sem]; done) | (simp [go_sem]; omega)) _ | refine Below.drew ?_ | refine below_drewN ?_ _ | refine Below.setCell ?_ (by first | omega | (simp [go_sem]; done) | (simp [go_sem]; omega)) _))⟩
  · rw [show Px.say n ⟨id, m, c, p⟩ = ⟨0, 0⟩ by
      rcases Classical.em (Px.say n ⟨id, m, c, p⟩ = .none) with h | h
      · exact h
      · exact absurd (hd.2 h) h0]
    clear hd
    go_enter Try.func71, Try.ntmps71
    go_wp2_with (first | (go_at_call 37; (with_reducible refine ((ref06_Right n ⟨id, _, c, p⟩ _).g).mono ?_); rintro _ _ ⟨rfl, z, rfl⟩) | (go_at_call 126; (with_reducible refine ((ref08_Due n id _ c p hR _).g).mono ?_); rintro _ _ ⟨rfl, z, rfl⟩))
    refine bodyPost_ret (v := .tuple #[.agg #[.int .i64 0, .int .i64 0], .int .i64 0]) (by simp [results, Try.results71, go_sem, *]) rfl ⟨rfl, (by repeat (first | exact Below.refl _ _ | assumption | refine Below.grow ?_ (by first | omega | (simp [go_sem]; done) | (simp [go_sem]; omega)) _ | refine Below.alloc ?_ (by first | omega | (simp [go_sem]; done) | (simp [go_sem]; omega)) _ | refine Below.drew ?_ | refine below_drewN ?_ _ | refine Below.setCell ?_ (by first | omega | (simp [go_sem]; done) | (simp [go_sem]; omega)) _))⟩

set_option maxRecDepth 100000 in
set_option maxHeartbeats 2000000 in
theorem ref09_to (id m c p k q : Int) (w : World) : Calls Try.prog 74 #[.agg #[.int .i64 id, .int .i64 m, .int .i64 c, .int .i64 p], .int .i64 k, .int .i64 q] w (Ret (.agg #[.int .i64 id, .int .i64 k, .int .i64 0, .int .i64 q]) w) := by
  go_enter Try.func74, Try.ntmps74
  go_wp2
  refine bodyPost_ret (v := .agg #[.int .i64 id, .int .i64 k, .int .i64 0, .int .i64 q]) (by simp [results, Try.results74, go_sem, *]) rfl ⟨rfl, (by repeat (first | exact Below.refl _ _ | assumption | refine Below.grow ?_ (by first | omega | (simp [go_sem]; done) | (simp [go_sem]; omega)) _ | refine Below.alloc ?_ (by first | omega | (simp [go_sem]; done) | (simp [go_sem]; omega)) _ | refine Below.drew ?_ | refine below_drewN ?_ _ | refine Below.setCell ?_ (by first | omega | (simp [go_sem]; done) | (simp [go_sem]; omega)) _))⟩
set_option maxRecDepth 100000 in
set_option maxHeartbeats 2000000 in
theorem ref09_up (id m c p : Int) (h0 : 0 ≤ c) (h1 : c ≤ 1073741824) (w : World) : Calls Try.prog 76 #[.agg #[.int .i64 id, .int .i64 m, .int .i64 c, .int .i64 p]] w (Ret (.agg #[.int .i64 id, .int .i64 m, .int .i64 (Px.up c), .int .i64 p]) w) := by
  go_enter Try.func76, Try.ntmps76
  go_wp2_with (first | (go_at_call 128; (with_reducible refine ((ref04_Up _ h0 h1 _).s).mono ?_); rintro _ _ ⟨rfl, z, rfl⟩))
  refine bodyPost_ret (v := .agg #[.int .i64 id, .int .i64 m, .int .i64 (Px.up c), .int .i64 p]) (by simp [results, Try.results76, go_sem, *]) rfl ⟨rfl, (by repeat (first | exact Below.refl _ _ | assumption | refine Below.grow ?_ (by first | omega | (simp [go_sem]; done) | (simp [go_sem]; omega)) _ | refine Below.alloc ?_ (by first | omega | (simp [go_sem]; done) | (simp [go_sem]; omega)) _ | refine Below.drew ?_ | refine below_drewN ?_ _ | refine Below.setCell ?_ (by first | omega | (simp [go_sem]; done) | (simp [go_sem]; omega)) _))⟩
end Go.Proofs.Ytjecfilbdabheaa
