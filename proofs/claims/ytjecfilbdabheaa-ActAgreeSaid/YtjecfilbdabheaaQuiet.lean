/- act.Quiet: what becomes of a node in ticks in which nothing is heard. -/
import Derived.Test.YtjecfilbdabheaaStep2
namespace Go.Proofs.Ytjecfilbdabheaa
open Go.RowKit
set_option linter.unusedSimpArgs false
set_option linter.unusedVariables false

theorem act_Step0 (n : Int) (x : Px.Node) (w : World) :
    Calls Try.prog 36 #[.int .i64 n, .agg #[.int .i64 (x).id, .int .i64 (x).mode, .int .i64 (x).count, .int .i64 (x).pos], .agg #[.int .i64 0, .int .i64 0, .int .i64 0, .int .i64 0]] w (Ret (.tuple #[.agg #[.int .i64 ((Px.stepped n x .none .none).1).id, .int .i64 ((Px.stepped n x .none .none).1).mode, .int .i64 ((Px.stepped n x .none .none).1).count, .int .i64 ((Px.stepped n x .none .none).1).pos], .int .i64 ((Px.stepped n x .none .none).2)]) w) :=
  act_Step n x .none .none (Px.heardOk_none n) (Px.heardOk_none n) w
theorem act_Step0' (n : Int) (x : Px.Node) (hx : Px.nodeRight n x = true) (hm : x.mode ≠ 0) (w : World) :
    Calls Try.prog 36 #[.int .i64 n, .agg #[.int .i64 (x).id, .int .i64 (x).mode, .int .i64 (x).count, .int .i64 (x).pos], .agg #[.int .i64 0, .int .i64 0, .int .i64 0, .int .i64 0]] w (Ret (.tuple #[.agg #[.int .i64 (Px.step n x .none .none).id, .int .i64 (Px.step n x .none .none).mode, .int .i64 (Px.step n x .none .none).count, .int .i64 (Px.step n x .none .none).pos], .int .i64 0]) w) := by
  have h := act_Step0 n x w
  rw [Px.stepped_ok hx hm] at h
  exact h

namespace Px
def quietOf (n : Int) (x : Node) (k : Int) : Node × Int := if nodeRight n x = true ∧ x.mode ≠ 0 then (if 0 ≤ k ∧ k ≤ 1000 then (quiet n k.toNat x, 0) else (⟨0, 0, 0, 0⟩, 2)) else (⟨0, 0, 0, 0⟩, 1)
end Px
/-- the worlds of the loop -/
def qbase (x : Px.Node) (w : World) : World := ((w.alloc (.cells #[.int .i64 x.id, .int .i64 x.mode, .int .i64 x.count, .int .i64 x.pos] 46)).alloc (.cells #[.int .i64 0, .int .i64 0, .int .i64 0, .int .i64 0] 46)).alloc (.cells #[.int .i64 0, .int .i64 0, .int .i64 0, .int .i64 0] 47)
theorem qbase_below {x : Px.Node} {w W : World} (h : Grew (qbase x w) W) : Below w.heap.size w W := by
  obtain ⟨z, rfl⟩ := h
  exact Below.grow (Below.alloc (Below.alloc (Below.alloc (Below.refl _ _) (Nat.le_refl _) _) (by simp) _) (by simp; omega) _) (by simp [qbase]; omega) _
set_option maxRecDepth 100000 in
set_option maxHeartbeats 2000000 in
theorem act_Quiet (n : Int) (x : Px.Node) (k : Int) (w : World) :
    Calls Try.prog 39 #[.int .i64 n, .agg #[.int .i64 (x).id, .int .i64 (x).mode, .int .i64 (x).count, .int .i64 (x).pos], .int .i64 k] w (Ret (.tuple #[.agg #[.int .i64 ((Px.quietOf n x k).1).id, .int .i64 ((Px.quietOf n x k).1).mode, .int .i64 ((Px.quietOf n x k).1).count, .int .i64 ((Px.quietOf n x k).1).pos], .int .i64 ((Px.quietOf n x k).2)]) w) := by
  by_cases hR : Px.nodeRight n x = true ∧ x.mode ≠ 0
  · obtain ⟨hx, hm⟩ := hR
    by_cases hk : 0 ≤ k ∧ k ≤ 1000
    · rw [show Px.quietOf n x k = (Px.quiet n k.toNat x, 0) by simp [Px.quietOf, hx, hm, hk]]
      obtain ⟨K, rfl⟩ := Int.eq_ofNat_of_zero_le hk.1
      have hK : K ≤ 1000 := by omega
      clear hk
      simp only [Int.toNat_natCast]
      have HQ : Hid (∀ j, Px.nodeRight n (Px.quiet n j x) = true ∧ (Px.quiet n j x).mode ≠ 0) := fun j => have h := Px.quiet_right j hx hm; ⟨h.1, h.2.2⟩
      go_enter Try.func39, Try.ntmps39
      go_wp2_with (first | (go_at_call 36; (with_reducible refine ((act_Step0' n x hx hm _).g).mono ?_); rintro _ _ ⟨rfl, z, rfl⟩))
      go_loopw [30] (fun i wr => ∃ j : Nat, j ≤ K ∧ i = .int .i64 j ∧ Grew (qbase (Px.quiet n j x) w) wr) (fun i _ => K - (intOf i).toNat)
      case atStart => exact ⟨0, by omega, rfl, (by repeat (first | exact Grew.refl _ | assumption | refine Grew.alloc ?_ _ | refine Grew.drew ?_ | refine Grew.drewN ?_ _ | refine Grew.grow ?_ _))⟩
      case round =>
        obtain ⟨j, hj, rfl, z, rfl⟩ := hrel
        obtain ⟨hq, hqm⟩ := HQ.out j
        unfold qbase
        by_cases hlt : j < K
        · go_wp2_with (first | (go_at_call 36; (with_reducible refine ((act_Step0' n (Px.quiet n j x) hq hqm _).g).mono ?_); rintro _ _ ⟨rfl, z, rfl⟩))
          go_roundw
          case rel => exact ⟨j + 1, by omega, by go_num, by rw [Px.quiet_succ]; exact (by repeat (first | exact Grew.refl _ | assumption | refine Grew.alloc ?_ _ | refine Grew.drew ?_ | refine Grew.drewN ?_ _ | refine Grew.grow ?_ _))⟩
          case measure => simp [intOf]; omega
        · have hjK : j = K := by omega
          subst hjK
          go_wp2
          refine bodyPost_ret (v := .tuple #[.agg #[.int .i64 (Px.quiet n j x).id, .int .i64 (Px.quiet n j x).mode, .int .i64 (Px.quiet n j x).count, .int .i64 (Px.quiet n j x).pos], .int .i64 0]) (by simp [results, Try.results39, go_sem, *]) rfl ⟨rfl, (by repeat (first | exact Below.refl _ _ | assumption | refine Below.grow ?_ (by first | omega | (simp [go_sem]; done) | (simp [go_sem]; omega)) _ | refine Below.alloc ?_ (by first | omega | (simp [go_sem]; done) | (simp [go_sem]; omega)) _ | refine Below.drew ?_ | refine below_drewN ?_ _ | refine Below.setCell ?_ (by first | omega | (simp [go_sem]; done) | (simp [go_sem]; omega)) _))⟩
    · rw [show Px.quietOf n x k = (⟨0, 0, 0, 0⟩, 2) by simp only [Px.quietOf, hx, hk, if_false]; simp [hm]]
      have hk' : k < 0 ∨ (¬ k < 0 ∧ 1000 < k) := by omega
      clear hk
      rcases hk' with h1 | ⟨h1, h2⟩
      all_goals
        go_enter Try.func39, Try.ntmps39
        go_wp2_with (first | (go_at_call 36; (with_reducible refine ((act_Step0' n x hx hm _).g).mono ?_); rintro _ _ ⟨rfl, z, rfl⟩))
        refine bodyPost_ret (v := .tuple #[.agg #[.int .i64 0, .int .i64 0, .int .i64 0, .int .i64 0], .int .i64 2]) (by simp [results, Try.results39, go_sem, *]) rfl ⟨rfl, (by repeat (first | exact Below.refl _ _ | assumption | refine Below.grow ?_ (by first | omega | (simp [go_sem]; done) | (simp [go_sem]; omega)) _ | refine Below.alloc ?_ (by first | omega | (simp [go_sem]; done) | (simp [go_sem]; omega)) _ | refine Below.drew ?_ | refine below_drewN ?_ _ | refine Below.setCell ?_ (by first | omega | (simp [go_sem]; done) | (simp [go_sem]; omega)) _))⟩
  · rw [show Px.quietOf n x k = (⟨0, 0, 0, 0⟩, 1) by simp only [Px.quietOf, hR, if_false]]
    have hs : ∀ W, Calls Try.prog 36 #[.int .i64 n, .agg #[.int .i64 (x).id, .int .i64 (x).mode, .int .i64 (x).count, .int .i64 (x).pos], .agg #[.int .i64 0, .int .i64 0, .int .i64 0, .int .i64 0]] W (Ret (.tuple #[.agg #[.int .i64 0, .int .i64 0, .int .i64 0, .int .i64 0], .int .i64 1]) W) := fun W => by
      have h := act_Step0 n x W
      rw [show Px.stepped n x .none .none = (⟨0, 0, 0, 0⟩, 1) by simp only [Px.stepped, hR, if_false]] at h
      exact h
    clear hR
    go_enter Try.func39, Try.ntmps39
    go_wp2_with (first | (go_at_call 36; (with_reducible refine ((hs _).g).mono ?_); rintro _ _ ⟨rfl, z, rfl⟩))
    refine bodyPost_ret (v := .tuple #[.agg #[.int .i64 0, .int .i64 0, .int .i64 0, .int .i64 0], .int .i64 1]) (by simp [results, Try.results39, go_sem, *]) rfl ⟨rfl, (by repeat (first | exact Below.refl _ _ | assumption | refine Below.grow ?_ (by first | omega | (simp [go_sem]; done) | (simp [go_sem]; omega)) _ | refine Below.alloc ?_ (by first | omega | (simp [go_sem]; done) | (simp [go_sem]; omega)) _ | refine Below.drew ?_ | refine below_drewN ?_ _ | refine Below.setCell ?_ (by first | omega | (simp [go_sem]; done) | (simp [go_sem]; omega)) _))⟩
end Go.Proofs.Ytjecfilbdabheaa
