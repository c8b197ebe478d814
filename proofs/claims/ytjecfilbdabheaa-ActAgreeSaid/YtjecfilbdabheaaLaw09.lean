/- ref09.Quiet, Heard; the laws of layer 9: the walks. -/
import Derived.Test.YtjecfilbdabheaaRef09c
import Derived.Test.YtjecfilbdabheaaQuiet
namespace Go.Proofs.Ytjecfilbdabheaa
open Go.RowKit
set_option linter.unusedSimpArgs false
set_option linter.unusedVariables false

theorem ref09_Step0 (n : Int) (x : Px.Node) (w : World) :
    Calls Try.prog 38 #[.int .i64 n, .agg #[.int .i64 (x).id, .int .i64 (x).mode, .int .i64 (x).count, .int .i64 (x).pos], .agg #[.int .i64 0, .int .i64 0, .int .i64 0, .int .i64 0]] w (Ret (.tuple #[.agg #[.int .i64 ((Px.stepped n x .none .none).1).id, .int .i64 ((Px.stepped n x .none .none).1).mode, .int .i64 ((Px.stepped n x .none .none).1).count, .int .i64 ((Px.stepped n x .none .none).1).pos], .int .i64 ((Px.stepped n x .none .none).2)]) w) :=
  ref09_Step n _ _ _ _ 0 0 0 0 (Px.heardOk_none n) (Px.heardOk_none n) w
theorem ref09_Step0' (n : Int) (x : Px.Node) (hx : Px.nodeRight n x = true) (hm : x.mode ≠ 0) (w : World) :
    Calls Try.prog 38 #[.int .i64 n, .agg #[.int .i64 (x).id, .int .i64 (x).mode, .int .i64 (x).count, .int .i64 (x).pos], .agg #[.int .i64 0, .int .i64 0, .int .i64 0, .int .i64 0]] w (Ret (.tuple #[.agg #[.int .i64 (Px.step n x .none .none).id, .int .i64 (Px.step n x .none .none).mode, .int .i64 (Px.step n x .none .none).count, .int .i64 (Px.step n x .none .none).pos], .int .i64 0]) w) := by
  have h := ref09_Step0 n x w
  rw [Px.stepped_ok hx hm] at h
  exact h
/-- the worlds of the loop -/
def qbase2 (x y : Px.Node) (w : World) (z : Ext) : World := (((w.alloc (.cells #[.int .i64 x.id, .int .i64 x.mode, .int .i64 x.count, .int .i64 x.pos] 46)).alloc (.cells #[.int .i64 0, .int .i64 0, .int .i64 0, .int .i64 0] 46)).grow z).alloc (.cells #[.int .i64 y.id, .int .i64 y.mode, .int .i64 y.count, .int .i64 y.pos] 46)
set_option maxRecDepth 100000 in
set_option maxHeartbeats 2000000 in
theorem ref09_Quiet (n : Int) (x : Px.Node) (k : Int) (w : World) :
    Calls Try.prog 40 #[.int .i64 n, .agg #[.int .i64 (x).id, .int .i64 (x).mode, .int .i64 (x).count, .int .i64 (x).pos], .int .i64 k] w (Ret (.tuple #[.agg #[.int .i64 ((Px.quietOf n x k).1).id, .int .i64 ((Px.quietOf n x k).1).mode, .int .i64 ((Px.quietOf n x k).1).count, .int .i64 ((Px.quietOf n x k).1).pos], .int .i64 ((Px.quietOf n x k).2)]) w) := by
  by_cases hR : Px.nodeRight n x = true ∧ x.mode ≠ 0
  · obtain ⟨hx, hm⟩ := hR
    by_cases hk : 0 ≤ k ∧ k ≤ 1000
    · rw [show Px.quietOf n x k = (Px.quiet n k.toNat x, 0) by simp [Px.quietOf, hx, hm, hk]]
      obtain ⟨K, rfl⟩ := Int.eq_ofNat_of_zero_le hk.1
      have hK : K ≤ 1000 := by omega
      clear hk
      simp only [Int.toNat_natCast]
      have HQ : Hid (∀ j, Px.nodeRight n (Px.quiet n j x) = true ∧ (Px.quiet n j x).mode ≠ 0) := fun j => have h := Px.quiet_right j hx hm; ⟨h.1, h.2.2⟩
      go_enter Try.func40, Try.ntmps40
      go_wp2_with (first | (go_at_call 38; (with_reducible refine ((ref09_Step0' n x hx hm _).g).mono ?_); rintro _ _ ⟨rfl, z0, rfl⟩))
      go_loopw [10] (fun i wr => ∃ j : Nat, j ≤ K ∧ i = .int .i64 j ∧ Grew (qbase2 (Px.quiet n j x) (Px.step n x .none .none) w z0) wr) (fun i _ => K - (intOf i).toNat)
      case atStart => exact ⟨0, by omega, rfl, (by repeat (first | exact Grew.refl _ | assumption | refine Grew.alloc ?_ _ | refine Grew.drew ?_ | refine Grew.drewN ?_ _ | refine Grew.grow ?_ _))⟩
      case round =>
        obtain ⟨j, hj, rfl, z, rfl⟩ := hrel
        obtain ⟨hq, hqm⟩ := HQ.out j
        unfold qbase2
        by_cases hlt : j < K
        · go_wp2_with (first | (go_at_call 38; (with_reducible refine ((ref09_Step0' n (Px.quiet n j x) hq hqm _).g).mono ?_); rintro _ _ ⟨rfl, z, rfl⟩))
          go_roundw
          case rel => exact ⟨j + 1, by omega, by go_num, by rw [Px.quiet_succ]; exact (by repeat (first | exact Grew.refl _ | assumption | refine Grew.alloc ?_ _ | refine Grew.drew ?_ | refine Grew.drewN ?_ _ | refine Grew.grow ?_ _))⟩
          case measure => simp [intOf]; omega
        · have hjK : j = K := by omega
          subst hjK
          go_wp2
          refine bodyPost_ret (v := .tuple #[.agg #[.int .i64 (Px.quiet n j x).id, .int .i64 (Px.quiet n j x).mode, .int .i64 (Px.quiet n j x).count, .int .i64 (Px.quiet n j x).pos], .int .i64 0]) (by simp [results, Try.results40, go_sem, *]) rfl ⟨rfl, (by repeat (first | exact Below.refl _ _ | assumption | refine Below.grow ?_ (by first | omega | (simp [go_sem]; done) | (simp [go_sem]; omega)) _ | refine Below.alloc ?_ (by first | omega | (simp [go_sem]; done) | (simp [go_sem]; omega)) _ | refine Below.drew ?_ | refine below_drewN ?_ _ | refine Below.setCell ?_ (by first | omega | (simp [go_sem]; done) | (simp [go_sem]; omega)) _))⟩
    · rw [show Px.quietOf n x k = (⟨0, 0, 0, 0⟩, 2) by simp only [Px.quietOf, hx, hk, if_false]; simp [hm]]
      have hk' : k < 0 ∨ (¬ k < 0 ∧ 1000 < k) := by omega
      clear hk
      rcases hk' with h1 | ⟨h1, h2⟩
      all_goals
        go_enter Try.func40, Try.ntmps40
        go_wp2_with (first | (go_at_call 38; (with_reducible refine ((ref09_Step0' n x hx hm _).g).mono ?_); rintro _ _ ⟨rfl, z, rfl⟩))
        refine bodyPost_ret (v := .tuple #[.agg #[.int .i64 0, .int .i64 0, .int .i64 0, .int .i64 0], .int .i64 2]) (by simp [results, Try.results40, go_sem, *]) rfl ⟨rfl, (by repeat (first | exact Below.refl _ _ | assumption | refine Below.grow ?_ (by first | omega | (simp [go_sem]; done) | (simp [go_sem]; omega)) _ | refine Below.alloc ?_ (by first | omega | (simp [go_sem]; done) | (simp [go_sem]; omega)) _ | refine Below.drew ?_ | refine below_drewN ?_ _ | refine Below.setCell ?_ (by first | omega | (simp [go_sem]; done) | (simp [go_sem]; omega)) _))⟩
  · rw [show Px.quietOf n x k = (⟨0, 0, 0, 0⟩, 1) by simp only [Px.quietOf, hR, if_false]]
    have hs : ∀ W, Calls Try.prog 38 #[.int .i64 n, .agg #[.int .i64 (x).id, .int .i64 (x).mode, .int .i64 (x).count, .int .i64 (x).pos], .agg #[.int .i64 0, .int .i64 0, .int .i64 0, .int .i64 0]] W (Ret (.tuple #[.agg #[.int .i64 0, .int .i64 0, .int .i64 0, .int .i64 0], .int .i64 1]) W) := fun W => by
      have h := ref09_Step0 n x W
      rw [show Px.stepped n x .none .none = (⟨0, 0, 0, 0⟩, 1) by simp only [Px.stepped, hR, if_false]] at h
      exact h
    clear hR
    go_enter Try.func40, Try.ntmps40
    go_wp2_with (first | (go_at_call 38; (with_reducible refine ((hs _).g).mono ?_); rintro _ _ ⟨rfl, z, rfl⟩))
    refine bodyPost_ret (v := .tuple #[.agg #[.int .i64 0, .int .i64 0, .int .i64 0, .int .i64 0], .int .i64 1]) (by simp [results, Try.results40, go_sem, *]) rfl ⟨rfl, (by repeat (first | exact Below.refl _ _ | assumption | refine Below.grow ?_ (by first | omega | (simp [go_sem]; done) | (simp [go_sem]; omega)) _ | refine Below.alloc ?_ (by first | omega | (simp [go_sem]; done) | (simp [go_sem]; omega)) _ | refine Below.drew ?_ | refine below_drewN ?_ _ | refine Below.setCell ?_ (by first | omega | (simp [go_sem]; done) | (simp [go_sem]; omega)) _))⟩

set_option maxRecDepth 100000 in
set_option maxHeartbeats 2000000 in
theorem ref09_Heard (n a b d e : Int) (w : World) :
    Calls Try.prog 34 #[.int .i64 n, .agg #[.int .i64 a, .int .i64 b, .int .i64 d, .int .i64 e]] w (Ret (.bool (Px.heardOk n ⟨a, b⟩ && Px.heardOk n ⟨d, e⟩)) w) := by
  cases h1 : Px.heardOk n ⟨a, b⟩ with
  | false =>
    have h1' : ¬ ((a = 0 ∧ b = 0) ∨ ((a = 1 ∨ a = 2) ∧ 0 ≤ b ∧ b < n)) := fun h => by rw [Px.heardOk_iff.2 h] at h1; cases h1
    clear h1
    go_enter Try.func34, Try.ntmps34
    go_wp2
    refine wp_loop_rounds 3 ?_
    rw [rounds_succ]
    go_wp2
    all_goals (try (exfalso; simp_all <;> omega))
    all_goals (go_ret; exact Ret.mk rfl (by repeat (first | exact Below.refl _ _ | assumption | refine Below.grow ?_ (by first | omega | (simp [go_sem]; done) | (simp [go_sem]; omega)) _ | refine Below.alloc ?_ (by first | omega | (simp [go_sem]; done) | (simp [go_sem]; omega)) _ | refine Below.drew ?_ | refine below_drewN ?_ _ | refine Below.setCell ?_ (by first | omega | (simp [go_sem]; done) | (simp [go_sem]; omega)) _)))
  | true =>
    have h1' := Px.heardOk_iff.1 h1
    simp only at h1'
    clear h1
    cases h2 : Px.heardOk n ⟨d, e⟩ with
    | false =>
      have h2' : ¬ ((d = 0 ∧ e = 0) ∨ ((d = 1 ∨ d = 2) ∧ 0 ≤ e ∧ e < n)) := fun h => by rw [Px.heardOk_iff.2 h] at h2; cases h2
      clear h2
      go_enter Try.func34, Try.ntmps34
      go_wp2
      refine wp_loop_rounds 3 ?_
      rw [rounds_succ]
      go_wp2
      all_goals (try (exfalso; simp_all <;> omega))
      all_goals (try (rw [rounds_succ]; go_wp2))
      all_goals (try (exfalso; simp_all <;> omega))
      all_goals (go_ret; exact Ret.mk rfl (by repeat (first | exact Below.refl _ _ | assumption | refine Below.grow ?_ (by first | omega | (simp [go_sem]; done) | (simp [go_sem]; omega)) _ | refine Below.alloc ?_ (by first | omega | (simp [go_sem]; done) | (simp [go_sem]; omega)) _ | refine Below.drew ?_ | refine below_drewN ?_ _ | refine Below.setCell ?_ (by first | omega | (simp [go_sem]; done) | (simp [go_sem]; omega)) _)))
    | true =>
      have h2' := Px.heardOk_iff.1 h2
      simp only at h2'
      clear h2
      go_enter Try.func34, Try.ntmps34
      go_wp2
      refine wp_loop_rounds 3 ?_
      rw [rounds_succ]
      go_wp2
      all_goals (try (exfalso; simp_all <;> omega))
      all_goals (try (rw [rounds_succ]; go_wp2))
      all_goals (try (exfalso; simp_all <;> omega))
      all_goals (try (rw [rounds_succ]; go_wp2))
      all_goals (go_ret; exact Ret.mk rfl (by repeat (first | exact Below.refl _ _ | assumption | refine Below.grow ?_ (by first | omega | (simp [go_sem]; done) | (simp [go_sem]; omega)) _ | refine Below.alloc ?_ (by first | omega | (simp [go_sem]; done) | (simp [go_sem]; omega)) _ | refine Below.drew ?_ | refine below_drewN ?_ _ | refine Below.setCell ?_ (by first | omega | (simp [go_sem]; done) | (simp [go_sem]; omega)) _)))
end Go.Proofs.Ytjecfilbdabheaa
