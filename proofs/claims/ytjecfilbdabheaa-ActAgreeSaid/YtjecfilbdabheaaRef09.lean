/- ref07, ref08, ref09: what is heard, what is said, and what becomes of a node, by the document. -/
import Derived.Test.YtjecfilbdabheaaMatch
import Derived.Test.YtjecfilbdabheaaGrow
namespace Go.Proofs.Ytjecfilbdabheaa
open Go.RowKit
set_option linter.unusedSimpArgs false
set_option linter.unusedVariables false

set_option maxRecDepth 100000 in
set_option maxHeartbeats 2000000 in
theorem ref07_Info (a b c d : Int) (w : World) : Calls Try.prog 72 #[.agg #[.int .i64 a, .int .i64 b, .int .i64 c, .int .i64 d]] w (Ret (.tuple #[.int .i64 ((Px.infoOf ⟨a, b⟩ ⟨c, d⟩).getD 0), .bool ((Px.infoOf ⟨a, b⟩ ⟨c, d⟩).isSome)]) w) := by
  by_cases ha : a = 2
  · rw [show Px.infoOf ⟨a, b⟩ ⟨c, d⟩ = some b by simp [Px.infoOf, ha]]
    go_enter Try.func72, Try.ntmps72
    go_wp2
    refine wp_loop_rounds 3 ?_
    rw [rounds_succ]
    go_wp2
    refine bodyPost_ret (v := .tuple #[.int .i64 b, .bool (true)]) (by simp [results, Try.results72, go_sem, *]) rfl ⟨rfl, (by repeat (first | exact Below.refl _ _ | assumption | refine Below.grow ?_ (by first | omega | (simp [go_sem]; done) | (simp [go_sem]; omega)) _ | refine Below.alloc ?_ (by first | omega | (simp [go_sem]; done) | (simp [go_sem]; omega)) _ | refine Below.drew ?_ | refine below_drewN ?_ _ | refine Below.setCell ?_ (by first | omega | (simp [go_sem]; done) | (simp [go_sem]; omega)) _))⟩
  · by_cases hc : c = 2
    · rw [show Px.infoOf ⟨a, b⟩ ⟨c, d⟩ = some d by simp [Px.infoOf, ha, hc]]
      go_enter Try.func72, Try.ntmps72
      go_wp2
      refine wp_loop_rounds 3 ?_
      rw [rounds_succ]
      go_wp2
      rw [rounds_succ]
      go_wp2
      refine bodyPost_ret (v := .tuple #[.int .i64 d, .bool (true)]) (by simp [results, Try.results72, go_sem, *]) rfl ⟨rfl, (by repeat (first | exact Below.refl _ _ | assumption | refine Below.grow ?_ (by first | omega | (simp [go_sem]; done) | (simp [go_sem]; omega)) _ | refine Below.alloc ?_ (by first | omega | (simp [go_sem]; done) | (simp [go_sem]; omega)) _ | refine Below.drew ?_ | refine below_drewN ?_ _ | refine Below.setCell ?_ (by first | omega | (simp [go_sem]; done) | (simp [go_sem]; omega)) _))⟩
    · rw [show Px.infoOf ⟨a, b⟩ ⟨c, d⟩ = none by simp [Px.infoOf, ha, hc]]
      go_enter Try.func72, Try.ntmps72
      go_wp2
      refine wp_loop_rounds 3 ?_
      rw [rounds_succ]
      go_wp2
      rw [rounds_succ]
      go_wp2
      rw [rounds_succ]
      go_wp2
      refine bodyPost_ret (v := .tuple #[.int .i64 0, .bool (false)]) (by simp [results, Try.results72, go_sem, *]) rfl ⟨rfl, (by repeat (first | exact Below.refl _ _ | assumption | refine Below.grow ?_ (by first | omega | (simp [go_sem]; done) | (simp [go_sem]; omega)) _ | refine Below.alloc ?_ (by first | omega | (simp [go_sem]; done) | (simp [go_sem]; omega)) _ | refine Below.drew ?_ | refine below_drewN ?_ _ | refine Below.setCell ?_ (by first | omega | (simp [go_sem]; done) | (simp [go_sem]; omega)) _))⟩

set_option maxRecDepth 100000 in
set_option maxHeartbeats 2000000 in
theorem ref07_Other (a b c d k : Int) (w : World) : Calls Try.prog 73 #[.agg #[.int .i64 a, .int .i64 b, .int .i64 c, .int .i64 d], .int .i64 k] w (Ret (.tuple #[.int .i64 ((Px.otherOf ⟨a, b⟩ ⟨c, d⟩ k).getD 0), .bool ((Px.otherOf ⟨a, b⟩ ⟨c, d⟩ k).isSome)]) w) := by
  by_cases ha : a = 1 ∧ b ≠ k
  · rw [show Px.otherOf ⟨a, b⟩ ⟨c, d⟩ k = some b by simp [Px.otherOf, ha]]
    obtain ⟨h1, h2⟩ := ha
    go_enter Try.func73, Try.ntmps73
    go_wp2
    refine wp_loop_rounds 3 ?_
    rw [rounds_succ]
    go_wp2
    refine bodyPost_ret (v := .tuple #[.int .i64 b, .bool (true)]) (by simp [results, Try.results73, go_sem, *]) rfl ⟨rfl, (by repeat (first | exact Below.refl _ _ | assumption | refine Below.grow ?_ (by first | omega | (simp [go_sem]; done) | (simp [go_sem]; omega)) _ | refine Below.alloc ?_ (by first | omega | (simp [go_sem]; done) | (simp [go_sem]; omega)) _ | refine Below.drew ?_ | refine below_drewN ?_ _ | refine Below.setCell ?_ (by first | omega | (simp [go_sem]; done) | (simp [go_sem]; omega)) _))⟩
  · by_cases hc : c = 1 ∧ d ≠ k
    · rw [show Px.otherOf ⟨a, b⟩ ⟨c, d⟩ k = some d by simp only [Px.otherOf, ha, if_false]; simp [hc]]
      obtain ⟨h1, h2⟩ := hc
      by_cases h3 : a = 1
      · have h4 : b = k := by omega
        clear ha
        go_enter Try.func73, Try.ntmps73
        go_wp2
        refine wp_loop_rounds 3 ?_
        rw [rounds_succ]
        go_wp2
        rw [rounds_succ]
        go_wp2
        refine bodyPost_ret (v := .tuple #[.int .i64 d, .bool (true)]) (by simp [results, Try.results73, go_sem, *]) rfl ⟨rfl, (by repeat (first | exact Below.refl _ _ | assumption | refine Below.grow ?_ (by first | omega | (simp [go_sem]; done) | (simp [go_sem]; omega)) _ | refine Below.alloc ?_ (by first | omega | (simp [go_sem]; done) | (simp [go_sem]; omega)) _ | refine Below.drew ?_ | refine below_drewN ?_ _ | refine Below.setCell ?_ (by first | omega | (simp [go_sem]; done) | (simp [go_sem]; omega)) _))⟩
      · clear ha
        go_enter Try.func73, Try.ntmps73
        go_wp2
        refine wp_loop_rounds 3 ?_
        rw [rounds_succ]
        go_wp2
        rw [rounds_succ]
        go_wp2
        refine bodyPost_ret (v := .tuple #[.int .i64 d, .bool (true)]) (by simp [results, Try.results73, go_sem, *]) rfl ⟨rfl, (by repeat (first | exact Below.refl _ _ | assumption | refine Below.grow ?_ (by first | omega | (simp [go_sem]; done) | (simp [go_sem]; omega)) _ | refine Below.alloc ?_ (by first | omega | (simp [go_sem]; done) | (simp [go_sem]; omega)) _ | refine Below.drew ?_ | refine below_drewN ?_ _ | refine Below.setCell ?_ (by first | omega | (simp [go_sem]; done) | (simp [go_sem]; omega)) _))⟩
    · rw [show Px.otherOf ⟨a, b⟩ ⟨c, d⟩ k = none by simp only [Px.otherOf, ha, hc, if_false]]
      have h1 : ¬ a = 1 ∨ (a = 1 ∧ b = k) := by omega
      have h2 : ¬ c = 1 ∨ (c = 1 ∧ d = k) := by omega
      clear ha hc
      rcases h1 with h1 | ⟨h1, h3⟩ <;> rcases h2 with h2 | ⟨h2, h4⟩
      all_goals
        go_enter Try.func73, Try.ntmps73
        go_wp2
        refine wp_loop_rounds 3 ?_
        rw [rounds_succ]
        go_wp2
        rw [rounds_succ]
        go_wp2
        rw [rounds_succ]
        go_wp2
        refine bodyPost_ret (v := .tuple #[.int .i64 0, .bool (false)]) (by simp [results, Try.results73, go_sem, *]) rfl ⟨rfl, (by repeat (first | exact Below.refl _ _ | assumption | refine Below.grow ?_ (by first | omega | (simp [go_sem]; done) | (simp [go_sem]; omega)) _ | refine Below.alloc ?_ (by first | omega | (simp [go_sem]; done) | (simp [go_sem]; omega)) _ | refine Below.drew ?_ | refine below_drewN ?_ _ | refine Below.setCell ?_ (by first | omega | (simp [go_sem]; done) | (simp [go_sem]; omega)) _))⟩

set_option maxRecDepth 100000 in
set_option maxHeartbeats 2000000 in
theorem ref07_Wrong (a b c d k : Int) (w : World) : Calls Try.prog 123 #[.agg #[.int .i64 a, .int .i64 b, .int .i64 c, .int .i64 d], .int .i64 k] w (Ret (.bool (Px.pWrong k ⟨a, b⟩ || Px.pWrong k ⟨c, d⟩)) w) := by
  go_enter Try.func123, Try.ntmps123
  go_wp2
  all_goals (go_ret; exact Ret.mk (vbool (by simp [Px.pWrong] <;> omega)) (by repeat (first | exact Below.refl _ _ | assumption | refine Below.grow ?_ (by first | omega | (simp [go_sem]; done) | (simp [go_sem]; omega)) _ | refine Below.alloc ?_ (by first | omega | (simp [go_sem]; done) | (simp [go_sem]; omega)) _ | refine Below.drew ?_ | refine below_drewN ?_ _ | refine Below.setCell ?_ (by first | omega | (simp [go_sem]; done) | (simp [go_sem]; omega)) _)))

set_option maxRecDepth 100000 in
set_option maxHeartbeats 2000000 in
theorem ref07_Match (a b c d k : Int) (w : World) : Calls Try.prog 124 #[.agg #[.int .i64 a, .int .i64 b, .int .i64 c, .int .i64 d], .int .i64 k] w (Ret (.bool (Px.isMatch k ⟨a, b⟩ || Px.isMatch k ⟨c, d⟩)) w) := by
  go_enter Try.func124, Try.ntmps124
  go_wp2
  all_goals (go_ret; exact Ret.mk (vbool (by simp [Px.isMatch] <;> omega)) (by repeat (first | exact Below.refl _ _ | assumption | refine Below.grow ?_ (by first | omega | (simp [go_sem]; done) | (simp [go_sem]; omega)) _ | refine Below.alloc ?_ (by first | omega | (simp [go_sem]; done) | (simp [go_sem]; omega)) _ | refine Below.drew ?_ | refine below_drewN ?_ _ | refine Below.setCell ?_ (by first | omega | (simp [go_sem]; done) | (simp [go_sem]; omega)) _)))

end Go.Proofs.Ytjecfilbdabheaa
