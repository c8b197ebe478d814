/- the laws of layer 9: the walks. -/
import Derived.Test.YtjecfilbdabheaaAct0
namespace Go.Proofs.Ytjecfilbdabheaa
open Go.RowKit
set_option linter.unusedSimpArgs false
set_option linter.unusedVariables false

set_option maxRecDepth 100000 in
set_option maxHeartbeats 2000000 in
theorem ActTells_bad (n id m c p a b d e t : Int) (h : (Px.heardOk n ⟨a, b⟩ && Px.heardOk n ⟨d, e⟩) = false) (w : World) :
    Calls Try.prog 7 #[.agg #[.int .i64 n, .int .i64 id, .int .i64 m, .int .i64 c, .int .i64 p, .int .i64 a, .int .i64 b, .int .i64 d, .int .i64 e, .int .i64 t]] w (Ret (.bool (true)) w) := by
  go_enter Try.func7, Try.ntmps7
  go_wp2_with fail
  go_region
  all_goals (go_wp2_with (first | (go_at_call 34; (with_reducible refine ((ref09_Heard n a b d e _).g).mono ?_); rintro _ _ ⟨rfl, z, rfl⟩) | (go_at_call 35; (with_reducible refine ((awake09 _).g).mono ?_); rintro _ _ ⟨rfl, z, rfl⟩)); go_ret; exact Ret.mk rfl (by repeat (first | exact Below.refl _ _ | assumption | refine Below.grow ?_ (by first | omega | (simp [go_sem]; done) | (simp [go_sem]; omega)) _ | refine Below.alloc ?_ (by first | omega | (simp [go_sem]; done) | (simp [go_sem]; omega)) _ | refine Below.drew ?_ | refine below_drewN ?_ _ | refine Below.setCell ?_ (by first | omega | (simp [go_sem]; done) | (simp [go_sem]; omega)) _)))
set_option maxRecDepth 100000 in
set_option maxHeartbeats 2000000 in
theorem ActTells_ok (n id m c p a b d e t : Int) (hg : Px.heardOk n ⟨a, b⟩ = true) (hh : Px.heardOk n ⟨d, e⟩ = true) (w : World) :
    Calls Try.prog 7 #[.agg #[.int .i64 n, .int .i64 id, .int .i64 m, .int .i64 c, .int .i64 p, .int .i64 a, .int .i64 b, .int .i64 d, .int .i64 e, .int .i64 t]] w (Ret (.bool (true)) w) := by
  go_enter Try.func7, Try.ntmps7
  go_wp2_with fail
  go_region
  all_goals (go_wp2_with (first | (go_at_call 34; (with_reducible refine ((ref09_Heard n a b d e _).g).mono ?_); rintro _ _ ⟨rfl, z, rfl⟩) | (go_at_call 35; (with_reducible refine ((awake09 _).g).mono ?_); rintro _ _ ⟨rfl, z, rfl⟩) | (go_at_call 36; (with_reducible refine ((act_Step' n id m c p a b d e hg hh _).g).mono ?_); rintro _ _ ⟨rfl, z, rfl⟩) | (go_at_call 38; (with_reducible refine ((ref09_Step n id m c p a b d e hg hh _).g).mono ?_); rintro _ _ ⟨rfl, z, rfl⟩) | (go_at_call 39; (with_reducible refine ((act_Quiet' n id m c p t _).g).mono ?_); rintro _ _ ⟨rfl, z, rfl⟩) | (go_at_call 40; (with_reducible refine ((ref09_Quiet' n id m c p t _).g).mono ?_); rintro _ _ ⟨rfl, z, rfl⟩)); go_ret; exact Ret.mk rfl (by repeat (first | exact Below.refl _ _ | assumption | refine Below.grow ?_ (by first | omega | (simp [go_sem]; done) | (simp [go_sem]; omega)) _ | refine Below.alloc ?_ (by first | omega | (simp [go_sem]; done) | (simp [go_sem]; omega)) _ | refine Below.drew ?_ | refine below_drewN ?_ _ | refine Below.setCell ?_ (by first | omega | (simp [go_sem]; done) | (simp [go_sem]; omega)) _)))
end Go.Proofs.Ytjecfilbdabheaa
