/- awake of layer 9. -/
import Derived.Test.YtjecfilbdabheaaLaw09
import Derived.Test.YtjecfilbdabheaaEq
namespace Go.Proofs.Ytjecfilbdabheaa
open Go.RowKit
set_option linter.unusedSimpArgs false
set_option linter.unusedVariables false

theorem aw_Step1 (w : World) : Calls Try.prog 36 #[.int .i64 4, .agg #[.int .i64 0, .int .i64 2, .int .i64 0, .int .i64 0], .agg #[.int .i64 1, .int .i64 1, .int .i64 0, .int .i64 0]] w (Ret (.tuple #[.agg #[.int .i64 0, .int .i64 3, .int .i64 0, .int .i64 2], .int .i64 0]) w) :=
  act_Step 4 ⟨0, 2, 0, 0⟩ ⟨1, 1⟩ ⟨0, 0⟩ (by decide) (by decide) w
theorem aw_Step2 (w : World) : Calls Try.prog 36 #[.int .i64 4, .agg #[.int .i64 0, .int .i64 0, .int .i64 0, .int .i64 0], .agg #[.int .i64 0, .int .i64 0, .int .i64 0, .int .i64 0]] w (Ret (.tuple #[.agg #[.int .i64 0, .int .i64 0, .int .i64 0, .int .i64 0], .int .i64 1]) w) :=
  act_Step 4 ⟨0, 0, 0, 0⟩ ⟨0, 0⟩ ⟨0, 0⟩ (by decide) (by decide) w
set_option maxRecDepth 100000 in
set_option maxHeartbeats 2000000 in
theorem awake09 (w : World) : Calls Try.prog 35 #[] w (Ret (.bool (true)) w) := by
  go_enter Try.func35, Try.ntmps35
  go_wp2_with (first | (go_at_call 36; (with_reducible refine ((aw_Step1 _).g).mono ?_); rintro _ _ ⟨rfl, z, rfl⟩) | (go_at_call 36; (with_reducible refine ((aw_Step2 _).g).mono ?_); rintro _ _ ⟨rfl, z, rfl⟩))
  go_ret
  exact Ret.mk rfl (by repeat (first | exact Below.refl _ _ | assumption | refine Below.grow ?_ (by first | omega | (simp [go_sem]; done) | (simp [go_sem]; omega)) _ | refine Below.alloc ?_ (by first | omega | (simp [go_sem]; done) | (simp [go_sem]; omega)) _ | refine Below.drew ?_ | refine below_drewN ?_ _ | refine Below.setCell ?_ (by first | omega | (simp [go_sem]; done) | (simp [go_sem]; omega)) _))

theorem ref06_Right' (n id m c p : Int) (w : World) : Calls Try.prog 37 #[.int .i64 n, .agg #[.int .i64 id, .int .i64 m, .int .i64 c, .int .i64 p]] w (Ret (.bool (Px.nodeRight n ⟨id, m, c, p⟩)) w) := ref06_Right n ⟨id, m, c, p⟩ w
theorem act_Quiet' (n id m c p k : Int) (w : World) :
    Calls Try.prog 39 #[.int .i64 n, .agg #[.int .i64 id, .int .i64 m, .int .i64 c, .int .i64 p], .int .i64 k] w (Ret (.tuple #[.agg #[.int .i64 ((Px.quietOf n ⟨id, m, c, p⟩ k).1).id, .int .i64 ((Px.quietOf n ⟨id, m, c, p⟩ k).1).mode, .int .i64 ((Px.quietOf n ⟨id, m, c, p⟩ k).1).count, .int .i64 ((Px.quietOf n ⟨id, m, c, p⟩ k).1).pos], .int .i64 ((Px.quietOf n ⟨id, m, c, p⟩ k).2)]) w) := act_Quiet n ⟨id, m, c, p⟩ k w
theorem ref09_Quiet' (n id m c p k : Int) (w : World) :
    Calls Try.prog 40 #[.int .i64 n, .agg #[.int .i64 id, .int .i64 m, .int .i64 c, .int .i64 p], .int .i64 k] w (Ret (.tuple #[.agg #[.int .i64 ((Px.quietOf n ⟨id, m, c, p⟩ k).1).id, .int .i64 ((Px.quietOf n ⟨id, m, c, p⟩ k).1).mode, .int .i64 ((Px.quietOf n ⟨id, m, c, p⟩ k).1).count, .int .i64 ((Px.quietOf n ⟨id, m, c, p⟩ k).1).pos], .int .i64 ((Px.quietOf n ⟨id, m, c, p⟩ k).2)]) w) := ref09_Quiet n ⟨id, m, c, p⟩ k w
theorem act_Step' (n id m c p a b d e : Int) (hg : Px.heardOk n ⟨a, b⟩ = true) (hh : Px.heardOk n ⟨d, e⟩ = true) (w : World) :
    Calls Try.prog 36 #[.int .i64 n, .agg #[.int .i64 id, .int .i64 m, .int .i64 c, .int .i64 p], .agg #[.int .i64 a, .int .i64 b, .int .i64 d, .int .i64 e]] w (Ret (.tuple #[.agg #[.int .i64 ((Px.stepped n ⟨id, m, c, p⟩ ⟨a, b⟩ ⟨d, e⟩).1).id, .int .i64 ((Px.stepped n ⟨id, m, c, p⟩ ⟨a, b⟩ ⟨d, e⟩).1).mode, .int .i64 ((Px.stepped n ⟨id, m, c, p⟩ ⟨a, b⟩ ⟨d, e⟩).1).count, .int .i64 ((Px.stepped n ⟨id, m, c, p⟩ ⟨a, b⟩ ⟨d, e⟩).1).pos], .int .i64 ((Px.stepped n ⟨id, m, c, p⟩ ⟨a, b⟩ ⟨d, e⟩).2)]) w) := act_Step n ⟨id, m, c, p⟩ ⟨a, b⟩ ⟨d, e⟩ hg hh w
end Go.Proofs.Ytjecfilbdabheaa
