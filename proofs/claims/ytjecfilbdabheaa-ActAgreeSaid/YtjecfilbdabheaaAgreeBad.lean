/- ActAgree: the walks that only ask the example. -/
import Derived.Test.YtjecfilbdabheaaActRight
namespace Go.Proofs.Ytjecfilbdabheaa
open Go.RowKit
set_option linter.unusedSimpArgs false
set_option linter.unusedVariables false

set_option maxRecDepth 100000 in
set_option maxHeartbeats 2000000 in
theorem ActAgree_bad (n xi xm xc xp yi ym yc yp id r : Int) (hn0 : 0 ≤ n) (hn1 : n ≤ 255) (hr : n.tmod 6 = r) (hr' : n % 6 = r) (hr0 : 0 ≤ r) (hr1 : r ≤ 5)
    (h : Px.nodeRight (3 + r) ⟨xi, xm, xc, xp⟩ = false ∨ (Px.nodeRight (3 + r) ⟨xi, xm, xc, xp⟩ = true ∧ Px.nodeRight (3 + r) ⟨yi, ym, yc, yp⟩ = false) ∨
      (Px.nodeRight (3 + r) ⟨xi, xm, xc, xp⟩ = true ∧ Px.nodeRight (3 + r) ⟨yi, ym, yc, yp⟩ = true ∧ (xm = 0 ∨ (¬ xm = 0 ∧ ym = 0) ∨ (xm = 3 ∧ ¬ ym = 0) ∨ (¬ xm = 0 ∧ ¬ xm = 3 ∧ ym = 3)))) (w : World) :
    Calls Try.prog 6 #[.agg #[.int .u8 n, .int .i64 xi, .int .i64 xm, .int .i64 xc, .int .i64 xp, .int .i64 yi, .int .i64 ym, .int .i64 yc, .int .i64 yp, .int .u8 id]] w (Ret (.bool (true)) w) := by
  rcases h with h1 | ⟨h1, h2⟩ | ⟨h1, h2, h3 | ⟨h3, h4⟩ | ⟨h3, h4⟩ | ⟨h3, h4, h5⟩⟩
  all_goals (try subst h3)
  all_goals (try subst h4)
  all_goals (try subst h5)
  all_goals
    go_enter Try.func6, Try.ntmps6
    go_wp2_with fail
    go_region
    all_goals (go_wp2_with (first | (go_at_call 37; (with_reducible refine ((ref06_Right' (3 + r) _ _ _ _ _).g).mono ?_); rintro _ _ ⟨rfl, z, rfl⟩) | (go_at_call 35; (with_reducible refine ((awake09 _).g).mono ?_); rintro _ _ ⟨rfl, z, rfl⟩)); go_ret; exact Ret.mk rfl (by repeat (first | exact Below.refl _ _ | assumption | refine Below.grow ?_ (by first | omega | (simp [go_sem]; done) | (simp [go_sem]; omega)) _ | refine Below.alloc ?_ (by first | omega | (simp [go_sem]; done) | (simp [go_sem]; omega)) _ | refine Below.drew ?_ | refine below_drewN ?_ _ | refine Below.setCell ?_ (by first | omega | (simp [go_sem]; done) | (simp [go_sem]; omega)) _)))

end Go.Proofs.Ytjecfilbdabheaa
