/- ActAgree: the walks, case 21. -/
import Derived.Test.YtjecfilbdabheaaActRight
namespace Go.Proofs.Ytjecfilbdabheaa
open Go.RowKit
set_option linter.unusedSimpArgs false
set_option linter.unusedVariables false

set_option maxRecDepth 100000 in
set_option maxHeartbeats 2000000 in
theorem agree_21 (n k xi yi xc xp yc yp id r q : Int) (hn0 : 0 ≤ n) (hn1 : n ≤ 255) (hr : n.tmod 6 = r) (hr' : n % 6 = r) (hr0 : 0 ≤ r) (hr1 : r ≤ 5)
    (hi0 : 0 ≤ id) (hi1 : id ≤ 255) (hk : id.tmod (3 + r) = k)
    (hX : Px.nodeRight (3 + r) ⟨xi, 2, xc, xp⟩ = true) (hY : Px.nodeRight (3 + r) ⟨yi, 1, yc, yp⟩ = true)
    (sX : ∀ W, Calls Try.prog 36 #[.int .i64 (3 + r), .agg #[.int .i64 xi, .int .i64 2, .int .i64 xc, .int .i64 xp], .agg #[.int .i64 2, .int .i64 k, .int .i64 0, .int .i64 0]] W (Ret (.tuple #[.agg #[.int .i64 xi, .int .i64 3, .int .i64 0, .int .i64 q], .int .i64 0]) W))
    (sY : ∀ W, Calls Try.prog 36 #[.int .i64 (3 + r), .agg #[.int .i64 yi, .int .i64 1, .int .i64 yc, .int .i64 yp], .agg #[.int .i64 2, .int .i64 k, .int .i64 0, .int .i64 0]] W (Ret (.tuple #[.agg #[.int .i64 yi, .int .i64 3, .int .i64 0, .int .i64 q], .int .i64 0]) W)) (w : World) :
    Calls Try.prog 6 #[.agg #[.int .u8 n, .int .i64 xi, .int .i64 2, .int .i64 xc, .int .i64 xp, .int .i64 yi, .int .i64 1, .int .i64 yc, .int .i64 yp, .int .u8 id]] w (Ret (.bool (true)) w) := by
  go_enter Try.func6, Try.ntmps6
  go_wp2_with fail
  go_region
  all_goals (go_wp2_with (first | (go_at_call 37; (with_reducible refine ((ref06_Right' (3 + r) _ _ _ _ _).g).mono ?_); rintro _ _ ⟨rfl, z, rfl⟩) | (go_at_call 35; (with_reducible refine ((awake09 _).g).mono ?_); rintro _ _ ⟨rfl, z, rfl⟩) | (go_at_call 36; (with_reducible refine ((sX _).g).mono ?_); rintro _ _ ⟨rfl, z, rfl⟩) | (go_at_call 36; (with_reducible refine ((sY _).g).mono ?_); rintro _ _ ⟨rfl, z, rfl⟩))) <;> (go_ret; exact Ret.mk rfl (by repeat (first | exact Below.refl _ _ | assumption | refine Below.grow ?_ (by first | omega | (simp [go_sem]; done) | (simp [go_sem]; omega)) _ | refine Below.alloc ?_ (by first | omega | (simp [go_sem]; done) | (simp [go_sem]; omega)) _ | refine Below.drew ?_ | refine below_drewN ?_ _ | refine Below.setCell ?_ (by first | omega | (simp [go_sem]; done) | (simp [go_sem]; omega)) _)))

end Go.Proofs.Ytjecfilbdabheaa
