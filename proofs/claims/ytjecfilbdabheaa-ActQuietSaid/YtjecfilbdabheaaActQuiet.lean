/- ActQuiet: the walk. -/
import Derived.Test.YtjecfilbdabheaaActRight
namespace Go.Proofs.Ytjecfilbdabheaa
open Go.RowKit
set_option linter.unusedSimpArgs false
set_option linter.unusedVariables false

set_option maxRecDepth 100000 in
set_option maxHeartbeats 2000000 in
theorem ActQuiet_more (n id ps ct r i p c ym yc yp : Int) (hn0 : 0 ≤ n) (hn1 : n ≤ 255) (hr : n.tmod 6 = r) (hr' : n % 6 = r) (hr0 : 0 ≤ r) (hr1 : r ≤ 5)
    (hd0 : 0 ≤ id) (hd1 : id ≤ 255) (hi : id.tmod (3 + r) = i) (hp0 : 0 ≤ ps) (hp1 : ps ≤ 255) (hp : ps.tmod (3 + r) = p) (hc0 : 0 ≤ ct) (hc1 : ct ≤ 65535) (hc : ct.tmod (8 * (3 + r)) = c) (hcl : 0 ≤ c) (hcm : c < 8 * (3 + r))
    (sY : ∀ W, Calls Try.prog 39 #[.int .i64 (3 + r), .agg #[.int .i64 i, .int .i64 3, .int .i64 c, .int .i64 p], .int .i64 (3 + r)] W (Ret (.tuple #[.agg #[.int .i64 i, .int .i64 ym, .int .i64 yc, .int .i64 yp], .int .i64 0]) W))
    (sZ : ∀ W, Calls Try.prog 39 #[.int .i64 (3 + r), .agg #[.int .i64 i, .int .i64 3, .int .i64 c, .int .i64 p], .int .i64 (8 * (3 + r) - c)] W (Ret (.tuple #[.agg #[.int .i64 i, .int .i64 1, .int .i64 0, .int .i64 0], .int .i64 0]) W))
    (h : (8 * (3 + r) ≤ c + (3 + r) ∧ ¬ ym = 3) ∨ (¬ 8 * (3 + r) ≤ c + (3 + r) ∧ ym = 3 ∧ yc = c + (3 + r) ∧ yp = p)) (w : World) :
    Calls Try.prog 8 #[.agg #[.int .u8 n, .int .u8 id, .int .u8 ps, .int .u16 ct]] w (Ret (.bool (true)) w) := by
  rcases h with ⟨h1, h2⟩ | ⟨h1, rfl, rfl, rfl⟩
  all_goals
    go_enter Try.func8, Try.ntmps8
    go_wp2_with fail
    go_region
    all_goals (go_wp2_with (first | (go_at_call 39; (with_reducible refine ((sY _).g).mono ?_); rintro _ _ ⟨rfl, z, rfl⟩) | (go_at_call 39; (with_reducible refine ((sZ _).g).mono ?_); rintro _ _ ⟨rfl, z, rfl⟩) | (go_at_call 35; (with_reducible refine ((awake09 _).g).mono ?_); rintro _ _ ⟨rfl, z, rfl⟩)); go_ret; refine Ret.mk ?_ (by repeat (first | exact Below.refl _ _ | assumption | refine Below.grow ?_ (by first | omega | (simp [go_sem]; done) | (simp [go_sem]; omega)) _ | refine Below.alloc ?_ (by first | omega | (simp [go_sem]; done) | (simp [go_sem]; omega)) _ | refine Below.drew ?_ | refine below_drewN ?_ _ | refine Below.setCell ?_ (by first | omega | (simp [go_sem]; done) | (simp [go_sem]; omega)) _)); first | rfl | (simp; omega))
end Go.Proofs.Ytjecfilbdabheaa
