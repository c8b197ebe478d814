/- ref09: what becomes of a node, by the document. -/
import Derived.Test.YtjecfilbdabheaaRef09b
import Derived.Test.YtjecfilbdabheaaStep2
namespace Go.Proofs.Ytjecfilbdabheaa
open Go.RowKit
set_option linter.unusedSimpArgs false
set_option linter.unusedVariables false

theorem ref03_Watch' (n : Int) (h3 : 3 ≤ n) (h8 : n ≤ 8) (w : World) : Calls Try.prog 125 #[.int .i64 n] w (Same (.int .i64 (8 * n)) w) := by
  have h := ref03_Watch n w
  rwa [show Px.time 8 n = 8 * n by simp [Px.time, Px.right_iff.2 ⟨h3, h8⟩]] at h
namespace Px
theorem countOf_iff {id m c p : Int} {g h : Frame} : countOf ⟨id, m, c, p⟩ g h = if (isMatch p g || isMatch p h) = true then 0 else up c := by simp [countOf, isMatch]
end Px
set_option maxRecDepth 100000 in
set_option maxHeartbeats 2000000 in
theorem ref09_active (n id c p a b d e : Int) (h3 : 3 ≤ n) (h8 : n ≤ 8) (hp : 0 ≤ p ∧ p < n) (hc0 : 0 ≤ c) (hc1 : c ≤ 1073741824) (w : World) :
    Calls Try.prog 70 #[.int .i64 n, .agg #[.int .i64 id, .int .i64 3, .int .i64 c, .int .i64 p], .agg #[.int .i64 a, .int .i64 b, .int .i64 d, .int .i64 e]] w (Ret (.agg #[.int .i64 (Px.activeTo n ⟨id, 3, c, p⟩ ⟨a, b⟩ ⟨d, e⟩).id, .int .i64 (Px.activeTo n ⟨id, 3, c, p⟩ ⟨a, b⟩ ⟨d, e⟩).mode, .int .i64 (Px.activeTo n ⟨id, 3, c, p⟩ ⟨a, b⟩ ⟨d, e⟩).count, .int .i64 (Px.activeTo n ⟨id, 3, c, p⟩ ⟨a, b⟩ ⟨d, e⟩).pos]) w) := by
  have hu := Px.up_range hc0 hc1
  go_enter Try.func70, Try.ntmps70
  go_wp2_with (first
    | (go_at_call 73; (with_reducible refine ((ref07_Other a b d e id _).g).mono ?_); rintro _ _ ⟨rfl, z, rfl⟩)
    | (go_at_call 123; (with_reducible refine ((ref07_Wrong a b d e p _).g).mono ?_); rintro _ _ ⟨rfl, z, rfl⟩)
    | (go_at_call 124; (with_reducible refine ((ref07_Match a b d e p _).g).mono ?_); rintro _ _ ⟨rfl, z, rfl⟩)
    | (go_at_call 74; (with_reducible refine ((ref09_to _ _ _ _ _ _ _).g).mono ?_); rintro _ _ ⟨rfl, z, rfl⟩)
    | (go_at_call 76; (with_reducible refine ((ref09_up _ _ _ _ hc0 hc1 _).g).mono ?_); rintro _ _ ⟨rfl, z, rfl⟩)
    | (go_at_call 75; (with_reducible refine ((ref05_Next n p h3 h8 hp.1 hp.2 _).s).mono ?_); rintro _ _ ⟨rfl, z, rfl⟩)
    | (refine wp_region_calm (by kernel_rfl) (by kernel_rfl) ?_; (repeat (first | go_big_quiet_step ((first | fail | (go_at_call 125; exact growSame (ref03_Watch' n h3 h8 _)))) | quiet_step ((first | fail | (go_at_call 125; exact growSame (ref03_Watch' n h3 h8 _)))))); refine wpQuiet_nil ?_; rintro _ ⟨z, rfl⟩))
  all_goals (refine bodyPost_ret (v := .agg #[.int .i64 (Px.activeTo n ⟨id, 3, c, p⟩ ⟨a, b⟩ ⟨d, e⟩).id, .int .i64 (Px.activeTo n ⟨id, 3, c, p⟩ ⟨a, b⟩ ⟨d, e⟩).mode, .int .i64 (Px.activeTo n ⟨id, 3, c, p⟩ ⟨a, b⟩ ⟨d, e⟩).count, .int .i64 (Px.activeTo n ⟨id, 3, c, p⟩ ⟨a, b⟩ ⟨d, e⟩).pos]) (by simp_all [results, Try.results70, go_sem, Px.activeTo, Px.countOf_iff] <;> (repeat' apply And.intro) <;> split <;> first | rfl | (exfalso; omega)) rfl ⟨rfl, (by repeat (first | exact Below.refl _ _ | assumption | refine Below.grow ?_ (by first | omega | (simp [go_sem]; done) | (simp [go_sem]; omega)) _ | refine Below.alloc ?_ (by first | omega | (simp [go_sem]; done) | (simp [go_sem]; omega)) _ | refine Below.drew ?_ | refine below_drewN ?_ _ | refine Below.setCell ?_ (by first | omega | (simp [go_sem]; done) | (simp [go_sem]; omega)) _))⟩)

set_option maxRecDepth 100000 in
set_option maxHeartbeats 2000000 in
theorem ref09_Step (n id m c p a b d e : Int) (hg : Px.heardOk n ⟨a, b⟩ = true) (hh : Px.heardOk n ⟨d, e⟩ = true) (w : World) :
    Calls Try.prog 38 #[.int .i64 n, .agg #[.int .i64 id, .int .i64 m, .int .i64 c, .int .i64 p], .agg #[.int .i64 a, .int .i64 b, .int .i64 d, .int .i64 e]] w (Ret (.tuple #[.agg #[.int .i64 ((Px.stepped n ⟨id, m, c, p⟩ ⟨a, b⟩ ⟨d, e⟩).1).id, .int .i64 ((Px.stepped n ⟨id, m, c, p⟩ ⟨a, b⟩ ⟨d, e⟩).1).mode, .int .i64 ((Px.stepped n ⟨id, m, c, p⟩ ⟨a, b⟩ ⟨d, e⟩).1).count, .int .i64 ((Px.stepped n ⟨id, m, c, p⟩ ⟨a, b⟩ ⟨d, e⟩).1).pos], .int .i64 ((Px.stepped n ⟨id, m, c, p⟩ ⟨a, b⟩ ⟨d, e⟩).2)]) w) := by
  cases hR : Px.nodeRight n ⟨id, m, c, p⟩ with
  | false =>
    rw [Px.stepped_bad hR]
    go_enter Try.func38, Try.ntmps38
    go_wp2_with (first | (go_at_call 37; (with_reducible refine ((ref06_Right n ⟨id, m, c, p⟩ _).g).mono ?_); rintro _ _ ⟨rfl, z, rfl⟩))
    refine bodyPost_ret (v := .tuple #[.agg #[.int .i64 0, .int .i64 0, .int .i64 0, .int .i64 0], .int .i64 1]) (by simp [results, Try.results38, go_sem, *]) rfl ⟨rfl, (by repeat (first | exact Below.refl _ _ | assumption | refine Below.grow ?_ (by first | omega | (simp [go_sem]; done) | (simp [go_sem]; omega)) _ | refine Below.alloc ?_ (by first | omega | (simp [go_sem]; done) | (simp [go_sem]; omega)) _ | refine Below.drew ?_ | refine below_drewN ?_ _ | refine Below.setCell ?_ (by first | omega | (simp [go_sem]; done) | (simp [go_sem]; omega)) _))⟩
  | true =>
    have h13 : m = 1 ∨ m = 2 → p = 0 := fun h => by have := Px.nodeRight_iff.1 hR; simp only at this; omega
    obtain ⟨h3, h8, h0, h1, h4, h5, h6, h7, h10, h11⟩ := Px.nodeRight_rng hR
    have hm : m = 0 ∨ m = 3 ∨ m = 1 ∨ m = 2 := by omega
    rcases hm with rfl | rfl | hm
    · rw [Px.stepped_init rfl]
      clear h13
      go_enter Try.func38, Try.ntmps38
      go_wp2_with (first | (go_at_call 37; (with_reducible refine ((ref06_Right n ⟨id, 0, c, p⟩ _).g).mono ?_); rintro _ _ ⟨rfl, z, rfl⟩))
      refine bodyPost_ret (v := .tuple #[.agg #[.int .i64 0, .int .i64 0, .int .i64 0, .int .i64 0], .int .i64 1]) (by simp [results, Try.results38, go_sem, *]) rfl ⟨rfl, (by repeat (first | exact Below.refl _ _ | assumption | refine Below.grow ?_ (by first | omega | (simp [go_sem]; done) | (simp [go_sem]; omega)) _ | refine Below.alloc ?_ (by first | omega | (simp [go_sem]; done) | (simp [go_sem]; omega)) _ | refine Below.drew ?_ | refine below_drewN ?_ _ | refine Below.setCell ?_ (by first | omega | (simp [go_sem]; done) | (simp [go_sem]; omega)) _))⟩
    · rw [Px.stepped_ok hR (by simp), Px.step_active]
      clear h13
      go_enter Try.func38, Try.ntmps38
      go_wp2_with (first | (go_at_call 37; (with_reducible refine ((ref06_Right n ⟨id, 3, c, p⟩ _).g).mono ?_); rintro _ _ ⟨rfl, z, rfl⟩) | (go_at_call 70; (with_reducible refine ((ref09_active n id c p a b d e h3 h8 ⟨h10, h11⟩ h6 h7 _).g).mono ?_); rintro _ _ ⟨rfl, z, rfl⟩))
      refine bodyPost_ret (v := .tuple #[.agg #[.int .i64 (Px.activeTo n ⟨id, 3, c, p⟩ ⟨a, b⟩ ⟨d, e⟩).id, .int .i64 (Px.activeTo n ⟨id, 3, c, p⟩ ⟨a, b⟩ ⟨d, e⟩).mode, .int .i64 (Px.activeTo n ⟨id, 3, c, p⟩ ⟨a, b⟩ ⟨d, e⟩).count, .int .i64 (Px.activeTo n ⟨id, 3, c, p⟩ ⟨a, b⟩ ⟨d, e⟩).pos], .int .i64 0]) (by simp [results, Try.results38, go_sem, *]) rfl ⟨rfl, (by repeat (first | exact Below.refl _ _ | assumption | refine Below.grow ?_ (by first | omega | (simp [go_sem]; done) | (simp [go_sem]; omega)) _ | refine Below.alloc ?_ (by first | omega | (simp [go_sem]; done) | (simp [go_sem]; omega)) _ | refine Below.drew ?_ | refine below_drewN ?_ _ | refine Below.setCell ?_ (by first | omega | (simp [go_sem]; done) | (simp [go_sem]; omega)) _))⟩
    · rw [Px.stepped_ok hR (by simp; omega)]
      obtain rfl : p = 0 := h13 hm
      clear h13
      cases hi : Px.infoOf ⟨a, b⟩ ⟨d, e⟩ with
      | some i =>
        have hr := Px.infoOf_range hg hh hi
        rcases hm with rfl | rfl
        · rw [show Px.step n ⟨id, 1, c, 0⟩ ⟨a, b⟩ ⟨d, e⟩ = ⟨id, 3, 0, Px.next n i⟩ by simp [Px.step, hi]]
          go_enter Try.func38, Try.ntmps38
          go_wp2_with (first | (go_at_call 37; (with_reducible refine ((ref06_Right n ⟨id, _, c, 0⟩ _).g).mono ?_); rintro _ _ ⟨rfl, z, rfl⟩) | (go_at_call 71; (with_reducible refine ((ref08_Of n id _ c 0 hR _).g).mono ?_); rintro _ _ ⟨rfl, z, rfl⟩) | (go_at_call 72; (with_reducible refine ((ref07_Info a b d e _).g).mono ?_); rintro _ _ ⟨rfl, z, rfl⟩) | (go_at_call 73; (with_reducible refine ((ref07_Other a b d e id _).g).mono ?_); rintro _ _ ⟨rfl, z, rfl⟩) | (refine wp_region_calm_tail 5 (by kernel_rfl) (by kernel_rfl) ?_; simp only [List.take_succ_cons, List.take_zero, List.drop_succ_cons, List.drop_zero]; (repeat (first | go_big_quiet_step ((first | fail | (go_at_call 75; exact growSame (ref05_Next n i h3 h8 hr.1 hr.2 _)) | (go_at_call 74; exact growS (ref09_to _ _ _ _ _ _ _)))) | quiet_step ((first | fail | (go_at_call 75; exact growSame (ref05_Next n i h3 h8 hr.1 hr.2 _)) | (go_at_call 74; exact growS (ref09_to _ _ _ _ _ _ _)))))); refine wpQuiet_nil ?_; rintro _ ⟨z, rfl⟩))
          refine bodyPost_ret (v := .tuple #[.agg #[.int .i64 id, .int .i64 3, .int .i64 0, .int .i64 (Px.next n i)], .int .i64 0]) (by simp [results, Try.results38, go_sem, *]) rfl ⟨rfl, (by repeat (first | exact Below.refl _ _ | assumption | refine Below.grow ?_ (by first | omega | (simp [go_sem]; done) | (simp [go_sem]; omega)) _ | refine Below.alloc ?_ (by first | omega | (simp [go_sem]; done) | (simp [go_sem]; omega)) _ | refine Below.drew ?_ | refine below_drewN ?_ _ | refine Below.setCell ?_ (by first | omega | (simp [go_sem]; done) | (simp [go_sem]; omega)) _))⟩
        · rw [show Px.step n ⟨id, 2, c, 0⟩ ⟨a, b⟩ ⟨d, e⟩ = ⟨id, 3, 0, Px.next n i⟩ by simp [Px.step, hi]]
          go_enter Try.func38, Try.ntmps38
          go_wp2_with (first | (go_at_call 37; (with_reducible refine ((ref06_Right n ⟨id, _, c, 0⟩ _).g).mono ?_); rintro _ _ ⟨rfl, z, rfl⟩) | (go_at_call 71; (with_reducible refine ((ref08_Of n id _ c 0 hR _).g).mono ?_); rintro _ _ ⟨rfl, z, rfl⟩) | (go_at_call 72; (with_reducible refine ((ref07_Info a b d e _).g).mono ?_); rintro _ _ ⟨rfl, z, rfl⟩) | (go_at_call 73; (with_reducible refine ((ref07_Other a b d e id _).g).mono ?_); rintro _ _ ⟨rfl, z, rfl⟩) | (refine wp_region_calm_tail 5 (by kernel_rfl) (by kernel_rfl) ?_; simp only [List.take_succ_cons, List.take_zero, List.drop_succ_cons, List.drop_zero]; (repeat (first | go_big_quiet_step ((first | fail | (go_at_call 75; exact growSame (ref05_Next n i h3 h8 hr.1 hr.2 _)) | (go_at_call 74; exact growS (ref09_to _ _ _ _ _ _ _)))) | quiet_step ((first | fail | (go_at_call 75; exact growSame (ref05_Next n i h3 h8 hr.1 hr.2 _)) | (go_at_call 74; exact growS (ref09_to _ _ _ _ _ _ _)))))); refine wpQuiet_nil ?_; rintro _ ⟨z, rfl⟩))
          refine bodyPost_ret (v := .tuple #[.agg #[.int .i64 id, .int .i64 3, .int .i64 0, .int .i64 (Px.next n i)], .int .i64 0]) (by simp [results, Try.results38, go_sem, *]) rfl ⟨rfl, (by repeat (first | exact Below.refl _ _ | assumption | refine Below.grow ?_ (by first | omega | (simp [go_sem]; done) | (simp [go_sem]; omega)) _ | refine Below.alloc ?_ (by first | omega | (simp [go_sem]; done) | (simp [go_sem]; omega)) _ | refine Below.drew ?_ | refine below_drewN ?_ _ | refine Below.setCell ?_ (by first | omega | (simp [go_sem]; done) | (simp [go_sem]; omega)) _))⟩
      | none =>
        cases ho : Px.otherOf ⟨a, b⟩ ⟨d, e⟩ id with
        | some i =>
          have hr := Px.otherOf_range hg hh ho
          rcases hm with rfl | rfl
          · rw [show Px.step n ⟨id, 1, c, 0⟩ ⟨a, b⟩ ⟨d, e⟩ = ⟨id, 2, 0, 0⟩ by simp [Px.step, hi, ho]]
            go_enter Try.func38, Try.ntmps38
            go_wp2_with (first | (go_at_call 37; (with_reducible refine ((ref06_Right n ⟨id, _, c, 0⟩ _).g).mono ?_); rintro _ _ ⟨rfl, z, rfl⟩) | (go_at_call 71; (with_reducible refine ((ref08_Of n id _ c 0 hR _).g).mono ?_); rintro _ _ ⟨rfl, z, rfl⟩) | (go_at_call 72; (with_reducible refine ((ref07_Info a b d e _).g).mono ?_); rintro _ _ ⟨rfl, z, rfl⟩) | (go_at_call 73; (with_reducible refine ((ref07_Other a b d e id _).g).mono ?_); rintro _ _ ⟨rfl, z, rfl⟩) | (go_at_call 74; (with_reducible refine ((ref09_to _ _ _ _ _ _ _).g).mono ?_); rintro _ _ ⟨rfl, z, rfl⟩))
            all_goals (refine bodyPost_ret (v := .tuple #[.agg #[.int .i64 id, .int .i64 2, .int .i64 0, .int .i64 0], .int .i64 0]) (by simp [results, Try.results38, go_sem, *]) rfl ⟨rfl, (by repeat (first | exact Below.refl _ _ | assumption | refine Below.grow ?_ (by first | omega | (simp [go_sem]; done) | (simp [go_sem]; omega)) _ | refine Below.alloc ?_ (by first | omega | (simp [go_sem]; done) | (simp [go_sem]; omega)) _ | refine Below.drew ?_ | refine below_drewN ?_ _ | refine Below.setCell ?_ (by first | omega | (simp [go_sem]; done) | (simp [go_sem]; omega)) _))⟩)
          · rw [show Px.step n ⟨id, 2, c, 0⟩ ⟨a, b⟩ ⟨d, e⟩ = ⟨id, 3, 0, Px.next n i⟩ by simp [Px.step, hi, ho]]
            go_enter Try.func38, Try.ntmps38
            go_wp2_with (first | (go_at_call 37; (with_reducible refine ((ref06_Right n ⟨id, _, c, 0⟩ _).g).mono ?_); rintro _ _ ⟨rfl, z, rfl⟩) | (go_at_call 71; (with_reducible refine ((ref08_Of n id _ c 0 hR _).g).mono ?_); rintro _ _ ⟨rfl, z, rfl⟩) | (go_at_call 72; (with_reducible refine ((ref07_Info a b d e _).g).mono ?_); rintro _ _ ⟨rfl, z, rfl⟩) | (go_at_call 73; (with_reducible refine ((ref07_Other a b d e id _).g).mono ?_); rintro _ _ ⟨rfl, z, rfl⟩) | (refine wp_region_calm_tail 5 (by kernel_rfl) (by kernel_rfl) ?_; simp only [List.take_succ_cons, List.take_zero, List.drop_succ_cons, List.drop_zero]; (repeat (first | go_big_quiet_step ((first | fail | (go_at_call 75; exact growSame (ref05_Next n i h3 h8 hr.1 hr.2 _)) | (go_at_call 74; exact growS (ref09_to _ _ _ _ _ _ _)))) | quiet_step ((first | fail | (go_at_call 75; exact growSame (ref05_Next n i h3 h8 hr.1 hr.2 _)) | (go_at_call 74; exact growS (ref09_to _ _ _ _ _ _ _)))))); refine wpQuiet_nil ?_; rintro _ ⟨z, rfl⟩))
            refine bodyPost_ret (v := .tuple #[.agg #[.int .i64 id, .int .i64 3, .int .i64 0, .int .i64 (Px.next n i)], .int .i64 0]) (by simp [results, Try.results38, go_sem, *]) rfl ⟨rfl, (by repeat (first | exact Below.refl _ _ | assumption | refine Below.grow ?_ (by first | omega | (simp [go_sem]; done) | (simp [go_sem]; omega)) _ | refine Below.alloc ?_ (by first | omega | (simp [go_sem]; done) | (simp [go_sem]; omega)) _ | refine Below.drew ?_ | refine below_drewN ?_ _ | refine Below.setCell ?_ (by first | omega | (simp [go_sem]; done) | (simp [go_sem]; omega)) _))⟩
        | none =>
          by_cases hs : (Px.say n ⟨id, m, c, 0⟩).kind = 1
          · rw [show Px.step n ⟨id, m, c, 0⟩ ⟨a, b⟩ ⟨d, e⟩ = ⟨id, 2, 0, 0⟩ by simp [Px.step, hi, ho, hs]; omega]
            rcases hm with rfl | rfl
            all_goals
              go_enter Try.func38, Try.ntmps38
              go_wp2_with (first | (go_at_call 37; (with_reducible refine ((ref06_Right n ⟨id, _, c, 0⟩ _).g).mono ?_); rintro _ _ ⟨rfl, z, rfl⟩) | (go_at_call 71; (with_reducible refine ((ref08_Of n id _ c 0 hR _).g).mono ?_); rintro _ _ ⟨rfl, z, rfl⟩) | (go_at_call 72; (with_reducible refine ((ref07_Info a b d e _).g).mono ?_); rintro _ _ ⟨rfl, z, rfl⟩) | (go_at_call 73; (with_reducible refine ((ref07_Other a b d e id _).g).mono ?_); rintro _ _ ⟨rfl, z, rfl⟩) | (go_at_call 74; (with_reducible refine ((ref09_to _ _ _ _ _ _ _).g).mono ?_); rintro _ _ ⟨rfl, z, rfl⟩))
              all_goals (refine bodyPost_ret (v := .tuple #[.agg #[.int .i64 id, .int .i64 2, .int .i64 0, .int .i64 0], .int .i64 0]) (by simp [results, Try.results38, go_sem, *]) rfl ⟨rfl, (by repeat (first | exact Below.refl _ _ | assumption | refine Below.grow ?_ (by first | omega | (simp [go_sem]; done) | (simp [go_sem]; omega)) _ | refine Below.alloc ?_ (by first | omega | (simp [go_sem]; done) | (simp [go_sem]; omega)) _ | refine Below.drew ?_ | refine below_drewN ?_ _ | refine Below.setCell ?_ (by first | omega | (simp [go_sem]; done) | (simp [go_sem]; omega)) _))⟩)
          · rw [show Px.step n ⟨id, m, c, 0⟩ ⟨a, b⟩ ⟨d, e⟩ = ⟨id, m, Px.up c, 0⟩ by simp [Px.step, hi, ho, hs]; omega]
            rcases hm with rfl | rfl
            all_goals
              go_enter Try.func38, Try.ntmps38
              go_wp2_with (first | (go_at_call 37; (with_reducible refine ((ref06_Right n ⟨id, _, c, 0⟩ _).g).mono ?_); rintro _ _ ⟨rfl, z, rfl⟩) | (go_at_call 71; (with_reducible refine ((ref08_Of n id _ c 0 hR _).g).mono ?_); rintro _ _ ⟨rfl, z, rfl⟩) | (go_at_call 72; (with_reducible refine ((ref07_Info a b d e _).g).mono ?_); rintro _ _ ⟨rfl, z, rfl⟩) | (go_at_call 73; (with_reducible refine ((ref07_Other a b d e id _).g).mono ?_); rintro _ _ ⟨rfl, z, rfl⟩) | (go_at_call 76; (with_reducible refine ((ref09_up _ _ _ _ h6 h7 _).g).mono ?_); rintro _ _ ⟨rfl, z, rfl⟩))
              all_goals (first | (refine bodyPost_ret (v := .tuple #[.agg #[.int .i64 id, .int .i64 1, .int .i64 (Px.up c), .int .i64 0], .int .i64 0]) (by simp [results, Try.results38, go_sem, *]) rfl ⟨rfl, (by repeat (first | exact Below.refl _ _ | assumption | refine Below.grow ?_ (by first | omega | (simp [go_sem]; done) | (simp [go_sem]; omega)) _ | refine Below.alloc ?_ (by first | omega | (simp [go_sem]; done) | (simp [go_sem]; omega)) _ | refine Below.drew ?_ | refine below_drewN ?_ _ | refine Below.setCell ?_ (by first | omega | (simp [go_sem]; done) | (simp [go_sem]; omega)) _))⟩) | (refine bodyPost_ret (v := .tuple #[.agg #[.int .i64 id, .int .i64 2, .int .i64 (Px.up c), .int .i64 0], .int .i64 0]) (by simp [results, Try.results38, go_sem, *]) rfl ⟨rfl, (by repeat (first | exact Below.refl _ _ | assumption | refine Below.grow ?_ (by first | omega | (simp [go_sem]; done) | (simp [go_sem]; omega)) _ | refine Below.alloc ?_ (by first | omega | (simp [go_sem]; done) | (simp [go_sem]; omega)) _ | refine Below.drew ?_ | refine below_drewN ?_ _ | refine Below.setCell ?_ (by first | omega | (simp [go_sem]; done) | (simp [go_sem]; omega)) _))⟩))
end Go.Proofs.Ytjecfilbdabheaa
